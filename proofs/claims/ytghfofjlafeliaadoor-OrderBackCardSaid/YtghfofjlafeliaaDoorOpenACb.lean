-- Cut by a program of this session (wip/shake.py) out of a text of this seat: what this claim doesn't reach is struck out. Lean checks it.
import Derived.Test.YtghfofjlafeliaaDoorWWordsCb
import Derived.ChangeArms
import Derived.DataReads
import Derived.DataShut
import Derived.Test.YtghfofjlafeliaaDoorProg
import Derived.Test.YtghfofjlafeliaaDoorWMoreCb
namespace Go.Proofs.YtghfofjlafeliaaDoor.Opening
open Go.RowKit Go.Proofs.YtghfofjlafeliaaDoorW.PrintWords
section
variable {P : Program} {H : Type} {enc : TypeId × Value → H} {W : World} {t : TypeId}
def Opens {H : Type} (enc : TypeId × Value → H) (P : Program) (W : World) (t : TypeId) {α : Type} (R : α → List Value → Prop) : Prop :=
  ∀ (fuel : Nat) (cs : List Value) (x : DataW H × List MemPlace), DataW.trod enc P W 0 (fun _ => true) true fuel t cs = some x → ∃ y, R y cs
theorem opens_int {k : IntKind} (ht : P.underlying t = some (.int k)) : Opens enc P W t (fun (n : Int) cs => cs = [.int k n] ∧ k.min ≤ n ∧ n ≤ k.max) := by
  intro fuel cs x h
  obtain ⟨n, rfl, _, hw⟩ := DataW.trod_int ht h
  exact ⟨n, rfl, (Lit.wf_int_iff k n).1 hw⟩
theorem opens_string (ht : P.underlying t = some .string) : Opens enc P W t (fun (s : ByteArray) cs => cs = [.string s] ∧ s.size ≤ maxLen) := by
  intro fuel cs x h
  obtain ⟨s, rfl, _, hw⟩ := DataW.trod_string ht h
  exact ⟨s, rfl, hw⟩
theorem opens_mono {α : Type} {R R' : α → List Value → Prop} (h : Opens enc P W t R) (hm : ∀ y cs, R y cs → R' y cs) : Opens enc P W t R' := by
  intro fuel cs x hx
  obtain ⟨y, hy⟩ := h fuel cs x hx
  exact ⟨y, hm _ _ hy⟩
theorem opens_slice {e : TypeId} {sz : Nat} {α : Type} {R : α → List Value → Prop} (ht : P.underlying t = some (.slice e)) (hc : P.cellsOf e = sz) (he : Opens enc P W e R) :
    Opens enc P W t (fun (xs : List α) cs => ∃ A c, cs = [.slice A xs.length c] ∧ xs.length ≤ c ∧ ReadsRow R sz W A xs.length xs) := by
  intro fuel cs x h
  rcases DataW.trod_slice ht h with ⟨rfl, _⟩ | ⟨a, len, cap, elems, rest, n, _, rfl, _, _, hl, hm, hlen, hel, _, _⟩
  · exact ⟨[], none, 0, rfl, Nat.le_refl _, rfl, by simp, fun h => absurd h (by simp)⟩
  · have each : ∀ i : Fin len, ∃ y : α, ∃ c : List Value, c.length = sz ∧ R y c ∧ ∀ j u, c[j]? = some u → W.cell? (a.add (i.1 * sz + j)) = some u := by
      intro ⟨i, hi⟩
      have h1 := hel i hi
      rw [List.getElem?_eq_getElem (by omega), hc, Option.bind_eq_some_iff] at h1
      obtain ⟨c, hcs, hr⟩ := h1
      obtain ⟨_, hcl, hcc⟩ := World.cells?_some hcs
      obtain ⟨y, hy⟩ := he _ _ _ hr
      refine ⟨y, c, hcl, hy, fun j u hj => ?_⟩
      have hjl := (List.getElem?_eq_some_iff.1 hj).1
      have := hcc j (by omega)
      rw [hj] at this
      rw [← this, Addr.add_add]
    refine ⟨List.ofFn (fun i : Fin len => (each i).choose), some a, cap, by simp, by simpa using hl, rfl, ?_, fun _ => ⟨a, rfl, fun j p hj => ?_⟩⟩
    · simp; unfold maxLen at hm; omega
    · have hjl := (List.getElem?_eq_some_iff.1 hj).1
      simp at hjl
      have hp : (each ⟨j, hjl⟩).choose = p := by
        have := (List.getElem?_eq_some_iff.1 hj).2
        simpa using this
      obtain ⟨c, h1, h2, h3⟩ := (each ⟨j, hjl⟩).choose_spec
      rw [hp] at h2
      exact ⟨c, h1, h2, h3⟩
def FieldR (P : Program) {α : Type} (f : Field) (R : α → List Value → Prop) (y : α) (cs : List Value) : Prop := R y ((cs.drop f.offset).take (P.cellsOf f.type))
theorem opens_struct3 {f0 f1 f2 : Field} {α β γ : Type} {R0 : α → List Value → Prop} {R1 : β → List Value → Prop} {R2 : γ → List Value → Prop} (ht : P.underlying t = some (.struct #[f0, f1, f2])) (h0 : Opens enc P W f0.type R0) (h1 : Opens enc P W f1.type R1) (h2 : Opens enc P W f2.type R2) :
    Opens enc P W t (fun (y : α × β × γ) cs => cs.length = P.cellsOf t ∧ FieldR P f0 R0 y.1 cs ∧ FieldR P f1 R1 y.2.1 cs ∧ FieldR P f2 R2 y.2.2 cs) := by
  intro fuel cs x h
  obtain ⟨xs, n, _, _, hl, hlen, hf⟩ := DataW.trod_struct ht h
  match xs, hlen with
  | [a0, a1, a2], _ =>
    obtain ⟨y0, r0⟩ := h0 _ _ _ (hf 0 f0 rfl)
    obtain ⟨y1, r1⟩ := h1 _ _ _ (hf 1 f1 rfl)
    obtain ⟨y2, r2⟩ := h2 _ _ _ (hf 2 f2 rfl)
    exact ⟨(y0, y1, y2), hl, r0, r1, r2⟩
end
end Go.Proofs.YtghfofjlafeliaaDoor.Opening
namespace Go.Proofs.YtghfofjlafeliaaDoor.Opening
open Go.RowKit Go.Proofs.YtghfofjlafeliaaDoorW.PrintWords
theorem opens_strs {H : Type} (enc : TypeId × Value → H) (W : World) : Opens enc Tryd.prog W 22 (fun (xs : List ByteArray) cs => ∃ A c, cs = [.slice A xs.length c] ∧ xs.length ≤ c ∧ Kd.C Kd.string W A xs.length xs) :=
  opens_mono (opens_slice (sz := 1) Tryd.underlying22 (by kernel_rfl) (opens_string Tryd.underlying9)) (fun xs cs ⟨A, c, h1, h2, h3⟩ => ⟨A, c, h1, h2, ReadsRow.imp_ h3 (Below.refl _ _) (fun _ _ h => h.1)⟩)
end Go.Proofs.YtghfofjlafeliaaDoor.Opening
namespace Go.Proofs.YtghfofjlafeliaaDoor.Opening
open Go.RowKit Go.Proofs.YtghfofjlafeliaaDoorW.PrintWords
section
variable {P : Program} {H : Type} {enc : TypeId × Value → H} {W : World} {t : TypeId}
theorem opens_struct5 {f0 f1 f2 f3 f4 : Field} {α β γ δ ε : Type} {R0 : α → List Value → Prop} {R1 : β → List Value → Prop} {R2 : γ → List Value → Prop} {R3 : δ → List Value → Prop} {R4 : ε → List Value → Prop} (ht : P.underlying t = some (.struct #[f0, f1, f2, f3, f4]))
    (h0 : Opens enc P W f0.type R0) (h1 : Opens enc P W f1.type R1) (h2 : Opens enc P W f2.type R2) (h3 : Opens enc P W f3.type R3) (h4 : Opens enc P W f4.type R4) :
    Opens enc P W t (fun (y : α × β × γ × δ × ε) cs => cs.length = P.cellsOf t ∧ FieldR P f0 R0 y.1 cs ∧ FieldR P f1 R1 y.2.1 cs ∧ FieldR P f2 R2 y.2.2.1 cs ∧ FieldR P f3 R3 y.2.2.2.1 cs ∧ FieldR P f4 R4 y.2.2.2.2 cs) := by
  intro fuel cs x h
  obtain ⟨xs, n, _, _, hl, hlen, hf⟩ := DataW.trod_struct ht h
  match xs, hlen with
  | [a0, a1, a2, a3, a4], _ =>
    obtain ⟨y0, r0⟩ := h0 _ _ _ (hf 0 f0 rfl)
    obtain ⟨y1, r1⟩ := h1 _ _ _ (hf 1 f1 rfl)
    obtain ⟨y2, r2⟩ := h2 _ _ _ (hf 2 f2 rfl)
    obtain ⟨y3, r3⟩ := h3 _ _ _ (hf 3 f3 rfl)
    obtain ⟨y4, r4⟩ := h4 _ _ _ (hf 4 f4 rfl)
    exact ⟨(y0, y1, y2, y3, y4), hl, r0, r1, r2, r3, r4⟩
end
structure Rq where
  cl : Int
  tm : Int
  kd : Int
  nm : ByteArray
  pt : ByteArray
  ks : List ByteArray
  n : Int
set_option maxRecDepth 100000 in
theorem opens_op {H : Type} (enc : TypeId × Value → H) (W : World) : Opens enc Tryd.prog W 24 (fun (y : Int × ByteArray × ByteArray × List ByteArray × Int) cs => ∃ A c, cs = [.int .i64 y.1, .string y.2.1, .string y.2.2.1, .slice A y.2.2.2.1.length c, .int .i64 y.2.2.2.2] ∧ y.2.2.2.1.length ≤ c ∧ Kd.C Kd.string W A y.2.2.2.1.length y.2.2.2.1) := by
  refine opens_mono (opens_struct5 Tryd.underlying24 (opens_int Tryd.underlying3) (opens_string Tryd.underlying9) (opens_string Tryd.underlying9) (opens_strs enc W) (opens_int Tryd.underlying3)) ?_
  rintro ⟨a, b, c, d, e⟩ cs ⟨hl, r0, r1, r2, r3, r4⟩
  have hl2 : cs.length = 5 := hl.trans (by kernel_rfl)
  match cs, hl2 with
  | [u0, u1, u2, u3, u4], _ =>
    have q0 : [u0] = [.int .i64 a] ∧ _ := r0
    have q1 : [u1] = [.string b] ∧ _ := r1
    have q2 : [u2] = [.string c] ∧ _ := r2
    have q3 : ∃ A cp, [u3] = [.slice A d.length cp] ∧ d.length ≤ cp ∧ Kd.C Kd.string W A d.length d := r3
    have q4 : [u4] = [.int .i64 e] ∧ _ := r4
    obtain ⟨q0, _⟩ := q0
    obtain ⟨q1, _⟩ := q1
    obtain ⟨q2, _⟩ := q2
    obtain ⟨A, cp, q3, h1, h2⟩ := q3
    obtain ⟨q4, _⟩ := q4
    simp only [List.cons.injEq, and_true] at q0 q1 q2 q3 q4
    subst q0 q1 q2 q3 q4
    exact ⟨A, cp, rfl, h1, h2⟩
set_option maxRecDepth 100000 in
theorem opens_req {H : Type} (enc : TypeId × Value → H) (W : World) : Opens enc Tryd.prog W 26 (fun (y : Int × Int × (Int × ByteArray × ByteArray × List ByteArray × Int)) cs => ∃ A c, cs = [.int .i64 y.1, .int .i64 y.2.1, .int .i64 y.2.2.1, .string y.2.2.2.1, .string y.2.2.2.2.1, .slice A y.2.2.2.2.2.1.length c, .int .i64 y.2.2.2.2.2.2] ∧ y.2.2.2.2.2.1.length ≤ c ∧ Kd.C Kd.string W A y.2.2.2.2.2.1.length y.2.2.2.2.2.1) := by
  refine opens_mono (opens_struct3 Tryd.underlying26 (opens_int Tryd.underlying3) (opens_int Tryd.underlying3) (opens_op enc W)) ?_
  rintro ⟨a, b, c, d, e, f, g⟩ cs ⟨hl, r0, r1, r2⟩
  have hl2 : cs.length = 7 := hl.trans (by kernel_rfl)
  match cs, hl2 with
  | [u0, u1, u2, u3, u4, u5, u6], _ =>
    have q0 : [u0] = [.int .i64 a] ∧ _ := r0
    have q1 : [u1] = [.int .i64 b] ∧ _ := r1
    have q2 : ∃ A cp, [u2, u3, u4, u5, u6] = [.int .i64 c, .string d, .string e, .slice A f.length cp, .int .i64 g] ∧ f.length ≤ cp ∧ Kd.C Kd.string W A f.length f := r2
    obtain ⟨q0, _⟩ := q0
    obtain ⟨q1, _⟩ := q1
    obtain ⟨A, cp, q2, h1, h2⟩ := q2
    simp only [List.cons.injEq, and_true] at q0 q1 q2
    obtain ⟨e0, e1, e2, e3, e4⟩ := q2
    subst q0 q1 e0 e1 e2 e3 e4
    exact ⟨A, cp, rfl, h1, h2⟩
end Go.Proofs.YtghfofjlafeliaaDoor.Opening
