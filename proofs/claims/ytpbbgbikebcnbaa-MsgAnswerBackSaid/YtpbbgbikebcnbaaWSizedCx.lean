-- Cut by a program of this session (wip/shake.py) out of the print's words: what this claim doesn't reach is struck out. Lean checks it.
import Derived.Test.YtpbbgbikebcnbaaWWordsCx
import Derived.ChangeArms
import Derived.DataReads
import Derived.DataShut
import Derived.Test.YtpbbgbikebcnbaaProg
import Derived.Test.YtpbbgbikebcnbaaWMoreCx
import Derived.Test.YtpbbgbikebcnbaaMsx0Cx
import Derived.SizedLaws
import Derived.ChangeSlices
namespace Go.Proofs.Ytpbbgbikebcnbaa.Opening
open Go.RowKit Go.Proofs.YtpbbgbikebcnbaaW.PrintWords
section
variable {P : Program} {H : Type} {enc : TypeId × Value → H} {W : World} {t : TypeId}
def Opens {H : Type} (enc : TypeId × Value → H) (P : Program) (W : World) (t : TypeId) {α : Type} (R : α → List Value → Prop) : Prop :=
 ∀ (fuel : Nat) (cs : List Value) (x : DataW H × List MemPlace), DataW.trod enc P W 0 (fun _ => true) true fuel t cs = some x → ∃ y, R y cs
theorem opens_int {k : IntKind} (ht : P.underlying t = some (.int k)) : Opens enc P W t (fun (n : Int) cs => cs = [.int k n] ∧ k.min ≤ n ∧ n ≤ k.max) := by
 intro fuel cs x h
 obtain ⟨n, rfl, _, hw⟩ := DataW.trod_int ht h
 exact ⟨n, rfl, (Lit.wf_int_iff k n).1 hw⟩
theorem opens_string (ht : P.underlying t = some .string) : Opens enc P W t (fun (s : ByteArray) cs => cs = [.string s] ∧ s.size ≤ maxLen) := by
 intro fuel cs x h
 obtain ⟨s, rfl, _, hw⟩ := DataW.trod_string ht h
 exact ⟨s, rfl, hw⟩
theorem opens_mono {α : Type} {R R' : α → List Value → Prop} (h : Opens enc P W t R) (hm : ∀ y cs, R y cs → R' y cs) : Opens enc P W t R' := by
 intro fuel cs x hx
 obtain ⟨y, hy⟩ := h fuel cs x hx
 exact ⟨y, hm _ _ hy⟩
theorem opens_slice {e : TypeId} {sz : Nat} {α : Type} {R : α → List Value → Prop} (ht : P.underlying t = some (.slice e)) (hc : P.cellsOf e = sz) (he : Opens enc P W e R) :
  Opens enc P W t (fun (xs : List α) cs => ∃ A c, cs = [.slice A xs.length c] ∧ xs.length ≤ c ∧ ReadsRow R sz W A xs.length xs) := by
 intro fuel cs x h
 rcases DataW.trod_slice ht h with ⟨rfl, _⟩ | ⟨a, len, cap, elems, rest, n, _, rfl, _, _, hl, hm, hlen, hel, _, _⟩
 ·exact ⟨[], none, 0, rfl, Nat.le_refl _, rfl, by simp, fun h => absurd h (by simp)⟩
 ·have each : ∀ i : Fin len, ∃ y : α, ∃ c : List Value, c.length = sz ∧ R y c ∧ ∀ j u, c[j]? = some u → W.cell? (a.add (i.1 * sz + j)) = some u := by
   intro ⟨i, hi⟩
   have h1 := hel i hi
   rw [List.getElem?_eq_getElem (by omega), hc, Option.bind_eq_some_iff] at h1
   obtain ⟨c, hcs, hr⟩ := h1
   obtain ⟨_, hcl, hcc⟩ := World.cells?_some hcs
   obtain ⟨y, hy⟩ := he _ _ _ hr
   refine ⟨y, c, hcl, hy, fun j u hj => ?_⟩
   have hjl := (List.getElem?_eq_some_iff.1 hj).1
   have := hcc j (by omega)
   rw [hj] at this
   rw [← this, Addr.add_add]
  refine ⟨List.ofFn (fun i : Fin len => (each i).choose), some a, cap, by simp, by simpa using hl, rfl, ?_, fun _ => ⟨a, rfl, fun j p hj => ?_⟩⟩
  ·simp; unfold maxLen at hm; omega
  ·have hjl := (List.getElem?_eq_some_iff.1 hj).1
   simp at hjl
   have hp : (each ⟨j, hjl⟩).choose = p := by
    have := (List.getElem?_eq_some_iff.1 hj).2
    simpa using this
   obtain ⟨c, h1, h2, h3⟩ := (each ⟨j, hjl⟩).choose_spec
   rw [hp] at h2
   exact ⟨c, h1, h2, h3⟩
def FieldR (P : Program) {α : Type} (f : Field) (R : α → List Value → Prop) (y : α) (cs : List Value) : Prop := R y ((cs.drop f.offset).take (P.cellsOf f.type))
theorem opens_struct3 {f0 f1 f2 : Field} {α β γ : Type} {R0 : α → List Value → Prop} {R1 : β → List Value → Prop} {R2 : γ → List Value → Prop} (ht : P.underlying t = some (.struct #[f0, f1, f2])) (h0 : Opens enc P W f0.type R0) (h1 : Opens enc P W f1.type R1) (h2 : Opens enc P W f2.type R2) :
  Opens enc P W t (fun (y : α × β × γ) cs => cs.length = P.cellsOf t ∧ FieldR P f0 R0 y.1 cs ∧ FieldR P f1 R1 y.2.1 cs ∧ FieldR P f2 R2 y.2.2 cs) := by
 intro fuel cs x h
 obtain ⟨xs, n, _, _, hl, hlen, hf⟩ := DataW.trod_struct ht h
 match xs, hlen with
 | [a0, a1, a2], _ =>
  obtain ⟨y0, r0⟩ := h0 _ _ _ (hf 0 f0 rfl)
  obtain ⟨y1, r1⟩ := h1 _ _ _ (hf 1 f1 rfl)
  obtain ⟨y2, r2⟩ := h2 _ _ _ (hf 2 f2 rfl)
  exact ⟨(y0, y1, y2), hl, r0, r1, r2⟩
end
end Go.Proofs.Ytpbbgbikebcnbaa.Opening

namespace Go.Proofs.Ytpbbgbikebcnbaa.Opening
open Go.RowKit Go.Proofs.YtpbbgbikebcnbaaW.PrintWords
theorem opens_strs {H : Type} (enc : TypeId × Value → H) (W : World) : Opens enc Try.prog W 45 (fun (xs : List ByteArray) cs => ∃ A c, cs = [.slice A xs.length c] ∧ xs.length ≤ c ∧ Kd.C Kd.string W A xs.length xs) :=
 opens_mono (opens_slice (sz := 1) Try.underlying45 (by kernel_rfl) (opens_string Try.underlying9)) (fun xs cs ⟨A, c, h1, h2, h3⟩ => ⟨A, c, h1, h2, ReadsRow.imp_ h3 (Below.refl _ _) (fun _ _ h => h.1)⟩)
end Go.Proofs.Ytpbbgbikebcnbaa.Opening

namespace Go.Proofs.Ytpbbgbikebcnbaa.Opening
open Go.RowKit Go.Proofs.Ytpbbgbikebcnbaa.Ms Go.Proofs.YtpbbgbikebcnbaaW.PrintWords Go.Proofs.YtpbbgbikebcnbaaW.PrintLast Go.Proofs.YtpbbgbikebcnbaaW.PrintMore
section
variable {P : Program} {H : Type} {enc : TypeId × Value → H} {W : World} {t : TypeId}
theorem opens_map {α β : Type} {R : α → List Value → Prop} {R' : β → List Value → Prop} (f : α → β) (h : Opens enc P W t R) (hm : ∀ y cs, R y cs → R' (f y) cs) : Opens enc P W t R' := by
 intro fuel cs x hx
 obtain ⟨y, hy⟩ := h fuel cs x hx
 exact ⟨f y, hm _ _ hy⟩
theorem opens_struct5 {f0 f1 f2 f3 f4 : Field} {α0 α1 α2 α3 α4 : Type} {R0 : α0 → List Value → Prop} {R1 : α1 → List Value → Prop} {R2 : α2 → List Value → Prop} {R3 : α3 → List Value → Prop} {R4 : α4 → List Value → Prop} (ht : P.underlying t = some (.struct #[f0, f1, f2, f3, f4]))
  (h0 : Opens enc P W f0.type R0) (h1 : Opens enc P W f1.type R1) (h2 : Opens enc P W f2.type R2) (h3 : Opens enc P W f3.type R3) (h4 : Opens enc P W f4.type R4) :
  Opens enc P W t (fun (y : α0 × α1 × α2 × α3 × α4) cs => cs.length = P.cellsOf t ∧ FieldR P f0 R0 y.1 cs ∧ FieldR P f1 R1 y.2.1 cs ∧ FieldR P f2 R2 y.2.2.1 cs ∧ FieldR P f3 R3 y.2.2.2.1 cs ∧ FieldR P f4 R4 y.2.2.2.2 cs) := by
 intro fuel cs x h
 obtain ⟨xs, n, _, _, hl, hlen, hf⟩ := DataW.trod_struct ht h
 match xs, hlen with
 | [a0, a1, a2, a3, a4], _ =>
  obtain ⟨y0, r0⟩ := h0 _ _ _ (hf 0 f0 rfl)
  obtain ⟨y1, r1⟩ := h1 _ _ _ (hf 1 f1 rfl)
  obtain ⟨y2, r2⟩ := h2 _ _ _ (hf 2 f2 rfl)
  obtain ⟨y3, r3⟩ := h3 _ _ _ (hf 3 f3 rfl)
  obtain ⟨y4, r4⟩ := h4 _ _ _ (hf 4 f4 rfl)
  exact ⟨(y0, y1, y2, y3, y4), hl, r0, r1, r2, r3, r4⟩
end
set_option maxRecDepth 100000 in
theorem opens_entry {H : Type} (enc : TypeId × Value → H) (W : World) : Opens enc Try.prog W 58 (k58.K W) := by
 refine opens_map (fun y : ByteArray × Int × List ByteArray => (⟨y.1, y.2.1, y.2.2⟩ : S58)) (opens_struct3 Try.underlying58 (opens_string Try.underlying9) (opens_int Try.underlying3) (opens_strs enc W)) ?_
 rintro ⟨a, b, d⟩ cs ⟨hl, r0, r1, r3⟩
 have hl2 : cs.length = 3 := hl.trans (by kernel_rfl)
 match cs, hl2 with
 | [u0, u1, u3], _ =>
  have q0 : [u0] = [.string a] ∧ _ := r0
  have q1 : [u1] = [.int .i64 b] ∧ _ := r1
  have q3 : ∃ A cp, [u3] = [.slice A d.length cp] ∧ d.length ≤ cp ∧ Kd.C Kd.string W A d.length d := r3
  obtain ⟨q0, _⟩ := q0
  obtain ⟨q1, _⟩ := q1
  obtain ⟨A, cp, q3, h1, h2⟩ := q3
  simp only [List.cons.injEq, and_true] at q0 q1 q3
  subst q0 q1 q3
  exact k58_mk W ⟨a, b, d⟩ h1 h2
theorem opens_entries {H : Type} (enc : TypeId × Value → H) (W : World) : Opens enc Try.prog W 46 (fun (xs : List S58) cs => ∃ A c, cs = [.slice A xs.length c] ∧ xs.length ≤ c ∧ Kd.C k58 W A xs.length xs) :=
 opens_slice (sz := 3) Try.underlying46 (by kernel_rfl) (opens_entry enc W)
set_option maxRecDepth 100000 in
theorem opens_answer {H : Type} (enc : TypeId × Value → H) (W : World) : Opens enc Try.prog W 48 (fun (y : Int × Int × List ByteArray × List ByteArray × List S58) cs => ∃ A c B e C f, cs = [.int .i64 y.1, .int .i64 y.2.1, .slice A y.2.2.1.length c, .slice B y.2.2.2.1.length e, .slice C y.2.2.2.2.length f] ∧ y.2.2.1.length ≤ c ∧ Kd.C Kd.string W A y.2.2.1.length y.2.2.1 ∧ y.2.2.2.1.length ≤ e ∧ Kd.C Kd.string W B y.2.2.2.1.length y.2.2.2.1 ∧ y.2.2.2.2.length ≤ f ∧ Kd.C k58 W C y.2.2.2.2.length y.2.2.2.2) := by
 refine opens_mono (opens_struct5 Try.underlying48 (opens_int Try.underlying3) (opens_int Try.underlying3) (opens_strs enc W) (opens_strs enc W) (opens_entries enc W)) ?_
 rintro ⟨a, b, c, d, p⟩ cs ⟨hl, r0, r1, r2, r3, r4⟩
 have hl2 : cs.length = 5 := hl.trans (by kernel_rfl)
 match cs, hl2 with
 | [u0, u1, u2, u3, u4], _ =>
  have q0 : [u0] = [.int .i64 a] ∧ _ := r0
  have q1 : [u1] = [.int .i64 b] ∧ _ := r1
  have q2 : ∃ A cp, [u2] = [.slice A c.length cp] ∧ c.length ≤ cp ∧ Kd.C Kd.string W A c.length c := r2
  have q3 : ∃ A cp, [u3] = [.slice A d.length cp] ∧ d.length ≤ cp ∧ Kd.C Kd.string W A d.length d := r3
  have q4 : ∃ A cp, [u4] = [.slice A p.length cp] ∧ p.length ≤ cp ∧ Kd.C k58 W A p.length p := r4
  obtain ⟨q0, _⟩ := q0
  obtain ⟨q1, _⟩ := q1
  obtain ⟨A, cp, q2, h1, h2⟩ := q2
  obtain ⟨B, ep, q3, h3, h4⟩ := q3
  obtain ⟨C, fp, q4, h5, h6⟩ := q4
  simp only [List.cons.injEq, and_true] at q0 q1 q2 q3 q4
  subst q0 q1 q2 q3 q4
  exact ⟨A, cp, B, ep, C, fp, rfl, h1, h2, h3, h4, h5, h6⟩
end Go.Proofs.Ytpbbgbikebcnbaa.Opening

namespace Go.Proofs.YtpbbgbikebcnbaaW.PrintWords
open Go.ChangeShapes Go.WideShapes
end Go.Proofs.YtpbbgbikebcnbaaW.PrintWords
