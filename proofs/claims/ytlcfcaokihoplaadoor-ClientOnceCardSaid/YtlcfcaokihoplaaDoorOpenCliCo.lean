-- Cut by a program of this session (wip/shake.py) out of a text of this seat: what this claim doesn't reach is struck out. Lean checks it.
import Derived.Test.YtlcfcaokihoplaaDoorOpenStrsCo
import Derived.Test.YtlcfcaokihoplaaDoorClientGCo
namespace Go.Proofs.YtlcfcaokihoplaaDoor.Opening
open Go.RowKit Go.Proofs.YtlcfcaokihoplaaDoor.Ms Go.Proofs.YtlcfcaokihoplaaDoor.Cli Go.Proofs.YtlcfcaokihoplaaDoorW.PrintWords Go.Proofs.YtlcfcaokihoplaaDoorW.PrintLast Go.Proofs.YtlcfcaokihoplaaDoorW.PrintMore
section
variable {P : Program} {H : Type} {enc : TypeId × Value → H} {W : World} {t : TypeId}
theorem opens_map {α β : Type} {R : α → List Value → Prop} {R' : β → List Value → Prop} (f : α → β) (h : Opens enc P W t R) (hm : ∀ y cs, R y cs → R' (f y) cs) : Opens enc P W t R' := by
  intro fuel cs x hx
  obtain ⟨y, hy⟩ := h fuel cs x hx
  exact ⟨f y, hm _ _ hy⟩
theorem opens_struct4 {f0 f1 f2 f3 : Field} {α0 α1 α2 α3 : Type} {R0 : α0 → List Value → Prop} {R1 : α1 → List Value → Prop} {R2 : α2 → List Value → Prop} {R3 : α3 → List Value → Prop} (ht : P.underlying t = some (.struct #[f0, f1, f2, f3]))
    (h0 : Opens enc P W f0.type R0) (h1 : Opens enc P W f1.type R1) (h2 : Opens enc P W f2.type R2) (h3 : Opens enc P W f3.type R3) :
    Opens enc P W t (fun (y : α0 × α1 × α2 × α3) cs => cs.length = P.cellsOf t ∧ FieldR P f0 R0 y.1 cs ∧ FieldR P f1 R1 y.2.1 cs ∧ FieldR P f2 R2 y.2.2.1 cs ∧ FieldR P f3 R3 y.2.2.2 cs) := by
  intro fuel cs x h
  obtain ⟨xs, n, _, _, hl, hlen, hf⟩ := DataW.trod_struct ht h
  match xs, hlen with
  | [a0, a1, a2, a3], _ =>
    obtain ⟨y0, r0⟩ := h0 _ _ _ (hf 0 f0 rfl)
    obtain ⟨y1, r1⟩ := h1 _ _ _ (hf 1 f1 rfl)
    obtain ⟨y2, r2⟩ := h2 _ _ _ (hf 2 f2 rfl)
    obtain ⟨y3, r3⟩ := h3 _ _ _ (hf 3 f3 rfl)
    exact ⟨(y0, y1, y2, y3), hl, r0, r1, r2, r3⟩
theorem opens_struct5 {f0 f1 f2 f3 f4 : Field} {α0 α1 α2 α3 α4 : Type} {R0 : α0 → List Value → Prop} {R1 : α1 → List Value → Prop} {R2 : α2 → List Value → Prop} {R3 : α3 → List Value → Prop} {R4 : α4 → List Value → Prop} (ht : P.underlying t = some (.struct #[f0, f1, f2, f3, f4]))
    (h0 : Opens enc P W f0.type R0) (h1 : Opens enc P W f1.type R1) (h2 : Opens enc P W f2.type R2) (h3 : Opens enc P W f3.type R3) (h4 : Opens enc P W f4.type R4) :
    Opens enc P W t (fun (y : α0 × α1 × α2 × α3 × α4) cs => cs.length = P.cellsOf t ∧ FieldR P f0 R0 y.1 cs ∧ FieldR P f1 R1 y.2.1 cs ∧ FieldR P f2 R2 y.2.2.1 cs ∧ FieldR P f3 R3 y.2.2.2.1 cs ∧ FieldR P f4 R4 y.2.2.2.2 cs) := by
  intro fuel cs x h
  obtain ⟨xs, n, _, _, hl, hlen, hf⟩ := DataW.trod_struct ht h
  match xs, hlen with
  | [a0, a1, a2, a3, a4], _ =>
    obtain ⟨y0, r0⟩ := h0 _ _ _ (hf 0 f0 rfl)
    obtain ⟨y1, r1⟩ := h1 _ _ _ (hf 1 f1 rfl)
    obtain ⟨y2, r2⟩ := h2 _ _ _ (hf 2 f2 rfl)
    obtain ⟨y3, r3⟩ := h3 _ _ _ (hf 3 f3 rfl)
    obtain ⟨y4, r4⟩ := h4 _ _ _ (hf 4 f4 rfl)
    exact ⟨(y0, y1, y2, y3, y4), hl, r0, r1, r2, r3, r4⟩
theorem opens_struct7 {f0 f1 f2 f3 f4 f5 f6 : Field} {α0 α1 α2 α3 α4 α5 α6 : Type} {R0 : α0 → List Value → Prop} {R1 : α1 → List Value → Prop} {R2 : α2 → List Value → Prop} {R3 : α3 → List Value → Prop} {R4 : α4 → List Value → Prop} {R5 : α5 → List Value → Prop} {R6 : α6 → List Value → Prop} (ht : P.underlying t = some (.struct #[f0, f1, f2, f3, f4, f5, f6]))
    (h0 : Opens enc P W f0.type R0) (h1 : Opens enc P W f1.type R1) (h2 : Opens enc P W f2.type R2) (h3 : Opens enc P W f3.type R3) (h4 : Opens enc P W f4.type R4) (h5 : Opens enc P W f5.type R5) (h6 : Opens enc P W f6.type R6) :
    Opens enc P W t (fun (y : α0 × α1 × α2 × α3 × α4 × α5 × α6) cs => cs.length = P.cellsOf t ∧ FieldR P f0 R0 y.1 cs ∧ FieldR P f1 R1 y.2.1 cs ∧ FieldR P f2 R2 y.2.2.1 cs ∧ FieldR P f3 R3 y.2.2.2.1 cs ∧ FieldR P f4 R4 y.2.2.2.2.1 cs ∧ FieldR P f5 R5 y.2.2.2.2.2.1 cs ∧ FieldR P f6 R6 y.2.2.2.2.2.2 cs) := by
  intro fuel cs x h
  obtain ⟨xs, n, _, _, hl, hlen, hf⟩ := DataW.trod_struct ht h
  match xs, hlen with
  | [a0, a1, a2, a3, a4, a5, a6], _ =>
    obtain ⟨y0, r0⟩ := h0 _ _ _ (hf 0 f0 rfl)
    obtain ⟨y1, r1⟩ := h1 _ _ _ (hf 1 f1 rfl)
    obtain ⟨y2, r2⟩ := h2 _ _ _ (hf 2 f2 rfl)
    obtain ⟨y3, r3⟩ := h3 _ _ _ (hf 3 f3 rfl)
    obtain ⟨y4, r4⟩ := h4 _ _ _ (hf 4 f4 rfl)
    obtain ⟨y5, r5⟩ := h5 _ _ _ (hf 5 f5 rfl)
    obtain ⟨y6, r6⟩ := h6 _ _ _ (hf 6 f6 rfl)
    exact ⟨(y0, y1, y2, y3, y4, y5, y6), hl, r0, r1, r2, r3, r4, r5, r6⟩
end
theorem opens_ints {H : Type} (enc : TypeId × Value → H) (W : World) : Opens enc Tryd.prog W 25 (fun (xs : List Int) cs => ∃ A c, cs = [.slice A xs.length c] ∧ xs.length ≤ c ∧ Kd.C (Kd.int .i64) W A xs.length xs) :=
  opens_mono (opens_slice (sz := 1) Tryd.underlying25 (by kernel_rfl) (opens_mono (opens_int Tryd.underlying3) (fun (y : Int) cs h => (h.1 : (Kd.int .i64).K W y cs)))) (fun _ _ h => h)
set_option maxRecDepth 100000 in
theorem opens_proof {H : Type} (enc : TypeId × Value → H) (W : World) : Opens enc Tryd.prog W 80 (k80.K W) := by
  refine opens_map (fun y : Int × Int × ByteArray × List Int => (⟨y.1, y.2.1, y.2.2.1, y.2.2.2⟩ : S80)) (opens_struct4 Tryd.underlying80 (opens_int Tryd.underlying3) (opens_int Tryd.underlying3) (opens_string Tryd.underlying9) (opens_ints enc W)) ?_
  rintro ⟨a, b, c, d⟩ cs ⟨hl, r0, r1, r2, r3⟩
  have hl2 : cs.length = 4 := hl.trans (by kernel_rfl)
  match cs, hl2 with
  | [u0, u1, u2, u3], _ =>
    have q0 : [u0] = [.int .i64 a] ∧ _ := r0
    have q1 : [u1] = [.int .i64 b] ∧ _ := r1
    have q2 : [u2] = [.string c] ∧ _ := r2
    have q3 : ∃ A cp, [u3] = [.slice A d.length cp] ∧ d.length ≤ cp ∧ Kd.C (Kd.int .i64) W A d.length d := r3
    obtain ⟨q0, _⟩ := q0
    obtain ⟨q1, _⟩ := q1
    obtain ⟨q2, _⟩ := q2
    obtain ⟨A, cp, q3, h1, h2⟩ := q3
    simp only [List.cons.injEq, and_true] at q0 q1 q2 q3
    subst q0 q1 q2 q3
    exact k80_mk W ⟨a, b, c, d⟩ h1 h2
theorem opens_proofs {H : Type} (enc : TypeId × Value → H) (W : World) : Opens enc Tryd.prog W 34 (fun (xs : List S80) cs => ∃ A c, cs = [.slice A xs.length c] ∧ xs.length ≤ c ∧ Kd.C k80 W A xs.length xs) :=
  opens_slice (sz := 4) Tryd.underlying34 (by kernel_rfl) (opens_proof enc W)
set_option maxRecDepth 100000 in
theorem opens_change {H : Type} (enc : TypeId × Value → H) (W : World) : Opens enc Tryd.prog W 67 (k67.K W) := by
  refine opens_map (fun y : Int × Int × List S80 => (⟨y.1, y.2.1, y.2.2⟩ : S67)) (opens_struct3 Tryd.underlying67 (opens_int Tryd.underlying3) (opens_int Tryd.underlying3) (opens_proofs enc W)) ?_
  rintro ⟨a, b, d⟩ cs ⟨hl, r0, r1, r3⟩
  have hl2 : cs.length = 3 := hl.trans (by kernel_rfl)
  match cs, hl2 with
  | [u0, u1, u3], _ =>
    have q0 : [u0] = [.int .i64 a] ∧ _ := r0
    have q1 : [u1] = [.int .i64 b] ∧ _ := r1
    have q3 : ∃ A cp, [u3] = [.slice A d.length cp] ∧ d.length ≤ cp ∧ Kd.C k80 W A d.length d := r3
    obtain ⟨q0, _⟩ := q0
    obtain ⟨q1, _⟩ := q1
    obtain ⟨A, cp, q3, h1, h2⟩ := q3
    simp only [List.cons.injEq, and_true] at q0 q1 q3
    subst q0 q1 q3
    exact k67_mk W ⟨a, b, d⟩ h1 h2
theorem opens_changes {H : Type} (enc : TypeId × Value → H) (W : World) : Opens enc Tryd.prog W 35 (fun (xs : List S67) cs => ∃ A c, cs = [.slice A xs.length c] ∧ xs.length ≤ c ∧ Kd.C k67 W A xs.length xs) :=
  opens_slice (sz := 3) Tryd.underlying35 (by kernel_rfl) (opens_change enc W)
set_option maxRecDepth 100000 in
theorem opens_op {H : Type} (enc : TypeId × Value → H) (W : World) : Opens enc Tryd.prog W 24 (fun (y : Int × ByteArray × ByteArray × List ByteArray × Int) cs => ∃ A c, cs = [.int .i64 y.1, .string y.2.1, .string y.2.2.1, .slice A y.2.2.2.1.length c, .int .i64 y.2.2.2.2] ∧ y.2.2.2.1.length ≤ c ∧ Kd.C Kd.string W A y.2.2.2.1.length y.2.2.2.1) := by
  refine opens_mono (opens_struct5 Tryd.underlying24 (opens_int Tryd.underlying3) (opens_string Tryd.underlying9) (opens_string Tryd.underlying9) (opens_strs enc W) (opens_int Tryd.underlying3)) ?_
  rintro ⟨a, b, c, d, e⟩ cs ⟨hl, r0, r1, r2, r3, r4⟩
  have hl2 : cs.length = 5 := hl.trans (by kernel_rfl)
  match cs, hl2 with
  | [u0, u1, u2, u3, u4], _ =>
    have q0 : [u0] = [.int .i64 a] ∧ _ := r0
    have q1 : [u1] = [.string b] ∧ _ := r1
    have q2 : [u2] = [.string c] ∧ _ := r2
    have q3 : ∃ A cp, [u3] = [.slice A d.length cp] ∧ d.length ≤ cp ∧ Kd.C Kd.string W A d.length d := r3
    have q4 : [u4] = [.int .i64 e] ∧ _ := r4
    obtain ⟨q0, _⟩ := q0
    obtain ⟨q1, _⟩ := q1
    obtain ⟨q2, _⟩ := q2
    obtain ⟨A, cp, q3, h1, h2⟩ := q3
    obtain ⟨q4, _⟩ := q4
    simp only [List.cons.injEq, and_true] at q0 q1 q2 q3 q4
    subst q0 q1 q2 q3 q4
    exact ⟨A, cp, rfl, h1, h2⟩
set_option maxRecDepth 100000 in
theorem opens_msg {H : Type} (enc : TypeId × Value → H) (W : World) : Opens enc Tryd.prog W 37 (MsgR W) := by
  refine opens_map (fun y : Int × Int × Int × Int × ByteArray × List S80 × List S67 => (⟨y.1, y.2.1, y.2.2.1, y.2.2.2.1, y.2.2.2.2.1, y.2.2.2.2.2.1, y.2.2.2.2.2.2⟩ : MG)) (opens_struct7 Tryd.underlying37 (opens_int Tryd.underlying3) (opens_int Tryd.underlying3) (opens_int Tryd.underlying3) (opens_int Tryd.underlying3) (opens_string Tryd.underlying9) (opens_proofs enc W) (opens_changes enc W)) ?_
  rintro ⟨a, b, c, d, s, p, q⟩ cs ⟨hl, r0, r1, r2, r3, r4, r5, r6⟩
  have hl2 : cs.length = 7 := hl.trans (by kernel_rfl)
  match cs, hl2 with
  | [u0, u1, u2, u3, u4, u5, u6], _ =>
    have q0 : [u0] = [.int .i64 a] ∧ _ := r0
    have q1 : [u1] = [.int .i64 b] ∧ IntKind.i64.min ≤ b ∧ b ≤ IntKind.i64.max := r1
    have q2 : [u2] = [.int .i64 c] ∧ _ := r2
    have q3 : [u3] = [.int .i64 d] ∧ _ := r3
    have q4 : [u4] = [.string s] ∧ _ := r4
    have q5 : ∃ A cp, [u5] = [.slice A p.length cp] ∧ p.length ≤ cp ∧ Kd.C k80 W A p.length p := r5
    have q6 : ∃ A cp, [u6] = [.slice A q.length cp] ∧ q.length ≤ cp ∧ Kd.C k67 W A q.length q := r6
    obtain ⟨q0, _⟩ := q0
    obtain ⟨q1, q11⟩ := q1
    obtain ⟨q2, _⟩ := q2
    obtain ⟨q3, _⟩ := q3
    obtain ⟨q4, _⟩ := q4
    obtain ⟨A, cp, q5, h1, h2⟩ := q5
    obtain ⟨B, ep, q6, h3, h4⟩ := q6
    simp only [List.cons.injEq, and_true] at q0 q1 q2 q3 q4 q5 q6
    subst q0 q1 q2 q3 q4 q5 q6
    exact ⟨A, cp, B, ep, rfl, q11, h1, h2, h3, h4⟩
end Go.Proofs.YtlcfcaokihoplaaDoor.Opening
