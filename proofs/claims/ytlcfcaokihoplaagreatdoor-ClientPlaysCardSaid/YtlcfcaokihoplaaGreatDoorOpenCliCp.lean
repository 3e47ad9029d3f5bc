-- Cut.
import Derived.Test.YtlcfcaokihoplaaGreatDoorClientFCp
import Derived.Test.YtlcfcaokihoplaaGreatDoorOpenStrsCp
namespace Go.Proofs.YtlcfcaokihoplaaGreatDoor.Cli
open Go.RowKit Go.Proofs.YtlcfcaokihoplaaGreatDoor.Ms Go.Proofs.YzW.PrintWords Go.Proofs.YzW.PrintLast Go.Proofs.YzW.PrintMore
attribute [local go_sem] Go.Proofs.YtlcfcaokihoplaaGreatDoor.Ms.eqlErr Go.Proofs.YtlcfcaokihoplaaGreatDoor.Ms.neqErr Go.Proofs.YtlcfcaokihoplaaGreatDoor.Ms.eqlErrNil Go.Proofs.YtlcfcaokihoplaaGreatDoor.Ms.neqErrNil
set_option linter.unusedVariables false
set_option linter.unusedSimpArgs false
structure MG where
 kd : Int
 fr : Int
 vw : Int
 sq : Int
 bd : ByteArray
 ps : List S90
 cs : List S69
def MsgR (W : World) (m : MG) (cs : List Value) : Prop :=
 ∃ A c B e, cs = [.int .i64 m.kd, .int .i64 m.fr, .int .i64 m.vw, .int .i64 m.sq, .string m.bd, .slice A m.ps.length c, .slice B m.cs.length e] ∧ (-9223372036854775808 ≤ m.fr ∧ m.fr ≤ 9223372036854775807) ∧ m.ps.length ≤ c ∧ Kd.C k90 W A m.ps.length m.ps ∧ m.cs.length ≤ e ∧ Kd.C k69 W B m.cs.length m.cs
theorem MsgR.below {W W' : World} {m : MG} {cs : List Value} (h : MsgR W m cs) (hb : Below W.heap.size W W') : MsgR W' m cs := by
 obtain ⟨A, c, B, e, h1, h2, h3, h4, h5, h6⟩ := h
 exact ⟨A, c, B, e, h1, h2, h3, Kd.C_below h4 hb, h5, Kd.C_below h6 hb⟩
def Msgs (W : World) (A : Option Addr) (n : Nat) (ms : List MG) : Prop := ch_ (MsgR W) 7 W A n ms
theorem Msgs.below {W W' : World} {A : Option Addr} {n : Nat} {ms : List MG} (h : Msgs W A n ms) (hb : Below W.heap.size W W') : Msgs W' A n ms :=
 ch_.imp_ h hb (fun _ _ h => h.below hb)
theorem Msgs.get {W : World} {A : Option Addr} {ms : List MG} (h : Msgs W A ms.length ms) (i : Int) (h0 : 0 ≤ i) (h1 : i < ms.length) :
  ∃ ad, A = some ad ∧ ∃ (m : MG) (B : Option Addr) (b : Nat) (C : Option Addr) (c : Nat), (-9223372036854775808 ≤ m.fr ∧ m.fr ≤ 9223372036854775807) ∧ (m.ps.length ≤ b ∧ Kd.C k90 W B m.ps.length m.ps ∧ m.cs.length ≤ c ∧ Kd.C k69 W C m.cs.length m.cs) ∧
   W.cell? (ad.add (i.toNat * 7)) = some (.int .i64 m.kd) ∧ W.cell? ⟨(ad.add (i.toNat * 7)).block, (ad.add (i.toNat * 7)).off + 1, none⟩ = some (.int .i64 m.fr) ∧ W.cell? ⟨(ad.add (i.toNat * 7)).block, (ad.add (i.toNat * 7)).off + 2, none⟩ = some (.int .i64 m.vw) ∧ W.cell? ⟨(ad.add (i.toNat * 7)).block, (ad.add (i.toNat * 7)).off + 3, none⟩ = some (.int .i64 m.sq) ∧ W.cell? ⟨(ad.add (i.toNat * 7)).block, (ad.add (i.toNat * 7)).off + 4, none⟩ = some (.string m.bd) ∧ W.cell? ⟨(ad.add (i.toNat * 7)).block, (ad.add (i.toNat * 7)).off + 5, none⟩ = some (.slice B m.ps.length b) ∧ W.cell? ⟨(ad.add (i.toNat * 7)).block, (ad.add (i.toNat * 7)).off + 6, none⟩ = some (.slice C m.cs.length c) := by
 obtain ⟨ad, cs, e, hl, ⟨B, b, C, c, rfl, r1, r2, r3, r4, r5⟩, hc⟩ := ch_.get_ h ⟨0, 0, 0, 0, ⟨#[]⟩, [], []⟩ i h0 h1
 refine ⟨ad, e, _, B, b, C, c, r1, ⟨r2, r3, r4, r5⟩, hc 0 _ rfl, ?_, ?_, ?_, ?_, ?_, ?_⟩
 ·rw [← hc 1 _ rfl, ← Addr.add_add]; rfl
 ·rw [← hc 2 _ rfl, ← Addr.add_add]; rfl
 ·rw [← hc 3 _ rfl, ← Addr.add_add]; rfl
 ·rw [← hc 4 _ rfl, ← Addr.add_add]; rfl
 ·rw [← hc 5 _ rfl, ← Addr.add_add]; rfl
 ·rw [← hc 6 _ rfl, ← Addr.add_add]; rfl
theorem shortM_body {s : ByteArray} {ps : List S90} {cs : List S69} (h : CliP.shortM s ps cs = true) : s.size ≤ 100000000 := by
 unfold CliP.shortM at h
 simp only [Bool.and_eq_true, decide_eq_true_eq] at h
 omega
end Go.Proofs.YtlcfcaokihoplaaGreatDoor.Cli

namespace Go.Proofs.YtlcfcaokihoplaaGreatDoor.Opening
open Go.RowKit Go.Proofs.YtlcfcaokihoplaaGreatDoor.Ms Go.Proofs.YtlcfcaokihoplaaGreatDoor.Cli Go.Proofs.YzW.PrintWords Go.Proofs.YzW.PrintLast Go.Proofs.YzW.PrintMore
section
variable {P : Program} {H : Type} {enc : TypeId × Value → H} {W : World} {t : TypeId}
theorem opens_map {α β : Type} {R : α → List Value → Prop} {R' : β → List Value → Prop} (f : α → β) (h : de_ enc P W t R) (hm : ∀ y cs, R y cs → R' (f y) cs) : de_ enc P W t R' := by
 intro fuel cs x hx
 obtain ⟨y, hy⟩ := h fuel cs x hx
 exact ⟨f y, hm _ _ hy⟩
theorem opens_struct4 {f0 f1 f2 f3 : Field} {α0 α1 α2 α3 : Type} {R0 : α0 → List Value → Prop} {R1 : α1 → List Value → Prop} {R2 : α2 → List Value → Prop} {R3 : α3 → List Value → Prop} (ht : P.underlying t = some (.struct #[f0, f1, f2, f3]))
  (h0 : de_ enc P W f0.type R0) (h1 : de_ enc P W f1.type R1) (h2 : de_ enc P W f2.type R2) (h3 : de_ enc P W f3.type R3) :
  de_ enc P W t (fun (y : α0 × α1 × α2 × α3) cs => cs.length = P.cellsOf t ∧ eg_ P f0 R0 y.1 cs ∧ eg_ P f1 R1 y.2.1 cs ∧ eg_ P f2 R2 y.2.2.1 cs ∧ eg_ P f3 R3 y.2.2.2 cs) := by
 intro fuel cs x h
 obtain ⟨xs, n, _, _, hl, hlen, hf⟩ := DataW.trod_struct ht h
 match xs, hlen with
 | [a0, a1, a2, a3], _ =>
  obtain ⟨y0, r0⟩ := h0 _ _ _ (hf 0 f0 rfl)
  obtain ⟨y1, r1⟩ := h1 _ _ _ (hf 1 f1 rfl)
  obtain ⟨y2, r2⟩ := h2 _ _ _ (hf 2 f2 rfl)
  obtain ⟨y3, r3⟩ := h3 _ _ _ (hf 3 f3 rfl)
  exact ⟨(y0, y1, y2, y3), hl, r0, r1, r2, r3⟩
theorem opens_struct5 {f0 f1 f2 f3 f4 : Field} {α0 α1 α2 α3 α4 : Type} {R0 : α0 → List Value → Prop} {R1 : α1 → List Value → Prop} {R2 : α2 → List Value → Prop} {R3 : α3 → List Value → Prop} {R4 : α4 → List Value → Prop} (ht : P.underlying t = some (.struct #[f0, f1, f2, f3, f4]))
  (h0 : de_ enc P W f0.type R0) (h1 : de_ enc P W f1.type R1) (h2 : de_ enc P W f2.type R2) (h3 : de_ enc P W f3.type R3) (h4 : de_ enc P W f4.type R4) :
  de_ enc P W t (fun (y : α0 × α1 × α2 × α3 × α4) cs => cs.length = P.cellsOf t ∧ eg_ P f0 R0 y.1 cs ∧ eg_ P f1 R1 y.2.1 cs ∧ eg_ P f2 R2 y.2.2.1 cs ∧ eg_ P f3 R3 y.2.2.2.1 cs ∧ eg_ P f4 R4 y.2.2.2.2 cs) := by
 intro fuel cs x h
 obtain ⟨xs, n, _, _, hl, hlen, hf⟩ := DataW.trod_struct ht h
 match xs, hlen with
 | [a0, a1, a2, a3, a4], _ =>
  obtain ⟨y0, r0⟩ := h0 _ _ _ (hf 0 f0 rfl)
  obtain ⟨y1, r1⟩ := h1 _ _ _ (hf 1 f1 rfl)
  obtain ⟨y2, r2⟩ := h2 _ _ _ (hf 2 f2 rfl)
  obtain ⟨y3, r3⟩ := h3 _ _ _ (hf 3 f3 rfl)
  obtain ⟨y4, r4⟩ := h4 _ _ _ (hf 4 f4 rfl)
  exact ⟨(y0, y1, y2, y3, y4), hl, r0, r1, r2, r3, r4⟩
theorem opens_struct7 {f0 f1 f2 f3 f4 f5 f6 : Field} {α0 α1 α2 α3 α4 α5 α6 : Type} {R0 : α0 → List Value → Prop} {R1 : α1 → List Value → Prop} {R2 : α2 → List Value → Prop} {R3 : α3 → List Value → Prop} {R4 : α4 → List Value → Prop} {R5 : α5 → List Value → Prop} {R6 : α6 → List Value → Prop} (ht : P.underlying t = some (.struct #[f0, f1, f2, f3, f4, f5, f6]))
  (h0 : de_ enc P W f0.type R0) (h1 : de_ enc P W f1.type R1) (h2 : de_ enc P W f2.type R2) (h3 : de_ enc P W f3.type R3) (h4 : de_ enc P W f4.type R4) (h5 : de_ enc P W f5.type R5) (h6 : de_ enc P W f6.type R6) :
  de_ enc P W t (fun (y : α0 × α1 × α2 × α3 × α4 × α5 × α6) cs => cs.length = P.cellsOf t ∧ eg_ P f0 R0 y.1 cs ∧ eg_ P f1 R1 y.2.1 cs ∧ eg_ P f2 R2 y.2.2.1 cs ∧ eg_ P f3 R3 y.2.2.2.1 cs ∧ eg_ P f4 R4 y.2.2.2.2.1 cs ∧ eg_ P f5 R5 y.2.2.2.2.2.1 cs ∧ eg_ P f6 R6 y.2.2.2.2.2.2 cs) := by
 intro fuel cs x h
 obtain ⟨xs, n, _, _, hl, hlen, hf⟩ := DataW.trod_struct ht h
 match xs, hlen with
 | [a0, a1, a2, a3, a4, a5, a6], _ =>
  obtain ⟨y0, r0⟩ := h0 _ _ _ (hf 0 f0 rfl)
  obtain ⟨y1, r1⟩ := h1 _ _ _ (hf 1 f1 rfl)
  obtain ⟨y2, r2⟩ := h2 _ _ _ (hf 2 f2 rfl)
  obtain ⟨y3, r3⟩ := h3 _ _ _ (hf 3 f3 rfl)
  obtain ⟨y4, r4⟩ := h4 _ _ _ (hf 4 f4 rfl)
  obtain ⟨y5, r5⟩ := h5 _ _ _ (hf 5 f5 rfl)
  obtain ⟨y6, r6⟩ := h6 _ _ _ (hf 6 f6 rfl)
  exact ⟨(y0, y1, y2, y3, y4, y5, y6), hl, r0, r1, r2, r3, r4, r5, r6⟩
end
theorem opens_ints {H : Type} (enc : TypeId × Value → H) (W : World) : de_ enc Tryz.prog W 31 (fun (xs : List Int) cs => ∃ A c, cs = [.slice A xs.length c] ∧ xs.length ≤ c ∧ Kd.C (Kd.int .i64) W A xs.length xs) :=
 opens_mono (opens_slice (sz := 1) Tryz.underlying31 (by kernel_rfl) (opens_mono (di_ Tryz.underlying3) (fun (y : Int) cs h => (h.1 : (Kd.int .i64).K W y cs)))) (fun _ _ h => h)
set_option maxRecDepth 100000 in
theorem opens_proof {H : Type} (enc : TypeId × Value → H) (W : World) : de_ enc Tryz.prog W 90 (k90.K W) := by
 refine opens_map (fun y : Int × Int × ByteArray × List Int => (⟨y.1, y.2.1, y.2.2.1, y.2.2.2⟩ : S90)) (opens_struct4 Tryz.underlying90 (di_ Tryz.underlying3) (di_ Tryz.underlying3) (opens_string Tryz.underlying9) (opens_ints enc W)) ?_
 rintro ⟨a, b, c, d⟩ cs ⟨hl, r0, r1, r2, r3⟩
 have hl2 : cs.length = 4 := hl.trans (by kernel_rfl)
 match cs, hl2 with
 | [u0, u1, u2, u3], _ =>
  have q0 : [u0] = [.int .i64 a] ∧ _ := r0
  have q1 : [u1] = [.int .i64 b] ∧ _ := r1
  have q2 : [u2] = [.string c] ∧ _ := r2
  have q3 : ∃ A cp, [u3] = [.slice A d.length cp] ∧ d.length ≤ cp ∧ Kd.C (Kd.int .i64) W A d.length d := r3
  obtain ⟨q0, _⟩ := q0
  obtain ⟨q1, _⟩ := q1
  obtain ⟨q2, _⟩ := q2
  obtain ⟨A, cp, q3, h1, h2⟩ := q3
  simp only [List.cons.injEq, and_true] at q0 q1 q2 q3
  subst q0 q1 q2 q3
  exact k90_mk W ⟨a, b, c, d⟩ h1 h2
theorem opens_proofs {H : Type} (enc : TypeId × Value → H) (W : World) : de_ enc Tryz.prog W 37 (fun (xs : List S90) cs => ∃ A c, cs = [.slice A xs.length c] ∧ xs.length ≤ c ∧ Kd.C k90 W A xs.length xs) :=
 opens_slice (sz := 4) Tryz.underlying37 (by kernel_rfl) (opens_proof enc W)
set_option maxRecDepth 100000 in
theorem opens_change {H : Type} (enc : TypeId × Value → H) (W : World) : de_ enc Tryz.prog W 69 (k69.K W) := by
 refine opens_map (fun y : Int × Int × List S90 => (⟨y.1, y.2.1, y.2.2⟩ : S69)) (opens_struct3 Tryz.underlying69 (di_ Tryz.underlying3) (di_ Tryz.underlying3) (opens_proofs enc W)) ?_
 rintro ⟨a, b, d⟩ cs ⟨hl, r0, r1, r3⟩
 have hl2 : cs.length = 3 := hl.trans (by kernel_rfl)
 match cs, hl2 with
 | [u0, u1, u3], _ =>
  have q0 : [u0] = [.int .i64 a] ∧ _ := r0
  have q1 : [u1] = [.int .i64 b] ∧ _ := r1
  have q3 : ∃ A cp, [u3] = [.slice A d.length cp] ∧ d.length ≤ cp ∧ Kd.C k90 W A d.length d := r3
  obtain ⟨q0, _⟩ := q0
  obtain ⟨q1, _⟩ := q1
  obtain ⟨A, cp, q3, h1, h2⟩ := q3
  simp only [List.cons.injEq, and_true] at q0 q1 q3
  subst q0 q1 q3
  exact k69_mk W ⟨a, b, d⟩ h1 h2
theorem opens_changes {H : Type} (enc : TypeId × Value → H) (W : World) : de_ enc Tryz.prog W 38 (fun (xs : List S69) cs => ∃ A c, cs = [.slice A xs.length c] ∧ xs.length ≤ c ∧ Kd.C k69 W A xs.length xs) :=
 opens_slice (sz := 3) Tryz.underlying38 (by kernel_rfl) (opens_change enc W)
set_option maxRecDepth 100000 in
theorem opens_op {H : Type} (enc : TypeId × Value → H) (W : World) : de_ enc Tryz.prog W 36 (fun (y : Int × ByteArray × ByteArray × List ByteArray × Int) cs => ∃ A c, cs = [.int .i64 y.1, .string y.2.1, .string y.2.2.1, .slice A y.2.2.2.1.length c, .int .i64 y.2.2.2.2] ∧ y.2.2.2.1.length ≤ c ∧ Kd.C Kd.string W A y.2.2.2.1.length y.2.2.2.1) := by
 refine opens_mono (opens_struct5 Tryz.underlying36 (di_ Tryz.underlying3) (opens_string Tryz.underlying9) (opens_string Tryz.underlying9) (opens_strs enc W) (di_ Tryz.underlying3)) ?_
 rintro ⟨a, b, c, d, e⟩ cs ⟨hl, r0, r1, r2, r3, r4⟩
 have hl2 : cs.length = 5 := hl.trans (by kernel_rfl)
 match cs, hl2 with
 | [u0, u1, u2, u3, u4], _ =>
  have q0 : [u0] = [.int .i64 a] ∧ _ := r0
  have q1 : [u1] = [.string b] ∧ _ := r1
  have q2 : [u2] = [.string c] ∧ _ := r2
  have q3 : ∃ A cp, [u3] = [.slice A d.length cp] ∧ d.length ≤ cp ∧ Kd.C Kd.string W A d.length d := r3
  have q4 : [u4] = [.int .i64 e] ∧ _ := r4
  obtain ⟨q0, _⟩ := q0
  obtain ⟨q1, _⟩ := q1
  obtain ⟨q2, _⟩ := q2
  obtain ⟨A, cp, q3, h1, h2⟩ := q3
  obtain ⟨q4, _⟩ := q4
  simp only [List.cons.injEq, and_true] at q0 q1 q2 q3 q4
  subst q0 q1 q2 q3 q4
  exact ⟨A, cp, rfl, h1, h2⟩
set_option maxRecDepth 100000 in
theorem opens_msg {H : Type} (enc : TypeId × Value → H) (W : World) : de_ enc Tryz.prog W 40 (MsgR W) := by
 refine opens_map (fun y : Int × Int × Int × Int × ByteArray × List S90 × List S69 => (⟨y.1, y.2.1, y.2.2.1, y.2.2.2.1, y.2.2.2.2.1, y.2.2.2.2.2.1, y.2.2.2.2.2.2⟩ : MG)) (opens_struct7 Tryz.underlying40 (di_ Tryz.underlying3) (di_ Tryz.underlying3) (di_ Tryz.underlying3) (di_ Tryz.underlying3) (opens_string Tryz.underlying9) (opens_proofs enc W) (opens_changes enc W)) ?_
 rintro ⟨a, b, c, d, s, p, q⟩ cs ⟨hl, r0, r1, r2, r3, r4, r5, r6⟩
 have hl2 : cs.length = 7 := hl.trans (by kernel_rfl)
 match cs, hl2 with
 | [u0, u1, u2, u3, u4, u5, u6], _ =>
  have q0 : [u0] = [.int .i64 a] ∧ _ := r0
  have q1 : [u1] = [.int .i64 b] ∧ IntKind.i64.min ≤ b ∧ b ≤ IntKind.i64.max := r1
  have q2 : [u2] = [.int .i64 c] ∧ _ := r2
  have q3 : [u3] = [.int .i64 d] ∧ _ := r3
  have q4 : [u4] = [.string s] ∧ _ := r4
  have q5 : ∃ A cp, [u5] = [.slice A p.length cp] ∧ p.length ≤ cp ∧ Kd.C k90 W A p.length p := r5
  have q6 : ∃ A cp, [u6] = [.slice A q.length cp] ∧ q.length ≤ cp ∧ Kd.C k69 W A q.length q := r6
  obtain ⟨q0, _⟩ := q0
  obtain ⟨q1, q11⟩ := q1
  obtain ⟨q2, _⟩ := q2
  obtain ⟨q3, _⟩ := q3
  obtain ⟨q4, _⟩ := q4
  obtain ⟨A, cp, q5, h1, h2⟩ := q5
  obtain ⟨B, ep, q6, h3, h4⟩ := q6
  simp only [List.cons.injEq, and_true] at q0 q1 q2 q3 q4 q5 q6
  subst q0 q1 q2 q3 q4 q5 q6
  exact ⟨A, cp, B, ep, rfl, q11, h1, h2, h3, h4⟩
end Go.Proofs.YtlcfcaokihoplaaGreatDoor.Opening
