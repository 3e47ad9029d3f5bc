-- Cut by a program of this session (wip/shake.py) out of a text of this seat: what this claim doesn't reach is struck out. Lean checks it.
import Derived.Test.YtlcfcaokihoplaaDoorClientCCo
import Derived.Deep.QuietTactic
import Derived.BigQuiet
namespace Go.Proofs.YtlcfcaokihoplaaDoor.Cli
open Go.RowKit Go.Proofs.YtlcfcaokihoplaaDoor.Ms Go.Proofs.YtlcfcaokihoplaaDoorW.PrintWords Go.Proofs.YtlcfcaokihoplaaDoorW.PrintLast Go.Proofs.YtlcfcaokihoplaaDoorW.PrintMore
set_option linter.unusedVariables false
set_option linter.unusedSimpArgs false
def onTake (f t : Int) (wt : Bool) (vs : List S70) (kd fr sq : Int) : Bool := wt && (kd == 7) && decide (0 ≤ fr) && decide (fr ≤ 3 * f) && (sq == t) && !(vs.any fun v => v.f0 == fr)
def accZ : Value := .agg #[.int .i64 0, .int .i64 0, .int .i64 0, .int .i64 0, .slice none 0 0, .slice none 0 0, .slice none 0 0]
theorem zeroA {W : World} {b : Nat} {T : TypeId} (h : W.heap[b]? = some (.cells #[.int .i64 0, .int .i64 0, .int .i64 0, .int .i64 0, .slice none 0 0, .slice none 0 0, .slice none 0 0] T (0, 0))) : W.cell? ⟨b, 0, none⟩ = some (.int .i64 0) ∧ W.cell? ⟨b, 1, none⟩ = some (.int .i64 0) ∧ W.cell? ⟨b, 2, none⟩ = some (.int .i64 0) ∧ W.cell? ⟨b, 3, none⟩ = some (.int .i64 0) ∧ W.cell? ⟨b, 4, none⟩ = some (.slice none 0 0) ∧ W.cell? ⟨b, 5, none⟩ = some (.slice none 0 0) ∧ W.cell? ⟨b, 6, none⟩ = some (.slice none 0 0) ∧ W.frozen? ⟨b, 0, none⟩ = false ∧ W.frozen? ⟨b, 1, none⟩ = false ∧ W.frozen? ⟨b, 2, none⟩ = false ∧ W.frozen? ⟨b, 3, none⟩ = false ∧ W.frozen? ⟨b, 4, none⟩ = false ∧ W.frozen? ⟨b, 5, none⟩ = false ∧ W.frozen? ⟨b, 6, none⟩ = false :=
  ⟨(blk_cell h 0).trans rfl, (blk_cell h 1).trans rfl, (blk_cell h 2).trans rfl, (blk_cell h 3).trans rfl, (blk_cell h 4).trans rfl, (blk_cell h 5).trans rfl, (blk_cell h 6).trans rfl, blk_frozen h 0, blk_frozen h 1, blk_frozen h 2, blk_frozen h 3, blk_frozen h 4, blk_frozen h 5, blk_frozen h 6⟩
theorem onTake_no {f t : Int} {wt : Bool} {vs : List S70} {kd fr sq : Int} (h : onTake f t wt vs kd fr sq = false) :
    wt = false ∨ (wt = true ∧ (kd != 7) = true) ∨ (wt = true ∧ (kd != 7) = false ∧ decide (fr < 0) = true) ∨ (wt = true ∧ (kd != 7) = false ∧ decide (fr < 0) = false ∧ decide (3 * f < fr) = true) ∨ (wt = true ∧ (kd != 7) = false ∧ decide (fr < 0) = false ∧ decide (3 * f < fr) = false ∧ (sq != t) = true) ∨ (wt = true ∧ (kd != 7) = false ∧ decide (fr < 0) = false ∧ decide (3 * f < fr) = false ∧ (sq != t) = false ∧ (vs.any fun v => v.f0 == fr) = true) := by
  unfold onTake at h
  cases wt with
  | false => exact .inl rfl
  | true =>
    refine .inr ?_
    by_cases a : kd = 7
    · by_cases b : fr < 0
      · exact .inr (.inl ⟨rfl, by simp [a], by simpa using b⟩)
      · by_cases c : 3 * f < fr
        · exact .inr (.inr (.inl ⟨rfl, by simp [a], by simpa using b, by simpa using c⟩))
        · by_cases d : sq = t
          · refine .inr (.inr (.inr (.inr ⟨rfl, by simp [a], by simpa using b, by simpa using c, by simp [d], ?_⟩)))
            cases hs : (vs.any fun v => v.f0 == fr) with
            | true => rfl
            | false =>
              rw [hs, decide_eq_true (show 0 ≤ fr by omega), decide_eq_true (show fr ≤ 3 * f by omega)] at h
              simp [a, d] at h
          · exact .inr (.inr (.inr (.inl ⟨rfl, by simp [a], by simpa using b, by simpa using c, by simp [d]⟩)))
    · exact .inl ⟨rfl, by simp [a]⟩
theorem onTake_yes {f t : Int} {wt : Bool} {vs : List S70} {kd fr sq : Int} (h : onTake f t wt vs kd fr sq = true) :
    wt = true ∧ kd = 7 ∧ 0 ≤ fr ∧ fr ≤ 3 * f ∧ sq = t ∧ (vs.any fun v => v.f0 == fr) = false := by
  unfold onTake at h
  simp only [Bool.and_eq_true, decide_eq_true_eq, beq_iff_eq, Bool.not_eq_true'] at h
  obtain ⟨⟨⟨⟨⟨a, b⟩, c⟩, d⟩, e⟩, q⟩ := h
  exact ⟨a, b, c, d, e, q⟩
set_option maxHeartbeats 8000000 in
set_option maxRecDepth 100000 in
theorem client_On_no (w : World) (B : Nat) (ok : Nat → Prop) (g : Nat) (f id t : Int) (wt : Bool) (body : ByteArray) (vs : List S70) (h : ClientAt w B ok g f id t wt body vs) (hf : 1 ≤ f ∧ f ≤ 4)
    (kd fr vw sq : Int) (bd : ByteArray) (A6 : Option Addr) (n6 c6 : Nat) (A7 : Option Addr) (n7 c7 : Nat) (hno : onTake f t wt vs kd fr sq = false) :
    Calls Tryd.prog 11 #[.pointer (some ⟨g, 0, none⟩), .agg #[.int .i64 kd, .int .i64 fr, .int .i64 vw, .int .i64 sq, .string bd, .slice A6 n6 c6, .slice A7 n7 c7]] w fun e w' => e = .returned (.tuple #[accZ, .bool false]) ∧ Below w.heap.size w w' := by
  have hgl := h.glt
  obtain ⟨Av, cv, hb, hr, hB, hok, hvl⟩ := h.open_
  have c5 : w.cell? ⟨g, 5, none⟩ = some (.slice Av vs.length cv) := (blk_cell hb 5).trans rfl
  have HB := Lib.hid hb
  have HR := Lib.hid (Kd.R_reads' hr)
  have hgw : g ≠ w.heap.size := by omega
  have hgw1 : g ≠ w.heap.size + 1 := by omega
  have hw3 : wrap64 (3 * f) = 3 * f := by unfold wrap64; omega
  have HW3 := Lib.hid hw3
  have HNO := Lib.hid (onTake_no hno)
  have HGL := Lib.hid hgl
  clear hb hr hB hok hvl h hno hw3 hf
  go_enter Tryd.func11, Tryd.ntmps11
  go_wp2_with fail
  obtain ⟨b1, hb1⟩ : ∃ b1, b1 = w.heap.size := ⟨_, rfl⟩
  have hX1 := heap_alloc_new w (.cells #[.int .i64 kd, .int .i64 fr, .int .i64 vw, .int .i64 sq, .string bd, .slice A6 n6 c6, .slice A7 n7 c7] 37)
  have hB1 : Below w.heap.size w (w.alloc (.cells #[.int .i64 kd, .int .i64 fr, .int .i64 vw, .int .i64 sq, .string bd, .slice A6 n6 c6, .slice A7 n7 c7] 37)) := (Below.refl _ w).alloc (Nat.le_refl _) _
  have hs1 : (w.alloc (.cells #[.int .i64 kd, .int .i64 fr, .int .i64 vw, .int .i64 sq, .string bd, .slice A6 n6 c6, .slice A7 n7 c7] 37)).heap.size = w.heap.size + 1 := by simp
  generalize w.alloc (.cells #[.int .i64 kd, .int .i64 fr, .int .i64 vw, .int .i64 sq, .string bd, .slice A6 n6 c6, .slice A7 n7 c7] 37) = wa at hX1 hB1 hs1 ⊢
  have hX2 := heap_alloc_new wa (.cells #[.int .i64 0, .int .i64 0, .int .i64 0, .int .i64 0, .slice none 0 0, .slice none 0 0, .slice none 0 0] 46)
  have hB2 : Below wa.heap.size wa (wa.alloc (.cells #[.int .i64 0, .int .i64 0, .int .i64 0, .int .i64 0, .slice none 0 0, .slice none 0 0, .slice none 0 0] 46)) := (Below.refl _ wa).alloc (Nat.le_refl _) _
  generalize wa.alloc (.cells #[.int .i64 0, .int .i64 0, .int .i64 0, .int .i64 0, .slice none 0 0, .slice none 0 0, .slice none 0 0] 46) = w1 at hX2 hB2 ⊢
  rw [hs1] at hX2
  rw [← hb1] at hX1 hX2 hgw hgw1 ⊢
  have hX1' := blk_below hX1 hB2
  have HX1 := Lib.hid hX1'
  have HX2 := Lib.hid hX2
  have HBL : Hid (Below w.heap.size w w1) := Lib.hid (hB1.trans (hB2.mono hB1.size))
  have HBB := Lib.hid hb1
  clear hX1 hX2 hB1 hB2 hs1 hX1' hb1 c5 wa
  refine (said_calls w1 Av cv vs b1 fr (Kd.C_below HR.out.2.2 HBL.out) ((blk_cell HX1.out 1).trans rfl)).mono ?_
  rintro e w2 ⟨rfl, hb2⟩
  have hX := blk_below HX1.out hb2
  have hZ := blk_below HX2.out hb2
  have hG := blk_below (blk_below HB.out HBL.out) hb2
  have HBw2 := Lib.hid (HBL.out.trans (hb2.mono HBL.out.size))
  have m0 : w2.cell? ⟨b1, 0, none⟩ = some (.int .i64 kd) := (blk_cell hX 0).trans rfl
  have m1 : w2.cell? ⟨b1, 1, none⟩ = some (.int .i64 fr) := (blk_cell hX 1).trans rfl
  have m3 : w2.cell? ⟨b1, 3, none⟩ = some (.int .i64 sq) := (blk_cell hX 3).trans rfl
  have g0 : w2.cell? ⟨g, 0, none⟩ = some (.int .i64 f) := (blk_cell hG 0).trans rfl
  have g2 : w2.cell? ⟨g, 2, none⟩ = some (.int .i64 t) := (blk_cell hG 2).trans rfl
  have g3 : w2.cell? ⟨g, 3, none⟩ = some (.bool wt) := (blk_cell hG 3).trans rfl
  have HZ := Lib.hid hZ
  clear hX hZ hG hb2
  go_wp2_with fail
  have hw3 := HW3.out
  rcases HNO.out with q1 | ⟨q1, q2⟩ | ⟨q1, q2, q3⟩ | ⟨q1, q2, q3, q4⟩ | ⟨q1, q2, q3, q4, q5⟩ | ⟨q1, q2, q3, q4, q5, q6⟩
  all_goals
    subst q1
    try rw [q6]
    go_quiet (fail)
    obtain ⟨z0, z1, z2, z3, z4, z5, z6, y0, y1, y2, y3, y4, y5, y6⟩ := zeroA HZ.out
    clear m0 m1 m3 g0 g2 g3
    go_wp2
    refine bodyPost_ret (v := .tuple #[accZ, .bool false]) ?_ rfl ?_
    · unfold results
      go_simp
      rfl
    exact ⟨rfl, set7_below (pw_below_drewN HBw2.out _) (by have := HBB.out; omega) _ _ _ _ _ _ _⟩
end Go.Proofs.YtlcfcaokihoplaaDoor.Cli
