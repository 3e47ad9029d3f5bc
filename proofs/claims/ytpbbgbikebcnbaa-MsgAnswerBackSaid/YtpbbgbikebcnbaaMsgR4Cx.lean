-- Cut by a program of this session (wip/shake.py) out of a text of this seat: what this claim doesn't reach is struck out. Lean checks it.
import Derived.Test.YtpbbgbikebcnbaaMsgRCx
import Derived.Lib.Hide
import Derived.BigRegion
namespace Go.Proofs.Ytpbbgbikebcnbaa.MsgL
open Go.RowKit Go.Proofs.Ytpbbgbikebcnbaa.Mw Go.Proofs.YtpbbgbikebcnbaaW.PrintWords Go.Proofs.YtpbbgbikebcnbaaW.PrintLast Go.Proofs.YtpbbgbikebcnbaaW.PrintMore
set_option linter.unusedVariables false
set_option linter.unusedSimpArgs false
set_option maxHeartbeats 4000000 in
set_option maxRecDepth 100000 in
theorem rnum_calls (w0 W : World) (g : Nat) (A : Option Addr) (c : Nat) (l : List Int) (at_ : Nat) (bad : Bool) (most : Int) (hm : 0 ≤ most ∧ most ≤ big31) (h : RS 79 w0 W g A l.length c at_ bad) (hC : Kd.C (Kd.int .u8) w0 A l.length l) (hc : l.length ≤ c) (hb : bytesOk l) (hl : l.length ≤ 100000000) (ha : at_ ≤ l.length) :
  Calls Try.prog 42 #[.pointer (some ⟨g, 0, none⟩), .int .u64 most] W fun e w' => e = .returned (.int .i64 (numOf l most at_ bad).1) ∧ RS 79 w0 w' g A l.length c (numOf l most at_ bad).2.1 (numOf l most at_ bad).2.2 ∧ Kept W w' (fun k => k = g) ∧ Below w0.heap.size W w' := by
 obtain ⟨hg, hge, hB⟩ := h
 have hf := refget_f l hb at_ ha (by omega) 40 (Nat.le_refl _)
 have hgl := gn_less 18446744073709551615 most (by have := hm.2; unfold big31 at this; omega) (l.drop at_) 0 0
 have hbd : bytesOk (l.drop at_) := fun x hx => hb x (List.mem_of_mem_drop hx)
 have c0 : W.cell? ⟨g, 0, none⟩ = some (.slice A l.length c) := (blk_cell hg 0).trans rfl
 have c1 : W.cell? ⟨g, 1, none⟩ = some (.int .i64 (at_ : Int)) := (blk_cell hg 1).trans rfl
 have c2 : W.cell? ⟨g, 2, none⟩ = some (.bool bad) := (blk_cell hg 2).trans rfl
 have HG := Lib.hid hg
 have HGE := Lib.hid hge
 have HB := Lib.hid hB
 have hcw : ∀ n, Kd.C (Kd.int .u8) (W.drewN n) A l.length l := fun n => Kd.C_drewN (Kd.C_below hC hB) n
 have HC := Lib.hid hcw
 have HBD := Lib.hid hbd
 have f1 := blk_frozen hg 1
 have f2 := blk_frozen hg 2
 clear hg hge hB hC hbd hcw
 cases bad with
 | true =>
  have hout : numOf l most at_ true = (0, at_, true) := by unfold numOf; rw [if_pos rfl]
  rw [hout]
  clear hf hgl hout f1 f2
  go_enter Try.func42, Try.ntmps42
  go_wp2
  go_ret
  exact ⟨rfl, ⟨HG.out, HGE.out, HB.out⟩, Kept.refl _ _, Below.refl _ _⟩
 | false =>
  generalize hr : gn 18446744073709551615 0 0 (l.drop at_) = r at hf hgl
  obtain ⟨v, nx, er⟩ := r
  cases er with
  | some z =>
   simp only at hf hgl
   have hout : numOf l most at_ false = (0, at_, true) := by unfold numOf; rw [if_neg (by decide), hgl]; rfl
   rw [hout]
   have HF := Lib.hid hf
   clear hf hgl hout hr f1
   go_enter Try.func42, Try.ntmps42
   go_wp2_with fail
   go_region_with (go_at_call 66; refine (becketref01_GetNum.calls 40 A c l (at_ : Int) 0 0 _ (by first | exact HC.out 1 | exact HC.out 0) hc HF.out).mono ?_; rintro e w1 ⟨rfl, hb0⟩; have hb1 : Below W.heap.size W w1 := ((Below.refl W.heap.size W).drew).trans hb0; clear hb0)
   all_goals
    have HB1 := Lib.hid hb1
    have f2' := blk_frozen (blk_below HG.out hb1) 2
    have c2' : w1.cell? ⟨g, 2, none⟩ = some (.bool false) := (blk_cell (blk_below HG.out hb1) 2).trans rfl
    clear hb1 f2
    go_wp2
    go_ret
    exact ⟨rfl, rs_bad HG.out HGE.out HB.out HB1.out (Kept.of_below HB1.out _) true⟩
  | none =>
   simp only at hf hgl
   obtain ⟨_, m, g1, g2, g3, _, _, post, g6⟩ := gn_back 18446744073709551615 (l.drop at_) 0 0 v nx HBD.out hr
   simp only [Int.pow_zero, Int.mul_one, Int.zero_add] at g1
   have hep := enc_pos m
   have hlen := congrArg List.length g6
   rw [List.length_drop, List.length_append] at hlen
   have hk0 : (nx == 0) = false := by simp; omega
   have HF := Lib.hid hf
   by_cases hv : most < v
   ·have hout : numOf l most at_ false = (0, at_, true) := by unfold numOf; rw [if_neg (by decide), hgl, if_pos hv]; rfl
    rw [hout]
    have hd : decide (most < v) = true := decide_eq_true hv
    clear hf hgl hout hr f1 g1 g2 g3 g6 hep hlen hv
    go_enter Try.func42, Try.ntmps42
    go_wp2_with fail
    go_region_with (go_at_call 66; refine (becketref01_GetNum.calls 40 A c l (at_ : Int) v nx _ (by first | exact HC.out 1 | exact HC.out 0) hc HF.out).mono ?_; rintro e w1 ⟨rfl, hb0⟩; have hb1 : Below W.heap.size W w1 := ((Below.refl W.heap.size W).drew).trans hb0; clear hb0)
    all_goals
     have HB1 := Lib.hid hb1
     have f2' := blk_frozen (blk_below HG.out hb1) 2
     have c2' : w1.cell? ⟨g, 2, none⟩ = some (.bool false) := (blk_cell (blk_below HG.out hb1) 2).trans rfl
     clear hb1 f2
     go_wp2
     go_ret
     exact ⟨rfl, rs_bad HG.out HGE.out HB.out HB1.out (Kept.of_below HB1.out _) true⟩
   ·have hout : numOf l most at_ false = (v, ((at_ : Int) + nx).toNat, false) := by unfold numOf; rw [if_neg (by decide), hgl, if_neg hv]; rfl
    rw [hout]
    have hd : decide (most < v) = false := decide_eq_false hv
    obtain ⟨k, hk⟩ : ∃ k : Nat, (at_ : Int) + nx = k := ⟨((at_ : Int) + nx).toNat, by omega⟩
    have hw1 : wrap64 v = v := wr_id (by omega) (by have := hm.2; omega)
    have hw2 : wrap64 ((at_ : Int) + nx) = (k : Int) := by
     have hk2 : k ≤ l.length := by omega
     clear hw1
     rw [hk]
     unfold wrap64
     omega
    have HK := Lib.hid hk
    clear hf hgl hout hr f2 g1 g2 g3 g6 hep hlen hv hk
    go_enter Try.func42, Try.ntmps42
    go_wp2_with fail
    go_region_with (go_at_call 66; refine (becketref01_GetNum.calls 40 A c l (at_ : Int) v nx _ (by first | exact HC.out 1 | exact HC.out 0) hc HF.out).mono ?_; rintro e w1 ⟨rfl, hb0⟩; have hb1 : Below W.heap.size W w1 := ((Below.refl W.heap.size W).drew).trans hb0; clear hb0)
    all_goals
     have HB1 := Lib.hid hb1
     have f1' := blk_frozen (blk_below HG.out hb1) 1
     have c1' : w1.cell? ⟨g, 1, none⟩ = some (.int .i64 (at_ : Int)) := (blk_cell (blk_below HG.out hb1) 1).trans rfl
     clear hb1 f1
     go_wp2
     go_ret
     rw [hw2, HK.out, Int.toNat_natCast]
     refine ⟨?_, rs_at ⟨⟨blk_below HG.out HB1.out, HGE.out, HB.out.trans (HB1.out.mono HB.out.size)⟩, Kept.of_below HB1.out _, HB1.out.mono HB.out.size⟩ k⟩
     show Ending.returned (.int .i64 (wrap64 v)) = _
     rw [hw1]
end Go.Proofs.Ytpbbgbikebcnbaa.MsgL
