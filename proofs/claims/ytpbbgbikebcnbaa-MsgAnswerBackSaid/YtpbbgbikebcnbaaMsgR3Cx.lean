-- Cut by a program of this session (wip/shake.py) out of a text of this seat: what this claim doesn't reach is struck out. Lean checks it.
import Derived.Test.YtpbbgbikebcnbaaMsgRCx
import Derived.Lib.Hide
import Derived.BigRegion
namespace Go.Proofs.Ytpbbgbikebcnbaa.MsgL
open Go.RowKit Go.Proofs.Ytpbbgbikebcnbaa.Mw Go.Proofs.YtpbbgbikebcnbaaW.PrintWords Go.Proofs.YtpbbgbikebcnbaaW.PrintLast Go.Proofs.YtpbbgbikebcnbaaW.PrintMore
set_option linter.unusedVariables false
set_option linter.unusedSimpArgs false
set_option maxHeartbeats 4000000 in
set_option maxRecDepth 100000 in
theorem great_calls (most : Int) (hm : 0 ≤ most ∧ most ≤ big31) (w0 W : World) (g : Nat) (A : Option Addr) (c : Nat) (l : List Int) (at_ : Nat) (bad : Bool) (h : RS 73 w0 W g A l.length c at_ bad) (hC : Kd.C (Kd.int .u8) w0 A l.length l) (hc : l.length ≤ c) (hb : bytesOk l) (hl : l.length ≤ 100000000) (ha : at_ ≤ l.length) :
  Calls Try.prog 53 #[.pointer (some ⟨g, 0, none⟩), .int .u64 most] W fun e w' => e = .returned (.int .i64 (numOf l most at_ bad).1) ∧ RS 73 w0 w' g A l.length c (numOf l most at_ bad).2.1 (numOf l most at_ bad).2.2 ∧ Kept W w' (fun k => k = g) ∧ Below w0.heap.size W w' := by
 obtain ⟨hg, hge, hB⟩ := h
 have hf := getnum_f l at_ most hb ha (by omega) (2 * l.length + 4) (by omega)
 have hcw : ∀ n, Kd.C (Kd.int .u8) (W.drewN n) A l.length l := fun n => Kd.C_drewN (Kd.C_below hC hB) n
 have c0 : W.cell? ⟨g, 0, none⟩ = some (.slice A l.length c) := (blk_cell hg 0).trans rfl
 have c1 : W.cell? ⟨g, 1, none⟩ = some (.int .i64 (at_ : Int)) := (blk_cell hg 1).trans rfl
 have c2 : W.cell? ⟨g, 2, none⟩ = some (.bool bad) := (blk_cell hg 2).trans rfl
 have HG := Lib.hid hg
 have HM := Lib.hid hm
 clear hm
 have HGE := Lib.hid hge
 have HB := Lib.hid hB
 have HC := Lib.hid hcw
 have HF := Lib.hid hf
 clear hg hge hB hC hcw hf
 generalize hq : gat (at_ : Int) (gn most 0 0 (l.drop at_)) = q at HF
 obtain ⟨v, nx, er⟩ := q
 have f1 := blk_frozen HG.out 1
 have f2 := blk_frozen HG.out 2
 have hout : numOf l most at_ bad = if bad = true then (0, at_, true) else match er with | none => (v, nx.toNat, false) | some _ => (0, at_, true) := by
  unfold numOf
  rw [hq]
  cases er <;> rfl
 rw [hout]
 have HQ := Lib.hid hq
 clear hq hout
 cases bad with
 | true =>
  go_enter Try.func53, Try.ntmps53
  go_wp2
  go_ret
  exact ⟨rfl, rs_bad HG.out HGE.out HB.out (Below.refl _ _) (Kept.refl _ _) true⟩
 | false =>
  go_enter Try.func53, Try.ntmps53
  go_wp2_with fail
  go_region_with (go_at_call 64; refine (wire_GetNum.calls (2 * l.length + 4) A c l at_ most v nx er _ (by first | exact HC.out 1 | exact HC.out 0) hc HF.out).mono ?_; rintro e w1 ⟨rfl, ⟨mz, rfl⟩⟩)
  all_goals
   cases er with
   | none =>
    have hgn := gat_none HQ.out
    have hb2 := gn_next most (l.drop at_) v (nx - at_) (fun x hx => hb x (List.drop_subset _ _ hx)) hgn
    obtain ⟨m, rfl⟩ : ∃ m : Nat, nx = m := ⟨nx.toNat, by omega⟩
    have hv : wrap64 v = v := wr_id hb2.1 (Int.le_trans hb2.2.1 HM.out.2)
    clear hb2 hgn
    rw [errW_none]
    go_wp2
    go_ret
    exact ⟨rfl, rs_at ⟨⟨blk_below HG.out (pw_below_drewN (Below.refl _ _) _), HGE.out, HB.out.trans ((pw_below_drewN (Below.refl _ _) _).mono HB.out.size)⟩, Kept.drewN (Kept.refl _ _) _, (pw_below_drewN (Below.refl _ _) _).mono HB.out.size⟩ m⟩
   | some z =>
    rw [errW_some]
    go_wp2
    go_ret
    exact ⟨rfl, rs_bad HG.out HGE.out HB.out (pw_below_drewN (Below.refl _ _) _) (Kept.drewN (Kept.refl _ _) _) true⟩
end Go.Proofs.Ytpbbgbikebcnbaa.MsgL

namespace Go.Proofs.Ytpbbgbikebcnbaa.MsgL
open Go.RowKit Go.Proofs.Ytpbbgbikebcnbaa.Mw Go.Proofs.YtpbbgbikebcnbaaW.PrintWords Go.Proofs.YtpbbgbikebcnbaaW.PrintLast Go.Proofs.YtpbbgbikebcnbaaW.PrintMore
set_option linter.unusedVariables false
set_option linter.unusedSimpArgs false
def txtOf (l : List Int) (at_ : Nat) (bad : Bool) : ByteArray × Nat × Bool :=
 if bad = true then (⟨#[]⟩, at_, true) else
 match gn 4096 0 0 (l.drop at_) with
 | (v, c, none) => if (at_ : Int) + c + v > (l.length : Int) then (⟨#[]⟩, at_, true) else (strOfNums ((l.take ((at_ : Int) + c + v).toNat).drop ((at_ : Int) + c).toNat), ((at_ : Int) + c + v).toNat, false)
 | (_, _, some _) => (⟨#[]⟩, at_, true)
set_option maxHeartbeats 4000000 in
set_option maxRecDepth 100000 in
theorem text_calls (w0 W : World) (g : Nat) (A : Option Addr) (c : Nat) (l : List Int) (at_ : Nat) (bad : Bool) (h : RS 73 w0 W g A l.length c at_ bad) (hC : Kd.C (Kd.int .u8) w0 A l.length l) (hc : l.length ≤ c) (hb : bytesOk l) (hl : l.length ≤ 100000000) (ha : at_ ≤ l.length) :
  Calls Try.prog 40 #[.pointer (some ⟨g, 0, none⟩)] W fun e w' => e = .returned (.string (txtOf l at_ bad).1) ∧ RS 73 w0 w' g A l.length c (txtOf l at_ bad).2.1 (txtOf l at_ bad).2.2 ∧ Kept W w' (fun k => k = g) ∧ Below w0.heap.size W w' := by
 obtain ⟨hg, hge, hB⟩ := h
 have hf := gettext_f l at_ 4096 (by omega) (by omega) hb ha (by omega) (2 * l.length + 5) (by omega)
 have hcw : ∀ n, Kd.C (Kd.int .u8) (W.drewN n) A l.length l := fun n => Kd.C_drewN (Kd.C_below hC hB) n
 have c0 : W.cell? ⟨g, 0, none⟩ = some (.slice A l.length c) := (blk_cell hg 0).trans rfl
 have c1 : W.cell? ⟨g, 1, none⟩ = some (.int .i64 (at_ : Int)) := (blk_cell hg 1).trans rfl
 have c2 : W.cell? ⟨g, 2, none⟩ = some (.bool bad) := (blk_cell hg 2).trans rfl
 have HG := Lib.hid hg
 have HGE := Lib.hid hge
 have HB := Lib.hid hB
 have HC := Lib.hid hcw
 clear hg hge hB hC hcw
 have f1 := blk_frozen HG.out 1
 have f2 := blk_frozen HG.out 2
 obtain ⟨s, m, er, hf', hout⟩ : ∃ (s : ByteArray) (m : Nat) (er : Option Int), wire_GetText.f (2 * l.length + 5) l (at_ : Int) 4096 = some (s, (m : Int), er) ∧ txtOf l at_ bad = if bad = true then (⟨#[]⟩, at_, true) else match er with | none => (s, m, false) | some _ => (⟨#[]⟩, at_, true) := by
  rw [hf]
  unfold txtOf
  cases hg : gn 4096 0 0 (l.drop at_) with
  | mk v r =>
   obtain ⟨cc, er⟩ := r
   cases er with
   | none =>
    have hb2 := gn_next 4096 (l.drop at_) v cc (fun x hx => hb x (List.drop_subset _ _ hx)) hg
    simp only
    by_cases hh : (at_ : Int) + cc + v > (l.length : Int)
    ·rw [if_pos hh, if_pos hh]
     exact ⟨_, 0, some 2, rfl, rfl⟩
    ·rw [if_neg hh, if_neg hh]
     refine ⟨_, ((at_ : Int) + cc + v).toNat, none, ?_, rfl⟩
     rw [Int.toNat_of_nonneg (by omega)]
   | some z => exact ⟨_, 0, some z, rfl, rfl⟩
 rw [hout]
 have HF := Lib.hid hf'
 clear hf hf' hout
 cases bad with
 | true =>
  go_enter Try.func40, Try.ntmps40
  go_wp2
  go_ret
  exact ⟨rfl, rs_bad HG.out HGE.out HB.out (Below.refl _ _) (Kept.refl _ _) true⟩
 | false =>
  go_enter Try.func40, Try.ntmps40
  go_wp2_with fail
  go_region_with (go_at_call 65; refine (wire_GetText.calls (2 * l.length + 5) A c l at_ 4096 s m er _ (by first | exact HC.out 1 | exact HC.out 0) hc HF.out).mono ?_; rintro e w1 ⟨rfl, ⟨mz, rfl⟩⟩)
  all_goals
   cases er with
   | none =>
    rw [errW_none]
    go_wp2
    go_ret
    exact ⟨rfl, rs_at ⟨⟨blk_below HG.out (pw_below_drewN (Below.refl _ _) _), HGE.out, HB.out.trans ((pw_below_drewN (Below.refl _ _) _).mono HB.out.size)⟩, Kept.drewN (Kept.refl _ _) _, (pw_below_drewN (Below.refl _ _) _).mono HB.out.size⟩ m⟩
   | some z =>
    rw [errW_some]
    go_wp2
    go_ret
    exact ⟨rfl, rs_bad HG.out HGE.out HB.out (pw_below_drewN (Below.refl _ _) _) (Kept.drewN (Kept.refl _ _) _) true⟩
end Go.Proofs.Ytpbbgbikebcnbaa.MsgL
