-- Cut by a program of this session (wip/shake.py) out of a text of this seat: what this claim doesn't reach is struck out. Lean checks it.
import Derived.Test.YtpbbgbikebcnbaaPureNDCw
import Derived.Test.YtpbbgbikebcnbaaMsgUCw
import Derived.Lib.Hide
import Derived.BigRegion
namespace Go.Proofs.Ytpbbgbikebcnbaa.MsgP
open Go.RowKit Go.Proofs.Ytpbbgbikebcnbaa.Ms Go.Proofs.Ytpbbgbikebcnbaa.MsgL Go.Proofs.YtpbbgbikebcnbaaW.PrintWords Go.Proofs.YtpbbgbikebcnbaaW.PrintLast Go.Proofs.YtpbbgbikebcnbaaW.PrintMore
attribute [local go_sem] Go.Proofs.Ytpbbgbikebcnbaa.Ms.eqlErr Go.Proofs.Ytpbbgbikebcnbaa.Ms.neqErr Go.Proofs.Ytpbbgbikebcnbaa.Ms.eqlErrNil Go.Proofs.Ytpbbgbikebcnbaa.Ms.neqErrNil
set_option linter.unusedVariables false
set_option linter.unusedSimpArgs false
set_option maxHeartbeats 8000000 in
set_option maxRecDepth 100000 in
theorem ans_calls (a b : Int) (A : Option Addr) (cA : Nat) (n : List ByteArray) (B : Option Addr) (cB : Nat) (ks : List ByteArray) (C : Option Addr) (cC : Nat) (es : List S58) (s : ByteArray) (w : World) (hA : Kd.C Kd.string w A n.length n) (hcA : n.length ≤ cA) (hB : Kd.C Kd.string w B ks.length ks) (hcB : ks.length ≤ cB) (hC : Kd.C k58 w C es.length es) (hcC : es.length ≤ cC) :
  Calls Try.prog 8 #[.agg #[.int .i64 a, .int .i64 b, .slice A n.length cA, .slice B ks.length cB, .slice C es.length cC], .string s] w fun e w' => e = .returned (.bool true) ∧ Below w.heap.size w w' := by
 obtain ⟨k, hup, hk⟩ := AOk
 have HUP := Lib.hid hup
 have HKB := Lib.hid hk
 have HA := Lib.hid hA
 have HCA := Lib.hid hcA
 have HB := Lib.hid hB
 have HCB := Lib.hid hcB
 have HC := Lib.hid hC
 have HCC := Lib.hid hcC
 have HG0 := Lib.hid (heap_alloc_new w (.cells #[.int .i64 a, .int .i64 b, .slice A n.length cA, .slice B ks.length cB, .slice C es.length cC] 48))
 have HB0 := Lib.hid ((Below.refl w.heap.size w).alloc (Nat.le_refl _) (.cells #[.int .i64 a, .int .i64 b, .slice A n.length cA, .slice B ks.length cB, .slice C es.length cC] 48))
 clear hA hcA hB hcB hC hcC hup hk
 go_enter Try.func8, Try.ntmps8
 go_wp2_with fail
 refine (becketlaw12_up0.calls (k + 1) true _ HUP.out).mono ?_
 rintro e w1 ⟨rfl, hb⟩
 have HG1 := Lib.hid (blk_below HG0.out hb)
 have HB1 := Lib.hid (HB0.out.trans (hb.mono HB0.out.size))
 clear hb HG0 HB0
 have k0 := ((blk_cell HG1.out 0).trans rfl : (w1 : World).cell? ⟨w.heap.size, 0, none⟩ = some (.int .i64 a))
 have k1 := ((blk_cell HG1.out 1).trans rfl : (w1 : World).cell? ⟨w.heap.size, 1, none⟩ = some (.int .i64 b))
 have k2 := ((blk_cell HG1.out 2).trans rfl : (w1 : World).cell? ⟨w.heap.size, 2, none⟩ = some (.slice A n.length cA))
 have k3 := ((blk_cell HG1.out 3).trans rfl : (w1 : World).cell? ⟨w.heap.size, 3, none⟩ = some (.slice B ks.length cB))
 have k4 := ((blk_cell HG1.out 4).trans rfl : (w1 : World).cell? ⟨w.heap.size, 4, none⟩ = some (.slice C es.length cC))
 go_wp2_with fail
 clear k0 k1 k2 k3 k4
 refine (becketref04_Short.calls k C cC es _ w1 (Kd.C_below HC.out HB1.out) HCC.out (she_f es k (Nat.le_trans (by decide) HKB.out))).mono ?_
 rintro e w2 ⟨rfl, hd⟩
 have hb := drawn_below (Below.refl w1.heap.size w1) hd
 have HG2 := Lib.hid (blk_below HG1.out hb)
 have HB2 := Lib.hid (HB1.out.trans (hb.mono HB1.out.size))
 clear hb hd HG1 HB1
 have k0 := ((blk_cell HG2.out 0).trans rfl : (w2 : World).cell? ⟨w.heap.size, 0, none⟩ = some (.int .i64 a))
 have k1 := ((blk_cell HG2.out 1).trans rfl : (w2 : World).cell? ⟨w.heap.size, 1, none⟩ = some (.int .i64 b))
 have k2 := ((blk_cell HG2.out 2).trans rfl : (w2 : World).cell? ⟨w.heap.size, 2, none⟩ = some (.slice A n.length cA))
 have k3 := ((blk_cell HG2.out 3).trans rfl : (w2 : World).cell? ⟨w.heap.size, 3, none⟩ = some (.slice B ks.length cB))
 have k4 := ((blk_cell HG2.out 4).trans rfl : (w2 : World).cell? ⟨w.heap.size, 4, none⟩ = some (.slice C es.length cC))
 by_cases hs : shortE es = true
 rotate_left
 ·have hs' : shortE es = false := by simpa using hs
  rw [hs']
  clear hs hs'
  go_wp2
  go_ret
  exact ⟨rfl, HB2.out⟩
 rw [hs]
 have HSH := Lib.hid (shortE_iff hs)
 clear hs
 by_cases g1 : (500 : Int) < (n.length : Int)
 ·have hd1 : decide ((500 : Int) < (n.length : Int)) = true := decide_eq_true g1
  clear g1
  go_wp2
  go_ret
  exact ⟨rfl, HB2.out⟩
 have hd1 : decide ((500 : Int) < (n.length : Int)) = false := decide_eq_false g1
 by_cases g2 : (500 : Int) < (ks.length : Int)
 ·have hd2 : decide ((500 : Int) < (ks.length : Int)) = true := decide_eq_true g2
  clear g1 g2
  go_wp2
  go_ret
  exact ⟨rfl, HB2.out⟩
 have hd2 : decide ((500 : Int) < (ks.length : Int)) = false := decide_eq_false g2
 by_cases g3 : (6000 : Int) < (s.size : Int)
 ·have hd3 : decide ((6000 : Int) < (s.size : Int)) = true := decide_eq_true g3
  clear g1 g2 g3
  go_wp2
  go_ret
  exact ⟨rfl, HB2.out⟩
 have hd3 : decide ((6000 : Int) < (s.size : Int)) = false := decide_eq_false g3
 have ha : fitsB a b n ks es = true → (ansE a b n ks es).length ≤ 900000000 := fun hf => ansE_le hf (by omega) (by omega) HSH.out.1 HSH.out.2
 have HP1 := Lib.hid (putans_f a b n ks es 1200 (by omega) (by omega) (by have := HSH.out.1; omega) HSH.out.2 (by decide) ha k (Nat.le_trans (by decide) HKB.out))
 have HP2 := Lib.hid (refputans_f a b n ks es 1200 (by omega) (by omega) (by have := HSH.out.1; omega) HSH.out.2 (by decide) ha k (Nat.le_trans (by decide) HKB.out))
 have HGA := Lib.hid (getans s (by omega) k HKB.out)
 clear ha g1 g2 g3 HSH
 generalize putA a b n ks es = pa at HP1 HP2
 go_wp2_with fail
 clear k0 k1 k2 k3 k4
 have HD_g0 := HG2
 refine start_ (n := 5) (S := fun w' => w'.cell? ⟨w.heap.size, 0, none⟩ = some (.int .i64 a) ∧ w'.cell? ⟨w.heap.size, 1, none⟩ = some (.int .i64 b) ∧ w'.cell? ⟨w.heap.size, 2, none⟩ = some (.slice A n.length cA) ∧ w'.cell? ⟨w.heap.size, 3, none⟩ = some (.slice B ks.length cB) ∧ w'.cell? ⟨w.heap.size, 4, none⟩ = some (.slice C es.length cC)) (ds := []) #[false, false, false, false, false] (by kernel_rfl) rfl rfl ⟨((blk_cell (HD_g0.out) 0).trans rfl), ((blk_cell (HD_g0.out) 1).trans rfl), ((blk_cell (HD_g0.out) 2).trans rfl), ((blk_cell (HD_g0.out) 3).trans rfl), ((blk_cell (HD_g0.out) 4).trans rfl)⟩ (fun hHeld => ?_)
 refine take_ (i := 0) (N := some 35) (v := ?_) (a' := ?_) #[true, false, false, false, false] rfl rfl (by kernel_rfl) (fun _ _ _ h => h) (Or.inl ⟨by rfl, ?_⟩) hHeld ?_ ?_
 rotate_left
 ·rintro w' ⟨s0, s1, s2, s3, s4⟩
  go_simp
  with_reducible rfl
 rotate_left
 ·simp only [Act.put, List.setIfInBounds_toArray, List.set_cons_zero, List.set_cons_succ, i64_w, i32_w]
  rfl
 refine take_ (i := 2) (N := some 37) (v := ?_) (a' := ?_) #[true, false, true, false, false] rfl rfl (by kernel_rfl) (fun _ _ _ h => h) (Or.inl ⟨by rfl, ?_⟩) hHeld ?_ ?_
 rotate_left
 ·rintro w' ⟨s0, s1, s2, s3, s4⟩
  go_simp
  with_reducible rfl
 rotate_left
 ·simp only [Act.put, List.setIfInBounds_toArray, List.set_cons_zero, List.set_cons_succ, i64_w, i32_w]
  rfl
 refine one_ (i := 1) (N := some 36) #[true, true, true, false, false] rfl rfl (by kernel_rfl) (by decide) (fun K hK => ?_)
 refine goes_ Try.func21 (by kernel_rfl) rfl #[.agg #[.int .i64 a, .int .i64 b, .slice A n.length cA, .slice B ks.length cB, .slice C es.length cC]] (by rfl) rfl rfl (by simp only [List.map_toArray, List.map_cons, List.map_nil]; rfl) ?_
 with_reducible refine (msg_PutAnswer.calls k a b A cA n B cB ks C cC es pa _ (Kd.C_drew (Kd.C_below HA.out HB2.out)) HCA.out (Kd.C_drew (Kd.C_below HB.out HB2.out)) HCB.out (Kd.C_drew (Kd.C_below HC.out HB2.out)) HCC.out HP1.out).mono ?_
 rintro e wZ ⟨rfl, hb⟩
 refine ⟨_, rfl, ?_⟩
 replace hb : Below w2.heap.size w2 wZ := ((Below.refl w2.heap.size w2).drew).trans hb
 have HE_g0 := Lib.hid (blk_below HD_g0.out hb)
 have HBS := Lib.hid (HB2.out.trans (hb.mono HB2.out.size))
 clear hb
 refine hK.out _ _ ⟨((blk_cell (HE_g0.out) 0).trans rfl), ((blk_cell (HE_g0.out) 1).trans rfl), ((blk_cell (HE_g0.out) 2).trans rfl), ((blk_cell (HE_g0.out) 3).trans rfl), ((blk_cell (HE_g0.out) 4).trans rfl)⟩ (fun hHeld => ?_)
 clear hK K
 refine norm_ (a' := ?_) ?_ ?_
 rotate_left
 ·show Act.put _ (some 36) _ = _
  simp only [Act.put, List.setIfInBounds_toArray, List.set_cons_zero, List.set_cons_succ, i64_w, i32_w]
  rfl
 refine one_ (i := 3) (N := some 38) #[true, true, true, true, false] rfl rfl (by kernel_rfl) (by decide) (fun K hK => ?_)
 refine goes_ Try.func22 (by kernel_rfl) rfl #[.agg #[.int .i64 a, .int .i64 b, .slice A n.length cA, .slice B ks.length cB, .slice C es.length cC]] (by rfl) rfl rfl (by simp only [List.map_toArray, List.map_cons, List.map_nil]; rfl) ?_
 with_reducible refine (becketref12_PutAnswer.calls k a b A cA n B cB ks C cC es pa _ (Kd.C_below HA.out HBS.out) HCA.out (Kd.C_below HB.out HBS.out) HCB.out (Kd.C_below HC.out HBS.out) HCC.out HP2.out).mono ?_
 rintro e wT ⟨rfl, hb⟩
 refine ⟨_, rfl, ?_⟩
 have HF_g0 := Lib.hid (blk_below HE_g0.out hb)
 have HBT := Lib.hid (HBS.out.trans (hb.mono HBS.out.size))
 clear hb
 refine hK.out _ _ ⟨((blk_cell (HF_g0.out) 0).trans rfl), ((blk_cell (HF_g0.out) 1).trans rfl), ((blk_cell (HF_g0.out) 2).trans rfl), ((blk_cell (HF_g0.out) 3).trans rfl), ((blk_cell (HF_g0.out) 4).trans rfl)⟩ (fun hHeld => ?_)
 clear hK K
 refine norm_ (a' := ?_) ?_ ?_
 rotate_left
 ·show Act.put _ (some 38) _ = _
  simp only [Act.put, List.setIfInBounds_toArray, List.set_cons_zero, List.set_cons_succ, i64_w, i32_w]
  rfl
 refine pure_ (i := 4) (N := some 39) (v := ?_) (a' := ?_) #[true, true, true, true, true] rfl rfl (by kernel_rfl) (fun _ _ _ h => h) (Or.inl ⟨by rfl, ?_⟩) ?_ ?_
 rotate_left
 ·intro w'
  go_simp
  with_reducible rfl
 rotate_left
 ·simp only [Act.put, List.setIfInBounds_toArray, List.set_cons_zero, List.set_cons_succ, i64_w, i32_w]
  rfl
 refine done_ (by kernel_rfl) ?_
 go_wp2_with fail
 rcases HGA.out with ⟨e1, e2⟩ | ⟨q0, q1, q2, q3, q4, e1, e2, l2, l3, l4, l5⟩
 ·have HGY := Lib.hid e1
  have HGR := Lib.hid e2
  clear HGA
  refine (msg_GetAnswer.calls k s 0 0 ([] : List ByteArray) ([] : List ByteArray) ([] : List S58) (some 2) _ HGY.out).mono ?_
  rintro e wy ⟨v2, v3, v4, rfl, h2, h3, h4, hb⟩
  obtain ⟨Ay, cy, rfl⟩ := Kd.R_slice h2
  obtain ⟨By, dy, rfl⟩ := Kd.R_slice h3
  obtain ⟨Cy, ey, rfl⟩ := Kd.S_slice h4
  have hby : Below wT.heap.size wT (wy.alloc (.cells #[.int .i64 0, .int .i64 0, .slice Ay 0 cy, .slice By 0 dy, .slice Cy 0 ey] 48)) := hb.alloc hb.size _
  have HY2 := Lib.hid (Kd.C_alloc (Kd.R_reads' h2).2.2 (.cells #[.int .i64 0, .int .i64 0, .slice Ay 0 cy, .slice By 0 dy, .slice Cy 0 ey] 48))
  have HY2c := Lib.hid (Kd.R_reads' h2).2.1
  have HY3 := Lib.hid (Kd.C_alloc (Kd.R_reads' h3).2.2 (.cells #[.int .i64 0, .int .i64 0, .slice Ay 0 cy, .slice By 0 dy, .slice Cy 0 ey] 48))
  have HY3c := Lib.hid (Kd.R_reads' h3).2.1
  have HY4 := Lib.hid (Kd.C_alloc (Kd.S_reads' h4).2.2 (.cells #[.int .i64 0, .int .i64 0, .slice Ay 0 cy, .slice By 0 dy, .slice Cy 0 ey] 48))
  have HY4c := Lib.hid (Kd.S_reads' h4).2.1
  have HGBY := Lib.hid (heap_alloc_new wy (.cells #[.int .i64 0, .int .i64 0, .slice Ay 0 cy, .slice By 0 dy, .slice Cy 0 ey] 48))
  have HBY := Lib.hid (HBT.out.trans (hby.mono HBT.out.size))
  clear h2 h3 h4 hb hby
  rw [errW_some]
  go_wp2_with fail
  refine (becketref12_GetAnswer.calls k s 0 0 ([] : List ByteArray) ([] : List ByteArray) ([] : List S58) false _ HGR.out).mono ?_
  rintro e wr ⟨v2, v3, v4, rfl, h2, h3, h4, hb⟩
  obtain ⟨Ar, cr, rfl⟩ := Kd.R_slice h2
  obtain ⟨Br, dr, rfl⟩ := Kd.R_slice h3
  obtain ⟨Cr, er, rfl⟩ := Kd.S_slice h4
  have hbr : Below (wy.alloc (.cells #[.int .i64 0, .int .i64 0, .slice Ay 0 cy, .slice By 0 dy, .slice Cy 0 ey] 48)).heap.size (wy.alloc (.cells #[.int .i64 0, .int .i64 0, .slice Ay 0 cy, .slice By 0 dy, .slice Cy 0 ey] 48)) (wr.alloc (.cells #[.int .i64 0, .int .i64 0, .slice Ar 0 cr, .slice Br 0 dr, .slice Cr 0 er] 48)) := hb.alloc hb.size _
  have HR2 := Lib.hid (Kd.C_alloc (Kd.R_reads' h2).2.2 (.cells #[.int .i64 0, .int .i64 0, .slice Ar 0 cr, .slice Br 0 dr, .slice Cr 0 er] 48))
  have HR2c := Lib.hid (Kd.R_reads' h2).2.1
  have HR3 := Lib.hid (Kd.C_alloc (Kd.R_reads' h3).2.2 (.cells #[.int .i64 0, .int .i64 0, .slice Ar 0 cr, .slice Br 0 dr, .slice Cr 0 er] 48))
  have HR3c := Lib.hid (Kd.R_reads' h3).2.1
  have HR4 := Lib.hid (Kd.C_alloc (Kd.S_reads' h4).2.2 (.cells #[.int .i64 0, .int .i64 0, .slice Ar 0 cr, .slice Br 0 dr, .slice Cr 0 er] 48))
  have HR4c := Lib.hid (Kd.S_reads' h4).2.1
  have HGBR := Lib.hid (heap_alloc_new wr (.cells #[.int .i64 0, .int .i64 0, .slice Ar 0 cr, .slice Br 0 dr, .slice Cr 0 er] 48))
  have HGBY2 := Lib.hid (blk_below HGBY.out hbr)
  have HZ2 := Lib.hid (Kd.C_below HY2.out hbr)
  have HZ3 := Lib.hid (Kd.C_below HY3.out hbr)
  have HZ4 := Lib.hid (Kd.C_below HY4.out hbr)
  have HBR := Lib.hid (HBY.out.trans (hbr.mono HBY.out.size))
  clear h2 h3 h4 hb hbr HY2 HY3 HY4 HGBY
  have y0 := ((blk_cell HGBY2.out 0).trans rfl : ((wr.alloc (.cells #[.int .i64 0, .int .i64 0, .slice Ar 0 cr, .slice Br 0 dr, .slice Cr 0 er] 48)) : World).cell? ⟨wy.heap.size, 0, none⟩ = some (.int .i64 0))
  have y1 := ((blk_cell HGBY2.out 1).trans rfl : ((wr.alloc (.cells #[.int .i64 0, .int .i64 0, .slice Ar 0 cr, .slice Br 0 dr, .slice Cr 0 er] 48)) : World).cell? ⟨wy.heap.size, 1, none⟩ = some (.int .i64 0))
  have y2 := ((blk_cell HGBY2.out 2).trans rfl : ((wr.alloc (.cells #[.int .i64 0, .int .i64 0, .slice Ar 0 cr, .slice Br 0 dr, .slice Cr 0 er] 48)) : World).cell? ⟨wy.heap.size, 2, none⟩ = some (.slice Ay 0 cy))
  have y3 := ((blk_cell HGBY2.out 3).trans rfl : ((wr.alloc (.cells #[.int .i64 0, .int .i64 0, .slice Ar 0 cr, .slice Br 0 dr, .slice Cr 0 er] 48)) : World).cell? ⟨wy.heap.size, 3, none⟩ = some (.slice By 0 dy))
  have y4 := ((blk_cell HGBY2.out 4).trans rfl : ((wr.alloc (.cells #[.int .i64 0, .int .i64 0, .slice Ar 0 cr, .slice Br 0 dr, .slice Cr 0 er] 48)) : World).cell? ⟨wy.heap.size, 4, none⟩ = some (.slice Cy 0 ey))
  go_wp2_with fail
  clear y0 y1 y2 y3 y4
  refine (becketlaw12_same.calls k 0 0 Ay cy ([] : List ByteArray) By dy ([] : List ByteArray) Cy ey ([] : List S58) 0 0 none 0 ([] : List ByteArray) none 0 ([] : List ByteArray) none 0 ([] : List S58) true _ HZ2.out HY2c.out HZ3.out HY3c.out HZ4.out HY4c.out (Kd.C_nil _ _) (Nat.le_refl _) (Kd.C_nil _ _) (Nat.le_refl _) (Kd.C_nil _ _) (Nat.le_refl _) (sameA_f 0 0 ([] : List ByteArray) ([] : List ByteArray) ([] : List S58) (by simp) (by simp) (by simp) (by simp) k (Nat.le_trans (by decide) HKB.out))).mono ?_
  rintro e w9 ⟨rfl, hb⟩
  have HB9 := Lib.hid (HBR.out.trans (hb.mono HBR.out.size))
  clear hb
  go_wp2
  go_ret
  exact ⟨by first | rfl | simp, HB9.out⟩
 ·have HGY := Lib.hid e1
  have HGR := Lib.hid e2
  clear HGA
  refine (msg_GetAnswer.calls k s q0 q1 q2 q3 q4 none _ HGY.out).mono ?_
  rintro e wy ⟨v2, v3, v4, rfl, h2, h3, h4, hb⟩
  obtain ⟨Ay, cy, rfl⟩ := Kd.R_slice h2
  obtain ⟨By, dy, rfl⟩ := Kd.R_slice h3
  obtain ⟨Cy, ey, rfl⟩ := Kd.S_slice h4
  have hby : Below wT.heap.size wT (wy.alloc (.cells #[.int .i64 q0, .int .i64 q1, .slice Ay q2.length cy, .slice By q3.length dy, .slice Cy q4.length ey] 48)) := hb.alloc hb.size _
  have HY2 := Lib.hid (Kd.C_alloc (Kd.R_reads' h2).2.2 (.cells #[.int .i64 q0, .int .i64 q1, .slice Ay q2.length cy, .slice By q3.length dy, .slice Cy q4.length ey] 48))
  have HY2c := Lib.hid (Kd.R_reads' h2).2.1
  have HY3 := Lib.hid (Kd.C_alloc (Kd.R_reads' h3).2.2 (.cells #[.int .i64 q0, .int .i64 q1, .slice Ay q2.length cy, .slice By q3.length dy, .slice Cy q4.length ey] 48))
  have HY3c := Lib.hid (Kd.R_reads' h3).2.1
  have HY4 := Lib.hid (Kd.C_alloc (Kd.S_reads' h4).2.2 (.cells #[.int .i64 q0, .int .i64 q1, .slice Ay q2.length cy, .slice By q3.length dy, .slice Cy q4.length ey] 48))
  have HY4c := Lib.hid (Kd.S_reads' h4).2.1
  have HGBY := Lib.hid (heap_alloc_new wy (.cells #[.int .i64 q0, .int .i64 q1, .slice Ay q2.length cy, .slice By q3.length dy, .slice Cy q4.length ey] 48))
  have HBY := Lib.hid (HBT.out.trans (hby.mono HBT.out.size))
  clear h2 h3 h4 hb hby
  rw [errW_none]
  go_wp2_with fail
  refine (becketref12_GetAnswer.calls k s q0 q1 q2 q3 q4 true _ HGR.out).mono ?_
  rintro e wr ⟨v2, v3, v4, rfl, h2, h3, h4, hb⟩
  obtain ⟨Ar, cr, rfl⟩ := Kd.R_slice h2
  obtain ⟨Br, dr, rfl⟩ := Kd.R_slice h3
  obtain ⟨Cr, er, rfl⟩ := Kd.S_slice h4
  have hbr : Below (wy.alloc (.cells #[.int .i64 q0, .int .i64 q1, .slice Ay q2.length cy, .slice By q3.length dy, .slice Cy q4.length ey] 48)).heap.size (wy.alloc (.cells #[.int .i64 q0, .int .i64 q1, .slice Ay q2.length cy, .slice By q3.length dy, .slice Cy q4.length ey] 48)) (wr.alloc (.cells #[.int .i64 q0, .int .i64 q1, .slice Ar q2.length cr, .slice Br q3.length dr, .slice Cr q4.length er] 48)) := hb.alloc hb.size _
  have HR2 := Lib.hid (Kd.C_alloc (Kd.R_reads' h2).2.2 (.cells #[.int .i64 q0, .int .i64 q1, .slice Ar q2.length cr, .slice Br q3.length dr, .slice Cr q4.length er] 48))
  have HR2c := Lib.hid (Kd.R_reads' h2).2.1
  have HR3 := Lib.hid (Kd.C_alloc (Kd.R_reads' h3).2.2 (.cells #[.int .i64 q0, .int .i64 q1, .slice Ar q2.length cr, .slice Br q3.length dr, .slice Cr q4.length er] 48))
  have HR3c := Lib.hid (Kd.R_reads' h3).2.1
  have HR4 := Lib.hid (Kd.C_alloc (Kd.S_reads' h4).2.2 (.cells #[.int .i64 q0, .int .i64 q1, .slice Ar q2.length cr, .slice Br q3.length dr, .slice Cr q4.length er] 48))
  have HR4c := Lib.hid (Kd.S_reads' h4).2.1
  have HGBR := Lib.hid (heap_alloc_new wr (.cells #[.int .i64 q0, .int .i64 q1, .slice Ar q2.length cr, .slice Br q3.length dr, .slice Cr q4.length er] 48))
  have HGBY2 := Lib.hid (blk_below HGBY.out hbr)
  have HZ2 := Lib.hid (Kd.C_below HY2.out hbr)
  have HZ3 := Lib.hid (Kd.C_below HY3.out hbr)
  have HZ4 := Lib.hid (Kd.C_below HY4.out hbr)
  have HBR := Lib.hid (HBY.out.trans (hbr.mono HBY.out.size))
  clear h2 h3 h4 hb hbr HY2 HY3 HY4 HGBY
  have y0 := ((blk_cell HGBY2.out 0).trans rfl : ((wr.alloc (.cells #[.int .i64 q0, .int .i64 q1, .slice Ar q2.length cr, .slice Br q3.length dr, .slice Cr q4.length er] 48)) : World).cell? ⟨wy.heap.size, 0, none⟩ = some (.int .i64 q0))
  have y1 := ((blk_cell HGBY2.out 1).trans rfl : ((wr.alloc (.cells #[.int .i64 q0, .int .i64 q1, .slice Ar q2.length cr, .slice Br q3.length dr, .slice Cr q4.length er] 48)) : World).cell? ⟨wy.heap.size, 1, none⟩ = some (.int .i64 q1))
  have y2 := ((blk_cell HGBY2.out 2).trans rfl : ((wr.alloc (.cells #[.int .i64 q0, .int .i64 q1, .slice Ar q2.length cr, .slice Br q3.length dr, .slice Cr q4.length er] 48)) : World).cell? ⟨wy.heap.size, 2, none⟩ = some (.slice Ay q2.length cy))
  have y3 := ((blk_cell HGBY2.out 3).trans rfl : ((wr.alloc (.cells #[.int .i64 q0, .int .i64 q1, .slice Ar q2.length cr, .slice Br q3.length dr, .slice Cr q4.length er] 48)) : World).cell? ⟨wy.heap.size, 3, none⟩ = some (.slice By q3.length dy))
  have y4 := ((blk_cell HGBY2.out 4).trans rfl : ((wr.alloc (.cells #[.int .i64 q0, .int .i64 q1, .slice Ar q2.length cr, .slice Br q3.length dr, .slice Cr q4.length er] 48)) : World).cell? ⟨wy.heap.size, 4, none⟩ = some (.slice Cy q4.length ey))
  have r0 := ((blk_cell HGBR.out 0).trans rfl : ((wr.alloc (.cells #[.int .i64 q0, .int .i64 q1, .slice Ar q2.length cr, .slice Br q3.length dr, .slice Cr q4.length er] 48)) : World).cell? ⟨wr.heap.size, 0, none⟩ = some (.int .i64 q0))
  have r1 := ((blk_cell HGBR.out 1).trans rfl : ((wr.alloc (.cells #[.int .i64 q0, .int .i64 q1, .slice Ar q2.length cr, .slice Br q3.length dr, .slice Cr q4.length er] 48)) : World).cell? ⟨wr.heap.size, 1, none⟩ = some (.int .i64 q1))
  have r2 := ((blk_cell HGBR.out 2).trans rfl : ((wr.alloc (.cells #[.int .i64 q0, .int .i64 q1, .slice Ar q2.length cr, .slice Br q3.length dr, .slice Cr q4.length er] 48)) : World).cell? ⟨wr.heap.size, 2, none⟩ = some (.slice Ar q2.length cr))
  have r3 := ((blk_cell HGBR.out 3).trans rfl : ((wr.alloc (.cells #[.int .i64 q0, .int .i64 q1, .slice Ar q2.length cr, .slice Br q3.length dr, .slice Cr q4.length er] 48)) : World).cell? ⟨wr.heap.size, 3, none⟩ = some (.slice Br q3.length dr))
  have r4 := ((blk_cell HGBR.out 4).trans rfl : ((wr.alloc (.cells #[.int .i64 q0, .int .i64 q1, .slice Ar q2.length cr, .slice Br q3.length dr, .slice Cr q4.length er] 48)) : World).cell? ⟨wr.heap.size, 4, none⟩ = some (.slice Cr q4.length er))
  go_wp2_with fail
  clear y0 y1 y2 y3 y4
  clear r0 r1 r2 r3 r4
  refine (becketlaw12_same.calls k q0 q1 Ay cy q2 By dy q3 Cy ey q4 q0 q1 Ar cr q2 Br dr q3 Cr er q4 true _ HZ2.out HY2c.out HZ3.out HY3c.out HZ4.out HY4c.out HR2.out HR2c.out HR3.out HR3c.out HR4.out HR4c.out (sameA_f q0 q1 q2 q3 q4 l2 l3 l4 l5 k (Nat.le_trans (by decide) HKB.out))).mono ?_
  rintro e w9 ⟨rfl, hb⟩
  have HB9 := Lib.hid (HBR.out.trans (hb.mono HBR.out.size))
  clear hb
  go_wp2
  go_ret
  exact ⟨by first | rfl | simp, HB9.out⟩
end Go.Proofs.Ytpbbgbikebcnbaa.MsgP
