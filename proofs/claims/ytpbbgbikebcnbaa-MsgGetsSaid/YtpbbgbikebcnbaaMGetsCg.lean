-- Cut by a program of this session (wip/shake.py) out of a text of this seat: what this claim doesn't reach is struck out. Lean checks it.
import Derived.Test.YtpbbgbikebcnbaaPureMICg
import Derived.Lib.Hide
import Derived.BigRegion
namespace Go.Proofs.Ytpbbgbikebcnbaa.MsgP
open Go.RowKit Go.Proofs.Ytpbbgbikebcnbaa.Ms Go.Proofs.Ytpbbgbikebcnbaa.MsgL Go.Proofs.YtpbbgbikebcnbaaW.PrintWords Go.Proofs.YtpbbgbikebcnbaaW.PrintLast Go.Proofs.YtpbbgbikebcnbaaW.PrintMore
attribute [local go_sem] Go.Proofs.Ytpbbgbikebcnbaa.Ms.eqlErr Go.Proofs.Ytpbbgbikebcnbaa.Ms.neqErr Go.Proofs.Ytpbbgbikebcnbaa.Ms.eqlErrNil Go.Proofs.Ytpbbgbikebcnbaa.Ms.neqErrNil
set_option linter.unusedVariables false
set_option linter.unusedSimpArgs false
theorem both {l : List Int} (h : LOk l) : (∃ a b c d s ps cs, getM (tp l h) = (a, b, c, d, s, ps, cs, none) ∧ refM (tr l h) = (a, b, c, d, s, ps, cs, true)) ∨ (getM (tp l h) = (0, 0, 0, 0, ⟨#[]⟩, [], [], some 2) ∧ refM (tr l h) = (0, 0, 0, 0, ⟨#[]⟩, [], [], false)) := by
  unfold getM refM getR refR
  rcases msg_ag h with ⟨e1, e2⟩ | e
  · right
    have f1 : okR l (rdMsg (tp l h)).a (rdMsg (tp l h)).b (rdMsg (tp l h)).c (rdMsg (tp l h)).d (rdMsg (tp l h)).s (rdMsg (tp l h)).ps ((rdMsg (tp l h)).cs, (rdMsg (tp l h)).at_, (rdMsg (tp l h)).bad) = false := by
      unfold okR; rw [e1]; rfl
    have f2 : okR l (rdMsg (tr l h)).a (rdMsg (tr l h)).b (rdMsg (tr l h)).c (rdMsg (tr l h)).d (rdMsg (tr l h)).s (rdMsg (tr l h)).ps ((rdMsg (tr l h)).cs, (rdMsg (tr l h)).at_, (rdMsg (tr l h)).bad) = false := by
      unfold okR; rw [e2]; rfl
    rw [f1, f2, if_neg Bool.false_ne_true, if_neg Bool.false_ne_true]
    exact ⟨rfl, rfl⟩
  · rw [← e]
    by_cases ho : okR l (rdMsg (tp l h)).a (rdMsg (tp l h)).b (rdMsg (tp l h)).c (rdMsg (tp l h)).d (rdMsg (tp l h)).s (rdMsg (tp l h)).ps ((rdMsg (tp l h)).cs, (rdMsg (tp l h)).at_, (rdMsg (tp l h)).bad) = true
    · left
      rw [if_pos ho, if_pos ho]
      exact ⟨_, _, _, _, _, _, _, rfl, rfl⟩
    · right
      rw [if_neg ho, if_neg ho]
      exact ⟨rfl, rfl⟩
theorem refget_Z {l : List Int} (h : LOk l) : becketref12_Get.f KZ l = some (refM (tr l h)) := refget_f h _ KB_ok KZ KZ_big
theorem get_Z {l : List Int} (h : LOk l) : msg_Get.f KZ l = some (getM (tp l h)) := get_f h _ KB_ok KZ KZ_big
set_option maxHeartbeats 8000000 in
set_option maxRecDepth 100000 in
theorem gets_calls (A1 : Option Addr) (c1 : Nat) (l : List Int) (w : World) (hB : Kd.C (Kd.int .u8) w A1 l.length l) (hcb : l.length ≤ c1) (hby : bytesOk l) :
    Calls Try.prog 4 #[.slice A1 l.length c1] w fun e w' => e = .returned (.bool true) ∧ Below w.heap.size w w' := by
  have hk : ∃ k, becketlaw12_up.f k = some true ∧ ∀ h : LOk l, msg_Get.f k l = some (getM (tp l h)) ∧ becketref12_Get.f k l = some (refM (tr l h)) := ⟨KZ, upZ, fun h => ⟨get_Z h, refget_Z h⟩⟩
  obtain ⟨k, hup, hk⟩ := hk
  have HUP := Lib.hid hup
  have HK := Lib.hid hk
  have HB := Lib.hid hB
  have HCB := Lib.hid hcb
  have HBY0 := Lib.hid hby
  clear hB hby hk hup hcb
  go_enter Try.func4, Try.ntmps4
  go_wp2_with fail
  refine (becketlaw12_up.calls k true _ HUP.out).mono ?_
  rintro e w1 ⟨rfl, hb⟩
  have HB1 := Lib.hid hb
  clear hb
  by_cases g0 : (20000 : Int) < (l.length : Int)
  · have hd : decide ((20000 : Int) < (l.length : Int)) = true := decide_eq_true g0
    clear g0
    go_wp2
    go_ret
    exact ⟨rfl, HB1.out⟩
  have hd : decide ((20000 : Int) < (l.length : Int)) = false := decide_eq_false g0
  have hlo : LOk l := ⟨HBY0.out, by omega⟩
  have HBO := Lib.hid (both hlo)
  have HG := Lib.hid (HK.out hlo)
  clear g0
  go_wp2_with fail
  rcases HBO.out with ⟨q0, q1, q2, q3, q4, q5, q6, e1, e2⟩ | ⟨e1, e2⟩
  · have HGB := Lib.hid (HG.out.1.trans (congrArg some e1))
    have HRB := Lib.hid (HG.out.2.trans (congrArg some e2))
    clear e1 e2 HBO HG
    refine (msg_Get.calls k A1 c1 l q0 q1 q2 q3 q4 q5 q6 none w1 (Kd.C_below HB.out HB1.out) HCB.out HGB.out).mono ?_
    rintro e wy ⟨vy, vz, rfl, hr, hr2, hb⟩
    obtain ⟨Ay, cy, rfl⟩ := Kd.S_slice hr
    obtain ⟨Bz, cz, rfl⟩ := Kd.R_slice hr2
    have hby : Below w1.heap.size w1 (wy.alloc (.cells #[.int .i64 q0, .int .i64 q1, .int .i64 q2, .int .i64 q3, .string q4, .slice Ay q5.length cy, .slice Bz q6.length cz] 25)) := hb.alloc hb.size _
    have HY := Lib.hid (Kd.C_alloc (Kd.S_reads' hr).2.2 (.cells #[.int .i64 q0, .int .i64 q1, .int .i64 q2, .int .i64 q3, .string q4, .slice Ay q5.length cy, .slice Bz q6.length cz] 25))
    have HYc := Lib.hid (Kd.S_reads' hr).2.1
    have HZ := Lib.hid (Kd.C_alloc (Kd.R_reads' hr2).2.2 (.cells #[.int .i64 q0, .int .i64 q1, .int .i64 q2, .int .i64 q3, .string q4, .slice Ay q5.length cy, .slice Bz q6.length cz] 25))
    have HZc := Lib.hid (Kd.R_reads' hr2).2.1
    have HGY := Lib.hid (heap_alloc_new wy (.cells #[.int .i64 q0, .int .i64 q1, .int .i64 q2, .int .i64 q3, .string q4, .slice Ay q5.length cy, .slice Bz q6.length cz] 25))
    have HBY := Lib.hid (HB1.out.trans (hby.mono HB1.out.size))
    clear hr hr2 hb hby
    rw [errW_none]
    go_wp2_with fail
    refine (becketref12_Get.calls k A1 c1 l q0 q1 q2 q3 q4 q5 q6 true _ (Kd.C_below HB.out HBY.out) HCB.out HRB.out).mono ?_
    rintro e wr ⟨vr, vs, rfl, hr, hr2, hb⟩
    obtain ⟨Ar, cr, rfl⟩ := Kd.S_slice hr
    obtain ⟨Br, dr, rfl⟩ := Kd.R_slice hr2
    have hbr : Below (wy.alloc (.cells #[.int .i64 q0, .int .i64 q1, .int .i64 q2, .int .i64 q3, .string q4, .slice Ay q5.length cy, .slice Bz q6.length cz] 25)).heap.size (wy.alloc (.cells #[.int .i64 q0, .int .i64 q1, .int .i64 q2, .int .i64 q3, .string q4, .slice Ay q5.length cy, .slice Bz q6.length cz] 25)) (wr.alloc (.cells #[.int .i64 q0, .int .i64 q1, .int .i64 q2, .int .i64 q3, .string q4, .slice Ar q5.length cr, .slice Br q6.length dr] 25)) := hb.alloc hb.size _
    have HR := Lib.hid (Kd.C_alloc (Kd.S_reads' hr).2.2 (.cells #[.int .i64 q0, .int .i64 q1, .int .i64 q2, .int .i64 q3, .string q4, .slice Ar q5.length cr, .slice Br q6.length dr] 25))
    have HRc := Lib.hid (Kd.S_reads' hr).2.1
    have HS := Lib.hid (Kd.C_alloc (Kd.R_reads' hr2).2.2 (.cells #[.int .i64 q0, .int .i64 q1, .int .i64 q2, .int .i64 q3, .string q4, .slice Ar q5.length cr, .slice Br q6.length dr] 25))
    have HSc := Lib.hid (Kd.R_reads' hr2).2.1
    have HGR := Lib.hid (heap_alloc_new wr (.cells #[.int .i64 q0, .int .i64 q1, .int .i64 q2, .int .i64 q3, .string q4, .slice Ar q5.length cr, .slice Br q6.length dr] 25))
    have HGY2 := Lib.hid (blk_below HGY.out hbr)
    have HY2 := Lib.hid (Kd.C_below HY.out hbr)
    have HZ2 := Lib.hid (Kd.C_below HZ.out hbr)
    have HBR := Lib.hid (HBY.out.trans (hbr.mono HBY.out.size))
    clear hr hr2 hb hbr HGY HY HZ
    have y0 := ((blk_cell HGY2.out 0).trans rfl : ((wr.alloc (.cells #[.int .i64 q0, .int .i64 q1, .int .i64 q2, .int .i64 q3, .string q4, .slice Ar q5.length cr, .slice Br q6.length dr] 25)) : World).cell? ⟨wy.heap.size, 0, none⟩ = some (.int .i64 q0))
    have y1 := ((blk_cell HGY2.out 1).trans rfl : ((wr.alloc (.cells #[.int .i64 q0, .int .i64 q1, .int .i64 q2, .int .i64 q3, .string q4, .slice Ar q5.length cr, .slice Br q6.length dr] 25)) : World).cell? ⟨wy.heap.size, 1, none⟩ = some (.int .i64 q1))
    have y2 := ((blk_cell HGY2.out 2).trans rfl : ((wr.alloc (.cells #[.int .i64 q0, .int .i64 q1, .int .i64 q2, .int .i64 q3, .string q4, .slice Ar q5.length cr, .slice Br q6.length dr] 25)) : World).cell? ⟨wy.heap.size, 2, none⟩ = some (.int .i64 q2))
    have y3 := ((blk_cell HGY2.out 3).trans rfl : ((wr.alloc (.cells #[.int .i64 q0, .int .i64 q1, .int .i64 q2, .int .i64 q3, .string q4, .slice Ar q5.length cr, .slice Br q6.length dr] 25)) : World).cell? ⟨wy.heap.size, 3, none⟩ = some (.int .i64 q3))
    have y4 := ((blk_cell HGY2.out 4).trans rfl : ((wr.alloc (.cells #[.int .i64 q0, .int .i64 q1, .int .i64 q2, .int .i64 q3, .string q4, .slice Ar q5.length cr, .slice Br q6.length dr] 25)) : World).cell? ⟨wy.heap.size, 4, none⟩ = some (.string q4))
    have y5 := ((blk_cell HGY2.out 5).trans rfl : ((wr.alloc (.cells #[.int .i64 q0, .int .i64 q1, .int .i64 q2, .int .i64 q3, .string q4, .slice Ar q5.length cr, .slice Br q6.length dr] 25)) : World).cell? ⟨wy.heap.size, 5, none⟩ = some (.slice Ay q5.length cy))
    have y6 := ((blk_cell HGY2.out 6).trans rfl : ((wr.alloc (.cells #[.int .i64 q0, .int .i64 q1, .int .i64 q2, .int .i64 q3, .string q4, .slice Ar q5.length cr, .slice Br q6.length dr] 25)) : World).cell? ⟨wy.heap.size, 6, none⟩ = some (.slice Bz q6.length cz))
    have r0 := ((blk_cell HGR.out 0).trans rfl : ((wr.alloc (.cells #[.int .i64 q0, .int .i64 q1, .int .i64 q2, .int .i64 q3, .string q4, .slice Ar q5.length cr, .slice Br q6.length dr] 25)) : World).cell? ⟨wr.heap.size, 0, none⟩ = some (.int .i64 q0))
    have r1 := ((blk_cell HGR.out 1).trans rfl : ((wr.alloc (.cells #[.int .i64 q0, .int .i64 q1, .int .i64 q2, .int .i64 q3, .string q4, .slice Ar q5.length cr, .slice Br q6.length dr] 25)) : World).cell? ⟨wr.heap.size, 1, none⟩ = some (.int .i64 q1))
    have r2 := ((blk_cell HGR.out 2).trans rfl : ((wr.alloc (.cells #[.int .i64 q0, .int .i64 q1, .int .i64 q2, .int .i64 q3, .string q4, .slice Ar q5.length cr, .slice Br q6.length dr] 25)) : World).cell? ⟨wr.heap.size, 2, none⟩ = some (.int .i64 q2))
    have r3 := ((blk_cell HGR.out 3).trans rfl : ((wr.alloc (.cells #[.int .i64 q0, .int .i64 q1, .int .i64 q2, .int .i64 q3, .string q4, .slice Ar q5.length cr, .slice Br q6.length dr] 25)) : World).cell? ⟨wr.heap.size, 3, none⟩ = some (.int .i64 q3))
    have r4 := ((blk_cell HGR.out 4).trans rfl : ((wr.alloc (.cells #[.int .i64 q0, .int .i64 q1, .int .i64 q2, .int .i64 q3, .string q4, .slice Ar q5.length cr, .slice Br q6.length dr] 25)) : World).cell? ⟨wr.heap.size, 4, none⟩ = some (.string q4))
    have r5 := ((blk_cell HGR.out 5).trans rfl : ((wr.alloc (.cells #[.int .i64 q0, .int .i64 q1, .int .i64 q2, .int .i64 q3, .string q4, .slice Ar q5.length cr, .slice Br q6.length dr] 25)) : World).cell? ⟨wr.heap.size, 5, none⟩ = some (.slice Ar q5.length cr))
    have r6 := ((blk_cell HGR.out 6).trans rfl : ((wr.alloc (.cells #[.int .i64 q0, .int .i64 q1, .int .i64 q2, .int .i64 q3, .string q4, .slice Ar q5.length cr, .slice Br q6.length dr] 25)) : World).cell? ⟨wr.heap.size, 6, none⟩ = some (.slice Br q6.length dr))
    go_wp2_with fail
    clear y0 y1 y2 y3 y4 y5 y6
    clear r0 r1 r2 r3 r4 r5 r6
    refine (becketref12_Same.calls q0 q1 q2 q3 q4 Ay cy q5 Bz cz q6 q0 q1 q2 q3 q4 Ar cr q5 Br dr q6 true _ HY2.out HYc.out HZ2.out HZc.out HR.out HRc.out HS.out HSc.out (congrArg some (sameM_refl _ _ _ _ _ _ _))).mono ?_
    rintro e w9 ⟨rfl, hb⟩
    have HB9 := Lib.hid (HBR.out.trans (hb.mono HBR.out.size))
    clear hb
    go_wp2
    go_ret
    exact ⟨by first | rfl | simp, HB9.out⟩
  · have HGB := Lib.hid (HG.out.1.trans (congrArg some e1))
    have HRB := Lib.hid (HG.out.2.trans (congrArg some e2))
    clear e1 e2 HBO HG
    refine (msg_Get.calls k A1 c1 l 0 0 0 0 ⟨#[]⟩ [] [] (some 2) w1 (Kd.C_below HB.out HB1.out) HCB.out HGB.out).mono ?_
    rintro e wy ⟨vy, vz, rfl, hr, hr2, hb⟩
    obtain ⟨Ay, cy, rfl⟩ := Kd.S_slice hr
    obtain ⟨Bz, cz, rfl⟩ := Kd.R_slice hr2
    have hby : Below w1.heap.size w1 (wy.alloc (.cells #[.int .i64 0, .int .i64 0, .int .i64 0, .int .i64 0, .string ⟨#[]⟩, .slice Ay 0 cy, .slice Bz 0 cz] 25)) := hb.alloc hb.size _
    have HY := Lib.hid (Kd.C_alloc (Kd.S_reads' hr).2.2 (.cells #[.int .i64 0, .int .i64 0, .int .i64 0, .int .i64 0, .string ⟨#[]⟩, .slice Ay 0 cy, .slice Bz 0 cz] 25))
    have HYc := Lib.hid (Kd.S_reads' hr).2.1
    have HZ := Lib.hid (Kd.C_alloc (Kd.R_reads' hr2).2.2 (.cells #[.int .i64 0, .int .i64 0, .int .i64 0, .int .i64 0, .string ⟨#[]⟩, .slice Ay 0 cy, .slice Bz 0 cz] 25))
    have HZc := Lib.hid (Kd.R_reads' hr2).2.1
    have HGY := Lib.hid (heap_alloc_new wy (.cells #[.int .i64 0, .int .i64 0, .int .i64 0, .int .i64 0, .string ⟨#[]⟩, .slice Ay 0 cy, .slice Bz 0 cz] 25))
    have HBY := Lib.hid (HB1.out.trans (hby.mono HB1.out.size))
    clear hr hr2 hb hby
    rw [errW_some]
    go_wp2_with fail
    refine (becketref12_Get.calls k A1 c1 l 0 0 0 0 ⟨#[]⟩ [] [] false _ (Kd.C_below HB.out HBY.out) HCB.out HRB.out).mono ?_
    rintro e wr ⟨vr, vs, rfl, hr, hr2, hb⟩
    obtain ⟨Ar, cr, rfl⟩ := Kd.S_slice hr
    obtain ⟨Br, dr, rfl⟩ := Kd.R_slice hr2
    have hbr : Below (wy.alloc (.cells #[.int .i64 0, .int .i64 0, .int .i64 0, .int .i64 0, .string ⟨#[]⟩, .slice Ay 0 cy, .slice Bz 0 cz] 25)).heap.size (wy.alloc (.cells #[.int .i64 0, .int .i64 0, .int .i64 0, .int .i64 0, .string ⟨#[]⟩, .slice Ay 0 cy, .slice Bz 0 cz] 25)) (wr.alloc (.cells #[.int .i64 0, .int .i64 0, .int .i64 0, .int .i64 0, .string ⟨#[]⟩, .slice Ar 0 cr, .slice Br 0 dr] 25)) := hb.alloc hb.size _
    have HR := Lib.hid (Kd.C_alloc (Kd.S_reads' hr).2.2 (.cells #[.int .i64 0, .int .i64 0, .int .i64 0, .int .i64 0, .string ⟨#[]⟩, .slice Ar 0 cr, .slice Br 0 dr] 25))
    have HRc := Lib.hid (Kd.S_reads' hr).2.1
    have HS := Lib.hid (Kd.C_alloc (Kd.R_reads' hr2).2.2 (.cells #[.int .i64 0, .int .i64 0, .int .i64 0, .int .i64 0, .string ⟨#[]⟩, .slice Ar 0 cr, .slice Br 0 dr] 25))
    have HSc := Lib.hid (Kd.R_reads' hr2).2.1
    have HGR := Lib.hid (heap_alloc_new wr (.cells #[.int .i64 0, .int .i64 0, .int .i64 0, .int .i64 0, .string ⟨#[]⟩, .slice Ar 0 cr, .slice Br 0 dr] 25))
    have HGY2 := Lib.hid (blk_below HGY.out hbr)
    have HY2 := Lib.hid (Kd.C_below HY.out hbr)
    have HZ2 := Lib.hid (Kd.C_below HZ.out hbr)
    have HBR := Lib.hid (HBY.out.trans (hbr.mono HBY.out.size))
    clear hr hr2 hb hbr HGY HY HZ
    have y0 := ((blk_cell HGY2.out 0).trans rfl : ((wr.alloc (.cells #[.int .i64 0, .int .i64 0, .int .i64 0, .int .i64 0, .string ⟨#[]⟩, .slice Ar 0 cr, .slice Br 0 dr] 25)) : World).cell? ⟨wy.heap.size, 0, none⟩ = some (.int .i64 0))
    have y1 := ((blk_cell HGY2.out 1).trans rfl : ((wr.alloc (.cells #[.int .i64 0, .int .i64 0, .int .i64 0, .int .i64 0, .string ⟨#[]⟩, .slice Ar 0 cr, .slice Br 0 dr] 25)) : World).cell? ⟨wy.heap.size, 1, none⟩ = some (.int .i64 0))
    have y2 := ((blk_cell HGY2.out 2).trans rfl : ((wr.alloc (.cells #[.int .i64 0, .int .i64 0, .int .i64 0, .int .i64 0, .string ⟨#[]⟩, .slice Ar 0 cr, .slice Br 0 dr] 25)) : World).cell? ⟨wy.heap.size, 2, none⟩ = some (.int .i64 0))
    have y3 := ((blk_cell HGY2.out 3).trans rfl : ((wr.alloc (.cells #[.int .i64 0, .int .i64 0, .int .i64 0, .int .i64 0, .string ⟨#[]⟩, .slice Ar 0 cr, .slice Br 0 dr] 25)) : World).cell? ⟨wy.heap.size, 3, none⟩ = some (.int .i64 0))
    have y4 := ((blk_cell HGY2.out 4).trans rfl : ((wr.alloc (.cells #[.int .i64 0, .int .i64 0, .int .i64 0, .int .i64 0, .string ⟨#[]⟩, .slice Ar 0 cr, .slice Br 0 dr] 25)) : World).cell? ⟨wy.heap.size, 4, none⟩ = some (.string ⟨#[]⟩))
    have y5 := ((blk_cell HGY2.out 5).trans rfl : ((wr.alloc (.cells #[.int .i64 0, .int .i64 0, .int .i64 0, .int .i64 0, .string ⟨#[]⟩, .slice Ar 0 cr, .slice Br 0 dr] 25)) : World).cell? ⟨wy.heap.size, 5, none⟩ = some (.slice Ay 0 cy))
    have y6 := ((blk_cell HGY2.out 6).trans rfl : ((wr.alloc (.cells #[.int .i64 0, .int .i64 0, .int .i64 0, .int .i64 0, .string ⟨#[]⟩, .slice Ar 0 cr, .slice Br 0 dr] 25)) : World).cell? ⟨wy.heap.size, 6, none⟩ = some (.slice Bz 0 cz))
    go_wp2_with fail
    clear y0 y1 y2 y3 y4 y5 y6
    refine (becketref12_Same.calls 0 0 0 0 ⟨#[]⟩ Ay cy ([] : List S95) Bz cz ([] : List S61) 0 0 0 0 ⟨#[]⟩ none 0 ([] : List S95) none 0 ([] : List S61) true _ HY2.out HYc.out HZ2.out HZc.out (Kd.C_nil _ _) (Nat.le_refl _) (Kd.C_nil _ _) (Nat.le_refl _) (congrArg some (sameM_refl _ _ _ _ _ _ _))).mono ?_
    rintro e w9 ⟨rfl, hb⟩
    have HB9 := Lib.hid (HBR.out.trans (hb.mono HBR.out.size))
    clear hb
    go_wp2
    go_ret
    exact ⟨by first | rfl | simp, HB9.out⟩
end Go.Proofs.Ytpbbgbikebcnbaa.MsgP
