-- Cut by a program of this session (wip/shake.py) out of a text of this seat: what this claim doesn't reach is struck out. Lean checks it.
import Derived.Test.YtpbbgbikebcnbaaPureMICb
import Derived.Test.YtpbbgbikebcnbaaPureMHCb
import Derived.Lib.Hide
import Derived.BigRegion
namespace Go.Proofs.Ytpbbgbikebcnbaa.MsgP
open Go.RowKit Go.Proofs.Ytpbbgbikebcnbaa.Ms Go.Proofs.Ytpbbgbikebcnbaa.MsgL Go.Proofs.YtpbbgbikebcnbaaW.PrintWords Go.Proofs.YtpbbgbikebcnbaaW.PrintLast Go.Proofs.YtpbbgbikebcnbaaW.PrintMore
attribute [local go_sem] Go.Proofs.Ytpbbgbikebcnbaa.Ms.eqlErr Go.Proofs.Ytpbbgbikebcnbaa.Ms.neqErr Go.Proofs.Ytpbbgbikebcnbaa.Ms.eqlErrNil Go.Proofs.Ytpbbgbikebcnbaa.Ms.neqErrNil
set_option linter.unusedVariables false
set_option linter.unusedSimpArgs false
theorem nil_R (W : World) : Kd.R (Kd.int .u8) 5 (W.alloc (.cells #[] 5)) W.heap.size (fun k => k = W.heap.size) (.slice (some ⟨W.heap.size, 0, none⟩) 0 0) [] := by
  refine ⟨fun k hk => ?_, [], ?_, Reps.none _ _⟩
  · have : W.heap.size = k := by simpa [Value.ownBlock] using hk
    exact this.symm
  · exact World.ownsRow_lit (base := W.heap.size) (e := 5) (size := 1) W #[] 0 (Nat.le_refl _) (by simp [maxLen]) (by simp)
theorem nil_R' (W : World) (n : Nat) (hn : W.heap.size = n) : Kd.R (Kd.int .u8) 5 (W.alloc (.cells #[] 5)) n (fun k => k = n) (.slice (some ⟨n, 0, none⟩) 0 0) [] := by
  subst hn
  exact nil_R W
theorem get_more {a b c d : Int} {s : ByteArray} {ps : List S95} {cs : List S61} (hm : mayM a b c d s ps cs = true) (x : Int) (h : LOk (msgE a b c d s ps cs ++ [x])) : getM (tp _ h) = (0, 0, 0, 0, ⟨#[]⟩, [], [], some 2) := by
  obtain ⟨z, e, hz⟩ := msg_fwd h (post := [x]) (may_ok1 hm) rfl
  have hl := congrArg List.length hz.2
  rw [List.length_drop, List.length_singleton] at hl
  unfold getM
  rw [e]
  unfold getR okR
  simp only
  rw [decide_eq_false (by omega)]
  rfl
theorem got {l : List Int} (h : LOk l) {a b c d : Int} {s : ByteArray} {ps : List S95} {cs : List S61} (hg : getM (tp l h) = (a, b, c, d, s, ps, cs, none)) : mayM a b c d s ps cs = true ∧ l = msgE a b c d s ps cs := by
  unfold getM getR at hg
  split at hg
  · rename_i ho
    simp only [Prod.mk.injEq, and_true] at hg
    obtain ⟨rfl, rfl, rfl, rfl, rfl, rfl, rfl⟩ := hg
    unfold okR at ho
    simp only [Bool.and_eq_true, Bool.not_eq_true', decide_eq_true_eq] at ho
    exact ⟨ho.2.2, msg_bk h ho.1 ho.2.1⟩
  · simp at hg
theorem put_got {l : List Int} (h : LOk l) {a b c d : Int} {s : ByteArray} {ps : List S95} {cs : List S61} (hg : getM (tp l h) = (a, b, c, d, s, ps, cs, none)) (k : Nat) (hk : 600 ≤ k) : msg_Put.f k a b c d s ps cs = some (l, none) := by
  obtain ⟨h1, h2⟩ := got h hg
  rw [put_any _ _ _ _ _ _ _ k hk, if_pos h1, ← h2]
structure KOk (k : Nat) : Prop where
  up : becketlaw12_up.f k = some true
  big : 1010010 + 2010 ≤ k
theorem KOk.at : ∃ k, KOk k := ⟨KZ, upZ, KZ_big⟩
theorem KOk.get {k : Nat} (hk : KOk k) {l : List Int} (h : LOk l) : msg_Get.f k l = some (getM (tp l h)) := get_f h _ KB_ok k hk.big
theorem KOk.put {k : Nat} (hk : KOk k) (a b c d : Int) (s : ByteArray) (ps : List S95) (cs : List S61) : msg_Put.f k a b c d s ps cs = some (if mayM a b c d s ps cs = true then (msgE a b c d s ps cs, none) else ([], some 1)) := put_any a b c d s ps cs k (Nat.le_trans (by decide) hk.big)
theorem KOk.short {k : Nat} (hk : KOk k) (a b c d : Int) (s : ByteArray) (ps : List S95) (cs : List S61) : becketref12_Short.f k a b c d s ps cs = some (shortM s ps cs) := Short_f a b c d s ps cs k (Nat.le_trans (by decide) hk.big)
theorem KOk.put_got {k : Nat} (hk : KOk k) {l : List Int} (h : LOk l) {a b c d : Int} {s : ByteArray} {ps : List S95} {cs : List S61} (hg : getM (tp l h) = (a, b, c, d, s, ps, cs, none)) : msg_Put.f k a b c d s ps cs = some (l, none) := Go.Proofs.Ytpbbgbikebcnbaa.MsgP.put_got h hg k (Nat.le_trans (by decide) hk.big)
set_option maxHeartbeats 16000000 in
set_option maxRecDepth 100000 in
theorem back_calls (a b c d : Int) (s : ByteArray) (A5 : Option Addr) (c5 : Nat) (ps : List S95) (A6 : Option Addr) (c6 : Nat) (cs : List S61) (A1 : Option Addr) (c1 : Nat) (l : List Int) (more : Int) (w : World) (hC5 : Kd.C k95 w A5 ps.length ps) (hc5 : ps.length ≤ c5) (hC6 : Kd.C k61 w A6 cs.length cs) (hc6 : cs.length ≤ c6) (hB : Kd.C (Kd.int .u8) w A1 l.length l) (hcb : l.length ≤ c1) (hby : bytesOk l) (hmore : 0 ≤ more ∧ more ≤ 255) :
    Calls Try.prog 5 #[.agg #[.int .i64 a, .int .i64 b, .int .i64 c, .int .i64 d, .string s, .slice A5 ps.length c5, .slice A6 cs.length c6], .slice A1 l.length c1, .int .u8 more] w fun e w' => e = .returned (.bool true) ∧ Below w.heap.size w w' := by
  obtain ⟨k, hk⟩ := KOk.at
  have HK := Lib.hid hk
  have HC5 := Lib.hid hC5
  have HC6 := Lib.hid hC6
  have H5 := Lib.hid hc5
  have H6 := Lib.hid hc6
  have HB := Lib.hid hB
  have HCB := Lib.hid hcb
  have HBY0 := Lib.hid hby
  have HMO := Lib.hid hmore
  have HG0 := Lib.hid (heap_alloc_new w (.cells #[.int .i64 a, .int .i64 b, .int .i64 c, .int .i64 d, .string s, .slice A5 ps.length c5, .slice A6 cs.length c6] 25))
  have HB0 := Lib.hid ((Below.refl w.heap.size w).alloc (Nat.le_refl _) (.cells #[.int .i64 a, .int .i64 b, .int .i64 c, .int .i64 d, .string s, .slice A5 ps.length c5, .slice A6 cs.length c6] 25))
  clear hC5 hC6 hB hby hmore hk hc5 hc6 hcb
  go_enter Try.func5, Try.ntmps5
  go_wp2_with fail
  refine (becketlaw12_up.calls k true _ HK.out.up).mono ?_
  rintro e w1 ⟨rfl, hb⟩
  have HG1 := Lib.hid (blk_below HG0.out hb)
  have HB1 := Lib.hid (HB0.out.trans (hb.mono HB0.out.size))
  clear hb HG0 HB0
  have k0 := ((blk_cell HG1.out 0).trans rfl : (w1 : World).cell? ⟨w.heap.size, 0, none⟩ = some (.int .i64 a))
  have k1 := ((blk_cell HG1.out 1).trans rfl : (w1 : World).cell? ⟨w.heap.size, 1, none⟩ = some (.int .i64 b))
  have k2 := ((blk_cell HG1.out 2).trans rfl : (w1 : World).cell? ⟨w.heap.size, 2, none⟩ = some (.int .i64 c))
  have k3 := ((blk_cell HG1.out 3).trans rfl : (w1 : World).cell? ⟨w.heap.size, 3, none⟩ = some (.int .i64 d))
  have k4 := ((blk_cell HG1.out 4).trans rfl : (w1 : World).cell? ⟨w.heap.size, 4, none⟩ = some (.string s))
  have k5 := ((blk_cell HG1.out 5).trans rfl : (w1 : World).cell? ⟨w.heap.size, 5, none⟩ = some (.slice A5 ps.length c5))
  have k6 := ((blk_cell HG1.out 6).trans rfl : (w1 : World).cell? ⟨w.heap.size, 6, none⟩ = some (.slice A6 cs.length c6))
  go_wp2_with fail
  clear k0 k1 k2 k3 k4 k5 k6
  refine (becketref12_Short.calls k a b c d s A5 c5 ps A6 c6 cs _ w1 (Kd.C_below HC5.out HB1.out) H5.out (Kd.C_below HC6.out HB1.out) H6.out (HK.out.short a b c d s ps cs)).mono ?_
  rintro e w2 ⟨rfl, hb⟩
  have HG2 := Lib.hid (blk_below HG1.out hb)
  have HB2 := Lib.hid (HB1.out.trans (hb.mono HB1.out.size))
  clear hb HG1 HB1
  by_cases hs : shortM s ps cs = true
  rotate_left
  · have hs' : shortM s ps cs = false := by simpa using hs
    rw [hs']
    clear hs hs'
    go_wp2
    go_ret
    exact ⟨rfl, HB2.out⟩
  rw [hs]
  clear hs
  by_cases g0 : (20000 : Int) < (l.length : Int)
  · have hd : decide ((20000 : Int) < (l.length : Int)) = true := decide_eq_true g0
    clear g0
    go_wp2
    go_ret
    exact ⟨rfl, HB2.out⟩
  have hd : decide ((20000 : Int) < (l.length : Int)) = false := decide_eq_false g0
  have hlo : LOk l := ⟨HBY0.out, by omega⟩
  have HLO := Lib.hid hlo
  clear g0
  have hgg : ∃ q, q = getM (tp l hlo) := ⟨_, rfl⟩
  obtain ⟨⟨q0, q1, q2, q3, q4, q5, q6, q7⟩, hgq⟩ := hgg
  have HGB : Hid (msg_Get.f k l = some (q0, q1, q2, q3, q4, q5, q6, q7)) := Lib.hid (by rw [HK.out.get hlo, hgq])
  have HGM : Hid (getM (tp l HLO.out) = (q0, q1, q2, q3, q4, q5, q6, q7)) := Lib.hid hgq.symm
  clear hgq hlo
  have k0 := ((blk_cell HG2.out 0).trans rfl : (w2 : World).cell? ⟨w.heap.size, 0, none⟩ = some (.int .i64 a))
  have k1 := ((blk_cell HG2.out 1).trans rfl : (w2 : World).cell? ⟨w.heap.size, 1, none⟩ = some (.int .i64 b))
  have k2 := ((blk_cell HG2.out 2).trans rfl : (w2 : World).cell? ⟨w.heap.size, 2, none⟩ = some (.int .i64 c))
  have k3 := ((blk_cell HG2.out 3).trans rfl : (w2 : World).cell? ⟨w.heap.size, 3, none⟩ = some (.int .i64 d))
  have k4 := ((blk_cell HG2.out 4).trans rfl : (w2 : World).cell? ⟨w.heap.size, 4, none⟩ = some (.string s))
  have k5 := ((blk_cell HG2.out 5).trans rfl : (w2 : World).cell? ⟨w.heap.size, 5, none⟩ = some (.slice A5 ps.length c5))
  have k6 := ((blk_cell HG2.out 6).trans rfl : (w2 : World).cell? ⟨w.heap.size, 6, none⟩ = some (.slice A6 cs.length c6))
  go_wp2_with fail
  clear k0 k1 k2 k3 k4 k5 k6
  have hput := HK.out.put a b c d s ps cs
  by_cases hm : mayM a b c d s ps cs = true
  · rw [if_pos hm] at hput
    have hok := LOk_msgE hm
    have hle := (ok_msgE (may_ok hm)).2
    have hokm : LOk (msgE a b c d s ps cs ++ [more]) := ⟨ok_append hok.b (fun x hx => by rw [List.mem_singleton] at hx; subst hx; exact HMO.out), by rw [List.length_append, List.length_singleton]; omega⟩
    have hg1 : msg_Get.f k (msgE a b c d s ps cs) = some (a, b, c, d, s, ps, cs, none) := by rw [HK.out.get hok, get_msgE hm hok]
    have hg2 : msg_Get.f k (msgE a b c d s ps cs ++ [more]) = some (0, 0, 0, 0, ⟨#[]⟩, [], [], some 2) := by rw [HK.out.get hokm, get_more hm more hokm]
    clear hok hokm hm
    generalize msgE a b c d s ps cs = pl at hput hg1 hg2 hle
    have HPUT := Lib.hid hput
    have HG1' := Lib.hid hg1
    have HG2' := Lib.hid hg2
    have HPL := Lib.hid hle
    clear hput hg1 hg2 hle
    refine (msg_Put.calls k a b c d s A5 c5 ps A6 c6 cs pl none w2 (Kd.C_below HC5.out HB2.out) H5.out (Kd.C_below HC6.out HB2.out) H6.out HPUT.out).mono ?_
    rintro e w3 ⟨vp, rfl, hr, hb⟩
    obtain ⟨Ap, cp, rfl, hcp, hF⟩ := hr
    rw [errW_none]
    have HP3 := Lib.hid (Kd.F_now hF)
    have HP3c := Lib.hid hcp
    have HG3 := Lib.hid (blk_below HG2.out hb)
    have HB3 := Lib.hid (HB2.out.trans (hb.mono HB2.out.size))
    clear hF hb HG2 HB2 hcp
    go_wp2_with fail
    refine (msg_Get.calls k Ap cp pl a b c d s ps cs none w3 HP3.out HP3c.out HG1'.out).mono ?_
    rintro e w4 ⟨vx, vx2, rfl, hr, hr2, hb⟩
    obtain ⟨Ax, cx, rfl⟩ := Kd.S_slice hr
    obtain ⟨Bx, ex, rfl⟩ := Kd.R_slice hr2
    rw [errW_none]
    have HX4 := Lib.hid (Kd.C_alloc (Kd.S_reads' hr).2.2 (.cells #[.int .i64 a, .int .i64 b, .int .i64 c, .int .i64 d, .string s, .slice Ax ps.length cx, .slice Bx cs.length ex] 25))
    have HX4c := Lib.hid (Kd.S_reads' hr).2.1
    have HV4 := Lib.hid (Kd.C_alloc (Kd.R_reads' hr2).2.2 (.cells #[.int .i64 a, .int .i64 b, .int .i64 c, .int .i64 d, .string s, .slice Ax ps.length cx, .slice Bx cs.length ex] 25))
    have HV4c := Lib.hid (Kd.R_reads' hr2).2.1
    have HGX := Lib.hid (heap_alloc_new w4 (.cells #[.int .i64 a, .int .i64 b, .int .i64 c, .int .i64 d, .string s, .slice Ax ps.length cx, .slice Bx cs.length ex] 25))
    have hb4 : Below w3.heap.size w3 (w4.alloc (.cells #[.int .i64 a, .int .i64 b, .int .i64 c, .int .i64 d, .string s, .slice Ax ps.length cx, .slice Bx cs.length ex] 25)) := hb.alloc hb.size _
    have HP4 := Lib.hid (Kd.C_below HP3.out hb4)
    have HG4 := Lib.hid (blk_below HG3.out hb4)
    have HB4 := Lib.hid (HB3.out.trans (hb4.mono HB3.out.size))
    clear hr hr2 hb hb4 HP3 HG3 HB3
    have hall : ∃ w5, w5 = (w4.alloc (.cells #[.int .i64 a, .int .i64 b, .int .i64 c, .int .i64 d, .string s, .slice Ax ps.length cx, .slice Bx cs.length ex] 25)) := ⟨_, rfl⟩
    obtain ⟨w5, hw5⟩ := hall
    rw [← hw5] at HX4 HV4 HGX HP4 HG4 HB4
    have HW5 := Lib.hid hw5
    clear hw5
    have HP5' : Hid (Kd.C (Kd.int .u8) ((w4.alloc (.cells #[.int .i64 a, .int .i64 b, .int .i64 c, .int .i64 d, .string s, .slice Ax ps.length cx, .slice Bx cs.length ex] 25)).alloc (.cells #[] 5)) Ap pl.length pl) := by rw [← HW5.out]; exact Lib.hid (Kd.C_alloc HP4.out _)
    have HN5 : Hid (Kd.R (Kd.int .u8) 5 ((w4.alloc (.cells #[.int .i64 a, .int .i64 b, .int .i64 c, .int .i64 d, .string s, .slice Ax ps.length cx, .slice Bx cs.length ex] 25)).alloc (.cells #[] 5)) (w4.heap.size + 1) (fun k => k = w4.heap.size + 1) (.slice (some ⟨w4.heap.size + 1, 0, none⟩) 0 0) []) := Lib.hid (nil_R' _ _ (by simp))
    go_wp2_with (at_builtin; refine Kd.R_append_row (w0 := (w4.alloc (.cells #[.int .i64 a, .int .i64 b, .int .i64 c, .int .i64 d, .string s, .slice Ax ps.length cx, .slice Bx cs.length ex] 25))) (Value.int .u8) 0 (h1 := fun _ => rfl) (w4.heap.size + 1) rfl (.tmp 43) (.tmp 44) 31 5 (.int .u8 0) 1 rfl Try.underlying31 (by kernel_rfl) rfl (by decide) (.slice (some ⟨w4.heap.size + 1, 0, none⟩) 0 0) [] pl Ap pl.length cp (fun k => w4.heap.size + 1 ≤ k) rfl rfl ?fresh ?own ?src ?bel (by simp) ?len ?go)
    case fresh => intro k hk; first | omega | (simp at hk; omega)
    case own => exact Kd.R_mono HN5.out (fun k hk => by omega)
    case src => exact HP5'.out
    case bel => exact (Below.refl _ _).alloc (by simp) _
    case len => have := HPL.out; first | omega | (simp; omega)
    case go =>
    intro v6 w6 hown hbel hgr hat
    replace hown : Kd.R (Kd.int .u8) 5 w6 (w4.heap.size + 1) (fun k => w4.heap.size + 1 ≤ k) v6 pl := hown
    obtain ⟨A6', c6', rfl⟩ := Kd.R_slice hown
    have HO6 := Lib.hid hown
    have HB6 := Lib.hid hbel
    clear hown hbel hgr hat HN5 HP5'
    go_wp2_with (at_builtin; refine Kd.R_append (Kd.int .u8) (w0 := (w4.alloc (.cells #[.int .i64 a, .int .i64 b, .int .i64 c, .int .i64 d, .string s, .slice Ax ps.length cx, .slice Bx cs.length ex] 25))) (w4.heap.size + 1) rfl (.tmp 45) (.tmp 47) 31 5 (.int .u8 0) 1 rfl Try.underlying31 (by kernel_rfl) rfl (by decide) (by omega) (.slice A6' pl.length c6') pl more [.int .u8 more] (fun k => w4.heap.size + 1 ≤ k) (fun _ => False) rfl rfl rfl (fun _ h => False.elim h) ?aF ?aO ?aB ?aS ?aL ?go)
    case aF => exact fun k hk => by have h1 := HB6.out.size; have h2 : (w4.alloc (.cells #[.int .i64 a, .int .i64 b, .int .i64 c, .int .i64 d, .string s, .slice Ax ps.length cx, .slice Bx cs.length ex] 25)).heap.size = w4.heap.size + 1 := by simp
                                    omega
    case aO => exact HO6.out
    case aB => exact HB6.out
    case aS => have h1 := HB6.out.size; have h2 : (w4.alloc (.cells #[.int .i64 a, .int .i64 b, .int .i64 c, .int .i64 d, .string s, .slice Ax ps.length cx, .slice Bx cs.length ex] 25)).heap.size = w4.heap.size + 1 := by simp
               omega
    case aL => have := HPL.out; omega
    case go =>
    intro v7 w7 hown hbel hgr hat
    obtain ⟨A7, c7, rfl⟩ := Kd.R_slice hown
    have hbel' : Below w5.heap.size w5 w7 := by rw [HW5.out]; exact hbel.mono (by simp)
    have HO7 := Lib.hid (Kd.R_reads' hown).2.2
    have HO7c := Lib.hid (Kd.R_reads' hown).2.1
    have HX7 := Lib.hid (Kd.C_below HX4.out hbel')
    have HV7 := Lib.hid (Kd.C_below HV4.out hbel')
    have HGX7 := Lib.hid (blk_below HGX.out hbel')
    have HG7 := Lib.hid (blk_below HG4.out hbel')
    have HB7 := Lib.hid (HB4.out.trans (hbel'.mono HB4.out.size))
    obtain ⟨pm, hpm⟩ : ∃ x, x = pl ++ [more] := ⟨_, rfl⟩
    have hg2 := HG2'.out
    rw [← hpm] at HO7 HO7c hg2
    have HGM2 := Lib.hid hg2
    have hpl : pl.length + 1 = pm.length := by rw [hpm]; simp
    clear hown hbel hbel' hgr hat HO6 HB6 HX4 HV4 HGX HG4 HB4 HP4 hg2 HG2'
    rw [← hpm]
    clear hpm hpl
    go_wp2_with fail
    refine (msg_Get.calls k A7 c7 pm 0 0 0 0 ⟨#[]⟩ [] [] (some 2) w7 HO7.out HO7c.out HGM2.out).mono ?_
    rintro e w8 ⟨vz, vz2, rfl, hr, hr2, hb⟩
    obtain ⟨Az, cz, rfl⟩ := Kd.S_slice hr
    obtain ⟨Bz, ez, rfl⟩ := Kd.R_slice hr2
    rw [errW_some]
    have hb8 : Below w7.heap.size w7 (w8.alloc (.cells #[.int .i64 0, .int .i64 0, .int .i64 0, .int .i64 0, .string ⟨#[]⟩, .slice Az 0 cz, .slice Bz 0 ez] 25)) := hb.alloc hb.size _
    have HX8 := Lib.hid (Kd.C_below HX7.out hb8)
    have HV8 := Lib.hid (Kd.C_below HV7.out hb8)
    have HGX8 := Lib.hid (blk_below HGX7.out hb8)
    have HG8 := Lib.hid (blk_below HG7.out hb8)
    have HB8 := Lib.hid (HB7.out.trans (hb8.mono HB7.out.size))
    clear hr hr2 hb hb8 HX7 HV7 HGX7 HG7 HB7 HO7 HO7c
    have x0 := ((blk_cell HGX8.out 0).trans rfl : ((w8.alloc (.cells #[.int .i64 0, .int .i64 0, .int .i64 0, .int .i64 0, .string ⟨#[]⟩, .slice Az 0 cz, .slice Bz 0 ez] 25)) : World).cell? ⟨w4.heap.size, 0, none⟩ = some (.int .i64 a))
    have x1 := ((blk_cell HGX8.out 1).trans rfl : ((w8.alloc (.cells #[.int .i64 0, .int .i64 0, .int .i64 0, .int .i64 0, .string ⟨#[]⟩, .slice Az 0 cz, .slice Bz 0 ez] 25)) : World).cell? ⟨w4.heap.size, 1, none⟩ = some (.int .i64 b))
    have x2 := ((blk_cell HGX8.out 2).trans rfl : ((w8.alloc (.cells #[.int .i64 0, .int .i64 0, .int .i64 0, .int .i64 0, .string ⟨#[]⟩, .slice Az 0 cz, .slice Bz 0 ez] 25)) : World).cell? ⟨w4.heap.size, 2, none⟩ = some (.int .i64 c))
    have x3 := ((blk_cell HGX8.out 3).trans rfl : ((w8.alloc (.cells #[.int .i64 0, .int .i64 0, .int .i64 0, .int .i64 0, .string ⟨#[]⟩, .slice Az 0 cz, .slice Bz 0 ez] 25)) : World).cell? ⟨w4.heap.size, 3, none⟩ = some (.int .i64 d))
    have x4 := ((blk_cell HGX8.out 4).trans rfl : ((w8.alloc (.cells #[.int .i64 0, .int .i64 0, .int .i64 0, .int .i64 0, .string ⟨#[]⟩, .slice Az 0 cz, .slice Bz 0 ez] 25)) : World).cell? ⟨w4.heap.size, 4, none⟩ = some (.string s))
    have x5 := ((blk_cell HGX8.out 5).trans rfl : ((w8.alloc (.cells #[.int .i64 0, .int .i64 0, .int .i64 0, .int .i64 0, .string ⟨#[]⟩, .slice Az 0 cz, .slice Bz 0 ez] 25)) : World).cell? ⟨w4.heap.size, 5, none⟩ = some (.slice Ax ps.length cx))
    have x6 := ((blk_cell HGX8.out 6).trans rfl : ((w8.alloc (.cells #[.int .i64 0, .int .i64 0, .int .i64 0, .int .i64 0, .string ⟨#[]⟩, .slice Az 0 cz, .slice Bz 0 ez] 25)) : World).cell? ⟨w4.heap.size, 6, none⟩ = some (.slice Bx cs.length ex))
    have k0 := ((blk_cell HG8.out 0).trans rfl : ((w8.alloc (.cells #[.int .i64 0, .int .i64 0, .int .i64 0, .int .i64 0, .string ⟨#[]⟩, .slice Az 0 cz, .slice Bz 0 ez] 25)) : World).cell? ⟨w.heap.size, 0, none⟩ = some (.int .i64 a))
    have k1 := ((blk_cell HG8.out 1).trans rfl : ((w8.alloc (.cells #[.int .i64 0, .int .i64 0, .int .i64 0, .int .i64 0, .string ⟨#[]⟩, .slice Az 0 cz, .slice Bz 0 ez] 25)) : World).cell? ⟨w.heap.size, 1, none⟩ = some (.int .i64 b))
    have k2 := ((blk_cell HG8.out 2).trans rfl : ((w8.alloc (.cells #[.int .i64 0, .int .i64 0, .int .i64 0, .int .i64 0, .string ⟨#[]⟩, .slice Az 0 cz, .slice Bz 0 ez] 25)) : World).cell? ⟨w.heap.size, 2, none⟩ = some (.int .i64 c))
    have k3 := ((blk_cell HG8.out 3).trans rfl : ((w8.alloc (.cells #[.int .i64 0, .int .i64 0, .int .i64 0, .int .i64 0, .string ⟨#[]⟩, .slice Az 0 cz, .slice Bz 0 ez] 25)) : World).cell? ⟨w.heap.size, 3, none⟩ = some (.int .i64 d))
    have k4 := ((blk_cell HG8.out 4).trans rfl : ((w8.alloc (.cells #[.int .i64 0, .int .i64 0, .int .i64 0, .int .i64 0, .string ⟨#[]⟩, .slice Az 0 cz, .slice Bz 0 ez] 25)) : World).cell? ⟨w.heap.size, 4, none⟩ = some (.string s))
    have k5 := ((blk_cell HG8.out 5).trans rfl : ((w8.alloc (.cells #[.int .i64 0, .int .i64 0, .int .i64 0, .int .i64 0, .string ⟨#[]⟩, .slice Az 0 cz, .slice Bz 0 ez] 25)) : World).cell? ⟨w.heap.size, 5, none⟩ = some (.slice A5 ps.length c5))
    have k6 := ((blk_cell HG8.out 6).trans rfl : ((w8.alloc (.cells #[.int .i64 0, .int .i64 0, .int .i64 0, .int .i64 0, .string ⟨#[]⟩, .slice Az 0 cz, .slice Bz 0 ez] 25)) : World).cell? ⟨w.heap.size, 6, none⟩ = some (.slice A6 cs.length c6))
    go_wp2_with fail
    clear x0 x1 x2 x3 x4 x5 x6
    clear k0 k1 k2 k3 k4 k5 k6
    refine (becketref12_Same.calls a b c d s Ax cx ps Bx ex cs a b c d s A5 c5 ps A6 c6 cs true _ HX8.out HX4c.out HV8.out HV4c.out (Kd.C_below HC5.out HB8.out) H5.out (Kd.C_below HC6.out HB8.out) H6.out (congrArg some (sameM_refl a b c d s ps cs))).mono ?_
    rintro e w9 ⟨rfl, hb⟩
    have HB9 := Lib.hid (HB8.out.trans (hb.mono HB8.out.size))
    clear hb
    go_wp2_with fail
    refine (msg_Get.calls k A1 c1 l q0 q1 q2 q3 q4 q5 q6 q7 w9 (Kd.C_below HB.out HB9.out) HCB.out HGB.out).mono ?_
    rintro e wy ⟨vy, vz, rfl, hr, hr2, hb⟩
    obtain ⟨Ay, cy, rfl⟩ := Kd.S_slice hr
    obtain ⟨Bz, cz, rfl⟩ := Kd.R_slice hr2
    have hby : Below w9.heap.size w9 (wy.alloc (.cells #[.int .i64 q0, .int .i64 q1, .int .i64 q2, .int .i64 q3, .string q4, .slice Ay q5.length cy, .slice Bz q6.length cz] 25)) := hb.alloc hb.size _
    have HY := Lib.hid (Kd.C_alloc (Kd.S_reads' hr).2.2 (.cells #[.int .i64 q0, .int .i64 q1, .int .i64 q2, .int .i64 q3, .string q4, .slice Ay q5.length cy, .slice Bz q6.length cz] 25))
    have HYc := Lib.hid (Kd.S_reads' hr).2.1
    have HZ := Lib.hid (Kd.C_alloc (Kd.R_reads' hr2).2.2 (.cells #[.int .i64 q0, .int .i64 q1, .int .i64 q2, .int .i64 q3, .string q4, .slice Ay q5.length cy, .slice Bz q6.length cz] 25))
    have HZc := Lib.hid (Kd.R_reads' hr2).2.1
    have HGY := Lib.hid (heap_alloc_new wy (.cells #[.int .i64 q0, .int .i64 q1, .int .i64 q2, .int .i64 q3, .string q4, .slice Ay q5.length cy, .slice Bz q6.length cz] 25))
    have HBY := Lib.hid (HB9.out.trans (hby.mono HB9.out.size))
    clear hr hr2 hb hby
    cases q7 with
    | some z =>
      rw [errW_some]
      go_wp2
      go_ret
      exact ⟨rfl, HBY.out⟩
    | none =>
      rw [errW_none]
      have y0 := ((blk_cell HGY.out 0).trans rfl : ((wy.alloc (.cells #[.int .i64 q0, .int .i64 q1, .int .i64 q2, .int .i64 q3, .string q4, .slice Ay q5.length cy, .slice Bz q6.length cz] 25)) : World).cell? ⟨wy.heap.size, 0, none⟩ = some (.int .i64 q0))
      have y1 := ((blk_cell HGY.out 1).trans rfl : ((wy.alloc (.cells #[.int .i64 q0, .int .i64 q1, .int .i64 q2, .int .i64 q3, .string q4, .slice Ay q5.length cy, .slice Bz q6.length cz] 25)) : World).cell? ⟨wy.heap.size, 1, none⟩ = some (.int .i64 q1))
      have y2 := ((blk_cell HGY.out 2).trans rfl : ((wy.alloc (.cells #[.int .i64 q0, .int .i64 q1, .int .i64 q2, .int .i64 q3, .string q4, .slice Ay q5.length cy, .slice Bz q6.length cz] 25)) : World).cell? ⟨wy.heap.size, 2, none⟩ = some (.int .i64 q2))
      have y3 := ((blk_cell HGY.out 3).trans rfl : ((wy.alloc (.cells #[.int .i64 q0, .int .i64 q1, .int .i64 q2, .int .i64 q3, .string q4, .slice Ay q5.length cy, .slice Bz q6.length cz] 25)) : World).cell? ⟨wy.heap.size, 3, none⟩ = some (.int .i64 q3))
      have y4 := ((blk_cell HGY.out 4).trans rfl : ((wy.alloc (.cells #[.int .i64 q0, .int .i64 q1, .int .i64 q2, .int .i64 q3, .string q4, .slice Ay q5.length cy, .slice Bz q6.length cz] 25)) : World).cell? ⟨wy.heap.size, 4, none⟩ = some (.string q4))
      have y5 := ((blk_cell HGY.out 5).trans rfl : ((wy.alloc (.cells #[.int .i64 q0, .int .i64 q1, .int .i64 q2, .int .i64 q3, .string q4, .slice Ay q5.length cy, .slice Bz q6.length cz] 25)) : World).cell? ⟨wy.heap.size, 5, none⟩ = some (.slice Ay q5.length cy))
      have y6 := ((blk_cell HGY.out 6).trans rfl : ((wy.alloc (.cells #[.int .i64 q0, .int .i64 q1, .int .i64 q2, .int .i64 q3, .string q4, .slice Ay q5.length cy, .slice Bz q6.length cz] 25)) : World).cell? ⟨wy.heap.size, 6, none⟩ = some (.slice Bz q6.length cz))
      go_wp2_with fail
      clear y0 y1 y2 y3 y4 y5 y6
      refine (msg_Put.calls k q0 q1 q2 q3 q4 Ay cy q5 Bz cz q6 l none _ HY.out HYc.out HZ.out HZc.out (HK.out.put_got HLO.out HGM.out)).mono ?_
      rintro e wz ⟨vz, rfl, hr, hb⟩
      obtain ⟨Az, dz, rfl, hdz, hF⟩ := hr
      rw [errW_none]
      have hcv := Kd.C_string (P := Try.prog) (c := dz) Try.underlying31 Try.underlying5 Try.underlying9 (Kd.F_now hF)
      have HBZ := Lib.hid (HBY.out.trans (hb.mono HBY.out.size))
      have hcB := Kd.C_string (P := Try.prog) (c := c1) Try.underlying31 Try.underlying5 Try.underlying9 (Kd.C_below HB.out HBZ.out)
      clear hF hb
      go_wp2
      go_ret
      exact ⟨by first | rfl | simp, HBZ.out⟩
  · rw [if_neg hm] at hput
    have HPUT := Lib.hid hput
    clear hput hm
    refine (msg_Put.calls k a b c d s A5 c5 ps A6 c6 cs [] (some 1) w2 (Kd.C_below HC5.out HB2.out) H5.out (Kd.C_below HC6.out HB2.out) H6.out HPUT.out).mono ?_
    rintro e w3 ⟨vp, rfl, hr, hb⟩
    obtain ⟨Ap, cp, rfl, hcp, hF⟩ := hr
    rw [errW_some]
    have HB3 := Lib.hid (HB2.out.trans (hb.mono HB2.out.size))
    clear hF hb HG2 HB2 hcp
    go_wp2_with fail
    refine (msg_Get.calls k A1 c1 l q0 q1 q2 q3 q4 q5 q6 q7 w3 (Kd.C_below HB.out HB3.out) HCB.out HGB.out).mono ?_
    rintro e wy ⟨vy, vz, rfl, hr, hr2, hb⟩
    obtain ⟨Ay, cy, rfl⟩ := Kd.S_slice hr
    obtain ⟨Bz, cz, rfl⟩ := Kd.R_slice hr2
    have hby : Below w3.heap.size w3 (wy.alloc (.cells #[.int .i64 q0, .int .i64 q1, .int .i64 q2, .int .i64 q3, .string q4, .slice Ay q5.length cy, .slice Bz q6.length cz] 25)) := hb.alloc hb.size _
    have HY := Lib.hid (Kd.C_alloc (Kd.S_reads' hr).2.2 (.cells #[.int .i64 q0, .int .i64 q1, .int .i64 q2, .int .i64 q3, .string q4, .slice Ay q5.length cy, .slice Bz q6.length cz] 25))
    have HYc := Lib.hid (Kd.S_reads' hr).2.1
    have HZ := Lib.hid (Kd.C_alloc (Kd.R_reads' hr2).2.2 (.cells #[.int .i64 q0, .int .i64 q1, .int .i64 q2, .int .i64 q3, .string q4, .slice Ay q5.length cy, .slice Bz q6.length cz] 25))
    have HZc := Lib.hid (Kd.R_reads' hr2).2.1
    have HGY := Lib.hid (heap_alloc_new wy (.cells #[.int .i64 q0, .int .i64 q1, .int .i64 q2, .int .i64 q3, .string q4, .slice Ay q5.length cy, .slice Bz q6.length cz] 25))
    have HBY := Lib.hid (HB3.out.trans (hby.mono HB3.out.size))
    clear hr hr2 hb hby
    cases q7 with
    | some z =>
      rw [errW_some]
      go_wp2
      go_ret
      exact ⟨rfl, HBY.out⟩
    | none =>
      rw [errW_none]
      have y0 := ((blk_cell HGY.out 0).trans rfl : ((wy.alloc (.cells #[.int .i64 q0, .int .i64 q1, .int .i64 q2, .int .i64 q3, .string q4, .slice Ay q5.length cy, .slice Bz q6.length cz] 25)) : World).cell? ⟨wy.heap.size, 0, none⟩ = some (.int .i64 q0))
      have y1 := ((blk_cell HGY.out 1).trans rfl : ((wy.alloc (.cells #[.int .i64 q0, .int .i64 q1, .int .i64 q2, .int .i64 q3, .string q4, .slice Ay q5.length cy, .slice Bz q6.length cz] 25)) : World).cell? ⟨wy.heap.size, 1, none⟩ = some (.int .i64 q1))
      have y2 := ((blk_cell HGY.out 2).trans rfl : ((wy.alloc (.cells #[.int .i64 q0, .int .i64 q1, .int .i64 q2, .int .i64 q3, .string q4, .slice Ay q5.length cy, .slice Bz q6.length cz] 25)) : World).cell? ⟨wy.heap.size, 2, none⟩ = some (.int .i64 q2))
      have y3 := ((blk_cell HGY.out 3).trans rfl : ((wy.alloc (.cells #[.int .i64 q0, .int .i64 q1, .int .i64 q2, .int .i64 q3, .string q4, .slice Ay q5.length cy, .slice Bz q6.length cz] 25)) : World).cell? ⟨wy.heap.size, 3, none⟩ = some (.int .i64 q3))
      have y4 := ((blk_cell HGY.out 4).trans rfl : ((wy.alloc (.cells #[.int .i64 q0, .int .i64 q1, .int .i64 q2, .int .i64 q3, .string q4, .slice Ay q5.length cy, .slice Bz q6.length cz] 25)) : World).cell? ⟨wy.heap.size, 4, none⟩ = some (.string q4))
      have y5 := ((blk_cell HGY.out 5).trans rfl : ((wy.alloc (.cells #[.int .i64 q0, .int .i64 q1, .int .i64 q2, .int .i64 q3, .string q4, .slice Ay q5.length cy, .slice Bz q6.length cz] 25)) : World).cell? ⟨wy.heap.size, 5, none⟩ = some (.slice Ay q5.length cy))
      have y6 := ((blk_cell HGY.out 6).trans rfl : ((wy.alloc (.cells #[.int .i64 q0, .int .i64 q1, .int .i64 q2, .int .i64 q3, .string q4, .slice Ay q5.length cy, .slice Bz q6.length cz] 25)) : World).cell? ⟨wy.heap.size, 6, none⟩ = some (.slice Bz q6.length cz))
      go_wp2_with fail
      clear y0 y1 y2 y3 y4 y5 y6
      refine (msg_Put.calls k q0 q1 q2 q3 q4 Ay cy q5 Bz cz q6 l none _ HY.out HYc.out HZ.out HZc.out (HK.out.put_got HLO.out HGM.out)).mono ?_
      rintro e wz ⟨vz, rfl, hr, hb⟩
      obtain ⟨Az, dz, rfl, hdz, hF⟩ := hr
      rw [errW_none]
      have hcv := Kd.C_string (P := Try.prog) (c := dz) Try.underlying31 Try.underlying5 Try.underlying9 (Kd.F_now hF)
      have HBZ := Lib.hid (HBY.out.trans (hb.mono HBY.out.size))
      have hcB := Kd.C_string (P := Try.prog) (c := c1) Try.underlying31 Try.underlying5 Try.underlying9 (Kd.C_below HB.out HBZ.out)
      clear hF hb
      go_wp2
      go_ret
      exact ⟨by first | rfl | simp, HBZ.out⟩
end Go.Proofs.Ytpbbgbikebcnbaa.MsgP
