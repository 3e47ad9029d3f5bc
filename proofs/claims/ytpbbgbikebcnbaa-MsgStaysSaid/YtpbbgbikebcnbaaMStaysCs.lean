-- Cut by a program of this session (wip/shake.py) out of a text of this seat: what this claim doesn't reach is struck out. Lean checks it.
import Derived.Test.YtpbbgbikebcnbaaPureMJCs
import Derived.Test.YtpbbgbikebcnbaaMBackCs
import Derived.Lib.Hide
import Derived.BigRegion
namespace Go.Proofs.Ytpbbgbikebcnbaa.MsgP
open Go.RowKit Go.Proofs.Ytpbbgbikebcnbaa.Ms Go.Proofs.Ytpbbgbikebcnbaa.MsgL Go.Proofs.YtpbbgbikebcnbaaW.PrintWords Go.Proofs.YtpbbgbikebcnbaaW.PrintLast Go.Proofs.YtpbbgbikebcnbaaW.PrintMore
attribute [local go_sem] Go.Proofs.Ytpbbgbikebcnbaa.Ms.eqlErr Go.Proofs.Ytpbbgbikebcnbaa.Ms.neqErr Go.Proofs.Ytpbbgbikebcnbaa.Ms.eqlErrNil Go.Proofs.Ytpbbgbikebcnbaa.Ms.neqErrNil
set_option linter.unusedVariables false
set_option linter.unusedSimpArgs false
def ST (w W : World) (g0 g1 : Nat) (a b c d : Int) (s : ByteArray) (A5 : Option Addr) (c5 : Nat) (ps : List S95) (A6 : Option Addr) (c6 : Nat) (cs : List S61) (Ao : Option Addr) (co : Nat) (Bo : Option Addr) (eo : Nat) (N : Nat) : Prop :=
  W.heap[g0]? = some (.cells #[.int .i64 a, .int .i64 b, .int .i64 c, .int .i64 d, .string s, .slice A5 ps.length c5, .slice A6 cs.length c6] 25 (0, 0)) ∧ W.heap[g1]? = some (.cells #[.int .i64 a, .int .i64 b, .int .i64 c, .int .i64 d, .string s, .slice Ao ps.length co, .slice Bo cs.length eo] 25 (0, 0)) ∧ Kd.F k95 W (fun k => k < N) Ao ps.length ps ∧ Kd.F k61 W (fun k => k < N) Bo cs.length cs ∧ Below w.heap.size w W ∧ g0 < N ∧ g1 < N
theorem ST.kept {w W W' : World} {g0 g1 : Nat} {a b c d : Int} {s : ByteArray} {A5 : Option Addr} {c5 : Nat} {ps : List S95} {A6 : Option Addr} {c6 : Nat} {cs : List S61} {Ao : Option Addr} {co : Nat} {Bo : Option Addr} {eo : Nat} {N : Nat} {S : Nat → Prop} (h : ST w W g0 g1 a b c d s A5 c5 ps A6 c6 cs Ao co Bo eo N) (hk : Kept W W' S) (hb : Below w.heap.size w W') (hS : ∀ k, k < N → ¬ S k) : ST w W' g0 g1 a b c d s A5 c5 ps A6 c6 cs Ao co Bo eo N := by
  obtain ⟨h1, h2, h3, h4, h5, h6, h7⟩ := h
  exact ⟨blk_kept h1 hk (hS g0 h6), blk_kept h2 hk (hS g1 h7), Kd.F_kept h3 hk hS, Kd.F_kept h4 hk hS, hb, h6, h7⟩
theorem ST.below {w W W' : World} {g0 g1 : Nat} {a b c d : Int} {s : ByteArray} {A5 : Option Addr} {c5 : Nat} {ps : List S95} {A6 : Option Addr} {c6 : Nat} {cs : List S61} {Ao : Option Addr} {co : Nat} {Bo : Option Addr} {eo : Nat} {N : Nat} (h : ST w W g0 g1 a b c d s A5 c5 ps A6 c6 cs Ao co Bo eo N) (hb : Below W.heap.size W W') : ST w W' g0 g1 a b c d s A5 c5 ps A6 c6 cs Ao co Bo eo N := by
  obtain ⟨h1, h2, h3, h4, h5, h6, h7⟩ := h
  exact ⟨blk_below h1 hb, blk_below h2 hb, Kd.F_below h3 hb, Kd.F_below h4 hb, h5.trans (hb.mono h5.size), h6, h7⟩
theorem set_kept {w : World} {g j : Nat} {u : Value} {ok : Nat → Prop} (hg : ok g) : Kept w (w.setCell ⟨g, j, none⟩ u) ok := (Kept.refl w ok).setCell (.inl hg) u
theorem Copy_Z (a b c d : Int) (s : ByteArray) (ps : List S95) (cs : List S61) (hs : shortM s ps cs = true) {k : Nat} (hk : KOk k) : becketref12_Copy.f k a b c d s ps cs = some (a, b, c, d, s, ps, cs) := Copy_f a b c d s ps cs hs k (Nat.le_trans (by decide) hk.big)
theorem KOk.putN {k : Nat} (hk : KOk k) (a b c d : Int) (s : ByteArray) (ps : List S95) (cs : List S61) : ∃ pl er, msg_Put.f k a b c d s ps cs = some (pl, er) := by
  have h := hk.put a b c d s ps cs
  by_cases hm : mayM a b c d s ps cs = true
  · rw [if_pos hm] at h; exact ⟨_, _, h⟩
  · rw [if_neg hm] at h; exact ⟨_, _, h⟩
set_option maxHeartbeats 16000000 in
set_option maxRecDepth 100000 in
theorem stays_calls (a b c d : Int) (s : ByteArray) (A5 : Option Addr) (c5 : Nat) (ps : List S95) (A6 : Option Addr) (c6 : Nat) (cs : List S61) (A1 : Option Addr) (c1 : Nat) (l : List Int) (w : World) (hC5 : Kd.C k95 w A5 ps.length ps) (hc5 : ps.length ≤ c5) (hC6 : Kd.C k61 w A6 cs.length cs) (hc6 : cs.length ≤ c6) (hB : Kd.C (Kd.int .u8) w A1 l.length l) (hcb : l.length ≤ c1) (hby : bytesOk l) :
    Calls Try.prog 6 #[.agg #[.int .i64 a, .int .i64 b, .int .i64 c, .int .i64 d, .string s, .slice A5 ps.length c5, .slice A6 cs.length c6], .slice A1 l.length c1] w fun e w' => e = .returned (.bool true) ∧ Below w.heap.size w w' := by
  obtain ⟨k, hk⟩ := KOk.at
  have HK := Lib.hid hk
  have HC5 := Lib.hid hC5
  have HC6 := Lib.hid hC6
  have H5 := Lib.hid hc5
  have H6 := Lib.hid hc6
  have HB := Lib.hid hB
  have HCB := Lib.hid hcb
  have HBY0 := Lib.hid hby
  have HG0 := Lib.hid (heap_alloc_new w (.cells #[.int .i64 a, .int .i64 b, .int .i64 c, .int .i64 d, .string s, .slice A5 ps.length c5, .slice A6 cs.length c6] 25))
  have HB0 := Lib.hid ((Below.refl w.heap.size w).alloc (Nat.le_refl _) (.cells #[.int .i64 a, .int .i64 b, .int .i64 c, .int .i64 d, .string s, .slice A5 ps.length c5, .slice A6 cs.length c6] 25))
  clear hC5 hC6 hB hby hk hc5 hc6 hcb
  go_enter Try.func6, Try.ntmps6
  go_wp2_with fail
  refine (becketlaw12_up.calls k true _ HK.out.up).mono ?_
  rintro e w1 ⟨rfl, hb⟩
  have HG1 := Lib.hid (blk_below HG0.out hb)
  have HB1 := Lib.hid (HB0.out.trans (hb.mono HB0.out.size))
  clear hb HG0 HB0
  have k0 := ((blk_cell HG1.out 0).trans rfl : (w1 : World).cell? ⟨w.heap.size, 0, none⟩ = some (.int .i64 a))
  have k1 := ((blk_cell HG1.out 1).trans rfl : (w1 : World).cell? ⟨w.heap.size, 1, none⟩ = some (.int .i64 b))
  have k2 := ((blk_cell HG1.out 2).trans rfl : (w1 : World).cell? ⟨w.heap.size, 2, none⟩ = some (.int .i64 c))
  have k3 := ((blk_cell HG1.out 3).trans rfl : (w1 : World).cell? ⟨w.heap.size, 3, none⟩ = some (.int .i64 d))
  have k4 := ((blk_cell HG1.out 4).trans rfl : (w1 : World).cell? ⟨w.heap.size, 4, none⟩ = some (.string s))
  have k5 := ((blk_cell HG1.out 5).trans rfl : (w1 : World).cell? ⟨w.heap.size, 5, none⟩ = some (.slice A5 ps.length c5))
  have k6 := ((blk_cell HG1.out 6).trans rfl : (w1 : World).cell? ⟨w.heap.size, 6, none⟩ = some (.slice A6 cs.length c6))
  go_wp2_with fail
  clear k0 k1 k2 k3 k4 k5 k6
  refine (becketref12_Short.calls k a b c d s A5 c5 ps A6 c6 cs _ w1 (Kd.C_below HC5.out HB1.out) H5.out (Kd.C_below HC6.out HB1.out) H6.out (HK.out.short a b c d s ps cs)).mono ?_
  rintro e w2 ⟨rfl, hb⟩
  have HG2 := Lib.hid (blk_below HG1.out hb)
  have HB2 := Lib.hid (HB1.out.trans (hb.mono HB1.out.size))
  clear hb HG1 HB1
  by_cases hs : shortM s ps cs = true
  rotate_left
  · have hs' : shortM s ps cs = false := by simpa using hs
    rw [hs']
    clear hs hs'
    go_wp2
    go_ret
    exact ⟨rfl, HB2.out⟩
  rw [hs]
  have HCOPY := Lib.hid (Copy_Z a b c d s ps cs hs HK.out)
  clear hs
  by_cases g0 : (20000 : Int) < (l.length : Int)
  · have hd : decide ((20000 : Int) < (l.length : Int)) = true := decide_eq_true g0
    clear g0
    go_wp2
    go_ret
    exact ⟨rfl, HB2.out⟩
  have hd : decide ((20000 : Int) < (l.length : Int)) = false := decide_eq_false g0
  have hlo : LOk l := ⟨HBY0.out, by omega⟩
  have HLO := Lib.hid hlo
  have HLB := Lib.hid g0
  clear g0
  have hgg : ∃ q, q = getM (tp l hlo) := ⟨_, rfl⟩
  obtain ⟨⟨q0, q1, q2, q3, q4, q5, q6, q7⟩, hgq⟩ := hgg
  have HGET : Hid (msg_Get.f k l = some (q0, q1, q2, q3, q4, q5, q6, q7)) := Lib.hid (by rw [HK.out.get hlo, hgq])
  clear hgq hlo
  obtain ⟨pl, er, hput⟩ := HK.out.putN a b c d s ps cs
  have HPUT := Lib.hid hput
  clear hput
  have k0 := ((blk_cell HG2.out 0).trans rfl : (w2 : World).cell? ⟨w.heap.size, 0, none⟩ = some (.int .i64 a))
  have k1 := ((blk_cell HG2.out 1).trans rfl : (w2 : World).cell? ⟨w.heap.size, 1, none⟩ = some (.int .i64 b))
  have k2 := ((blk_cell HG2.out 2).trans rfl : (w2 : World).cell? ⟨w.heap.size, 2, none⟩ = some (.int .i64 c))
  have k3 := ((blk_cell HG2.out 3).trans rfl : (w2 : World).cell? ⟨w.heap.size, 3, none⟩ = some (.int .i64 d))
  have k4 := ((blk_cell HG2.out 4).trans rfl : (w2 : World).cell? ⟨w.heap.size, 4, none⟩ = some (.string s))
  have k5 := ((blk_cell HG2.out 5).trans rfl : (w2 : World).cell? ⟨w.heap.size, 5, none⟩ = some (.slice A5 ps.length c5))
  have k6 := ((blk_cell HG2.out 6).trans rfl : (w2 : World).cell? ⟨w.heap.size, 6, none⟩ = some (.slice A6 cs.length c6))
  go_wp2_with fail
  clear k0 k1 k2 k3 k4 k5 k6
  refine (becketref12_Copy.calls k a b c d s A5 c5 ps A6 c6 cs a b c d s ps cs w2 (Kd.C_below HC5.out HB2.out) H5.out (Kd.C_below HC6.out HB2.out) H6.out HCOPY.out).mono ?_
  rintro e w3 ⟨v5, v6, rfl, hr, hr2, hb⟩
  obtain ⟨Ao, co, rfl⟩ := Kd.S_slice hr
  obtain ⟨Bo, eo, rfl⟩ := Kd.R_slice hr2
  have hSTx : ∃ N, N = w3.heap.size + 1 := ⟨_, rfl⟩
  obtain ⟨N, hN⟩ := hSTx
  have hlt3 : w.heap.size < w3.heap.size := blk_lt (blk_below HG2.out hb)
  have hST : ST w (w3.alloc (.cells #[.int .i64 a, .int .i64 b, .int .i64 c, .int .i64 d, .string s, .slice Ao ps.length co, .slice Bo cs.length eo] 25)) w.heap.size w3.heap.size a b c d s A5 c5 ps A6 c6 cs Ao co Bo eo N :=
    ⟨blk_below HG2.out (hb.alloc hb.size _), heap_alloc_new w3 _, Kd.F_mono (Kd.F_alloc (Kd.F_bound (Kd.R_F (Kd.S_R hr))) _) (fun k hk => by have := hk.2; omega), Kd.F_mono (Kd.F_alloc (Kd.F_bound (Kd.R_F hr2)) _) (fun k hk => by have := hk.2; omega), HB2.out.trans ((hb.alloc hb.size _).mono HB2.out.size), by omega, by omega⟩
  have HST := Lib.hid hST
  have HOc := Lib.hid (Kd.S_reads' hr).2.1
  have HVc := Lib.hid (Kd.R_reads' hr2).2.1
  have HNS : Hid (N = (w3.alloc (.cells #[.int .i64 a, .int .i64 b, .int .i64 c, .int .i64 d, .string s, .slice Ao ps.length co, .slice Bo cs.length eo] 25)).heap.size) := Lib.hid (by simp; exact hN)
  have HLT := Lib.hid hlt3
  clear hr hr2 hb hST hlt3 HG2 HB2 hN HCOPY
  have m0 := ((blk_cell HST.out.2.1 0).trans rfl : ((w3.alloc (.cells #[.int .i64 a, .int .i64 b, .int .i64 c, .int .i64 d, .string s, .slice Ao ps.length co, .slice Bo cs.length eo] 25)) : World).cell? ⟨w3.heap.size, 0, none⟩ = some (.int .i64 a))
  have m1 := ((blk_cell HST.out.2.1 1).trans rfl : ((w3.alloc (.cells #[.int .i64 a, .int .i64 b, .int .i64 c, .int .i64 d, .string s, .slice Ao ps.length co, .slice Bo cs.length eo] 25)) : World).cell? ⟨w3.heap.size, 1, none⟩ = some (.int .i64 b))
  have m2 := ((blk_cell HST.out.2.1 2).trans rfl : ((w3.alloc (.cells #[.int .i64 a, .int .i64 b, .int .i64 c, .int .i64 d, .string s, .slice Ao ps.length co, .slice Bo cs.length eo] 25)) : World).cell? ⟨w3.heap.size, 2, none⟩ = some (.int .i64 c))
  have m3 := ((blk_cell HST.out.2.1 3).trans rfl : ((w3.alloc (.cells #[.int .i64 a, .int .i64 b, .int .i64 c, .int .i64 d, .string s, .slice Ao ps.length co, .slice Bo cs.length eo] 25)) : World).cell? ⟨w3.heap.size, 3, none⟩ = some (.int .i64 d))
  have m4 := ((blk_cell HST.out.2.1 4).trans rfl : ((w3.alloc (.cells #[.int .i64 a, .int .i64 b, .int .i64 c, .int .i64 d, .string s, .slice Ao ps.length co, .slice Bo cs.length eo] 25)) : World).cell? ⟨w3.heap.size, 4, none⟩ = some (.string s))
  have m5 := ((blk_cell HST.out.2.1 5).trans rfl : ((w3.alloc (.cells #[.int .i64 a, .int .i64 b, .int .i64 c, .int .i64 d, .string s, .slice Ao ps.length co, .slice Bo cs.length eo] 25)) : World).cell? ⟨w3.heap.size, 5, none⟩ = some (.slice Ao ps.length co))
  have m6 := ((blk_cell HST.out.2.1 6).trans rfl : ((w3.alloc (.cells #[.int .i64 a, .int .i64 b, .int .i64 c, .int .i64 d, .string s, .slice Ao ps.length co, .slice Bo cs.length eo] 25)) : World).cell? ⟨w3.heap.size, 6, none⟩ = some (.slice Bo cs.length eo))
  go_wp2_with fail
  clear m0 m1 m2 m3 m4 m5 m6
  generalize (w3.alloc (.cells #[.int .i64 a, .int .i64 b, .int .i64 c, .int .i64 d, .string s, .slice Ao ps.length co, .slice Bo cs.length eo] 25)) = wS at *
  refine (msg_Put.callsO k a b c d s Ao co ps Bo eo cs pl er wS (Kd.F_now HST.out.2.2.1) HOc.out (Kd.F_now HST.out.2.2.2.1) HVc.out HPUT.out).mono ?_
  rintro e w5 ⟨vp, rfl, hr0, hb⟩
  have hr : Kd.R (Kd.int .u8) 5 w5 0 (fun k => wS.heap.size ≤ k) vp pl := hr0
  obtain ⟨Ap, cp, rfl⟩ := Kd.R_slice hr
  have hcv := own_string (P := Try.prog) Try.underlying31 Try.underlying5 Try.underlying9 (Kd.own_of_R hr)
  have HP5 : Hid (Kd.R (Kd.int .u8) 5 w5 0 (fun k => wS.heap.size ≤ k ∧ k < w5.heap.size) (.slice Ap pl.length cp) pl) := Lib.hid (Kd.R_mono (Kd.R_bound hr) (fun k hk => ⟨hk.1, hk.2.2.1⟩))
  have HST5 := Lib.hid (HST.out.below hb)
  have HPM := Lib.hid (Kd.R_reads' hr).2.2.2.1
  have HS5 := Lib.hid hb.size
  clear hr hr0 hb HST
  go_wp2_with fail
  clear hcv
  go_loopg [11] pl.length (fun kj v11 w' => ∃ (xs : List Int) (j : Int), v11 = .int .i64 j ∧ Hid (j = pl.length - kj ∧ kj ≤ pl.length ∧ xs.length = pl.length) ∧ Hid (Kd.R (Kd.int .u8) 5 w' 0 (fun k => wS.heap.size ≤ k ∧ k < w5.heap.size) (.slice Ap pl.length cp) xs) ∧ Hid (ST w w' w.heap.size w3.heap.size a b c d s A5 c5 ps A6 c6 cs Ao co Bo eo N) ∧ Hid (w5.heap.size ≤ w'.heap.size))
  case atStart => exact ⟨pl, 0, rfl, Lib.hid ⟨by omega, by omega, rfl⟩, HP5, HST5, Lib.hid (Nat.le_refl _)⟩
  case round =>
    clear HP5 HST5
    obtain ⟨xs, j, rfl, HJ, HO, HT, HSR⟩ := hrel
    cases gk with
    | zero =>
      have hj : j = (pl.length : Int) := by have := HJ.out; omega
      subst hj
      have m0 := ((blk_cell HT.out.2.1 0).trans rfl : (wr : World).cell? ⟨w3.heap.size, 0, none⟩ = some (.int .i64 a))
      have m1 := ((blk_cell HT.out.2.1 1).trans rfl : (wr : World).cell? ⟨w3.heap.size, 1, none⟩ = some (.int .i64 b))
      have m2 := ((blk_cell HT.out.2.1 2).trans rfl : (wr : World).cell? ⟨w3.heap.size, 2, none⟩ = some (.int .i64 c))
      have m3 := ((blk_cell HT.out.2.1 3).trans rfl : (wr : World).cell? ⟨w3.heap.size, 3, none⟩ = some (.int .i64 d))
      have m4 := ((blk_cell HT.out.2.1 4).trans rfl : (wr : World).cell? ⟨w3.heap.size, 4, none⟩ = some (.string s))
      have m5 := ((blk_cell HT.out.2.1 5).trans rfl : (wr : World).cell? ⟨w3.heap.size, 5, none⟩ = some (.slice Ao ps.length co))
      have m6 := ((blk_cell HT.out.2.1 6).trans rfl : (wr : World).cell? ⟨w3.heap.size, 6, none⟩ = some (.slice Bo cs.length eo))
      go_wp2_with fail
      clear m0 m1 m2 m3 m4 m5 m6
      refine (msg_Put.calls k a b c d s Ao co ps Bo eo cs pl er wr (Kd.F_now HT.out.2.2.1) HOc.out (Kd.F_now HT.out.2.2.2.1) HVc.out HPUT.out).mono ?_
      rintro e w6 ⟨vq, rfl, hr, hb⟩
      obtain ⟨Aq, cq, rfl, hcq, hF⟩ := hr
      have HQ6 := Lib.hid (Kd.F_mono (Kd.F_bound hF) (fun k hk => (⟨hk.1, hk.2⟩ : wr.heap.size ≤ k ∧ k < w6.heap.size)))
      have HT6 := Lib.hid (HT.out.below hb)
      have HSR6 := Lib.hid (Nat.le_trans HSR.out hb.size)
      clear hF hcq hb HO HT
      have hfr : Kd.C (Kd.int .u8) w6 A1 l.length l := Kd.C_below HB.out HT6.out.2.2.2.2.1
      have HB6 := Lib.hid hfr
      clear hfr
      go_wp2_with (at_builtin; refine Kd.R_append_row (w0 := w6) (Value.int .u8) 0 (h1 := fun _ => rfl) w6.heap.size rfl (.tmp 59) (.tmp 60) 31 5 (.int .u8 0) 1 rfl Try.underlying31 (by kernel_rfl) rfl (by decide) (.slice (some ⟨w6.heap.size, 0, none⟩) 0 0) [] l A1 l.length c1 (fun k => w6.heap.size ≤ k) rfl rfl ?fresh ?own ?src ((Below.refl _ _).alloc (Nat.le_refl _) _) (by simp) ?len ?go)
      case fresh => intro k hk; first | omega | (simp at hk; omega)
      case own => exact Kd.R_mono (nil_R w6) (fun k hk => by omega)
      case src => exact Kd.C_alloc HB6.out _
      case len => have := HLB.out; first | omega | (simp; omega)
      case go =>
      intro v7 w7 hown hbel hgr hat
      replace hown : Kd.R (Kd.int .u8) 5 w7 w6.heap.size (fun k => w6.heap.size ≤ k) v7 l := hown
      obtain ⟨Am, cm, rfl⟩ := Kd.R_slice hown
      have HM7 := Lib.hid (Kd.R_mono (Kd.R_bound hown) (fun k hk => (⟨hk.1, hk.2.2.1⟩ : w6.heap.size ≤ k ∧ k < w7.heap.size)))
      have HT7 := Lib.hid (HT6.out.below hbel)
      have HQ7 := Lib.hid (Kd.F_below HQ6.out hbel)
      have HS7 := Lib.hid hbel.size
      clear hown hbel hgr hat HQ6 HT6 HB6
      go_wp2_with fail
      refine (msg_Get.calls k Am cm l q0 q1 q2 q3 q4 q5 q6 q7 w7 (Kd.R_reads' HM7.out).2.2 (Kd.R_reads' HM7.out).2.1 HGET.out).mono ?_
      rintro e w8 ⟨vx, vx2, rfl, hr, hr2, hb⟩
      obtain ⟨Ax, cx, rfl⟩ := Kd.S_slice hr
      obtain ⟨Bx, ex, rfl⟩ := Kd.R_slice hr2
      have HX8 : Hid (Kd.F k95 w8 (fun k => w7.heap.size ≤ k ∧ k < w8.heap.size) Ax q5.length q5) := Lib.hid (Kd.R_F (Kd.R_mono (Kd.R_bound (Kd.S_R hr)) (fun k hk => ⟨hk.2.1, hk.2.2.1⟩)))
      have HV8 : Hid (Kd.F k61 w8 (fun k => w7.heap.size ≤ k ∧ k < w8.heap.size) Bx q6.length q6) := Lib.hid (Kd.R_F (Kd.R_mono (Kd.R_bound hr2) (fun k hk => ⟨hk.2.1, hk.2.2.1⟩)))
      have HXc := Lib.hid (Kd.S_reads' hr).2.1
      have HUc := Lib.hid (Kd.R_reads' hr2).2.1
      have HM8 := Lib.hid (Kd.R_below HM7.out hb)
      have HT8 := Lib.hid (HT7.out.below hb)
      have HQ8 := Lib.hid (Kd.F_below HQ7.out hb)
      have HS8 := Lib.hid hb.size
      clear hr hr2 hb HM7 HT7 HQ7
      have HGX := Lib.hid (heap_alloc_new w8 (.cells #[.int .i64 q0, .int .i64 q1, .int .i64 q2, .int .i64 q3, .string q4, .slice Ax q5.length cx, .slice Bx q6.length ex] 25))
      have HX9 := Lib.hid (Kd.F_alloc HX8.out (.cells #[.int .i64 q0, .int .i64 q1, .int .i64 q2, .int .i64 q3, .string q4, .slice Ax q5.length cx, .slice Bx q6.length ex] 25))
      have HV9 := Lib.hid (Kd.F_alloc HV8.out (.cells #[.int .i64 q0, .int .i64 q1, .int .i64 q2, .int .i64 q3, .string q4, .slice Ax q5.length cx, .slice Bx q6.length ex] 25))
      have HM9 := Lib.hid (Kd.R_alloc HM8.out (.cells #[.int .i64 q0, .int .i64 q1, .int .i64 q2, .int .i64 q3, .string q4, .slice Ax q5.length cx, .slice Bx q6.length ex] 25))
      have HT9 := Lib.hid (HT8.out.below ((Below.refl _ w8).alloc (Nat.le_refl _) (.cells #[.int .i64 q0, .int .i64 q1, .int .i64 q2, .int .i64 q3, .string q4, .slice Ax q5.length cx, .slice Bx q6.length ex] 25)))
      have HQ9 := Lib.hid (Kd.F_alloc HQ8.out (.cells #[.int .i64 q0, .int .i64 q1, .int .i64 q2, .int .i64 q3, .string q4, .slice Ax q5.length cx, .slice Bx q6.length ex] 25))
      clear HX8 HV8 HM8 HT8 HQ8
      go_wp2_with fail
      generalize w8.alloc (.cells #[.int .i64 q0, .int .i64 q1, .int .i64 q2, .int .i64 q3, .string q4, .slice Ax q5.length cx, .slice Bx q6.length ex] 25) = w9 at *
      go_loopg [17] l.length (fun kj v17 w' => ∃ (xs : List Int) (j : Int), v17 = .int .i64 j ∧ Hid (j = l.length - kj ∧ kj ≤ l.length ∧ xs.length = l.length) ∧ Hid (Kd.R (Kd.int .u8) 5 w' w6.heap.size (fun k => w6.heap.size ≤ k ∧ k < w7.heap.size) (.slice Am l.length cm) xs) ∧ Hid (ST w w' w.heap.size w3.heap.size a b c d s A5 c5 ps A6 c6 cs Ao co Bo eo N) ∧ Hid (Kd.F (Kd.int .u8) w' (fun k => wr.heap.size ≤ k ∧ k < w6.heap.size) Aq pl.length pl) ∧ Hid (Kd.F k95 w' (fun k => w7.heap.size ≤ k ∧ k < w8.heap.size) Ax q5.length q5) ∧ Hid (Kd.F k61 w' (fun k => w7.heap.size ≤ k ∧ k < w8.heap.size) Bx q6.length q6) ∧ Hid (w'.heap[w8.heap.size]? = some (.cells #[.int .i64 q0, .int .i64 q1, .int .i64 q2, .int .i64 q3, .string q4, .slice Ax q5.length cx, .slice Bx q6.length ex] 25 (0, 0))))
      case atStart => exact ⟨l, 0, rfl, Lib.hid ⟨by omega, by omega, rfl⟩, HM9, HT9, HQ9, HX9, HV9, HGX⟩
      case round =>
        clear HM9 HT9 HQ9 HX9 HV9 HGX
        obtain ⟨ys, j, rfl, HJ2, HO2, HT2, HQ2, HX2, HV2, HG2⟩ := hrel
        cases gk with
        | zero =>
          have hj : j = (l.length : Int) := by have := HJ2.out; omega
          subst hj
          have HBb := Lib.hid (Kd.C_below HB.out HT2.out.2.2.2.2.1)
          clear HO2
          go_wp2_with fail
          refine (msg_Get.calls k A1 c1 l q0 q1 q2 q3 q4 q5 q6 q7 _ HBb.out HCB.out HGET.out).mono ?_
          rintro e w11 ⟨vy, vy2, rfl, hr, hr2, hb⟩
          obtain ⟨Ay, cy, rfl⟩ := Kd.S_slice hr
          obtain ⟨By, ey, rfl⟩ := Kd.R_slice hr2
          have HKy := Lib.hid (Kd.C_alloc (Kd.S_reads' hr).2.2 (.cells #[.int .i64 q0, .int .i64 q1, .int .i64 q2, .int .i64 q3, .string q4, .slice Ay q5.length cy, .slice By q6.length ey] 25))
          have HKyc := Lib.hid (Kd.S_reads' hr).2.1
          have HLy := Lib.hid (Kd.C_alloc (Kd.R_reads' hr2).2.2 (.cells #[.int .i64 q0, .int .i64 q1, .int .i64 q2, .int .i64 q3, .string q4, .slice Ay q5.length cy, .slice By q6.length ey] 25))
          have HLyc := Lib.hid (Kd.R_reads' hr2).2.1
          have hbY : Below _ _ (w11.alloc (.cells #[.int .i64 q0, .int .i64 q1, .int .i64 q2, .int .i64 q3, .string q4, .slice Ay q5.length cy, .slice By q6.length ey] 25)) := (hb.alloc hb.size (.cells #[.int .i64 q0, .int .i64 q1, .int .i64 q2, .int .i64 q3, .string q4, .slice Ay q5.length cy, .slice By q6.length ey] 25))
          have HT12 := Lib.hid (HT2.out.below hbY)
          have HD_q := Lib.hid (Kd.F_now (Kd.F_below HQ2.out hbY))
          have HKx := Lib.hid (Kd.F_now (Kd.F_below HX2.out hbY))
          have HLx := Lib.hid (Kd.F_now (Kd.F_below HV2.out hbY))
          have HD_gx := Lib.hid (blk_below HG2.out hbY)
          have HD_gy := Lib.hid (heap_alloc_new w11 (.cells #[.int .i64 q0, .int .i64 q1, .int .i64 q2, .int .i64 q3, .string q4, .slice Ay q5.length cy, .slice By q6.length ey] 25))
          have HD_g0 := Lib.hid HT12.out.1
          have HD_g1 := Lib.hid HT12.out.2.1
          have HKo := Lib.hid (Kd.F_now HT12.out.2.2.1)
          have HLo := Lib.hid (Kd.F_now HT12.out.2.2.2.1)
          have HKr := Lib.hid (Kd.C_below HC5.out HT12.out.2.2.2.2.1)
          have HLr := Lib.hid (Kd.C_below HC6.out HT12.out.2.2.2.2.1)
          have HBW := Lib.hid HT12.out.2.2.2.2.1
          have HS1 : Hid (becketref12_Same.f a b c d s ps cs a b c d s ps cs = some true) := Lib.hid (congrArg some (sameM_refl a b c d s ps cs))
          have HS2 : Hid (becketref12_Same.f q0 q1 q2 q3 q4 q5 q6 q0 q1 q2 q3 q4 q5 q6 = some true) := Lib.hid (congrArg some (sameM_refl q0 q1 q2 q3 q4 q5 q6))
          clear hr hr2 hb hbY HT2 HQ2 HX2 HV2 HG2 HT12 HBb
          go_wp2_with fail
          generalize w11.alloc (.cells #[.int .i64 q0, .int .i64 q1, .int .i64 q2, .int .i64 q3, .string q4, .slice Ay q5.length cy, .slice By q6.length ey] 25) = w12 at *
          cases er
          all_goals cases q7
          all_goals simp only [errW_none, errW_some]
          all_goals
            refine start_ (n := 32) (S := fun w' => w'.cell? ⟨w.heap.size, 0, none⟩ = some (.int .i64 a) ∧ w'.cell? ⟨w.heap.size, 1, none⟩ = some (.int .i64 b) ∧ w'.cell? ⟨w.heap.size, 2, none⟩ = some (.int .i64 c) ∧ w'.cell? ⟨w.heap.size, 3, none⟩ = some (.int .i64 d) ∧ w'.cell? ⟨w.heap.size, 4, none⟩ = some (.string s) ∧ w'.cell? ⟨w.heap.size, 5, none⟩ = some (.slice A5 ps.length c5) ∧ w'.cell? ⟨w.heap.size, 6, none⟩ = some (.slice A6 cs.length c6) ∧ w'.cell? ⟨w3.heap.size, 0, none⟩ = some (.int .i64 a) ∧ w'.cell? ⟨w3.heap.size, 1, none⟩ = some (.int .i64 b) ∧ w'.cell? ⟨w3.heap.size, 2, none⟩ = some (.int .i64 c) ∧ w'.cell? ⟨w3.heap.size, 3, none⟩ = some (.int .i64 d) ∧ w'.cell? ⟨w3.heap.size, 4, none⟩ = some (.string s) ∧ w'.cell? ⟨w3.heap.size, 5, none⟩ = some (.slice Ao ps.length co) ∧ w'.cell? ⟨w3.heap.size, 6, none⟩ = some (.slice Bo cs.length eo) ∧ w'.cell? ⟨w8.heap.size, 0, none⟩ = some (.int .i64 q0) ∧ w'.cell? ⟨w8.heap.size, 1, none⟩ = some (.int .i64 q1) ∧ w'.cell? ⟨w8.heap.size, 2, none⟩ = some (.int .i64 q2) ∧ w'.cell? ⟨w8.heap.size, 3, none⟩ = some (.int .i64 q3) ∧ w'.cell? ⟨w8.heap.size, 4, none⟩ = some (.string q4) ∧ w'.cell? ⟨w8.heap.size, 5, none⟩ = some (.slice Ax q5.length cx) ∧ w'.cell? ⟨w8.heap.size, 6, none⟩ = some (.slice Bx q6.length ex) ∧ w'.cell? ⟨w11.heap.size, 0, none⟩ = some (.int .i64 q0) ∧ w'.cell? ⟨w11.heap.size, 1, none⟩ = some (.int .i64 q1) ∧ w'.cell? ⟨w11.heap.size, 2, none⟩ = some (.int .i64 q2) ∧ w'.cell? ⟨w11.heap.size, 3, none⟩ = some (.int .i64 q3) ∧ w'.cell? ⟨w11.heap.size, 4, none⟩ = some (.string q4) ∧ w'.cell? ⟨w11.heap.size, 5, none⟩ = some (.slice Ay q5.length cy) ∧ w'.cell? ⟨w11.heap.size, 6, none⟩ = some (.slice By q6.length ey) ∧ Kd.C (Kd.int .u8) w' Aq pl.length pl) (ds := []) #[false, false, false, false, false, false, false, false, false, false, false, false, false, false, false, false, false, false, false, false, false, false, false, false, false, false, false, false, false, false, false, false] (by kernel_rfl) rfl rfl ⟨((blk_cell (HD_g0.out) 0).trans rfl), ((blk_cell (HD_g0.out) 1).trans rfl), ((blk_cell (HD_g0.out) 2).trans rfl), ((blk_cell (HD_g0.out) 3).trans rfl), ((blk_cell (HD_g0.out) 4).trans rfl), ((blk_cell (HD_g0.out) 5).trans rfl), ((blk_cell (HD_g0.out) 6).trans rfl), ((blk_cell (HD_g1.out) 0).trans rfl), ((blk_cell (HD_g1.out) 1).trans rfl), ((blk_cell (HD_g1.out) 2).trans rfl), ((blk_cell (HD_g1.out) 3).trans rfl), ((blk_cell (HD_g1.out) 4).trans rfl), ((blk_cell (HD_g1.out) 5).trans rfl), ((blk_cell (HD_g1.out) 6).trans rfl), ((blk_cell (HD_gx.out) 0).trans rfl), ((blk_cell (HD_gx.out) 1).trans rfl), ((blk_cell (HD_gx.out) 2).trans rfl), ((blk_cell (HD_gx.out) 3).trans rfl), ((blk_cell (HD_gx.out) 4).trans rfl), ((blk_cell (HD_gx.out) 5).trans rfl), ((blk_cell (HD_gx.out) 6).trans rfl), ((blk_cell (HD_gy.out) 0).trans rfl), ((blk_cell (HD_gy.out) 1).trans rfl), ((blk_cell (HD_gy.out) 2).trans rfl), ((blk_cell (HD_gy.out) 3).trans rfl), ((blk_cell (HD_gy.out) 4).trans rfl), ((blk_cell (HD_gy.out) 5).trans rfl), ((blk_cell (HD_gy.out) 6).trans rfl), (Kd.C_drew HD_q.out)⟩ (fun hHeld => ?_)
            refine pure_ (i := 0) (N := some 86) (v := ?_) (a' := ?_) #[true, false, false, false, false, false, false, false, false, false, false, false, false, false, false, false, false, false, false, false, false, false, false, false, false, false, false, false, false, false, false, false] rfl rfl (by kernel_rfl) (fun _ _ _ h => h) (Or.inl ⟨by rfl, ?_⟩) ?_ ?_
            rotate_left
            · intro w'
              go_simp
              with_reducible rfl
            rotate_left
            · simp only [Act.put, List.setIfInBounds_toArray, List.set_cons_zero, List.set_cons_succ, i64_w, i32_w]
              rfl
            refine pure_ (i := 1) (N := some 87) (v := ?_) (a' := ?_) #[true, true, false, false, false, false, false, false, false, false, false, false, false, false, false, false, false, false, false, false, false, false, false, false, false, false, false, false, false, false, false, false] rfl rfl (by kernel_rfl) (fun _ _ _ h => h) (Or.inl ⟨by rfl, ?_⟩) ?_ ?_
            rotate_left
            · intro w'
              go_simp
              with_reducible rfl
            rotate_left
            · simp only [Act.put, List.setIfInBounds_toArray, List.set_cons_zero, List.set_cons_succ, i64_w, i32_w]
              rfl
            refine take_ (i := 2) (N := some 88) (v := ?_) (a' := ?_) #[true, true, true, false, false, false, false, false, false, false, false, false, false, false, false, false, false, false, false, false, false, false, false, false, false, false, false, false, false, false, false, false] rfl rfl (by kernel_rfl) (fun _ _ _ h => h) (Or.inl ⟨by rfl, ?_⟩) hHeld ?_ ?_
            rotate_left
            · rintro w' ⟨s0, s1, s2, s3, s4, s5, s6, s7, s8, s9, s10, s11, s12, s13, s14, s15, s16, s17, s18, s19, s20, s21, s22, s23, s24, s25, s26, s27, s28⟩
              go_simp
              with_reducible rfl
            rotate_left
            · simp only [Act.put, List.setIfInBounds_toArray, List.set_cons_zero, List.set_cons_succ, i64_w, i32_w]
              rfl
            refine take_ (i := 3) (N := some 89) (v := ?_) (a' := ?_) #[true, true, true, true, false, false, false, false, false, false, false, false, false, false, false, false, false, false, false, false, false, false, false, false, false, false, false, false, false, false, false, false] rfl rfl (by kernel_rfl) (fun _ _ _ h => h) (Or.inl ⟨by rfl, ?_⟩) hHeld ?_ ?_
            rotate_left
            · rintro w' ⟨s0, s1, s2, s3, s4, s5, s6, s7, s8, s9, s10, s11, s12, s13, s14, s15, s16, s17, s18, s19, s20, s21, s22, s23, s24, s25, s26, s27, s28⟩
              go_simp
              with_reducible rfl
            rotate_left
            · simp only [Act.put, List.setIfInBounds_toArray, List.set_cons_zero, List.set_cons_succ, i64_w, i32_w]
              rfl
            refine one_ (i := 4) (N := some 90) #[true, true, true, true, true, false, false, false, false, false, false, false, false, false, false, false, false, false, false, false, false, false, false, false, false, false, false, false, false, false, false, false] rfl rfl (by kernel_rfl) (by decide) (fun K hK => ?_)
            refine goes_ Try.func18 (by kernel_rfl) rfl #[.agg #[.int .i64 a, .int .i64 b, .int .i64 c, .int .i64 d, .string s, .slice Ao ps.length co, .slice Bo cs.length eo], .agg #[.int .i64 a, .int .i64 b, .int .i64 c, .int .i64 d, .string s, .slice A5 ps.length c5, .slice A6 cs.length c6]] (by rfl) rfl rfl (by simp only [List.map_toArray, List.map_cons, List.map_nil]; rfl) ?_
            with_reducible refine (becketref12_Same.calls a b c d s Ao co ps Bo eo cs a b c d s A5 c5 ps A6 c6 cs true _ (Kd.C_drew HKo.out) HOc.out (Kd.C_drew HLo.out) HVc.out (Kd.C_drew HKr.out) H5.out (Kd.C_drew HLr.out) H6.out HS1.out).mono ?_
            rintro e wZ ⟨rfl, hb⟩
            refine ⟨_, rfl, ?_⟩
            replace hb : Below w12.heap.size w12 wZ := ((Below.refl w12.heap.size w12).drew).trans hb
            have HE_g0 := Lib.hid (blk_below HD_g0.out hb)
            have HE_g1 := Lib.hid (blk_below HD_g1.out hb)
            have HE_gx := Lib.hid (blk_below HD_gx.out hb)
            have HE_gy := Lib.hid (blk_below HD_gy.out hb)
            have HE_q := Lib.hid (Kd.C_below HD_q.out hb)
            have HXk := Lib.hid (Kd.C_below HKx.out hb)
            have HXl := Lib.hid (Kd.C_below HLx.out hb)
            have HYk := Lib.hid (Kd.C_below HKy.out hb)
            have HYl := Lib.hid (Kd.C_below HLy.out hb)
            have HBS := Lib.hid hb
            clear hb
            refine hK.out _ _ ⟨((blk_cell (HE_g0.out) 0).trans rfl), ((blk_cell (HE_g0.out) 1).trans rfl), ((blk_cell (HE_g0.out) 2).trans rfl), ((blk_cell (HE_g0.out) 3).trans rfl), ((blk_cell (HE_g0.out) 4).trans rfl), ((blk_cell (HE_g0.out) 5).trans rfl), ((blk_cell (HE_g0.out) 6).trans rfl), ((blk_cell (HE_g1.out) 0).trans rfl), ((blk_cell (HE_g1.out) 1).trans rfl), ((blk_cell (HE_g1.out) 2).trans rfl), ((blk_cell (HE_g1.out) 3).trans rfl), ((blk_cell (HE_g1.out) 4).trans rfl), ((blk_cell (HE_g1.out) 5).trans rfl), ((blk_cell (HE_g1.out) 6).trans rfl), ((blk_cell (HE_gx.out) 0).trans rfl), ((blk_cell (HE_gx.out) 1).trans rfl), ((blk_cell (HE_gx.out) 2).trans rfl), ((blk_cell (HE_gx.out) 3).trans rfl), ((blk_cell (HE_gx.out) 4).trans rfl), ((blk_cell (HE_gx.out) 5).trans rfl), ((blk_cell (HE_gx.out) 6).trans rfl), ((blk_cell (HE_gy.out) 0).trans rfl), ((blk_cell (HE_gy.out) 1).trans rfl), ((blk_cell (HE_gy.out) 2).trans rfl), ((blk_cell (HE_gy.out) 3).trans rfl), ((blk_cell (HE_gy.out) 4).trans rfl), ((blk_cell (HE_gy.out) 5).trans rfl), ((blk_cell (HE_gy.out) 6).trans rfl), HE_q.out⟩ (fun hHeld => ?_)
            clear hK K
            refine norm_ (a' := ?_) ?_ ?_
            rotate_left
            · show Act.put _ (some 90) _ = _
              simp only [Act.put, List.setIfInBounds_toArray, List.set_cons_zero, List.set_cons_succ, i64_w, i32_w]
              rfl
            refine pure_ (i := 5) (N := some 91) (v := ?_) (a' := ?_) #[true, true, true, true, true, true, false, false, false, false, false, false, false, false, false, false, false, false, false, false, false, false, false, false, false, false, false, false, false, false, false, false] rfl rfl (by kernel_rfl) (fun _ _ _ h => h) (Or.inl ⟨by rfl, ?_⟩) ?_ ?_
            rotate_left
            · intro w'
              go_simp
              with_reducible rfl
            rotate_left
            · simp only [Act.put, List.setIfInBounds_toArray, List.set_cons_zero, List.set_cons_succ, i64_w, i32_w]
              rfl
            refine pure_ (i := 6) (N := some 92) (v := ?_) (a' := ?_) #[true, true, true, true, true, true, true, false, false, false, false, false, false, false, false, false, false, false, false, false, false, false, false, false, false, false, false, false, false, false, false, false] rfl rfl (by kernel_rfl) (fun _ _ _ h => h) (Or.inl ⟨by rfl, ?_⟩) ?_ ?_
            rotate_left
            · intro w'
              go_simp
              with_reducible rfl
            rotate_left
            · simp only [Act.put, List.setIfInBounds_toArray, List.set_cons_zero, List.set_cons_succ, i64_w, i32_w]
              rfl
            refine pure_ (i := 7) (N := some 93) (v := ?_) (a' := ?_) #[true, true, true, true, true, true, true, true, false, false, false, false, false, false, false, false, false, false, false, false, false, false, false, false, false, false, false, false, false, false, false, false] rfl rfl (by kernel_rfl) (fun _ _ _ h => h) (Or.inl ⟨by rfl, ?_⟩) ?_ ?_
            rotate_left
            · intro w'
              go_simp
              with_reducible rfl
            rotate_left
            · simp only [Act.put, List.setIfInBounds_toArray, List.set_cons_zero, List.set_cons_succ, i64_w, i32_w]
              rfl
            refine pure_ (i := 8) (N := some 94) (v := ?_) (a' := ?_) #[true, true, true, true, true, true, true, true, true, false, false, false, false, false, false, false, false, false, false, false, false, false, false, false, false, false, false, false, false, false, false, false] rfl rfl (by kernel_rfl) (fun _ _ _ h => h) (Or.inl ⟨by rfl, ?_⟩) ?_ ?_
            rotate_left
            · intro w'
              go_simp
              with_reducible rfl
            rotate_left
            · simp only [Act.put, List.setIfInBounds_toArray, List.set_cons_zero, List.set_cons_succ, i64_w, i32_w]
              rfl
            refine pure_ (i := 9) (N := some 95) (v := ?_) (a' := ?_) #[true, true, true, true, true, true, true, true, true, true, false, false, false, false, false, false, false, false, false, false, false, false, false, false, false, false, false, false, false, false, false, false] rfl rfl (by kernel_rfl) (fun _ _ _ h => h) (Or.inl ⟨by rfl, ?_⟩) ?_ ?_
            rotate_left
            · intro w'
              go_simp
              with_reducible rfl
            rotate_left
            · simp only [Act.put, List.setIfInBounds_toArray, List.set_cons_zero, List.set_cons_succ, i64_w, i32_w]
              rfl
            refine pure_ (i := 10) (N := some 96) (v := ?_) (a' := ?_) #[true, true, true, true, true, true, true, true, true, true, true, false, false, false, false, false, false, false, false, false, false, false, false, false, false, false, false, false, false, false, false, false] rfl rfl (by kernel_rfl) (fun _ _ _ h => h) (Or.inl ⟨by rfl, ?_⟩) ?_ ?_
            rotate_left
            · intro w'
              go_simp
              with_reducible rfl
            rotate_left
            · simp only [Act.put, List.setIfInBounds_toArray, List.set_cons_zero, List.set_cons_succ, i64_w, i32_w]
              rfl
            refine pure_ (i := 11) (N := some 97) (v := ?_) (a' := ?_) #[true, true, true, true, true, true, true, true, true, true, true, true, false, false, false, false, false, false, false, false, false, false, false, false, false, false, false, false, false, false, false, false] rfl rfl (by kernel_rfl) (fun _ _ _ h => h) (Or.inl ⟨by rfl, ?_⟩) ?_ ?_
            rotate_left
            · intro w'
              go_simp
              with_reducible rfl
            rotate_left
            · simp only [Act.put, List.setIfInBounds_toArray, List.set_cons_zero, List.set_cons_succ, i64_w, i32_w]
              rfl
            refine pure_ (i := 12) (N := some 98) (v := ?_) (a' := ?_) #[true, true, true, true, true, true, true, true, true, true, true, true, true, false, false, false, false, false, false, false, false, false, false, false, false, false, false, false, false, false, false, false] rfl rfl (by kernel_rfl) (fun _ _ _ h => h) (Or.inl ⟨by rfl, ?_⟩) ?_ ?_
            rotate_left
            · intro w'
              go_simp
              with_reducible rfl
            rotate_left
            · simp only [Act.put, List.setIfInBounds_toArray, List.set_cons_zero, List.set_cons_succ, i64_w, i32_w]
              rfl
            refine pure_ (i := 13) (N := some 99) (v := ?_) (a' := ?_) #[true, true, true, true, true, true, true, true, true, true, true, true, true, true, false, false, false, false, false, false, false, false, false, false, false, false, false, false, false, false, false, false] rfl rfl (by kernel_rfl) (fun _ _ _ h => h) (Or.inl ⟨by rfl, ?_⟩) ?_ ?_
            rotate_left
            · intro w'
              go_simp
              with_reducible rfl
            rotate_left
            · simp only [Act.put, List.setIfInBounds_toArray, List.set_cons_zero, List.set_cons_succ, i64_w, i32_w]
              rfl
            refine pure_ (i := 14) (N := some 100) (v := ?_) (a' := ?_) #[true, true, true, true, true, true, true, true, true, true, true, true, true, true, true, false, false, false, false, false, false, false, false, false, false, false, false, false, false, false, false, false] rfl rfl (by kernel_rfl) (fun _ _ _ h => h) (Or.inl ⟨by rfl, ?_⟩) ?_ ?_
            rotate_left
            · intro w'
              go_simp
              with_reducible rfl
            rotate_left
            · simp only [Act.put, List.setIfInBounds_toArray, List.set_cons_zero, List.set_cons_succ, i64_w, i32_w]
              rfl
            refine pure_ (i := 16) (N := some 102) (v := ?_) (a' := ?_) #[true, true, true, true, true, true, true, true, true, true, true, true, true, true, true, false, true, false, false, false, false, false, false, false, false, false, false, false, false, false, false, false] rfl rfl (by kernel_rfl) (fun _ _ _ h => h) (Or.inl ⟨by rfl, ?_⟩) ?_ ?_
            rotate_left
            · intro w'
              go_simp
              with_reducible rfl
            rotate_left
            · simp only [Act.put, List.setIfInBounds_toArray, List.set_cons_zero, List.set_cons_succ, i64_w, i32_w]
              rfl
            refine take_ (i := 15) (N := some 101) (v := ?_) (a' := ?_) #[true, true, true, true, true, true, true, true, true, true, true, true, true, true, true, true, true, false, false, false, false, false, false, false, false, false, false, false, false, false, false, false] rfl rfl (by kernel_rfl) (fun _ _ _ h => h) (Or.inl ⟨by rfl, ?_⟩) hHeld ?_ ?_
            rotate_left
            · rintro w' ⟨s0, s1, s2, s3, s4, s5, s6, s7, s8, s9, s10, s11, s12, s13, s14, s15, s16, s17, s18, s19, s20, s21, s22, s23, s24, s25, s26, s27, s28⟩
              have hcB := Kd.C_string (P := Try.prog) (c := cq) Try.underlying31 Try.underlying5 Try.underlying9 s28
              go_simp
              with_reducible rfl
            rotate_left
            · simp only [Act.put, List.setIfInBounds_toArray, List.set_cons_zero, List.set_cons_succ, i64_w, i32_w]
              rfl
            refine pure_ (i := 17) (N := some 103) (v := ?_) (a' := ?_) #[true, true, true, true, true, true, true, true, true, true, true, true, true, true, true, true, true, true, false, false, false, false, false, false, false, false, false, false, false, false, false, false] rfl rfl (by kernel_rfl) (fun _ _ _ h => h) (Or.inl ⟨by rfl, ?_⟩) ?_ ?_
            rotate_left
            · intro w'
              go_simp
              with_reducible rfl
            rotate_left
            · simp only [Act.put, List.setIfInBounds_toArray, List.set_cons_zero, List.set_cons_succ, i64_w, i32_w]
              rfl
            refine pure_ (i := 18) (N := some 104) (v := ?_) (a' := ?_) #[true, true, true, true, true, true, true, true, true, true, true, true, true, true, true, true, true, true, true, false, false, false, false, false, false, false, false, false, false, false, false, false] rfl rfl (by kernel_rfl) (fun _ _ _ h => h) (Or.inl ⟨by rfl, ?_⟩) ?_ ?_
            rotate_left
            · intro w'
              go_simp
              with_reducible rfl
            rotate_left
            · simp only [Act.put, List.setIfInBounds_toArray, List.set_cons_zero, List.set_cons_succ, i64_w, i32_w]
              rfl
            refine pure_ (i := 19) (N := some 105) (v := ?_) (a' := ?_) #[true, true, true, true, true, true, true, true, true, true, true, true, true, true, true, true, true, true, true, true, false, false, false, false, false, false, false, false, false, false, false, false] rfl rfl (by kernel_rfl) (fun _ _ _ h => h) (Or.inl ⟨by rfl, ?_⟩) ?_ ?_
            rotate_left
            · intro w'
              go_simp
              with_reducible rfl
            rotate_left
            · simp only [Act.put, List.setIfInBounds_toArray, List.set_cons_zero, List.set_cons_succ, i64_w, i32_w]
              rfl
            refine pure_ (i := 20) (N := some 106) (v := ?_) (a' := ?_) #[true, true, true, true, true, true, true, true, true, true, true, true, true, true, true, true, true, true, true, true, true, false, false, false, false, false, false, false, false, false, false, false] rfl rfl (by kernel_rfl) (fun _ _ _ h => h) (Or.inl ⟨by rfl, ?_⟩) ?_ ?_
            rotate_left
            · intro w'
              go_simp
              with_reducible rfl
            rotate_left
            · simp only [Act.put, List.setIfInBounds_toArray, List.set_cons_zero, List.set_cons_succ, i64_w, i32_w]
              rfl
            refine pure_ (i := 21) (N := some 107) (v := ?_) (a' := ?_) #[true, true, true, true, true, true, true, true, true, true, true, true, true, true, true, true, true, true, true, true, true, true, false, false, false, false, false, false, false, false, false, false] rfl rfl (by kernel_rfl) (fun _ _ _ h => h) (Or.inl ⟨by rfl, ?_⟩) ?_ ?_
            rotate_left
            · intro w'
              go_simp
              with_reducible rfl
            rotate_left
            · simp only [Act.put, List.setIfInBounds_toArray, List.set_cons_zero, List.set_cons_succ, i64_w, i32_w]
              rfl
            refine pure_ (i := 22) (N := some 108) (v := ?_) (a' := ?_) #[true, true, true, true, true, true, true, true, true, true, true, true, true, true, true, true, true, true, true, true, true, true, true, false, false, false, false, false, false, false, false, false] rfl rfl (by kernel_rfl) (fun _ _ _ h => h) (Or.inl ⟨by rfl, ?_⟩) ?_ ?_
            rotate_left
            · intro w'
              go_simp
              with_reducible rfl
            rotate_left
            · simp only [Act.put, List.setIfInBounds_toArray, List.set_cons_zero, List.set_cons_succ, i64_w, i32_w]
              rfl
            refine pure_ (i := 23) (N := some 109) (v := ?_) (a' := ?_) #[true, true, true, true, true, true, true, true, true, true, true, true, true, true, true, true, true, true, true, true, true, true, true, true, false, false, false, false, false, false, false, false] rfl rfl (by kernel_rfl) (fun _ _ _ h => h) (Or.inl ⟨by rfl, ?_⟩) ?_ ?_
            rotate_left
            · intro w'
              go_simp
              with_reducible rfl
            rotate_left
            · simp only [Act.put, List.setIfInBounds_toArray, List.set_cons_zero, List.set_cons_succ, i64_w, i32_w]
              rfl
            refine pure_ (i := 24) (N := some 110) (v := ?_) (a' := ?_) #[true, true, true, true, true, true, true, true, true, true, true, true, true, true, true, true, true, true, true, true, true, true, true, true, true, false, false, false, false, false, false, false] rfl rfl (by kernel_rfl) (fun _ _ _ h => h) (Or.inl ⟨by rfl, ?_⟩) ?_ ?_
            rotate_left
            · intro w'
              go_simp
              with_reducible rfl
            rotate_left
            · simp only [Act.put, List.setIfInBounds_toArray, List.set_cons_zero, List.set_cons_succ, i64_w, i32_w]
              rfl
            refine pure_ (i := 25) (N := some 111) (v := ?_) (a' := ?_) #[true, true, true, true, true, true, true, true, true, true, true, true, true, true, true, true, true, true, true, true, true, true, true, true, true, true, false, false, false, false, false, false] rfl rfl (by kernel_rfl) (fun _ _ _ h => h) (Or.inl ⟨by rfl, ?_⟩) ?_ ?_
            rotate_left
            · intro w'
              go_simp
              with_reducible rfl
            rotate_left
            · simp only [Act.put, List.setIfInBounds_toArray, List.set_cons_zero, List.set_cons_succ, i64_w, i32_w]
              rfl
            refine pure_ (i := 26) (N := some 112) (v := ?_) (a' := ?_) #[true, true, true, true, true, true, true, true, true, true, true, true, true, true, true, true, true, true, true, true, true, true, true, true, true, true, true, false, false, false, false, false] rfl rfl (by kernel_rfl) (fun _ _ _ h => h) (Or.inl ⟨by rfl, ?_⟩) ?_ ?_
            rotate_left
            · intro w'
              go_simp
              with_reducible rfl
            rotate_left
            · simp only [Act.put, List.setIfInBounds_toArray, List.set_cons_zero, List.set_cons_succ, i64_w, i32_w]
              rfl
            refine take_ (i := 27) (N := some 113) (v := ?_) (a' := ?_) #[true, true, true, true, true, true, true, true, true, true, true, true, true, true, true, true, true, true, true, true, true, true, true, true, true, true, true, true, false, false, false, false] rfl rfl (by kernel_rfl) (fun _ _ _ h => h) (Or.inl ⟨by rfl, ?_⟩) hHeld ?_ ?_
            rotate_left
            · rintro w' ⟨s0, s1, s2, s3, s4, s5, s6, s7, s8, s9, s10, s11, s12, s13, s14, s15, s16, s17, s18, s19, s20, s21, s22, s23, s24, s25, s26, s27, s28⟩
              go_simp
              with_reducible rfl
            rotate_left
            · simp only [Act.put, List.setIfInBounds_toArray, List.set_cons_zero, List.set_cons_succ, i64_w, i32_w]
              rfl
            refine take_ (i := 28) (N := some 114) (v := ?_) (a' := ?_) #[true, true, true, true, true, true, true, true, true, true, true, true, true, true, true, true, true, true, true, true, true, true, true, true, true, true, true, true, true, false, false, false] rfl rfl (by kernel_rfl) (fun _ _ _ h => h) (Or.inl ⟨by rfl, ?_⟩) hHeld ?_ ?_
            rotate_left
            · rintro w' ⟨s0, s1, s2, s3, s4, s5, s6, s7, s8, s9, s10, s11, s12, s13, s14, s15, s16, s17, s18, s19, s20, s21, s22, s23, s24, s25, s26, s27, s28⟩
              go_simp
              with_reducible rfl
            rotate_left
            · simp only [Act.put, List.setIfInBounds_toArray, List.set_cons_zero, List.set_cons_succ, i64_w, i32_w]
              rfl
            refine one_ (i := 29) (N := some 115) #[true, true, true, true, true, true, true, true, true, true, true, true, true, true, true, true, true, true, true, true, true, true, true, true, true, true, true, true, true, true, false, false] rfl rfl (by kernel_rfl) (by decide) (fun K hK => ?_)
            refine goes_ Try.func18 (by kernel_rfl) rfl #[.agg #[.int .i64 q0, .int .i64 q1, .int .i64 q2, .int .i64 q3, .string q4, .slice Ax q5.length cx, .slice Bx q6.length ex], .agg #[.int .i64 q0, .int .i64 q1, .int .i64 q2, .int .i64 q3, .string q4, .slice Ay q5.length cy, .slice By q6.length ey]] (by rfl) rfl rfl (by simp only [List.map_toArray, List.map_cons, List.map_nil]; rfl) ?_
            with_reducible refine (becketref12_Same.calls q0 q1 q2 q3 q4 Ax cx q5 Bx ex q6 q0 q1 q2 q3 q4 Ay cy q5 By ey q6 true _ HXk.out HXc.out HXl.out HUc.out HYk.out HKyc.out HYl.out HLyc.out HS2.out).mono ?_
            rintro e wT ⟨rfl, hb⟩
            refine ⟨_, rfl, ?_⟩
            have HF_g0 := Lib.hid (blk_below HE_g0.out hb)
            have HF_g1 := Lib.hid (blk_below HE_g1.out hb)
            have HF_gx := Lib.hid (blk_below HE_gx.out hb)
            have HF_gy := Lib.hid (blk_below HE_gy.out hb)
            have HF_q := Lib.hid (Kd.C_below HE_q.out hb)
            have HBT := Lib.hid hb
            clear hb
            refine hK.out _ _ ⟨((blk_cell (HF_g0.out) 0).trans rfl), ((blk_cell (HF_g0.out) 1).trans rfl), ((blk_cell (HF_g0.out) 2).trans rfl), ((blk_cell (HF_g0.out) 3).trans rfl), ((blk_cell (HF_g0.out) 4).trans rfl), ((blk_cell (HF_g0.out) 5).trans rfl), ((blk_cell (HF_g0.out) 6).trans rfl), ((blk_cell (HF_g1.out) 0).trans rfl), ((blk_cell (HF_g1.out) 1).trans rfl), ((blk_cell (HF_g1.out) 2).trans rfl), ((blk_cell (HF_g1.out) 3).trans rfl), ((blk_cell (HF_g1.out) 4).trans rfl), ((blk_cell (HF_g1.out) 5).trans rfl), ((blk_cell (HF_g1.out) 6).trans rfl), ((blk_cell (HF_gx.out) 0).trans rfl), ((blk_cell (HF_gx.out) 1).trans rfl), ((blk_cell (HF_gx.out) 2).trans rfl), ((blk_cell (HF_gx.out) 3).trans rfl), ((blk_cell (HF_gx.out) 4).trans rfl), ((blk_cell (HF_gx.out) 5).trans rfl), ((blk_cell (HF_gx.out) 6).trans rfl), ((blk_cell (HF_gy.out) 0).trans rfl), ((blk_cell (HF_gy.out) 1).trans rfl), ((blk_cell (HF_gy.out) 2).trans rfl), ((blk_cell (HF_gy.out) 3).trans rfl), ((blk_cell (HF_gy.out) 4).trans rfl), ((blk_cell (HF_gy.out) 5).trans rfl), ((blk_cell (HF_gy.out) 6).trans rfl), HF_q.out⟩ (fun hHeld => ?_)
            clear hK K
            refine norm_ (a' := ?_) ?_ ?_
            rotate_left
            · show Act.put _ (some 115) _ = _
              simp only [Act.put, List.setIfInBounds_toArray, List.set_cons_zero, List.set_cons_succ, i64_w, i32_w]
              rfl
            refine pure_ (i := 30) (N := some 116) (v := ?_) (a' := ?_) #[true, true, true, true, true, true, true, true, true, true, true, true, true, true, true, true, true, true, true, true, true, true, true, true, true, true, true, true, true, true, true, false] rfl rfl (by kernel_rfl) (fun _ _ _ h => h) (Or.inl ⟨by rfl, ?_⟩) ?_ ?_
            rotate_left
            · intro w'
              go_simp
              with_reducible rfl
            rotate_left
            · simp only [Act.put, List.setIfInBounds_toArray, List.set_cons_zero, List.set_cons_succ, i64_w, i32_w]
              rfl
            refine pure_ (i := 31) (N := some 4) (v := ?_) (a' := ?_) #[true, true, true, true, true, true, true, true, true, true, true, true, true, true, true, true, true, true, true, true, true, true, true, true, true, true, true, true, true, true, true, true] rfl rfl (by kernel_rfl) (fun _ _ _ h => h) (Or.inl ⟨by rfl, ?_⟩) ?_ ?_
            rotate_left
            · intro w'
              go_simp
              with_reducible rfl
            rotate_left
            · simp only [Act.put, List.setIfInBounds_toArray, List.set_cons_zero, List.set_cons_succ, i64_w, i32_w]
              rfl
            refine done_ (by kernel_rfl) ?_
            go_wp2_with fail
            go_ret
            exact ⟨rfl, (HBW.out.trans (HBS.out.mono HBW.out.size)).trans (HBT.out.mono (HBW.out.trans (HBS.out.mono HBW.out.size)).size)⟩
        | succ kj2 =>
          have hj0 : 0 ≤ j := by have := HJ2.out; omega
          have hj1 : j < (l.length : Int) := by have := HJ2.out; omega
          have hxl : ys.length = l.length := HJ2.out.2.2
          obtain ⟨go, co', e1, _, _, _⟩ := Kd.R_form HO2.out (by have := HJ2.out; omega)
          have e2 : Am = some ⟨go, 0, none⟩ ∧ cm = co' := by injection e1 with a b c; exact ⟨a, c⟩
          obtain ⟨rfl, rfl⟩ := e2
          obtain ⟨hx, hf⟩ := Kd.R_celln 0 HO2.out j hj0 hj1
          have hgo := HO2.out.1 go rfl
          have HGO := Lib.hid hgo
          have hww : wrap64 (j + 1) = j + 1 := by have := HLB.out; unfold wrap64; omega
          clear e1 hxl hgo
          go_wp2_with fail
          go_roundg kj2
          case measure => omega
          case rel =>
            have h1g := HLT.out
            have h2g := HGO.out
            have h3 := HNS.out
            have h4 := HSR6.out
            have h5 := HS5.out
            have h6 := HS8.out
            have hk : ∀ (W : World) (u : Value), Kept W (W.setCell ⟨go, j.toNat, none⟩ u) (fun k => w6.heap.size ≤ k ∧ k < w7.heap.size) := fun W u => set_kept (ok := fun k => w6.heap.size ≤ k ∧ k < w7.heap.size) HGO.out
            refine ⟨ys.set j.toNat ((rdOf 0 ys j + 1) % 256), j + 1, rfl, Lib.hid ⟨?_, ?_, ?_⟩, Lib.hid (Kd.R_putg HO2.out j _).1, Lib.hid (HT2.out.kept (hk _ _) (HT2.out.2.2.2.2.1.setCell (p := ⟨go, j.toNat, none⟩) (by have := HT2.out.2.2.2.2.2.1; show w.heap.size ≤ go; omega) _) (fun k hk h => by have := h.1; omega)), Lib.hid (Kd.F_kept HQ2.out (hk _ _) (fun k hk h => by have := hk.2; have := h.1; omega)), Lib.hid (Kd.F_kept HX2.out (hk _ _) (fun k hk h => by have := hk.1; have := h.2; omega)), Lib.hid (Kd.F_kept HV2.out (hk _ _) (fun k hk h => by have := hk.1; have := h.2; omega)), Lib.hid (blk_kept HG2.out (hk _ _) (fun h => by have := h.2; omega))⟩
            · have := HJ2.out; omega
            · have := HJ2.out; omega
            · have := HJ2.out; simp; omega
    | succ kj1 =>
      have hj0 : 0 ≤ j := by have := HJ.out; omega
      have hj1 : j < (pl.length : Int) := by have := HJ.out; omega
      have hxl : xs.length = pl.length := HJ.out.2.2
      obtain ⟨go, co', e1, _, _, _⟩ := Kd.R_form HO.out (by have := HJ.out; omega)
      have e2 : Ap = some ⟨go, 0, none⟩ ∧ cp = co' := by injection e1 with a b c; exact ⟨a, c⟩
      obtain ⟨rfl, rfl⟩ := e2
      obtain ⟨hx, hf⟩ := Kd.R_celln 0 HO.out j hj0 hj1
      have hgo := HO.out.1 go rfl
      have HGO := Lib.hid hgo
      have hww : wrap64 (j + 1) = j + 1 := by have := HPM.out; unfold wrap64; omega
      clear e1 hxl hgo
      go_wp2_with fail
      go_roundg kj1
      case measure => omega
      case rel =>
        have h1g := HLT.out
        have h2g := HGO.out
        have h3 := HNS.out
        refine ⟨xs.set j.toNat ((rdOf 0 xs j + 1) % 256), j + 1, rfl, Lib.hid ⟨?_, ?_, ?_⟩, Lib.hid (Kd.R_putg HO.out j _).1, Lib.hid (HT.out.kept (set_kept (ok := fun k => wS.heap.size ≤ k ∧ k < w5.heap.size) HGO.out) (HT.out.2.2.2.2.1.setCell (p := ⟨go, j.toNat, none⟩) (by have := HT.out.2.2.2.2.2.1; show w.heap.size ≤ go; omega) _) (fun k hk h => by have := h.1; omega)), Lib.hid (by simpa using HSR.out)⟩
        · have := HJ.out; omega
        · have := HJ.out; omega
        · have := HJ.out; simp; omega
end Go.Proofs.Ytpbbgbikebcnbaa.MsgP
