/-
  LogLoses tells true, whatever comes in. No condition is added.
-/
import Derived.Test.YtbnhoacchibbnaaLog6
namespace Go.Proofs.Ytbnhoacchibbnaa.Log
open Go.RowKit Go.Proofs.Ytbnhoacchibbnaa.Lw Go.Proofs.Ytbnhoacchibbnaa.Tape Go.Proofs.YtbnhoacchibbnaaW.PrintWords Go.Proofs.YtbnhoacchibbnaaW.PrintLast Go.Proofs.YtbnhoacchibbnaaW.PrintMore
attribute [local go_sem] eqlErr neqErr eqlErrNil neqErrNil
set_option linter.unusedVariables false
set_option linter.unusedSimpArgs false
set_option maxHeartbeats 8000000 in
set_option maxRecDepth 100000 in
theorem loses_calls (A0 : Option Addr) (c0 : Nat) (rs : List (List Int)) (A1 : Option Addr) (c1 : Nat) (b : List Int) (n : Int) (w : World) (h0 : Recs w A0 rs.length rs) (k0 : rs.length ≤ c0) (h1 : Kd.C (Kd.int .u8) w A1 b.length b) (k1 : b.length ≤ c1) (hby : bytesOk b) (hn : n ≤ 9223372036854775807) :
    Calls Try.prog 5 #[.slice A0 rs.length c0, .slice A1 b.length c1, .int .i64 n] w fun e w' => e = .returned (.bool true) ∧ Below w.heap.size w w' := by
  have H0 := Lib.hid h0
  have H1 := Lib.hid h1
  clear h0 h1
  by_cases g0 : (30 : Int) < (rs.length : Int)
  · have d0 : decide ((30 : Int) < (rs.length : Int)) = true := decide_eq_true g0
    go_enter Try.func5, Try.ntmps5
    go_wp2_with fail
    refine (log_up _).mono ?_
    rintro e w1 ⟨rfl, hb⟩
    have HB := Lib.hid hb
    clear hb
    go_wp2
    go_ret
    exact ⟨rfl, HB.out⟩
  have d0 : decide ((30 : Int) < (rs.length : Int)) = false := decide_eq_false g0
  by_cases g1 : (b.length : Int) < 1
  · have d1 : decide ((b.length : Int) < 1) = true := decide_eq_true g1
    go_enter Try.func5, Try.ntmps5
    go_wp2_with fail
    refine (log_up _).mono ?_
    rintro e w1 ⟨rfl, hb⟩
    have HB := Lib.hid hb
    clear hb
    go_wp2
    go_ret
    exact ⟨rfl, HB.out⟩
  have d1 : decide ((b.length : Int) < 1) = false := decide_eq_false g1
  by_cases g2 : (2000 : Int) < (b.length : Int)
  · have d2 : decide ((2000 : Int) < (b.length : Int)) = true := decide_eq_true g2
    go_enter Try.func5, Try.ntmps5
    go_wp2_with fail
    refine (log_up _).mono ?_
    rintro e w1 ⟨rfl, hb⟩
    have HB := Lib.hid hb
    clear hb
    go_wp2
    go_ret
    exact ⟨rfl, HB.out⟩
  have d2 : decide ((2000 : Int) < (b.length : Int)) = false := decide_eq_false g2
  by_cases g3 : n < 0
  · have d3 : decide (n < 0) = true := decide_eq_true g3
    go_enter Try.func5, Try.ntmps5
    go_wp2_with fail
    refine (log_up _).mono ?_
    rintro e w1 ⟨rfl, hb⟩
    have HB := Lib.hid hb
    clear hb
    go_wp2
    go_ret
    exact ⟨rfl, HB.out⟩
  have d3 : decide (n < 0) = false := decide_eq_false g3
  by_cases g4 : (b.length : Int) < n
  · have d4 : decide ((b.length : Int) < n) = true := decide_eq_true g4
    go_enter Try.func5, Try.ntmps5
    go_wp2_with fail
    refine (log_up _).mono ?_
    rintro e w1 ⟨rfl, hb⟩
    have HB := Lib.hid hb
    clear hb
    go_wp2
    go_ret
    exact ⟨rfl, HB.out⟩
  have d4 : decide ((b.length : Int) < n) = false := decide_eq_false g4
  have G := Lib.hid (And.intro g0 (And.intro g1 (And.intro g2 (And.intro g3 g4))))
  have HBY := Lib.hid hby
  clear g0 g1 g2 g3 g4 hby
  go_enter Try.func5, Try.ntmps5
  go_wp2_with fail
  refine (log_up _).mono ?_
  rintro e w1 ⟨rfl, hb⟩
  have HB := Lib.hid hb
  have H0' : Hid (Recs w1 A0 rs.length rs) := Lib.hid ⟨Kd.C_below H0.out.1 hb, H0.out.2⟩
  have H1' := Lib.hid (Kd.C_below H1.out hb)
  clear hb H0 H1
  go_wp2_with fail
  clear d0 d1 d2 d3 d4
  refine (tape_New _).mono ?_
  rintro e w2 ⟨rfl, ht, hb⟩
  have HT := Lib.hid ht
  have HB2 := Lib.hid hb
  clear ht hb
  go_wp2_with fail
  refine (xt_first w2 w1.heap.size _ _ 0 HT.out HB2.out.size).mono ?_
  rintro e w3 ⟨q, rfl, hx, hb⟩
  have HX := Lib.hid hx
  have HB3 := Lib.hid (HB2.out.trans hb)
  clear hx hb HT HB2
  go_wp2_with fail
  go_loopg [11] rs.length (fun kq v11 w' => ∃ (i : Nat) (ms : List (List Int)), v11 = .int .i64 (i : Int) ∧ Hid (i = rs.length - kq ∧ kq ≤ rs.length ∧ ms.length ≤ i) ∧ Hid (∀ m ∈ ms, (1 ≤ m.length ∧ m.length ≤ 2000) ∧ bytesOk m) ∧ Hid (XT w' w1.heap.size (fun _ => False) q w1.heap.size ms false (frames ms) (frames ms).length) ∧ Hid (Below w1.heap.size w1 w'))
  case atStart => exact ⟨0, [], rfl, Lib.hid ⟨by omega, Nat.le_refl _, Nat.le_refl _⟩, Lib.hid (by simp), HX, HB3⟩
  case round =>
    clear HX HB3
    obtain ⟨i, ms, rfl, HI, HM, HX, HB4⟩ := hrel
    have hfl : (frames ms).length ≤ 2010 * ms.length := frames_le 2000 ms (fun m hm => (HM.out m hm).1.2) (by omega)
    have HFL : Hid ((frames ms).length ≤ 70000) := Lib.hid (by have := HI.out; have := G.out.1; omega)
    clear hfl
    cases gk with
    | zero =>
      have hi : i = rs.length := by have := HI.out; omega
      subst hi
      go_wp2_with fail
      refine (xt_Bytes _ _ _ _ _ _ _ _ _ HX.out).mono ?_
      rintro e w5 ⟨A5, c5, rfl, hr, hb⟩
      have HX5 := Lib.hid (HX.out.below hb)
      have HB5 := Lib.hid (HB4.out.trans (hb.mono HB4.out.size))
      have hcv := own_string (P := Try.prog) Try.underlying22 Try.underlying5 Try.underlying9 (Kd.own_of_R hr)
      clear hr hb HX HB4
      go_wp2_with fail
      clear hcv
      have hbl := H1'.out
      refine (xt_Torn w5 _ _ _ _ _ _ _ HX5.out HB5.out.size A1 c1 b (Kd.C_below H1'.out HB5.out) (by have := G.out; omega) (by have := G.out; omega) (by have := HFL.out; have := enc_len 9 b.length (pow70 (by have := G.out; omega)); have := G.out; rw [frame_len]; omega) n hn).mono ?_
      rintro e w6 ⟨rfl, hx, _, hb⟩
      have hcl : crashLeft (frames ms ++ frame b).length (frames ms).length n = (frames ms).length + n.toNat := by
        unfold crashLeft
        have := G.out
        have := enc_pos b.length
        rw [List.length_append, frame_len]
        omega
      have hnl : n.toNat < (frame b).length := by
        have := G.out
        have := enc_pos b.length
        rw [frame_len]
        omega
      rw [hcl, List.take_length_add_append] at hx
      have hsc := scan_torn ms b n.toNat (fun m hm => ⟨(HM.out m hm).1.1, by have := (HM.out m hm).1.2; omega⟩) ⟨by have := G.out; omega, by have := G.out; omega⟩ (fun m hm => (HM.out m hm).2) HBY.out
      rw [if_pos hnl] at hsc
      have hbk : bytesOk (frames ms ++ (frame b).take n.toNat) := by
        intro x hx
        rcases List.mem_append.1 hx with hx | hx
        · exact bytes_frames ms (fun m hm => ⟨(HM.out m hm).1.1, by have := (HM.out m hm).1.2; omega⟩) (fun m hm => (HM.out m hm).2) x hx
        · rcases List.mem_append.1 (List.mem_of_mem_take hx) with hx | hx
          · exact enc_bytes 9 b.length (pow70 (by have := G.out; omega)) x hx
          · exact HBY.out x hx
      have HX6 := Lib.hid hx
      have HB6 := Lib.hid (HB5.out.trans hb)
      have HSC := Lib.hid hsc
      have HBK := Lib.hid hbk
      clear hx hb hcl hnl hsc hbk HX5 HB5 hbl
      go_wp2_with fail
      refine (xt_Open w6 _ _ _ _ _ _ _ _ HX6.out HBK.out HB6.out.size).mono ?_
      rintro e w7 ⟨q2, rfl, hy, hx, _, hb⟩
      rw [HSC.out] at hy hx
      simp only [List.take_left] at hy hx
      have HX7 := Lib.hid hx
      have HY7 := Lib.hid hy
      have HB7 := Lib.hid (HB6.out.trans hb)
      clear hx hy hb HX6 HB6
      go_wp2_with fail
      refine (xt_Bytes _ _ _ _ _ _ _ _ _ HY7.out).mono ?_
      rintro e w8 ⟨A8, c8, rfl, hr, hb⟩
      have HX8 := Lib.hid (HX7.out.below hb)
      have HY8 := Lib.hid (HY7.out.below hb)
      have HB8 := Lib.hid (HB7.out.trans (hb.mono HB7.out.size))
      have hcv := own_string (P := Try.prog) Try.underlying22 Try.underlying5 Try.underlying9 (Kd.own_of_R hr)
      clear hr hb HX7 HY7 HB7
      go_wp2_with fail
      clear hcv
      have hl1 : ms.length ≤ 2000000 := by have := HI.out; have := G.out; omega
      have hl2 : ∀ m ∈ ms, m.length ≤ 100000 := fun m hm => by have := (HM.out m hm).1.2; omega
      refine (xt_Records _ _ _ _ _ _ _ _ _ HY8.out hl1 hl2).mono ?_
      rintro e w9 ⟨A9, c9, rfl, hr, hb⟩
      have HR9 := Lib.hid hr
      have HX9 := Lib.hid (HX8.out.below hb)
      have HB9 := Lib.hid (HB8.out.trans (hb.mono HB8.out.size))
      clear hr hb HX8 HY8 HB8
      go_wp2_with fail
      refine (xt_Records _ _ _ _ _ _ _ _ _ HX9.out hl1 hl2).mono ?_
      rintro e w10 ⟨A10, c10, rfl, hr, hb⟩
      have HR10 := Lib.hid hr
      have HR9' := Lib.hid (Kd.R_below HR9.out hb)
      have HB10 := Lib.hid (HB9.out.trans (hb.mono HB9.out.size))
      clear hr hb HR9 HX9 HB9
      go_wp2_with fail
      refine (becketlaw06_same.calls _ A9 c9 _ A10 c10 _ true w10 (Kd.R_reads' HR9'.out).2.2 (Kd.R_reads' HR9'.out).2.1 (Kd.R_reads' HR10.out).2.2 (Kd.R_reads' HR10.out).2.1 (same_self _ hl1)).mono ?_
      rintro e w11 ⟨rfl, ⟨m, rfl⟩⟩
      go_wp2
      go_ret
      exact ⟨rfl, HB.out.trans ((pw_below_drewN HB10.out m).mono HB.out.size)⟩
    | succ kr =>
      have hi1 : i < rs.length := by have := HI.out; omega
      have hd : decide ((i : Int) < (rs.length : Int)) = true := decide_eq_true (by omega)
      obtain ⟨ad, Am, cm, rfl, hmc, hmC, hx⟩ := rec_get (ReadsRow.imp_ H0'.out.1 HB4.out (fun _ _ h => h)) i hi1
      have hmb := H0'.out.2 _ (List.getElem_mem hi1)
      generalize rs[i] = m at hmc hmC hx hmb
      have HMC := Lib.hid hmC
      have HMb := Lib.hid hmb
      have hwi : wrap64 ((i : Int) + 1) = ((i + 1 : Nat) : Int) := by unfold wrap64; have := G.out; omega
      by_cases hbig : (2000 : Int) < (m.length : Int)
      · have hd2 : decide ((2000 : Int) < (m.length : Int)) = true := decide_eq_true hbig
        clear hmC hmb
        go_wp2
        go_ret
        exact ⟨rfl, HB.out.trans (HB4.out.mono HB.out.size)⟩
      have hd2 : decide ((2000 : Int) < (m.length : Int)) = false := decide_eq_false hbig
      have HBIG := Lib.hid hbig
      have HWI := Lib.hid hwi
      clear hmC hmb hbig hwi
      go_wp2_with fail
      by_cases hm1 : m.length < 1
      · refine (xt_Append_no wr _ _ _ _ _ _ _ _ HX.out Am m.length cm 1 (.inr ⟨rfl, .inl hm1, rfl⟩)).mono ?_
        rintro e w5 ⟨rfl, rfl⟩
        have hwi := HWI.out
        go_wp2_with fail
        go_roundg kr
        case measure => omega
        case rel => exact ⟨i + 1, ms, by rw [hwi], Lib.hid (by have := HI.out; omega), HM, HX, HB4⟩
      · refine (xt_Append wr _ _ _ _ _ _ _ HX.out HB4.out.size (by have := HI.out; have := G.out; omega) Am cm m (fun w' _ hb' => ?_) hmc (by omega) (by have := HBIG.out; omega) (by have := HFL.out; have := enc_len 9 m.length (pow70 (by have := HBIG.out; omega)); have := HBIG.out; rw [frame_len]; omega)).mono ?_
        · exact Kd.C_below HMC.out (HB4.out.trans hb')
        rintro e w5 ⟨rfl, hx5, _, hb⟩
        have HX5 := Lib.hid (hx5.less (N' := fun _ => False) (fun k hk => hk.elim))
        have HB5 := Lib.hid (HB4.out.trans hb)
        have hwi := HWI.out
        have HH1 := Lib.hid hm1
        clear hx5 hb HX HB4 hm1
        go_wp2_with fail
        go_roundg kr
        case measure => omega
        case rel => exact ⟨i + 1, ms ++ [m], by rw [hwi], Lib.hid (by have := HI.out; simp; omega), Lib.hid (fun x hx => (List.mem_append.1 hx).elim (HM.out x) (fun h => by rw [List.mem_singleton.1 h]; exact ⟨⟨by have := HH1.out; omega, by have := HBIG.out; omega⟩, HMb.out⟩)), by rw [frames_one]; exact HX5, HB5⟩
end Go.Proofs.Ytbnhoacchibbnaa.Log
