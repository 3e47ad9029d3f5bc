/-
  LogKeeps tells true, whatever comes in. No condition is added.
-/
import Derived.Test.YtbnhoacchibbnaaLog8a
namespace Go.Proofs.Ytbnhoacchibbnaa.Log
open Go.RowKit Go.Proofs.Ytbnhoacchibbnaa.Lw Go.Proofs.Ytbnhoacchibbnaa.Tape Go.Proofs.YtbnhoacchibbnaaW.PrintWords Go.Proofs.YtbnhoacchibbnaaW.PrintLast Go.Proofs.YtbnhoacchibbnaaW.PrintMore
attribute [local go_sem] eqlErr neqErr eqlErrNil neqErrNil
set_option linter.unusedVariables false
set_option linter.unusedSimpArgs false
theorem nil_R (W : World) : Kd.R (Kd.int .u8) 5 (W.alloc (.cells #[] 5)) W.heap.size (fun k => k = W.heap.size) (.slice (some ⟨W.heap.size, 0, none⟩) 0 0) [] := by
  refine ⟨fun k hk => ?_, [], ?_, Reps.none _ _⟩
  · have : W.heap.size = k := by simpa [Value.ownBlock] using hk
    exact this.symm
  · exact World.ownsRow_lit (base := W.heap.size) (e := 5) (size := 1) W #[] 0 (Nat.le_refl _) (by simp [maxLen]) (by simp)
theorem nil_RH (W : World) : Kd.R hdrK 22 (W.alloc (.cells #[] 22)) W.heap.size (fun k => k = W.heap.size) (.slice (some ⟨W.heap.size, 0, none⟩) 0 0) [] := by
  refine ⟨fun k hk => ?_, [], ?_, Reps.none _ _⟩
  · have : W.heap.size = k := by simpa [Value.ownBlock] using hk
    exact this.symm
  · exact World.ownsRow_lit (base := W.heap.size) (e := 22) (size := 1) W #[] 0 (Nat.le_refl _) (by simp [maxLen]) (by simp)

/-- What is torn, whatever comes of it. -/
theorem xt_TornAny (w : World) (B q g : Nat) (N : Nat → Prop) (ms : List (List Int)) (h : XT w B N q g ms false (frames ms) (frames ms).length) (hBw : B ≤ w.heap.size)
    (hm : ∀ m ∈ ms, (1 ≤ m.length ∧ m.length ≤ 2000) ∧ bytesOk m) (hfl : (frames ms).length ≤ 70000) (A0 : Option Addr) (c0 : Nat) (b : List Int) (hb : Kd.C (Kd.int .u8) w A0 b.length b) (hbl : b.length ≤ 2000) (hby : bytesOk b) (n : Int) (hn : n ≤ 9223372036854775807) :
    Calls Try.prog 22 #[.pointer (some ⟨q, 0, none⟩), .slice A0 b.length c0, .int .i64 n] w fun e w' => ∃ (er : Option Int) (torn : Bool) (l : List Int) (s : Nat), e = .returned (errW er) ∧ XT w' B (fun k => N k ∧ k < w.heap.size) q g ms torn l s ∧ bytesOk l ∧
      ((scan l 0).1 = ms ∨ (er = none ∧ (scan l 0).1 = ms ++ [b])) ∧ Kept w w' (fun k => ¬ N k) ∧ Below B w w' := by
  have hok : ∀ m ∈ ms, recOk m := fun m hx => ⟨(hm m hx).1.1, by have := (hm m hx).1.2; omega⟩
  by_cases h1 : b.length < 1
  · refine (xt_Torn_no w B q g N ms false _ _ h A0 b.length c0 n 1 (.inr ⟨rfl, .inl h1, rfl⟩)).mono ?_
    rintro e w' ⟨rfl, rfl⟩
    exact ⟨_, false, _, _, rfl, h.less (fun k hk => hk.1), bytes_frames ms hok (fun m hx => (hm m hx).2), .inl (by rw [scan_whole ms hok]), Kept.refl _ _, Below.refl _ _⟩
  · have hfr : (frame b).length ≤ b.length + 10 := by
      have := enc_len 9 b.length (pow70 (by omega))
      rw [frame_len]; omega
    refine (xt_Torn w B q g N ms _ _ h hBw A0 c0 b hb (by omega) (by omega) (by omega) n hn).mono ?_
    rintro e w' ⟨rfl, hx, hk, hbe⟩
    have hcl : crashLeft (frames ms ++ frame b).length (frames ms).length n = (frames ms).length + min n.toNat (frame b).length := by
      unfold crashLeft
      rw [List.length_append]
      omega
    rw [hcl, List.take_length_add_append] at hx
    have hsc := scan_torn ms b (min n.toNat (frame b).length) hok ⟨by omega, by omega⟩ (fun m hx => (hm m hx).2) hby
    refine ⟨none, true, _, _, rfl, hx, ?_, ?_, hk, hbe⟩
    · intro x hx
      rcases List.mem_append.1 hx with hx | hx
      · exact bytes_frames ms hok (fun m hm' => (hm m hm').2) x hx
      · rcases List.mem_append.1 (List.mem_of_mem_take hx) with hx | hx
        · exact enc_bytes 9 b.length (pow70 (by omega)) x hx
        · exact hby x hx
    · rw [hsc]
      split
      · exact .inl rfl
      · exact .inr ⟨rfl, rfl⟩

set_option maxHeartbeats 16000000 in
set_option maxRecDepth 100000 in
theorem logkeeps_calls (A0 : Option Addr) (c0 : Nat) (rs : List (List Int)) (A1 : Option Addr) (c1 : Nat) (b : List Int) (n : Int) (w : World) (h0 : Recs w A0 rs.length rs) (k0 : rs.length ≤ c0) (h1 : Kd.C (Kd.int .u8) w A1 b.length b) (k1 : b.length ≤ c1) (hby : bytesOk b) (hn : n ≤ 9223372036854775807) :
    Calls Try.prog 4 #[.slice A0 rs.length c0, .slice A1 b.length c1, .int .i64 n] w fun e w' => e = .returned (.bool true) ∧ Below w.heap.size w w' := by
  have H0 := Lib.hid h0
  have H1 := Lib.hid h1
  clear h0 h1
  by_cases g0 : (20 : Int) < (rs.length : Int)
  · have d0 : decide ((20 : Int) < (rs.length : Int)) = true := decide_eq_true g0
    go_enter Try.func4, Try.ntmps4
    go_wp2_with fail
    refine (log_up _).mono ?_
    rintro e w1 ⟨rfl, hb⟩
    have HB := Lib.hid hb
    clear hb
    go_wp2_with fail
    refine (tape_New _).mono ?_
    rintro e w2 ⟨rfl, ht, hb⟩
    have HB2 := Lib.hid hb
    clear ht hb
    go_wp2
    go_ret
    exact ⟨rfl, HB.out.trans (HB2.out.mono HB.out.size)⟩
  have d0 : decide ((20 : Int) < (rs.length : Int)) = false := decide_eq_false g0
  by_cases g1 : (2000 : Int) < (b.length : Int)
  · have d1 : decide ((2000 : Int) < (b.length : Int)) = true := decide_eq_true g1
    go_enter Try.func4, Try.ntmps4
    go_wp2_with fail
    refine (log_up _).mono ?_
    rintro e w1 ⟨rfl, hb⟩
    have HB := Lib.hid hb
    clear hb
    go_wp2_with fail
    refine (tape_New _).mono ?_
    rintro e w2 ⟨rfl, ht, hb⟩
    have HB2 := Lib.hid hb
    clear ht hb
    go_wp2
    go_ret
    exact ⟨rfl, HB.out.trans (HB2.out.mono HB.out.size)⟩
  have d1 : decide ((2000 : Int) < (b.length : Int)) = false := decide_eq_false g1
  have G := Lib.hid (And.intro g0 g1)
  have HBY := Lib.hid hby
  clear g0 g1 hby
  go_enter Try.func4, Try.ntmps4
  go_wp2_with fail
  refine (log_up _).mono ?_
  rintro e w1 ⟨rfl, hb⟩
  have HB := Lib.hid hb
  have H0' : Hid (Recs w1 A0 rs.length rs) := Lib.hid ⟨Kd.C_below H0.out.1 hb, H0.out.2⟩
  have H1' := Lib.hid (Kd.C_below H1.out hb)
  clear hb H0 H1
  go_wp2_with fail
  refine (tape_New _).mono ?_
  rintro e w2 ⟨rfl, ht, hb⟩
  have HT := Lib.hid ht
  have HB2 := Lib.hid hb
  clear ht hb
  go_wp2_with fail
  clear d0 d1
  refine (xt_first w2 w1.heap.size _ _ 0 HT.out HB2.out.size).mono ?_
  rintro e w3 ⟨q, rfl, hx, hb⟩
  have HX := Lib.hid hx
  have HB3 := Lib.hid (HB2.out.trans hb)
  clear hx hb HT HB2
  go_wp2_with fail
  go_loopg [11, 12] rs.length (fun kq v11 v12 w' => ∃ (i : Nat) (ms : List (List Int)) (Ai : Option Addr) (ci : Nat) (N : Nat → Prop), v11 = .slice Ai ms.length ci ∧ v12 = .int .i64 (i : Int) ∧ Hid (i = rs.length - kq ∧ kq ≤ rs.length ∧ ms.length ≤ i) ∧ Hid (∀ m ∈ ms, (1 ≤ m.length ∧ m.length ≤ 2000) ∧ bytesOk m) ∧ Hid (XT w' w1.heap.size N q w1.heap.size ms false (frames ms) (frames ms).length) ∧ Hid (HRow w' w1.heap.size N (.slice Ai ms.length ci) ms) ∧ Hid (Below w1.heap.size w1 w'))
  case atStart => exact ⟨0, [], none, 0, _, rfl, rfl, Lib.hid ⟨by omega, Nat.le_refl _, Nat.le_refl _⟩, Lib.hid (by simp), HX, Lib.hid (HRow.nil _ _ _), HB3⟩
  case round =>
    clear HX HB3
    obtain ⟨i, ms, Ai, ci, N, rfl, rfl, HI, HM, HX, HH, HB4⟩ := hrel
    have hfl : (frames ms).length ≤ 2010 * ms.length := frames_le 2000 ms (fun m hm => (HM.out m hm).1.2) (by omega)
    have HFL : Hid ((frames ms).length ≤ 60000) := Lib.hid (by have := HI.out; have := G.out.1; omega)
    clear hfl
    cases gk with
    | zero =>
      have hi : i = rs.length := by have := HI.out; omega
      subst hi
      go_wp2_with fail
      refine (xt_TornAny wr _ _ _ _ _ HX.out HB4.out.size HM.out (by have := HFL.out; omega) A1 c1 b (Kd.C_below H1'.out HB4.out) (by have := G.out; omega) HBY.out n hn).mono ?_
      rintro e w5 ⟨er, torn, l, s, rfl, hx5, hbl, hor, hk5, hb5⟩
      have HX5 := Lib.hid hx5
      have HBL := Lib.hid hbl
      have HOR := Lib.hid hor
      have HH5 := Lib.hid (HH.out.bound.kept (Kept.base hk5 hb5) (fun k hk => ⟨fun h => hk.1 h.1, hk.2⟩))
      have HB5 := Lib.hid (HB4.out.trans hb5)
      have HSC := Lib.hid (scan_take hbl)
      clear hx5 hbl hor hk5 hb5 HX HH HB4
      go_wp2_with fail
      refine (xt_Open w5 _ _ _ _ _ _ _ _ HX5.out HBL.out HB5.out.size).mono ?_
      rintro e w6 ⟨q2, rfl, hy, _, hk6, hb6⟩
      generalize hl2 : l.take (scan l 0).2 = l2 at hy
      have hs2 : scan l2 0 = scan l 0 := by rw [← hl2]; exact HSC.out.1
      have hb2 : bytesOk l2 := by rw [← hl2]; exact fun x hx => HBL.out x (List.mem_of_mem_take hx)
      generalize hrr : (scan l 0).1 = rr at hy
      have hs3 : (scan l2 0).1 = rr := by rw [hs2, hrr]
      have HOR2 : Hid (rr = ms ∨ (er = none ∧ rr = ms ++ [b])) := by rw [← hrr]; exact HOR
      have HY6 := Lib.hid hy
      have HS3 := Lib.hid hs3
      have HB2' := Lib.hid hb2
      have HH6 := Lib.hid (HH5.out.bound.kept (Kept.base hk6 hb6) (fun k hk => ⟨fun h => hk.1 ⟨h.1.1, by have := HB5.out.size; exact (h.1.2 : k < _) |> fun h3 => h3⟩, hk.2⟩))
      have HB6 := Lib.hid (HB5.out.trans hb6)
      clear hy hk6 hb6 hl2 hs2 hb2 hrr hs3 HX5 HH5 HB5 HOR HSC
      go_wp2_with fail
      have hrl : rr.length ≤ 2000000 ∧ ∀ m ∈ rr, m.length ≤ 100000 := by
        have := HI.out
        have := G.out
        rcases HOR2.out with h | ⟨_, h⟩
        · rw [h]; exact ⟨by omega, fun m hm => by have := (HM.out m hm).1.2; omega⟩
        · rw [h]
          refine ⟨by simp; omega, fun m hm => ?_⟩
          rcases List.mem_append.1 hm with hm | hm
          · have := (HM.out m hm).1.2; omega
          · rw [List.mem_singleton.1 hm]; omega
      have HRL := Lib.hid hrl
      clear hrl
      refine (xt_Records _ _ _ _ _ _ _ _ _ HY6.out HRL.out.1 HRL.out.2).mono ?_
      rintro e w7 ⟨Ar, cr, rfl, hr, hb⟩
      have HR7 : Hid (Kd.R (Kd.slice 5 (Kd.int .u8)) 22 w7 w6.heap.size (fun k => w6.heap.size ≤ k ∧ k < w7.heap.size) (.slice Ar rr.length cr) rr) := Lib.hid (Kd.R_mono (Kd.R_bound hr) (fun k hk => ⟨hk.2.1, hk.2.2.1⟩))
      have HY7 := Lib.hid (HY6.out.more.below hb)
      have HH7 := Lib.hid (HH6.out.below hb)
      have HB7 := Lib.hid (HB6.out.trans (hb.mono HB6.out.size))
      have HS7 := Lib.hid hb.size
      clear hr hb HY6 HH6
      generalize (fun k => (N k ∧ k < wr.heap.size) ∧ k < w5.heap.size) = N6 at *
      have hhh := HH7.out
      obtain ⟨hs, hr1, hr2, hr3⟩ := hhh
      have HR1 := Lib.hid hr1
      have HR2 := Lib.hid hr2
      have HR3 := Lib.hid hr3
      have hhl : ms.length = hs.length := by rw [hr2, List.length_map]
      have HHL := Lib.hid hhl
      have hKC : Kd.C hdrK w7 Ai ms.length hs := by rw [hhl]; exact (Kd.R_reads' hr1).2.2
      have HKC := Lib.hid hKC
      clear hr1 hr2 hr3 hhl hKC
      go_wp2_with (at_builtin; refine Kd.R_append_row (w0 := w7) henc (none, 0, []) (h1 := fun _ => rfl) w7.heap.size rfl (.tmp 118) (.tmp 119) 34 22 (.slice none 0 0) 24 rfl Try.underlying34 (by kernel_rfl) rfl (by decide) (.slice (some ⟨w7.heap.size, 0, none⟩) 0 0) [] hs Ai ms.length ci (fun k => w7.heap.size ≤ k) rfl rfl ?fresh2 ?own2 ?src2 ((Below.refl _ _).alloc (Nat.le_refl _) _) (by simp) ?len2 ?go2)
      case fresh2 => intro k hk; first | omega | (simp at hk; omega)
      case own2 => exact Kd.R_mono (nil_RH w7) (fun k hk => by omega)
      case src2 => exact Kd.C_alloc HKC.out _
      case len2 => have := HHL.out; have := HI.out; have := G.out; first | omega | (simp; omega)
      case go2 =>
      intro v8 w8 hown hbel hgr hat
      replace hown : Kd.R hdrK 22 w8 w7.heap.size (fun k => w7.heap.size ≤ k) v8 hs := hown
      obtain ⟨A8, c8, rfl⟩ := Kd.R_slice hown
      have HO8 := Lib.hid hown
      have HB8 := Lib.hid hbel
      clear hown hbel hgr hat
      go_wp2_with (at_builtin; refine Kd.R_append hdrK (w0 := w7) w7.heap.size rfl (.tmp 120) (.tmp 122) 34 22 (.slice none 0 0) 24 rfl Try.underlying34 (by kernel_rfl) rfl (by decide) (by omega) (.slice A8 hs.length c8) hs (A1, c1, b) [henc (A1, c1, b)] (fun k => w7.heap.size ≤ k) (fun _ => False) rfl rfl rfl (fun _ h => False.elim h) ?aF ?aO ?aB ?aS ?aL ?go)
      case aF => exact fun k hk => Nat.le_trans HB8.out.size hk
      case aO => exact HO8.out
      case aB => exact HB8.out
      case aS => exact HB8.out.size
      case aL => have := HHL.out; have := HI.out; have := G.out; omega
      case go =>
      intro v9 w9 hown hbel hgr hat
      have hin2 : ∃ A9 c9, v9 = .slice A9 (ms ++ [b]).length c9 ∧ (ms ++ [b]).length ≤ c9 ∧ Kd.C (Kd.slice 5 (Kd.int .u8)) w9 A9 (ms ++ [b]).length (ms ++ [b]) := by
        obtain ⟨A9, c9, rfl⟩ := Kd.R_slice hown
        have h := hs_reads (Kd.R_reads' hown).2.2 (fun x hx => by
          rcases List.mem_append.1 hx with hx | hx
          · exact ⟨(HR3.out x hx).1, Kd.C_below (Kd.F_now (HR3.out x hx).2) hbel⟩
          · rw [List.mem_singleton.1 hx]
            exact ⟨k1, Kd.C_below H1'.out (HB7.out.trans (hbel.mono HB7.out.size))⟩)
        rw [List.map_append, ← HR2.out] at h
        have hl : (hs ++ [(A1, c1, b)]).length = (ms ++ [b]).length := by simp [HHL.out]
        refine ⟨A9, c9, by rw [hl], by rw [← hl]; exact (Kd.R_reads' hown).2.1, h⟩
      obtain ⟨in2, hin⟩ : ∃ x, x = ms ++ [b] := ⟨_, rfl⟩
      rw [← hin] at hin2
      obtain ⟨A9, c9, rfl, hc9, hC9⟩ := hin2
      have HIN := Lib.hid hin
      have HC9 := Lib.hid hC9
      have Hc9 := Lib.hid hc9
      have HR9 := Lib.hid (Kd.R_below HR7.out hbel)
      have HY9 := Lib.hid (HY7.out.below hbel)
      have HH9 := Lib.hid (HH7.out.below hbel)
      have HB9 := Lib.hid (HB7.out.trans (hbel.mono HB7.out.size))
      have HS9 := Lib.hid hbel.size
      clear hown hbel hgr hat hin hC9 hc9 HR7 HY7 HH7 HR1 HR2 HR3 HHL HKC HO8 HB8
      go_wp2_with fail
      rcases HOR2.out with hor | ⟨hor1, hor⟩
      all_goals have HOR3 := Lib.hid hor
      · have hsa : ∃ v, becketlaw06_same.f (rr.length + 1) rr in2 = some v := ⟨_, same_f rr in2 HRL.out.1 _ (Nat.le_refl _)⟩
        have hsb : becketlaw06_same.f (rr.length + 1) rr ms = some true := by rw [hor]; exact same_self ms (by have := HRL.out.1; rw [hor] at this; exact this)
        obtain ⟨va, hsa⟩ := hsa
        have HSA := Lib.hid hsa
        have HSB := Lib.hid hsb
        clear hsa hsb hor
        refine (becketlaw06_same.calls _ Ar cr rr A9 c9 in2 va w9 (Kd.R_reads' HR9.out).2.2 (Kd.R_reads' HR9.out).2.1 HC9.out Hc9.out HSA.out).mono ?_
        rintro e w10 ⟨rfl, ⟨d1, rfl⟩⟩
        go_wp2_with fail
        refine (becketlaw06_same.calls _ Ar cr rr Ai ci ms true (w9.drewN d1) (Kd.C_drewN (Kd.R_reads' HR9.out).2.2 d1) (Kd.R_reads' HR9.out).2.1 (Kd.C_drewN (HRow.reads HH9.out).2.2 d1) (HRow.reads HH9.out).2.1 HSB.out).mono ?_
        rintro e w11 ⟨rfl, ⟨d2, rfl⟩⟩
        go_wp2_with fail
        have hbd : Below w9.heap.size w9 (w9.drewN (d1 + d2)) := pw_below_drewN (Below.refl _ _) (d1 + d2)
        have HY11 := Lib.hid (HY9.out.below hbd)
        have HR11 := Lib.hid (Kd.R_below HR9.out hbd)
        have HB11 := Lib.hid (HB9.out.trans (hbd.mono HB9.out.size))
        have HS11 := Lib.hid (Nat.le_trans HS9.out hbd.size)
        clear hbd HY9 HR9 HH9 HB9 HS9 HC9 Hc9 HSA HSB
        generalize w9.drewN (d1 + d2) = w11 at *
        refine (xt_Open w11 _ _ _ _ _ _ _ _ HY11.out HB2'.out HB11.out.size).mono ?_
        rintro e w12 ⟨q3, rfl, hz, hy, hk, hb⟩
        rw [HS3.out] at hz
        have HZ12 := Lib.hid hz
        have HY12 := Lib.hid hy
        have HR12 := Lib.hid (Kd.R_kept HR11.out hk (fun k h h2 => h2 (.inr h.1)))
        have HB12 := Lib.hid (HB11.out.trans hb)
        clear hz hy hk hb HY11 HR11 HB11
        go_wp2_with fail
        refine (xt_Records _ _ _ _ _ _ _ _ _ HZ12.out HRL.out.1 HRL.out.2).mono ?_
        rintro e w13 ⟨A13, c13, rfl, hr, hb⟩
        have HRz := Lib.hid hr
        have HR13 := Lib.hid (Kd.R_below HR12.out hb)
        have HY13 := Lib.hid (HY12.out.below hb)
        have HZ13 := Lib.hid (HZ12.out.below hb)
        have HB13 := Lib.hid (HB12.out.trans (hb.mono HB12.out.size))
        clear hr hb HY12 HZ12 HR12 HB12
        go_wp2_with fail
        refine (becketlaw06_same.calls _ A13 c13 rr Ar cr rr true w13 (Kd.R_reads' HRz.out).2.2 (Kd.R_reads' HRz.out).2.1 (Kd.R_reads' HR13.out).2.2 (Kd.R_reads' HR13.out).2.1 (same_self _ HRL.out.1)).mono ?_
        rintro e w14 ⟨rfl, ⟨d3, rfl⟩⟩
        have hbd : Below w13.heap.size w13 (w13.drewN d3) := pw_below_drewN (Below.refl _ _) d3
        have HR14 := Lib.hid (Kd.R_below HR13.out hbd)
        have HY14 := Lib.hid (HY13.out.below hbd)
        have HZ14 := Lib.hid (HZ13.out.below hbd)
        have HB14 := Lib.hid (HB13.out.trans (hbd.mono HB13.out.size))
        clear hbd HY13 HZ13 HR13 HB13 HRz
        generalize w13.drewN d3 = w14 at *
        go_wp2_with fail
        obtain ⟨okI, hokI⟩ : ∃ okI : Nat → Prop, okI = fun k => (w6.heap.size ≤ k ∧ k < w7.heap.size) ∧ ∀ a : Addr, Ar = some a → k ≠ a.block := ⟨_, rfl⟩
        have HOK := Lib.hid hokI
        have HFT : Hid (∀ i (hi : i < rr.length), ∃ ad Ai ci, Ar = some ad ∧ w14.cell? (ad.add i) = some (.slice Ai rr[i].length ci) ∧ rr[i].length ≤ ci ∧ ¬ okI ad.block ∧ (0 < rr[i].length → ∃ g, Ai = some ⟨g, 0, none⟩ ∧ BB w14 g rr[i].length ∧ okI g)) := Lib.hid (fun i hi => by
          obtain ⟨ad, Ai, ci, h1, h2, h3, h4⟩ := rr_get HR14.out i hi
          refine ⟨ad, Ai, ci, h1, h2, h3, by rw [HOK.out]; exact fun h => h.2 ad h1 rfl, fun hp => ?_⟩
          obtain ⟨g, h5, h6, h7, h8⟩ := h4 hp
          refine ⟨g, h5, h6, ?_⟩
          rw [HOK.out]
          exact ⟨h7, fun a ha => by rw [h1] at ha; injection ha with ha; rw [← ha]; exact h8⟩)
        have HYN : Hid (∀ k, okI k → w6.heap.size ≤ k ∧ k < w11.heap.size) := Lib.hid (fun k hk => by rw [HOK.out] at hk; have := hk.1; have := HS11.out; omega)
        have HW6 := Lib.hid HB6.out.size
        clear hokI HR14
        go_loopg [23] rr.length (fun kq v23 w' => ∃ i : Nat, v23 = .int .i64 (i : Int) ∧ Hid (i = rr.length - kq ∧ kq ≤ rr.length) ∧ Hid (Kept w14 w' okI) ∧ Hid (∀ g n, okI g → BB w14 g n → BB w' g n) ∧ Hid (XT w' w1.heap.size (fun k => w6.heap.size ≤ k ∧ k < w11.heap.size) q2 w1.heap.size rr false _ _) ∧ Hid (XT w' w1.heap.size (fun k => w6.heap.size ≤ k ∧ k < w11.heap.size) q3 w1.heap.size rr false _ _) ∧ Hid (Below w1.heap.size w1 w'))
        case atStart => exact ⟨0, rfl, Lib.hid ⟨by omega, by omega⟩, Lib.hid (Kept.refl _ _), Lib.hid (fun g n _ h => h), Lib.hid (HY14.out.less (fun k hk => ⟨.inr hk.1, hk.2⟩)), Lib.hid (HZ14.out.less (fun k hk => ⟨.inr hk.1, hk.2⟩)), HB14⟩
        case round =>
          clear HY14 HZ14 HB14
          obtain ⟨i, rfl, HI2, HK, HBB, HY, HZ, HBe⟩ := hrel
          cases gk with
          | zero =>
            have hi : i = rr.length := by have := HI2.out; omega
            subst hi
            go_wp2_with fail
            refine (xt_Records _ _ _ _ _ _ _ _ _ HY.out HRL.out.1 HRL.out.2).mono ?_
            rintro e w15 ⟨A15, c15, rfl, hr, hb⟩
            have HR15 := Lib.hid hr
            have HZ15 := Lib.hid (HZ.out.below hb)
            have HB15 := Lib.hid (HBe.out.trans (hb.mono HBe.out.size))
            clear hr hb HY HZ HBe HK HBB
            go_wp2_with fail
            refine (xt_Records _ _ _ _ _ _ _ _ _ HZ15.out HRL.out.1 HRL.out.2).mono ?_
            rintro e w16 ⟨A16, c16, rfl, hr, hb⟩
            have HR16 := Lib.hid hr
            have HR15' := Lib.hid (Kd.R_below HR15.out hb)
            have HB16 := Lib.hid (HB15.out.trans (hb.mono HB15.out.size))
            clear hr hb HR15 HZ15 HB15
            go_wp2_with fail
            refine (becketlaw06_same.calls _ A15 c15 rr A16 c16 rr true w16 (Kd.R_reads' HR15'.out).2.2 (Kd.R_reads' HR15'.out).2.1 (Kd.R_reads' HR16.out).2.2 (Kd.R_reads' HR16.out).2.1 (same_self _ HRL.out.1)).mono ?_
            rintro e w17 ⟨rfl, ⟨d4, rfl⟩⟩
            go_wp2
            go_ret
            exact ⟨rfl, HB.out.trans ((pw_below_drewN HB16.out d4).mono HB.out.size)⟩
          | succ ki =>
            have hi1 : i < rr.length := by have := HI2.out; omega
            have hd : decide ((i : Int) < (rr.length : Int)) = true := decide_eq_true (by omega)
            obtain ⟨ad, Ax, cx, rfl, hx0, hxc, hnot, hpos⟩ := HFT.out i hi1
            have hlen : rr[i].length ≤ 100000 := HRL.out.2 _ (List.getElem_mem hi1)
            generalize rr[i].length = ni at hx0 hxc hpos hlen
            have HX0 := Lib.hid hx0
            have HNT := Lib.hid hnot
            have HPOS := Lib.hid hpos
            have HLEN := Lib.hid hlen
            have HXC := Lib.hid hxc
            have hwi : wrap64 ((i : Int) + 1) = ((i + 1 : Nat) : Int) := by unfold wrap64; have := HRL.out.1; omega
            have HWI := Lib.hid hwi
            clear hx0 hnot hpos hlen hxc hwi
            go_wp2_with fail
            go_loopg [24] ni (fun kj v24 w' => ∃ j : Nat, v24 = .int .i64 (j : Int) ∧ Hid (j = ni - kj ∧ kj ≤ ni) ∧ Hid (Kept w14 w' okI) ∧ Hid (∀ g n, okI g → BB w14 g n → BB w' g n) ∧ Hid (XT w' w1.heap.size (fun k => w6.heap.size ≤ k ∧ k < w11.heap.size) q2 w1.heap.size rr false _ _) ∧ Hid (XT w' w1.heap.size (fun k => w6.heap.size ≤ k ∧ k < w11.heap.size) q3 w1.heap.size rr false _ _) ∧ Hid (Below w1.heap.size w1 w'))
            case atStart => exact ⟨0, rfl, Lib.hid ⟨by omega, by omega⟩, HK, HBB, HY, HZ, HBe⟩
            case round =>
              clear HK HBB HY HZ HBe
              obtain ⟨j, rfl, HJ2, HK, HBB, HY, HZ, HBe⟩ := hrel
              have hx : wr.cell? (ad.add i) = some (.slice Ax ni cx) := cell_kept HX0.out HK.out (by rw [show (ad.add i).block = ad.block from by unfold Addr.add; split <;> rfl]; exact HNT.out)
              cases gk with
              | zero =>
                have hj : j = ni := by have := HJ2.out; omega
                subst hj
                have hwi := HWI.out
                go_wp2_with fail
                go_roundg ki
                case measure => omega
                case rel => exact ⟨i + 1, by rw [hwi], Lib.hid (by have := HI2.out; omega), HK, HBB, HY, HZ, HBe⟩
              | succ kj2 =>
                have hj1 : j < ni := by have := HJ2.out; omega
                have hdj : decide ((j : Int) < (ni : Int)) = true := decide_eq_true (by omega)
                have hwj : wrap64 ((j : Int) + 1) = ((j + 1 : Nat) : Int) := by unfold wrap64; have := HLEN.out; omega
                obtain ⟨gi, rfl, hbb, hgi⟩ := HPOS.out (by omega)
                obtain ⟨⟨z, hz⟩, hf⟩ := (HBB.out gi ni hgi hbb).cell j hj1
                have HGI := Lib.hid hgi
                have HWJ := Lib.hid hwj
                clear hbb hgi hwj
                go_wp2_with fail
                refine start_ (n := 15) (S := fun w' => w'.cell? (ad.add i) = some (.slice (some ⟨gi, 0, none⟩) ni cx) ∧ w'.cell? ⟨gi, j, none⟩ = some (.int .u8 z)) (ds := [14]) #[false, false, false, false, false, false, false, false, false, false, false, false, false, false, false] (by kernel_rfl) rfl rfl ⟨hx, hz⟩ (fun hHeld => ?_)
                refine pure_ (i := 0) (N := some 170) (v := ?_) (a' := ?_) #[true, false, false, false, false, false, false, false, false, false, false, false, false, false, false] rfl rfl (by kernel_rfl) (fun _ _ _ h => h) (Or.inl ⟨by rfl, ?_⟩) ?_ ?_
                rotate_left
                · intro w'
                  go_simp
                  with_reducible rfl
                rotate_left
                · simp only [Act.put, List.setIfInBounds_toArray, List.set_cons_zero, List.set_cons_succ, i64_w, i32_w]
                  rfl
                refine pure_ (i := 1) (N := some 171) (v := ?_) (a' := ?_) #[true, true, false, false, false, false, false, false, false, false, false, false, false, false, false] rfl rfl (by kernel_rfl) (fun _ _ _ h => h) (Or.inl ⟨by rfl, ?_⟩) ?_ ?_
                rotate_left
                · intro w'
                  go_simp
                  with_reducible rfl
                rotate_left
                · simp only [Act.put, List.setIfInBounds_toArray, List.set_cons_zero, List.set_cons_succ, i64_w, i32_w]
                  rfl
                refine pure_ (i := 2) (N := some 172) (v := ?_) (a' := ?_) #[true, true, true, false, false, false, false, false, false, false, false, false, false, false, false] rfl rfl (by kernel_rfl) (fun _ _ _ h => h) (Or.inl ⟨by rfl, ?_⟩) ?_ ?_
                rotate_left
                · intro w'
                  go_simp
                  with_reducible rfl
                rotate_left
                · simp only [Act.put, List.setIfInBounds_toArray, List.set_cons_zero, List.set_cons_succ, i64_w, i32_w]
                  rfl
                refine pure_ (i := 4) (N := some 174) (v := ?_) (a' := ?_) #[true, true, true, false, true, false, false, false, false, false, false, false, false, false, false] rfl rfl (by kernel_rfl) (fun _ _ _ h => h) (Or.inl ⟨by rfl, ?_⟩) ?_ ?_
                rotate_left
                · intro w'
                  go_simp
                  with_reducible rfl
                rotate_left
                · simp only [Act.put, List.setIfInBounds_toArray, List.set_cons_zero, List.set_cons_succ, i64_w, i32_w]
                  rfl
                refine pure_ (i := 5) (N := some 175) (v := ?_) (a' := ?_) #[true, true, true, false, true, true, false, false, false, false, false, false, false, false, false] rfl rfl (by kernel_rfl) (fun _ _ _ h => h) (Or.inl ⟨by rfl, ?_⟩) ?_ ?_
                rotate_left
                · intro w'
                  go_simp
                  with_reducible rfl
                rotate_left
                · simp only [Act.put, List.setIfInBounds_toArray, List.set_cons_zero, List.set_cons_succ, i64_w, i32_w]
                  rfl
                refine pure_ (i := 6) (N := some 176) (v := ?_) (a' := ?_) #[true, true, true, false, true, true, true, false, false, false, false, false, false, false, false] rfl rfl (by kernel_rfl) (fun _ _ _ h => h) (Or.inl ⟨by rfl, ?_⟩) ?_ ?_
                rotate_left
                · intro w'
                  go_simp
                  with_reducible rfl
                rotate_left
                · simp only [Act.put, List.setIfInBounds_toArray, List.set_cons_zero, List.set_cons_succ, i64_w, i32_w]
                  rfl
                refine pure_ (i := 7) (N := some 177) (v := ?_) (a' := ?_) #[true, true, true, false, true, true, true, true, false, false, false, false, false, false, false] rfl rfl (by kernel_rfl) (fun _ _ _ h => h) (Or.inl ⟨by rfl, ?_⟩) ?_ ?_
                rotate_left
                · intro w'
                  go_simp
                  with_reducible rfl
                rotate_left
                · simp only [Act.put, List.setIfInBounds_toArray, List.set_cons_zero, List.set_cons_succ, i64_w, i32_w]
                  rfl
                refine pure_ (i := 9) (N := some 179) (v := ?_) (a' := ?_) #[true, true, true, false, true, true, true, true, false, true, false, false, false, false, false] rfl rfl (by kernel_rfl) (fun _ _ _ h => h) (Or.inl ⟨by rfl, ?_⟩) ?_ ?_
                rotate_left
                · intro w'
                  go_simp
                  with_reducible rfl
                rotate_left
                · simp only [Act.put, List.setIfInBounds_toArray, List.set_cons_zero, List.set_cons_succ, i64_w, i32_w]
                  rfl
                refine take_ (i := 3) (N := some 173) (v := ?_) (a' := ?_) #[true, true, true, true, true, true, true, true, false, true, false, false, false, false, false] rfl rfl (by kernel_rfl) (fun _ _ _ h => h) (Or.inl ⟨by rfl, ?_⟩) hHeld ?_ ?_
                rotate_left
                · rintro w' ⟨s0, s1⟩
                  go_simp
                  with_reducible rfl
                rotate_left
                · simp only [Act.put, List.setIfInBounds_toArray, List.set_cons_zero, List.set_cons_succ, i64_w, i32_w]
                  rfl
                refine take_ (i := 8) (N := some 178) (v := ?_) (a' := ?_) #[true, true, true, true, true, true, true, true, true, true, false, false, false, false, false] rfl rfl (by kernel_rfl) (fun _ _ _ h => h) (Or.inl ⟨by rfl, ?_⟩) hHeld ?_ ?_
                rotate_left
                · rintro w' ⟨s0, s1⟩
                  go_simp
                  with_reducible rfl
                rotate_left
                · simp only [Act.put, List.setIfInBounds_toArray, List.set_cons_zero, List.set_cons_succ, i64_w, i32_w]
                  rfl
                refine pure_ (i := 10) (N := some 180) (v := ?_) (a' := ?_) #[true, true, true, true, true, true, true, true, true, true, true, false, false, false, false] rfl rfl (by kernel_rfl) (fun _ _ _ h => h) (Or.inl ⟨by rfl, ?_⟩) ?_ ?_
                rotate_left
                · intro w'
                  go_simp
                  with_reducible rfl
                rotate_left
                · simp only [Act.put, List.setIfInBounds_toArray, List.set_cons_zero, List.set_cons_succ, i64_w, i32_w]
                  rfl
                refine take_ (i := 11) (N := some 181) (v := ?_) (a' := ?_) #[true, true, true, true, true, true, true, true, true, true, true, true, false, false, false] rfl rfl (by kernel_rfl) (fun _ _ _ h => h) (Or.inl ⟨by rfl, ?_⟩) hHeld ?_ ?_
                rotate_left
                · rintro w' ⟨s0, s1⟩
                  go_simp
                  with_reducible rfl
                rotate_left
                · simp only [Act.put, List.setIfInBounds_toArray, List.set_cons_zero, List.set_cons_succ, i64_w, i32_w]
                  rfl
                refine pure_ (i := 12) (N := some 182) (v := ?_) (a' := ?_) #[true, true, true, true, true, true, true, true, true, true, true, true, true, false, false] rfl rfl (by kernel_rfl) (fun _ _ _ h => h) (Or.inl ⟨by rfl, ?_⟩) ?_ ?_
                rotate_left
                · intro w'
                  go_simp
                  with_reducible rfl
                rotate_left
                · simp only [Act.put, List.setIfInBounds_toArray, List.set_cons_zero, List.set_cons_succ, i64_w, i32_w]
                  rfl
                refine pure_ (i := 13) (N := some 183) (v := ?_) (a' := ?_) #[true, true, true, true, true, true, true, true, true, true, true, true, true, true, false] rfl rfl (by kernel_rfl) (fun _ _ _ h => h) (Or.inl ⟨by rfl, ?_⟩) ?_ ?_
                rotate_left
                · intro w'
                  go_simp
                  with_reducible rfl
                rotate_left
                · simp only [Act.put, List.setIfInBounds_toArray, List.set_cons_zero, List.set_cons_succ, i64_w, i32_w]
                  rfl
                refine last_ (i := 14) (N := none) #[true, true, true, true, true, true, true, true, true, true, true, true, true, true, true] rfl rfl (by kernel_rfl) (by decide) (fun K hK => ?_)
                refine skip_ (w1 := ?_) (by rfl) rfl ?_ ?_
                rotate_left
                · go_simp
                  rfl
                refine hK.out _ _ ?_
                clear hK K
                refine done_ (by kernel_rfl) ?_

                have hwj := HWJ.out
                go_wp2_with fail
                go_roundg kj2
                case measure => omega
                case rel => exact ⟨j + 1, by rw [hwj], Lib.hid (by have := HJ2.out; omega), Lib.hid (HK.out.setCell (p := ⟨gi, j, none⟩) (.inl HGI.out) _), Lib.hid (fun g n hg hb => (HBB.out g n hg hb).set j _), Lib.hid (HY.out.kept (set_kept (ok := okI) HGI.out) (fun k hk => HYN.out k hk)), Lib.hid (HZ.out.kept (set_kept (ok := okI) HGI.out) (fun k hk => HYN.out k hk)), Lib.hid (HBe.out.setCell (p := ⟨gi, j, none⟩) (by have := HYN.out gi HGI.out; have := HW6.out; show w1.heap.size ≤ gi; omega) _).drew⟩
      · have hsa : becketlaw06_same.f (rr.length + 1) rr in2 = some true := by rw [hor, HIN.out]; exact same_self _ (by have := HRL.out.1; rw [hor] at this; exact this)
        have hsb : becketlaw06_same.f (rr.length + 1) rr ms = some false := by
          rw [same_f rr ms HRL.out.1 _ (Nat.le_refl _), decide_eq_false]
          intro e
          have := congrArg List.length e
          rw [hor] at this
          simp at this
        subst hor1
        have HSA := Lib.hid hsa
        have HSB := Lib.hid hsb
        clear hsa hsb hor
        rw [errW_none]
        refine (becketlaw06_same.calls _ Ar cr rr A9 c9 in2 true w9 (Kd.R_reads' HR9.out).2.2 (Kd.R_reads' HR9.out).2.1 HC9.out Hc9.out HSA.out).mono ?_
        rintro e w10 ⟨rfl, ⟨d1, rfl⟩⟩
        go_wp2_with fail
        refine (becketlaw06_same.calls _ Ar cr rr Ai ci ms false (w9.drewN d1) (Kd.C_drewN (Kd.R_reads' HR9.out).2.2 d1) (Kd.R_reads' HR9.out).2.1 (Kd.C_drewN (HRow.reads HH9.out).2.2 d1) (HRow.reads HH9.out).2.1 HSB.out).mono ?_
        rintro e w11 ⟨rfl, ⟨d2, rfl⟩⟩
        go_wp2_with fail
        have hbd : Below w9.heap.size w9 (w9.drewN (d1 + d2)) := pw_below_drewN (Below.refl _ _) (d1 + d2)
        have HY11 := Lib.hid (HY9.out.below hbd)
        have HR11 := Lib.hid (Kd.R_below HR9.out hbd)
        have HB11 := Lib.hid (HB9.out.trans (hbd.mono HB9.out.size))
        have HS11 := Lib.hid (Nat.le_trans HS9.out hbd.size)
        clear hbd HY9 HR9 HH9 HB9 HS9 HC9 Hc9 HSA HSB
        generalize w9.drewN (d1 + d2) = w11 at *
        refine (xt_Open w11 _ _ _ _ _ _ _ _ HY11.out HB2'.out HB11.out.size).mono ?_
        rintro e w12 ⟨q3, rfl, hz, hy, hk, hb⟩
        rw [HS3.out] at hz
        have HZ12 := Lib.hid hz
        have HY12 := Lib.hid hy
        have HR12 := Lib.hid (Kd.R_kept HR11.out hk (fun k h h2 => h2 (.inr h.1)))
        have HB12 := Lib.hid (HB11.out.trans hb)
        clear hz hy hk hb HY11 HR11 HB11
        go_wp2_with fail
        refine (xt_Records _ _ _ _ _ _ _ _ _ HZ12.out HRL.out.1 HRL.out.2).mono ?_
        rintro e w13 ⟨A13, c13, rfl, hr, hb⟩
        have HRz := Lib.hid hr
        have HR13 := Lib.hid (Kd.R_below HR12.out hb)
        have HY13 := Lib.hid (HY12.out.below hb)
        have HZ13 := Lib.hid (HZ12.out.below hb)
        have HB13 := Lib.hid (HB12.out.trans (hb.mono HB12.out.size))
        clear hr hb HY12 HZ12 HR12 HB12
        go_wp2_with fail
        refine (becketlaw06_same.calls _ A13 c13 rr Ar cr rr true w13 (Kd.R_reads' HRz.out).2.2 (Kd.R_reads' HRz.out).2.1 (Kd.R_reads' HR13.out).2.2 (Kd.R_reads' HR13.out).2.1 (same_self _ HRL.out.1)).mono ?_
        rintro e w14 ⟨rfl, ⟨d3, rfl⟩⟩
        have hbd : Below w13.heap.size w13 (w13.drewN d3) := pw_below_drewN (Below.refl _ _) d3
        have HR14 := Lib.hid (Kd.R_below HR13.out hbd)
        have HY14 := Lib.hid (HY13.out.below hbd)
        have HZ14 := Lib.hid (HZ13.out.below hbd)
        have HB14 := Lib.hid (HB13.out.trans (hbd.mono HB13.out.size))
        clear hbd HY13 HZ13 HR13 HB13 HRz
        generalize w13.drewN d3 = w14 at *
        go_wp2_with fail
        obtain ⟨okI, hokI⟩ : ∃ okI : Nat → Prop, okI = fun k => (w6.heap.size ≤ k ∧ k < w7.heap.size) ∧ ∀ a : Addr, Ar = some a → k ≠ a.block := ⟨_, rfl⟩
        have HOK := Lib.hid hokI
        have HFT : Hid (∀ i (hi : i < rr.length), ∃ ad Ai ci, Ar = some ad ∧ w14.cell? (ad.add i) = some (.slice Ai rr[i].length ci) ∧ rr[i].length ≤ ci ∧ ¬ okI ad.block ∧ (0 < rr[i].length → ∃ g, Ai = some ⟨g, 0, none⟩ ∧ BB w14 g rr[i].length ∧ okI g)) := Lib.hid (fun i hi => by
          obtain ⟨ad, Ai, ci, h1, h2, h3, h4⟩ := rr_get HR14.out i hi
          refine ⟨ad, Ai, ci, h1, h2, h3, by rw [HOK.out]; exact fun h => h.2 ad h1 rfl, fun hp => ?_⟩
          obtain ⟨g, h5, h6, h7, h8⟩ := h4 hp
          refine ⟨g, h5, h6, ?_⟩
          rw [HOK.out]
          exact ⟨h7, fun a ha => by rw [h1] at ha; injection ha with ha; rw [← ha]; exact h8⟩)
        have HYN : Hid (∀ k, okI k → w6.heap.size ≤ k ∧ k < w11.heap.size) := Lib.hid (fun k hk => by rw [HOK.out] at hk; have := hk.1; have := HS11.out; omega)
        have HW6 := Lib.hid HB6.out.size
        clear hokI HR14
        go_loopg [23] rr.length (fun kq v23 w' => ∃ i : Nat, v23 = .int .i64 (i : Int) ∧ Hid (i = rr.length - kq ∧ kq ≤ rr.length) ∧ Hid (Kept w14 w' okI) ∧ Hid (∀ g n, okI g → BB w14 g n → BB w' g n) ∧ Hid (XT w' w1.heap.size (fun k => w6.heap.size ≤ k ∧ k < w11.heap.size) q2 w1.heap.size rr false _ _) ∧ Hid (XT w' w1.heap.size (fun k => w6.heap.size ≤ k ∧ k < w11.heap.size) q3 w1.heap.size rr false _ _) ∧ Hid (Below w1.heap.size w1 w'))
        case atStart => exact ⟨0, rfl, Lib.hid ⟨by omega, by omega⟩, Lib.hid (Kept.refl _ _), Lib.hid (fun g n _ h => h), Lib.hid (HY14.out.less (fun k hk => ⟨.inr hk.1, hk.2⟩)), Lib.hid (HZ14.out.less (fun k hk => ⟨.inr hk.1, hk.2⟩)), HB14⟩
        case round =>
          clear HY14 HZ14 HB14
          obtain ⟨i, rfl, HI2, HK, HBB, HY, HZ, HBe⟩ := hrel
          cases gk with
          | zero =>
            have hi : i = rr.length := by have := HI2.out; omega
            subst hi
            go_wp2_with fail
            refine (xt_Records _ _ _ _ _ _ _ _ _ HY.out HRL.out.1 HRL.out.2).mono ?_
            rintro e w15 ⟨A15, c15, rfl, hr, hb⟩
            have HR15 := Lib.hid hr
            have HZ15 := Lib.hid (HZ.out.below hb)
            have HB15 := Lib.hid (HBe.out.trans (hb.mono HBe.out.size))
            clear hr hb HY HZ HBe HK HBB
            go_wp2_with fail
            refine (xt_Records _ _ _ _ _ _ _ _ _ HZ15.out HRL.out.1 HRL.out.2).mono ?_
            rintro e w16 ⟨A16, c16, rfl, hr, hb⟩
            have HR16 := Lib.hid hr
            have HR15' := Lib.hid (Kd.R_below HR15.out hb)
            have HB16 := Lib.hid (HB15.out.trans (hb.mono HB15.out.size))
            clear hr hb HR15 HZ15 HB15
            go_wp2_with fail
            refine (becketlaw06_same.calls _ A15 c15 rr A16 c16 rr true w16 (Kd.R_reads' HR15'.out).2.2 (Kd.R_reads' HR15'.out).2.1 (Kd.R_reads' HR16.out).2.2 (Kd.R_reads' HR16.out).2.1 (same_self _ HRL.out.1)).mono ?_
            rintro e w17 ⟨rfl, ⟨d4, rfl⟩⟩
            go_wp2
            go_ret
            exact ⟨rfl, HB.out.trans ((pw_below_drewN HB16.out d4).mono HB.out.size)⟩
          | succ ki =>
            have hi1 : i < rr.length := by have := HI2.out; omega
            have hd : decide ((i : Int) < (rr.length : Int)) = true := decide_eq_true (by omega)
            obtain ⟨ad, Ax, cx, rfl, hx0, hxc, hnot, hpos⟩ := HFT.out i hi1
            have hlen : rr[i].length ≤ 100000 := HRL.out.2 _ (List.getElem_mem hi1)
            generalize rr[i].length = ni at hx0 hxc hpos hlen
            have HX0 := Lib.hid hx0
            have HNT := Lib.hid hnot
            have HPOS := Lib.hid hpos
            have HLEN := Lib.hid hlen
            have HXC := Lib.hid hxc
            have hwi : wrap64 ((i : Int) + 1) = ((i + 1 : Nat) : Int) := by unfold wrap64; have := HRL.out.1; omega
            have HWI := Lib.hid hwi
            clear hx0 hnot hpos hlen hxc hwi
            go_wp2_with fail
            go_loopg [24] ni (fun kj v24 w' => ∃ j : Nat, v24 = .int .i64 (j : Int) ∧ Hid (j = ni - kj ∧ kj ≤ ni) ∧ Hid (Kept w14 w' okI) ∧ Hid (∀ g n, okI g → BB w14 g n → BB w' g n) ∧ Hid (XT w' w1.heap.size (fun k => w6.heap.size ≤ k ∧ k < w11.heap.size) q2 w1.heap.size rr false _ _) ∧ Hid (XT w' w1.heap.size (fun k => w6.heap.size ≤ k ∧ k < w11.heap.size) q3 w1.heap.size rr false _ _) ∧ Hid (Below w1.heap.size w1 w'))
            case atStart => exact ⟨0, rfl, Lib.hid ⟨by omega, by omega⟩, HK, HBB, HY, HZ, HBe⟩
            case round =>
              clear HK HBB HY HZ HBe
              obtain ⟨j, rfl, HJ2, HK, HBB, HY, HZ, HBe⟩ := hrel
              have hx : wr.cell? (ad.add i) = some (.slice Ax ni cx) := cell_kept HX0.out HK.out (by rw [show (ad.add i).block = ad.block from by unfold Addr.add; split <;> rfl]; exact HNT.out)
              cases gk with
              | zero =>
                have hj : j = ni := by have := HJ2.out; omega
                subst hj
                have hwi := HWI.out
                go_wp2_with fail
                go_roundg ki
                case measure => omega
                case rel => exact ⟨i + 1, by rw [hwi], Lib.hid (by have := HI2.out; omega), HK, HBB, HY, HZ, HBe⟩
              | succ kj2 =>
                have hj1 : j < ni := by have := HJ2.out; omega
                have hdj : decide ((j : Int) < (ni : Int)) = true := decide_eq_true (by omega)
                have hwj : wrap64 ((j : Int) + 1) = ((j + 1 : Nat) : Int) := by unfold wrap64; have := HLEN.out; omega
                obtain ⟨gi, rfl, hbb, hgi⟩ := HPOS.out (by omega)
                obtain ⟨⟨z, hz⟩, hf⟩ := (HBB.out gi ni hgi hbb).cell j hj1
                have HGI := Lib.hid hgi
                have HWJ := Lib.hid hwj
                clear hbb hgi hwj
                go_wp2_with fail
                refine start_ (n := 15) (S := fun w' => w'.cell? (ad.add i) = some (.slice (some ⟨gi, 0, none⟩) ni cx) ∧ w'.cell? ⟨gi, j, none⟩ = some (.int .u8 z)) (ds := [14]) #[false, false, false, false, false, false, false, false, false, false, false, false, false, false, false] (by kernel_rfl) rfl rfl ⟨hx, hz⟩ (fun hHeld => ?_)
                refine pure_ (i := 0) (N := some 170) (v := ?_) (a' := ?_) #[true, false, false, false, false, false, false, false, false, false, false, false, false, false, false] rfl rfl (by kernel_rfl) (fun _ _ _ h => h) (Or.inl ⟨by rfl, ?_⟩) ?_ ?_
                rotate_left
                · intro w'
                  go_simp
                  with_reducible rfl
                rotate_left
                · simp only [Act.put, List.setIfInBounds_toArray, List.set_cons_zero, List.set_cons_succ, i64_w, i32_w]
                  rfl
                refine pure_ (i := 1) (N := some 171) (v := ?_) (a' := ?_) #[true, true, false, false, false, false, false, false, false, false, false, false, false, false, false] rfl rfl (by kernel_rfl) (fun _ _ _ h => h) (Or.inl ⟨by rfl, ?_⟩) ?_ ?_
                rotate_left
                · intro w'
                  go_simp
                  with_reducible rfl
                rotate_left
                · simp only [Act.put, List.setIfInBounds_toArray, List.set_cons_zero, List.set_cons_succ, i64_w, i32_w]
                  rfl
                refine pure_ (i := 2) (N := some 172) (v := ?_) (a' := ?_) #[true, true, true, false, false, false, false, false, false, false, false, false, false, false, false] rfl rfl (by kernel_rfl) (fun _ _ _ h => h) (Or.inl ⟨by rfl, ?_⟩) ?_ ?_
                rotate_left
                · intro w'
                  go_simp
                  with_reducible rfl
                rotate_left
                · simp only [Act.put, List.setIfInBounds_toArray, List.set_cons_zero, List.set_cons_succ, i64_w, i32_w]
                  rfl
                refine pure_ (i := 4) (N := some 174) (v := ?_) (a' := ?_) #[true, true, true, false, true, false, false, false, false, false, false, false, false, false, false] rfl rfl (by kernel_rfl) (fun _ _ _ h => h) (Or.inl ⟨by rfl, ?_⟩) ?_ ?_
                rotate_left
                · intro w'
                  go_simp
                  with_reducible rfl
                rotate_left
                · simp only [Act.put, List.setIfInBounds_toArray, List.set_cons_zero, List.set_cons_succ, i64_w, i32_w]
                  rfl
                refine pure_ (i := 5) (N := some 175) (v := ?_) (a' := ?_) #[true, true, true, false, true, true, false, false, false, false, false, false, false, false, false] rfl rfl (by kernel_rfl) (fun _ _ _ h => h) (Or.inl ⟨by rfl, ?_⟩) ?_ ?_
                rotate_left
                · intro w'
                  go_simp
                  with_reducible rfl
                rotate_left
                · simp only [Act.put, List.setIfInBounds_toArray, List.set_cons_zero, List.set_cons_succ, i64_w, i32_w]
                  rfl
                refine pure_ (i := 6) (N := some 176) (v := ?_) (a' := ?_) #[true, true, true, false, true, true, true, false, false, false, false, false, false, false, false] rfl rfl (by kernel_rfl) (fun _ _ _ h => h) (Or.inl ⟨by rfl, ?_⟩) ?_ ?_
                rotate_left
                · intro w'
                  go_simp
                  with_reducible rfl
                rotate_left
                · simp only [Act.put, List.setIfInBounds_toArray, List.set_cons_zero, List.set_cons_succ, i64_w, i32_w]
                  rfl
                refine pure_ (i := 7) (N := some 177) (v := ?_) (a' := ?_) #[true, true, true, false, true, true, true, true, false, false, false, false, false, false, false] rfl rfl (by kernel_rfl) (fun _ _ _ h => h) (Or.inl ⟨by rfl, ?_⟩) ?_ ?_
                rotate_left
                · intro w'
                  go_simp
                  with_reducible rfl
                rotate_left
                · simp only [Act.put, List.setIfInBounds_toArray, List.set_cons_zero, List.set_cons_succ, i64_w, i32_w]
                  rfl
                refine pure_ (i := 9) (N := some 179) (v := ?_) (a' := ?_) #[true, true, true, false, true, true, true, true, false, true, false, false, false, false, false] rfl rfl (by kernel_rfl) (fun _ _ _ h => h) (Or.inl ⟨by rfl, ?_⟩) ?_ ?_
                rotate_left
                · intro w'
                  go_simp
                  with_reducible rfl
                rotate_left
                · simp only [Act.put, List.setIfInBounds_toArray, List.set_cons_zero, List.set_cons_succ, i64_w, i32_w]
                  rfl
                refine take_ (i := 3) (N := some 173) (v := ?_) (a' := ?_) #[true, true, true, true, true, true, true, true, false, true, false, false, false, false, false] rfl rfl (by kernel_rfl) (fun _ _ _ h => h) (Or.inl ⟨by rfl, ?_⟩) hHeld ?_ ?_
                rotate_left
                · rintro w' ⟨s0, s1⟩
                  go_simp
                  with_reducible rfl
                rotate_left
                · simp only [Act.put, List.setIfInBounds_toArray, List.set_cons_zero, List.set_cons_succ, i64_w, i32_w]
                  rfl
                refine take_ (i := 8) (N := some 178) (v := ?_) (a' := ?_) #[true, true, true, true, true, true, true, true, true, true, false, false, false, false, false] rfl rfl (by kernel_rfl) (fun _ _ _ h => h) (Or.inl ⟨by rfl, ?_⟩) hHeld ?_ ?_
                rotate_left
                · rintro w' ⟨s0, s1⟩
                  go_simp
                  with_reducible rfl
                rotate_left
                · simp only [Act.put, List.setIfInBounds_toArray, List.set_cons_zero, List.set_cons_succ, i64_w, i32_w]
                  rfl
                refine pure_ (i := 10) (N := some 180) (v := ?_) (a' := ?_) #[true, true, true, true, true, true, true, true, true, true, true, false, false, false, false] rfl rfl (by kernel_rfl) (fun _ _ _ h => h) (Or.inl ⟨by rfl, ?_⟩) ?_ ?_
                rotate_left
                · intro w'
                  go_simp
                  with_reducible rfl
                rotate_left
                · simp only [Act.put, List.setIfInBounds_toArray, List.set_cons_zero, List.set_cons_succ, i64_w, i32_w]
                  rfl
                refine take_ (i := 11) (N := some 181) (v := ?_) (a' := ?_) #[true, true, true, true, true, true, true, true, true, true, true, true, false, false, false] rfl rfl (by kernel_rfl) (fun _ _ _ h => h) (Or.inl ⟨by rfl, ?_⟩) hHeld ?_ ?_
                rotate_left
                · rintro w' ⟨s0, s1⟩
                  go_simp
                  with_reducible rfl
                rotate_left
                · simp only [Act.put, List.setIfInBounds_toArray, List.set_cons_zero, List.set_cons_succ, i64_w, i32_w]
                  rfl
                refine pure_ (i := 12) (N := some 182) (v := ?_) (a' := ?_) #[true, true, true, true, true, true, true, true, true, true, true, true, true, false, false] rfl rfl (by kernel_rfl) (fun _ _ _ h => h) (Or.inl ⟨by rfl, ?_⟩) ?_ ?_
                rotate_left
                · intro w'
                  go_simp
                  with_reducible rfl
                rotate_left
                · simp only [Act.put, List.setIfInBounds_toArray, List.set_cons_zero, List.set_cons_succ, i64_w, i32_w]
                  rfl
                refine pure_ (i := 13) (N := some 183) (v := ?_) (a' := ?_) #[true, true, true, true, true, true, true, true, true, true, true, true, true, true, false] rfl rfl (by kernel_rfl) (fun _ _ _ h => h) (Or.inl ⟨by rfl, ?_⟩) ?_ ?_
                rotate_left
                · intro w'
                  go_simp
                  with_reducible rfl
                rotate_left
                · simp only [Act.put, List.setIfInBounds_toArray, List.set_cons_zero, List.set_cons_succ, i64_w, i32_w]
                  rfl
                refine last_ (i := 14) (N := none) #[true, true, true, true, true, true, true, true, true, true, true, true, true, true, true] rfl rfl (by kernel_rfl) (by decide) (fun K hK => ?_)
                refine skip_ (w1 := ?_) (by rfl) rfl ?_ ?_
                rotate_left
                · go_simp
                  rfl
                refine hK.out _ _ ?_
                clear hK K
                refine done_ (by kernel_rfl) ?_

                have hwj := HWJ.out
                go_wp2_with fail
                go_roundg kj2
                case measure => omega
                case rel => exact ⟨j + 1, by rw [hwj], Lib.hid (by have := HJ2.out; omega), Lib.hid (HK.out.setCell (p := ⟨gi, j, none⟩) (.inl HGI.out) _), Lib.hid (fun g n hg hb => (HBB.out g n hg hb).set j _), Lib.hid (HY.out.kept (set_kept (ok := okI) HGI.out) (fun k hk => HYN.out k hk)), Lib.hid (HZ.out.kept (set_kept (ok := okI) HGI.out) (fun k hk => HYN.out k hk)), Lib.hid (HBe.out.setCell (p := ⟨gi, j, none⟩) (by have := HYN.out gi HGI.out; have := HW6.out; show w1.heap.size ≤ gi; omega) _).drew⟩
    | succ kr =>
      have hi1 : i < rs.length := by have := HI.out; omega
      have hd : decide ((i : Int) < (rs.length : Int)) = true := decide_eq_true (by omega)
      obtain ⟨ad, Am, cm, rfl, hmc, hmC, hx⟩ := rec_get (ReadsRow.imp_ H0'.out.1 HB4.out (fun _ _ h => h)) i hi1
      have hmb := H0'.out.2 _ (List.getElem_mem hi1)
      obtain ⟨m, hm⟩ : ∃ m, m = rs[i] := ⟨_, rfl⟩
      rw [← hm] at hmc hmC hx hmb
      have HME := Lib.hid hm
      have HMC := Lib.hid hmC
      have HMb := Lib.hid hmb
      have hwi : wrap64 ((i : Int) + 1) = ((i + 1 : Nat) : Int) := by unfold wrap64; have := G.out; omega
      by_cases hbig : (2000 : Int) < (m.length : Int)
      · have hd2 : decide ((2000 : Int) < (m.length : Int)) = true := decide_eq_true hbig
        clear hmC hmb hm
        go_wp2
        go_ret
        exact ⟨rfl, HB.out.trans (HB4.out.mono HB.out.size)⟩
      have hd2 : decide ((2000 : Int) < (m.length : Int)) = false := decide_eq_false hbig
      have HBIG := Lib.hid hbig
      have HWI := Lib.hid hwi
      clear hmC hmb hbig hwi hm
      have hx' : (wr.alloc (.cells #[] 5)).cell? (ad.add i) = some (.slice Am m.length cm) := ((Below.refl wr.heap.size wr).alloc (Nat.le_refl _) _).cell (World.block_lt_of_cell? _ _ hx) |>.trans hx
      go_wp2_with (at_builtin; refine Kd.R_append_row (w0 := wr) (Value.int .u8) 0 (h1 := fun _ => rfl) wr.heap.size rfl (.tmp 68) (.tmp 72) 22 5 (.int .u8 0) 1 rfl Try.underlying22 (by kernel_rfl) rfl (by decide) (.slice (some ⟨wr.heap.size, 0, none⟩) 0 0) [] m Am m.length cm (fun k => wr.heap.size ≤ k) rfl rfl ?fresh ?own ?src ((Below.refl _ _).alloc (Nat.le_refl _) _) (by simp) ?len ?go)
      case fresh => intro k hk; first | omega | (simp at hk; omega)
      case own => exact Kd.R_mono (nil_R wr) (fun k hk => by omega)
      case src => exact Kd.C_alloc (Kd.C_below HMC.out HB4.out) _
      case len => have := HBIG.out; first | omega | (simp; omega)
      case go =>
      intro v1 w4 hown hbel hgr hat
      replace hown : Kd.R (Kd.int .u8) 5 w4 wr.heap.size (fun k => wr.heap.size ≤ k) v1 m := hown
      obtain ⟨Ao, co, rfl⟩ := Kd.R_slice hown
      have HO4 : Hid (Kd.R (Kd.int .u8) 5 w4 wr.heap.size (fun k => wr.heap.size ≤ k ∧ k < w4.heap.size) (.slice Ao m.length co) m) := Lib.hid (Kd.R_mono (Kd.R_bound hown) (fun k hk => ⟨hk.1, hk.2.2.1⟩))
      have HX4 := Lib.hid (HX.out.more.below hbel)
      have HH4 := Lib.hid (HH.out.bound.below hbel)
      have HBe4 := Lib.hid (HB4.out.trans (hbel.mono HB4.out.size))
      have HS4 := Lib.hid hbel.size
      have HBr := Lib.hid HB4.out.size
      clear hown hbel hgr hat hx hx' HX HH
      generalize wr.heap.size = so at *
      go_wp2_with fail
      by_cases hm1 : m.length < 1
      · refine (xt_Append_no w4 _ _ _ _ _ _ _ _ HX4.out Ao m.length co 1 (.inr ⟨rfl, .inl hm1, rfl⟩)).mono ?_
        rintro e w5 ⟨rfl, rfl⟩
        have hm0 : m.length = 0 := by omega
        rw [errW_some, hm0]
        go_wp2_with fail
        go_loopg [15] 0 (fun kq v15 w' => v15 = .int .i64 0 ∧ w' = w4)
        case atStart => exact ⟨rfl, rfl⟩
        case round =>
          obtain ⟨rfl, rfl⟩ := hrel
          have hwi := HWI.out
          go_wp2_with fail
          go_roundg kr
          case measure => omega
          case rel => exact ⟨i + 1, ms, Ai, ci, _, rfl, by rw [hwi], Lib.hid (by have := HI.out; omega), HM, Lib.hid (HX4.out.less (fun k hk => .inl hk.1)), HH4, HBe4⟩
      · refine (xt_Append w4 _ _ _ _ _ _ _ HX4.out HBe4.out.size (by have := HI.out; have := G.out; omega) Ao co m (fun w' hk _ => (Kd.R_reads' (Kd.R_kept HO4.out hk (fun k h h2 => h2 (.inr h.1)))).2.2) (Kd.R_reads' HO4.out).2.1 (by omega) (by have := HBIG.out; omega) (by have := HFL.out; have := enc_len 9 m.length (pow70 (by have := HBIG.out; omega)); have := HBIG.out; rw [frame_len]; omega)).mono ?_
        rintro e w5 ⟨rfl, hx5, hk5, hb5⟩
        have HX5 := Lib.hid hx5
        have HO5 := Lib.hid (Kd.R_kept HO4.out hk5 (fun k h h2 => h2 (.inr h.1)))
        have HH5 := Lib.hid (HH4.out.kept (Kept.base hk5 hb5) (fun k hk => ⟨fun h => hk.1 (.inl h.1), hk.2⟩))
        have HB5 := Lib.hid (HBe4.out.trans hb5)
        have HS5 := Lib.hid (Nat.le_trans HS4.out hk5.1)
        have HH1 := Lib.hid hm1
        clear hx5 hk5 hb5 HX4 HO4 HH4 HBe4 hm1
        go_wp2_with fail
        have HML := Lib.hid (show m.length ≤ 2000 by have := HBIG.out; omega)
        go_loopg [15] m.length (fun kj v15 w' => ∃ (xs : List Int) (j : Int), v15 = .int .i64 j ∧ Hid (j = m.length - kj ∧ kj ≤ m.length ∧ xs.length = m.length) ∧ Hid (Kd.R (Kd.int .u8) 5 w' so (fun k => so ≤ k ∧ k < w4.heap.size) (.slice Ao m.length co) xs) ∧ Hid (XT w' w1.heap.size (fun k => (N k ∨ so ≤ k) ∧ k < w4.heap.size) q w1.heap.size (ms ++ [m]) false (frames ms ++ frame m) (frames ms ++ frame m).length) ∧ Hid (HRow w' w1.heap.size (fun k => N k ∧ k < so) (.slice Ai ms.length ci) ms) ∧ Hid (Below w1.heap.size w1 w') ∧ Hid (so ≤ w'.heap.size))
        case atStart => exact ⟨m, 0, rfl, Lib.hid ⟨by omega, by omega, rfl⟩, HO5, HX5, HH5, HB5, HS5⟩
        case round =>
          clear HO5 HX5 HH5 HB5
          obtain ⟨xs, j, rfl, HJ, HO, HX7, HH7, HB7, HS7⟩ := hrel
          cases gk with
          | zero =>
            have hj : j = (m.length : Int) := by have := HJ.out; omega
            subst hj
            obtain ⟨ad', Am', cm', e', hmc', hmC', hx'⟩ := rec_get (ReadsRow.imp_ H0'.out.1 HB7.out (fun _ _ h => h)) i hi1
            obtain rfl : ad = ad' := Option.some.inj e'
            rw [← HME.out] at hmc' hmC' hx'
            have HMC' := Lib.hid hmC'
            have HMc' := Lib.hid hmc'
            clear hmC' hmc' e'
            obtain ⟨hs, hr1, hr2, hr3⟩ := HH7.out
            have HR1 := Lib.hid hr1
            have HR2 := Lib.hid hr2
            have HR3 := Lib.hid hr3
            have hhl : ms.length = hs.length := by rw [hr2, List.length_map]
            have HHL := Lib.hid hhl
            clear hr1 hr2 hr3 HH7 hhl
            go_wp2_with (at_builtin; refine Kd.R_append hdrK (w0 := w1) w1.heap.size rfl (.tmp 93) (.tmp 98) 34 22 (.slice none 0 0) 24 rfl Try.underlying34 (by kernel_rfl) rfl (by decide) (by omega) (.slice Ai ms.length ci) hs (Am', cm', m) [henc (Am', cm', m)] (fun k => (N k ∧ k < so) ∨ wr.heap.size ≤ k) (fun _ => False) rfl rfl rfl (fun _ h => False.elim h) ?aF ?aO ?aB ?aS ?aL ?go)
            case aF => exact fun k hk => .inr hk
            case aO => exact Kd.R_mono HR1.out (fun k hk => .inl hk)
            case aB => exact HB7.out
            case aS => exact HB7.out.size
            case aL => have := HHL.out; have := HI.out; have := G.out; omega
            case go =>
            intro v1 w8 hown hbel hgr hat
            have hpush := HRow.push (N' := fun k => (N k ∧ k < so) ∨ wr.heap.size ≤ k) (fun k hk => .inl hk) HR1.out HR3.out (x := (Am', cm', m)) ⟨HMc'.out, came_F HMC'.out HB7.out (fun k hk => ⟨.inr hk, fun e => by have := Kd.R_base HR1.out k e.symm; omega⟩)⟩ hown hgr hat
            have hxt := ((HX7.out.more.kept (Kept.of_grown hgr (Kept.refl wr (fun k => N k ∧ k < so)) (fun k hk => .inl (HR1.out.1 k hk))) (fun k hk => .inl ⟨.inl hk.1, by have := HS4.out; have := hk.2; omega⟩)).less (N' := fun k => (N k ∧ k < so) ∨ wr.heap.size ≤ k) (fun k hk => by
              rcases hk with hk | hk
              · exact .inl ⟨.inl hk.1, by have := HS4.out; have := hk.2; omega⟩
              · exact .inr hk))
            rw [← HR2.out] at hpush
            rw [← frames_one] at hxt
            simp only at hpush
            have hms1 : (ms ++ [m]).length ≤ i + 1 := by have := HI.out; simp; omega
            have hms2 : ∀ x ∈ ms ++ [m], (1 ≤ x.length ∧ x.length ≤ 2000) ∧ bytesOk x := fun x hx => (List.mem_append.1 hx).elim (HM.out x) (fun h => by rw [List.mem_singleton.1 h]; exact ⟨⟨by have := HH1.out; omega, by have := HBIG.out; omega⟩, HMb.out⟩)
            generalize ms ++ [m] = ms' at hpush hxt hms1 hms2
            obtain ⟨A8, c8, rfl⟩ := hpush.slice
            have HP := Lib.hid hpush
            have HXT := Lib.hid hxt
            have HB8 := Lib.hid hbel
            have HM1 := Lib.hid hms1
            have HM2 := Lib.hid hms2
            have hwi := HWI.out
            clear hown hbel hgr hat hpush hxt hms1 hms2 HR1 HR2 HR3 HX7 HO hx'
            go_wp2_with fail
            go_roundg kr
            case measure => omega
            case rel => exact ⟨i + 1, ms', A8, c8, _, rfl, by rw [hwi], Lib.hid (by have := HI.out; have := HM1.out; omega), HM2, HXT, HP, HB8⟩
          | succ kj1 =>
            have hj0 : 0 ≤ j := by have := HJ.out; omega
            have hj1 : j < (m.length : Int) := by have := HJ.out; omega
            have hxl : xs.length = m.length := HJ.out.2.2
            obtain ⟨go, co', e1, _, _, _⟩ := Kd.R_form HO.out (by have := HJ.out; omega)
            have e2 : Ao = some ⟨go, 0, none⟩ ∧ co = co' := by injection e1 with a b c; exact ⟨a, c⟩
            obtain ⟨rfl, rfl⟩ := e2
            obtain ⟨hx, hf⟩ := Kd.R_celln 0 HO.out j hj0 hj1
            have hgo := HO.out.1 go rfl
            have HGO := Lib.hid hgo
            have hww : wrap64 (j + 1) = j + 1 := by unfold wrap64; have := HML.out; omega
            clear e1 hxl hgo
            go_wp2_with fail
            go_roundg kj1
            case measure => omega
            case rel =>
              have h2g := HGO.out
              refine ⟨xs.set j.toNat ((rdOf 0 xs j + 1) % 256), j + 1, rfl, Lib.hid ⟨?_, ?_, ?_⟩, Lib.hid (Kd.R_putg HO.out j _).1, Lib.hid (HX7.out.kept (set_kept (ok := fun k => so ≤ k ∧ k < w4.heap.size) HGO.out) (fun k hk => ⟨.inr hk.1, hk.2⟩)), Lib.hid (HH7.out.kept (set_kept (ok := fun k => so ≤ k ∧ k < w4.heap.size) HGO.out) (fun k hk => ⟨fun h => by have := h.2; have := hk.1; omega, by have := HBr.out; have := hk.1; omega⟩)), Lib.hid (HB7.out.setCell (p := ⟨go, j.toNat, none⟩) (by have := HBr.out; show w1.heap.size ≤ go; omega) _), Lib.hid (by rw [Tape.setCell_size]; exact HS7.out)⟩
              · have := HJ.out; omega
              · have := HJ.out; omega
              · have := HJ.out; simp; omega
end Go.Proofs.Ytbnhoacchibbnaa.Log
