import Derived.Test.YtnjikdaicogdgaaTapeC
namespace Go.Proofs.Ytnjikdaicogdgaa.Tape
open Go.RowKit Go.Proofs.Ytnjikdaicogdgaa.La Go.Proofs.YtnjikdaicogdgaaW.PrintWords Go.Proofs.YtnjikdaicogdgaaW.PrintLast Go.Proofs.YtnjikdaicogdgaaW.PrintMore
attribute [local go_sem] eqlErr neqErr eqlErrNil neqErrNil
set_option linter.unusedVariables false
set_option maxHeartbeats 4000000 in
theorem twice_calls (A0 : Option Addr) (c0 : Nat) (l0 : List Int) (A1 : Option Addr) (c1 : Nat) (l1 : List Int) (n m : Int) (w : World) (h0 : Kd.C (Kd.int .u8) w A0 l0.length l0) (h1 : Kd.C (Kd.int .u8) w A1 l1.length l1) (k0 : l0.length ≤ c0) (k1 : l1.length ≤ c1) (hn2 : n ≤ 9223372036854775807) (hm2 : m ≤ 9223372036854775807) :
    Calls Try.prog 5 #[.slice A0 l0.length c0, .slice A1 l1.length c1, .int .i64 n, .int .i64 m] w fun e w' => e = .returned (.bool true) ∧ Below w.heap.size w w' := by
  have H0 := Lib.hid h0
  have H1 := Lib.hid h1
  clear h0 h1
  by_cases g0 : 2000 < l0.length
  · have g0' : (2000 : Int) < (l0.length : Int) := by omega
    clear g0
    go_enter Try.func5, Try.ntmps5
    go_wp2_with fail
    refine (up_calls _).mono ?_
    rintro e w1 ⟨rfl, hb⟩
    have HB := Lib.hid hb
    clear hb
    go_wp2
    go_ret
    exact ⟨rfl, HB.out⟩
  have g0' : ¬ ((2000 : Int) < (l0.length : Int)) := by omega
  by_cases g1 : 2000 < l1.length
  · have g1' : (2000 : Int) < (l1.length : Int) := by omega
    clear g0 g1
    go_enter Try.func5, Try.ntmps5
    go_wp2_with fail
    refine (up_calls _).mono ?_
    rintro e w1 ⟨rfl, hb⟩
    have HB := Lib.hid hb
    clear hb
    go_wp2
    go_ret
    exact ⟨rfl, HB.out⟩
  have g1' : ¬ ((2000 : Int) < (l1.length : Int)) := by omega
  have G0 := Lib.hid g0
  have G1 := Lib.hid g1
  clear g0 g1
  go_enter Try.func5, Try.ntmps5
  go_wp2_with fail
  refine (up_calls _).mono ?_
  rintro e w1 ⟨rfl, hb⟩
  have HB := Lib.hid hb
  have H0' := Lib.hid (Kd.C_below H0.out hb)
  have H1' := Lib.hid (Kd.C_below H1.out hb)
  clear hb
  go_wp2_with fail
  refine (ts_New _).mono ?_
  rintro e w2 ⟨rfl, ht⟩
  have HT := Lib.hid ht
  clear ht
  go_wp2_with fail
  refine (ts_Append w1 _ [] 0 HT.out _ _ _ l0 rfl (Kd.C_below H0'.out HT.out.2) (by have := G0.out; simp; omega)).mono ?_
  rintro e w3 ⟨rfl, ht⟩
  have HT3 := Lib.hid ht
  clear ht HT
  go_wp2_with fail
  refine (ts_Sync w1 _ _ _ HT3.out).mono ?_
  rintro e w4 ⟨rfl, ht⟩
  have HT4 := Lib.hid ht
  clear ht HT3
  go_wp2_with fail
  refine (ts_Crash w1 _ _ _ HT4.out m hm2).mono ?_
  rintro e w5 ⟨rfl, ht⟩
  have hc : crashLeft ([] ++ l0).length ([] ++ l0).length m = l0.length := by unfold crashLeft; simp; omega
  rw [hc, List.nil_append, List.take_length] at ht
  have HT5 := Lib.hid ht
  clear ht HT4 hc
  go_wp2_with fail
  have hcv0 := Kd.C_string (P := Try.prog) (A := A0) (c := c0) Try.underlying29 Try.underlying5 Try.underlying9 (Kd.C_drew (Kd.C_below H0'.out HT5.out.2))
  go_region_with (go_at_call 19; refine (ts_Bytes w1 _ l0 l0.length (by repeat (first | exact HT5.out | refine TS.drew ?_))).mono ?_; rintro e w6 ⟨A, c, rfl, hr, ht, hb⟩; have HT6 := Lib.hid ht; have hcv := own_string (P := Try.prog) Try.underlying29 Try.underlying5 Try.underlying9 (Kd.own_of_R hr); have hcv3 := Kd.C_string (P := Try.prog) (A := A0) (c := c0) Try.underlying29 Try.underlying5 Try.underlying9 (Kd.C_below H0'.out ht.2); clear hr ht hb)
  all_goals clear hcv hcv0 hcv3
  all_goals
    go_wp2_with fail
    refine (ts_Append w1 _ _ _ HT6.out _ _ _ l1 rfl (Kd.C_below H1'.out HT6.out.2) (by have := G0.out; have := G1.out; omega)).mono ?_
    rintro e w7 ⟨rfl, ht⟩
    have HT7 := Lib.hid ht
    clear ht HT6
    go_wp2_with fail
    refine (ts_Crash w1 _ _ _ HT7.out n hn2).mono ?_
    rintro e w8 ⟨rfl, ht⟩
    generalize hx : (l0 ++ l1).take (crashLeft (l0 ++ l1).length l0.length n) = x at ht
    have hxl : crashLeft (l0 ++ l1).length l0.length n = x.length := by
      rw [← hx, List.length_take]; unfold crashLeft; simp; omega
    rw [hxl] at ht
    have HT8 := Lib.hid ht
    clear ht HT7 hx hxl
    go_wp2_with fail
    refine (ts_Bytes w1 _ _ _ HT8.out).mono ?_
    rintro e w9 ⟨A9, c9, rfl, hr, ht, hb⟩
    have HT9 := Lib.hid ht
    have hcv := own_string (P := Try.prog) Try.underlying29 Try.underlying5 Try.underlying9 (Kd.own_of_R hr)
    clear hr ht hb HT8
    go_wp2_with fail
    clear hcv
    refine (ts_Crash w1 _ _ _ HT9.out m hm2).mono ?_
    rintro e w10 ⟨rfl, ht⟩
    have hc : crashLeft x.length x.length m = x.length := by unfold crashLeft; omega
    rw [hc, List.take_length] at ht
    have HT10 := Lib.hid ht
    clear ht HT9 hc
    go_wp2_with fail
    refine (ts_Bytes w1 _ _ _ HT10.out).mono ?_
    rintro e w11 ⟨A11, c11, rfl, hr, ht, hb⟩
    have HT11 := Lib.hid ht
    have hcv := own_string (P := Try.prog) Try.underlying29 Try.underlying5 Try.underlying9 (Kd.own_of_R hr)
    have hsz : (strOfNums x).size = x.length := strOfNums_size x
    clear hr ht hb HT10
    go_wp2_with fail
    refine (ts_Synced w1 _ _ _ HT11.out).mono ?_
    rintro e w12 ⟨rfl, rfl⟩
    go_wp2
    go_ret
    exact ⟨rfl, HB.out.trans (HT11.out.2.mono HB.out.size)⟩
end Go.Proofs.Ytnjikdaicogdgaa.Tape
