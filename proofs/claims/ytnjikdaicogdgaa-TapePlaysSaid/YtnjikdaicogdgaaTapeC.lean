import Derived.Test.YtnjikdaicogdgaaTapeB
namespace Go.Proofs.Ytnjikdaicogdgaa.Tape
open Go.RowKit Go.Proofs.Ytnjikdaicogdgaa.La Go.Proofs.YtnjikdaicogdgaaW.PrintWords Go.Proofs.YtnjikdaicogdgaaW.PrintLast Go.Proofs.YtnjikdaicogdgaaW.PrintMore
attribute [local go_sem] eqlErr neqErr eqlErrNil neqErrNil
set_option linter.unusedVariables false
theorem pick_calls (c n : Int) (w : World) (h1 : -9223372036854775808 ≤ c) (h2 : c ≤ 9223372036854775807) (hn : 0 < n) (hn' : n ≤ 1000) : Calls Try.prog 17 #[.int .i64 c, .int .i64 n] w fun e w' => ∃ r : Int, e = .returned (.int .i64 r) ∧ 0 ≤ r ∧ r < n ∧ w = w' := by
  have hz : (n == 0) = false := by simp; omega
  by_cases hc : c < 0
  · have e1 : wrap64 (c + 1) = c + 1 := by unfold wrap64; omega
    have e2 : wrap64 (-(c + 1)) = -(c + 1) := by unfold wrap64; omega
    have HC := Lib.hid hc
    have hd : decide (c < 0) = true := by simpa using hc
    clear hc
    go_enter Try.func17, Try.ntmps17
    go_wp2
    go_ret
    have := HC.out
    refine ⟨_, rfl, ?_, ?_, rfl⟩
    · rw [← Int.neg_tmod]; exact Int.tmod_nonneg _ (by omega)
    · rw [← Int.neg_tmod]; exact Int.tmod_lt_of_pos _ hn
  · have HC := Lib.hid hc
    have hd : decide (c < 0) = false := by simpa using hc
    clear hc
    go_enter Try.func17, Try.ntmps17
    go_wp2
    go_ret
    have := HC.out
    exact ⟨_, rfl, Int.tmod_nonneg _ (by omega), Int.tmod_lt_of_pos _ hn, rfl⟩

theorem made_lit (m : Nat) : madeCells #[.int .u8 0] m = ((List.replicate m (0 : Int)).map (Value.int .u8)).toArray := by
  apply Array.toList_inj.1
  apply List.ext_getElem
  · simp [madeCells]
  · intro i h1 h2
    simp [madeCells, Nat.mod_one]

theorem made_C (W : World) (m : Nat) (h : m ≤ 9223372036854775807) : Kd.C (Kd.int .u8) (W.alloc (.cells (madeCells #[.int .u8 0] m) 5)) (some ⟨W.heap.size, 0, none⟩) (List.replicate m (0 : Int)).length (List.replicate m (0 : Int)) := by
  rw [made_lit]
  exact lit_C W _ (by simpa using h)

set_option maxHeartbeats 1000000 in
theorem full_calls (n0 m0 : Int) (w : World) (hn1 : -9223372036854775808 ≤ n0) (hn2 : n0 ≤ 9223372036854775807) (hm1 : -9223372036854775808 ≤ m0) (hm2 : m0 ≤ 9223372036854775807) :
    Calls Try.prog 3 #[.int .i64 n0, .int .i64 m0] w fun e w' => e = .returned (.bool true) ∧ Below w.heap.size w w' := by
  go_enter Try.func3, Try.ntmps3
  go_wp2_with fail
  refine (up_calls _).mono ?_
  rintro e w1 ⟨rfl, hb⟩
  have HB := Lib.hid hb
  clear hb
  go_wp2_with fail
  refine (ts_New _).mono ?_
  rintro e w2 ⟨rfl, ht⟩
  have HT := Lib.hid ht
  clear ht
  go_wp2_with fail
  refine (pick_calls n0 20 _ hn1 hn2 (by omega) (by omega)).mono ?_
  rintro e w3 ⟨n, rfl, p1, p2, rfl⟩
  obtain ⟨n, rfl⟩ := Int.eq_ofNat_of_zero_le p1
  have hmk := print_make (P := Try.prog) 29 5 .u8 1 Try.underlying29 (by kernel_rfl) (by decide) (1048576 - n) (by omega)
  rw [show (((1048576 - n : Nat)) : Int) = 1048576 - (n : Int) from by omega] at hmk
  go_wp2_with fail
  refine (ts_Append w1 _ [] 0 (HT.out.alloc _) _ _ _ (List.replicate (1048576 - n) 0) (by simp) (made_C _ _ (by omega)) (by simp)).mono ?_
  rintro e w3 ⟨rfl, ht⟩
  have HT3 := Lib.hid ht
  have hlen : (([] : List Int) ++ List.replicate (1048576 - n) 0).length = 1048576 - n := by simp
  generalize ([] : List Int) ++ List.replicate (1048576 - n) 0 = l at hlen HT3
  have HL := Lib.hid hlen
  clear ht hmk hlen HT
  go_wp2_with fail
  refine (pick_calls m0 40 _ hm1 hm2 (by omega) (by omega)).mono ?_
  rintro e w3 ⟨m, rfl, q1, q2, rfl⟩
  obtain ⟨m, rfl⟩ := Int.eq_ofNat_of_zero_le q1
  have hmk := print_make (P := Try.prog) 29 5 .u8 1 Try.underlying29 (by kernel_rfl) (by decide) m (by omega)
  go_wp2_with fail
  clear hmk
  by_cases hmn : m ≤ n
  · have d0 : ¬ ((n : Int) < (m : Int)) := by omega
    refine (ts_Append w1 _ l 0 (HT3.out.alloc _) _ _ _ (List.replicate m 0) (by simp) (made_C _ _ (by omega)) (by have := HL.out; simp; omega)).mono ?_
    rintro e w4 ⟨rfl, ht⟩
    have HT4 := Lib.hid ht
    have hlen : (l ++ List.replicate m 0).length = 1048576 - n + m := by have := HL.out; simp; omega
    generalize l ++ List.replicate m 0 = l2 at hlen HT4
    have HL2 := Lib.hid hlen
    clear ht hlen HT3
    go_wp2_with fail
    refine (ts_Bytes w1 _ _ _ HT4.out).mono ?_
    rintro e w6 ⟨A, c, rfl, hr, ht, hb⟩
    have HT6 := Lib.hid ht
    have hl2 := HL2.out
    have e9 : ((l2.length : Int) == 1048576 - (n : Int) + (m : Int)) = true := by simp; omega
    clear hl2 hr ht hb HT4
    go_wp2
    go_ret
    exact ⟨rfl, (HB.out.trans (HT6.out.2.mono HB.out.size))⟩
  · have d0 : (n : Int) < (m : Int) := by omega
    refine (ts_Append_full w1 _ l 0 (HT3.out.alloc _) _ _ _ (by have := HL.out; omega) (by omega)).mono ?_
    rintro e w4 ⟨rfl, rfl⟩
    go_wp2_with fail
    refine (ts_Bytes w1 _ _ _ (HT3.out.alloc _)).mono ?_
    rintro e w6 ⟨A, c, rfl, hr, ht, hb⟩
    have HT6 := Lib.hid ht
    have hl2 := HL.out
    have e9 : ((l.length : Int) == 1048576 - (n : Int)) = true := by simp; omega
    clear hl2 hr ht hb HT3
    go_wp2
    go_ret
    exact ⟨rfl, (HB.out.trans (HT6.out.2.mono HB.out.size))⟩
end Go.Proofs.Ytnjikdaicogdgaa.Tape
