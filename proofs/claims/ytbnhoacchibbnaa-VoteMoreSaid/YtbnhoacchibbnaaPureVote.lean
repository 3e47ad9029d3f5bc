/-
  The pure statements of the layer vote. Conditions: those of the given statements, none besides.
-/
import Derived.Test.YtbnhoacchibbnaaVox7
import Derived.DataShut
namespace Go.Proofs.Ytbnhoacchibbnaa.PureVote
open Go.RowKit Go.Proofs.Ytbnhoacchibbnaa.Vo Go.Proofs.YtbnhoacchibbnaaW.PrintWords Go.Proofs.YtbnhoacchibbnaaW.PrintLast Go.Proofs.YtbnhoacchibbnaaW.PrintMore
theorem index_l0 (acc : List Int) (x : Int) (hl : acc.length ≤ 100000) : ∀ (m k i : Nat), m = acc.length - i → i ≤ acc.length → m + 1 ≤ k → ∃ r, slices_Index_int_int.l0 k acc x (acc.length : Int) (i : Int) = some r ∧ decide (r ≥ 0) = (acc.drop i).contains x
  | 0, k, i, hm, hi, hk => by
    obtain ⟨k, rfl⟩ : ∃ k', k = k' + 1 := ⟨k - 1, by omega⟩
    have : i = acc.length := by omega
    subst this
    refine ⟨-1, ?_, by simp⟩
    unfold slices_Index_int_int.l0
    rw [if_neg (by omega)]
  | m + 1, k, i, hm, hi, hk => by
    obtain ⟨k, rfl⟩ : ∃ k', k = k' + 1 := ⟨k - 1, by omega⟩
    have hlt : i < acc.length := by omega
    have hd : acc.drop i = acc[i] :: acc.drop (i + 1) := List.drop_eq_getElem_cons hlt
    have hr : rd acc (i : Int) = acc[i] := by simp [rd, hlt]
    unfold slices_Index_int_int.l0
    rw [if_pos (by omega), if_pos (by omega), if_pos (by omega), hr]
    by_cases hx : x = acc[i]
    · rw [if_pos hx]
      refine ⟨_, rfl, ?_⟩
      rw [hd, List.contains_cons]
      have h1 : (x == acc[i]) = true := by simpa using hx
      rw [h1, Bool.true_or]
      simp
    · rw [if_neg hx]
      have hw : wrap64 ((i : Int) + 1) = ((i + 1 : Nat) : Int) := by unfold wrap64; omega
      rw [hw]
      obtain ⟨r, h1, h2⟩ := index_l0 acc x hl m k (i + 1) (by omega) (by omega) (by omega)
      refine ⟨r, h1, ?_⟩
      rw [h2, hd, List.contains_cons]
      have h3 : (x == acc[i]) = false := by simpa using hx
      rw [h3, Bool.false_or]

theorem contains_f (acc : List Int) (x : Int) (k : Nat) (hl : acc.length ≤ 100000) (hk : acc.length + 1 ≤ k) : slices_Contains_int_int.f k acc x = some (acc.contains x) := by
  obtain ⟨r, h1, h2⟩ := index_l0 acc x hl acc.length k 0 (by omega) (by omega) (by omega)
  unfold slices_Contains_int_int.f slices_Index_int_int.f
  rw [show ((0 : Nat) : Int) = 0 from rfl] at h1
  rw [h1, Option.bind_some, h2, List.drop_zero]

/-- Who say it, in the order of their first vote. -/
def whoL (what : ByteArray) : List Int → List S87 → List Int
  | acc, [] => acc
  | acc, v :: l => if v.f1.toList = what.toList then (if acc.contains v.f0 = true then whoL what acc l else whoL what (acc ++ [v.f0]) l) else whoL what acc l

theorem whoL_len (what : ByteArray) : ∀ (l : List S87) (acc : List Int), acc.length ≤ (whoL what acc l).length ∧ (whoL what acc l).length ≤ acc.length + l.length
  | [], acc => by simp [whoL]
  | v :: l, acc => by
    unfold whoL
    have h1 := whoL_len what l acc
    have h2 := whoL_len what l (acc ++ [v.f0])
    rw [List.length_append, List.length_singleton] at h2
    rw [List.length_cons]
    split
    · split <;> omega
    · omega

def srt (l : List Int) : List Int := l.mergeSort fun x y => decide (x ≤ y)

theorem who_l0 (what : ByteArray) (l : List S87) (hl : l.length ≤ 10000) : ∀ (m k i : Nat) (acc : List Int), m = l.length - i → i ≤ l.length → acc.length ≤ i → 2 * m + acc.length + 3 ≤ k → vote_Who.l0 k what acc l (l.length : Int) (i : Int) = some (srt (whoL what acc (l.drop i)))
  | 0, k, i, acc, hm, hi, ha, hk => by
    obtain ⟨k, rfl⟩ : ∃ k', k = k' + 1 := ⟨k - 1, by omega⟩
    have : i = l.length := by omega
    subst this
    unfold vote_Who.l0
    rw [if_neg (by omega), List.drop_length]
    unfold slices_Sort_int_int.f
    rw [if_pos (by omega)]
    rfl
  | m + 1, k, i, acc, hm, hi, ha, hk => by
    obtain ⟨k, rfl⟩ : ∃ k', k = k' + 1 := ⟨k - 1, by omega⟩
    have hlt : i < l.length := by omega
    have hd : l.drop i = l[i] :: l.drop (i + 1) := List.drop_eq_getElem_cons hlt
    have hr : rd_T87 l (i : Int) = l[i] := by simp [rd_T87, hlt]
    have hw : wrap64 ((i : Int) + 1) = ((i + 1 : Nat) : Int) := by unfold wrap64; omega
    unfold vote_Who.l0
    rw [if_pos (by omega), if_pos (by omega), if_pos (by omega), hr, hw, hd]
    unfold whoL
    have h1 := who_l0 what l hl m k (i + 1) acc (by omega) (by omega) (by omega) (by omega)
    have h2 := who_l0 what l hl m k (i + 1) (acc ++ [l[i].f0]) (by omega) (by omega) (by simp; omega) (by simp; omega)
    by_cases hx : l[i].f1.toList = what.toList
    · rw [if_pos hx, if_pos hx, contains_f acc _ k (by omega) (by omega), Option.bind_some]
      by_cases hc : acc.contains l[i].f0 = true
      · rw [if_pos hc, if_pos hc, h1]
      · rw [if_neg hc, if_neg hc, if_pos (by omega), h2]
    · rw [if_neg hx, if_neg hx, h1]

theorem who_f (what : ByteArray) (l : List S87) (k : Nat) (hl : l.length ≤ 10000) (hk : 2 * l.length + 3 ≤ k) : vote_Who.f k l what = some (srt (whoL what [] l)) := by
  have := who_l0 what l hl l.length k 0 [] (by omega) (by omega) (by simp) (by simpa using hk)
  rw [List.drop_zero] at this
  exact this

theorem count_f (what : ByteArray) (l : List S87) (k : Nat) (hl : l.length ≤ 10000) (hk : 2 * l.length + 3 ≤ k) : vote_Count.f k l what = some ((whoL what [] l).length : Int) := by
  unfold vote_Count.f
  rw [who_f what l k hl hk, Option.bind_some]
  simp [srt, List.length_mergeSort]

/-- The first vote with which enough say the same. -/
def winL (need : Int) (l : List S87) : List S87 → Nat → ByteArray × Bool
  | [], _ => (⟨#[]⟩, false)
  | v :: r, i => if ((whoL v.f1 [] (l.take (i + 1))).length : Int) ≥ need then (v.f1, true) else winL need l r (i + 1)

theorem win_l0 (need : Int) (l : List S87) (hl : l.length ≤ 10000) : ∀ (m k i : Nat), m = l.length - i → i ≤ l.length → m + 2 * l.length + 4 ≤ k → vote_Winner.l0 k l need l (l.length : Int) (i : Int) = some (winL need l (l.drop i) i)
  | 0, k, i, hm, hi, hk => by
    obtain ⟨k, rfl⟩ : ∃ k', k = k' + 1 := ⟨k - 1, by omega⟩
    have : i = l.length := by omega
    subst this
    unfold vote_Winner.l0
    rw [if_neg (by omega), List.drop_length]
    rfl
  | m + 1, k, i, hm, hi, hk => by
    obtain ⟨k, rfl⟩ : ∃ k', k = k' + 1 := ⟨k - 1, by omega⟩
    have hlt : i < l.length := by omega
    have hd : l.drop i = l[i] :: l.drop (i + 1) := List.drop_eq_getElem_cons hlt
    have hr : rd_T87 l (i : Int) = l[i] := by simp [rd_T87, hlt]
    have hw : wrap64 ((i : Int) + 1) = ((i + 1 : Nat) : Int) := by unfold wrap64; omega
    have h1 := win_l0 need l hl m k (i + 1) (by omega) (by omega) (by omega)
    have ht : (l.take (i + 1)).length = i + 1 := by rw [List.length_take]; omega
    unfold vote_Winner.l0
    rw [hw, Int.toNat_natCast, hr, if_pos (by omega), if_pos (by omega), if_pos (by omega), if_pos (by omega), if_pos (by omega), count_f _ _ k (by omega) (by omega), Option.bind_some, hd]
    unfold winL
    by_cases hx : ((whoL l[i].f1 [] (l.take (i + 1))).length : Int) ≥ need
    · rw [if_pos hx, if_pos hx]
    · rw [if_neg hx, if_neg hx, h1]

theorem winner_f (need : Int) (l : List S87) (k : Nat) (hl : l.length ≤ 10000) (hk : 3 * l.length + 4 ≤ k) : vote_Winner.f k l need = some (if need < 1 then (⟨#[]⟩, false) else winL need l l 0) := by
  unfold vote_Winner.f
  by_cases hn : need < 1
  · rw [if_pos hn, if_pos hn]
  · rw [if_neg hn, if_neg hn]
    have := win_l0 need l hl l.length k 0 (by omega) (by omega) (by omega)
    rw [List.drop_zero] at this
    exact this

theorem up_f (k : Nat) (hk : 20 ≤ k) : becketlaw11_up.f k = some true := by
  unfold becketlaw11_up.f
  rw [Option.bind_some, winner_f _ _ k (by simp) (by simp; omega), Option.bind_some, count_f _ _ k (by simp) (by simp; omega), Option.bind_some]
  simp [whoL, winL, vote_Quorum.f, Go.ByteArray.toList_eq, wrap64]

theorem VoteQuorums : becketlaw11_VoteQuorums.Pure := by
  intro f n hf hn
  have bf := (Lit.wf_int_iff .i64 f).1 hf
  have bn := (Lit.wf_int_iff .i64 n).1 hn
  have b1 : -9223372036854775808 ≤ n ∧ n ≤ 9223372036854775807 := bn
  refine ⟨20 + 1 + 1, ?_⟩
  have hj : ∀ k : Nat, becketlaw11_VoteQuorums.j1 (k + 1) f n true (if 0 ≤ f ∧ f ≤ 4 then 2 * f + 1 else 0) = some true := by
    intro k
    simp only [becketlaw11_VoteQuorums.j1]
    have hq : vote_Quorum.f f = some (if 0 ≤ f ∧ f ≤ 4 then 2 * f + 1 else 0) := by
      unfold vote_Quorum.f
      by_cases h1 : f < 0
      · rw [if_pos h1, if_neg (by omega)]
      · rw [if_neg h1]
        by_cases h2 : f > 4
        · rw [if_pos h2, if_neg (by omega)]
        · rw [if_neg h2, if_pos (by omega)]
          have : wrap64 (2 * f) = 2 * f := by unfold wrap64; omega
          rw [this]
          have : wrap64 (2 * f + 1) = 2 * f + 1 := by unfold wrap64; omega
          rw [this]
    rw [hq, Option.bind_some, if_pos rfl]
    unfold vote_Faults.f
    by_cases h1 : n < 1
    · simp [h1]
    · have w1 : wrap64 (n - 1) = n - 1 := by unfold wrap64; omega
      obtain ⟨m, hm⟩ : ∃ m : Nat, n - 1 = m := ⟨(n - 1).toNat, by omega⟩
      have ht : Int.tdiv (m : Int) 3 = ((m / 3 : Nat) : Int) := rfl
      have hmb : m ≤ 9223372036854775806 := by omega
      rw [if_neg h1, w1, hm, ht]
      have w2 : wrap64 ((m / 3 : Nat) : Int) = ((m / 3 : Nat) : Int) := by unfold wrap64; omega
      rw [w2, Option.bind_some, if_neg h1, if_pos trivial, if_pos (by omega), if_pos (Int.le_refl _)]
      have w3 : wrap64 (3 * ((m / 3 : Nat) : Int)) = 3 * ((m / 3 : Nat) : Int) := by unfold wrap64; omega
      rw [w3]
      have w4 : wrap64 ((m : Int) - 3 * ((m / 3 : Nat) : Int)) = (m : Int) - 3 * ((m / 3 : Nat) : Int) := by unfold wrap64; omega
      rw [w4]
      simp only [Option.some.injEq, decide_eq_true_eq]
      omega
  unfold becketlaw11_VoteQuorums.f
  rw [up_f _ (by omega), Option.bind_some]
  have hj0 : ∀ b : Bool, (if b = true then wrap64 (wrap64 (2 * f) + 1) else 0) = (if 0 ≤ f ∧ f ≤ 4 then 2 * f + 1 else 0) → becketlaw11_VoteQuorums.j0 (20 + 1 + 1) f n true 0 b = some true := by
    intro b hb
    simp only [becketlaw11_VoteQuorums.j0]
    cases b with
    | true => simp only [if_true] at hb ⊢; rw [hb]; exact hj 20
    | false => simp only [Bool.false_eq_true, if_false] at hb ⊢; rw [hb]; exact hj 20
  by_cases h1 : f ≥ 0
  · rw [if_pos h1]
    apply hj0
    by_cases h2 : f ≤ 4
    · have : wrap64 (2 * f) = 2 * f := by unfold wrap64; omega
      rw [this]
      have : wrap64 (2 * f + 1) = 2 * f + 1 := by unfold wrap64; omega
      rw [this, if_pos (by simpa using h2), if_pos (by omega)]
    · rw [if_neg (by simpa using h2), if_neg (by omega)]
  · rw [if_neg h1]
    apply hj0
    rw [if_neg (by simp), if_neg (by omega)]
end Go.Proofs.Ytbnhoacchibbnaa.PureVote
