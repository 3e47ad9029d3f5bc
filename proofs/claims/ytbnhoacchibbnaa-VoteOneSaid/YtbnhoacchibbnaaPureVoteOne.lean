/-
  The pure statements of the layer vote. Conditions: those of the given statements, none besides.
-/
import Derived.Test.YtbnhoacchibbnaaPureVote
import Derived.DataShut
namespace Go.Proofs.Ytbnhoacchibbnaa.PureVoteOne
open Go.RowKit Go.Proofs.Ytbnhoacchibbnaa.PureVote Go.Proofs.Ytbnhoacchibbnaa.Vo Go.Proofs.YtbnhoacchibbnaaW.PrintWords Go.Proofs.YtbnhoacchibbnaaW.PrintLast Go.Proofs.YtbnhoacchibbnaaW.PrintMore
set_option linter.unusedSimpArgs false
/-- The votes that VoteOne casts. -/
def dup : List ByteArray → Nat → List S87
  | [], _ => []
  | s :: r, i => ⟨(i : Int), s⟩ :: ⟨(i : Int), s⟩ :: dup r (i + 1)
theorem dup_len : ∀ (s : List ByteArray) (i : Nat), (dup s i).length = 2 * s.length
  | [], _ => rfl
  | x :: s, i => by
    unfold dup
    simp only [List.length_cons, dup_len s (i + 1)]
    omega
def says (a : ByteArray) (s : List ByteArray) : Nat := s.countP fun x => decide (x.toList = a.toList)
theorem dup_who (a : ByteArray) : ∀ (s : List ByteArray) (i : Nat) (acc : List Int), (∀ y ∈ acc, y < (i : Int)) → (whoL a acc (dup s i)).length = acc.length + says a s
  | [], i, acc, h => by simp [dup, whoL, says]
  | x :: s, i, acc, h => by
    unfold dup
    unfold whoL
    by_cases hx : x.toList = a.toList
    · have h1 : ¬ acc.contains (i : Int) = true := by
        intro hc
        have := h _ (by simpa using hc)
        omega
      rw [if_pos hx, if_neg h1]
      unfold whoL
      rw [if_pos hx, if_pos (by simp)]
      rw [dup_who a s (i + 1) (acc ++ [(i : Int)]) (fun y hy => by
        rcases List.mem_append.1 hy with hy | hy
        · have := h y hy; omega
        · have : y = (i : Int) := by simpa using hy
          omega)]
      simp [says, List.countP_cons, hx]
      omega
    · rw [if_neg hx]
      unfold whoL
      rw [if_neg hx, dup_who a s (i + 1) acc (fun y hy => by have := h y hy; omega)]
      simp [says, List.countP_cons, hx]
theorem says_two (a b : ByteArray) (hab : a.toList ≠ b.toList) : ∀ s : List ByteArray, says a s + says b s ≤ s.length
  | [] => by simp [says]
  | x :: s => by
    have := says_two a b hab s
    unfold says at this ⊢
    rw [List.countP_cons, List.countP_cons, List.length_cons]
    by_cases h1 : x.toList = a.toList
    · have h2 : ¬ x.toList = b.toList := fun h => hab (h1.symm.trans h)
      simp [h1, h2] at *
      have h3 : ¬ a.toList = b.toList := hab
      simp [h3]
      omega
    · by_cases h2 : x.toList = b.toList
      · simp [h1, h2]
        have h3 : ¬ b.toList = a.toList := fun h => hab h.symm
        simp [h3]
        omega
      · simp [h1, h2]
        omega

theorem one_arith {x y n : Nat} {f : Int} (h : x + y ≤ n) (hs : (n : Int) ≤ 3 * f + 1) (hf : 1 ≤ f) (h5 : (x : Int) ≥ 2 * f + 1) : ¬ ((y : Int) ≥ 2 * f + 1) := by omega
theorem one_sum {x y n : Nat} (h : x + y ≤ n) : (x : Int) + (y : Int) ≤ (n : Int) := by omega
theorem one_wrap {x y n : Nat} (h : x + y ≤ n) (hn : n ≤ 1000) : wrap64 ((x : Int) + (y : Int)) = (x : Int) + (y : Int) := by unfold wrap64; omega
set_option maxHeartbeats 400000 in
theorem one_l0 (f : Int) (hf1 : 1 ≤ f) (hf4 : f ≤ 4) (s : List ByteArray) (hs : (s.length : Int) ≤ 3 * f + 1) (a b : ByteArray) (hab : a.toList ≠ b.toList) : ∀ (m k i : Nat) (acc : List S87), m = s.length - i → i ≤ s.length → acc.length = 2 * i → acc ++ dup (s.drop i) i = dup s 0 → m + 60 ≤ k → becketlaw11_VoteOne.l0 k f s a b true acc (i : Int) = some true
  | 0, k, i, acc, hm, hi, hl, ha, hk => by
    obtain ⟨k, rfl⟩ : ∃ k', k = k' + 1 := ⟨k - 1, by omega⟩
    have : i = s.length := by omega
    subst this
    rw [List.drop_length] at ha
    have ha' : acc = dup s 0 := by simpa [dup] using ha
    subst ha'
    have hq : vote_Quorum.f f = some (2 * f + 1) := by
      unfold vote_Quorum.f
      rw [if_neg (by omega), if_neg (by omega)]
      have : wrap64 (2 * f) = 2 * f := by unfold wrap64; omega
      rw [this]
      have : wrap64 (2 * f + 1) = 2 * f + 1 := by unfold wrap64; omega
      rw [this]
    have h1 := dup_who a s 0 [] (by simp)
    have h2 := dup_who b s 0 [] (by simp)
    have h3 := says_two a b hab s
    have hc1 := count_f a (dup s 0) k (by omega) (by omega)
    have hc2 := count_f b (dup s 0) k (by omega) (by omega)
    rw [h1] at hc1
    rw [h2] at hc2
    simp only [List.length_nil, Nat.zero_add] at hc1 hc2
    have hs13 : s.length ≤ 1000 := by omega
    have hw := one_wrap h3 hs13
    have hsum := one_sum h3
    have h0 : ¬ ((s.length : Nat) : Int) < (s.length : Int) := Int.lt_irrefl _
    unfold becketlaw11_VoteOne.l0
    rw [if_neg h0, hq, Option.bind_some, if_pos rfl, hc1, Option.bind_some]
    by_cases h5 : (says a s : Int) ≥ 2 * f + 1
    · have h6 := one_arith h3 hs hf1 h5
      rw [if_pos h5, hc2, Option.bind_some, if_neg h6, Option.bind_some, Option.bind_some, hw]
      rw [decide_eq_true hsum]
    · rw [if_neg h5, Option.bind_some, hc2, Option.bind_some, hw]
      rw [decide_eq_true hsum]
  | m + 1, k, i, acc, hm, hi, hl, ha, hk => by
    obtain ⟨k, rfl⟩ : ∃ k', k = k' + 1 := ⟨k - 1, by omega⟩
    have hlt : i < s.length := by omega
    have hd : s.drop i = s[i] :: s.drop (i + 1) := List.drop_eq_getElem_cons hlt
    have hr : rdOf ByteArray.empty s (i : Int) = s[i] := by simp [rdOf, hlt]
    have hw : wrap64 ((i : Int) + 1) = ((i + 1 : Nat) : Int) := by unfold wrap64; omega
    unfold becketlaw11_VoteOne.l0
    rw [if_pos (by omega), if_pos (by omega), Option.bind_some, if_pos (by simp; omega), hr, hw]
    refine one_l0 f hf1 hf4 s hs a b hab m k (i + 1) _ (by omega) (by omega) (by simp; omega) ?_ (by omega)
    rw [← ha, hd]
    simp [dup]

theorem VoteOne (f : Int) (s : List ByteArray) (a b : ByteArray) : ∃ k, becketlaw11_VoteOne.f k f s a b = some true := by
  refine ⟨100 + 1, ?_⟩
  have hj : becketlaw11_VoteOne.j0 (100 + 1) f s a b true true = some true := by
    simp [becketlaw11_VoteOne.j0]
  unfold becketlaw11_VoteOne.f
  rw [up_f _ (by omega), Option.bind_some]
  by_cases h1 : f < 1
  · rw [if_pos h1, hj]
  rw [if_neg h1]
  by_cases h2 : f > 4
  · rw [if_pos h2, hj]
  rw [if_neg h2]
  have w1 : wrap64 (3 * f) = 3 * f := by unfold wrap64; omega
  have w2 : wrap64 (3 * f + 1) = 3 * f + 1 := by unfold wrap64; omega
  rw [w1, w2]
  by_cases h3 : (s.length : Int) > 3 * f + 1
  · rw [if_pos h3, hj]
  rw [if_neg h3]
  by_cases h4 : a.toList = b.toList
  · rw [show (a.toList == b.toList) = true from by simpa using h4, hj]
  · rw [show (a.toList == b.toList) = false from by simpa using h4]
    simp only [becketlaw11_VoteOne.j0, Bool.false_eq_true, if_false]
    exact one_l0 f (by omega) (by omega) s (by omega) a b h4 s.length 100 0 [] (by omega) (by omega) rfl (by simp) (by omega)
end Go.Proofs.Ytbnhoacchibbnaa.PureVoteOne
