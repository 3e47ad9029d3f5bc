/-
  The pure statements of the layer vote. Conditions: those of the given statements, none besides.
-/
import Derived.Test.YtbnhoacchibbnaaPureVote
import Derived.Test.YtbnhoacchibbnaaMoreC
import Derived.DataShut
namespace Go.Proofs.Ytbnhoacchibbnaa.PureVoteMore
open Go.RowKit Go.Proofs.Ytbnhoacchibbnaa.PureVote Go.Proofs.Ytbnhoacchibbnaa.Vo Go.Proofs.YtbnhoacchibbnaaW.PrintWords Go.Proofs.YtbnhoacchibbnaaW.PrintLast Go.Proofs.YtbnhoacchibbnaaW.PrintMore
set_option linter.unusedSimpArgs false
theorem whoL_append (what : ByteArray) : ∀ (l m : List S87) (acc : List Int), whoL what acc (l ++ m) = whoL what (whoL what acc l) m
  | [], m, acc => by simp [whoL]
  | v :: l, m, acc => by
    have e1 : ∀ (acc : List Int) (r : List S87), whoL what acc (v :: r) = if v.f1.toList = what.toList then (if acc.contains v.f0 = true then whoL what acc r else whoL what (acc ++ [v.f0]) r) else whoL what acc r := fun _ _ => rfl
    rw [List.cons_append, e1, e1]
    by_cases h1 : v.f1.toList = what.toList
    · rw [if_pos h1, if_pos h1]
      by_cases h2 : acc.contains v.f0 = true
      · rw [if_pos h2, if_pos h2]; exact whoL_append what l m acc
      · rw [if_neg h2, if_neg h2]; exact whoL_append what l m _
    · rw [if_neg h1, if_neg h1]; exact whoL_append what l m acc
theorem winL_more (need : Int) (v : S87) (l : List S87) (a : ByteArray) : ∀ (r : List S87) (i : Nat), i + r.length = l.length → winL need l r i = (a, true) → winL need (l ++ [v]) (r ++ [v]) i = (a, true)
  | [], i, hi, h => by simp [winL] at h
  | u :: r, i, hi, h => by
    rw [List.cons_append]
    unfold winL at h ⊢
    have hle : i + 1 ≤ l.length := by simp at hi; omega
    rw [List.take_append_of_le_length hle]
    split
    · next hc => rw [if_pos hc] at h; exact h
    · next hc =>
      rw [if_neg hc] at h
      exact winL_more need v l a r (i + 1) (by simp at hi; omega) h
theorem more_len (what : ByteArray) (v : S87) (acc : List Int) : (whoL what acc [v]).length = acc.length ∨ ((whoL what acc [v]).length = acc.length + 1 ∧ v.f1.toList = what.toList) := by
  have e1 : ∀ (acc : List Int) (r : List S87), whoL what acc (v :: r) = if v.f1.toList = what.toList then (if acc.contains v.f0 = true then whoL what acc r else whoL what (acc ++ [v.f0]) r) else whoL what acc r := fun _ _ => rfl
  have e0 : ∀ acc : List Int, whoL what acc [] = acc := fun _ => rfl
  rw [e1]
  by_cases h1 : v.f1.toList = what.toList
  · rw [if_pos h1]
    by_cases h2 : acc.contains v.f0 = true
    · rw [if_pos h2, e0]; exact .inl rfl
    · rw [if_neg h2, e0]; exact .inr ⟨by simp, h1⟩
  · rw [if_neg h1, e0]; exact .inl rfl
theorem more_arith {n m : Nat} (h : m = n ∨ m = n + 1) (hn : n ≤ 1000) : ((m : Int) ≥ (n : Int)) ∧ (m : Int) ≤ wrap64 ((n : Int) + 1) := by
  have : wrap64 ((n : Int) + 1) = (n : Int) + 1 := by unfold wrap64; omega
  rw [this]; omega
theorem VoteMore (l : List S87) (x0 : Int) (x1 : ByteArray) (what : ByteArray) (need : Int) : ∃ k, becketlaw11_VoteMore.f k l x0 x1 what need = some true := by
  refine ⟨1000, ?_⟩
  unfold becketlaw11_VoteMore.f
  rw [up_f _ (by omega), Option.bind_some]
  by_cases h : (l.length : Int) > 100
  · rw [if_pos h]
  have hl : l.length ≤ 100 := by omega
  have hl1 : (l ++ [(⟨x0, x1⟩ : S87)]).length = l.length + 1 := by simp
  rw [if_neg h, Option.bind_some, if_pos (by simp; omega), Option.bind_some, Option.bind_some, if_pos (by simp; omega), Option.bind_some, List.nil_append,
    winner_f need l 1000 (by omega) (by omega), Option.bind_some, winner_f need (l ++ [(⟨x0, x1⟩ : S87)]) 1000 (by omega) (by omega), Option.bind_some,
    count_f what l 1000 (by omega) (by omega), Option.bind_some, count_f what (l ++ [(⟨x0, x1⟩ : S87)]) 1000 (by omega) (by omega), Option.bind_some, if_pos rfl]
  have hb := (whoL_len what l []).2
  rw [List.length_nil] at hb
  have hm := more_len what (⟨x0, x1⟩ : S87) (whoL what [] l)
  rw [← whoL_append] at hm
  have hm' : (whoL what [] (l ++ [(⟨x0, x1⟩ : S87)])).length = (whoL what [] l).length ∨ (whoL what [] (l ++ [(⟨x0, x1⟩ : S87)])).length = (whoL what [] l).length + 1 := hm.imp id And.left
  obtain ⟨g1, g2⟩ := more_arith hm' (by omega)
  rw [if_pos g1, if_pos g2]
  have hend : (if x1.toList = what.toList then (some true) else (some (((whoL what [] (l ++ [(⟨x0, x1⟩ : S87)])).length : Int) == ((whoL what [] l).length : Int)))) = some true := by
    by_cases hx : x1.toList = what.toList
    · rw [if_pos hx]
    · rw [if_neg hx]
      rcases hm with hm | ⟨_, hm⟩
      · rw [hm]; simp
      · exact absurd hm hx
  by_cases hn : need < 1
  · rw [if_pos hn, if_pos hn]
    simp only [Bool.false_eq_true, if_false]
    exact hend
  · rw [if_neg hn, if_neg hn]
    cases hw : winL need l l 0 with
    | mk a b =>
      cases b with
      | false =>
        simp only [Bool.false_eq_true, if_false]
        exact hend
      | true =>
        have := winL_more need (⟨x0, x1⟩ : S87) l a l 0 (by simp) hw
        rw [this]
        simp only [if_true]
        exact hend
end Go.Proofs.Ytbnhoacchibbnaa.PureVoteMore
