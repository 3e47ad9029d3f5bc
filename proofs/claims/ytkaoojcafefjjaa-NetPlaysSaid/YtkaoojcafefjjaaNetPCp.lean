-- Cut by a program of this session (wip/shake.py) out of a text of this seat: what this claim doesn't reach is struck out. Lean checks it.
import Derived.Test.YtkaoojcafefjjaaPureMBCp
import Derived.Lib.Hide
import Derived.BigRegion
namespace Go.Proofs.Ytkaoojcafefjjaa.Net
open Go.RowKit Go.Proofs.Ytkaoojcafefjjaa.Ms Go.Proofs.YtkaoojcafefjjaaW.PrintWords Go.Proofs.YtkaoojcafefjjaaW.PrintLast Go.Proofs.YtkaoojcafefjjaaW.PrintMore
attribute [local go_sem] Go.Proofs.Ytkaoojcafefjjaa.Ms.eqlErr Go.Proofs.Ytkaoojcafefjjaa.Ms.neqErr Go.Proofs.Ytkaoojcafefjjaa.Ms.eqlErrNil Go.Proofs.Ytkaoojcafefjjaa.Ms.neqErrNil
set_option linter.unusedVariables false
set_option linter.unusedSimpArgs false
theorem rdF_get (xs : List S41) (i : Nat) (h : i < xs.length) : rd_T41 xs (i : Int) = xs[i] := by
  unfold rd_T41
  rw [Int.toNat_natCast, List.getD_eq_getElem?_getD, List.getElem?_eq_getElem h]
  rfl
theorem same_l0 (l : List S41) (hl : l.length ≤ 100000) : ∀ (q k i : Nat), q = l.length - i → i ≤ l.length → q + 1 ≤ k → becketref18_Same.l0 k l l i = some true
  | 0, k, i, hq, hi, hk => by
    obtain ⟨k, rfl⟩ : ∃ k', k = k' + 1 := ⟨k - 1, by omega⟩
    rw [becketref18_Same.l0, if_neg (by omega)]
  | q + 1, k, i, hq, hi, hk => by
    obtain ⟨k, rfl⟩ : ∃ k', k = k' + 1 := ⟨k - 1, by omega⟩
    rw [becketref18_Same.l0, if_pos (by omega), if_pos (by omega), if_pos (by omega), if_neg (by simp), MsgP.wz' (z := (i : Int) + 1) (y := ((i + 1 : Nat) : Int)) (by omega) (by omega) (by omega)]
    exact same_l0 l hl q k (i + 1) (by omega) (by omega) (by omega)
theorem same_f (l : List S41) (hl : l.length ≤ 100000) : becketref18_Same.f 100001 l l = some true := by
  unfold becketref18_Same.f
  rw [if_pos rfl]
  exact same_l0 l hl l.length _ 0 (by omega) (by omega) (by omega)
theorem without_l0 (l : List S41) (hl : l.length ≤ 100000) (i : Nat) : ∀ (q k j : Nat) (acc : List S41), q = l.length - j → j ≤ l.length → acc.length + q ≤ 100000 → q + 1 ≤ k → becketref18_Without.l0 k l i acc j = some (acc ++ (if j ≤ i then (l.drop j).eraseIdx (i - j) else l.drop j))
  | 0, k, j, acc, hq, hj, ha, hk => by
    obtain ⟨k, rfl⟩ : ∃ k', k = k' + 1 := ⟨k - 1, by omega⟩
    have : j = l.length := by omega
    subst this
    rw [becketref18_Without.l0, if_neg (by omega), List.drop_length]
    split <;> simp
  | q + 1, k, j, acc, hq, hj, ha, hk => by
    obtain ⟨k, rfl⟩ : ∃ k', k = k' + 1 := ⟨k - 1, by omega⟩
    have hlt : j < l.length := by omega
    have hd : l.drop j = l[j] :: l.drop (j + 1) := List.drop_eq_getElem_cons hlt
    rw [becketref18_Without.l0, if_pos (by omega), rdF_get l j hlt, MsgP.wz' (z := (j : Int) + 1) (y := ((j + 1 : Nat) : Int)) (by omega) (by omega) (by omega)]
    by_cases hi : j = i
    · subst hi
      rw [if_pos rfl, without_l0 l hl j q k (j + 1) acc (by omega) (by omega) (by omega) (by omega), if_neg (by omega), if_pos (Nat.le_refl _), Nat.sub_self, hd, List.eraseIdx_cons_zero]
    · rw [if_neg (by omega), if_pos (by omega), if_pos (by omega), without_l0 l hl i q k (j + 1) _ (by omega) (by omega) (by rw [List.length_append, List.length_singleton]; omega) (by omega)]
      congr 1
      rw [List.append_assoc]
      congr 1
      by_cases h2 : j ≤ i
      · obtain ⟨m, rfl⟩ : ∃ m, i = j + m + 1 := ⟨i - j - 1, by omega⟩
        rw [if_pos (by omega), if_pos h2, hd, show j + m + 1 - j = m + 1 from by omega, show j + m + 1 - (j + 1) = m from by omega, List.eraseIdx_cons_succ]
        rfl
      · rw [if_neg (by omega), if_neg h2, hd]
        rfl
theorem without_f (l : List S41) (hl : l.length ≤ 100000) (i : Nat) : becketref18_Without.f 100001 l i = some (l.eraseIdx i) := by
  unfold becketref18_Without.f
  have := without_l0 l hl i l.length 100001 0 [] (by omega) (by omega) (by simp; omega) (by omega)
  simpa using this
theorem pick_f (c : Int) (hc : -9223372036854775808 ≤ c ∧ c ≤ 9223372036854775807) (n : Nat) (hn : 0 < n) : ∃ r : Nat, r < n ∧ becketlaw18_pick.f c n = some (r : Int) := by
  unfold becketlaw18_pick.f
  have key : ∀ x : Int, 0 ≤ x → ∃ r : Nat, r < n ∧ some (Int.tmod x n) = some (r : Int) := fun x hx => by
    refine ⟨(Int.tmod x n).toNat, ?_, ?_⟩
    · have h1 := Int.tmod_lt_of_pos x (show (0 : Int) < n by omega)
      have h2 := Int.tmod_nonneg n hx
      omega
    · have h2 := Int.tmod_nonneg n hx
      rw [Int.toNat_of_nonneg h2]
  by_cases h : c < 0
  · rw [if_pos h, if_neg (by omega)]
    have e : wrap64 (-(wrap64 (c + 1))) = -(c + 1) := by unfold wrap64; omega
    rw [e]
    exact key _ (by omega)
  · rw [if_neg h, if_neg (by omega)]
    exact key _ (by omega)
end Go.Proofs.Ytkaoojcafefjjaa.Net
