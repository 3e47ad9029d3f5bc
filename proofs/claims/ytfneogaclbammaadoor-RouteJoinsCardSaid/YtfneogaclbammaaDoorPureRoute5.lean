/-
  The pure statements of the layer route, fifth part: RoutePaths. Conditions: those of the given statements, none besides.
-/
import Derived.Test.YtfneogaclbammaaDoorPureRoute4
import Derived.Test.YtfneogaclbammaaDoorRox5
namespace Go.Proofs.YtfneogaclbammaaDoor.PureRoute
open Go.RowKit Go.Proofs.YtfneogaclbammaaDoor.Route Go.Proofs.YtfneogaclbammaaDoor.Ro Go.Proofs.YtfneogaclbammaaDoorW.PrintWords Go.Proofs.YtfneogaclbammaaDoorW.PrintLast Go.Proofs.YtfneogaclbammaaDoorW.PrintMore
set_option linter.unusedSimpArgs false
set_option linter.unusedVariables false
theorem same_f (l : List ByteArray) (hl : l.length ≤ 100000) (k : Nat) (hk : l.length + 1 ≤ k) : becketlaw02_same.f k l l = some true := by
  have : ∀ (m k i : Nat), m = l.length - i → i ≤ l.length → m + 1 ≤ k → becketlaw02_same.l0 k l l i = some true := by
    intro m
    induction m with
    | zero =>
      intro k i hm hi hk
      obtain ⟨k, rfl⟩ : ∃ k', k = k' + 1 := ⟨k - 1, by omega⟩
      unfold becketlaw02_same.l0
      rw [if_neg (by omega)]
    | succ m ih =>
      intro k i hm hi hk
      obtain ⟨k, rfl⟩ : ∃ k', k = k' + 1 := ⟨k - 1, by omega⟩
      unfold becketlaw02_same.l0
      rw [if_pos (by omega), if_pos (by omega), if_pos (by omega), if_pos rfl, wz' (z := (i : Int) + 1) (y := ((i + 1 : Nat) : Int)) (by omega) (by omega) (by omega)]
      exact ih k (i + 1) (by omega) (by omega) (by omega)
  unfold becketlaw02_same.f
  rw [if_pos rfl]
  exact this l.length k 0 (by omega) (by omega) hk
/-! ### what a path is under -/
/-- The text of joined pieces. -/
def textOf (l : List UInt8) : ByteArray := ⟨l.toArray⟩
theorem textOf_data (l : List UInt8) : (textOf l).data.toList = l := by simp [textOf]
theorem last_l0 (s : ByteArray) (hs : s.size ≤ 100000) : ∀ (m k : Nat), m ≤ s.size → m + 1 ≤ k → ∃ r, bytealg_LastIndexByteString.l0 k s 47 ((m : Int) - 1) = some r ∧
    ((r = -1 ∧ ∀ j, j < m → s.data.toList[j]? ≠ some 47) ∨ ∃ q : Nat, r = q ∧ q < m ∧ s.data.toList[q]? = some 47 ∧ ∀ j, q < j → j < m → s.data.toList[j]? ≠ some 47)
  | 0, k, hm, hk => by
    obtain ⟨k, rfl⟩ : ∃ k', k = k' + 1 := ⟨k - 1, by omega⟩
    refine ⟨-1, ?_, .inl ⟨rfl, fun j hj => absurd hj (Nat.not_lt_zero _)⟩⟩
    unfold bytealg_LastIndexByteString.l0
    rw [if_neg (by omega)]
  | m + 1, k, hm, hk => by
    obtain ⟨k, rfl⟩ : ∃ k', k = k' + 1 := ⟨k - 1, by omega⟩
    have e : ((m + 1 : Nat) : Int) - 1 = (m : Int) := by omega
    rw [e]
    unfold bytealg_LastIndexByteString.l0
    rw [if_pos (by omega), if_pos (by omega), if_pos (by omega)]
    by_cases h : bt s (m : Int) = 47
    · rw [if_pos h]
      exact ⟨m, rfl, .inr ⟨m, rfl, by omega, (bt_47 s m (by omega)).1 h, fun j h1 h2 => by omega⟩⟩
    · rw [if_neg h, wz' (z := (m : Int) - 1) (y := (m : Int) - 1) rfl (by omega) (by omega)]
      obtain ⟨r, h1, h2⟩ := last_l0 s hs m k (by omega) (by omega)
      refine ⟨r, h1, ?_⟩
      rcases h2 with ⟨h2, h3⟩ | ⟨q, h2, h3, h4, h5⟩
      · refine .inl ⟨h2, fun j hj => ?_⟩
        by_cases e : j = m
        · subst e; exact fun hh => h ((bt_47 s j (by omega)).2 hh)
        · exact h3 j (by omega)
      · refine .inr ⟨q, h2, by omega, h4, fun j hj1 hj2 => ?_⟩
        by_cases e : j = m
        · subst e; exact fun hh => h ((bt_47 s j (by omega)).2 hh)
        · exact h5 j hj1 (by omega)
def parentOf (s : ByteArray) : ByteArray := if pathOf s = true then textOf (jn (sp s.data.toList).dropLast) else ⟨#[]⟩
theorem parent_f (s : ByteArray) (k : Nat) (hs : s.size ≤ 100000) (hk : s.size + 2 ≤ k) : route_Parent.f k s = some (parentOf s) := by
  obtain ⟨r, h1, h2⟩ := last_l0 s hs s.size k (Nat.le_refl _) (by omega)
  unfold route_Parent.f strings_LastIndexByte.f bytealg_LastIndexByteString.f
  rw [wz' (z := (s.size : Int) - 1) (y := (s.size : Int) - 1) rfl (by omega) (by omega), h1, Option.bind_some, Option.bind_some]
  unfold parentOf
  rcases h2 with ⟨rfl, h3⟩ | ⟨q, rfl, h3, h4, h5⟩
  · rw [if_neg (by decide)]
    have hno : (47 : UInt8) ∉ s.data.toList := by
      intro hm
      obtain ⟨j, hj⟩ := List.mem_iff_getElem?.1 hm
      have hjl := (List.getElem?_eq_some_iff.1 hj).1
      rw [size_list] at hjl
      exact h3 j hjl hj
    rw [sp_whole _ hno]
    split <;> rfl
  · rw [if_pos (by omega)]
    have hlen := size_list s
    have hl : s.data.toList = s.data.toList.take q ++ 47 :: s.data.toList.drop (q + 1) := by
      have e : s.data.toList.drop q = s.data.toList[q] :: s.data.toList.drop (q + 1) := List.drop_eq_getElem_cons (by omega)
      have e2 : s.data.toList[q] = 47 := by
        rw [List.getElem?_eq_getElem (by omega)] at h4
        exact Option.some.inj h4
      rw [e2] at e
      rw [← e, List.take_append_drop]
    have hno : (47 : UInt8) ∉ s.data.toList.drop (q + 1) := by
      intro hm
      obtain ⟨j, hj⟩ := List.mem_iff_getElem?.1 hm
      rw [List.getElem?_drop] at hj
      have hjl := (List.getElem?_eq_some_iff.1 hj).1
      exact h5 (q + 1 + j) (by omega) (by omega) hj
    have hp : jn (sp s.data.toList).dropLast = s.data.toList.take q := by
      conv => lhs; rw [hl]
      exact parent_jn _ _ hno
    unfold route_Check.f
    rw [if_pos (by omega), Option.bind_some]
    cases pathOf s with
    | false => rfl
    | true =>
      rw [if_pos (by rfl), if_pos (by omega), if_pos (by omega), if_pos rfl, Int.toNat_natCast]
      congr 1
      apply ba_ext
      rw [extract_list, List.drop_zero, textOf_data, hp]
/-! ### RoutePaths -/
theorem jn_take_len (p : List (List UInt8)) (i : Nat) (hi : i < p.length) : (jn (p.take i)).length ≤ (jn p).length := by
  by_cases h0 : i = 0
  · subst h0; simp [jn]
  · have e : p = p.take i ++ p.drop i := (List.take_append_drop i p).symm
    have h1 : p.take i ≠ [] := fun h => by
      have := congrArg List.length h
      rw [List.length_take, List.length_nil] at this; omega
    have h2 : p.drop i ≠ [] := fun h => by
      have := congrArg List.length h
      rw [List.length_drop, List.length_nil] at this; omega
    conv => rhs; rw [e, jn_append _ _ h1 h2]
    rw [List.length_append]; omega
theorem jn_take_succ (p : List (List UInt8)) (i : Nat) (hi : i < p.length) (h0 : i ≠ 0) : jn (p.take (i + 1)) = jn (p.take i) ++ 47 :: p[i] := by
  have e : p.take (i + 1) = p.take i ++ [p[i]] := by simp
  have h1 : p.take i ≠ [] := fun h => by
    have := congrArg List.length h
    rw [List.length_take, List.length_nil] at this; omega
  rw [e, jn_append _ _ h1 (by simp)]
  rfl
theorem jn_take_one (p : List (List UInt8)) (hi : 0 < p.length) : jn (p.take 1) = p[0] := by
  have e : p.take 1 = [p[0]] := by
    cases p with
    | nil => simp at hi
    | cons x t => rfl
  rw [e]; rfl
theorem append_data (a b : ByteArray) : (a ++ b).data.toList = a.data.toList ++ b.data.toList := by simp
theorem empty_data : (⟨#[]⟩ : ByteArray).data.toList = [] := rfl
theorem paths_l0 (s : ByteArray) (hs : s.size ≤ 2000) : ∀ (m k i : Nat) (x : ByteArray), m = (pieces s).length - 1 - i → i ≤ (pieces s).length - 1 → x.data.toList = jn ((sp s.data.toList).take i) → m + 30000 ≤ k → pathOf s = true →
    becketlaw02_RoutePaths.l0 k s true none (pieces s) none (pieces s) x i = some true := by
  have hlp := pieces_len s
  have hcp := Lib.countB_le ⟨#[47]⟩ (Nat.le_refl _) s.size s (Nat.le_refl _)
  have hsl := sp_len s
  have hpd := pieces_data s
  have hjn := jn_sp s.data.toList
  have hsz := size_list s
  intro m
  induction m with
  | zero =>
    intro k i x hm hi hx hk hp
    obtain ⟨k, rfl⟩ : ∃ k', k = k' + 1 := ⟨k - 1, by omega⟩
    have hi' : i = (pieces s).length - 1 := by omega
    have hpo : parentOf s = x := by
      unfold parentOf
      rw [if_pos hp]
      apply ba_ext
      rw [textOf_data, hx, hi', ← hsl, List.dropLast_eq_take]
    unfold becketlaw02_RoutePaths.l0
    rw [wz' (z := ((pieces s).length : Int) - 1) (y := ((pieces s).length : Int) - 1) rfl (by omega) (by omega), if_neg (by omega), if_pos rfl, if_pos (by rfl), if_pos (by rfl), same_f _ (by omega) _ (by omega), Option.bind_some, if_pos rfl, parent_f s k (by omega) (by omega), Option.bind_some, hpo]
    simp
  | succ m ih =>
    intro k i x hm hi hx hk hp
    obtain ⟨k, rfl⟩ : ∃ k', k = k' + 1 := ⟨k - 1, by omega⟩
    have hlt : i < (pieces s).length := by omega
    have hlt2 : i < (sp s.data.toList).length := by omega
    have hpi : ((pieces s)[i]).data.toList = (sp s.data.toList)[i] := by
      have : (pieces s).map (·.data.toList) = sp s.data.toList := hpd
      simp only [← this, List.getElem_map]
    have hxs : x.size ≤ 2000 := by
      have h1 := jn_take_len (sp s.data.toList) i hlt2
      rw [hjn, ← hx, size_list, hsz] at h1
      omega
    have hps := pieces_size s (pieces s)[i] (List.getElem_mem _)
    unfold becketlaw02_RoutePaths.l0
    rw [wz' (z := ((pieces s).length : Int) - 1) (y := ((pieces s).length : Int) - 1) rfl (by omega) (by omega), if_pos (by omega), rdOf_get _ i hlt, wz' (z := (i : Int) + 1) (y := ((i + 1 : Nat) : Int)) (by omega) (by omega) (by omega)]
    by_cases h0 : i = 0
    · subst h0
      rw [if_neg (by omega), if_pos (by omega), if_pos (by omega), if_pos (by omega)]
      refine ih k 1 _ (by omega) (by omega) ?_ (by omega) hp
      rw [append_data, hx, hpi, jn_take_one _ hlt2]
      rfl
    · have hxs2 : (x ++ (⟨#[47]⟩ : ByteArray)).size = x.size + 1 := by simp; rfl
      rw [if_pos (by omega), if_pos (by omega), if_pos (by omega), if_pos (by omega), if_pos (by rw [hxs2]; omega)]
      refine ih k (i + 1) _ (by omega) (by omega) ?_ (by omega) hp
      rw [append_data, slash_data, hx, hpi, jn_take_succ _ i hlt2 h0]
      simp
theorem RoutePaths (s : ByteArray) : ∃ k, becketlaw02_RoutePaths.f k s = some true := by
  refine ⟨40000, ?_⟩
  unfold becketlaw02_RoutePaths.f
  rw [up_f, Option.bind_some]
  by_cases h1 : (s.size : Int) > 2000
  · rw [if_pos h1]
  rw [if_neg h1]
  have hs : s.size ≤ 2000 := by omega
  have hC : route_Check.f s = some (if pathOf s = true then none else some 2) := by unfold route_Check.f; rw [if_pos (by omega)]
  have hP : route_Parts.f s = some (if pathOf s = true then pieces s else [], if pathOf s = true then none else some 2) := by unfold route_Parts.f; rw [if_pos (by omega)]
  rw [hC, Option.bind_some, hP, Option.bind_some, path_f s _ (by omega) (by omega), Option.bind_some]
  cases hp : pathOf s with
  | true =>
    rw [if_pos rfl, split_f s _ (by omega) (by omega), Option.bind_some]
    have := paths_l0 s hs ((pieces s).length - 1) 40000 0 ⟨#[]⟩ (by omega) (by omega) rfl (by have := pieces_len s; have := Lib.countB_le ⟨#[47]⟩ (Nat.le_refl _) s.size s (Nat.le_refl _); omega) hp
    exact this
  | false =>
    simp only [Bool.false_eq_true, if_false, if_true, Option.isNone_some, Option.getD_some, List.length_nil]
    rw [parent_f s _ (by omega) (by omega), Option.bind_some]
    unfold parentOf
    rw [hp]
    simp [Go.ByteArray.toList_eq]
end Go.Proofs.YtfneogaclbammaaDoor.PureRoute
