/-
  The pure statements of the layer route, sixth part: RouteJoins, RouteBack. Conditions: those of the given statements, none besides.
-/
import Derived.Test.YtfneogaclbammaaDoorPureRoute5
import Derived.Test.YtfneogaclbammaaDoorRox6
import Derived.Test.YtfneogaclbammaaDoorRox7
namespace Go.Proofs.YtfneogaclbammaaDoor.PureRoute
open Go.RowKit Go.Proofs.YtfneogaclbammaaDoor.Route Go.Proofs.YtfneogaclbammaaDoor.Ro Go.Proofs.YtfneogaclbammaaDoorW.PrintWords Go.Proofs.YtfneogaclbammaaDoorW.PrintLast Go.Proofs.YtfneogaclbammaaDoorW.PrintMore
set_option linter.unusedSimpArgs false
set_option linter.unusedVariables false
/-! ### RouteJoins -/
theorem lib_join : ∀ (xs : List (List UInt8)), Lib.join xs [47] = jn xs
  | [] => rfl
  | [x] => Lib.join_one x [47]
  | x :: y :: t => by
    have ih := lib_join (y :: t)
    rw [jn_cons x (by simp), ← ih]
    simp [Lib.join, List.intercalate]
theorem join_data (l : List ByteArray) : (joinOf l).data.toList = jn (l.map (·.data.toList)) := by
  unfold joinOf
  rw [lib_join]
theorem join_f (l : List ByteArray) (hs : ∀ x ∈ l, x.size ≤ 10000) (hl : l.length ≤ 100000) (hj : (jn (l.map (·.data.toList))).length ≤ 1000000) : route_Join.f l = some (if partsOk l = true then joinOf l else ⟨#[]⟩, if partsOk l = true then none else some 2) := by
  unfold route_Join.f
  rw [if_pos ⟨List.all_eq_true.2 fun x hx => decide_eq_true (by have := hs x hx; omega), by rw [lib_join]; omega, by omega⟩]
theorem joins_l0 (l : List ByteArray) (hl : l.length ≤ 20) : ∀ (m k i : Nat) (x : ByteArray), m = l.length - i → i ≤ l.length → x.data.toList = jn ((l.map (·.data.toList)).take i) → x.size ≤ i * 1001 → (∀ j (h : j < l.length), j < i → (l[j]).size ≤ 1000) → m + 30000 ≤ k →
    becketlaw02_RouteJoins.l0 k l true x i = some true := by
  intro m
  induction m with
  | zero =>
    intro k i x hm hi hx hxs hsz hk
    obtain ⟨k, rfl⟩ : ∃ k', k = k' + 1 := ⟨k - 1, by omega⟩
    have hi' : i = l.length := by omega
    subst hi'
    have hx' : x.data.toList = jn (l.map (·.data.toList)) := by rw [hx, List.take_of_length_le (by rw [List.length_map]; exact Nat.le_refl _)]
    have hall : ∀ y ∈ l, y.size ≤ 10000 := fun y hy => by
      obtain ⟨j, hj, e⟩ := List.mem_iff_getElem.1 hy
      have := hsz j hj hj
      rw [e] at this
      omega
    have hjl : (jn (l.map (·.data.toList))).length ≤ 1000000 := by
      rw [← hx', size_list]; omega
    have hjd : joinOf l = x := ba_ext (by rw [join_data, hx'])
    unfold becketlaw02_RouteJoins.l0
    rw [if_neg (by omega), Option.bind_some, if_pos (by simp; omega), Option.bind_some, List.nil_append, join_f l hall (by omega) hjl, Option.bind_some, same_f l (by omega) k (by omega), Option.bind_some, if_pos rfl, parts_f l k (by omega) hall (by omega), Option.bind_some]
    cases partsOk l with
    | true => simp [hjd]
    | false => simp [Go.ByteArray.toList_eq]
  | succ m ih =>
    intro k i x hm hi hx hxs hsz hk
    obtain ⟨k, rfl⟩ : ∃ k', k = k' + 1 := ⟨k - 1, by omega⟩
    have hlt : i < l.length := by omega
    have hlt2 : i < (l.map (·.data.toList)).length := by rw [List.length_map]; exact hlt
    have hpi : (l.map (·.data.toList))[i] = (l[i]).data.toList := by rw [List.getElem_map]
    have hx20 : x.size ≤ 20020 := by omega
    unfold becketlaw02_RouteJoins.l0
    rw [if_pos (by omega), if_pos (by omega), rdOf_get l i hlt, wz' (z := (i : Int) + 1) (y := ((i + 1 : Nat) : Int)) (by omega) (by omega) (by omega)]
    by_cases h1 : ((l[i]).size : Int) > 1000
    · rw [if_pos h1]
    rw [if_neg h1]
    have hsz' : ∀ j (h : j < l.length), j < i + 1 → (l[j]).size ≤ 1000 := fun j h hj => by
      by_cases e : j = i
      · subst e; omega
      · exact hsz j h (by omega)
    by_cases h0 : i = 0
    · subst h0
      rw [if_neg (by omega), if_pos (by omega)]
      refine ih k 1 _ (by omega) (by omega) ?_ ?_ hsz' (by omega)
      · rw [append_data, hx, jn_take_one _ hlt2, hpi]; rfl
      · rw [ByteArray.size_append]; omega
    · have hxs2 : (x ++ (⟨#[47]⟩ : ByteArray)).size = x.size + 1 := by rw [ByteArray.size_append]; rfl
      rw [if_pos (by omega), if_pos (by omega), if_pos (by rw [hxs2]; omega)]
      refine ih k (i + 1) _ (by omega) (by omega) ?_ ?_ hsz' (by omega)
      · rw [append_data, slash_data, hx, jn_take_succ _ i hlt2 h0, hpi]; simp
      · rw [ByteArray.size_append, hxs2]; omega
theorem RouteJoins (l : List ByteArray) : ∃ k, becketlaw02_RouteJoins.f k l = some true := by
  refine ⟨40000, ?_⟩
  unfold becketlaw02_RouteJoins.f
  rw [up_f, Option.bind_some]
  by_cases h1 : (l.length : Int) > 20
  · rw [if_pos h1]
  rw [if_neg h1]
  exact joins_l0 l (by omega) l.length 40000 0 ⟨#[]⟩ (by omega) (by omega) (by rw [List.take_zero]; rfl) (by decide) (fun j h hj => absurd hj (Nat.not_lt_zero _)) (by omega)
/-! ### RouteBack -/
theorem under_trans (a b c : ByteArray) (h1 : underOf a b = true) (h2 : underOf b c = true) : underOf a c = true := by
  unfold underOf at *
  simp only [Bool.and_eq_true, decide_eq_true_eq] at *
  exact ⟨⟨h1.1.1, h2.1.2⟩, h1.2.trans ((List.prefix_append _ _).trans h2.2)⟩
theorem under_anti (a b : ByteArray) (h1 : underOf a b = true) : underOf b a = false := by
  unfold underOf at *
  simp only [Bool.and_eq_true, decide_eq_true_eq] at h1
  have h3 := h1.2.length_le
  rw [decide_eq_false, Bool.and_false]
  intro h
  have h4 := h.length_le
  rw [List.length_append] at h3 h4
  simp at h3 h4
  omega
theorem under_irr (a : ByteArray) : underOf a a = false := by
  cases h : underOf a a with
  | false => rfl
  | true => have e := under_anti a a h; rw [h] at e; exact e
theorem part_ne (x : ByteArray) (h : partOf x = true) : x.data.toList ≠ [] := by
  intro e
  have hs : x.size = 0 := by rw [← size_list, e]; rfl
  unfold partOf at h
  rw [hs] at h
  simp [runesFrom] at h
theorem parent_two (a : ByteArray) (hp : pathOf a = true) (h2 : 2 ≤ (pieces a).length) : (parentOf a).toList ≠ [] ∧ underOf (parentOf a) a = true ∧ (parentOf a).size ≤ a.size := by
  have hpd := pieces_data a
  have hsl := sp_len a
  have hpo : parentOf a = textOf (jn (sp a.data.toList).dropLast) := by unfold parentOf; rw [if_pos hp]
  have hpp := hp
  rw [pathOf_parts] at hpp
  unfold partsOk at hpp
  simp only [Bool.and_eq_true, decide_eq_true_eq] at hpp
  obtain ⟨⟨g1, g2⟩, g3⟩ := hpp
  have hdl : ((pieces a).dropLast).map (·.data.toList) = (sp a.data.toList).dropLast := by rw [← hpd, List.map_dropLast]
  have hne : (sp a.data.toList).dropLast ≠ [] := fun h => by
    have := congrArg List.length h
    rw [List.length_dropLast, hsl, List.length_nil] at this
    omega
  have hpp : pieces (parentOf a) = (pieces a).dropLast := by
    apply map_data_inj
    rw [pieces_data, hdl, hpo, textOf_data]
    exact sp_jn _ hne (fun x hx => sp_no47 _ x ((List.dropLast_subset _) hx))
  have hpath : pathOf (parentOf a) = true := by
    rw [pathOf_parts, hpp]
    unfold partsOk
    rw [List.length_dropLast, decide_eq_true (by omega), decide_eq_true (by omega), List.all_eq_true.2 (fun x hx => List.all_eq_true.1 g3 x ((List.dropLast_subset _) hx))]
    rfl
  have hlast : a.data.toList = jn (sp a.data.toList).dropLast ++ 47 :: (sp a.data.toList).getLast (sp_ne _) := by
    have e := List.dropLast_concat_getLast (sp_ne a.data.toList)
    conv => lhs; rw [← jn_sp a.data.toList, ← e]
    rw [jn_append _ _ hne (by simp)]
    rfl
  have hpre : ((parentOf a).data.toList ++ [47]) <+: a.data.toList := by
    rw [hpo, textOf_data]
    refine ⟨(sp a.data.toList).getLast (sp_ne _), ?_⟩
    conv => rhs; rw [hlast]
    simp
  refine ⟨?_, ?_, ?_⟩
  · rw [Go.ByteArray.toList_eq, hpo, textOf_data]
    intro h
    cases hd : (pieces a).dropLast with
    | nil =>
      have := congrArg List.length hd
      rw [List.length_dropLast, List.length_nil] at this
      omega
    | cons x t =>
      have hx : partOf x = true := List.all_eq_true.1 g3 x ((List.dropLast_subset _) (by rw [hd]; simp))
      rw [← hdl, hd, List.map_cons] at h
      by_cases ht : t.map (·.data.toList) = []
      · rw [ht] at h
        exact part_ne x hx h
      · rw [jn_cons _ ht] at h
        simp at h
  · unfold underOf
    rw [hpath, hp, decide_eq_true hpre]; rfl
  · have := hpre.length_le
    rw [List.length_append, size_list, size_list] at this
    omega
theorem parent_one (a : ByteArray) (hp : pathOf a = true) (h1 : (pieces a).length = 1) : (parentOf a).toList = [] := by
  unfold parentOf
  rw [if_pos hp, Go.ByteArray.toList_eq, textOf_data]
  have hsl := sp_len a
  rw [h1] at hsl
  cases hs : sp a.data.toList with
  | nil => exact absurd hs (sp_ne _)
  | cons x t =>
    rw [hs] at hsl
    have : t = [] := List.eq_nil_of_length_eq_zero (by simpa using hsl)
    subst this
    rfl
theorem back_end (a b : ByteArray) (ha : a.size ≤ 2000) (hb : b.size ≤ 2000) (k : Nat) : becketlaw02_RouteBack.j3 (k + 1) a b true false = some true ∧ becketlaw02_RouteBack.j4 (k + 1) a b true false = some true := by
  simp only [becketlaw02_RouteBack.j3, becketlaw02_RouteBack.j4, Bool.false_eq_true, if_false, if_true]
  rw [under_go a b (by omega) (by omega), under_go b a (by omega) (by omega), under_go a a (by omega) (by omega), Option.bind_some, under_irr]
  cases h : underOf a b with
  | true => rw [under_anti a b h]; simp
  | false => simp
theorem back_mid (a b c : ByteArray) (ha : a.size ≤ 2000) (hb : b.size ≤ 2000) (hc : c.size ≤ 2000) (k : Nat) : becketlaw02_RouteBack.j2 (k + 1 + 1) a b c true = some true := by
  simp only [becketlaw02_RouteBack.j2]
  rw [under_go a b (by omega) (by omega), under_go b c (by omega) (by omega), under_go a c (by omega) (by omega), Option.bind_some, Option.bind_some, Option.bind_some]
  have h3 := (back_end a b ha hb k).1
  cases h : underOf a b with
  | false => simp [h3]
  | true =>
    cases h2 : underOf b c with
    | false => simp [h3]
    | true => rw [under_trans a b c h h2]; simp [h3]
theorem RouteBack (a b c : ByteArray) : ∃ k, becketlaw02_RouteBack.f k a b c = some true := by
  refine ⟨40000 + 1 + 1 + 1 + 1, ?_⟩
  unfold becketlaw02_RouteBack.f
  rw [up_f, Option.bind_some]
  by_cases h1 : (a.size : Int) > 2000
  · rw [if_pos h1]; simp [becketlaw02_RouteBack.j0]
  rw [if_neg h1]
  by_cases h2 : (b.size : Int) > 2000
  · rw [if_pos h2]; simp [becketlaw02_RouteBack.j0]
  rw [if_neg h2]
  by_cases h3 : (c.size : Int) > 2000
  · rw [decide_eq_true h3]; simp [becketlaw02_RouteBack.j0]
  rw [decide_eq_false h3]
  have ha : a.size ≤ 2000 := by omega
  have hb : b.size ≤ 2000 := by omega
  have hc : c.size ≤ 2000 := by omega
  have hP : route_Parts.f a = some (if pathOf a = true then pieces a else [], if pathOf a = true then none else some 2) := by unfold route_Parts.f; rw [if_pos (by omega)]
  simp only [becketlaw02_RouteBack.j0, Bool.false_eq_true, if_false]
  rw [hP, Option.bind_some]
  cases hp : pathOf a with
  | false =>
    simp only [Bool.false_eq_true, if_false, Option.isNone_some]
    rw [under_go a b (by omega) (by omega), under_go b c (by omega) (by omega), under_go a c (by omega) (by omega), Option.bind_some, Option.bind_some, Option.bind_some]
    have h3 := (back_end a b ha hb (40000 + 1 + 1)).2
    cases h : underOf a b with
    | false => simp only [Bool.false_eq_true, if_false]; exact h3
    | true =>
      cases h2 : underOf b c with
      | false => simp only [Bool.false_eq_true, if_false, if_true]; exact h3
      | true => rw [under_trans a b c h h2]; simp only [if_true, Bool.not_true]; exact h3
  | true =>
    have hl := pieces_len a
    have hcl := Lib.countB_le ⟨#[47]⟩ (Nat.le_refl _) a.size a (Nat.le_refl _)
    have hjd : jn ((pieces a).map (·.data.toList)) = a.data.toList := by rw [pieces_data, jn_sp]
    have hJ := join_f (pieces a) (fun x hx => by have := pieces_size a x hx; omega) (by omega) (by rw [hjd, size_list]; omega)
    have hok : partsOk (pieces a) = true := by rw [← pathOf_parts]; exact hp
    have hja : joinOf (pieces a) = a := ba_ext (by rw [join_data, hjd])
    rw [hok, if_pos rfl, if_pos rfl, hja] at hJ
    simp only [if_true, Option.isNone_none]
    rw [hJ, Option.bind_some]
    simp only [if_true, Option.isNone_none, bne_self_eq_false]
    simp only [becketlaw02_RouteBack.j1, Bool.false_eq_true, if_false]
    rw [parent_f a _ (by omega) (by omega), Option.bind_some]
    have hmid := back_mid a b c ha hb hc 40000
    by_cases hone : (pieces a).length = 1
    · have hpe := parent_one a hp hone
      rw [hpe, hone]
      simp only [if_true]
      rw [if_neg (by decide)]
      exact hmid
    · have := pieces_pos a
      obtain ⟨q1, q2, q3⟩ := parent_two a hp (by omega)
      have e1 : ((parentOf a).toList == ([] : List UInt8)) = false := beq_eq_false_iff_ne.2 q1
      have e2 : (((pieces a).length : Int) == 1) = false := beq_eq_false_iff_ne.2 (by omega)
      rw [e1, e2, if_neg (by decide), if_neg q1, under_go _ _ (by omega) (by omega), Option.bind_some, q2, if_pos rfl]
      exact hmid
end Go.Proofs.YtfneogaclbammaaDoor.PureRoute
