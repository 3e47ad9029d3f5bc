/-
  The pure statements of the layer route, third part: pieces, and what is under what. Conditions: those of the given statements, none besides.
-/
import Derived.Test.YtfneogaclbammaaDoorPureRoute2
import Derived.Test.YtfneogaclbammaaDoorRox4
import Derived.Lib.IndexBytes
import Derived.Lib.IndexLaws
namespace Go.Proofs.YtfneogaclbammaaDoor.PureRoute
open Go.RowKit Go.Proofs.YtfneogaclbammaaDoor.Route Go.Proofs.YtfneogaclbammaaDoor.Ro Go.Proofs.YtfneogaclbammaaDoorW.PrintWords Go.Proofs.YtfneogaclbammaaDoorW.PrintLast Go.Proofs.YtfneogaclbammaaDoorW.PrintMore
set_option linter.unusedSimpArgs false
set_option linter.unusedVariables false
/-! What stands between slashes: plain lists. -/
/-- The pieces between the bytes 47. -/
def sp : List UInt8 → List (List UInt8)
  | [] => [[]]
  | c :: r => if c = 47 then [] :: sp r else match sp r with
    | [] => [[c]]
    | h :: t => (c :: h) :: t
theorem sp_cons (c : UInt8) (r : List UInt8) : sp (c :: r) = if c = 47 then [] :: sp r else match sp r with
    | [] => [[c]]
    | h :: t => (c :: h) :: t := rfl
theorem sp_ne : ∀ l, sp l ≠ []
  | [] => by simp [sp]
  | c :: r => by
    unfold sp
    split
    · simp
    · split <;> simp
/-- Pieces joined by 47. -/
def jn : List (List UInt8) → List UInt8
  | [] => []
  | [x] => x
  | x :: y :: t => x ++ 47 :: jn (y :: t)
theorem jn_cons (x : List UInt8) {t : List (List UInt8)} (h : t ≠ []) : jn (x :: t) = x ++ 47 :: jn t := by
  cases t with
  | nil => exact absurd rfl h
  | cons y t => rfl
theorem jn_sp : ∀ l, jn (sp l) = l
  | [] => rfl
  | c :: r => by
    unfold sp
    by_cases h : c = 47
    · rw [if_pos h, jn_cons _ (sp_ne r), jn_sp r, h]; rfl
    · rw [if_neg h]
      have ih := jn_sp r
      cases hs : sp r with
      | nil => exact absurd hs (sp_ne r)
      | cons x t =>
        rw [hs] at ih
        simp only
        cases t with
        | nil => rw [← ih]; rfl
        | cons y t => rw [← ih]; rfl
theorem sp_no47 : ∀ l, ∀ x ∈ sp l, (47 : UInt8) ∉ x
  | [] => by simp [sp]
  | c :: r => by
    unfold sp
    by_cases h : c = 47
    · rw [if_pos h]
      intro x hx
      rcases List.mem_cons.1 hx with e | e
      · subst e; simp
      · exact sp_no47 r x e
    · rw [if_neg h]
      have ih := sp_no47 r
      cases hs : sp r with
      | nil => exact absurd hs (sp_ne r)
      | cons y t =>
        rw [hs] at ih
        intro x hx
        rcases List.mem_cons.1 hx with e | e
        · subst e
          have := ih y (by simp)
          intro hm
          rcases List.mem_cons.1 hm with e | e
          · exact h e.symm
          · exact this e
        · exact ih x (by simp [e])
theorem sp_whole : ∀ l, (47 : UInt8) ∉ l → sp l = [l]
  | [], _ => rfl
  | c :: r, h => by
    have h1 : c ≠ 47 := fun e => h (by simp [e])
    have h2 : (47 : UInt8) ∉ r := fun e => h (by simp [e])
    unfold sp
    rw [if_neg h1, sp_whole r h2]
theorem sp_append : ∀ (a b : List UInt8), sp (a ++ 47 :: b) = sp a ++ sp b
  | [], b => by simp [sp]
  | c :: r, b => by
    rw [List.cons_append, sp_cons, sp_cons]
    by_cases h : c = 47
    · rw [if_pos h, if_pos h, sp_append r b]; rfl
    · rw [if_neg h, if_neg h, sp_append r b]
      cases hs : sp r with
      | nil => exact absurd hs (sp_ne r)
      | cons x t => rfl
/-- Pieces without 47, joined, are split as they were. -/
theorem sp_jn : ∀ (p : List (List UInt8)), p ≠ [] → (∀ x ∈ p, (47 : UInt8) ∉ x) → sp (jn p) = p
  | [], h, _ => absurd rfl h
  | [x], _, h => sp_whole x (h x (by simp))
  | x :: y :: t, _, h => by
    rw [jn_cons x (by simp), sp_append, sp_whole x (h x (by simp)), sp_jn (y :: t) (by simp) (fun z hz => h z (by simp [hz]))]
    rfl
theorem jn_append : ∀ (p q : List (List UInt8)), p ≠ [] → q ≠ [] → jn (p ++ q) = jn p ++ 47 :: jn q
  | [], _, h, _ => absurd rfl h
  | [x], q, _, hq => jn_cons x hq
  | x :: y :: t, q, _, hq => by
    rw [List.cons_append, jn_cons x (by simp), jn_append (y :: t) q (by simp) hq, jn_cons x (by simp)]
    simp
/-- s begins with dir and a slash just where its pieces begin with those of dir, and are more. -/
theorem under_iff (d s : List UInt8) : (d ++ [47]) <+: s ↔ ∃ t, t ≠ [] ∧ sp s = sp d ++ t := by
  constructor
  · rintro ⟨r, rfl⟩
    exact ⟨sp r, sp_ne r, by rw [List.append_assoc, List.singleton_append, sp_append]⟩
  · rintro ⟨t, ht, h⟩
    refine ⟨jn t, ?_⟩
    have := congrArg jn h
    rw [jn_sp, jn_append _ _ (sp_ne d) ht, jn_sp] at this
    rw [this]; simp

/-- What is ahead of the last 47. -/
theorem sp_last (a b : List UInt8) (h : (47 : UInt8) ∉ b) : sp (a ++ 47 :: b) = sp a ++ [b] := by rw [sp_append, sp_whole b h]
theorem parent_jn (a b : List UInt8) (h : (47 : UInt8) ∉ b) : jn (sp (a ++ 47 :: b)).dropLast = a := by
  rw [sp_last a b h, List.dropLast_concat, jn_sp]
theorem indexByte_cases (l : List UInt8) (c : UInt8) : Lib.indexByte l c = -1 ∨ ∃ i : Nat, Lib.indexByte l c = i := by
  have := Lib.indexByte_ge l c
  by_cases h : Lib.indexByte l c = -1
  · exact .inl h
  · exact .inr ⟨(Lib.indexByte l c).toNat, by omega⟩
/-- The library's split at one byte. -/
theorem splitK_sp : ∀ (k : Nat) (l : List UInt8), l.count 47 = k → Lib.splitK [47] 0 k l = sp l
  | 0, l, h => by
    rw [sp_whole l (by rw [← List.count_eq_zero]; exact h)]; rfl
  | k + 1, l, h => by
    have hm : (47 : UInt8) ∈ l := by
      apply Classical.byContradiction
      intro hn
      rw [List.count_eq_zero.2 hn] at h
      omega
    rcases (indexByte_cases l 47) with h1 | ⟨i, h1⟩
    · exact absurd hm (by
        intro hm
        obtain ⟨j, hj⟩ := List.mem_iff_getElem?.1 hm
        exact Lib.indexByte_none h1 j hj)
    · obtain ⟨h2, h3⟩ := Lib.indexByte_some h1
      have hi : i < l.length := (List.getElem?_eq_some_iff.1 h2).1
      have hl : l = l.take i ++ 47 :: l.drop (i + 1) := by
        have e : l.drop i = l[i] :: l.drop (i + 1) := List.drop_eq_getElem_cons hi
        have e2 : l[i] = 47 := by
          rw [List.getElem?_eq_getElem hi] at h2
          exact Option.some.inj h2
        rw [e2] at e
        rw [← e, List.take_append_drop]
      have hno : (47 : UInt8) ∉ l.take i := by
        intro hm
        obtain ⟨j, hj⟩ := List.mem_iff_getElem?.1 hm
        rw [List.getElem?_take] at hj
        split at hj
        · exact h3 j (by assumption) hj
        · cases hj
      have hc : (l.drop (i + 1)).count 47 = k := by
        rw [hl, List.count_append, List.count_eq_zero.2 hno, List.count_cons_self] at h
        omega
      have hx : Lib.index l [47] = i := by rw [Lib.index_one, h1]
      unfold Lib.splitK
      rw [hx, if_neg (by simp), Int.toNat_natCast, Nat.add_zero]
      rw [show [(47 : UInt8)].length = 1 from rfl, splitK_sp k _ hc]
      conv => rhs; rw [hl, sp_append, sp_whole _ hno]
      rfl
/-! ### pieces -/
theorem ba_ext {x y : ByteArray} (h : x.data.toList = y.data.toList) : x = y := ByteArray.ext (Array.toList_inj.1 h)
theorem map_data_inj : ∀ {a b : List ByteArray}, a.map (·.data.toList) = b.map (·.data.toList) → a = b
  | [], [], _ => rfl
  | [], _ :: _, h => by simp at h
  | _ :: _, [], h => by simp at h
  | x :: a, y :: b, h => by
    simp only [List.map_cons, List.cons.injEq] at h
    rw [ba_ext h.1, map_data_inj h.2]
theorem pieces_data (s : ByteArray) : (pieces s).map (·.data.toList) = sp s.data.toList := by
  unfold pieces
  rw [Lib.splitB_data]
  have e : Lib.countB s ⟨#[47]⟩ = s.data.toList.count 47 := by
    show Lib.count s.data.toList [47] = _
    rw [Lib.count_one]
  rw [e]
  exact splitK_sp _ _ rfl
theorem pieces_pos (s : ByteArray) : 1 ≤ (pieces s).length := by rw [pieces_len]; omega
theorem sp_len (s : ByteArray) : (sp s.data.toList).length = (pieces s).length := by rw [← pieces_data, List.length_map]
theorem pathOf_parts (s : ByteArray) : pathOf s = partsOk (pieces s) := by
  unfold pathOf partsOk
  rw [decide_eq_true (pieces_pos s)]; rfl
theorem size_list (s : ByteArray) : s.data.toList.length = s.size := by rw [Array.length_toList]; rfl
theorem bt_list (s : ByteArray) (i : Nat) (h : i < s.size) : bt s (i : Int) = ((s.data.toList[i]'(by rw [size_list]; exact h)).toNat : Int) := by
  rw [← bt_at s i (by simpa using h)]
  rfl
theorem bt_47 (s : ByteArray) (i : Nat) (h : i < s.size) : bt s (i : Int) = 47 ↔ s.data.toList[i]? = some 47 := by
  rw [bt_list s i h, List.getElem?_eq_getElem (by rw [size_list]; exact h)]
  constructor
  · intro e
    congr 1
    apply UInt8.toNat_inj.1
    have : (s.data.toList[i]'(by rw [size_list]; exact h)).toNat = 47 := by omega
    rw [this]; rfl
  · intro e
    rw [Option.some.inj e]; rfl
theorem extract_list (s : ByteArray) (a b : Nat) : (s.extract a b).data.toList = (s.data.toList.take b).drop a := by
  rw [ByteArray.data_extract]; simp [List.drop_take]
theorem seg_no (l : List UInt8) (a b : Nat) (h : ∀ j, a ≤ j → j < b → l[j]? ≠ some 47) : (47 : UInt8) ∉ (l.take b).drop a := by
  intro hm
  obtain ⟨j, hj⟩ := List.mem_iff_getElem?.1 hm
  rw [List.getElem?_drop, List.getElem?_take] at hj
  split at hj
  · exact h (a + j) (by omega) (by assumption) hj
  · cases hj
theorem drop_seg (l : List UInt8) (a b : Nat) (hab : a ≤ b) (hb : b < l.length) (h47 : l[b]? = some 47) : l.drop a = (l.take b).drop a ++ 47 :: l.drop (b + 1) := by
  have e : l.drop b = l[b] :: l.drop (b + 1) := List.drop_eq_getElem_cons hb
  have e2 : l[b] = 47 := by
    rw [List.getElem?_eq_getElem hb] at h47
    exact Option.some.inj h47
  rw [e2] at e
  rw [← e]
  conv => lhs; rw [← List.take_append_drop b l]
  rw [List.drop_append_of_le_length (by rw [List.length_take]; omega)]
theorem split_l0 (s : ByteArray) (hs : s.size ≤ 100000) : ∀ (m k : Nat) (out : List ByteArray) (a i : Nat), m = s.size - i → i ≤ s.size → a ≤ i → out.length ≤ i → m + 2 ≤ k → (∀ j, a ≤ j → j < i → s.data.toList[j]? ≠ some 47) →
    ∃ R, becketref02_Split.l0 k s out a i = some R ∧ R.map (·.data.toList) = out.map (·.data.toList) ++ sp (s.data.toList.drop a)
  | 0, k, out, a, i, hm, hi, ha, ho, hk, hno => by
    obtain ⟨k, rfl⟩ : ∃ k', k = k' + 1 + 1 := ⟨k - 2, by omega⟩
    have : i = s.size := by omega
    subst this
    refine ⟨out ++ [s.extract a s.size], ?_, ?_⟩
    · unfold becketref02_Split.l0
      rw [if_pos (by omega), if_pos rfl, if_pos (by omega), if_pos (by omega), if_pos (by omega)]
      rw [wz' (z := (s.size : Int) + 1) (y := ((s.size + 1 : Nat) : Int)) (by omega) (by omega) (by omega)]
      unfold becketref02_Split.l0
      rw [if_neg (by omega)]
      rfl
    · have h47 := seg_no s.data.toList a s.size hno
      rw [List.map_append, List.map_cons, List.map_nil, extract_list]
      have e : (s.data.toList.take s.size).drop a = s.data.toList.drop a := by rw [List.take_of_length_le (by rw [size_list]; exact Nat.le_refl _)]
      rw [e] at h47 ⊢
      rw [sp_whole _ h47]
  | m + 1, k, out, a, i, hm, hi, ha, ho, hk, hno => by
    obtain ⟨k, rfl⟩ : ∃ k', k = k' + 1 := ⟨k - 1, by omega⟩
    have hlt : i < s.size := by omega
    unfold becketref02_Split.l0
    rw [if_pos (by omega), if_neg (by omega), if_pos (by omega), if_pos (by omega)]
    rw [wz' (z := (i : Int) + 1) (y := ((i + 1 : Nat) : Int)) (by omega) (by omega) (by omega)]
    by_cases h47 : bt s (i : Int) = 47
    · rw [if_pos h47, if_pos (by omega), if_pos (by omega), if_pos (by omega)]
      obtain ⟨R, h1, h2⟩ := split_l0 s hs m k (out ++ [s.extract a i]) (i + 1) (i + 1) (by omega) (by omega) (Nat.le_refl _) (by simp; omega) (by omega) (fun j h1 h2 => by omega)
      refine ⟨R, h1, ?_⟩
      rw [h2, List.map_append, List.map_cons, List.map_nil, extract_list, drop_seg s.data.toList a i ha (by rw [size_list]; exact hlt) ((bt_47 s i hlt).1 h47), sp_append, sp_whole _ (seg_no s.data.toList a i hno), List.append_assoc]
    · rw [if_neg h47]
      exact split_l0 s hs m k out a (i + 1) (by omega) (by omega) (by omega) (by omega) (by omega) (fun j h1 h2 => by
        by_cases e : j = i
        · subst e; exact fun h => h47 ((bt_47 s j hlt).2 h)
        · exact hno j h1 (by omega))
theorem split_f (s : ByteArray) (k : Nat) (hs : s.size ≤ 100000) (hk : s.size + 2 ≤ k) : becketref02_Split.f k s = some (pieces s) := by
  obtain ⟨R, h1, h2⟩ := split_l0 s hs s.size k [] 0 0 (by omega) (by omega) (Nat.le_refl _) (Nat.le_refl _) hk (fun j h1 h2 => by omega)
  unfold becketref02_Split.f
  have h1' : becketref02_Split.l0 k s [] 0 0 = some R := h1
  rw [h1']
  congr 1
  apply map_data_inj
  rw [h2, pieces_data]; rfl
theorem path_f (s : ByteArray) (k : Nat) (hs : s.size ≤ 10000) (hk : s.size + 20100 ≤ k) : becketref02_Path.f k s = some (pathOf s) := by
  have hl := pieces_len s
  have hc := Lib.countB_le ⟨#[47]⟩ (Nat.le_refl _) s.size s (Nat.le_refl _)
  unfold becketref02_Path.f
  rw [split_f s k (by omega) (by omega), Option.bind_some, parts_f _ k (by omega) (fun x hx => by have := pieces_size s x hx; omega) (by omega), Option.bind_some, pathOf_parts]
/-! ### same, Under -/
def preB (a b : List ByteArray) : Bool := decide (a.map (·.data.toList) <+: b.map (·.data.toList))
theorem under_l0 (a b : List ByteArray) (hl : b.length ≤ 100000) (hab : a.length ≤ b.length) : ∀ (m k i : Nat), m = a.length - i → i ≤ a.length → m + 1 ≤ k → becketref02_Under.l0 k a b i = some (preB (a.drop i) (b.drop i))
  | 0, k, i, hm, hi, hk => by
    obtain ⟨k, rfl⟩ : ∃ k', k = k' + 1 := ⟨k - 1, by omega⟩
    have : i = a.length := by omega
    subst this
    unfold becketref02_Under.l0
    rw [if_neg (by omega), List.drop_length]
    simp [preB]
  | m + 1, k, i, hm, hi, hk => by
    obtain ⟨k, rfl⟩ : ∃ k', k = k' + 1 := ⟨k - 1, by omega⟩
    have hlt : i < a.length := by omega
    have hlb : i < b.length := by omega
    have hda : a.drop i = a[i] :: a.drop (i + 1) := List.drop_eq_getElem_cons hlt
    have hdb : b.drop i = b[i] :: b.drop (i + 1) := List.drop_eq_getElem_cons hlb
    have ih := under_l0 a b hl hab m k (i + 1) (by omega) (by omega) (by omega)
    unfold becketref02_Under.l0
    rw [if_pos (by omega), if_pos (by omega), if_pos (by omega), rdOf_get a i hlt, rdOf_get b i hlb, wz' (z := (i : Int) + 1) (y := ((i + 1 : Nat) : Int)) (by omega) (by omega) (by omega), hda, hdb]
    by_cases h : a[i].toList = b[i].toList
    · rw [if_pos h, ih]
      have h' : a[i].data.toList = b[i].data.toList := by rw [← Go.ByteArray.toList_eq, ← Go.ByteArray.toList_eq]; exact h
      unfold preB
      congr 1
      rw [List.map_cons, List.map_cons, h']
      exact decide_eq_decide.2 (List.prefix_cons_inj _).symm
    · rw [if_neg h]
      have h' : ¬ a[i].data.toList = b[i].data.toList := by rw [← Go.ByteArray.toList_eq, ← Go.ByteArray.toList_eq]; exact h
      unfold preB
      congr 1
      rw [List.map_cons, List.map_cons]
      symm
      rw [decide_eq_false_iff_not]
      intro hp
      exact h' (List.cons_prefix_cons.1 hp).1
/-- The document's Under. -/
def underRef (a b : ByteArray) : Bool := pathOf a && pathOf b && decide ((pieces a).length < (pieces b).length) && preB (pieces a) (pieces b)
theorem under_f (a b : ByteArray) (k : Nat) (ha : a.size ≤ 10000) (hb : b.size ≤ 10000) (hk : 30100 ≤ k) : becketref02_Under.f k a b = some (underRef a b) := by
  obtain ⟨k, rfl⟩ : ∃ k', k = k' + 1 := ⟨k - 1, by omega⟩
  have hla := pieces_len a
  have hca := Lib.countB_le ⟨#[47]⟩ (Nat.le_refl _) a.size a (Nat.le_refl _)
  have hlb := pieces_len b
  have hcb := Lib.countB_le ⟨#[47]⟩ (Nat.le_refl _) b.size b (Nat.le_refl _)
  unfold becketref02_Under.f underRef
  rw [split_f a _ (by omega) (by omega), Option.bind_some, split_f b _ (by omega) (by omega), Option.bind_some,
    parts_f _ _ (by omega) (fun x hx => by have := pieces_size a x hx; omega) (by omega), Option.bind_some, pathOf_parts, pathOf_parts]
  cases partsOk (pieces a) with
  | false => simp [becketref02_Under.j0]
  | true =>
    rw [if_pos rfl, parts_f _ _ (by omega) (fun x hx => by have := pieces_size b x hx; omega) (by omega), Option.bind_some]
    cases partsOk (pieces b) with
    | false => simp [becketref02_Under.j0]
    | true =>
      rw [if_pos rfl]
      by_cases h : (pieces b).length ≤ (pieces a).length
      · rw [decide_eq_true (by omega : ((pieces b).length : Int) ≤ ((pieces a).length : Int)), decide_eq_false (by omega : ¬ (pieces a).length < (pieces b).length)]
        simp [becketref02_Under.j0]
      · rw [decide_eq_false (by omega : ¬ ((pieces b).length : Int) ≤ ((pieces a).length : Int)), decide_eq_true (by omega : (pieces a).length < (pieces b).length)]
        simp only [becketref02_Under.j0, Bool.false_eq_true, if_false]
        have := under_l0 (pieces a) (pieces b) (by omega) (by omega) (pieces a).length k 0 (by omega) (by omega) (by omega)
        rw [List.drop_zero, List.drop_zero] at this
        rw [show ((0 : Nat) : Int) = 0 from rfl] at this
        rw [this]; simp
/-- The program's Under. -/
def underOf (a b : ByteArray) : Bool := pathOf a && pathOf b && decide ((a.data.toList ++ [47]) <+: b.data.toList)
theorem slash_data (a : ByteArray) : (a ++ (⟨#[47]⟩ : ByteArray)).data.toList = a.data.toList ++ [47] := by simp
theorem has_f (b p : ByteArray) : strings_HasPrefix.f b p = some (decide (p.data.toList <+: b.data.toList)) := by
  unfold strings_HasPrefix.f stringslite_HasPrefix.f
  have hp := size_list p
  have hb := size_list b
  by_cases h : p.size ≤ b.size
  · rw [if_pos (by omega), if_pos (by omega), if_pos (by omega), Option.bind_some, Int.toNat_natCast]
    congr 1
    rw [Go.ByteArray.toList_eq, Go.ByteArray.toList_eq, extract_list, List.drop_zero, ← hp]
    by_cases e : b.data.toList.take p.data.toList.length = p.data.toList
    · rw [beq_iff_eq.2 e, decide_eq_true]
      exact List.prefix_iff_eq_take.2 e.symm
    · rw [beq_eq_false_iff_ne.2 e, decide_eq_false]
      intro hpre
      exact e (List.prefix_iff_eq_take.1 hpre).symm
  · rw [if_neg (by omega), Option.bind_some, decide_eq_false]
    intro hpre
    have := hpre.length_le
    omega
theorem under_go (a b : ByteArray) (ha : a.size ≤ 100000) (hb : b.size ≤ 100000) : route_Under.f a b = some (underOf a b) := by
  unfold route_Under.f route_Check.f underOf
  rw [if_pos (by omega), Option.bind_some]
  cases pathOf a with
  | false => simp
  | true =>
    rw [if_pos (by rfl), if_pos (by omega), Option.bind_some]
    cases pathOf b with
    | false => simp
    | true => rw [if_pos (by rfl), if_pos (by omega), has_f, Option.bind_some, slash_data]; rfl
theorem prefix_more (x y : List (List UInt8)) : (x <+: y ∧ x.length < y.length) ↔ ∃ t, t ≠ [] ∧ y = x ++ t := by
  constructor
  · rintro ⟨⟨t, rfl⟩, h⟩
    refine ⟨t, fun e => ?_, rfl⟩
    subst e; simp at h
  · rintro ⟨t, ht, rfl⟩
    refine ⟨List.prefix_append _ _, ?_⟩
    rw [List.length_append]
    have := List.length_pos_iff.2 ht
    omega
theorem under_same (a b : ByteArray) : underOf a b = underRef a b := by
  unfold underOf underRef preB
  rw [Bool.and_assoc (pathOf a && pathOf b)]
  congr 1
  rw [pieces_data, pieces_data, ← sp_len, ← sp_len]
  have h := (under_iff a.data.toList b.data.toList).trans (prefix_more _ _).symm
  by_cases h1 : (a.data.toList ++ [47]) <+: b.data.toList
  · obtain ⟨h2, h3⟩ := h.1 h1
    rw [decide_eq_true h1, decide_eq_true h2, decide_eq_true h3]; rfl
  · rw [decide_eq_false h1]
    by_cases h2 : sp a.data.toList <+: sp b.data.toList
    · by_cases h3 : (sp a.data.toList).length < (sp b.data.toList).length
      · exact absurd (h.2 ⟨h2, h3⟩) h1
      · rw [decide_eq_false h3]; rfl
    · rw [decide_eq_false h2, Bool.and_false]
end Go.Proofs.YtfneogaclbammaaDoor.PureRoute
