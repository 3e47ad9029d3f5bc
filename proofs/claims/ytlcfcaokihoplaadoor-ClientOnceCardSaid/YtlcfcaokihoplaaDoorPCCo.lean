-- Cut by a program of this session (wip/shake.py) out of a text of this seat: what this claim doesn't reach is struck out. Lean checks it.
import Derived.Test.YtlcfcaokihoplaaDoorPOCo
import Derived.Test.YtlcfcaokihoplaaDoorPACo
import Derived.DataShut
namespace Go.Proofs.YtlcfcaokihoplaaDoor.CliP
open Go.RowKit Go.Proofs.YtlcfcaokihoplaaDoor.Ms Go.Proofs.YtlcfcaokihoplaaDoor.Mw Go.Proofs.YtlcfcaokihoplaaDoorW.PrintWords Go.Proofs.YtlcfcaokihoplaaDoorW.PrintLast Go.Proofs.YtlcfcaokihoplaaDoorW.PrintMore
set_option linter.unusedVariables false
set_option linter.unusedSimpArgs false
theorem wz' {z : Int} {y : Int} (h : z = y) (h0 : 0 ≤ y) (h1 : y ≤ 1099511627776) : wrap64 z = y := by subst h; unfold wrap64; omega
theorem rdP_get (xs : List S80) (i : Nat) (h : i < xs.length) : rd_T80 xs (i : Int) = xs[i] := by
  show xs.getD i _ = xs[i]
  simp [List.getD, h]
theorem rdC_get (xs : List S67) (i : Nat) (h : i < xs.length) : rd_T67 xs (i : Int) = xs[i] := by
  show xs.getD i _ = xs[i]
  simp [List.getD, h]
def shortPs (l : List S80) : Bool := decide (l.length ≤ 200) && l.all (fun p => decide (p.f2.size ≤ 5000) && decide (p.f3.length ≤ 100))
def shortM (s : ByteArray) (ps : List S80) (cs : List S67) : Bool := shortPs ps && (decide (s.size ≤ 5000) && (decide (cs.length ≤ 50) && cs.all fun c => shortPs c.f2))
theorem short_l0 (l : List S80) (hl : l.length ≤ 200) : ∀ (q k i : Nat), q = l.length - i → i ≤ l.length → q + 1 ≤ k → becketref12_short.l0 k l i = some ((l.drop i).all (fun p => decide (p.f2.size ≤ 5000) && decide (p.f3.length ≤ 100)))
  | 0, k, i, hq, hi, hk => by
    obtain ⟨k, rfl⟩ : ∃ k', k = k' + 1 := ⟨k - 1, by omega⟩
    have : i = l.length := by omega
    subst this
    rw [becketref12_short.l0, if_neg (by omega), List.drop_length]
    rfl
  | q + 1, k, i, hq, hi, hk => by
    obtain ⟨k, rfl⟩ : ∃ k', k = k' + 1 := ⟨k - 1, by omega⟩
    have hlt : i < l.length := by omega
    have hd : l.drop i = l[i] :: l.drop (i + 1) := List.drop_eq_getElem_cons hlt
    have ih := short_l0 l hl q k (i + 1) (by omega) (by omega) (by omega)
    rw [becketref12_short.l0, if_pos (by omega), if_pos (by omega), rdP_get l i hlt, wz' (z := (i : Int) + 1) (y := ((i + 1 : Nat) : Int)) (by omega) (by omega) (by omega), hd, List.all_cons, ih]
    by_cases h1 : (l[i]).f2.size ≤ 5000
    · rw [if_neg (by omega), decide_eq_true h1]
      by_cases h2 : (l[i]).f3.length ≤ 100
      · rw [if_neg (by omega), decide_eq_true h2]; rfl
      · rw [if_pos (by omega), decide_eq_false h2]; rfl
    · rw [if_pos (by omega), decide_eq_false h1]; rfl
theorem short_f (l : List S80) (k : Nat) (hk : 201 ≤ k) : becketref12_short.f k l = some (shortPs l) := by
  unfold becketref12_short.f shortPs
  by_cases h : l.length ≤ 200
  · rw [if_neg (by omega), decide_eq_true h]
    have := short_l0 l h l.length k 0 (by omega) (by omega) (by omega)
    rw [List.drop_zero] at this
    exact this
  · rw [if_pos (by omega), decide_eq_false h]; rfl
theorem Short_l0 (a b c d : Int) (s : ByteArray) (ps : List S80) (cs : List S67) (hl : cs.length ≤ 50) : ∀ (q k i : Nat), q = cs.length - i → i ≤ cs.length → q + 202 ≤ k → becketref12_Short.l0 k i a b c d s ps cs = some ((cs.drop i).all fun c => shortPs c.f2)
  | 0, k, i, hq, hi, hk => by
    obtain ⟨k, rfl⟩ : ∃ k', k = k' + 1 := ⟨k - 1, by omega⟩
    have : i = cs.length := by omega
    subst this
    rw [becketref12_Short.l0, if_neg (by omega), List.drop_length]
    rfl
  | q + 1, k, i, hq, hi, hk => by
    obtain ⟨k, rfl⟩ : ∃ k', k = k' + 1 := ⟨k - 1, by omega⟩
    have hlt : i < cs.length := by omega
    have hd : cs.drop i = cs[i] :: cs.drop (i + 1) := List.drop_eq_getElem_cons hlt
    have ih := Short_l0 a b c d s ps cs hl q k (i + 1) (by omega) (by omega) (by omega)
    rw [becketref12_Short.l0, if_pos (by omega), if_pos (by omega), rdC_get cs i hlt, short_f _ k (by omega), Option.bind_some, wz' (z := (i : Int) + 1) (y := ((i + 1 : Nat) : Int)) (by omega) (by omega) (by omega), hd, List.all_cons, ih]
    cases shortPs (cs[i]).f2 with
    | true => rfl
    | false => rfl
theorem Short_j0 (k : Nat) (hk : 260 ≤ k) (x : Bool) (a b c d : Int) (s : ByteArray) (ps : List S80) (cs : List S67) (hx : x = false → cs.length ≤ 50) : becketref12_Short.j0 (k + 1) x a b c d s ps cs = some (!x && cs.all fun c => shortPs c.f2) := by
  rw [becketref12_Short.j0]
  cases x with
  | true => rfl
  | false =>
    have := Short_l0 a b c d s ps cs (hx rfl) cs.length k 0 (by omega) (by omega) (by have := hx rfl; omega)
    rw [List.drop_zero] at this
    rw [if_neg (by decide)]
    exact this
theorem Short_f (a b c d : Int) (s : ByteArray) (ps : List S80) (cs : List S67) (k : Nat) (hk : 300 ≤ k) : becketref12_Short.f k a b c d s ps cs = some (shortM s ps cs) := by
  obtain ⟨k, rfl⟩ : ∃ q, k = q + 1 := ⟨k - 1, by omega⟩
  unfold becketref12_Short.f shortM
  rw [short_f ps _ (by omega), Option.bind_some, Short_j0 k (by omega) true a b c d s ps cs (fun h => by cases h)]
  cases shortPs ps with
  | false => rfl
  | true =>
    rw [if_pos rfl]
    by_cases hs : s.size ≤ 5000
    · rw [if_neg (by omega), decide_eq_true hs]
      by_cases hc : cs.length ≤ 50
      · rw [decide_eq_false (by omega : ¬ (cs.length : Int) > 50), decide_eq_true hc, Short_j0 k (by omega) false a b c d s ps cs (fun _ => hc)]; rfl
      · rw [decide_eq_true (by omega : (cs.length : Int) > 50), decide_eq_false hc, Short_j0 k (by omega) true a b c d s ps cs (fun h => by cases h)]; rfl
    · rw [if_pos (by omega), decide_eq_false hs]; rfl
theorem index_l0 (acc : List Int) (x : Int) (hl : acc.length ≤ 100000) : ∀ (m k i : Nat), m = acc.length - i → i ≤ acc.length → m + 1 ≤ k → ∃ r, slices_Index_int_int.l0 k acc x (acc.length : Int) (i : Int) = some r ∧ decide (r ≥ 0) = (acc.drop i).contains x
  | 0, k, i, hm, hi, hk => by
    obtain ⟨k, rfl⟩ : ∃ k', k = k' + 1 := ⟨k - 1, by omega⟩
    have : i = acc.length := by omega
    subst this
    refine ⟨-1, ?_, by simp⟩
    unfold slices_Index_int_int.l0
    rw [if_neg (by omega)]
  | m + 1, k, i, hm, hi, hk => by
    obtain ⟨k, rfl⟩ : ∃ k', k = k' + 1 := ⟨k - 1, by omega⟩
    have hlt : i < acc.length := by omega
    have hd : acc.drop i = acc[i] :: acc.drop (i + 1) := List.drop_eq_getElem_cons hlt
    have hr : rd acc (i : Int) = acc[i] := by simp [rd, hlt]
    unfold slices_Index_int_int.l0
    rw [if_pos (by omega), if_pos (by omega), if_pos (by omega), hr]
    by_cases hx : x = acc[i]
    · rw [if_pos hx]
      refine ⟨_, rfl, ?_⟩
      rw [hd, List.contains_cons]
      have h1 : (x == acc[i]) = true := by simpa using hx
      rw [h1, Bool.true_or]
      simp
    · rw [if_neg hx]
      have hw : wrap64 ((i : Int) + 1) = ((i + 1 : Nat) : Int) := by unfold wrap64; omega
      rw [hw]
      obtain ⟨r, h1, h2⟩ := index_l0 acc x hl m k (i + 1) (by omega) (by omega) (by omega)
      refine ⟨r, h1, ?_⟩
      rw [h2, hd, List.contains_cons]
      have h3 : (x == acc[i]) = false := by simpa using hx
      rw [h3, Bool.false_or]
theorem contains_f (acc : List Int) (x : Int) (k : Nat) (hl : acc.length ≤ 100000) (hk : acc.length + 1 ≤ k) : slices_Contains_int_int.f k acc x = some (acc.contains x) := by
  obtain ⟨r, h1, h2⟩ := index_l0 acc x hl acc.length k 0 (by omega) (by omega) (by omega)
  unfold slices_Contains_int_int.f slices_Index_int_int.f
  rw [show ((0 : Nat) : Int) = 0 from rfl] at h1
  rw [h1, Option.bind_some, h2, List.drop_zero]
def whoL (what : ByteArray) : List Int → List S70 → List Int
  | acc, [] => acc
  | acc, v :: l => if v.f1.toList = what.toList then (if acc.contains v.f0 = true then whoL what acc l else whoL what (acc ++ [v.f0]) l) else whoL what acc l
def srt (l : List Int) : List Int := l.mergeSort fun x y => decide (x ≤ y)
theorem who_l0 (what : ByteArray) (l : List S70) (hl : l.length ≤ 10000) : ∀ (m k i : Nat) (acc : List Int), m = l.length - i → i ≤ l.length → acc.length ≤ i → 2 * m + acc.length + 3 ≤ k → vote_Who.l0 k what acc l (l.length : Int) (i : Int) = some (srt (whoL what acc (l.drop i)))
  | 0, k, i, acc, hm, hi, ha, hk => by
    obtain ⟨k, rfl⟩ : ∃ k', k = k' + 1 := ⟨k - 1, by omega⟩
    have : i = l.length := by omega
    subst this
    unfold vote_Who.l0
    rw [if_neg (by omega), List.drop_length]
    unfold slices_Sort_int_int.f
    rw [if_pos (by omega)]
    rfl
  | m + 1, k, i, acc, hm, hi, ha, hk => by
    obtain ⟨k, rfl⟩ : ∃ k', k = k' + 1 := ⟨k - 1, by omega⟩
    have hlt : i < l.length := by omega
    have hd : l.drop i = l[i] :: l.drop (i + 1) := List.drop_eq_getElem_cons hlt
    have hr : rd_T70 l (i : Int) = l[i] := by simp [rd_T70, hlt]
    have hw : wrap64 ((i : Int) + 1) = ((i + 1 : Nat) : Int) := by unfold wrap64; omega
    unfold vote_Who.l0
    rw [if_pos (by omega), if_pos (by omega), if_pos (by omega), hr, hw, hd]
    unfold whoL
    have h1 := who_l0 what l hl m k (i + 1) acc (by omega) (by omega) (by omega) (by omega)
    have h2 := who_l0 what l hl m k (i + 1) (acc ++ [l[i].f0]) (by omega) (by omega) (by simp; omega) (by simp; omega)
    by_cases hx : l[i].f1.toList = what.toList
    · rw [if_pos hx, if_pos hx, contains_f acc _ k (by omega) (by omega), Option.bind_some]
      by_cases hc : acc.contains l[i].f0 = true
      · rw [if_pos hc, if_pos hc, h1]
      · rw [if_neg hc, if_neg hc, if_pos (by omega), h2]
    · rw [if_neg hx, if_neg hx, h1]
theorem who_f (what : ByteArray) (l : List S70) (k : Nat) (hl : l.length ≤ 10000) (hk : 2 * l.length + 3 ≤ k) : vote_Who.f k l what = some (srt (whoL what [] l)) := by
  have := who_l0 what l hl l.length k 0 [] (by omega) (by omega) (by simp) (by simpa using hk)
  rw [List.drop_zero] at this
  exact this
theorem count_f (what : ByteArray) (l : List S70) (k : Nat) (hl : l.length ≤ 10000) (hk : 2 * l.length + 3 ≤ k) : vote_Count.f k l what = some ((whoL what [] l).length : Int) := by
  unfold vote_Count.f
  rw [who_f what l k hl hk, Option.bind_some]
  simp [srt, List.length_mergeSort]
theorem pick_f (c : Int) (hc : -9223372036854775808 ≤ c ∧ c ≤ 9223372036854775807) (n : Nat) (hn : 0 < n) : ∃ r : Nat, r < n ∧ becketlaw19_pick.f c n = some (r : Int) := by
  unfold becketlaw19_pick.f
  have key : ∀ x : Int, 0 ≤ x → ∃ r : Nat, r < n ∧ some (Int.tmod x n) = some (r : Int) := fun x hx => by
    refine ⟨(Int.tmod x n).toNat, ?_, ?_⟩
    · have h1 := Int.tmod_lt_of_pos x (show (0 : Int) < n by omega)
      have h2 := Int.tmod_nonneg n hx
      omega
    · have h2 := Int.tmod_nonneg n hx
      rw [Int.toNat_of_nonneg h2]
  by_cases h : c < 0
  · rw [if_pos h, if_neg (by omega)]
    have e : wrap64 (-(wrap64 (c + 1))) = -(c + 1) := by unfold wrap64; omega
    rw [e]
    exact key _ (by omega)
  · rw [if_neg h, if_neg (by omega)]
    exact key _ (by omega)
end Go.Proofs.YtlcfcaokihoplaaDoor.CliP
