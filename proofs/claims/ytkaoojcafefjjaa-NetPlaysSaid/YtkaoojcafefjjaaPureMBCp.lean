-- Cut by a program of this session (wip/shake.py) out of a text of this seat: what this claim doesn't reach is struck out. Lean checks it.
import Derived.Test.YtkaoojcafefjjaaPureMACp
namespace Go.Proofs.Ytkaoojcafefjjaa.MsgP
open Go.RowKit Go.Proofs.Ytkaoojcafefjjaa.Ms Go.Proofs.Ytkaoojcafefjjaa.Mw Go.Proofs.Ytkaoojcafefjjaa.MsgL Go.Proofs.YtkaoojcafefjjaaW.PrintWords Go.Proofs.YtkaoojcafefjjaaW.PrintLast Go.Proofs.YtkaoojcafefjjaaW.PrintMore
set_option linter.unusedVariables false
set_option linter.unusedSimpArgs false
theorem inB_sm {n m : Int} (h : inB n m = true) (hm : m ≤ 1000000) : sm n := by
  unfold inB at h
  simp only [Bool.and_eq_true, decide_eq_true_eq] at h
  exact ⟨h.1, by omega⟩
theorem proofB_ok {p : S68} (h : proofB p = true) : okP p := by
  unfold proofB at h
  simp only [Bool.and_eq_true, decide_eq_true_eq, Bool.not_eq_true', List.any_eq_false, Bool.not_eq_true] at h
  obtain ⟨h1, h2, h3, h4, h5⟩ := h
  refine ⟨inB_sm h1 (by decide), inB_sm h2 (by decide), by omega, by omega, fun x hx => ?_⟩
  have := h5 x hx
  exact inB_sm (by rw [← node_in]; simpa using this) (by decide)
theorem proofsB_ok {l : List S68} (h : proofsB l = true) : l.length ≤ 200 ∧ ∀ p ∈ l, okP p := by
  unfold proofsB at h
  simp only [Bool.and_eq_true, decide_eq_true_eq, Bool.not_eq_true', List.any_eq_false, Bool.not_eq_true] at h
  exact ⟨by omega, fun p hp => proofB_ok (by simpa using h.2 p hp)⟩
theorem changesB_ok {l : List S58} (h : changesB l = true) : l.length ≤ 50 ∧ ∀ c ∈ l, okC c := by
  unfold changesB at h
  simp only [Bool.and_eq_true, decide_eq_true_eq, Bool.not_eq_true', List.any_eq_false, Bool.not_eq_true] at h
  refine ⟨by omega, fun c hc => ?_⟩
  have h1 := h.2 c hc
  unfold changeBad at h1
  simp only [Bool.or_eq_false_iff, Bool.not_eq_false'] at h1
  obtain ⟨g1, g2, g3⟩ := h1
  obtain ⟨g4, g5⟩ := proofsB_ok g3
  exact ⟨inB_sm (m := 12) (by rw [← node_in]; exact g1) (by decide), inB_sm g2 (by decide), g4, g5⟩
theorem may_ok {a b c d : Int} {s : ByteArray} {ps : List S68} {cs : List S58} (h : mayM a b c d s ps cs = true) : OkM a b c d s ps cs := by
  unfold mayM at h
  simp only [Bool.and_eq_true, decide_eq_true_eq] at h
  obtain ⟨⟨h1, h2, h3, h4, h5, h6⟩, ⟨h7, _⟩, h8, _⟩ := h
  obtain ⟨g1, g2⟩ := proofsB_ok h7
  obtain ⟨g3, g4⟩ := changesB_ok h8
  exact ⟨⟨by omega, by omega⟩, inB_sm (m := 12) (by rw [← node_in]; exact h3) (by decide), inB_sm h4 (by decide), inB_sm h5 (by split <;> decide), by omega, g1, g2, g3, g4⟩
theorem put_any (a b c d : Int) (s : ByteArray) (ps : List S68) (cs : List S58) (k : Nat) (hk : 600 ≤ k) : msg_Put.f k a b c d s ps cs = some (if mayM a b c d s ps cs = true then (msgE a b c d s ps cs, none) else ([], some 1)) := by
  by_cases hm : mayM a b c d s ps cs = true
  · exact put_f (may_ok hm) k hk
  · unfold msg_Put.f
    rw [check_f k (by omega), Option.bind_some, if_neg hm, if_neg hm, if_neg (show ¬ (some (1 : Int)).isNone = true from by decide)]
    rfl
def shortPs (l : List S68) : Bool := decide (l.length ≤ 200) && l.all (fun p => decide (p.f2.size ≤ 5000) && decide (p.f3.length ≤ 100))
def shortM (s : ByteArray) (ps : List S68) (cs : List S58) : Bool := shortPs ps && (decide (s.size ≤ 5000) && (decide (cs.length ≤ 50) && cs.all fun c => shortPs c.f2))
theorem short_l0 (l : List S68) (hl : l.length ≤ 200) : ∀ (q k i : Nat), q = l.length - i → i ≤ l.length → q + 1 ≤ k → becketref12_short.l0 k l i = some ((l.drop i).all (fun p => decide (p.f2.size ≤ 5000) && decide (p.f3.length ≤ 100)))
  | 0, k, i, hq, hi, hk => by
    obtain ⟨k, rfl⟩ : ∃ k', k = k' + 1 := ⟨k - 1, by omega⟩
    have : i = l.length := by omega
    subst this
    rw [becketref12_short.l0, if_neg (by omega), List.drop_length]
    rfl
  | q + 1, k, i, hq, hi, hk => by
    obtain ⟨k, rfl⟩ : ∃ k', k = k' + 1 := ⟨k - 1, by omega⟩
    have hlt : i < l.length := by omega
    have hd : l.drop i = l[i] :: l.drop (i + 1) := List.drop_eq_getElem_cons hlt
    have ih := short_l0 l hl q k (i + 1) (by omega) (by omega) (by omega)
    rw [becketref12_short.l0, if_pos (by omega), if_pos (by omega), rdP_get l i hlt, wz' (z := (i : Int) + 1) (y := ((i + 1 : Nat) : Int)) (by omega) (by omega) (by omega), hd, List.all_cons, ih]
    by_cases h1 : (l[i]).f2.size ≤ 5000
    · rw [if_neg (by omega), decide_eq_true h1]
      by_cases h2 : (l[i]).f3.length ≤ 100
      · rw [if_neg (by omega), decide_eq_true h2]; rfl
      · rw [if_pos (by omega), decide_eq_false h2]; rfl
    · rw [if_pos (by omega), decide_eq_false h1]; rfl
theorem short_f (l : List S68) (k : Nat) (hk : 201 ≤ k) : becketref12_short.f k l = some (shortPs l) := by
  unfold becketref12_short.f shortPs
  by_cases h : l.length ≤ 200
  · rw [if_neg (by omega), decide_eq_true h]
    have := short_l0 l h l.length k 0 (by omega) (by omega) (by omega)
    rw [List.drop_zero] at this
    exact this
  · rw [if_pos (by omega), decide_eq_false h]; rfl
theorem Short_l0 (a b c d : Int) (s : ByteArray) (ps : List S68) (cs : List S58) (hl : cs.length ≤ 50) : ∀ (q k i : Nat), q = cs.length - i → i ≤ cs.length → q + 202 ≤ k → becketref12_Short.l0 k i a b c d s ps cs = some ((cs.drop i).all fun c => shortPs c.f2)
  | 0, k, i, hq, hi, hk => by
    obtain ⟨k, rfl⟩ : ∃ k', k = k' + 1 := ⟨k - 1, by omega⟩
    have : i = cs.length := by omega
    subst this
    rw [becketref12_Short.l0, if_neg (by omega), List.drop_length]
    rfl
  | q + 1, k, i, hq, hi, hk => by
    obtain ⟨k, rfl⟩ : ∃ k', k = k' + 1 := ⟨k - 1, by omega⟩
    have hlt : i < cs.length := by omega
    have hd : cs.drop i = cs[i] :: cs.drop (i + 1) := List.drop_eq_getElem_cons hlt
    have ih := Short_l0 a b c d s ps cs hl q k (i + 1) (by omega) (by omega) (by omega)
    rw [becketref12_Short.l0, if_pos (by omega), if_pos (by omega), rdC_get cs i hlt, short_f _ k (by omega), Option.bind_some, wz' (z := (i : Int) + 1) (y := ((i + 1 : Nat) : Int)) (by omega) (by omega) (by omega), hd, List.all_cons, ih]
    cases shortPs (cs[i]).f2 with
    | true => rfl
    | false => rfl
theorem Short_j0 (k : Nat) (hk : 260 ≤ k) (x : Bool) (a b c d : Int) (s : ByteArray) (ps : List S68) (cs : List S58) (hx : x = false → cs.length ≤ 50) : becketref12_Short.j0 (k + 1) x a b c d s ps cs = some (!x && cs.all fun c => shortPs c.f2) := by
  rw [becketref12_Short.j0]
  cases x with
  | true => rfl
  | false =>
    have := Short_l0 a b c d s ps cs (hx rfl) cs.length k 0 (by omega) (by omega) (by have := hx rfl; omega)
    rw [List.drop_zero] at this
    rw [if_neg (by decide)]
    exact this
theorem Short_f (a b c d : Int) (s : ByteArray) (ps : List S68) (cs : List S58) (k : Nat) (hk : 300 ≤ k) : becketref12_Short.f k a b c d s ps cs = some (shortM s ps cs) := by
  obtain ⟨k, rfl⟩ : ∃ q, k = q + 1 := ⟨k - 1, by omega⟩
  unfold becketref12_Short.f shortM
  rw [short_f ps _ (by omega), Option.bind_some, Short_j0 k (by omega) true a b c d s ps cs (fun h => by cases h)]
  cases shortPs ps with
  | false => rfl
  | true =>
    rw [if_pos rfl]
    by_cases hs : s.size ≤ 5000
    · rw [if_neg (by omega), decide_eq_true hs]
      by_cases hc : cs.length ≤ 50
      · rw [decide_eq_false (by omega : ¬ (cs.length : Int) > 50), decide_eq_true hc, Short_j0 k (by omega) false a b c d s ps cs (fun _ => hc)]; rfl
      · rw [decide_eq_true (by omega : (cs.length : Int) > 50), decide_eq_false hc, Short_j0 k (by omega) true a b c d s ps cs (fun h => by cases h)]; rfl
    · rw [if_pos (by omega), decide_eq_false hs]; rfl
end Go.Proofs.Ytkaoojcafefjjaa.MsgP
