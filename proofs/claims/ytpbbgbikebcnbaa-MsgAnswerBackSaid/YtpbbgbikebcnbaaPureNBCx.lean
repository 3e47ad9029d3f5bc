-- Cut by a program of this session (wip/shake.py) out of a text of this seat: what this claim doesn't reach is struck out. Lean checks it.
import Derived.Test.YtpbbgbikebcnbaaPureNACx
namespace Go.Proofs.Ytpbbgbikebcnbaa.MsgP
open Go.RowKit Go.Proofs.Ytpbbgbikebcnbaa.Ms Go.Proofs.Ytpbbgbikebcnbaa.Mw Go.Proofs.Ytpbbgbikebcnbaa.MsgL Go.Proofs.YtpbbgbikebcnbaaW.PrintWords Go.Proofs.YtpbbgbikebcnbaaW.PrintLast Go.Proofs.YtpbbgbikebcnbaaW.PrintMore
set_option linter.unusedVariables false
set_option linter.unusedSimpArgs false
def shortE1 (e : S58) : Bool := decide (e.f0.size ≤ 2000) && (decide (e.f2.length ≤ 1200) && e.f2.all fun s => decide (s.size ≤ 2000))
def shortE (es : List S58) : Bool := decide (es.length ≤ 100) && es.all shortE1
theorem she_l1 (l : List S58) (i : Nat) (hi : i < l.length) (hl : l.length ≤ 100) (h2 : (l[i]).f2.length ≤ 1200) (R : Bool) (K : Nat) : ∀ (q k j : Nat), q = (l[i]).f2.length - j → j ≤ (l[i]).f2.length → K + q + 1 ≤ k → (∀ k', K ≤ k' → becketref04_Short.l0 k' l ((i + 1 : Nat) : Int) = some R) → becketref04_Short.l1 k l i j = some (((l[i]).f2.drop j).all (fun s => decide (s.size ≤ 2000)) && R)
 | 0, k, j, hq, hj, hk, H => by
  obtain ⟨k, rfl⟩ : ∃ k', k = k' + 1 := ⟨k - 1, by omega⟩
  have : j = (l[i]).f2.length := by omega
  subst this
  rw [becketref04_Short.l1, if_pos (by omega), if_pos (by omega), rdE_get l i hi, if_neg (by omega), wz' (z := (i : Int) + 1) (y := ((i + 1 : Nat) : Int)) (by omega) (by omega) (by omega), H k (by omega), List.drop_length]
  rfl
 | q + 1, k, j, hq, hj, hk, H => by
  obtain ⟨k, rfl⟩ : ∃ k', k = k' + 1 := ⟨k - 1, by omega⟩
  have hlt : j < (l[i]).f2.length := by omega
  have hd : (l[i]).f2.drop j = (l[i]).f2[j] :: (l[i]).f2.drop (j + 1) := List.drop_eq_getElem_cons hlt
  have ih := she_l1 l i hi hl h2 R K q k (j + 1) (by omega) (by omega) (by omega) H
  rw [becketref04_Short.l1, if_pos (by omega), if_pos (by omega), rdE_get l i hi, if_pos (by omega), if_pos (by omega), rdS_get _ j hlt, wz' (z := (j : Int) + 1) (y := ((j + 1 : Nat) : Int)) (by omega) (by omega) (by omega), hd, List.all_cons]
  by_cases h : ((l[i]).f2[j]).size ≤ 2000
  ·rw [if_neg (by omega), decide_eq_true h, ih]; rfl
  ·rw [if_pos (by omega), decide_eq_false h]; rfl
theorem she_l0 (l : List S58) (hl : l.length ≤ 100) : ∀ (q k i : Nat), q = l.length - i → i ≤ l.length → 1210 * q + 10 ≤ k → becketref04_Short.l0 k l i = some ((l.drop i).all shortE1)
 | 0, k, i, hq, hi, hk => by
  obtain ⟨k, rfl⟩ : ∃ k', k = k' + 1 := ⟨k - 1, by omega⟩
  have : i = l.length := by omega
  subst this
  rw [becketref04_Short.l0, if_neg (by omega), List.drop_length]
  rfl
 | q + 1, k, i, hq, hi, hk => by
  obtain ⟨k, rfl⟩ : ∃ k', k = k' + 2 := ⟨k - 2, by omega⟩
  have hlt : i < l.length := by omega
  have hd : l.drop i = l[i] :: l.drop (i + 1) := List.drop_eq_getElem_cons hlt
  rw [becketref04_Short.l0, if_pos (by omega), if_pos (by omega), rdE_get l i hlt, hd, List.all_cons]
  have hun : shortE1 l[i] = (decide ((l[i]).f0.size ≤ 2000) && (decide ((l[i]).f2.length ≤ 1200) && (l[i]).f2.all fun s => decide (s.size ≤ 2000))) := rfl
  by_cases h1 : (l[i]).f0.size ≤ 2000
  ·rw [if_neg (by omega)]
   by_cases h2 : (l[i]).f2.length ≤ 1200
   ·rw [decide_eq_false (by omega : ¬ (((l[i]).f2.length : Int) > 1200)), becketref04_Short.j1, if_neg (by decide), hun, decide_eq_true h1, decide_eq_true h2]
    have := she_l1 l i hlt hl h2 ((l.drop (i + 1)).all shortE1) (1210 * q + 10) (l[i]).f2.length k 0 (by omega) (by omega) (by omega) (fun k' hk' => she_l0 l hl q k' (i + 1) (by omega) (by omega) hk')
    rw [List.drop_zero] at this
    exact this
   ·rw [decide_eq_true (by omega : (((l[i]).f2.length : Int) > 1200)), becketref04_Short.j1, if_pos rfl, hun, decide_eq_false h2, Bool.false_and, Bool.and_false, Bool.false_and]
  ·rw [if_pos (by omega), becketref04_Short.j1, if_pos rfl, hun, decide_eq_false h1, Bool.false_and, Bool.false_and]
theorem she_f (l : List S58) (k : Nat) (hk : 130000 ≤ k) : becketref04_Short.f k l = some (shortE l) := by
 unfold becketref04_Short.f shortE
 by_cases h : l.length ≤ 100
 ·rw [if_neg (by omega), decide_eq_true h]
  have := she_l0 l h l.length k 0 (by omega) (by omega) (by omega)
  rw [List.drop_zero] at this
  exact this
 ·rw [if_pos (by omega), decide_eq_false h]; rfl
end Go.Proofs.Ytpbbgbikebcnbaa.MsgP
