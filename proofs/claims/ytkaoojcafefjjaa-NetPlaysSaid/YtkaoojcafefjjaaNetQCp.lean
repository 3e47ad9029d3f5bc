-- Cut by a program of this session (wip/shake.py) out of a text of this seat: what this claim doesn't reach is struck out. Lean checks it.
import Derived.Test.YtkaoojcafefjjaaNetS0Cp
import Derived.Lib.Hide
import Derived.BigRegion
namespace Go.Proofs.Ytkaoojcafefjjaa.Net
open Go.RowKit Go.Proofs.Ytkaoojcafefjjaa.Ms Go.Proofs.YtkaoojcafefjjaaW.PrintWords Go.Proofs.YtkaoojcafefjjaaW.PrintLast Go.Proofs.YtkaoojcafefjjaaW.PrintMore
attribute [local go_sem] Go.Proofs.Ytkaoojcafefjjaa.Ms.eqlErr Go.Proofs.Ytkaoojcafefjjaa.Ms.neqErr Go.Proofs.Ytkaoojcafefjjaa.Ms.eqlErrNil Go.Proofs.Ytkaoojcafefjjaa.Ms.neqErrNil
set_option linter.unusedVariables false
set_option linter.unusedSimpArgs false
theorem ref_l1 (f : Int) (hf1 : 1 ≤ f) (hf4 : f ≤ 4) (from_ : Int) (os : List S31) (i : Nat) (acc0 : List S41) (b : ByteArray) (hacc : acc0.length ≤ 100000) (R : Option (List S41)) (K : Nat) (H : ∀ k', K ≤ k' → becketref18_Send.l0 k' f from_ os (acc0 ++ toAll from_ b (3 * f + 1).toNat) (wrap64 ((i : Int) + 1)) = R) :
    ∀ (q k n : Nat) (to' : Int), n + q = (3 * f + 1).toNat → K + q + 1 ≤ k → becketref18_Send.l1 k f from_ os (acc0 ++ toAll from_ b n) i n from_ to' b = R
  | 0, k, n, to', hn, hk => by
    obtain ⟨k, rfl⟩ : ∃ k', k = k' + 1 := ⟨k - 1, by omega⟩
    have e : n = (3 * f + 1).toNat := by omega
    subst e
    rw [becketref18_Send.l1, show wrap64 (3 * f) = 3 * f from by unfold wrap64; omega, if_neg (by omega)]
    exact H k (by omega)
  | q + 1, k, n, to', hn, hk => by
    obtain ⟨k, rfl⟩ : ∃ k', k = k' + 1 := ⟨k - 1, by omega⟩
    have hl := toAll_len from_ b n
    have hs := toAll_succ from_ b n
    rw [becketref18_Send.l1, show wrap64 (3 * f) = 3 * f from by unfold wrap64; omega, if_pos (by omega), MsgP.wz' (z := (n : Int) + 1) (y := ((n + 1 : Nat) : Int)) (by omega) (by omega) (by omega)]
    by_cases h : (n : Int) = from_
    · rw [if_pos h]
      rw [if_pos h, List.append_nil] at hs
      rw [← hs]
      exact ref_l1 f hf1 hf4 from_ os i acc0 b hacc R K H q k (n + 1) to' (by omega) (by omega)
    · rw [if_neg h, if_pos (by rw [List.length_append]; omega)]
      rw [if_neg h] at hs
      rw [List.append_assoc, ← hs]
      exact ref_l1 f hf1 hf4 from_ os i acc0 b hacc R K H q k (n + 1) (n : Int) (by omega) (by omega)
theorem ref_j2 (f : Int) (hf1 : 1 ≤ f) (hf4 : f ≤ 4) (from_ : Int) (os : List S31) (i : Nat) (acc : List S41) (b : ByteArray) (hacc : acc.length ≤ 100000) (t : Int) (R : Option (List S41)) (K : Nat) (H : ∀ k', K ≤ k' → becketref18_Send.l0 k' f from_ os (acc ++ (if t = -1 then toAll from_ b (3 * f + 1).toNat else [])) (wrap64 ((i : Int) + 1)) = R) (k : Nat) (hk : K + 20 ≤ k) :
    becketref18_Send.j2 k f from_ os acc i t from_ t b = R := by
  obtain ⟨k, rfl⟩ : ∃ k', k = k' + 1 := ⟨k - 1, by omega⟩
  rw [becketref18_Send.j2]
  by_cases h : t = -1
  · rw [if_pos h]
    rw [if_pos h] at H
    have := ref_l1 f hf1 hf4 from_ os i acc b hacc R K H (3 * f + 1).toNat k 0 t (by omega) (by omega)
    simpa [toAll] using this
  · rw [if_neg h]
    rw [if_neg h, List.append_nil] at H
    exact H k (by omega)
theorem ref_j1 (f : Int) (hf1 : 1 ≤ f) (hf4 : f ≤ 4) (from_ : Int) (os : List S31) (i : Nat) (acc : List S41) (b : ByteArray) (hacc : acc.length + 1 ≤ 100000) (t : Int) (c : Bool) (R : Option (List S41)) (K : Nat) (H : ∀ k', K ≤ k' → becketref18_Send.l0 k' f from_ os ((acc ++ (if c = true then [⟨from_, t, b⟩] else [])) ++ (if t = -1 then toAll from_ b (3 * f + 1).toNat else [])) (wrap64 ((i : Int) + 1)) = R) (k : Nat) (hk : K + 21 ≤ k) :
    becketref18_Send.j1 k f from_ os acc i t c from_ t b = R := by
  obtain ⟨k, rfl⟩ : ∃ k', k = k' + 1 := ⟨k - 1, by omega⟩
  rw [becketref18_Send.j1]
  cases c with
  | true =>
    rw [if_pos rfl, if_pos (by omega)]
    rw [if_pos rfl] at H
    exact ref_j2 f hf1 hf4 from_ os i _ b (by rw [List.length_append, List.length_singleton]; omega) t R K H k (by omega)
  | false =>
    rw [if_neg (by decide)]
    rw [if_neg (by decide), List.append_nil] at H
    exact ref_j2 f hf1 hf4 from_ os i _ b (by omega) t R K H k (by omega)
theorem refsend_l0 (f : Int) (hf1 : 1 ≤ f) (hf4 : f ≤ 4) (from_ : Int) (os : List S31) (hos : os.length ≤ 1000) : ∀ (q k i : Nat) (acc : List S41), q = os.length - i → i ≤ os.length → acc.length + 13 * q ≤ 90000 → 30 * q + 28010 ≤ k → becketref18_Send.l0 k f from_ os acc i = some (acc ++ sent f from_ (os.drop i))
  | 0, k, i, acc, hq, hi, ha, hk => by
    obtain ⟨k, rfl⟩ : ∃ k', k = k' + 1 := ⟨k - 1, by omega⟩
    have : i = os.length := by omega
    subst this
    rw [becketref18_Send.l0, if_neg (by omega), List.drop_length]
    simp [sent]
  | q + 1, k, i, acc, hq, hi, ha, hk => by
    obtain ⟨k, rfl⟩ : ∃ k', k = k' + 1 := ⟨k - 1, by omega⟩
    have hlt : i < os.length := by omega
    have hd : os.drop i = os[i] :: os.drop (i + 1) := List.drop_eq_getElem_cons hlt
    have hsd : sent f from_ (os.drop i) = sent1 f from_ os[i] ++ sent f from_ (os.drop (i + 1)) := by
      unfold sent
      rw [hd, List.flatMap_cons]
    rw [becketref18_Send.l0, if_pos (by omega), if_pos (by omega), rdO_get os i hlt, MsgP.refmay_f k (by omega), Option.bind_some, hsd]
    generalize ho : os[i] = o at *
    have ih := fun (acc' : List S41) (hacc' : acc'.length ≤ acc.length + 13) (k' : Nat) (hk' : 30 * q + 28010 ≤ k') => refsend_l0 f hf1 hf4 from_ os hos q k' (i + 1) acc' (by omega) (by omega) (by omega) hk'
    have hwi : wrap64 ((i : Int) + 1) = ((i + 1 : Nat) : Int) := MsgP.wz' (by omega) (by omega) (by omega)
    by_cases hmay : MsgP.mayM o.f1.f0 o.f1.f1 o.f1.f2 o.f1.f3 o.f1.f4 o.f1.f5 o.f1.f6 = true
    rotate_left
    · rw [if_neg hmay, hwi, ih acc (by omega) k (by omega)]
      have e : sent1 f from_ o = [] := by unfold sent1 putM; rw [if_neg hmay]
      rw [e, List.nil_append]
    rw [if_pos hmay, MsgP.refPut_f (MsgP.may_ok hmay) k (by omega), Option.bind_some]
    have e : putM o.f1 = some (strOfNums (MsgP.msgE o.f1.f0 o.f1.f1 o.f1.f2 o.f1.f3 o.f1.f4 o.f1.f5 o.f1.f6)) := by unfold putM; rw [if_pos hmay]
    generalize strOfNums (MsgP.msgE o.f1.f0 o.f1.f1 o.f1.f2 o.f1.f3 o.f1.f4 o.f1.f5 o.f1.f6) = b at e ⊢
    have hl := toAll_len from_ b (3 * f + 1).toNat
    have h3 : wrap64 (3 * f) = 3 * f := by unfold wrap64; omega
    have key : ∀ c : Bool, (o.f0 = -1 → c = false) → (c = true ↔ ((100 ≤ o.f0 ∧ o.f0 < 108) ∨ (0 ≤ o.f0 ∧ o.f0 ≤ 3 * f))) → becketref18_Send.j1 k f from_ os acc i o.f0 c from_ o.f0 b = some (acc ++ (sent1 f from_ o ++ sent f from_ (os.drop (i + 1)))) := fun c hc1 hc2 => by
      refine ref_j1 f hf1 hf4 from_ os i acc b (by omega) o.f0 c _ (30 * q + 28010) (fun k' hk' => ?_) k (by omega)
      rw [hwi, ih _ (by
        rw [List.length_append, List.length_append]
        by_cases h1 : o.f0 = -1
        · rw [hc1 h1, if_neg (by decide), if_pos h1]; simp; omega
        · rw [if_neg h1]; split <;> simp) k' hk', List.append_assoc, List.append_assoc]
      congr 2
      rw [← List.append_assoc]
      congr 1
      unfold sent1
      rw [e]
      simp only
      by_cases h1 : o.f0 = -1
      · rw [hc1 h1, if_neg (by decide), if_pos h1, if_pos h1, List.nil_append]
      · rw [if_neg h1, if_neg h1, List.append_nil]
        by_cases h2 : c = true
        · rw [if_pos h2, if_pos (hc2.1 h2)]
        · rw [if_neg h2, if_neg (fun h => h2 (hc2.2 h))]
    rw [h3]
    by_cases g1 : o.f0 ≥ 0
    · rw [if_pos g1]
      by_cases g2 : o.f0 ≤ 3 * f
      · rw [if_pos g2]
        exact key true (fun h => by omega) (by simp; omega)
      · rw [if_neg g2]
        by_cases g3 : o.f0 ≥ 100
        · rw [if_pos g3]
          exact key _ (fun h => by omega) (by simp; omega)
        · rw [if_neg g3]
          exact key false (fun _ => rfl) (by simp; omega)
    · rw [if_neg g1, if_neg (by omega)]
      exact key false (fun _ => rfl) (by simp; omega)
theorem refsend_f (f : Int) (hf1 : 1 ≤ f) (hf4 : f ≤ 4) (from_ : Int) (os : List S31) (hos : os.length ≤ 20) : becketref18_Send.f 30000 f from_ os = some (sent f from_ os) := by
  unfold becketref18_Send.f
  have := refsend_l0 f hf1 hf4 from_ os (by omega) os.length 30000 0 [] (by omega) (by omega) (by simp; omega) (by omega)
  simpa using this
end Go.Proofs.Ytkaoojcafefjjaa.Net
