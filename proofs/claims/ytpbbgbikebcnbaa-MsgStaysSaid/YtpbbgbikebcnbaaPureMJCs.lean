-- Cut by a program of this session (wip/shake.py) out of a text of this seat: what this claim doesn't reach is struck out. Lean checks it.
import Derived.Test.YtpbbgbikebcnbaaPureMICs
import Derived.Test.YtpbbgbikebcnbaaMsgOCs
namespace Go.Proofs.Ytpbbgbikebcnbaa.MsgP
open Go.RowKit Go.Proofs.Ytpbbgbikebcnbaa.Ms Go.Proofs.Ytpbbgbikebcnbaa.Mw Go.Proofs.Ytpbbgbikebcnbaa.MsgL Go.Proofs.YtpbbgbikebcnbaaW.PrintWords Go.Proofs.YtpbbgbikebcnbaaW.PrintLast Go.Proofs.YtpbbgbikebcnbaaW.PrintMore
set_option linter.unusedVariables false
set_option linter.unusedSimpArgs false
theorem copied_l0 (l : List S95) (hl : l.length ≤ 200) (hf : ∀ p ∈ l, p.f3.length ≤ 100) : ∀ (q k i : Nat), q = l.length - i → i ≤ l.length → q + 1 ≤ k → becketref12_copied.l0 k l (l.take i) i = some l
  | 0, k, i, hq, hi, hk => by
    obtain ⟨k, rfl⟩ : ∃ k', k = k' + 1 := ⟨k - 1, by omega⟩
    have : i = l.length := by omega
    subst this
    rw [becketref12_copied.l0, if_neg (by omega), List.take_length]
  | q + 1, k, i, hq, hi, hk => by
    obtain ⟨k, rfl⟩ : ∃ k', k = k' + 1 := ⟨k - 1, by omega⟩
    have hlt : i < l.length := by omega
    have ht : l.take (i + 1) = l.take i ++ [l[i]] := (List.take_append_getElem hlt).symm
    have ih := copied_l0 l hl hf q k (i + 1) (by omega) (by omega) (by omega)
    have h3 := hf _ (List.getElem_mem hlt)
    have hlen : (l.take i).length = i := by rw [List.length_take]; omega
    rw [becketref12_copied.l0, if_pos (by omega), if_pos (by omega), rdP_get l i hlt, Option.bind_some, if_pos (by rw [List.length_nil]; omega), if_pos (by omega), wz' (z := (i : Int) + 1) (y := ((i + 1 : Nat) : Int)) (by omega) (by omega) (by omega), List.nil_append, ← ht]
    exact ih
theorem copied_f (l : List S95) (hl : l.length ≤ 200) (hf : ∀ p ∈ l, p.f3.length ≤ 100) (k : Nat) (hk : 201 ≤ k) : becketref12_copied.f k l = some l := copied_l0 l hl hf l.length k 0 (by omega) (by omega) (by omega)
theorem shortPs_iff {l : List S95} (h : shortPs l = true) : l.length ≤ 200 ∧ ∀ p ∈ l, p.f3.length ≤ 100 := by
  unfold shortPs at h
  simp only [Bool.and_eq_true, decide_eq_true_eq, List.all_eq_true] at h
  exact ⟨h.1, fun p hp => (h.2 p hp).2⟩
theorem changes_l0 (l : List S61) (hl : l.length ≤ 50) (hf : ∀ c ∈ l, shortPs c.f2 = true) : ∀ (q k i : Nat), q = l.length - i → i ≤ l.length → q + 202 ≤ k → becketref12_Changes.l0 k l (l.take i) i = some l
  | 0, k, i, hq, hi, hk => by
    obtain ⟨k, rfl⟩ : ∃ k', k = k' + 1 := ⟨k - 1, by omega⟩
    have : i = l.length := by omega
    subst this
    rw [becketref12_Changes.l0, if_neg (by omega), List.take_length]
  | q + 1, k, i, hq, hi, hk => by
    obtain ⟨k, rfl⟩ : ∃ k', k = k' + 1 := ⟨k - 1, by omega⟩
    have hlt : i < l.length := by omega
    have ht : l.take (i + 1) = l.take i ++ [l[i]] := (List.take_append_getElem hlt).symm
    have ih := changes_l0 l hl hf q k (i + 1) (by omega) (by omega) (by omega)
    have h3 := shortPs_iff (hf _ (List.getElem_mem hlt))
    have hlen : (l.take i).length = i := by rw [List.length_take]; omega
    rw [becketref12_Changes.l0, if_pos (by omega), if_pos (by omega), rdC_get l i hlt, copied_f _ h3.1 h3.2 k (by omega), Option.bind_some, if_pos (by omega), wz' (z := (i : Int) + 1) (y := ((i + 1 : Nat) : Int)) (by omega) (by omega) (by omega), ← ht]
    exact ih
theorem Copy_f (a b c d : Int) (s : ByteArray) (ps : List S95) (cs : List S61) (hs : shortM s ps cs = true) (k : Nat) (hk : 300 ≤ k) : becketref12_Copy.f k a b c d s ps cs = some (a, b, c, d, s, ps, cs) := by
  unfold shortM at hs
  simp only [Bool.and_eq_true, decide_eq_true_eq, List.all_eq_true] at hs
  have h1 := shortPs_iff hs.1
  have h2 : becketref12_Changes.f k cs = some cs := changes_l0 cs hs.2.2.1 hs.2.2.2 cs.length k 0 (by omega) (by omega) (by omega)
  unfold becketref12_Copy.f
  rw [copied_f ps h1.1 h1.2 k (by omega), Option.bind_some, h2, Option.bind_some]
end Go.Proofs.Ytpbbgbikebcnbaa.MsgP
