-- Cut by a program of this session (wip/shake.py) out of a text of this seat: what this claim doesn't reach is struck out. Lean checks it.
import Derived.Test.YtpbbgbikebcnbaaPureMACx
namespace Go.Proofs.Ytpbbgbikebcnbaa.MsgP
open Go.RowKit Go.Proofs.Ytpbbgbikebcnbaa.Ms Go.Proofs.Ytpbbgbikebcnbaa.Mw Go.Proofs.Ytpbbgbikebcnbaa.MsgL Go.Proofs.YtpbbgbikebcnbaaW.PrintWords Go.Proofs.YtpbbgbikebcnbaaW.PrintLast Go.Proofs.YtpbbgbikebcnbaaW.PrintMore
set_option linter.unusedVariables false
set_option linter.unusedSimpArgs false
theorem inB_sm {n m : Int} (h : inB n m = true) (hm : m ≤ 1000000) : sm n := by
 unfold inB at h
 simp only [Bool.and_eq_true, decide_eq_true_eq] at h
 exact ⟨h.1, by omega⟩
theorem proofB_ok {p : S95} (h : proofB p = true) : okP p := by
 unfold proofB at h
 simp only [Bool.and_eq_true, decide_eq_true_eq, Bool.not_eq_true', List.any_eq_false, Bool.not_eq_true] at h
 obtain ⟨h1, h2, h3, h4, h5⟩ := h
 refine ⟨inB_sm h1 (by decide), inB_sm h2 (by decide), by omega, by omega, fun x hx => ?_⟩
 have := h5 x hx
 exact inB_sm (by rw [← node_in]; simpa using this) (by decide)
theorem proofsB_ok {l : List S95} (h : proofsB l = true) : l.length ≤ 200 ∧ ∀ p ∈ l, okP p := by
 unfold proofsB at h
 simp only [Bool.and_eq_true, decide_eq_true_eq, Bool.not_eq_true', List.any_eq_false, Bool.not_eq_true] at h
 exact ⟨by omega, fun p hp => proofB_ok (by simpa using h.2 p hp)⟩
theorem changesB_ok {l : List S61} (h : changesB l = true) : l.length ≤ 50 ∧ ∀ c ∈ l, okC c := by
 unfold changesB at h
 simp only [Bool.and_eq_true, decide_eq_true_eq, Bool.not_eq_true', List.any_eq_false, Bool.not_eq_true] at h
 refine ⟨by omega, fun c hc => ?_⟩
 have h1 := h.2 c hc
 unfold changeBad at h1
 simp only [Bool.or_eq_false_iff, Bool.not_eq_false'] at h1
 obtain ⟨g1, g2, g3⟩ := h1
 obtain ⟨g4, g5⟩ := proofsB_ok g3
 exact ⟨inB_sm (m := 12) (by rw [← node_in]; exact g1) (by decide), inB_sm g2 (by decide), g4, g5⟩
theorem may_ok {a b c d : Int} {s : ByteArray} {ps : List S95} {cs : List S61} (h : mayM a b c d s ps cs = true) : OkM a b c d s ps cs := by
 unfold mayM at h
 simp only [Bool.and_eq_true, decide_eq_true_eq] at h
 obtain ⟨⟨h1, h2, h3, h4, h5, h6⟩, ⟨h7, _⟩, h8, _⟩ := h
 obtain ⟨g1, g2⟩ := proofsB_ok h7
 obtain ⟨g3, g4⟩ := changesB_ok h8
 exact ⟨⟨by omega, by omega⟩, inB_sm (m := 12) (by rw [← node_in]; exact h3) (by decide), inB_sm h4 (by decide), inB_sm h5 (by split <;> decide), by omega, g1, g2, g3, g4⟩
theorem put_any (a b c d : Int) (s : ByteArray) (ps : List S95) (cs : List S61) (k : Nat) (hk : 600 ≤ k) : msg_Put.f k a b c d s ps cs = some (if mayM a b c d s ps cs = true then (msgE a b c d s ps cs, none) else ([], some 1)) := by
 by_cases hm : mayM a b c d s ps cs = true
 ·exact put_f (may_ok hm) k hk
 ·unfold msg_Put.f
  rw [check_f k (by omega), Option.bind_some, if_neg hm, if_neg hm, if_neg (show ¬ (some (1 : Int)).isNone = true from by decide)]
  rfl
end Go.Proofs.Ytpbbgbikebcnbaa.MsgP
