-- Cut by a program of this session (wip/shake.py) out of a text of this seat: what this claim doesn't reach is struck out. Lean checks it.
import Derived.Test.YtkaoojcafefjjaaPureMBCp
import Derived.Lib.Hide
import Derived.BigRegion
namespace Go.Proofs.Ytkaoojcafefjjaa.Net
open Go.RowKit Go.Proofs.Ytkaoojcafefjjaa.Ms Go.Proofs.YtkaoojcafefjjaaW.PrintWords Go.Proofs.YtkaoojcafefjjaaW.PrintLast Go.Proofs.YtkaoojcafefjjaaW.PrintMore
attribute [local go_sem] Go.Proofs.Ytkaoojcafefjjaa.Ms.eqlErr Go.Proofs.Ytkaoojcafefjjaa.Ms.neqErr Go.Proofs.Ytkaoojcafefjjaa.Ms.eqlErrNil Go.Proofs.Ytkaoojcafefjjaa.Ms.neqErrNil
set_option linter.unusedVariables false
set_option linter.unusedSimpArgs false
def putM (m : S29) : Option ByteArray := if MsgP.mayM m.f0 m.f1 m.f2 m.f3 m.f4 m.f5 m.f6 = true then some (strOfNums (MsgP.msgE m.f0 m.f1 m.f2 m.f3 m.f4 m.f5 m.f6)) else none
def toAll (from_ : Int) (b : ByteArray) (n : Nat) : List S41 := (List.range n).filterMap fun i : Nat => if (i : Int) = from_ then none else some ⟨from_, (i : Int), b⟩
def sent1 (f from_ : Int) (o : S31) : List S41 := match putM o.f1 with
  | none => []
  | some b => if o.f0 = -1 then toAll from_ b (3 * f + 1).toNat else if (100 ≤ o.f0 ∧ o.f0 < 108) ∨ (0 ≤ o.f0 ∧ o.f0 ≤ 3 * f) then [⟨from_, o.f0, b⟩] else []
def sent (f from_ : Int) (os : List S31) : List S41 := os.flatMap (sent1 f from_)
theorem toAll_len (from_ : Int) (b : ByteArray) (n : Nat) : (toAll from_ b n).length ≤ n := by
  have h := List.length_filterMap_le (fun i : Nat => if (i : Int) = from_ then none else some (⟨from_, (i : Int), b⟩ : S41)) (List.range n)
  rw [List.length_range] at h
  exact h
theorem toAll_succ (from_ : Int) (b : ByteArray) (n : Nat) : toAll from_ b (n + 1) = toAll from_ b n ++ (if (n : Int) = from_ then [] else [⟨from_, (n : Int), b⟩]) := by
  unfold toAll
  rw [List.range_succ, List.filterMap_append]
  congr 1
  by_cases h : (n : Int) = from_
  · simp [h]
  · simp [h]
theorem sent1_len {f : Int} (hf : f ≤ 4) (from_ : Int) (o : S31) : (sent1 f from_ o).length ≤ 13 := by
  unfold sent1
  split
  · simp
  · split
    · have := toAll_len from_ ‹ByteArray› (3 * f + 1).toNat
      omega
    · split <;> simp
theorem sent_len {f : Int} (hf : f ≤ 4) (from_ : Int) : ∀ os : List S31, (sent f from_ os).length ≤ 13 * os.length
  | [] => by simp [sent]
  | o :: r => by
    have h1 := sent1_len hf from_ o
    have h2 := sent_len hf from_ r
    unfold sent at h2 ⊢
    rw [List.flatMap_cons, List.length_append, List.length_cons]
    omega
theorem sent_succ (f from_ : Int) (os : List S31) (i : Nat) (hi : i < os.length) : sent f from_ (os.take (i + 1)) = sent f from_ (os.take i) ++ sent1 f from_ os[i] := by
  unfold sent
  rw [← List.take_append_getElem hi, List.flatMap_append]
  simp
theorem rdO_get (xs : List S31) (i : Nat) (h : i < xs.length) : rd_T31 xs (i : Int) = xs[i] := by
  unfold rd_T31
  rw [Int.toNat_natCast, List.getD_eq_getElem?_getD, List.getElem?_eq_getElem h]
  rfl
end Go.Proofs.Ytkaoojcafefjjaa.Net
