/-
  VoteMore: for every input the law tells true and leaves what came in as it was. No condition besides the given statement's own.
-/
import Derived.Test.YtbnhoacchibbnaaRows
import Derived.Test.YtbnhoacchibbnaaLawRow
import Derived.Test.YtbnhoacchibbnaaPureVoteMore
import Derived.Test.YtbnhoacchibbnaaOpenVotes
import Derived.WalkKit
import Derived.ProofKit
import Derived.OpenShut
import Derived.ShutString
import Derived.ChangeOld
import Derived.Below
import Derived.SizedLaws
import Derived.DataShut
import Derived.Test.YtbnhoacchibbnaaWSized
namespace Go.Proofs.Ytbnhoacchibbnaa.voteMore
open Go.ChangeShapes Go.WideShapes Go.ChangeAt Go.RowKit Go.Proofs.YtbnhoacchibbnaaW.PrintWords
open Go.ChangeMaps (open_string)
set_option linter.unusedVariables false
def IsRow (k : IntKind) (w : World) (a : Option Addr) (len cap : Nat) (zs : List Int) : Prop :=
  (a = none ∧ len = 0 ∧ cap = 0 ∧ zs = []) ∨
  ∃ x, a = some x ∧ len ≤ cap ∧ cap ≤ maxLen ∧ zs.length = cap ∧ (∀ i, i < zs.length → w.cell? (x.add i) = some (.int k (zs.getD i 0))) ∧ ∀ n ∈ zs, (Lit.int k n).wf = true
theorem own : ownKnob Try.prog.godebug = none := by kernel_rfl
theorem laid : laidOutB Try.prog = true := by kernel_rfl
set_option maxRecDepth 100000 in
theorem lifted (os : Os) (started : os.Started) (H : Type) (enc : TypeId × Value → H) :
    ReturnsInHanded {} Try.checked os 12 .any (Rows.voteMoreSpec.pre6 enc Try.prog Try.f12 Rows.voteMoreRow.domain false) (Rows.voteMoreSpec.post enc Try.prog Try.f12 false true false false) := by
  refine LawRow.lifted (C := Try.checked) own started (by kernel_rfl) Try.func12 rfl (by kernel_rfl) Try.underlying4 laid (by kernel_rfl)
    (fun ds hd => by
      match ds, hd with
      | [d0, d1, d2, d3], _ => rfl)
    (ChangeSpec.witness6 (enc := enc) (C := Try.checked) false ⟨#[], #[.slice none 0 0, .agg #[.int .i64 0, .string ByteArray.empty], .string ByteArray.empty, .int .i64 0], []⟩ 8 (by kernel_rfl) (by kernel_rfl) (by kernel_rfl) (by kernel_rfl)) ?_
  intro W base args ds p hval0 hA0 hsz0
  have hsz : (DataW.weightsEach Try.prog (Try.f12.params.toList) ds).all (· ≤ reachBytes) = true := hsz0
  have hval : ∀ (j : Nat) t v, Try.f12.params[j]? = some t → args[j]? = some v → Value.okWide Try.prog W .any base t v := hval0
  have hA : DataW.TrodAll enc Try.prog W 0 (fun _ => true) true Try.f12.params.toList args.toList ds p := hA0
  rw [Try.params12] at hA hval hsz
  obtain ⟨v0, vs0, d0, ds0, p0, q0, hargs, rfl, rfl, h0, r1⟩ := trodAll_cons hA
  obtain ⟨v1, vs1, d1, ds1, p1, q1, rfl, rfl, rfl, h1, r2⟩ := trodAll_cons r1
  obtain ⟨v2, vs2, d2, ds2, p2, q2, rfl, rfl, rfl, h2, r3⟩ := trodAll_cons r2
  obtain ⟨v3, vs3, d3, ds3, p3, q3, rfl, rfl, rfl, h3, r4⟩ := trodAll_cons r3
  obtain ⟨rfl, rfl, rfl⟩ := trodAll_nil r4
  obtain rfl : args = #[v0, v1, v2, v3] := by cases args; simp_all
  obtain ⟨A0, n0, c0, rfl⟩ := okWide_slice Try.underlying80 (hval 0 80 v0 rfl rfl)
  obtain ⟨fu0, hf0⟩ := h0
  obtain ⟨l0, B0, e0, he0, hc0, hC0⟩ := Opening.opens_votes enc W fu0 _ _ hf0
  have he0' : [Value.slice A0 n0 c0] = [Value.slice B0 l0.length e0] := he0
  simp only [List.cons.injEq, and_true, Value.slice.injEq] at he0'
  obtain ⟨rfl, rfl, rfl⟩ := he0'
  obtain ⟨cs1, rfl, hs1⟩ := okWide_struct Try.underlying87 (hval 1 87 v1 rfl rfl)
  obtain ⟨fu1, hf1⟩ := h1
  obtain ⟨y1, he1⟩ := Opening.opens_vote_v enc W fu1 _ _ hf1
  have he1' : cs1.toList = [.int .i64 y1.f0, .string y1.f1] := he1
  obtain rfl : cs1 = ([.int .i64 y1.f0, .string y1.f1]).toArray := by rw [← he1', Array.toArray_toList]
  obtain ⟨a2, rfl, rfl, rfl, w2⟩ := open_string Try.underlying9 (hval 2 9 v2 rfl rfl) h2
  obtain ⟨a3, rfl, rfl, rfl, w3⟩ := open_int Try.underlying3 (hval 3 3 v3 rfl rfl) h3
  have b3 : (-9223372036854775808 : Int) ≤ a3 ∧ a3 ≤ 9223372036854775807 := (Lit.wf_int_iff .i64 a3).1 w3
  obtain ⟨k, hk⟩ := PureVoteMore.VoteMore l0 y1.f0 y1.f1 a2 a3
  exact Vo.becketlaw11_VoteMore.calls k A0 c0 l0 y1.f0 y1.f1 a2 a3 true W hC0 hc0 hk
theorem holds : Rows.VoteMoreSaid :=
  OpenClaim.holds_of_wide 12 Try.f12 rfl rfl rfl rfl rfl rfl rfl ⟨rfl, rfl, rfl, rfl, rfl⟩ rfl rfl rfl rfl rfl (by kernel_rfl) Try.func12 (by kernel_rfl)
    (of_decide_eq_true (by kernel_rfl)) (by unfold Func.isWrapper; first | (rw [if_pos (by decide +kernel)]; kernel_rfl) | (rw [if_neg (by decide +kernel)]; exact ⟨rfl, rfl⟩))
    (fun os started H enc _ => lifted os started H enc)
#print axioms holds
end Go.Proofs.Ytbnhoacchibbnaa.voteMore
