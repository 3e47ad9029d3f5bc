-- Cut by a program of this session (wip/shake.py) out of a text of this seat: what this claim doesn't reach is struck out. Lean checks it.
import Derived.Test.YtkaoojcafefjjaaRows
import Derived.Test.YtkaoojcafefjjaaLawRowCo
import Derived.Test.YtkaoojcafefjjaaNetL3Co
import Derived.Test.YtkaoojcafefjjaaOpenNetCo
import Derived.WalkKit
import Derived.ProofKit
import Derived.OpenShut
import Derived.ShutString
import Derived.ChangeOld
import Derived.Below
import Derived.SizedLaws
import Derived.DataShut
import Derived.Test.YtkaoojcafefjjaaWSizedCo
namespace Go.Proofs.Ytkaoojcafefjjaa.netOnce
open Go.ChangeShapes Go.WideShapes Go.ChangeAt Go.RowKit Go.Proofs.YtkaoojcafefjjaaW.PrintWords
open Go.ChangeMaps (open_string)
set_option linter.unusedVariables false
def IsRow (k : IntKind) (w : World) (a : Option Addr) (len cap : Nat) (zs : List Int) : Prop :=
  (a = none ∧ len = 0 ∧ cap = 0 ∧ zs = []) ∨
  ∃ x, a = some x ∧ len ≤ cap ∧ cap ≤ maxLen ∧ zs.length = cap ∧ (∀ i, i < zs.length → w.cell? (x.add i) = some (.int k (zs.getD i 0))) ∧ ∀ n ∈ zs, (Lit.int k n).wf = true
theorem own : ownKnob Try.prog.godebug = none := by kernel_rfl
theorem laid : laidOutB Try.prog = true := by kernel_rfl
set_option maxRecDepth 100000 in
theorem lifted (os : Os) (started : os.Started) (H : Type) (enc : TypeId × Value → H) :
    ReturnsInHanded {} Try.checked os 3 .any (Rows.netOnceSpec.pre6 enc Try.prog Try.f3 Rows.netOnceRow.domain false) (Rows.netOnceSpec.post enc Try.prog Try.f3 false true false false) := by
  refine LawRow.lifted (C := Try.checked) own started (by kernel_rfl) Try.func3 rfl (by kernel_rfl) Try.underlying4 laid (by kernel_rfl)
    (fun ds hd => by
      match ds, hd with
      | [d0, d1, d2, d3], _ => rfl)
    (ChangeSpec.witness6 (enc := enc) (C := Try.checked) false ⟨#[], #[.int .i64 0, .int .i64 0, .slice none 0 0, .slice none 0 0], []⟩ 8 (by kernel_rfl) (by kernel_rfl) (by kernel_rfl) (by kernel_rfl)) ?_
  intro W base args ds p hval0 hA0 hsz0
  have hsz : (DataW.weightsEach Try.prog (Try.f3.params.toList) ds).all (· ≤ reachBytes) = true := hsz0
  have hval : ∀ (j : Nat) t v, Try.f3.params[j]? = some t → args[j]? = some v → Value.okWide Try.prog W .any base t v := hval0
  have hA : DataW.TrodAll enc Try.prog W 0 (fun _ => true) true Try.f3.params.toList args.toList ds p := hA0
  rw [Try.params3] at hA hval hsz
  obtain ⟨v0, vs0, d0, ds0, p0, q0, hargs, rfl, rfl, h0, r1⟩ := trodAll_cons hA
  obtain ⟨v1, vs1, d1, ds1, p1, q1, rfl, rfl, rfl, h1, r2⟩ := trodAll_cons r1
  obtain ⟨v2, vs2, d2, ds2, p2, q2, rfl, rfl, rfl, h2, r3⟩ := trodAll_cons r2
  obtain ⟨v3, vs3, d3, ds3, p3, q3, rfl, rfl, rfl, h3, r4⟩ := trodAll_cons r3
  obtain ⟨rfl, rfl, rfl⟩ := trodAll_nil r4
  obtain rfl : args = #[v0, v1, v2, v3] := by cases args; simp_all
  obtain ⟨a0, rfl, rfl, rfl, w0⟩ := open_int Try.underlying3 (hval 0 3 v0 rfl rfl) h0
  have b0 : (-9223372036854775808 : Int) ≤ a0 ∧ a0 ≤ 9223372036854775807 := (Lit.wf_int_iff .i64 a0).1 w0
  obtain ⟨a1, rfl, rfl, rfl, w1⟩ := open_int Try.underlying3 (hval 1 3 v1 rfl rfl) h1
  have b1 : (-9223372036854775808 : Int) ≤ a1 ∧ a1 ≤ 9223372036854775807 := (Lit.wf_int_iff .i64 a1).1 w1
  obtain ⟨A2, n2, c2, rfl⟩ := okWide_slice Try.underlying22 (hval 2 22 v2 rfl rfl)
  obtain ⟨fu2, hf2⟩ := h2
  obtain ⟨l2, B2, e2, he2, hc2, hC2⟩ := Opening.opens_outs enc W fu2 _ _ hf2
  have he2' : [Value.slice A2 n2 c2] = [Value.slice B2 l2.length e2] := he2
  simp only [List.cons.injEq, and_true, Value.slice.injEq] at he2'
  obtain ⟨rfl, rfl, rfl⟩ := he2'
  obtain ⟨A3, n3, c3, rfl⟩ := okWide_slice Try.underlying23 (hval 3 23 v3 rfl rfl)
  obtain ⟨fu3, hf3⟩ := h3
  obtain ⟨l3, B3, e3, he3, hc3, hC3⟩ := Opening.opens_intsR enc W fu3 _ _ hf3
  have he3' : [Value.slice A3 n3 c3] = [Value.slice B3 l3.length e3] := he3
  simp only [List.cons.injEq, and_true, Value.slice.injEq] at he3'
  obtain ⟨rfl, rfl, rfl⟩ := he3'
  exact Net.once_calls a0 a1 A2 c2 l2 A3 c3 l3 W hC2 hC3.1 hC3.2
theorem holds : Rows.NetOnceSaid :=
  OpenClaim.holds_of_wide 3 Try.f3 rfl rfl rfl rfl rfl rfl rfl ⟨rfl, rfl, rfl, rfl, rfl⟩ rfl rfl rfl rfl rfl (by kernel_rfl) Try.func3 (by kernel_rfl)
    (of_decide_eq_true (by kernel_rfl)) (by unfold Func.isWrapper; first | (rw [if_pos (by decide +kernel)]; kernel_rfl) | (rw [if_neg (by decide +kernel)]; exact ⟨rfl, rfl⟩))
    (fun os started H enc _ => lifted os started H enc)
#print axioms holds
end Go.Proofs.Ytkaoojcafefjjaa.netOnce
