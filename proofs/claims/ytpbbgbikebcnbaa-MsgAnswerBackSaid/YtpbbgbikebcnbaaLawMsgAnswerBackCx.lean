-- Cut by a program of this session (wip/shake.py) out of a text of this seat: what this claim doesn't reach is struck out. Lean checks it.
import Derived.Test.YtpbbgbikebcnbaaRows
import Derived.Test.YtpbbgbikebcnbaaLawRowCx
import Derived.Test.YtpbbgbikebcnbaaPureNGCx
import Derived.Test.YtpbbgbikebcnbaaWSizedCx
import Derived.WalkKit
import Derived.ProofKit
import Derived.OpenShut
import Derived.ShutString
import Derived.ChangeOld
import Derived.Below
import Derived.SizedLaws
import Derived.DataShut
namespace Go.Proofs.Ytpbbgbikebcnbaa.msgAnswerBack
open Go.ChangeShapes Go.WideShapes Go.ChangeAt Go.RowKit Go.Proofs.YtpbbgbikebcnbaaW.PrintWords
open Go.ChangeMaps (open_string)
set_option linter.unusedVariables false
def IsRow (k : IntKind) (w : World) (a : Option Addr) (len cap : Nat) (zs : List Int) : Prop :=
 (a = none ∧ len = 0 ∧ cap = 0 ∧ zs = []) ∨
 ∃ x, a = some x ∧ len ≤ cap ∧ cap ≤ maxLen ∧ zs.length = cap ∧ (∀ i, i < zs.length → w.cell? (x.add i) = some (.int k (zs.getD i 0))) ∧ ∀ n ∈ zs, (Lit.int k n).wf = true
theorem own : ownKnob Try.prog.godebug = none := by kernel_rfl
theorem laid : laidOutB Try.prog = true := by kernel_rfl
set_option maxRecDepth 100000 in
theorem lifted (os : Os) (started : os.Started) (H : Type) (enc : TypeId × Value → H) :
  ReturnsInHanded {} Try.checked os 9 .any (Rows.msgAnswerBackSpec.pre6 enc Try.prog Try.f9 Rows.msgAnswerBackRow.domain false) (Rows.msgAnswerBackSpec.post enc Try.prog Try.f9 false true false false) := by
 refine LawRow.lifted (C := Try.checked) own started (by kernel_rfl) Try.func9 rfl (by kernel_rfl) Try.underlying4 laid (by kernel_rfl)
  (fun ds hd => by
   match ds, hd with
   | [d0, d1], _ => rfl)
  (ChangeSpec.witness6 (enc := enc) (C := Try.checked) false ⟨#[], #[.agg #[.int .i64 0, .int .i64 0, .slice none 0 0, .slice none 0 0, .slice none 0 0], .string ByteArray.empty], []⟩ 8 (by kernel_rfl) (by kernel_rfl) (by kernel_rfl) (by kernel_rfl)) ?_
 intro W base args ds p hval0 hA0 hsz0
 have hsz : (DataW.weightsEach Try.prog (Try.f9.params.toList) ds).all (· ≤ reachBytes) = true := hsz0
 have hval : ∀ (j : Nat) t v, Try.f9.params[j]? = some t → args[j]? = some v → Value.okWide Try.prog W .any base t v := hval0
 have hA : DataW.TrodAll enc Try.prog W 0 (fun _ => true) true Try.f9.params.toList args.toList ds p := hA0
 rw [Try.params9] at hA hval hsz
 obtain ⟨v0, vs0, d0, ds0, p0, q0, hargs, rfl, rfl, h0, r1⟩ := trodAll_cons hA
 obtain ⟨v1, vs1, d1, ds1, p1, q1, rfl, rfl, rfl, h1, r2⟩ := trodAll_cons r1
 obtain ⟨rfl, rfl, rfl⟩ := trodAll_nil r2
 obtain rfl : args = #[v0, v1] := by cases args; simp_all
 obtain ⟨cs0, rfl, hs0⟩ := okWide_struct Try.underlying48 (hval 0 48 v0 rfl rfl)
 obtain ⟨fu0, hf0⟩ := h0
 obtain ⟨y0, A0, c0, B0, e0, C0, f0, he0, hc0, hC0, hd0, hD0, hf_0, hF0⟩ := Opening.opens_answer enc W fu0 _ _ hf0
 have hx0 := congrArg List.toArray (show cs0.toList = _ from he0)
 rw [Array.toArray_toList] at hx0
 subst hx0
 obtain ⟨a1, rfl, rfl, rfl, w1⟩ := open_string Try.underlying9 (hval 1 9 v1 rfl rfl) h1
 obtain ⟨k, hk⟩ := MsgP.MsgAnswerBack y0.1 y0.2.1 y0.2.2.1 y0.2.2.2.1 y0.2.2.2.2 a1
 exact Ms.becketlaw12_MsgAnswerBack.calls k _ _ A0 c0 _ B0 e0 _ C0 f0 _ a1 true W hC0 hc0 hD0 hd0 hF0 hf_0 hk
theorem holds : Rows.MsgAnswerBackSaid :=
 OpenClaim.holds_of_wide 9 Try.f9 rfl rfl rfl rfl rfl rfl rfl ⟨rfl, rfl, rfl, rfl, rfl⟩ rfl rfl rfl rfl rfl (by kernel_rfl) Try.func9 (by kernel_rfl)
  (of_decide_eq_true (by kernel_rfl)) (by unfold Func.isWrapper; first | (rw [if_pos (by decide +kernel)]; kernel_rfl) | (rw [if_neg (by decide +kernel)]; exact ⟨rfl, rfl⟩))
  (fun os started H enc _ => lifted os started H enc)
#print axioms holds
end Go.Proofs.Ytpbbgbikebcnbaa.msgAnswerBack
