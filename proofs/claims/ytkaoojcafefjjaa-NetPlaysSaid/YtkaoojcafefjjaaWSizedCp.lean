-- Cut by a program of this session (wip/shake.py) out of the print's words: what this claim doesn't reach is struck out. Lean checks it.
import Derived.Test.YtkaoojcafefjjaaOpenNetCp
import Derived.Test.YtkaoojcafefjjaaNetL4Cp
import Derived.SizedLaws
import Derived.ChangeSlices
namespace Go.Proofs.Ytkaoojcafefjjaa.Opening
open Go.RowKit Go.Proofs.Ytkaoojcafefjjaa.Ms Go.Proofs.YtkaoojcafefjjaaW.PrintWords Go.Proofs.YtkaoojcafefjjaaW.PrintLast Go.Proofs.YtkaoojcafefjjaaW.PrintMore
set_option maxRecDepth 100000 in
theorem opens_deed {H : Type} (enc : TypeId × Value → H) (W : World) : Opens enc Try.prog W 51 (Net.DeedR W) := by
  refine opens_mono (opens_struct4 Try.underlying51 (opens_int Try.underlying3) (opens_int Try.underlying3) (opens_int Try.underlying3) (opens_outs enc W)) ?_
  rintro ⟨a, b, c, l⟩ cs ⟨hl, r0, r1, r2, r3⟩
  have hl3 : cs.length = 4 := hl.trans (by kernel_rfl)
  match cs, hl3 with
  | [u0, u1, u2, u3], _ =>
    have q0 : [u0] = [.int .i64 a] ∧ IntKind.i64.min ≤ a ∧ a ≤ IntKind.i64.max := r0
    have q1 : [u1] = [.int .i64 b] ∧ _ := r1
    have q2 : [u2] = [.int .i64 c] ∧ _ := r2
    obtain ⟨A, cp, q3, h3, h4⟩ : ∃ A cp, [u3] = [.slice A l.length cp] ∧ l.length ≤ cp ∧ Kd.C k31 W A l.length l := r3
    obtain ⟨q0, q01⟩ := q0
    obtain ⟨q1, _⟩ := q1
    obtain ⟨q2, _⟩ := q2
    simp only [List.cons.injEq, and_true] at q0 q1 q2 q3
    subst q0 q1 q2 q3
    exact ⟨A, cp, rfl, q01, h3, h4⟩
theorem opens_deeds {H : Type} (enc : TypeId × Value → H) (W : World) : Opens enc Try.prog W 48 (fun (xs : List (Int × Int × Int × List S31)) cs => ∃ A c, cs = [.slice A xs.length c] ∧ xs.length ≤ c ∧ Net.Deeds W A xs.length xs) :=
  opens_slice (sz := 4) Try.underlying48 (by kernel_rfl) (opens_deed enc W)
end Go.Proofs.Ytkaoojcafefjjaa.Opening

namespace Go.Proofs.YtkaoojcafefjjaaW.PrintWords
open Go.ChangeShapes Go.WideShapes
end Go.Proofs.YtkaoojcafefjjaaW.PrintWords
