/-
  A slice of the log's deeds that came in.
-/
import Derived.Test.YtbnhoacchibbnaaOpenRecs
import Derived.Test.YtbnhoacchibbnaaLog9
namespace Go.Proofs.Ytbnhoacchibbnaa.Opening
open Go.RowKit Go.Proofs.YtbnhoacchibbnaaW.PrintWords
set_option maxRecDepth 100000 in
theorem opens_deed {H : Type} (enc : TypeId × Value → H) (W : World) : Opening.Opens enc Try.prog W 41 (Log.DeedR W) := by
  refine Opening.opens_mono (Opening.opens_struct3 Try.underlying41 (Opening.opens_int Try.underlying3) (Opening.opens_int Try.underlying3) (Opening.opens_slice (sz := 1) Try.underlying22 (by kernel_rfl) (Opening.opens_int Try.underlying5))) ?_
  rintro ⟨a, b, l⟩ cs ⟨hl, r0, r1, r2⟩
  have hl3 : cs.length = 3 := hl.trans (by kernel_rfl)
  match cs, hl3 with
  | [u0, u1, u2], _ =>
    have q0 : [u0] = [.int .i64 a] ∧ IntKind.i64.min ≤ a ∧ a ≤ IntKind.i64.max := r0
    have q1 : [u1] = [.int .i64 b] ∧ IntKind.i64.min ≤ b ∧ b ≤ IntKind.i64.max := r1
    obtain ⟨A, c, q2, q3, q4⟩ : ∃ A c, [u2] = [.slice A l.length c] ∧ l.length ≤ c ∧ ReadsRow (fun (n : Int) cs => cs = [.int .u8 n] ∧ IntKind.u8.min ≤ n ∧ n ≤ IntKind.u8.max) 1 W A l.length l := r2
    obtain ⟨q0, q01⟩ := q0
    obtain ⟨q1, q11⟩ := q1
    simp only [List.cons.injEq, and_true] at q0 q1 q2
    subst q0 q1 q2
    exact ⟨A, c, rfl, q01, q11, q3, ReadsRow.imp_ q4 (Below.refl _ _) (fun _ _ h => h.1), fun x hx => by
      obtain ⟨_, _, h4⟩ := mem_R q4 x hx
      exact h4⟩
theorem opens_deeds {H : Type} (enc : TypeId × Value → H) (W : World) : Opening.Opens enc Try.prog W 39 (fun (xs : List (Int × Int × List Int)) cs => ∃ A c, cs = [.slice A xs.length c] ∧ xs.length ≤ c ∧ Log.Deeds W A xs.length xs) :=
  Opening.opens_slice (sz := 3) Try.underlying39 (by kernel_rfl) (opens_deed enc W)
end Go.Proofs.Ytbnhoacchibbnaa.Opening
