/-
  A slice of strings that came in.
-/
import Derived.Test.YtbnhoacchibbnaaOpenRows
import Derived.Test.YtbnhoacchibbnaaProg
import Derived.Test.YtbnhoacchibbnaaWMore
namespace Go.Proofs.Ytbnhoacchibbnaa.Opening
open Go.RowKit Go.Proofs.YtbnhoacchibbnaaW.PrintWords
theorem opens_strs {H : Type} (enc : TypeId × Value → H) (W : World) : Opens enc Try.prog W 89 (fun (xs : List ByteArray) cs => ∃ A c, cs = [.slice A xs.length c] ∧ xs.length ≤ c ∧ Kd.C Kd.string W A xs.length xs) :=
  opens_mono (opens_slice (sz := 1) Try.underlying89 (by kernel_rfl) (opens_string Try.underlying9)) (fun xs cs ⟨A, c, h1, h2, h3⟩ => ⟨A, c, h1, h2, ReadsRow.imp_ h3 (Below.refl _ _) (fun _ _ h => h.1)⟩)
end Go.Proofs.Ytbnhoacchibbnaa.Opening
