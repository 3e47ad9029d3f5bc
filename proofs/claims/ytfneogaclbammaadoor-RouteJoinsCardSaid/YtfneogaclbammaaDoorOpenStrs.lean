/-
  A slice of strings that came in.
-/
import Derived.Test.YtfneogaclbammaaDoorOpenRows
import Derived.Test.YtfneogaclbammaaDoorProg
import Derived.Test.YtfneogaclbammaaDoorWMore
namespace Go.Proofs.YtfneogaclbammaaDoor.Opening
open Go.RowKit Go.Proofs.YtfneogaclbammaaDoorW.PrintWords
theorem opens_strs {H : Type} (enc : TypeId × Value → H) (W : World) : Opens enc Tryd.prog W 27 (fun (xs : List ByteArray) cs => ∃ A c, cs = [.slice A xs.length c] ∧ xs.length ≤ c ∧ Kd.C Kd.string W A xs.length xs) :=
  opens_mono (opens_slice (sz := 1) Tryd.underlying27 (by kernel_rfl) (opens_string Tryd.underlying9)) (fun xs cs ⟨A, c, h1, h2, h3⟩ => ⟨A, c, h1, h2, ReadsRow.imp_ h3 (Below.refl _ _) (fun _ _ h => h.1)⟩)
end Go.Proofs.YtfneogaclbammaaDoor.Opening
