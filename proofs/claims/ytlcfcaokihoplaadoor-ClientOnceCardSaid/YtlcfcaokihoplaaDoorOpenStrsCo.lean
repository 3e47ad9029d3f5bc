-- Cut by a program of this session (wip/shake.py) out of a text of this seat: what this claim doesn't reach is struck out. Lean checks it.
import Derived.Test.YtlcfcaokihoplaaDoorOpenRowsCo
import Derived.Test.YtlcfcaokihoplaaDoorProg
import Derived.Test.YtlcfcaokihoplaaDoorWMoreCo
namespace Go.Proofs.YtlcfcaokihoplaaDoor.Opening
open Go.RowKit Go.Proofs.YtlcfcaokihoplaaDoorW.PrintWords
theorem opens_strs {H : Type} (enc : TypeId × Value → H) (W : World) : Opens enc Tryd.prog W 22 (fun (xs : List ByteArray) cs => ∃ A c, cs = [.slice A xs.length c] ∧ xs.length ≤ c ∧ Kd.C Kd.string W A xs.length xs) :=
  opens_mono (opens_slice (sz := 1) Tryd.underlying22 (by kernel_rfl) (opens_string Tryd.underlying9)) (fun xs cs ⟨A, c, h1, h2, h3⟩ => ⟨A, c, h1, h2, ReadsRow.imp_ h3 (Below.refl _ _) (fun _ _ h => h.1)⟩)
end Go.Proofs.YtlcfcaokihoplaaDoor.Opening
