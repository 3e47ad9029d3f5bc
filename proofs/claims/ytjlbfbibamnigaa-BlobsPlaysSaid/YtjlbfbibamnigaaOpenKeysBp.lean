-- Cut by a program of this session (wip/shake.py) out of a text of this seat: what this claim doesn't reach is struck out. Lean checks it.
import Derived.Test.YtjlbfbibamnigaaOpenRowsBp
import Derived.Test.YtjlbfbibamnigaaProg
import Derived.Test.YtjlbfbibamnigaaWMoreBp
namespace Go.Proofs.Ytjlbfbibamnigaa.Opening
open Go.RowKit Go.Proofs.YtjlbfbibamnigaaW.PrintWords
theorem opens_keys {H : Type} (enc : TypeId × Value → H) (W : World) : Opens enc Try.prog W 22 (fun (xs : List ByteArray) cs => ∃ A c, cs = [.slice A xs.length c] ∧ xs.length ≤ c ∧ Kd.C Kd.string W A xs.length xs ∧ ∀ x ∈ xs, x.size ≤ maxLen) :=
  opens_mono (opens_slice (sz := 1) Try.underlying22 (by kernel_rfl) (opens_string Try.underlying9)) (fun xs cs ⟨A, c, h1, h2, h3⟩ => ⟨A, c, h1, h2, ReadsRow.imp_ h3 (Below.refl _ _) (fun _ _ h => h.1), fun x hx => by
    obtain ⟨j, hlt, hj⟩ := List.mem_iff_getElem.1 hx
    obtain ⟨_, _, hne⟩ := h3
    have hx0 : 0 < xs.length := by omega
    obtain ⟨ad, _, hr⟩ := hne hx0
    obtain ⟨cs, _, ⟨_, hs⟩, _⟩ := hr j x (by rw [List.getElem?_eq_getElem hlt, hj])
    exact hs⟩)
end Go.Proofs.Ytjlbfbibamnigaa.Opening
