/-
  A slice of slices of bytes that came in.
-/
import Derived.Test.YtbnhoacchibbnaaOpenRows
import Derived.Test.YtbnhoacchibbnaaLog6
namespace Go.Proofs.Ytbnhoacchibbnaa.Opening
open Go.RowKit Go.Proofs.YtbnhoacchibbnaaW.PrintWords
theorem mem_R {α : Type} {R : α → List Value → Prop} {sz : Nat} {w : World} {A : Option Addr} {n : Nat} {ps : List α} (h : ReadsRow R sz w A n ps) : ∀ p ∈ ps, ∃ cs, R p cs := by
  intro p hp
  obtain ⟨i, hi, rfl⟩ := List.getElem_of_mem hp
  obtain ⟨ad, _, hc⟩ := h.2.2 (by have := h.1; omega)
  obtain ⟨c, _, hr, _⟩ := hc i _ (List.getElem?_eq_getElem hi)
  exact ⟨c, hr⟩
theorem opens_bytes {H : Type} (enc : TypeId × Value → H) (W : World) : Opens enc Try.prog W 22 (fun (m : List Int) cs => (Kd.slice 5 (Kd.int .u8)).K W m cs ∧ Log.bytesOk m) := by
  refine opens_mono (opens_slice (sz := 1) Try.underlying22 (by kernel_rfl) (opens_int Try.underlying5)) ?_
  rintro m cs ⟨A, c, h1, h2, h3⟩
  refine ⟨⟨A, c, h1, h2, ReadsRow.imp_ h3 (Below.refl _ _) (fun _ _ h => h.1)⟩, fun x hx => ?_⟩
  obtain ⟨_, _, h4⟩ := mem_R h3 x hx
  exact h4
theorem opens_recs {H : Type} (enc : TypeId × Value → H) (W : World) : Opens enc Try.prog W 34 (fun (xs : List (List Int)) cs => ∃ A c, cs = [.slice A xs.length c] ∧ xs.length ≤ c ∧ Log.Recs W A xs.length xs) := by
  refine opens_mono (opens_slice (sz := 1) Try.underlying34 (by kernel_rfl) (opens_bytes enc W)) ?_
  rintro xs cs ⟨A, c, h1, h2, h3⟩
  refine ⟨A, c, h1, h2, ReadsRow.imp_ h3 (Below.refl _ _) (fun _ _ h => h.1), fun m hm => ?_⟩
  obtain ⟨_, _, h4⟩ := mem_R h3 m hm
  exact h4
end Go.Proofs.Ytbnhoacchibbnaa.Opening
