/-
  The pure statements of the layer route, fourth part: RouteUnder. Conditions: those of the given statements, none besides.
-/
import Derived.Test.YtfneogaclbammaaDoorPureRoute3
namespace Go.Proofs.YtfneogaclbammaaDoor.PureRoute
open Go.RowKit Go.Proofs.YtfneogaclbammaaDoor.Route Go.Proofs.YtfneogaclbammaaDoor.Ro Go.Proofs.YtfneogaclbammaaDoorW.PrintWords Go.Proofs.YtfneogaclbammaaDoorW.PrintLast Go.Proofs.YtfneogaclbammaaDoorW.PrintMore
set_option linter.unusedSimpArgs false
set_option linter.unusedVariables false
/-! ### the head, RouteUnder -/
set_option maxRecDepth 100000 in
theorem up_f : becketlaw02_up.f = some true := by decide +kernel
theorem RouteUnder (a b : ByteArray) : ∃ k, becketlaw02_RouteUnder.f k a b = some true := by
  refine ⟨40000 + 1, ?_⟩
  unfold becketlaw02_RouteUnder.f
  rw [up_f, Option.bind_some]
  by_cases h1 : (a.size : Int) > 2000
  · rw [if_pos h1]; simp [becketlaw02_RouteUnder.j0]
  rw [if_neg h1]
  by_cases h2 : (b.size : Int) > 2000
  · rw [decide_eq_true h2]; simp [becketlaw02_RouteUnder.j0]
  rw [decide_eq_false h2]
  simp only [becketlaw02_RouteUnder.j0, Bool.false_eq_true, if_false, if_true]
  rw [under_go a b (by omega) (by omega), Option.bind_some, under_f a b 40000 (by omega) (by omega) (by omega), Option.bind_some, under_same]
  simp
end Go.Proofs.YtfneogaclbammaaDoor.PureRoute
