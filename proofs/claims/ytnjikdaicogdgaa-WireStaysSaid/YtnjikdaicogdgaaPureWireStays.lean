/-
  The pure statement of WireStays, out of the text that proves its layer's. Conditions: those of the given statement, none besides.
-/
import Derived.Test.YtnjikdaicogdgaaPureWire
namespace Go.Proofs.Ytnjikdaicogdgaa.Pure
theorem WireStays : La.becketlaw01_WireStays.Pure := PureWire.WireStays
end Go.Proofs.Ytnjikdaicogdgaa.Pure
