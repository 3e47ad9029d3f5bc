/-
  The pure statement of WirePuts, out of the text that proves its layer's. Conditions: those of the given statement, none besides.
-/
import Derived.Test.YtnjikdaicogdgaaPureWire
namespace Go.Proofs.Ytnjikdaicogdgaa.Pure
theorem WirePuts : La.becketlaw01_WirePuts.Pure := PureWire.WirePuts
end Go.Proofs.Ytnjikdaicogdgaa.Pure
