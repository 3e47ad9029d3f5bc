/-
  The pure statement of WireBack, out of the text that proves its layer's. Conditions: those of the given statement, none besides.
-/
import Derived.Test.YtnjikdaicogdgaaPureWire
namespace Go.Proofs.Ytnjikdaicogdgaa.Pure
theorem WireBack : La.becketlaw01_WireBack.Pure := PureWire.WireBack
end Go.Proofs.Ytnjikdaicogdgaa.Pure
