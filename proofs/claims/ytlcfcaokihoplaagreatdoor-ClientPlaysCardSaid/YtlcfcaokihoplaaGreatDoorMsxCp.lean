-- Cut.
import Derived.Test.YtlcfcaokihoplaaGreatDoorMsx1Cp
import Derived.Test.YtlcfcaokihoplaaGreatDoorMsx2Cp
import Derived.Test.YtlcfcaokihoplaaGreatDoorMsx3Cp
import Derived.Test.YtlcfcaokihoplaaGreatDoorMsx4Cp
import Derived.Test.YtlcfcaokihoplaaGreatDoorMsx5Cp
import Derived.Test.YtlcfcaokihoplaaGreatDoorMsx6Cp
import Derived.Test.YtlcfcaokihoplaaGreatDoorMsx7Cp
import Derived.Test.YtlcfcaokihoplaaGreatDoorMsx8Cp
import Derived.Test.YtlcfcaokihoplaaGreatDoorMsx9Cp
import Derived.Test.YtlcfcaokihoplaaGreatDoorMsx10Cp
import Derived.Test.YtlcfcaokihoplaaGreatDoorMsx11Cp
namespace Go.Proofs.YtlcfcaokihoplaaGreatDoor.Ms
open Go.RowKit Go.Proofs.YzW.PrintWords Go.Proofs.YzW.PrintLast Go.Proofs.YzW.PrintMore
attribute [local go_sem] cg_ ce_ cw_ cv_ by_ bx_ cf_ cd_
set_option linter.unusedVariables false
set_option linter.unusedSimpArgs false
attribute [local go_sem] eqlErr neqErr eqlErrNil neqErrNil
open Go.Proofs.YtlcfcaokihoplaaGreatDoor.Mw
end Go.Proofs.YtlcfcaokihoplaaGreatDoor.Ms
