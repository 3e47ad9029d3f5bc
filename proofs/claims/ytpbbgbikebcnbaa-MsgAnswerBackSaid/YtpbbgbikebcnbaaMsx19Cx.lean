-- Cut by a program of this session (wip/shake.py) out of a text of this seat: what this claim doesn't reach is struck out. Lean checks it.
import Derived.Test.YtpbbgbikebcnbaaMsx0Cx
import Derived.Test.YtpbbgbikebcnbaaMsx13Cx
import Derived.Test.YtpbbgbikebcnbaaMsx14Cx
import Derived.Test.YtpbbgbikebcnbaaMsx7Cx
import Derived.Test.YtpbbgbikebcnbaaMsx5Cx
namespace Go.Proofs.Ytpbbgbikebcnbaa.Ms
open Go.RowKit Go.Proofs.YtpbbgbikebcnbaaW.PrintWords Go.Proofs.YtpbbgbikebcnbaaW.PrintLast Go.Proofs.YtpbbgbikebcnbaaW.PrintMore
attribute [local go_sem] max2_int min2_int max_two min_two max_three min_three max_four min_four   -- for this text's walks alone
set_option linter.unusedVariables false
set_option linter.unusedSimpArgs false
attribute [local go_sem] eqlErr neqErr eqlErrNil neqErrNil
open Go.Proofs.Ytpbbgbikebcnbaa.Mw
mutual
def becketref12_Get.l0 : Nat → List Int → Int → Int → List Int → Int → Bool → Int → Int → Int → Int → ByteArray → List (S95) → List (S61) → Option (Int × Int × Int × Int × ByteArray × (List (S95)) × (List (S61)) × Bool)
 | 0, _, _, _, _, _, _, _, _, _, _, _, _, _ => none
 | k + 1, x0, x6, x7, x413000, x413001, x413002, x414000, x414001, x414002, x414003, x414004, x414005, x414006 => if x7 < x6 then (becketref12_Get.j1 k x0 x6 x7 (!x413002) x413000 x413001 x413002 x414000 x414001 x414002 x414003 x414004 x414005 x414006) else (becketref12_Get.j1 k x0 x6 x7 false x413000 x413001 x413002 x414000 x414001 x414002 x414003 x414004 x414005 x414006)
def becketref12_Get.j1 : Nat → List Int → Int → Int → Bool → List Int → Int → Bool → Int → Int → Int → Int → ByteArray → List (S95) → List (S61) → Option (Int × Int × Int × Int × ByteArray × (List (S95)) × (List (S61)) × Bool)
 | 0, _, _, _, _, _, _, _, _, _, _, _, _, _, _ => none
 | k + 1, x0, x6, x7, x42, x413000, x413001, x413002, x414000, x414001, x414002, x414003, x414004, x414005, x414006 => if x42 = true then ((becketref01_Reader_Num.f x413000 x413001 x413002 1000).bind fun bt438 => ((becketref01_Reader_Num.f x413000 bt438.2.1 bt438.2.2 1000).bind fun bt441 => ((becketref12_get.f k x413000 bt441.2.1 bt441.2.2).bind fun bt444 => (if x414006.length < 3518437208883 then (becketref12_Get.l0 k x0 x6 (wrap64 (x7 + 1)) x413000 bt444.2.1 bt444.2.2 x414000 x414001 x414002 x414003 x414004 x414005 (x414006 ++ [(⟨bt438.1, bt441.1, bt444.1⟩ : S61)])) else (none))))) else (if x413002 = true then (becketref12_Get.j2 k true x414000 x414001 x414002 x414003 x414004 x414005 x414006) else (becketref12_Get.j2 k (decide (x413001 < (x0.length : Int))) x414000 x414001 x414002 x414003 x414004 x414005 x414006))
def becketref12_Get.j2 : Nat → Bool → Int → Int → Int → Int → ByteArray → List (S95) → List (S61) → Option (Int × Int × Int × Int × ByteArray × (List (S95)) × (List (S61)) × Bool)
 | 0, _, _, _, _, _, _, _, _ => none
 | k + 1, x72, x414000, x414001, x414002, x414003, x414004, x414005, x414006 => if x72 = true then (some (0, 0, 0, 0, (⟨#[]⟩ : ByteArray), ([] : List (S95)), ([] : List (S61)), false)) else ((becketref12_May.f k x414000 x414001 x414002 x414003 x414004 x414005 x414006).bind fun t452 => (if t452 = true then (some (x414000, x414001, x414002, x414003, x414004, x414005, x414006, true)) else (some (0, 0, 0, 0, (⟨#[]⟩ : ByteArray), ([] : List (S95)), ([] : List (S61)), false))))
end
def becketref12_Get.f (k : Nat) (l0 : List Int) : Option (Int × Int × Int × Int × ByteArray × (List (S95)) × (List (S61)) × Bool) := (becketref01_Reader_Num.f l0 0 false 1000).bind fun bt414 => ((becketref01_Reader_Num.f l0 bt414.2.1 bt414.2.2 1000).bind fun bt417 => ((becketref01_Reader_Num.f l0 bt417.2.1 bt417.2.2 1000).bind fun bt420 => ((becketref01_Reader_Num.f l0 bt420.2.1 bt420.2.2 1000).bind fun bt423 => ((becketref01_Reader_Text.f l0 bt423.2.1 bt423.2.2).bind fun bt426 => ((becketref12_get.f k l0 bt426.2.1 bt426.2.2).bind fun bt429 => ((becketref01_Reader_Num.f l0 bt429.2.1 bt429.2.2 1000).bind fun bt434 => (becketref12_Get.l0 k l0 bt434.1 0 l0 bt434.2.1 bt434.2.2 bt414.1 bt417.1 bt420.1 bt423.1 bt426.1 bt429.1 ([] : List (S61)))))))))
end Go.Proofs.Ytpbbgbikebcnbaa.Ms

namespace Go.Proofs.Ytpbbgbikebcnbaa.Ms
open Go.RowKit Go.Proofs.YtpbbgbikebcnbaaW.PrintWords Go.Proofs.YtpbbgbikebcnbaaW.PrintLast Go.Proofs.YtpbbgbikebcnbaaW.PrintMore
attribute [local go_sem] max2_int min2_int max_two min_two max_three min_three max_four min_four   -- for this text's walks alone
set_option linter.unusedVariables false
set_option linter.unusedSimpArgs false
attribute [local go_sem] eqlErr neqErr eqlErrNil neqErrNil
open Go.Proofs.Ytpbbgbikebcnbaa.Mw
end Go.Proofs.Ytpbbgbikebcnbaa.Ms

namespace Go.Proofs.Ytpbbgbikebcnbaa.Ms
open Go.RowKit Go.Proofs.YtpbbgbikebcnbaaW.PrintWords Go.Proofs.YtpbbgbikebcnbaaW.PrintLast Go.Proofs.YtpbbgbikebcnbaaW.PrintMore
attribute [local go_sem] max2_int min2_int max_two min_two max_three min_three max_four min_four   -- for this text's walks alone
set_option linter.unusedVariables false
set_option linter.unusedSimpArgs false
attribute [local go_sem] eqlErr neqErr eqlErrNil neqErrNil
open Go.Proofs.Ytpbbgbikebcnbaa.Mw
end Go.Proofs.Ytpbbgbikebcnbaa.Ms

namespace Go.Proofs.Ytpbbgbikebcnbaa.Ms
open Go.RowKit Go.Proofs.YtpbbgbikebcnbaaW.PrintWords Go.Proofs.YtpbbgbikebcnbaaW.PrintLast Go.Proofs.YtpbbgbikebcnbaaW.PrintMore
attribute [local go_sem] max2_int min2_int max_two min_two max_three min_three max_four min_four   -- for this text's walks alone
set_option linter.unusedVariables false
set_option linter.unusedSimpArgs false
attribute [local go_sem] eqlErr neqErr eqlErrNil neqErrNil
open Go.Proofs.Ytpbbgbikebcnbaa.Mw
end Go.Proofs.Ytpbbgbikebcnbaa.Ms

namespace Go.Proofs.Ytpbbgbikebcnbaa.Ms
open Go.RowKit Go.Proofs.YtpbbgbikebcnbaaW.PrintWords Go.Proofs.YtpbbgbikebcnbaaW.PrintLast Go.Proofs.YtpbbgbikebcnbaaW.PrintMore
attribute [local go_sem] max2_int min2_int max_two min_two max_three min_three max_four min_four   -- for this text's walks alone
set_option linter.unusedVariables false
set_option linter.unusedSimpArgs false
attribute [local go_sem] eqlErr neqErr eqlErrNil neqErrNil
open Go.Proofs.Ytpbbgbikebcnbaa.Mw
end Go.Proofs.Ytpbbgbikebcnbaa.Ms
