-- Cut by a program of this session (wip/shake.py) out of a text of this seat: what this claim doesn't reach is struck out. Lean checks it.
import Derived.Test.YtpbbgbikebcnbaaMsx0Cx
import Derived.Test.YtpbbgbikebcnbaaMsx7Cx
import Derived.Test.YtpbbgbikebcnbaaMsx2Cx
import Derived.Test.YtpbbgbikebcnbaaMsx5Cx
namespace Go.Proofs.Ytpbbgbikebcnbaa.Ms
open Go.RowKit Go.Proofs.YtpbbgbikebcnbaaW.PrintWords Go.Proofs.YtpbbgbikebcnbaaW.PrintLast Go.Proofs.YtpbbgbikebcnbaaW.PrintMore
attribute [local go_sem] max2_int min2_int max_two min_two max_three min_three max_four min_four   -- for this text's walks alone
set_option linter.unusedVariables false
set_option linter.unusedSimpArgs false
attribute [local go_sem] eqlErr neqErr eqlErrNil neqErrNil
open Go.Proofs.Ytpbbgbikebcnbaa.Mw
def becketref12_in.f (a0 : Int) (a1 : Int) : Option (Bool) := if a0 ≥ 0 then (some (decide (a0 ≤ a1))) else (some false)
end Go.Proofs.Ytpbbgbikebcnbaa.Ms

namespace Go.Proofs.Ytpbbgbikebcnbaa.Ms
open Go.RowKit Go.Proofs.YtpbbgbikebcnbaaW.PrintWords Go.Proofs.YtpbbgbikebcnbaaW.PrintLast Go.Proofs.YtpbbgbikebcnbaaW.PrintMore
attribute [local go_sem] max2_int min2_int max_two min_two max_three min_three max_four min_four   -- for this text's walks alone
set_option linter.unusedVariables false
set_option linter.unusedSimpArgs false
attribute [local go_sem] eqlErr neqErr eqlErrNil neqErrNil
open Go.Proofs.Ytpbbgbikebcnbaa.Mw
mutual
def becketref12_proofs.l0 : Nat → List (S95) → Int → Option (Bool)
 | 0, _, _ => none
 | k + 1, x0, x3 => if x3 < (x0.length : Int) then (if 0 ≤ x3 then ((becketref12_in.f ((rd_T95 x0 x3).f0) 64).bind fun t249 => (if t249 = true then ((becketref12_in.f ((rd_T95 x0 x3).f1) 64).bind fun t250 => (if t250 = true then (if (((rd_T95 x0 x3).f2).size : Int) > 4096 then (becketref12_proofs.j1 k x0 x3 true ((rd_T95 x0 x3).f0) ((rd_T95 x0 x3).f1) ((rd_T95 x0 x3).f2) ((rd_T95 x0 x3).f3)) else (becketref12_proofs.j1 k x0 x3 (decide ((((rd_T95 x0 x3).f3).length : Int) > 13)) ((rd_T95 x0 x3).f0) ((rd_T95 x0 x3).f1) ((rd_T95 x0 x3).f2) ((rd_T95 x0 x3).f3))) else (becketref12_proofs.j1 k x0 x3 true ((rd_T95 x0 x3).f0) ((rd_T95 x0 x3).f1) ((rd_T95 x0 x3).f2) ((rd_T95 x0 x3).f3)))) else (becketref12_proofs.j1 k x0 x3 true ((rd_T95 x0 x3).f0) ((rd_T95 x0 x3).f1) ((rd_T95 x0 x3).f2) ((rd_T95 x0 x3).f3)))) else (none)) else (some true)
def becketref12_proofs.j1 : Nat → List (S95) → Int → Bool → Int → Int → ByteArray → List Int → Option (Bool)
 | 0, _, _, _, _, _, _, _ => none
 | k + 1, x0, x3, x40, x249000, x249001, x249002, x249003 => if x40 = true then (some false) else (becketref12_proofs.l1 k x0 x3 0 x249000 x249001 x249002 x249003)
def becketref12_proofs.l1 : Nat → List (S95) → Int → Int → Int → Int → ByteArray → List Int → Option (Bool)
 | 0, _, _, _, _, _, _, _ => none
 | k + 1, x0, x3, x5, x249000, x249001, x249002, x249003 => if x5 < (x249003.length : Int) then (if 0 ≤ x5 then ((becketref12_in.f (rd x249003 x5) 12).bind fun t252 => (if t252 = true then (becketref12_proofs.l1 k x0 x3 (wrap64 (x5 + 1)) x249000 x249001 x249002 x249003) else (some false))) else (none)) else (becketref12_proofs.l0 k x0 (wrap64 (x3 + 1)))
end
def becketref12_proofs.f (k : Nat) (l0 : List (S95)) : Option (Bool) := if (l0.length : Int) > 64 then (some false) else (becketref12_proofs.l0 k l0 0)
end Go.Proofs.Ytpbbgbikebcnbaa.Ms

namespace Go.Proofs.Ytpbbgbikebcnbaa.Ms
open Go.RowKit Go.Proofs.YtpbbgbikebcnbaaW.PrintWords Go.Proofs.YtpbbgbikebcnbaaW.PrintLast Go.Proofs.YtpbbgbikebcnbaaW.PrintMore
attribute [local go_sem] max2_int min2_int max_two min_two max_three min_three max_four min_four   -- for this text's walks alone
set_option linter.unusedVariables false
set_option linter.unusedSimpArgs false
attribute [local go_sem] eqlErr neqErr eqlErrNil neqErrNil
open Go.Proofs.Ytpbbgbikebcnbaa.Mw
mutual
def becketref12_May.j0 : Nat → Int → Int → Int → Int → Int → ByteArray → List (S95) → List (S61) → Option (Bool)
 | 0, _, _, _, _, _, _, _, _ => none
 | k + 1, x3, x254000, x254001, x254002, x254003, x254004, x254005, x254006 => if x254000 < 1 then (becketref12_May.j1 k true x254000 x254001 x254002 x254003 x254004 x254005 x254006) else (if x254000 > 7 then (becketref12_May.j1 k true x254000 x254001 x254002 x254003 x254004 x254005 x254006) else ((becketref12_in.f x254001 12).bind fun t254 => (if t254 = true then ((becketref12_in.f x254002 64).bind fun t255 => (if t255 = true then ((becketref12_in.f x254003 x3).bind fun t256 => (if t256 = true then (becketref12_May.j1 k (decide ((x254004.size : Int) > 4096)) x254000 x254001 x254002 x254003 x254004 x254005 x254006) else (becketref12_May.j1 k true x254000 x254001 x254002 x254003 x254004 x254005 x254006))) else (becketref12_May.j1 k true x254000 x254001 x254002 x254003 x254004 x254005 x254006))) else (becketref12_May.j1 k true x254000 x254001 x254002 x254003 x254004 x254005 x254006))))
def becketref12_May.j1 : Nat → Bool → Int → Int → Int → Int → ByteArray → List (S95) → List (S61) → Option (Bool)
 | 0, _, _, _, _, _, _, _, _ => none
 | k + 1, x43, x254000, x254001, x254002, x254003, x254004, x254005, x254006 => if x43 = true then (some false) else (if (x254005.length : Int) > 0 then (if x254000 = 5 then (if (x254006.length : Int) > 0 then (if x254000 = 6 then (becketref12_May.j2 k (decide ((x254006.length : Int) > 13)) x254000 x254001 x254002 x254003 x254004 x254005 x254006) else (becketref12_May.j2 k true x254000 x254001 x254002 x254003 x254004 x254005 x254006)) else (becketref12_May.j2 k (decide ((x254006.length : Int) > 13)) x254000 x254001 x254002 x254003 x254004 x254005 x254006)) else (becketref12_May.j2 k true x254000 x254001 x254002 x254003 x254004 x254005 x254006)) else (if (x254006.length : Int) > 0 then (if x254000 = 6 then (becketref12_May.j2 k (decide ((x254006.length : Int) > 13)) x254000 x254001 x254002 x254003 x254004 x254005 x254006) else (becketref12_May.j2 k true x254000 x254001 x254002 x254003 x254004 x254005 x254006)) else (becketref12_May.j2 k (decide ((x254006.length : Int) > 13)) x254000 x254001 x254002 x254003 x254004 x254005 x254006)))
def becketref12_May.j2 : Nat → Bool → Int → Int → Int → Int → ByteArray → List (S95) → List (S61) → Option (Bool)
 | 0, _, _, _, _, _, _, _, _ => none
 | k + 1, x69, x254000, x254001, x254002, x254003, x254004, x254005, x254006 => if x69 = true then (some false) else ((becketref12_proofs.f k x254005).bind fun t257 => (becketref12_May.l0 k t257 0 x254000 x254001 x254002 x254003 x254004 x254005 x254006))
def becketref12_May.l0 : Nat → Bool → Int → Int → Int → Int → Int → ByteArray → List (S95) → List (S61) → Option (Bool)
 | 0, _, _, _, _, _, _, _, _, _ => none
 | k + 1, x4, x5, x254000, x254001, x254002, x254003, x254004, x254005, x254006 => if x5 < (x254006.length : Int) then (if 0 ≤ x5 then ((becketref12_proofs.f k ((rd_T61 x254006 x5).f2)).bind fun t260 => (if x4 = true then (if t260 = true then ((becketref12_in.f ((rd_T61 x254006 x5).f0) 12).bind fun t261 => (if t261 = true then ((becketref12_in.f ((rd_T61 x254006 x5).f1) 64).bind fun t262 => (becketref12_May.l0 k t262 (wrap64 (x5 + 1)) x254000 x254001 x254002 x254003 x254004 x254005 x254006)) else (becketref12_May.l0 k false (wrap64 (x5 + 1)) x254000 x254001 x254002 x254003 x254004 x254005 x254006))) else (becketref12_May.l0 k false (wrap64 (x5 + 1)) x254000 x254001 x254002 x254003 x254004 x254005 x254006)) else (becketref12_May.l0 k false (wrap64 (x5 + 1)) x254000 x254001 x254002 x254003 x254004 x254005 x254006))) else (none)) else (some x4)
end
def becketref12_May.f (k : Nat) (a0_0 : Int) (a0_1 : Int) (a0_2 : Int) (a0_3 : Int) (a0_4 : ByteArray) (l0_5 : List (S95)) (l0_6 : List (S61)) : Option (Bool) := if a0_0 = 7 then (becketref12_May.j0 k 1000 a0_0 a0_1 a0_2 a0_3 a0_4 l0_5 l0_6) else (becketref12_May.j0 k 64 a0_0 a0_1 a0_2 a0_3 a0_4 l0_5 l0_6)
end Go.Proofs.Ytpbbgbikebcnbaa.Ms

namespace Go.Proofs.Ytpbbgbikebcnbaa.Ms
open Go.RowKit Go.Proofs.YtpbbgbikebcnbaaW.PrintWords Go.Proofs.YtpbbgbikebcnbaaW.PrintLast Go.Proofs.YtpbbgbikebcnbaaW.PrintMore
attribute [local go_sem] max2_int min2_int max_two min_two max_three min_three max_four min_four   -- for this text's walks alone
set_option linter.unusedVariables false
set_option linter.unusedSimpArgs false
attribute [local go_sem] eqlErr neqErr eqlErrNil neqErrNil
open Go.Proofs.Ytpbbgbikebcnbaa.Mw
end Go.Proofs.Ytpbbgbikebcnbaa.Ms

namespace Go.Proofs.Ytpbbgbikebcnbaa.Ms
open Go.RowKit Go.Proofs.YtpbbgbikebcnbaaW.PrintWords Go.Proofs.YtpbbgbikebcnbaaW.PrintLast Go.Proofs.YtpbbgbikebcnbaaW.PrintMore
attribute [local go_sem] max2_int min2_int max_two min_two max_three min_three max_four min_four   -- for this text's walks alone
set_option linter.unusedVariables false
set_option linter.unusedSimpArgs false
attribute [local go_sem] eqlErr neqErr eqlErrNil neqErrNil
open Go.Proofs.Ytpbbgbikebcnbaa.Mw
end Go.Proofs.Ytpbbgbikebcnbaa.Ms

namespace Go.Proofs.Ytpbbgbikebcnbaa.Ms
open Go.RowKit Go.Proofs.YtpbbgbikebcnbaaW.PrintWords Go.Proofs.YtpbbgbikebcnbaaW.PrintLast Go.Proofs.YtpbbgbikebcnbaaW.PrintMore
attribute [local go_sem] max2_int min2_int max_two min_two max_three min_three max_four min_four   -- for this text's walks alone
set_option linter.unusedVariables false
set_option linter.unusedSimpArgs false
attribute [local go_sem] eqlErr neqErr eqlErrNil neqErrNil
open Go.Proofs.Ytpbbgbikebcnbaa.Mw
end Go.Proofs.Ytpbbgbikebcnbaa.Ms
