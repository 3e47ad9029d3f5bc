-- Cut.
import Derived.Test.YtlcfcaokihoplaaGreatDoorMwx0Cp
import Derived.Test.YtlcfcaokihoplaaGreatDoorMwx1Cp
import Derived.Test.YtlcfcaokihoplaaGreatDoorMwx2Cp
import Derived.Test.YtlcfcaokihoplaaGreatDoorMwx3Cp
import Derived.Shelf.Small.Bits
import Derived.Shelf.Utf8.RuneCount
import Derived.Shelf.Strconv.Itoa0
import Derived.Shelf.Strings.Search1
import Derived.Shelf.Strings.Search2
import Derived.Shelf.Strings.Search3
import Derived.Shelf.Strings.Count
import Derived.Shelf.LaysM
import Derived.Shelf.Sort.Plain
import Derived.Shelf.Strings.Split
import Derived.Shelf.Strings.SplitShaped
import Derived.Shelf.Strings.RuneCount
import Derived.Shelf.Strings.Explode
import Derived.Shelf.Slices.SearchI
import Derived.Shelf.Slices.In.SortNone
import Derived.Test.YtlcfcaokihoplaaGreatDoorProg
namespace Go.Proofs.YtlcfcaokihoplaaGreatDoor.Mw
open Go.RowKit Go.Proofs.YzW.PrintWords Go.Proofs.YzW.PrintLast Go.Proofs.YzW.PrintMore
attribute [local go_sem] cg_ ce_ cw_ cv_ by_ bx_ cf_ cd_
set_option linter.unusedVariables false
set_option linter.unusedSimpArgs false
attribute [local go_sem] eqlErr neqErr eqlErrNil neqErrNil
end Go.Proofs.YtlcfcaokihoplaaGreatDoor.Mw

namespace Go.Proofs
open Go.Shelf
def Tryz.lays146_ren : Go.Shelf.Ren := ⟨fun | 146 => 85 | 221 => 95 | 268 => 102 | 138 => 103 | 143 => 84 | 195 => 106 | 197 => 107 | 218 => 108 | 219 => 94 | 260 => 109 | 217 => 98 | 225 => 99 | 224 => 100 | 267 => 101 | 266 => 104 | 314 => 105 | n => n, fun | 9 => 9 | 31 => 32 | 3 => 3 | 4 => 4 | 0 => 0 | 105 => 166 | 21 => 21 | 5 => 5 | 46 => 115 | 119 => 168 | 139 => 171 | 138 => 170 | 146 => 163 | 51 => 145 | n => n, fun | 1 => 0 | 3 => 1 | 4 => 2 | n => n⟩
theorem Tryz.lays146 : Go.Proofs.Lays.n146 Tryz.prog Tryz.lays146_ren := {
 mixed := by kernel_rfl
 f138 := Tryz.func103.trans (congrArg some (by kernel_rfl))
 f143 := Tryz.func84.trans (congrArg some (by kernel_rfl))
 f146 := Tryz.func85.trans (congrArg some (by kernel_rfl))
 f195 := Tryz.func106.trans (congrArg some (by kernel_rfl))
 f197 := Tryz.func107.trans (congrArg some (by kernel_rfl))
 f217 := Tryz.func98.trans (congrArg some (by kernel_rfl))
 f218 := Tryz.func108.trans (congrArg some (by kernel_rfl))
 f219 := Tryz.func94.trans (congrArg some (by kernel_rfl))
 f221 := Tryz.func95.trans (congrArg some (by kernel_rfl))
 f224 := Tryz.func100.trans (congrArg some (by kernel_rfl))
 f225 := Tryz.func99.trans (congrArg some (by kernel_rfl))
 f260 := Tryz.func109.trans (congrArg some (by kernel_rfl))
 f266 := Tryz.func104.trans (congrArg some (by kernel_rfl))
 f267 := Tryz.func101.trans (congrArg some (by kernel_rfl))
 f268 := Tryz.func102.trans (congrArg some (by kernel_rfl))
 f314 := Tryz.func105.trans (congrArg some (by kernel_rfl))
 t0 := Tryz.underlying0
 a0 := Tryz.isAgg0
 z0 := Tryz.sizeOf0
 v0 := Tryz.zeroValue0
 t3 := Tryz.underlying3
 a3 := Tryz.isAgg3
 z3 := Tryz.sizeOf3
 v3 := Tryz.zeroValue3
 t4 := Tryz.underlying4
 a4 := Tryz.isAgg4
 z4 := Tryz.sizeOf4
 v4 := Tryz.zeroValue4
 t5 := Tryz.underlying5
 a5 := Tryz.isAgg5
 z5 := Tryz.sizeOf5
 v5 := Tryz.zeroValue5
 t9 := Tryz.underlying9
 a9 := Tryz.isAgg9
 z9 := Tryz.sizeOf9
 v9 := Tryz.zeroValue9
 t21 := Tryz.underlying21
 a21 := Tryz.isAgg21
 z21 := Tryz.sizeOf21
 v21 := Tryz.zeroValue21
 t31 := Tryz.underlying32
 a31 := Tryz.isAgg32
 z31 := Tryz.sizeOf32
 v31 := Tryz.zeroValue32
 t46 := Tryz.underlying115
 a46 := Tryz.isAgg115
 z46 := Tryz.sizeOf115
 v46 := Tryz.zeroValue115
 t51 := Tryz.underlying145
 a51 := Tryz.isAgg145
 z51 := Tryz.sizeOf145
 v51 := Tryz.zeroValue145
 t105 := Tryz.underlying166
 a105 := Tryz.isAgg166
 z105 := Tryz.sizeOf166
 v105 := Tryz.zeroValue166
 t119 := Tryz.underlying168
 a119 := Tryz.isAgg168
 z119 := Tryz.sizeOf168
 t138 := Tryz.underlying170
 a138 := Tryz.isAgg170
 z138 := Tryz.sizeOf170
 v138 := Tryz.zeroValue170
 t139 := Tryz.underlying171
 a139 := Tryz.isAgg171
 z139 := Tryz.sizeOf171
 v139 := Tryz.zeroValue171
 t146 := Tryz.underlying163
 a146 := Tryz.isAgg163
 z146 := Tryz.sizeOf163
 v146 := Tryz.zeroValue163
 g1 := by kernel_rfl
 g3 := by kernel_rfl
 g4 := by kernel_rfl }
end Go.Proofs
