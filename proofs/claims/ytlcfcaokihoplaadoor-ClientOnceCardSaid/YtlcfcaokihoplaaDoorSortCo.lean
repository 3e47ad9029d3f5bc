-- Cut by a program of this session (wip/shake.py) out of a text of this seat: what this claim doesn't reach is struck out. Lean checks it.
import Derived.Shelf.Small.Bits
import Derived.Shelf.Strconv.Itoa0
import Derived.Shelf.Strings.Search1
import Derived.Shelf.Strings.Search2
import Derived.Shelf.Strings.Search3
import Derived.Shelf.Strings.Count
import Derived.Shelf.LaysM
import Derived.Shelf.Strings.Shaped
import Derived.Shelf.Sort.Plain
import Derived.Shelf.Strings.Split
import Derived.Shelf.Unicode.DecodeSlow
import Derived.Shelf.Slices.In.SortNone
import Derived.Ground.SlgfProg
import Derived.Shelf.SlicesE.IndexFunc
import Derived.Test.YtlcfcaokihoplaaDoorProg
namespace Go.Proofs
open Go.Shelf
def Tryd.lays189_ren : Go.Shelf.Ren := ⟨fun | 189 => 33 | 125 => 40 | 257 => 39 | 128 => 54 | 129 => 55 | 294 => 45 | 295 => 46 | 296 => 47 | 297 => 48 | 298 => 49 | 299 => 50 | 216 => 51 | 300 => 52 | 301 => 53 | 328 => 61 | 329 => 62 | 330 => 63 | 331 => 64 | 332 => 65 | 215 => 66 | 343 => 70 | n => n, fun | 28 => 25 | 3 => 3 | 46 => 93 | 0 => 0 | 51 => 119 | 53 => 77 | 4 => 4 | 183 => 111 | 182 => 110 | 131 => 116 | 5 => 5 | 9 => 9 | 218 => 123 | 222 => 127 | 228 => 131 | 229 => 132 | n => n, fun | n => n⟩
theorem Tryd.lays189 : Go.Proofs.Lays.n189 Tryd.prog Tryd.lays189_ren := {
  mixed := by kernel_rfl
  f125 := Tryd.func40.trans (congrArg some (by kernel_rfl))
  f128 := Tryd.func54.trans (congrArg some (by kernel_rfl))
  f129 := Tryd.func55.trans (congrArg some (by kernel_rfl))
  f189 := Tryd.func33.trans (congrArg some (by kernel_rfl))
  f215 := Tryd.func66.trans (congrArg some (by kernel_rfl))
  f216 := Tryd.func51.trans (congrArg some (by kernel_rfl))
  f257 := Tryd.func39.trans (congrArg some (by kernel_rfl))
  f294 := Tryd.func45.trans (congrArg some (by kernel_rfl))
  f295 := Tryd.func46.trans (congrArg some (by kernel_rfl))
  f296 := Tryd.func47.trans (congrArg some (by kernel_rfl))
  f297 := Tryd.func48.trans (congrArg some (by kernel_rfl))
  f298 := Tryd.func49.trans (congrArg some (by kernel_rfl))
  f299 := Tryd.func50.trans (congrArg some (by kernel_rfl))
  f300 := Tryd.func52.trans (congrArg some (by kernel_rfl))
  f301 := Tryd.func53.trans (congrArg some (by kernel_rfl))
  f328 := Tryd.func61.trans (congrArg some (by kernel_rfl))
  f329 := Tryd.func62.trans (congrArg some (by kernel_rfl))
  f330 := Tryd.func63.trans (congrArg some (by kernel_rfl))
  f331 := Tryd.func64.trans (congrArg some (by kernel_rfl))
  f332 := Tryd.func65.trans (congrArg some (by kernel_rfl))
  f343 := Tryd.func70.trans (congrArg some (by kernel_rfl))
  t0 := Tryd.underlying0
  a0 := Tryd.isAgg0
  z0 := Tryd.sizeOf0
  v0 := Tryd.zeroValue0
  t3 := Tryd.underlying3
  a3 := Tryd.isAgg3
  z3 := Tryd.sizeOf3
  v3 := Tryd.zeroValue3
  t4 := Tryd.underlying4
  a4 := Tryd.isAgg4
  z4 := Tryd.sizeOf4
  v4 := Tryd.zeroValue4
  t5 := Tryd.underlying5
  a5 := Tryd.isAgg5
  z5 := Tryd.sizeOf5
  v5 := Tryd.zeroValue5
  t9 := Tryd.underlying9
  a9 := Tryd.isAgg9
  z9 := Tryd.sizeOf9
  v9 := Tryd.zeroValue9
  t28 := Tryd.underlying25
  a28 := Tryd.isAgg25
  z28 := Tryd.sizeOf25
  v28 := Tryd.zeroValue25
  t46 := Tryd.underlying93
  a46 := Tryd.isAgg93
  z46 := Tryd.sizeOf93
  v46 := Tryd.zeroValue93
  t51 := Tryd.underlying119
  a51 := Tryd.isAgg119
  z51 := Tryd.sizeOf119
  v51 := Tryd.zeroValue119
  t53 := Tryd.underlying77
  a53 := Tryd.isAgg77
  z53 := Tryd.sizeOf77
  v53 := Tryd.zeroValue77
  t131 := Tryd.underlying116
  a131 := Tryd.isAgg116
  z131 := Tryd.sizeOf116
  v131 := Tryd.zeroValue116
  t182 := Tryd.underlying110
  a182 := Tryd.isAgg110
  z182 := Tryd.sizeOf110
  v182 := Tryd.zeroValue110
  t183 := Tryd.underlying111
  a183 := Tryd.isAgg111
  z183 := Tryd.sizeOf111
  v183 := Tryd.zeroValue111
  t218 := Tryd.underlying123
  a218 := Tryd.isAgg123
  z218 := Tryd.sizeOf123
  v218 := Tryd.zeroValue123
  t222 := Tryd.underlying127
  a222 := Tryd.isAgg127
  z222 := Tryd.sizeOf127
  v222 := Tryd.zeroValue127
  t228 := Tryd.underlying131
  a228 := Tryd.isAgg131
  z228 := Tryd.sizeOf131
  v228 := Tryd.zeroValue131
  t229 := Tryd.underlying132
  a229 := Tryd.isAgg132
  z229 := Tryd.sizeOf132
  v229 := Tryd.zeroValue132 }
open Go.Sort Go.RowKit in
theorem Tryd.slices_Sort_int (blk off cap : Nat) (zs : List Int) (w : World) (hH : Holds (Value.int .i64) w blk off zs.toArray) (hblk : blk < w.heap.size) (hsz : zs.length < 4611686018427387904) :
    Calls Tryd.prog 33 #[.slice (some ⟨blk, off, none⟩) zs.length cap] w fun e w' =>
      e = .returned (.tuple #[]) ∧ ∃ n os, w' = grow (putRow (Value.int .i64) (Sort.ahead w n) blk off (zs.mergeSort fun x y => decide (x ≤ y)).toArray) os := Any.slices_Sort_int Tryd.lays189 blk off cap zs w hH hblk hsz
open Go.RowKit Go.Sort in
theorem Tryd.slices_Sort_int_none (p : Option Addr) (cap : Nat) (w : World) :
    Calls Tryd.prog 33 #[.slice p 0 cap] w fun e w' => e = .returned (.tuple #[]) ∧ w' = w := Any.slices_Sort_int_none Tryd.lays189 p cap w
end Go.Proofs
