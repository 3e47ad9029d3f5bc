-- Cut.
import Derived.Shelf.Small.Bits
import Derived.Shelf.Utf8.RuneCount
import Derived.Shelf.Strconv.Itoa0
import Derived.Shelf.Strings.Search1
import Derived.Shelf.Strings.Search2
import Derived.Shelf.Strings.Search3
import Derived.Shelf.Strings.Count
import Derived.Shelf.LaysM
import Derived.Shelf.Sort.Plain
import Derived.Shelf.Strings.Split
import Derived.Shelf.Strings.SplitShaped
import Derived.Shelf.Strings.RuneCount
import Derived.Shelf.Strings.Explode
import Derived.Shelf.Slices.SearchI
import Derived.Shelf.Slices.In.SortNone
import Derived.Test.YtlcfcaokihoplaaGreatDoorProg
import Derived.Test.YtlcfcaokihoplaaGreatDoorRouteFnsCp
import Derived.Shelf.Strings.Shaped
import Derived.Shelf.Unicode.Decode
import Derived.Shelf.Unicode.DecodeSlow
import Derived.Shelf.Unicode.DecodeAny
import Derived.Ground.Names2Prog
import Derived.Ground.SlgfProg
import Derived.Shelf.SlicesE.IndexFunc
namespace Go.Proofs
open Go.Shelf
def Tryz.lays144_ren : Go.Shelf.Ren := ⟨fun | 144 => 68 | 143 => 84 | 219 => 94 | 217 => 98 | 225 => 99 | 224 => 100 | 267 => 101 | 266 => 104 | 314 => 105 | n => n, fun | 9 => 9 | 4 => 4 | 3 => 3 | 5 => 5 | 46 => 115 | 146 => 163 | 51 => 145 | n => n, fun | 1 => 0 | n => n⟩
theorem Tryz.lays144 : Go.Proofs.Lays.n144 Tryz.prog Tryz.lays144_ren := {
 mixed := by kernel_rfl
 f143 := Tryz.func84.trans (congrArg some (by kernel_rfl))
 f144 := Tryz.func68.trans (congrArg some (by kernel_rfl))
 f217 := Tryz.func98.trans (congrArg some (by kernel_rfl))
 f219 := Tryz.func94.trans (congrArg some (by kernel_rfl))
 f224 := Tryz.func100.trans (congrArg some (by kernel_rfl))
 f225 := Tryz.func99.trans (congrArg some (by kernel_rfl))
 f266 := Tryz.func104.trans (congrArg some (by kernel_rfl))
 f267 := Tryz.func101.trans (congrArg some (by kernel_rfl))
 f314 := Tryz.func105.trans (congrArg some (by kernel_rfl))
 t3 := Tryz.underlying3
 a3 := Tryz.isAgg3
 z3 := Tryz.sizeOf3
 v3 := Tryz.zeroValue3
 t4 := Tryz.underlying4
 a4 := Tryz.isAgg4
 z4 := Tryz.sizeOf4
 v4 := Tryz.zeroValue4
 t5 := Tryz.underlying5
 a5 := Tryz.isAgg5
 z5 := Tryz.sizeOf5
 v5 := Tryz.zeroValue5
 t9 := Tryz.underlying9
 a9 := Tryz.isAgg9
 z9 := Tryz.sizeOf9
 v9 := Tryz.zeroValue9
 t46 := Tryz.underlying115
 a46 := Tryz.isAgg115
 z46 := Tryz.sizeOf115
 v46 := Tryz.zeroValue115
 t51 := Tryz.underlying145
 a51 := Tryz.isAgg145
 z51 := Tryz.sizeOf145
 v51 := Tryz.zeroValue145
 t146 := Tryz.underlying163
 a146 := Tryz.isAgg163
 z146 := Tryz.sizeOf163
 v146 := Tryz.zeroValue163
 g1 := by kernel_rfl }
open Go.RowKit Go.Lib in
theorem Tryz.strings_Contains_one (s : ByteArray) (c : UInt8) (w : World) :
  Calls Tryz.prog 68 #[.string s, .string ⟨#[c]⟩] w fun e w' => e = .returned (.bool (decide (0 ≤ Lib.indexByte s.data.toList c))) ∧ w' = w := Any.strings_Contains_one Tryz.lays144 s c w
end Go.Proofs

namespace Go.Proofs.YtlcfcaokihoplaaGreatDoor.OrderNK
open Go.RowKit Go.Proofs.YzW.PrintWords Go.Proofs.YzW.PrintLast Go.Proofs.YzW.PrintMore
set_option linter.unusedVariables false
set_option linter.unusedSimpArgs false
def nameOf (s : ByteArray) : Bool := Route.pathOf s && !(decide (0 ≤ Lib.indexByte s.data.toList 47))
theorem name_calls (s : ByteArray) (hs : s.size ≤ 1073741824) (w : World) : Calls Tryz.prog 58 #[.string s] w fun e w' => e = .returned (.bool (nameOf s)) ∧ Below w.heap.size w w' := by
 have h := Route.check_calls s hs w
 have hc := fun W => Tryz.strings_Contains_one s 47 W
 have hN : nameOf s = (Route.pathOf s && !(decide (0 ≤ Lib.indexByte s.data.toList 47))) := rfl
 generalize Route.pathOf s = p at h hN
 generalize decide (0 ≤ Lib.indexByte s.data.toList 47) = q at hc hN
 rw [hN]
 clear hN
 have H := Lib.hid h
 have HC := Lib.hid hc
 clear h hc
 cases p with
 | false =>
  go_enter Tryz.func58, Tryz.ntmps58
  go_wp2_with fail
  refine H.out.mono ?_
  rintro e w1 ⟨rfl, hb⟩
  have HB := Lib.hid hb
  clear hb
  simp only [Bool.false_eq_true, if_false]
  go_wp2
  go_ret
  exact ⟨rfl, HB.out⟩
 | true =>
  go_enter Tryz.func58, Tryz.ntmps58
  go_wp2_with fail
  refine H.out.mono ?_
  rintro e w1 ⟨rfl, hb⟩
  have HB := Lib.hid hb
  clear hb
  simp only [if_true]
  go_wp2_with fail
  refine (HC.out _).mono ?_
  rintro e w2 ⟨rfl, rfl⟩
  go_wp2
  go_ret
  exact ⟨by simp, HB.out⟩
def keyBad (x : ByteArray) : Bool := decide (x.size < 1) || decide (64 < x.size)
theorem keys1_calls (x : ByteArray) (w : World) : Calls Tryz.prog 67 #[.string x] w fun e w' => e = .returned (.bool (keyBad x)) ∧ Below w.heap.size w w' := by
 by_cases h1 : x.size < 1
 ·have i1 : decide ((x.size : Int) < 1) = true := decide_eq_true (by omega)
  have e : keyBad x = true := by unfold keyBad; rw [decide_eq_true h1]; rfl
  rw [e]
  clear e
  go_enter Tryz.func67, Tryz.ntmps67
  go_wp2
  go_ret
  exact ⟨rfl, Below.refl _ _⟩
 ·have i1 : decide ((x.size : Int) < 1) = false := decide_eq_false (by omega)
  have e : keyBad x = decide (64 < x.size) := by unfold keyBad; rw [decide_eq_false h1]; rfl
  rw [e]
  clear e
  by_cases h2 : 64 < x.size
  ·have i2 : decide ((64 : Int) < (x.size : Int)) = true := decide_eq_true (by omega)
   rw [decide_eq_true h2]
   go_enter Tryz.func67, Tryz.ntmps67
   go_wp2
   go_ret
   exact ⟨rfl, Below.refl _ _⟩
  ·have i2 : decide ((64 : Int) < (x.size : Int)) = false := decide_eq_false (by omega)
   rw [decide_eq_false h2]
   go_enter Tryz.func67, Tryz.ntmps67
   go_wp2
   go_ret
   exact ⟨rfl, Below.refl _ _⟩
theorem idx_empty (A : Option Addr) (c : Nat) (fv : Value) (w : World) : Calls Tryz.prog 83 #[.slice A 0 c, fv] w fun e w' => e = .returned (.int .i64 (-1)) ∧ w' = w := by
 go_enter Tryz.func83, Tryz.ntmps83
 go_wp2
 go_loopg [5, 8] 0 (fun _ _ s8 wr => s8 = .int .i64 0 ∧ wr = w)
 case atStart => exact ⟨rfl, rfl⟩
 case round =>
  obtain ⟨rfl, rfl⟩ := hrel
  go_wp2
  go_ret
  exact ⟨rfl, rfl⟩
theorem contains_empty (A : Option Addr) (c : Nat) (fv : Value) (w : World) : Calls Tryz.prog 66 #[.slice A 0 c, fv] w fun e w' => e = .returned (.bool false) ∧ w' = w := by
 go_enter Tryz.func66, Tryz.ntmps66
 go_wp2_with fail
 refine (idx_empty A c fv w).mono ?_
 rintro e w' ⟨rfl, rfl⟩
 go_wp2
 go_ret
 exact ⟨rfl, rfl⟩
theorem row_cells {w : World} {A : Option Addr} {l : List ByteArray} (hC : Kd.C Kd.string w A l.length l) (hpos : 0 < l.length) : ∃ b off, A = some ⟨b, off, none⟩ ∧ b < w.heap.size ∧ ∀ j, j < l.length → w.cell? ⟨b, off + j, none⟩ = some (.string l[j]!) := by
 obtain ⟨ad, rfl, hcell⟩ := hC.2.2 hpos
 have key : ∀ (j : Nat) (y : ByteArray), l[j]? = some y → w.cell? (ad.add j) = some (.string y) := by
  intro j y hy
  obtain ⟨c, hc, hR, hcc⟩ := hcell j y hy
  have e : c = [.string y] := hR
  subst e
  have z := hcc 0 (.string y) rfl
  rw [show j * Kd.string.sz + 0 = j from by show j * 1 + 0 = j; omega] at z
  exact z
 obtain ⟨b, o, sp⟩ := ad
 have z := key 0 l[0] (List.getElem?_eq_getElem hpos)
 have hsp : sp = none := by
  cases sp with
  | none => rfl
  | some q =>
   simp only [Addr.add, if_true, World.cell?] at z
   split at z <;> simp at z
 subst hsp
 refine ⟨b, o, rfl, World.block_lt_of_cell? _ _ z, fun j hj => ?_⟩
 have := key j l[j] (List.getElem?_eq_getElem hj)
 rw [Addr.add_lit] at this
 rw [this, getElem!_pos l j hj]
theorem has_calls (A : Option Addr) (c : Nat) (l : List ByteArray) (w : World) (hC : Kd.C Kd.string w A l.length l) (hbig : l.length ≤ 1099511627776) : Calls Tryz.prog 66 #[.slice A l.length c, .func (.func 67) #[] #[]] w fun e w' => e = .returned (.bool (l.any keyBad)) ∧ Below w.heap.size w w' := by
 rcases Nat.eq_zero_or_pos l.length with h0 | h0
 ·obtain rfl : l = [] := List.length_eq_zero_iff.1 h0
  refine (contains_empty A c _ w).mono ?_
  rintro e w' ⟨rfl, rfl⟩
  exact ⟨rfl, Below.refl _ _⟩
 ·obtain ⟨b, off, rfl, hb, hcell⟩ := row_cells hC h0
  exact Route.contains_calls 67 keyBad (enters_of Tryz.func67 (by kernel_rfl) rfl) b off c l w (fun W x hx hW => (keys1_calls x W).mono (fun e w' ⟨h1, h2⟩ => ⟨h1, hW.trans (h2.mono hW.size)⟩)) (by omega) hb hcell
def keysOk (l : List ByteArray) : Bool := decide (l.length ≤ 16) && !(l.any keyBad)
theorem keys_calls (A : Option Addr) (c : Nat) (l : List ByteArray) (w : World) (hC : Kd.C Kd.string w A l.length l) (hbig : l.length ≤ 1099511627776) : Calls Tryz.prog 56 #[.slice A l.length c] w fun e w' => e = .returned (.bool (keysOk l)) ∧ Below w.heap.size w w' := by
 have h := has_calls A c l w hC hbig
 have hK : keysOk l = (decide (l.length ≤ 16) && !(l.any keyBad)) := rfl
 rw [hK]
 generalize l.any keyBad = q at h ⊢
 have H := Lib.hid h
 clear h hC hK
 by_cases h16 : l.length ≤ 16
 ·have i1 : decide ((l.length : Int) ≤ 16) = true := decide_eq_true (by omega)
  rw [decide_eq_true h16]
  go_enter Tryz.func56, Tryz.ntmps56
  go_wp2_with fail
  refine H.out.mono ?_
  rintro e w1 ⟨rfl, hb⟩
  have HB := Lib.hid hb
  clear hb
  go_wp2
  go_ret
  exact ⟨by simp, HB.out⟩
 ·have i1 : decide ((l.length : Int) ≤ 16) = false := decide_eq_false (by omega)
  rw [decide_eq_false h16]
  go_enter Tryz.func56, Tryz.ntmps56
  go_wp2
  go_ret
  exact ⟨by simp, Below.refl _ _⟩
end Go.Proofs.YtlcfcaokihoplaaGreatDoor.OrderNK

namespace Go.Proofs
open Go.Shelf
def Tryz.lays189_ren : Go.Shelf.Ren := ⟨fun | 189 => 54 | 125 => 65 | 257 => 64 | 128 => 81 | 129 => 82 | 294 => 72 | 295 => 73 | 296 => 74 | 297 => 75 | 298 => 76 | 299 => 77 | 216 => 78 | 300 => 79 | 301 => 80 | 328 => 88 | 329 => 89 | 330 => 90 | 331 => 91 | 332 => 92 | 215 => 93 | 343 => 97 | n => n, fun | 28 => 31 | 3 => 3 | 46 => 115 | 0 => 0 | 51 => 145 | 53 => 93 | 4 => 4 | 183 => 137 | 182 => 136 | 131 => 142 | 5 => 5 | 9 => 9 | 218 => 149 | 222 => 153 | 228 => 157 | 229 => 158 | n => n, fun | n => n⟩
theorem Tryz.lays189 : Go.Proofs.Lays.n189 Tryz.prog Tryz.lays189_ren := {
 mixed := by kernel_rfl
 f125 := Tryz.func65.trans (congrArg some (by kernel_rfl))
 f128 := Tryz.func81.trans (congrArg some (by kernel_rfl))
 f129 := Tryz.func82.trans (congrArg some (by kernel_rfl))
 f189 := Tryz.func54.trans (congrArg some (by kernel_rfl))
 f215 := Tryz.func93.trans (congrArg some (by kernel_rfl))
 f216 := Tryz.func78.trans (congrArg some (by kernel_rfl))
 f257 := Tryz.func64.trans (congrArg some (by kernel_rfl))
 f294 := Tryz.func72.trans (congrArg some (by kernel_rfl))
 f295 := Tryz.func73.trans (congrArg some (by kernel_rfl))
 f296 := Tryz.func74.trans (congrArg some (by kernel_rfl))
 f297 := Tryz.func75.trans (congrArg some (by kernel_rfl))
 f298 := Tryz.func76.trans (congrArg some (by kernel_rfl))
 f299 := Tryz.func77.trans (congrArg some (by kernel_rfl))
 f300 := Tryz.func79.trans (congrArg some (by kernel_rfl))
 f301 := Tryz.func80.trans (congrArg some (by kernel_rfl))
 f328 := Tryz.func88.trans (congrArg some (by kernel_rfl))
 f329 := Tryz.func89.trans (congrArg some (by kernel_rfl))
 f330 := Tryz.func90.trans (congrArg some (by kernel_rfl))
 f331 := Tryz.func91.trans (congrArg some (by kernel_rfl))
 f332 := Tryz.func92.trans (congrArg some (by kernel_rfl))
 f343 := Tryz.func97.trans (congrArg some (by kernel_rfl))
 t0 := Tryz.underlying0
 a0 := Tryz.isAgg0
 z0 := Tryz.sizeOf0
 v0 := Tryz.zeroValue0
 t3 := Tryz.underlying3
 a3 := Tryz.isAgg3
 z3 := Tryz.sizeOf3
 v3 := Tryz.zeroValue3
 t4 := Tryz.underlying4
 a4 := Tryz.isAgg4
 z4 := Tryz.sizeOf4
 v4 := Tryz.zeroValue4
 t5 := Tryz.underlying5
 a5 := Tryz.isAgg5
 z5 := Tryz.sizeOf5
 v5 := Tryz.zeroValue5
 t9 := Tryz.underlying9
 a9 := Tryz.isAgg9
 z9 := Tryz.sizeOf9
 v9 := Tryz.zeroValue9
 t28 := Tryz.underlying31
 a28 := Tryz.isAgg31
 z28 := Tryz.sizeOf31
 v28 := Tryz.zeroValue31
 t46 := Tryz.underlying115
 a46 := Tryz.isAgg115
 z46 := Tryz.sizeOf115
 v46 := Tryz.zeroValue115
 t51 := Tryz.underlying145
 a51 := Tryz.isAgg145
 z51 := Tryz.sizeOf145
 v51 := Tryz.zeroValue145
 t53 := Tryz.underlying93
 a53 := Tryz.isAgg93
 z53 := Tryz.sizeOf93
 v53 := Tryz.zeroValue93
 t131 := Tryz.underlying142
 a131 := Tryz.isAgg142
 z131 := Tryz.sizeOf142
 v131 := Tryz.zeroValue142
 t182 := Tryz.underlying136
 a182 := Tryz.isAgg136
 z182 := Tryz.sizeOf136
 v182 := Tryz.zeroValue136
 t183 := Tryz.underlying137
 a183 := Tryz.isAgg137
 z183 := Tryz.sizeOf137
 v183 := Tryz.zeroValue137
 t218 := Tryz.underlying149
 a218 := Tryz.isAgg149
 z218 := Tryz.sizeOf149
 v218 := Tryz.zeroValue149
 t222 := Tryz.underlying153
 a222 := Tryz.isAgg153
 z222 := Tryz.sizeOf153
 v222 := Tryz.zeroValue153
 t228 := Tryz.underlying157
 a228 := Tryz.isAgg157
 z228 := Tryz.sizeOf157
 v228 := Tryz.zeroValue157
 t229 := Tryz.underlying158
 a229 := Tryz.isAgg158
 z229 := Tryz.sizeOf158
 v229 := Tryz.zeroValue158 }
open Go.Sort Go.RowKit in
theorem Tryz.slices_Sort_int (blk off cap : Nat) (zs : List Int) (w : World) (hH : Holds (Value.int .i64) w blk off zs.toArray) (hblk : blk < w.heap.size) (hsz : zs.length < 4611686018427387904) :
  Calls Tryz.prog 54 #[.slice (some ⟨blk, off, none⟩) zs.length cap] w fun e w' =>
   e = .returned (.tuple #[]) ∧ ∃ n os, w' = grow (putRow (Value.int .i64) (Sort.ahead w n) blk off (zs.mergeSort fun x y => decide (x ≤ y)).toArray) os := Any.slices_Sort_int Tryz.lays189 blk off cap zs w hH hblk hsz
open Go.RowKit Go.Sort in
theorem Tryz.slices_Sort_int_none (p : Option Addr) (cap : Nat) (w : World) :
  Calls Tryz.prog 54 #[.slice p 0 cap] w fun e w' => e = .returned (.tuple #[]) ∧ w' = w := Any.slices_Sort_int_none Tryz.lays189 p cap w
end Go.Proofs
