-- Cut.
import Derived.Test.YtlcfcaokihoplaaGreatDoorProg
import Derived.Below
import Derived.Deep.Draws
import Derived.Deep.AppendLies
import Derived.Maps.AppendAt
import Derived.OwnWalk
import Derived.Laws.BytesArg
import Derived.Laws.MakeOwn
import Derived.Laws.OwnMore
import Derived.Deep.OwnRows
import Derived.Tactics
import Derived.Lib.ConvBytes
import Derived.Laws.Slices
import Derived.WalkKit
import Derived.KernelRfl
import Derived.RowKit3
import Derived.Deep.LoopGhost
import Derived.Deep.QuietTactic
import Derived.BigQuiet
import Derived.WideLaws
import Derived.Deep.DeepCutAuto
import Derived.Deep.CutBlock
import Derived.Deep.RegionHeld3
import Derived.Laws.Rows
import Derived.Lib.AppendStr
import Derived.ArgAppend
import Derived.Laws.IdiomCopy
import Derived.OrdersHeld
import Derived.Laws.BitsLemmas
import Derived.RowKit
import Derived.Test.YtlcfcaokihoplaaGreatDoorMsgR5Cp
import Derived.Test.YtlcfcaokihoplaaGreatDoorSplitCp
import Derived.Test.YtlcfcaokihoplaaGreatDoorWWordsCp
import Derived.Test.YtlcfcaokihoplaaGreatDoorWLastCp
import Derived.Test.YtlcfcaokihoplaaGreatDoorWTabCp
import Derived.Test.YtlcfcaokihoplaaGreatDoorMwx0Cp
import Derived.Test.YtlcfcaokihoplaaGreatDoorWApartCp
import Derived.Test.YtlcfcaokihoplaaGreatDoorOpenStrsCp
namespace Go.Proofs.YtlcfcaokihoplaaGreatDoor.Mf
open Go.RowKit Go.Proofs.YzW.PrintWords Go.Proofs.YzW.PrintLast Go.Proofs.YzW.PrintMore
attribute [local go_sem] cg_ ce_ cw_ cv_ by_ bx_ cf_ cd_
set_option linter.unusedVariables false
set_option linter.unusedSimpArgs false
def errW : Option Int → Value
 | none => .nilIface
 | some c => .iface 29 (.int .i64 c)
theorem i_ : errW none = .nilIface := rfl
theorem g_ (c : Int) : errW (some c) = .iface 29 (.int .i64 c) := rfl
theorem info5 : (Tryz.prog.info? 5).map (fun i => (i.zero, i.size, i.bytes)) = some (some (.int .u8 0), 1, 1) := by kernel_rfl
theorem info9 : (Tryz.prog.info? 9).map (fun i => (i.zero, i.size, i.bytes)) = some (some (.string ⟨#[]⟩), 1, 16) := by kernel_rfl
theorem info107 : (Tryz.prog.info? 107).map (fun i => (i.zero, i.size, i.bytes)) = some (some (.agg #[(.string ⟨#[]⟩), (.int .i64 0), (.slice none 0 0)]), 3, 48) := by kernel_rfl
theorem bg_ (l : List UInt8) : l.isEmpty = !(l != []) := by cases l <;> rfl
theorem cn_ {P : Program} (w : World) (d : Nat) {ti tn : TypeId} {ms : Array (String × TypeId)} {i : TypeInfo} {k : IntKind} (a b : Int)
  (hi : P.underlying ti = some (.interface ms)) (hn : P.underlying tn = some (.int k)) (hinfo : P.info? tn = some i) (hcomp : i.comparable = true) :
  (Op.equalIn (d + 2) ti (.iface tn (.int k a)) (.iface tn (.int k b))).run P w = .ok (a == b) w := by
 simp [Op.equalIn, run_underlying hi, run_underlying hn, typeInfo, hinfo, hcomp]
theorem errInfo : (Tryz.prog.info? 29).map (fun i => i.comparable) = some true := by kernel_rfl
theorem eqlErr (w : World) (a b : Int) : (binOp .eql 26 (.iface 29 (.int .i64 a)) (.iface 29 (.int .i64 b))).run Tryz.prog w = .ok (.bool (a == b)) w := by
 obtain ⟨i, hi, hc⟩ : ∃ i, Tryz.prog.info? 29 = some i ∧ i.comparable = true := by
  have h := errInfo
  cases hh : Tryz.prog.info? 29 with
  | none => rw [hh] at h; cases h
  | some i => rw [hh] at h; exact ⟨i, rfl, Option.some.inj h⟩
 simp only [binOp]
 simp [Op.equal, Op.maxDepth, cn_ w 9998 a b Tryz.underlying26 Tryz.underlying29 hi hc]
theorem neqErr (w : World) (a b : Int) : (binOp .neq 26 (.iface 29 (.int .i64 a)) (.iface 29 (.int .i64 b))).run Tryz.prog w = .ok (.bool (a != b)) w := by
 obtain ⟨i, hi, hc⟩ : ∃ i, Tryz.prog.info? 29 = some i ∧ i.comparable = true := by
  have h := errInfo
  cases hh : Tryz.prog.info? 29 with
  | none => rw [hh] at h; cases h
  | some i => rw [hh] at h; exact ⟨i, rfl, Option.some.inj h⟩
 simp only [binOp]
 simp [Op.equal, Op.maxDepth, cn_ w 9998 a b Tryz.underlying26 Tryz.underlying29 hi hc, bne]
theorem eqlErrNil (w : World) (b : Int) : (binOp .eql 26 .nilIface (.iface 29 (.int .i64 b))).run Tryz.prog w = .ok (.bool false) w := by
 have h : ∀ d : Nat, (Op.equalIn (d + 1) 26 .nilIface (.iface 29 (.int .i64 b))).run Tryz.prog w = .ok false w := fun d => by simp [Op.equalIn, run_underlying Tryz.underlying26]
 simp only [binOp]
 simp [Op.equal, Op.maxDepth, h 9999]
theorem neqErrNil (w : World) (b : Int) : (binOp .neq 26 .nilIface (.iface 29 (.int .i64 b))).run Tryz.prog w = .ok (.bool true) w := by
 have h : ∀ d : Nat, (Op.equalIn (d + 1) 26 .nilIface (.iface 29 (.int .i64 b))).run Tryz.prog w = .ok false w := fun d => by simp [Op.equalIn, run_underlying Tryz.underlying26]
 simp only [binOp]
 simp [Op.equal, Op.maxDepth, h 9999]
structure S107 where
 f0 : ByteArray
 f1 : Int
 f2 : (List ByteArray)
def z107 : S107 := ⟨(⟨#[]⟩ : ByteArray), (0 : Int), ([] : List ByteArray)⟩
def k107 : Kd S107 := Kd.iso (Kd.pair Kd.string (Kd.pair (Kd.int .i64) (Kd.slice 9 Kd.string))) (fun x : S107 => (x.f0, x.f1, x.f2))
theorem k107_open {w : World} {x : S107} {cs : List Value} (h : k107.K w x cs) : ∃ A2 c2, cs = [.string x.f0, .int .i64 x.f1, .slice A2 x.f2.length c2] ∧ x.f2.length ≤ c2 ∧ Kd.string.C w A2 x.f2.length x.f2 := by
 obtain ⟨_, _, rfl, rfl, ⟨_, _, rfl, rfl, ⟨A2, c2, rfl, l2, g2⟩⟩⟩ := h
 exact ⟨A2, c2, rfl, l2, g2⟩
theorem k107_mkM (w : World) (base : Nat) (ok : Nat → Prop) (x : S107) {v2 : Value} (g2 : Kd.string.R 9 w base ok v2 x.f2) : k107.M w base ok x [.string x.f0, .int .i64 x.f1, v2] := ⟨[.string x.f0], [.int .i64 x.f1, v2], rfl, rfl, ⟨[.int .i64 x.f1], [v2], rfl, rfl, ⟨v2, rfl, g2⟩⟩⟩
def bi_ (xs : List S107) (i : Int) : S107 := xs.getD i.toNat z107
theorem at_T107 {w : World} {A : Option Addr} {n : Nat} {xs : List S107} (h : Kd.C k107 w A n xs) (i : Int) (h0 : 0 ≤ i) (h1 : i < n) : ∃ ad A2 c2, A = some ad ∧ w.cell? (ad.add (i.toNat * 3)) = some (.string (bi_ xs i).f0) ∧ w.cell? ⟨(ad.add (i.toNat * 3)).block, (ad.add (i.toNat * 3)).off + 1, none⟩ = some (.int .i64 (bi_ xs i).f1) ∧ w.cell? ⟨(ad.add (i.toNat * 3)).block, (ad.add (i.toNat * 3)).off + 2, none⟩ = some (.slice A2 (bi_ xs i).f2.length c2) ∧ (bi_ xs i).f2.length ≤ c2 ∧ Kd.string.C w A2 (bi_ xs i).f2.length (bi_ xs i).f2 := by
 obtain ⟨ad, c, e, _, hK, hc0⟩ := Kd.C_get h z107 i h0 h1
 have hc : ∀ j u, c[j]? = some u → w.cell? (ad.add (i.toNat * 3 + j)) = some u := hc0
 obtain ⟨A2, c2, rfl, l2, g2⟩ := k107_open hK
 exact ⟨ad, A2, c2, e, hc 0 _ rfl, by rw [← add_field _ _ 1 (by omega)]; exact hc 1 _ rfl, by rw [← add_field _ _ 2 (by omega)]; exact hc 2 _ rfl, l2, g2⟩
end Go.Proofs.YtlcfcaokihoplaaGreatDoor.Mf

namespace Go.Proofs.YtlcfcaokihoplaaGreatDoor.Mf
open Go.RowKit Go.Proofs.YzW.PrintWords Go.Proofs.YzW.PrintLast Go.Proofs.YzW.PrintMore
set_option linter.unusedVariables false
set_option linter.unusedSimpArgs false
section
variable {P : Program} {ops : Array Oper} {rest : List Oper} {o : Oper} {a : Act} {Q : Exit → Act → World → Prop}
theorem conv_row (W : World) (e : TypeId) (s : ByteArray) (hm : s.size ≤ 100000000) : Kd.C (Kd.int .u8) (Lib.bytesWorld W e s) (some ⟨W.heap.size, 0, none⟩) (bk_ s).length (bk_ s) := by
 have hl : (bk_ s).length = s.size := by unfold bk_; rw [List.length_map, Array.length_toList]; rfl
 refine Kd.C_of_reads (d := (0 : Int)) (h1 := fun _ => rfl) ⟨rfl, by rw [hl]; show s.size ≤ 9223372036854775807; omega, fun _ => ⟨_, rfl, fun j hj => ?_⟩⟩
 rw [hl] at hj
 have h := Lib.bytesWorld_cell W e s j hj
 have h2 : (bk_ s).getD j 0 = ((s.data.toList.getD j 0).toNat : Int) := by
  unfold bk_
  have hj' : j < s.data.toList.length := by rw [Array.length_toList]; exact hj
  rw [List.getD_eq_getElem?_getD, List.getElem?_map, List.getD_eq_getElem?_getD, List.getElem?_eq_getElem hj']
  rfl
 rw [h2]
 rw [← h]
 unfold Addr.add
 by_cases hz : j = 0
 ·subst hz; simp
 ·simp [hz]
theorem conv_below (W : World) (e : TypeId) (s : ByteArray) : Below W.heap.size W (Lib.bytesWorld W e s) := by
 exact ⟨by simp [Lib.bytesWorld, World.freeze, World.alloc, World.drew, -World.alloc_eq, -World.drew_eq], by simp [Lib.bytesWorld, World.freeze, World.alloc, World.drew, -World.alloc_eq, -World.drew_eq], by simp [Lib.bytesWorld, World.freeze, World.alloc, World.drew, -World.alloc_eq, -World.drew_eq], by rw [Lib.bytesWorld_size]; omega, fun k hk => Lib.bytesWorld_at_old W e s k hk⟩
theorem conv_event {W : World} (hgd : o.guard = none) {l : List Int} {s : ByteArray} (hl : l = bk_ s) (hm : s.size ≤ 100000000) {src dst e : TypeId} {x : Operand}
  (ho : o.op = .convert src dst x) (hx : a.eval x = .string s) (hs : P.underlying src = some .string) (hd : P.underlying dst = some (.slice e)) (he : P.underlying e = some (.int .u8))
  (h : ∀ A c w1, Kd.C (Kd.int .u8) w1 A l.length l → l.length ≤ c → Below W.heap.size W w1 → wpList P ops Q rest (a.put o.dst (.slice A l.length c)) w1) : wpList P ops Q (o :: rest) a W := by
 subst hl
 have hln : (bk_ s).length = s.size := by unfold bk_; rw [List.length_map, Array.length_toList]; rfl
 refine Kd.event_run hgd (w1 := Lib.bytesWorld W e s) (v := .slice (some ⟨W.heap.size, 0, none⟩) (bk_ s).length (grownCap W s.size 0 e)) ?_ (h _ _ _ (conv_row W e s hm) (by rw [hln]; exact grownCap_ge _ _ _ _) (conv_below W e s))
 have hr := Lib.run_convert_string_bytes (P := P) W src dst e s hs hd he
 unfold execOp
 rw [ho]
 dsimp only
 rw [hx, hln]
 simp [hr]
end
theorem cr_ {w0 w W : World} (h1 : Below w0.heap.size w0 w) (h2 : Below w.heap.size w W) : Below w0.heap.size w0 W := h1.trans (h2.mono h1.size)
end Go.Proofs.YtlcfcaokihoplaaGreatDoor.Mf
