-- Cut.
import Derived.Test.YtlcfcaokihoplaaGreatDoorWTabCp
import Derived.Test.YtlcfcaokihoplaaGreatDoorOpenStrsCp
import Derived.Test.YtlcfcaokihoplaaGreatDoorWWordsCp
import Derived.Laws.StructEq
import Derived.Test.YtlcfcaokihoplaaGreatDoorProg
import Derived.Below
import Derived.Deep.Draws
import Derived.Deep.AppendLies
import Derived.Maps.AppendAt
import Derived.OwnWalk
import Derived.Laws.BytesArg
import Derived.Laws.MakeOwn
import Derived.Laws.OwnMore
import Derived.Deep.OwnRows
import Derived.Tactics
import Derived.Lib.ConvBytes
import Derived.Laws.Slices
import Derived.WalkKit
import Derived.KernelRfl
import Derived.RowKit3
import Derived.Deep.LoopGhost
import Derived.Deep.QuietTactic
import Derived.BigQuiet
import Derived.WideLaws
import Derived.Deep.DeepCutAuto
import Derived.Deep.CutBlock
import Derived.Deep.RegionHeld3
import Derived.Laws.Rows
import Derived.Lib.AppendStr
import Derived.ArgAppend
import Derived.Laws.IdiomCopy
import Derived.OrdersHeld
import Derived.Laws.BitsLemmas
import Derived.RowKit
import Derived.Lib.Hide
import Derived.Lib.SliceRun
import Derived.WalkSpells
import Derived.Test.YtlcfcaokihoplaaGreatDoorWLastCp
import Derived.Test.YtlcfcaokihoplaaGreatDoorWApartCp
namespace Go.Proofs.YzW.PrintLast
section
variable {P : Program} {ops : Array Oper} {Q : Exit → Act → World → Prop} {md : Region.Mode} {S : World → Prop} {ds : List Nat} {T : Bool × List (List Nat × List Nat)}
end
end Go.Proofs.YzW.PrintLast

namespace Go.Proofs.YzW.PrintWords
open Go.RowKit
namespace Kd
section
variable {α : Type} {d : Kd α} {W : World} {g n : Nat} {S ok : Nat → Prop} {A : Option Addr} {ad : Addr} {xs : List α}
end
end Kd
end Go.Proofs.YzW.PrintWords

namespace Go.Proofs.YzW.PrintWords
open Go.RowKit
section
variable {w w' u : World} {m B g : Nat} {o : Obj} {row : Option Nat} {S : Nat → Prop} {a : Addr} {v : Value}
end
namespace Kd
section
variable {α : Type} {d : Kd α} {e base n m : Nat} {ok : Nat → Prop} {w w' : World} {v : Value} {A : Option Addr} {xs : List α}
end
end Kd
end Go.Proofs.YzW.PrintWords

namespace Go.Proofs.YzW.PrintWords
open Go.RowKit
section
variable {P : Program} {d : Nat} {xs ys : Array Value} {f : Field} {fs : List Field} {a b : Value} {r s : Bool} {w : World}
end
end Go.Proofs.YzW.PrintWords

namespace Go.Proofs.YzW.PrintWords
theorem dh_.one {α : Type} {R : α → List Value → Prop} {ps : List α} {cs : List Value} {p : α} {v : Value} (hp : R p [v]) (h : dh_ R 1 ps cs) : dh_ R 1 (p :: ps) (v :: cs) := by
 refine ⟨by simp [h.1], fun j q hq => ?_⟩
 cases j with
 | zero =>
  simp only [List.getElem?_cons_zero, Option.some.injEq] at hq
  subst hq
  simpa using hp
 | succ j =>
  simp only [List.getElem?_cons_succ] at hq
  have h1 := h.2 j q hq
  simpa [Nat.mul_one] using h1
theorem dh_.front {α : Type} {R : α → List Value → Prop} {size : Nat} {ps : List α} {cs c all : List Value} {p : α} (hp : R p c) (hc : c.length = size) (h : dh_ R size ps cs) (ha : c ++ cs = all) : dh_ R size (p :: ps) all := by
 subst ha
 refine ⟨by rw [List.length_append, hc, h.1, List.length_cons, Nat.succ_mul, Nat.add_comm], fun j q hq => ?_⟩
 cases j with
 | zero =>
  simp only [List.getElem?_cons_zero, Option.some.injEq] at hq
  subst hq
  rw [Nat.zero_mul, List.drop_zero, List.take_append_of_le_length (by omega), List.take_of_length_le (by omega)]
  exact hp
 | succ j =>
  simp only [List.getElem?_cons_succ] at hq
  have h1 := h.2 j q hq
  rw [Nat.succ_mul, List.drop_append, List.drop_of_length_le (by rw [hc]; exact Nat.le_add_left _ _), List.nil_append, hc, Nat.add_sub_cancel]
  exact h1
theorem dh_.c2 {α : Type} {R : α → List Value → Prop} {ps : List α} {cs : List Value} {p : α} {va vb : Value} (hp : R p [va, vb]) (h : dh_ R 2 ps cs) : dh_ R 2 (p :: ps) (va :: vb :: cs) := dh_.front hp rfl h rfl
theorem dh_.c3 {α : Type} {R : α → List Value → Prop} {ps : List α} {cs : List Value} {p : α} {va vb vc : Value} (hp : R p [va, vb, vc]) (h : dh_ R 3 ps cs) : dh_ R 3 (p :: ps) (va :: vb :: vc :: cs) := dh_.front hp rfl h rfl
theorem dh_.c4 {α : Type} {R : α → List Value → Prop} {ps : List α} {cs : List Value} {p : α} {va vb vc vd : Value} (hp : R p [va, vb, vc, vd]) (h : dh_ R 4 ps cs) : dh_ R 4 (p :: ps) (va :: vb :: vc :: vd :: cs) := dh_.front hp rfl h rfl
theorem dh_.c5 {α : Type} {R : α → List Value → Prop} {ps : List α} {cs : List Value} {p : α} {va vb vc vd ve : Value} (hp : R p [va, vb, vc, vd, ve]) (h : dh_ R 5 ps cs) : dh_ R 5 (p :: ps) (va :: vb :: vc :: vd :: ve :: cs) := dh_.front hp rfl h rfl
theorem dh_.c6 {α : Type} {R : α → List Value → Prop} {ps : List α} {cs : List Value} {p : α} {va vb vc vd ve vf : Value} (hp : R p [va, vb, vc, vd, ve, vf]) (h : dh_ R 6 ps cs) : dh_ R 6 (p :: ps) (va :: vb :: vc :: vd :: ve :: vf :: cs) := dh_.front hp rfl h rfl
theorem dh_.c7 {α : Type} {R : α → List Value → Prop} {ps : List α} {cs : List Value} {p : α} {va vb vc vd ve vf vg : Value} (hp : R p [va, vb, vc, vd, ve, vf, vg]) (h : dh_ R 7 ps cs) : dh_ R 7 (p :: ps) (va :: vb :: vc :: vd :: ve :: vf :: vg :: cs) := dh_.front hp rfl h rfl
theorem dh_.c8 {α : Type} {R : α → List Value → Prop} {ps : List α} {cs : List Value} {p : α} {va vb vc vd ve vf vg vh : Value} (hp : R p [va, vb, vc, vd, ve, vf, vg, vh]) (h : dh_ R 8 ps cs) : dh_ R 8 (p :: ps) (va :: vb :: vc :: vd :: ve :: vf :: vg :: vh :: cs) := dh_.front hp rfl h rfl
theorem dh_.c9 {α : Type} {R : α → List Value → Prop} {ps : List α} {cs : List Value} {p : α} {va vb vc vd ve vf vg vh vi : Value} (hp : R p [va, vb, vc, vd, ve, vf, vg, vh, vi]) (h : dh_ R 9 ps cs) : dh_ R 9 (p :: ps) (va :: vb :: vc :: vd :: ve :: vf :: vg :: vh :: vi :: cs) := dh_.front hp rfl h rfl
theorem dh_.c10 {α : Type} {R : α → List Value → Prop} {ps : List α} {cs : List Value} {p : α} {va vb vc vd ve vf vg vh vi vj : Value} (hp : R p [va, vb, vc, vd, ve, vf, vg, vh, vi, vj]) (h : dh_ R 10 ps cs) : dh_ R 10 (p :: ps) (va :: vb :: vc :: vd :: ve :: vf :: vg :: vh :: vi :: vj :: cs) := dh_.front hp rfl h rfl
end Go.Proofs.YzW.PrintWords

namespace Go.Proofs.YzW.PrintLast
section
variable {P : Program} {ops : Array Oper} {Q : Exit → Act → World → Prop} {md : Region.Mode} {T : Bool × List (List Nat × List Nat)} {B : List Nat} {O : List Nat} {b : Nat → Bool} {i j n : Nat}
end
end Go.Proofs.YzW.PrintLast

namespace Go.Proofs.YzW.PrintWords
open Go.RowKit
end Go.Proofs.YzW.PrintWords
namespace Go.Proofs.YzW.PrintLast
section
variable {ops : Array Oper} {a : Act} {o og : Oper} {g : Nat} {t : Tmp} {u : Bool}
end
end Go.Proofs.YzW.PrintLast

namespace Go.Proofs.YzW.PrintWords
open Go.RowKit
section
variable {P : Program} {ops : Array Oper} {rest : List Oper} {o : Oper} {a : Act} {Q : Exit → Act → World → Prop} {W : World}
theorem cm_ (hw : Region.wanted o (yielded ops a.tmps) = true) (h : wpList P ops Q ({ o with guard := none } :: rest) a W) : wpList P ops Q (o :: rest) a W := by
 have h1 : Region.wanted { o with guard := none } (yielded ops a.tmps) = true := rfl
 unfold wpList at h ⊢
 rw [if_pos h1] at h
 rw [if_pos hw]
 exact h
end
end Go.Proofs.YzW.PrintWords

namespace Go.Proofs.YtlcfcaokihoplaaGreatDoor.Mw
open Go.RowKit Go.Proofs.YzW.PrintWords Go.Proofs.YzW.PrintLast Go.Proofs.YzW.PrintMore
attribute [local go_sem] cg_ ce_ cw_ cv_ by_ bx_ cf_ cd_
set_option linter.unusedVariables false
set_option linter.unusedSimpArgs false
def errW : Option Int → Value
 | none => .nilIface
 | some c => .iface 29 (.int .i64 c)
theorem i_ : errW none = .nilIface := rfl
theorem g_ (c : Int) : errW (some c) = .iface 29 (.int .i64 c) := rfl
theorem info5 : (Tryz.prog.info? 5).map (fun i => (i.zero, i.size, i.bytes)) = some (some (.int .u8 0), 1, 1) := by kernel_rfl
theorem bg_ (l : List UInt8) : l.isEmpty = !(l != []) := by cases l <;> rfl
theorem cn_ {P : Program} (w : World) (d : Nat) {ti tn : TypeId} {ms : Array (String × TypeId)} {i : TypeInfo} {k : IntKind} (a b : Int)
  (hi : P.underlying ti = some (.interface ms)) (hn : P.underlying tn = some (.int k)) (hinfo : P.info? tn = some i) (hcomp : i.comparable = true) :
  (Op.equalIn (d + 2) ti (.iface tn (.int k a)) (.iface tn (.int k b))).run P w = .ok (a == b) w := by
 simp [Op.equalIn, run_underlying hi, run_underlying hn, typeInfo, hinfo, hcomp]
theorem errInfo : (Tryz.prog.info? 29).map (fun i => i.comparable) = some true := by kernel_rfl
theorem eqlErr (w : World) (a b : Int) : (binOp .eql 26 (.iface 29 (.int .i64 a)) (.iface 29 (.int .i64 b))).run Tryz.prog w = .ok (.bool (a == b)) w := by
 obtain ⟨i, hi, hc⟩ : ∃ i, Tryz.prog.info? 29 = some i ∧ i.comparable = true := by
  have h := errInfo
  cases hh : Tryz.prog.info? 29 with
  | none => rw [hh] at h; cases h
  | some i => rw [hh] at h; exact ⟨i, rfl, Option.some.inj h⟩
 simp only [binOp]
 simp [Op.equal, Op.maxDepth, cn_ w 9998 a b Tryz.underlying26 Tryz.underlying29 hi hc]
theorem neqErr (w : World) (a b : Int) : (binOp .neq 26 (.iface 29 (.int .i64 a)) (.iface 29 (.int .i64 b))).run Tryz.prog w = .ok (.bool (a != b)) w := by
 obtain ⟨i, hi, hc⟩ : ∃ i, Tryz.prog.info? 29 = some i ∧ i.comparable = true := by
  have h := errInfo
  cases hh : Tryz.prog.info? 29 with
  | none => rw [hh] at h; cases h
  | some i => rw [hh] at h; exact ⟨i, rfl, Option.some.inj h⟩
 simp only [binOp]
 simp [Op.equal, Op.maxDepth, cn_ w 9998 a b Tryz.underlying26 Tryz.underlying29 hi hc, bne]
theorem eqlErrNil (w : World) (b : Int) : (binOp .eql 26 .nilIface (.iface 29 (.int .i64 b))).run Tryz.prog w = .ok (.bool false) w := by
 have h : ∀ d : Nat, (Op.equalIn (d + 1) 26 .nilIface (.iface 29 (.int .i64 b))).run Tryz.prog w = .ok false w := fun d => by simp [Op.equalIn, run_underlying Tryz.underlying26]
 simp only [binOp]
 simp [Op.equal, Op.maxDepth, h 9999]
theorem neqErrNil (w : World) (b : Int) : (binOp .neq 26 .nilIface (.iface 29 (.int .i64 b))).run Tryz.prog w = .ok (.bool true) w := by
 have h : ∀ d : Nat, (Op.equalIn (d + 1) 26 .nilIface (.iface 29 (.int .i64 b))).run Tryz.prog w = .ok false w := fun d => by simp [Op.equalIn, run_underlying Tryz.underlying26]
 simp only [binOp]
 simp [Op.equal, Op.maxDepth, h 9999]
end Go.Proofs.YtlcfcaokihoplaaGreatDoor.Mw
