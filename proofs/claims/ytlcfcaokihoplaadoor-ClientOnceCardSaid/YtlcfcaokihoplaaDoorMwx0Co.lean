-- Cut by a program of this session (wip/shake.py) out of a text of this seat: what this claim doesn't reach is struck out. Lean checks it.
import Derived.Test.YtlcfcaokihoplaaDoorProg
import Derived.Below
import Derived.Deep.Draws
import Derived.Deep.AppendLies
import Derived.Maps.AppendAt
import Derived.OwnWalk
import Derived.Laws.BytesArg
import Derived.Laws.MakeOwn
import Derived.Laws.OwnMore
import Derived.Deep.OwnRows
import Derived.Tactics
import Derived.Lib.ConvBytes
import Derived.Laws.Slices
import Derived.WalkKit
import Derived.KernelRfl
import Derived.RowKit3
import Derived.Deep.LoopGhost
import Derived.Deep.QuietTactic
import Derived.BigQuiet
import Derived.WideLaws
import Derived.Deep.DeepCutAuto
import Derived.Deep.CutBlock
import Derived.Deep.RegionHeld3
import Derived.Laws.Rows
import Derived.Lib.AppendStr
import Derived.ArgAppend
import Derived.Laws.IdiomCopy
import Derived.OrdersHeld
import Derived.Laws.BitsLemmas
import Derived.RowKit
import Derived.Lib.Hide
import Derived.Lib.SliceRun
import Derived.WalkSpells
import Derived.Test.YtlcfcaokihoplaaDoorWWordsCo
import Derived.Test.YtlcfcaokihoplaaDoorWLastCo
import Derived.Test.YtlcfcaokihoplaaDoorWTabCo
import Derived.Test.YtlcfcaokihoplaaDoorWEqStructCo
import Derived.Test.YtlcfcaokihoplaaDoorWQPutCo
import Derived.Test.YtlcfcaokihoplaaDoorWApartCo
import Derived.Test.YtlcfcaokihoplaaDoorWFootCo
import Derived.Test.YtlcfcaokihoplaaDoorWShareCo
import Derived.Test.YtlcfcaokihoplaaDoorWNEvCo
import Derived.Test.YtlcfcaokihoplaaDoorWGuardCo
import Derived.Test.YtlcfcaokihoplaaDoorWMoreCo
namespace Go.Proofs.YtlcfcaokihoplaaDoor.Mw
open Go.RowKit Go.Proofs.YtlcfcaokihoplaaDoorW.PrintWords Go.Proofs.YtlcfcaokihoplaaDoorW.PrintLast Go.Proofs.YtlcfcaokihoplaaDoorW.PrintMore
attribute [local go_sem] max2_int min2_int max_two min_two max_three min_three max_four min_four   -- for this text's walks alone
set_option linter.unusedVariables false
set_option linter.unusedSimpArgs false
def errW : Option Int → Value
  | none => .nilIface
  | some c => .iface 53 (.int .i64 c)
theorem errW_none : errW none = .nilIface := rfl
theorem errW_some (c : Int) : errW (some c) = .iface 53 (.int .i64 c) := rfl
theorem info5 : (Tryd.prog.info? 5).map (fun i => (i.zero, i.size, i.bytes)) = some (some (.int .u8 0), 1, 1) := by kernel_rfl
theorem isEmpty_bne (l : List UInt8) : l.isEmpty = !(l != []) := by cases l <;> rfl
theorem run_equalIn_ints {P : Program} (w : World) (d : Nat) {ti tn : TypeId} {ms : Array (String × TypeId)} {i : TypeInfo} {k : IntKind} (a b : Int)
    (hi : P.underlying ti = some (.interface ms)) (hn : P.underlying tn = some (.int k)) (hinfo : P.info? tn = some i) (hcomp : i.comparable = true) :
    (Op.equalIn (d + 2) ti (.iface tn (.int k a)) (.iface tn (.int k b))).run P w = .ok (a == b) w := by
  simp [Op.equalIn, run_underlying hi, run_underlying hn, typeInfo, hinfo, hcomp]
theorem errInfo : (Tryd.prog.info? 53).map (fun i => i.comparable) = some true := by kernel_rfl
theorem eqlErr (w : World) (a b : Int) : (binOp .eql 31 (.iface 53 (.int .i64 a)) (.iface 53 (.int .i64 b))).run Tryd.prog w = .ok (.bool (a == b)) w := by
  obtain ⟨i, hi, hc⟩ : ∃ i, Tryd.prog.info? 53 = some i ∧ i.comparable = true := by
    have h := errInfo
    cases hh : Tryd.prog.info? 53 with
    | none => rw [hh] at h; cases h
    | some i => rw [hh] at h; exact ⟨i, rfl, Option.some.inj h⟩
  simp only [binOp]
  simp [Op.equal, Op.maxDepth, run_equalIn_ints w 9998 a b Tryd.underlying31 Tryd.underlying53 hi hc]
theorem neqErr (w : World) (a b : Int) : (binOp .neq 31 (.iface 53 (.int .i64 a)) (.iface 53 (.int .i64 b))).run Tryd.prog w = .ok (.bool (a != b)) w := by
  obtain ⟨i, hi, hc⟩ : ∃ i, Tryd.prog.info? 53 = some i ∧ i.comparable = true := by
    have h := errInfo
    cases hh : Tryd.prog.info? 53 with
    | none => rw [hh] at h; cases h
    | some i => rw [hh] at h; exact ⟨i, rfl, Option.some.inj h⟩
  simp only [binOp]
  simp [Op.equal, Op.maxDepth, run_equalIn_ints w 9998 a b Tryd.underlying31 Tryd.underlying53 hi hc, bne]
theorem eqlErrNil (w : World) (b : Int) : (binOp .eql 31 .nilIface (.iface 53 (.int .i64 b))).run Tryd.prog w = .ok (.bool false) w := by
  have h : ∀ d : Nat, (Op.equalIn (d + 1) 31 .nilIface (.iface 53 (.int .i64 b))).run Tryd.prog w = .ok false w := fun d => by simp [Op.equalIn, run_underlying Tryd.underlying31]
  simp only [binOp]
  simp [Op.equal, Op.maxDepth, h 9999]
theorem neqErrNil (w : World) (b : Int) : (binOp .neq 31 .nilIface (.iface 53 (.int .i64 b))).run Tryd.prog w = .ok (.bool true) w := by
  have h : ∀ d : Nat, (Op.equalIn (d + 1) 31 .nilIface (.iface 53 (.int .i64 b))).run Tryd.prog w = .ok false w := fun d => by simp [Op.equalIn, run_underlying Tryd.underlying31]
  simp only [binOp]
  simp [Op.equal, Op.maxDepth, h 9999]
end Go.Proofs.YtlcfcaokihoplaaDoor.Mw
