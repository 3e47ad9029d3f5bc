-- Out of the translation, by a program of this session (wip/myprint.py, over the kit's printer). Lean checks it.
import Derived.Test.YtbnhoacchibbnaaProg
import Derived.Below
import Derived.Deep.Draws
import Derived.Deep.AppendLies
import Derived.Maps.AppendAt
import Derived.OwnWalk
import Derived.Laws.BytesArg
import Derived.Laws.MakeOwn
import Derived.Laws.OwnMore
import Derived.Deep.OwnRows
import Derived.Tactics
import Derived.Lib.ConvBytes
import Derived.Laws.Slices
import Derived.WalkKit
import Derived.KernelRfl
import Derived.RowKit3
import Derived.Deep.LoopGhost
import Derived.Deep.QuietTactic
import Derived.BigQuiet
import Derived.WideLaws
import Derived.Deep.DeepCutAuto
import Derived.Deep.CutBlock
import Derived.Deep.RegionHeld3
import Derived.Laws.Rows
import Derived.Lib.AppendStr
import Derived.ArgAppend
import Derived.Laws.IdiomCopy
import Derived.OrdersHeld
import Derived.Laws.BitsLemmas
import Derived.RowKit
import Derived.Lib.Hide
import Derived.Lib.SliceRun
import Derived.WalkSpells
import Derived.Test.YtbnhoacchibbnaaWWords
import Derived.Test.YtbnhoacchibbnaaWLast
import Derived.Test.YtbnhoacchibbnaaWTab
import Derived.Test.YtbnhoacchibbnaaWFour
import Derived.Test.YtbnhoacchibbnaaWQPut
import Derived.Test.YtbnhoacchibbnaaWApart
import Derived.Test.YtbnhoacchibbnaaWArr
import Derived.Test.YtbnhoacchibbnaaWZeros
import Derived.Test.YtbnhoacchibbnaaWFoot
import Derived.Test.YtbnhoacchibbnaaWKept
import Derived.Test.YtbnhoacchibbnaaWShare
import Derived.Test.YtbnhoacchibbnaaWN
import Derived.Test.YtbnhoacchibbnaaWFootNe
import Derived.Test.YtbnhoacchibbnaaWAt
import Derived.Test.YtbnhoacchibbnaaWEqStruct
import Derived.Test.YtbnhoacchibbnaaWRepsOne
import Derived.Test.YtbnhoacchibbnaaWInv
import Derived.Test.YtbnhoacchibbnaaWInvWords
import Derived.Test.YtbnhoacchibbnaaWGuard
import Derived.Test.YtbnhoacchibbnaaWNEv
import Derived.Test.YtbnhoacchibbnaaWMore
namespace Go.Proofs.Ytbnhoacchibbnaa.Lw
open Go.RowKit Go.Proofs.YtbnhoacchibbnaaW.PrintWords Go.Proofs.YtbnhoacchibbnaaW.PrintLast Go.Proofs.YtbnhoacchibbnaaW.PrintMore
attribute [local go_sem] max2_int min2_int max_two min_two max_three min_three max_four min_four   -- for this text's walks alone
set_option linter.unusedVariables false
set_option linter.unusedSimpArgs false



def errW : Option Int → Value
  | none => .nilIface
  | some c => .iface 73 (.int .i64 c)
theorem errW_none : errW none = .nilIface := rfl
theorem errW_some (c : Int) : errW (some c) = .iface 73 (.int .i64 c) := rfl

theorem info5 : (Try.prog.info? 5).map (fun i => (i.zero, i.size, i.bytes)) = some (some (.int .u8 0), 1, 1) := by kernel_rfl

theorem isEmpty_bne (l : List UInt8) : l.isEmpty = !(l != []) := by cases l <;> rfl
theorem run_equalIn_ints {P : Program} (w : World) (d : Nat) {ti tn : TypeId} {ms : Array (String × TypeId)} {i : TypeInfo} {k : IntKind} (a b : Int)
    (hi : P.underlying ti = some (.interface ms)) (hn : P.underlying tn = some (.int k)) (hinfo : P.info? tn = some i) (hcomp : i.comparable = true) :
    (Op.equalIn (d + 2) ti (.iface tn (.int k a)) (.iface tn (.int k b))).run P w = .ok (a == b) w := by
  simp [Op.equalIn, run_underlying hi, run_underlying hn, typeInfo, hinfo, hcomp]
theorem errInfo : (Try.prog.info? 73).map (fun i => i.comparable) = some true := by kernel_rfl
theorem eqlErr (w : World) (a b : Int) : (binOp .eql 27 (.iface 73 (.int .i64 a)) (.iface 73 (.int .i64 b))).run Try.prog w = .ok (.bool (a == b)) w := by
  obtain ⟨i, hi, hc⟩ : ∃ i, Try.prog.info? 73 = some i ∧ i.comparable = true := by
    have h := errInfo
    cases hh : Try.prog.info? 73 with
    | none => rw [hh] at h; cases h
    | some i => rw [hh] at h; exact ⟨i, rfl, Option.some.inj h⟩
  simp only [binOp]
  simp [Op.equal, Op.maxDepth, run_equalIn_ints w 9998 a b Try.underlying27 Try.underlying73 hi hc]
theorem neqErr (w : World) (a b : Int) : (binOp .neq 27 (.iface 73 (.int .i64 a)) (.iface 73 (.int .i64 b))).run Try.prog w = .ok (.bool (a != b)) w := by
  obtain ⟨i, hi, hc⟩ : ∃ i, Try.prog.info? 73 = some i ∧ i.comparable = true := by
    have h := errInfo
    cases hh : Try.prog.info? 73 with
    | none => rw [hh] at h; cases h
    | some i => rw [hh] at h; exact ⟨i, rfl, Option.some.inj h⟩
  simp only [binOp]
  simp [Op.equal, Op.maxDepth, run_equalIn_ints w 9998 a b Try.underlying27 Try.underlying73 hi hc, bne]
theorem eqlErrNil (w : World) (b : Int) : (binOp .eql 27 .nilIface (.iface 73 (.int .i64 b))).run Try.prog w = .ok (.bool false) w := by
  have h : ∀ d : Nat, (Op.equalIn (d + 1) 27 .nilIface (.iface 73 (.int .i64 b))).run Try.prog w = .ok false w := fun d => by simp [Op.equalIn, run_underlying Try.underlying27]
  simp only [binOp]
  simp [Op.equal, Op.maxDepth, h 9999]
theorem neqErrNil (w : World) (b : Int) : (binOp .neq 27 .nilIface (.iface 73 (.int .i64 b))).run Try.prog w = .ok (.bool true) w := by
  have h : ∀ d : Nat, (Op.equalIn (d + 1) 27 .nilIface (.iface 73 (.int .i64 b))).run Try.prog w = .ok false w := fun d => by simp [Op.equalIn, run_underlying Try.underlying27]
  simp only [binOp]
  simp [Op.equal, Op.maxDepth, h 9999]

-- the values' own types
def rd_L1 (xs : List (List Int)) (i : Int) : (List Int) := xs.getD i.toNat ([] : List Int)
theorem at_L1 {w : World} {A : Option Addr} {n : Nat} {xs : List (List Int)} (h : Kd.C (Kd.slice 5 (Kd.int .u8)) w A n xs) (i : Int) (h0 : 0 ≤ i) (h1 : i < n) : ∃ ad A0 c0, A = some ad ∧ w.cell? (ad.add i.toNat) = some (.slice A0 (rd_L1 xs i).length c0) ∧ (rd_L1 xs i).length ≤ c0 ∧ (Kd.int .u8).C w A0 (rd_L1 xs i).length (rd_L1 xs i) := by
  obtain ⟨ad, c, e, _, hK, hc0⟩ := Kd.C_get h ([] : List Int) i h0 h1
  have hc : ∀ j u, c[j]? = some u → w.cell? (ad.add (i.toNat * 1 + j)) = some u := hc0
  obtain ⟨A0, c0, rfl, l0, g0⟩ := hK
  exact ⟨ad, A0, c0, e, by have hq := hc 0 _ rfl; rwa [Nat.mul_one, Nat.add_zero] at hq, l0, g0⟩

end Go.Proofs.Ytbnhoacchibbnaa.Lw
