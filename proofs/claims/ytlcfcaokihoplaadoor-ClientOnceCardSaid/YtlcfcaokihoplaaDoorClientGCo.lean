-- Cut by a program of this session (wip/shake.py) out of a text of this seat: what this claim doesn't reach is struck out. Lean checks it.
import Derived.Test.YtlcfcaokihoplaaDoorClientFCo
namespace Go.Proofs.YtlcfcaokihoplaaDoor.Cli
open Go.RowKit Go.Proofs.YtlcfcaokihoplaaDoor.Ms Go.Proofs.YtlcfcaokihoplaaDoorW.PrintWords Go.Proofs.YtlcfcaokihoplaaDoorW.PrintLast Go.Proofs.YtlcfcaokihoplaaDoorW.PrintMore
attribute [local go_sem] Go.Proofs.YtlcfcaokihoplaaDoor.Ms.eqlErr Go.Proofs.YtlcfcaokihoplaaDoor.Ms.neqErr Go.Proofs.YtlcfcaokihoplaaDoor.Ms.eqlErrNil Go.Proofs.YtlcfcaokihoplaaDoor.Ms.neqErrNil
set_option linter.unusedVariables false
set_option linter.unusedSimpArgs false
structure MG where
  kd : Int
  fr : Int
  vw : Int
  sq : Int
  bd : ByteArray
  ps : List S80
  cs : List S67
def MsgR (W : World) (m : MG) (cs : List Value) : Prop :=
  ∃ A c B e, cs = [.int .i64 m.kd, .int .i64 m.fr, .int .i64 m.vw, .int .i64 m.sq, .string m.bd, .slice A m.ps.length c, .slice B m.cs.length e] ∧ (-9223372036854775808 ≤ m.fr ∧ m.fr ≤ 9223372036854775807) ∧ m.ps.length ≤ c ∧ Kd.C k80 W A m.ps.length m.ps ∧ m.cs.length ≤ e ∧ Kd.C k67 W B m.cs.length m.cs
theorem MsgR.below {W W' : World} {m : MG} {cs : List Value} (h : MsgR W m cs) (hb : Below W.heap.size W W') : MsgR W' m cs := by
  obtain ⟨A, c, B, e, h1, h2, h3, h4, h5, h6⟩ := h
  exact ⟨A, c, B, e, h1, h2, h3, Kd.C_below h4 hb, h5, Kd.C_below h6 hb⟩
def Msgs (W : World) (A : Option Addr) (n : Nat) (ms : List MG) : Prop := ReadsRow (MsgR W) 7 W A n ms
theorem Msgs.below {W W' : World} {A : Option Addr} {n : Nat} {ms : List MG} (h : Msgs W A n ms) (hb : Below W.heap.size W W') : Msgs W' A n ms :=
  ReadsRow.imp_ h hb (fun _ _ h => h.below hb)
theorem Msgs.get {W : World} {A : Option Addr} {ms : List MG} (h : Msgs W A ms.length ms) (i : Int) (h0 : 0 ≤ i) (h1 : i < ms.length) :
    ∃ ad, A = some ad ∧ ∃ (m : MG) (B : Option Addr) (b : Nat) (C : Option Addr) (c : Nat), (-9223372036854775808 ≤ m.fr ∧ m.fr ≤ 9223372036854775807) ∧ (m.ps.length ≤ b ∧ Kd.C k80 W B m.ps.length m.ps ∧ m.cs.length ≤ c ∧ Kd.C k67 W C m.cs.length m.cs) ∧
      W.cell? (ad.add (i.toNat * 7)) = some (.int .i64 m.kd) ∧ W.cell? ⟨(ad.add (i.toNat * 7)).block, (ad.add (i.toNat * 7)).off + 1, none⟩ = some (.int .i64 m.fr) ∧ W.cell? ⟨(ad.add (i.toNat * 7)).block, (ad.add (i.toNat * 7)).off + 2, none⟩ = some (.int .i64 m.vw) ∧ W.cell? ⟨(ad.add (i.toNat * 7)).block, (ad.add (i.toNat * 7)).off + 3, none⟩ = some (.int .i64 m.sq) ∧ W.cell? ⟨(ad.add (i.toNat * 7)).block, (ad.add (i.toNat * 7)).off + 4, none⟩ = some (.string m.bd) ∧ W.cell? ⟨(ad.add (i.toNat * 7)).block, (ad.add (i.toNat * 7)).off + 5, none⟩ = some (.slice B m.ps.length b) ∧ W.cell? ⟨(ad.add (i.toNat * 7)).block, (ad.add (i.toNat * 7)).off + 6, none⟩ = some (.slice C m.cs.length c) := by
  obtain ⟨ad, cs, e, hl, ⟨B, b, C, c, rfl, r1, r2, r3, r4, r5⟩, hc⟩ := ReadsRow.get_ h ⟨0, 0, 0, 0, ⟨#[]⟩, [], []⟩ i h0 h1
  refine ⟨ad, e, _, B, b, C, c, r1, ⟨r2, r3, r4, r5⟩, hc 0 _ rfl, ?_, ?_, ?_, ?_, ?_, ?_⟩
  · rw [← hc 1 _ rfl, ← Addr.add_add]; rfl
  · rw [← hc 2 _ rfl, ← Addr.add_add]; rfl
  · rw [← hc 3 _ rfl, ← Addr.add_add]; rfl
  · rw [← hc 4 _ rfl, ← Addr.add_add]; rfl
  · rw [← hc 5 _ rfl, ← Addr.add_add]; rfl
  · rw [← hc 6 _ rfl, ← Addr.add_add]; rfl
theorem shortM_body {s : ByteArray} {ps : List S80} {cs : List S67} (h : CliP.shortM s ps cs = true) : s.size ≤ 100000000 := by
  unfold CliP.shortM at h
  simp only [Bool.and_eq_true, decide_eq_true_eq] at h
  omega
end Go.Proofs.YtlcfcaokihoplaaDoor.Cli
