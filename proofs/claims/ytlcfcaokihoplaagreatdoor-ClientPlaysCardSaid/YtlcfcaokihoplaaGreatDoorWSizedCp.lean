-- Cut.
import Derived.Test.YtlcfcaokihoplaaGreatDoorOpenCliCp
import Derived.Test.YtlcfcaokihoplaaGreatDoorPlaysLCp
import Derived.SizedLaws
import Derived.ChangeSlices
namespace Go.Proofs.YtlcfcaokihoplaaGreatDoor.Opening
open Go.RowKit Go.Proofs.YtlcfcaokihoplaaGreatDoor.Ms Go.Proofs.YtlcfcaokihoplaaGreatDoor.Cli Go.Proofs.YzW.PrintWords Go.Proofs.YzW.PrintLast Go.Proofs.YzW.PrintMore
set_option maxRecDepth 100000 in
theorem opens_deed {H : Type} (enc : TypeId × Value → H) (W : World) : de_ enc Tryz.prog W 42 (Cli.DeedR W) := by
 refine opens_map (fun y : Int × (Int × ByteArray × ByteArray × List ByteArray × Int) × MG => (⟨y.1, y.2.1.1, y.2.1.2.1, y.2.1.2.2.1, y.2.1.2.2.2.1, y.2.1.2.2.2.2, y.2.2⟩ : DG)) (opens_struct3 Tryz.underlying42 (di_ Tryz.underlying3) (opens_op enc W) (opens_msg enc W)) ?_
 rintro ⟨a, o, m⟩ cs ⟨hl, r0, r1, r2⟩
 have hl2 : cs.length = 13 := hl.trans (by kernel_rfl)
 match cs, hl2 with
 | [u0, u1, u2, u3, u4, u5, u6, u7, u8, u9, u10, u11, u12], _ =>
  have q0 : [u0] = [.int .i64 a] ∧ IntKind.i64.min ≤ a ∧ a ≤ IntKind.i64.max := r0
  have q1 : ∃ A c, [u1, u2, u3, u4, u5] = [.int .i64 o.1, .string o.2.1, .string o.2.2.1, .slice A o.2.2.2.1.length c, .int .i64 o.2.2.2.2] ∧ o.2.2.2.1.length ≤ c ∧ Kd.C Kd.string W A o.2.2.2.1.length o.2.2.2.1 := r1
  have q2 : ∃ A c B e, [u6, u7, u8, u9, u10, u11, u12] = [.int .i64 m.kd, .int .i64 m.fr, .int .i64 m.vw, .int .i64 m.sq, .string m.bd, .slice A m.ps.length c, .slice B m.cs.length e] ∧ _ := r2
  obtain ⟨q0, q01⟩ := q0
  obtain ⟨A, c, q1, h1, h2⟩ := q1
  obtain ⟨B, e, C, g, q2, _, h3, h4, h5, h6⟩ := q2
  simp only [List.cons.injEq, and_true] at q0 q1 q2
  obtain ⟨e1, e2, e3, e4, e5⟩ := q1
  obtain ⟨e6, e7, e8, e9, e10, e11, e12⟩ := q2
  subst q0 e1 e2 e3 e4 e5 e6 e7 e8 e9 e10 e11 e12
  exact ⟨A, c, B, e, C, g, rfl, q01, ⟨h1, h2⟩, ⟨h3, h4⟩, ⟨h5, h6⟩⟩
theorem opens_deeds {H : Type} (enc : TypeId × Value → H) (W : World) : de_ enc Tryz.prog W 22 (fun (xs : List DG) cs => ∃ A c, cs = [.slice A xs.length c] ∧ xs.length ≤ c ∧ Cli.Deeds W A xs.length xs) :=
 opens_slice (sz := 13) Tryz.underlying22 (by kernel_rfl) (opens_deed enc W)
end Go.Proofs.YtlcfcaokihoplaaGreatDoor.Opening

namespace Go.Proofs.YzW.PrintWords
open Go.ChangeShapes Go.WideShapes
end Go.Proofs.YzW.PrintWords
