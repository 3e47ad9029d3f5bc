-- Cut by a program of this session (wip/shake.py) out of a text of this seat: what this claim doesn't reach is struck out. Lean checks it.
import Derived.Test.YtjlbfbibamnigaaOpenKeysBp
import Derived.Test.YtjlbfbibamnigaaBlobJBp
namespace Go.Proofs.Ytjlbfbibamnigaa.Opening
open Go.RowKit Go.Proofs.YtjlbfbibamnigaaW.PrintWords Go.Proofs.YtjlbfbibamnigaaW.PrintLast Go.Proofs.YtjlbfbibamnigaaW.PrintMore
set_option maxRecDepth 100000 in
theorem opens_deed {H : Type} (enc : TypeId × Value → H) (W : World) : Opens enc Try.prog W 38 (Blobs.DeedR W) := by
  refine opens_mono (opens_struct3 Try.underlying38 (opens_int Try.underlying3) (opens_string Try.underlying9) (opens_keys enc W)) ?_
  rintro ⟨a, b, l⟩ cs ⟨hl, r0, r1, r2⟩
  have hl3 : cs.length = 3 := hl.trans (by kernel_rfl)
  match cs, hl3 with
  | [u0, u1, u2], _ =>
    have q0 : [u0] = [.int .i64 a] ∧ IntKind.i64.min ≤ a ∧ a ≤ IntKind.i64.max := r0
    have q1 : [u1] = [.string b] ∧ b.size ≤ maxLen := r1
    obtain ⟨A, cp, q2, h3, h4, _⟩ : ∃ A cp, [u2] = [.slice A l.length cp] ∧ l.length ≤ cp ∧ Kd.C Kd.string W A l.length l ∧ ∀ x ∈ l, x.size ≤ maxLen := r2
    obtain ⟨q0, q01⟩ := q0
    obtain ⟨q1, q11⟩ := q1
    simp only [List.cons.injEq, and_true] at q0 q1 q2
    subst q0 q1 q2
    exact ⟨A, cp, rfl, q01, q11, h3, h4⟩
theorem opens_deeds {H : Type} (enc : TypeId × Value → H) (W : World) : Opens enc Try.prog W 35 (fun (xs : List (Int × ByteArray × List ByteArray)) cs => ∃ A c, cs = [.slice A xs.length c] ∧ xs.length ≤ c ∧ Blobs.Deeds W A xs.length xs) :=
  opens_slice (sz := 3) Try.underlying35 (by kernel_rfl) (opens_deed enc W)
end Go.Proofs.Ytjlbfbibamnigaa.Opening
