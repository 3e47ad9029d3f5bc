/-
  A slice of votes that came in.
-/
import Derived.Test.YtbnhoacchibbnaaOpenRows
import Derived.Test.YtbnhoacchibbnaaVox0
namespace Go.Proofs.Ytbnhoacchibbnaa.Opening
open Go.RowKit Go.Proofs.Ytbnhoacchibbnaa.Vo Go.Proofs.YtbnhoacchibbnaaW.PrintWords Go.Proofs.YtbnhoacchibbnaaW.PrintLast Go.Proofs.YtbnhoacchibbnaaW.PrintMore
theorem opens_map {P : Program} {H : Type} {enc : TypeId × Value → H} {W : World} {t : TypeId} {α β : Type} {R : α → List Value → Prop} {R' : β → List Value → Prop} (f : α → β) (h : Opens enc P W t R) (hm : ∀ y cs, R y cs → R' (f y) cs) : Opens enc P W t R' := by
  intro fuel cs x hx
  obtain ⟨y, hy⟩ := h fuel cs x hx
  exact ⟨f y, hm _ _ hy⟩
set_option maxRecDepth 100000 in
theorem opens_vote {H : Type} (enc : TypeId × Value → H) (W : World) : Opens enc Try.prog W 87 (k87.K W) := by
  refine opens_map (fun y : Int × ByteArray => (⟨y.1, y.2⟩ : S87)) (opens_struct2 Try.underlying87 (opens_int Try.underlying3) (opens_string Try.underlying9)) ?_
  rintro ⟨a, b⟩ cs ⟨hl, r0, r1⟩
  have hl2 : cs.length = 2 := hl.trans (by kernel_rfl)
  match cs, hl2 with
  | [u0, u1], _ =>
    have q0 : [u0] = [.int .i64 a] ∧ _ := r0
    have q1 : [u1] = [.string b] ∧ _ := r1
    obtain ⟨q0, _⟩ := q0
    obtain ⟨q1, _⟩ := q1
    simp only [List.cons.injEq, and_true] at q0 q1
    subst q0 q1
    exact ⟨[.int .i64 a], [.string b], rfl, rfl, rfl⟩
set_option maxRecDepth 100000 in
/-- A vote by value. -/
theorem opens_vote_v {H : Type} (enc : TypeId × Value → H) (W : World) : Opens enc Try.prog W 87 (fun (y : S87) cs => cs = [.int .i64 y.f0, .string y.f1]) := by
  refine opens_mono (opens_vote enc W) ?_
  rintro ⟨a, b⟩ cs ⟨c0, c1, h0, h1, h2⟩
  have h1' : c0 = [.int .i64 a] := h1
  have h2' : c1 = [.string b] := h2
  rw [h0, h1', h2']; rfl
theorem opens_votes {H : Type} (enc : TypeId × Value → H) (W : World) : Opens enc Try.prog W 80 (fun (xs : List S87) cs => ∃ A c, cs = [.slice A xs.length c] ∧ xs.length ≤ c ∧ Kd.C k87 W A xs.length xs) :=
  opens_slice (sz := 2) Try.underlying80 (by kernel_rfl) (opens_vote enc W)
end Go.Proofs.Ytbnhoacchibbnaa.Opening
