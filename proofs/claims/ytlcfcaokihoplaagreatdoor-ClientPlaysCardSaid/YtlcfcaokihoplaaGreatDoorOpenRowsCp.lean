-- Cut.
import Derived.Test.YtlcfcaokihoplaaGreatDoorWWordsCp
import Derived.ChangeArms
import Derived.DataReads
import Derived.DataShut
namespace Go.Proofs.YtlcfcaokihoplaaGreatDoor.Opening
open Go.RowKit Go.Proofs.YzW.PrintWords
section
variable {P : Program} {H : Type} {enc : TypeId × Value → H} {W : World} {t : TypeId}
def de_ {H : Type} (enc : TypeId × Value → H) (P : Program) (W : World) (t : TypeId) {α : Type} (R : α → List Value → Prop) : Prop :=
 ∀ (fuel : Nat) (cs : List Value) (x : DataW H × List MemPlace), DataW.trod enc P W 0 (fun _ => true) true fuel t cs = some x → ∃ y, R y cs
theorem di_ {k : IntKind} (ht : P.underlying t = some (.int k)) : de_ enc P W t (fun (n : Int) cs => cs = [.int k n] ∧ k.min ≤ n ∧ n ≤ k.max) := by
 intro fuel cs x h
 obtain ⟨n, rfl, _, hw⟩ := DataW.trod_int ht h
 exact ⟨n, rfl, (Lit.wf_int_iff k n).1 hw⟩
theorem opens_string (ht : P.underlying t = some .string) : de_ enc P W t (fun (s : ByteArray) cs => cs = [.string s] ∧ s.size ≤ maxLen) := by
 intro fuel cs x h
 obtain ⟨s, rfl, _, hw⟩ := DataW.trod_string ht h
 exact ⟨s, rfl, hw⟩
theorem opens_mono {α : Type} {R R' : α → List Value → Prop} (h : de_ enc P W t R) (hm : ∀ y cs, R y cs → R' y cs) : de_ enc P W t R' := by
 intro fuel cs x hx
 obtain ⟨y, hy⟩ := h fuel cs x hx
 exact ⟨y, hm _ _ hy⟩
theorem opens_slice {e : TypeId} {sz : Nat} {α : Type} {R : α → List Value → Prop} (ht : P.underlying t = some (.slice e)) (hc : P.cellsOf e = sz) (he : de_ enc P W e R) :
  de_ enc P W t (fun (xs : List α) cs => ∃ A c, cs = [.slice A xs.length c] ∧ xs.length ≤ c ∧ ch_ R sz W A xs.length xs) := by
 intro fuel cs x h
 rcases DataW.trod_slice ht h with ⟨rfl, _⟩ | ⟨a, len, cap, elems, rest, n, _, rfl, _, _, hl, hm, hlen, hel, _, _⟩
 ·exact ⟨[], none, 0, rfl, Nat.le_refl _, rfl, by simp, fun h => absurd h (by simp)⟩
 ·have each : ∀ i : Fin len, ∃ y : α, ∃ c : List Value, c.length = sz ∧ R y c ∧ ∀ j u, c[j]? = some u → W.cell? (a.add (i.1 * sz + j)) = some u := by
   intro ⟨i, hi⟩
   have h1 := hel i hi
   rw [List.getElem?_eq_getElem (by omega), hc, Option.bind_eq_some_iff] at h1
   obtain ⟨c, hcs, hr⟩ := h1
   obtain ⟨_, hcl, hcc⟩ := World.cells?_some hcs
   obtain ⟨y, hy⟩ := he _ _ _ hr
   refine ⟨y, c, hcl, hy, fun j u hj => ?_⟩
   have hjl := (List.getElem?_eq_some_iff.1 hj).1
   have := hcc j (by omega)
   rw [hj] at this
   rw [← this, Addr.add_add]
  refine ⟨List.ofFn (fun i : Fin len => (each i).choose), some a, cap, by simp, by simpa using hl, rfl, ?_, fun _ => ⟨a, rfl, fun j p hj => ?_⟩⟩
  ·simp; unfold maxLen at hm; omega
  ·have hjl := (List.getElem?_eq_some_iff.1 hj).1
   simp at hjl
   have hp : (each ⟨j, hjl⟩).choose = p := by
    have := (List.getElem?_eq_some_iff.1 hj).2
    simpa using this
   obtain ⟨c, h1, h2, h3⟩ := (each ⟨j, hjl⟩).choose_spec
   rw [hp] at h2
   exact ⟨c, h1, h2, h3⟩
def eg_ (P : Program) {α : Type} (f : Field) (R : α → List Value → Prop) (y : α) (cs : List Value) : Prop := R y ((cs.drop f.offset).take (P.cellsOf f.type))
theorem opens_struct3 {f0 f1 f2 : Field} {α β γ : Type} {R0 : α → List Value → Prop} {R1 : β → List Value → Prop} {R2 : γ → List Value → Prop} (ht : P.underlying t = some (.struct #[f0, f1, f2])) (h0 : de_ enc P W f0.type R0) (h1 : de_ enc P W f1.type R1) (h2 : de_ enc P W f2.type R2) :
  de_ enc P W t (fun (y : α × β × γ) cs => cs.length = P.cellsOf t ∧ eg_ P f0 R0 y.1 cs ∧ eg_ P f1 R1 y.2.1 cs ∧ eg_ P f2 R2 y.2.2 cs) := by
 intro fuel cs x h
 obtain ⟨xs, n, _, _, hl, hlen, hf⟩ := DataW.trod_struct ht h
 match xs, hlen with
 | [a0, a1, a2], _ =>
  obtain ⟨y0, r0⟩ := h0 _ _ _ (hf 0 f0 rfl)
  obtain ⟨y1, r1⟩ := h1 _ _ _ (hf 1 f1 rfl)
  obtain ⟨y2, r2⟩ := h2 _ _ _ (hf 2 f2 rfl)
  exact ⟨(y0, y1, y2), hl, r0, r1, r2⟩
end
end Go.Proofs.YtlcfcaokihoplaaGreatDoor.Opening
