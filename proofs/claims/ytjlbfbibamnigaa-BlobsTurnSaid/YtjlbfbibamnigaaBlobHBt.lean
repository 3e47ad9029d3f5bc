-- Cut by a program of this session (wip/shake.py) out of a text of this seat: what this claim doesn't reach is struck out. Lean checks it.
import Derived.Test.YtjlbfbibamnigaaBlobGBt
namespace Go.Proofs.Ytjlbfbibamnigaa.Blobs
open Go.RowKit Go.ChangeMaps Go.MapKept Go.WideShapes Go.WideAt Go.Sort Go.WideMaps Go.Proofs.Ytjlbfbibamnigaa.Bs Go.Proofs.YtjlbfbibamnigaaW.PrintWords Go.Proofs.YtjlbfbibamnigaaW.PrintLast Go.Proofs.YtjlbfbibamnigaaW.PrintMore
set_option linter.unusedVariables false
set_option linter.unusedSimpArgs false
theorem rising_ext : ∀ {l l' : List ByteArray}, Rising l → Rising l' → (∀ x, x ∈ l ↔ x ∈ l') → l = l'
  | [], [], _, _, _ => rfl
  | [], y :: s, _, _, h => absurd ((h y).2 List.mem_cons_self) (by simp)
  | x :: r, [], _, _, h => absurd ((h x).1 List.mem_cons_self) (by simp)
  | x :: r, y :: s, h1, h2, h => by
    obtain ⟨a1, a2⟩ := List.pairwise_cons.1 h1
    obtain ⟨b1, b2⟩ := List.pairwise_cons.1 h2
    have hxy : x = y := by
      refine Decidable.byContradiction (fun hne => ?_)
      have hx : x ∈ s := (List.mem_cons.1 ((h x).1 List.mem_cons_self)).resolve_left hne
      have hy : y ∈ r := (List.mem_cons.1 ((h y).2 List.mem_cons_self)).resolve_left (fun e => hne e.symm)
      have := lessB_trans (a1 y hy) (b1 x hx)
      rw [lessB_irr] at this
      cases this
    subst hxy
    rw [rising_ext a2 b2 (fun z => ⟨fun hz => ?_, fun hz => ?_⟩)]
    · refine (List.mem_cons.1 ((h z).1 (List.mem_cons_of_mem _ hz))).resolve_left (fun e => ?_)
      have := a1 z hz
      rw [e, lessB_irr] at this
      cases this
    · refine (List.mem_cons.1 ((h z).2 (List.mem_cons_of_mem _ hz))).resolve_left (fun e => ?_)
      have := b1 z hz
      rw [e, lessB_irr] at this
      cases this
def okK (k : ByteArray) : Prop := 1 ≤ k.size ∧ k.size ≤ 64
theorem sizeL_le : ∀ {l : List ByteArray}, (∀ s ∈ l, s.size ≤ 64) → sizeL l ≤ 64 * l.length
  | [], _ => by simp [sizeL]
  | x :: r, h => by
    have h1 := sizeL_le (fun s hs => h s (List.mem_cons_of_mem _ hs))
    have h2 := h x List.mem_cons_self
    unfold sizeL at h1 ⊢
    simp only [List.map_cons, List.sum_cons, List.length_cons]
    omega
theorem putTo_mem {l : List ByteArray} (hl : l.length ≤ 200) (h : ∀ s ∈ l, s.size ≤ 64) (k x : ByteArray) : x ∈ putTo 65536 l k ↔ x ∈ l ∨ (x = k ∧ okK k) := by
  unfold putTo okK
  by_cases h1 : k.size < 1 ∨ 64 < k.size
  · rw [if_pos h1]
    exact ⟨.inl, fun hx => hx.resolve_right (fun h2 => by omega)⟩
  rw [if_neg h1]
  by_cases h2 : hasB l k = true
  · rw [if_pos h2]
    exact ⟨.inl, fun hx => hx.elim id (fun h3 => by rw [h3.1]; exact hasB_iff.1 h2)⟩
  rw [if_neg h2]
  have h3 := sizeL_le h
  rw [if_neg (by omega), mem_putL]
  exact ⟨fun hx => hx.elim (fun e => .inr ⟨e, by omega⟩) .inl, fun hx => hx.elim .inr (fun e => .inl e.1)⟩
theorem puts_mem : ∀ (ks l : List ByteArray), ks.length + l.length ≤ 200 → (∀ s ∈ l, s.size ≤ 64) → ∀ x, x ∈ puts 65536 l ks ↔ x ∈ l ∨ (x ∈ ks ∧ okK x)
  | [], l, _, _, x => by simp [puts]
  | k :: r, l, hl, h, x => by
    rw [List.length_cons] at hl
    have h0 := putTo_len 65536 l k
    have hm := fun x => putTo_mem (by omega) h k x
    have h1 := puts_mem r (putTo 65536 l k) (by omega) (fun s hs => by
      rcases (hm s).1 hs with h2 | ⟨h2, h3⟩
      · exact h s h2
      · rw [h2]; exact h3.2) x
    show x ∈ puts 65536 (putTo 65536 l k) r ↔ _
    rw [h1, hm x, List.mem_cons]
    constructor
    · rintro ((h2 | ⟨h2, h3⟩) | ⟨h2, h3⟩)
      · exact .inl h2
      · exact .inr ⟨.inl h2, by rw [h2]; exact h3⟩
      · exact .inr ⟨.inr h2, h3⟩
    · rintro (h2 | ⟨h2 | h2, h3⟩)
      · exact .inl (.inl h2)
      · exact .inl (.inr ⟨h2, by rw [← h2]; exact h3⟩)
      · exact .inr ⟨h2, h3⟩
def turned (ks : List ByteArray) (k : Nat) : List ByteArray := (List.range ks.length).map fun i => rdOf ByteArray.empty ks (((i + k) % ks.length : Nat) : Int)
theorem turned_len (ks : List ByteArray) (k : Nat) : (turned ks k).length = ks.length := by simp [turned]
theorem turned_at (ks : List ByteArray) (k : Nat) {i : Nat} (hi : i < ks.length) (hi' : i < (turned ks k).length) : (turned ks k)[i] = rdOf ByteArray.empty ks (((i + k) % ks.length : Nat) : Int) := by simp [turned]
theorem turned_mem {ks : List ByteArray} {k : Nat} (hk : k < ks.length) (x : ByteArray) : x ∈ turned ks k ↔ x ∈ ks := by
  have hn : 0 < ks.length := by omega
  unfold turned
  rw [List.mem_map]
  constructor
  · rintro ⟨i, _, rfl⟩
    have h1 : (i + k) % ks.length < ks.length := Nat.mod_lt _ hn
    rw [rdS ks _ h1]
    exact List.getElem_mem h1
  · intro hx
    obtain ⟨m, hm, rfl⟩ := List.mem_iff_getElem.1 hx
    refine ⟨(m + (ks.length - k)) % ks.length, List.mem_range.2 (Nat.mod_lt _ hn), ?_⟩
    have e : ((m + (ks.length - k)) % ks.length + k) % ks.length = m := by
      rw [Nat.mod_add_mod, show m + (ks.length - k) + k = m + ks.length from by omega, Nat.add_mod_right, Nat.mod_eq_of_lt hm]
    rw [e, rdS ks m hm]
theorem turn_same {ks : List ByteArray} {k : Nat} (hk : k < ks.length) (hl : ks.length ≤ 100) (h1 : Rising (puts 65536 [] ks)) (h2 : Rising (puts 65536 [] (turned ks k))) : puts 65536 [] ks = puts 65536 [] (turned ks k) := by
  refine rising_ext h1 h2 (fun x => ?_)
  rw [puts_mem ks [] (by simp; omega) (by simp), puts_mem (turned ks k) [] (by rw [turned_len]; simp; omega) (by simp), turned_mem hk]
end Go.Proofs.Ytjlbfbibamnigaa.Blobs
