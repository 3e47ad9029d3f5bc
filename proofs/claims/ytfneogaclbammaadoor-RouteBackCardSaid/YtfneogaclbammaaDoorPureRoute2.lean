/-
  The pure statements of the layer route, second part: parts. Conditions: those of the given statements, none besides.
-/
import Derived.Test.YtfneogaclbammaaDoorPureRoute1
namespace Go.Proofs.YtfneogaclbammaaDoor.PureRoute
open Go.RowKit Go.Proofs.YtfneogaclbammaaDoor.Route Go.Proofs.YtfneogaclbammaaDoor.Ro Go.Proofs.YtfneogaclbammaaDoorW.PrintWords Go.Proofs.YtfneogaclbammaaDoorW.PrintLast Go.Proofs.YtfneogaclbammaaDoorW.PrintMore
set_option linter.unusedSimpArgs false
set_option linter.unusedVariables false
/-! ### parts -/
theorem dec_cases (s : ByteArray) (p : Nat) (hp : p < s.size) : ((Utf8.decode s p).1 < 128 ∧ (Utf8.decode s p).2 = 1 ∧ bt s (p : Int) = ((Utf8.decode s p).1 : Int)) ∨ (128 ≤ (Utf8.decode s p).1 ∧ 2 ≤ (Utf8.decode s p).2 ∧ (Utf8.decode s p).1 ≠ 65533) ∨ (Utf8.decode s p).1 = 65533 := by
  have h0 := bt_byte s p hp
  have D := dec_eq s p _ _ _ _ rfl rfl rfl rfl
  have hl := At4.lt ⟨rfl, rfl, rfl, rfl⟩ (s := s) (p := p)
  generalize (s.get! p).toNat = b0 at *
  generalize (s.get! (p + 1)).toNat = b1 at *
  generalize (s.get! (p + 2)).toNat = b2 at *
  generalize (s.get! (p + 3)).toNat = b3 at *
  rw [h0, D]
  by_cases c0 : b0 < 128
  · rw [if_pos c0]; exact .inl ⟨c0, rfl, rfl⟩
  rw [if_neg c0]
  split
  · split
    · rename_i h
      by_cases e : (b0 % 32) * 64 + b1 % 64 = 65533
      · exact .inr (.inr e)
      · exact .inr (.inl ⟨by show 128 ≤ (b0 % 32) * 64 + b1 % 64; omega, Nat.le_refl _, e⟩)
    · exact .inr (.inr rfl)
  · split
    · split
      · rename_i h
        rw [Bool.and_eq_true, decide_eq_true_eq] at h
        generalize (b0 % 16) * 4096 + (b1 % 64) * 64 + b2 % 64 = v at h ⊢
        by_cases e : v = 65533
        · exact .inr (.inr e)
        · exact .inr (.inl ⟨by show 128 ≤ v; have := h.1; omega, by show 2 ≤ 3; omega, e⟩)
      · exact .inr (.inr rfl)
    · split
      · split
        · rename_i h
          rw [Bool.and_eq_true, decide_eq_true_eq] at h
          generalize (b0 % 8) * 262144 + (b1 % 64) * 4096 + (b2 % 64) * 64 + b3 % 64 = v at h ⊢
          by_cases e : v = 65533
          · exact .inr (.inr e)
          · exact .inr (.inl ⟨by show 128 ≤ v; have := h.1; omega, by show 2 ≤ 4; omega, e⟩)
        · exact .inr (.inr rfl)
      · exact .inr (.inr rfl)
theorem plain_f (c : Nat) (h : c < 128) : becketref02_plain.f (c : Int) = some (runeOk c) := by
  unfold becketref02_plain.f runeOk
  have q : ∀ n : Nat, ((c : Int) == (n : Int)) = (c == n) := fun n => by
    by_cases h : c = n
    · subst h; simp
    · rw [beq_eq_false_iff_ne.2 h, beq_eq_false_iff_ne.2 (by omega)]
  have q46 : ((c : Int) == 46) = (c == 46) := q 46
  have e128 : decide (128 ≤ c) = false := decide_eq_false (by omega)
  rw [q46, e128]
  by_cases h1 : 97 ≤ c
  · rw [if_pos (by omega)]
    by_cases h2 : c ≤ 122
    · rw [if_pos (by omega)]; simp [h1, h2]
    · rw [if_neg (by omega), if_pos (by omega), if_neg (by omega), if_neg (by omega), if_neg (by omega)]
      have : ¬ c ≤ 57 := by omega
      have : ¬ c = 95 := by omega
      have : ¬ c = 45 := by omega
      simp [*]
  · rw [if_neg (by omega)]
    by_cases h3 : 48 ≤ c
    · rw [if_pos (by omega)]
      by_cases h4 : c ≤ 57
      · rw [if_pos (by omega)]; simp [*]
      · rw [if_neg (by omega)]
        by_cases h5 : c = 95
        · rw [if_pos (by omega)]; simp [*]
        · rw [if_neg (by omega), if_neg (by omega)]
          have : ¬ c = 45 := by omega
          simp [*]
    · rw [if_neg (by omega)]
      by_cases h5 : c = 95
      · omega
      · rw [if_neg (by omega)]
        by_cases h6 : c = 45
        · rw [if_pos (by omega)]; simp [*]
        · rw [if_neg (by omega)]; simp [*]
theorem part_l0 (s : ByteArray) (hs : s.size ≤ 10000) : ∀ (b k n pos : Nat), s.size ≤ pos + b → pos ≤ s.size + 4 → n ≤ pos → b + 20 ≤ k →
    becketref02_Part.l0 k s n pos = some (match runesFrom s b pos with | none => false | some m => decide (1 ≤ n + m) && decide (n + m ≤ 16) && (s.toList != [46]) && (s.toList != [46, 46])) := by
  have hend : ∀ (b k n pos : Nat), ¬ pos < s.size → becketref02_Part.l0 (k + 1) s n pos = some (match runesFrom s b pos with | none => false | some m => decide (1 ≤ n + m) && decide (n + m ≤ 16) && (s.toList != [46]) && (s.toList != [46, 46])) := by
    intro b k n pos hp
    rw [runesFrom_end s b pos hp]
    unfold becketref02_Part.l0
    rw [if_neg (by omega)]
    simp only [Nat.add_zero]
    by_cases h1 : 1 ≤ n
    · rw [if_pos (by omega), decide_eq_true h1]
      by_cases h2 : n ≤ 16
      · rw [if_pos (by omega), decide_eq_true h2]
        by_cases h3 : s.toList = [46]
        · rw [if_pos h3]; simp [h3]
        · rw [if_neg h3]; simp [h3]
      · rw [if_neg (by omega), decide_eq_false h2]; simp
    · rw [if_neg (by omega), decide_eq_false h1]; simp
  intro b
  induction b with
  | zero =>
    intro k n pos h1 h2 h3 hk
    obtain ⟨k, rfl⟩ : ∃ k', k = k' + 1 := ⟨k - 1, by omega⟩
    exact hend 0 k n pos (by omega)
  | succ b ih =>
    intro k n pos h1 h2 h3 hk
    obtain ⟨k, rfl⟩ : ∃ k', k = k' + 1 := ⟨k - 1, by omega⟩
    by_cases hp : pos < s.size
    · have hw4 := width_le s pos
      have hw1 := width_pos s pos hp
      have ih' := ih k (n + 1) (pos + (Utf8.decode s pos).2) (by omega) (by omega) (by omega) (by omega)
      have hdc := dec_cases s pos hp
      have hr : runesFrom s (b + 1) pos = (if runeOk (Utf8.decode s pos).1 = true then (runesFrom s b (pos + (Utf8.decode s pos).2)).map (· + 1) else none) := by
        conv => lhs; unfold runesFrom
        rw [if_pos hp]
      have hgo : runeOk (Utf8.decode s pos).1 = true → becketref02_Part.l0 k s (wrap64 ((n : Int) + 1)) (wrap64 ((pos : Int) + ((Utf8.decode s pos).2 : Int))) = some (match runesFrom s (b + 1) pos with | none => false | some m => decide (1 ≤ n + m) && decide (n + m ≤ 16) && (s.toList != [46]) && (s.toList != [46, 46])) := by
        intro hk
        rw [wz' (z := (n : Int) + 1) (y := ((n + 1 : Nat) : Int)) (by omega) (by omega) (by omega), wz' (z := (pos : Int) + ((Utf8.decode s pos).2 : Int)) (y := ((pos + (Utf8.decode s pos).2 : Nat) : Int)) (by omega) (by omega) (by omega), ih', hr, if_pos hk]
        cases runesFrom s b (pos + (Utf8.decode s pos).2) with
        | none => rfl
        | some m =>
          simp only [Option.map_some]
          rw [show n + 1 + m = n + (m + 1) by omega]
      unfold becketref02_Part.l0
      rw [if_pos (by omega), width_f s pos k hp (by omega) (by omega), Option.bind_some]
      rcases hdc with ⟨d1, d2, d3⟩ | ⟨d1, d2, d3⟩ | d1
      · have hw : widthOf s pos = 1 := by unfold widthOf; rw [if_neg (by omega), d2]
        rw [hw, if_neg (by decide), if_pos (by decide), if_pos (by omega), d3, plain_f _ d1, Option.bind_some]
        by_cases hk : runeOk (Utf8.decode s pos).1 = true
        · rw [if_pos hk]
          have := hgo hk
          rw [d2] at this
          exact this
        · rw [if_neg hk, hr, if_neg hk]
      · have hw : widthOf s pos = (Utf8.decode s pos).2 := by unfold widthOf; rw [if_neg d3]
        have hk : runeOk (Utf8.decode s pos).1 = true := by
          unfold runeOk
          have e1 : decide (128 ≤ (Utf8.decode s pos).1) = true := decide_eq_true d1
          have e2 : ((Utf8.decode s pos).1 != 65533) = true := by simpa using d3
          rw [e1, e2]; simp
        rw [hw, if_pos (by omega)]
        exact hgo hk
      · have hw : widthOf s pos = 0 := by unfold widthOf; rw [if_pos d1]
        have hk : ¬ runeOk (Utf8.decode s pos).1 = true := by rw [d1]; decide
        rw [hw, if_neg (by decide), if_neg (by decide), hr, if_neg hk]
    · exact hend (b + 1) k n pos hp
theorem part_f (s : ByteArray) (k : Nat) (hs : s.size ≤ 10000) (hk : s.size + 20 ≤ k) : becketref02_Part.f k s = some (partOf s) := by
  have := part_l0 s hs s.size k 0 0 (by omega) (by omega) (Nat.le_refl _) hk
  unfold becketref02_Part.f
  rw [show ((0 : Nat) : Int) = 0 from rfl] at this
  rw [this]
  unfold partOf
  cases runesFrom s s.size 0 with
  | none => rfl
  | some m => simp only [Nat.zero_add]
theorem rdOf_get (l : List ByteArray) (i : Nat) (h : i < l.length) : rdOf ByteArray.empty l (i : Int) = l[i] := by simp [rdOf, h]
theorem parts_l0 (l : List ByteArray) (hl : l.length ≤ 100000) (hs : ∀ x ∈ l, x.size ≤ 10000) : ∀ (m k i : Nat), m = l.length - i → i ≤ l.length → m + 10021 ≤ k → becketref02_Parts.l0 k l i = some ((l.drop i).all partOf)
  | 0, k, i, hm, hi, hk => by
    obtain ⟨k, rfl⟩ : ∃ k', k = k' + 1 := ⟨k - 1, by omega⟩
    have : i = l.length := by omega
    subst this
    unfold becketref02_Parts.l0
    rw [if_neg (by omega), List.drop_length]; rfl
  | m + 1, k, i, hm, hi, hk => by
    obtain ⟨k, rfl⟩ : ∃ k', k = k' + 1 := ⟨k - 1, by omega⟩
    have hlt : i < l.length := by omega
    have hd : l.drop i = l[i] :: l.drop (i + 1) := List.drop_eq_getElem_cons hlt
    have hsz := hs l[i] (List.getElem_mem _)
    have ih := parts_l0 l hl hs m k (i + 1) (by omega) (by omega) (by omega)
    unfold becketref02_Parts.l0
    rw [if_pos (by omega), if_pos (by omega), rdOf_get l i hlt, part_f _ k hsz (by omega), Option.bind_some, hd, List.all_cons, wz' (z := (i : Int) + 1) (y := ((i + 1 : Nat) : Int)) (by omega) (by omega) (by omega)]
    cases partOf l[i] with
    | true => rw [if_pos rfl, ih]; rfl
    | false => rw [if_neg (by simp)]; rfl
theorem parts_f (l : List ByteArray) (k : Nat) (hl : l.length ≤ 100000) (hs : ∀ x ∈ l, x.size ≤ 10000) (hk : l.length + 10022 ≤ k) : becketref02_Parts.f k l = some (partsOk l) := by
  obtain ⟨k, rfl⟩ : ∃ k', k = k' + 1 := ⟨k - 1, by omega⟩
  unfold becketref02_Parts.f partsOk
  by_cases h1 : 1 ≤ l.length
  · rw [if_neg (by omega), decide_eq_true h1]
    by_cases h2 : l.length ≤ 8
    · rw [decide_eq_true h2, decide_eq_false (by omega : ¬ (l.length : Int) > 8)]
      simp only [becketref02_Parts.j0, Bool.false_eq_true, if_false]
      have := parts_l0 l hl hs l.length k 0 (by omega) (by omega) (by omega)
      rw [List.drop_zero] at this
      rw [show ((0 : Nat) : Int) = 0 from rfl] at this
      rw [this]
      rfl
    · rw [decide_eq_false h2, decide_eq_true (by omega : (l.length : Int) > 8)]
      simp [becketref02_Parts.j0]
  · rw [if_pos (by omega), decide_eq_false h1]
    simp [becketref02_Parts.j0]
end Go.Proofs.YtfneogaclbammaaDoor.PureRoute
