/-
  The pure statements of the layer route, first part: a character's width. Conditions: those of the given statements, none besides.
-/
import Derived.Test.YtfneogaclbammaaDoorRox3
import Derived.DataShut
namespace Go.Proofs.YtfneogaclbammaaDoor.PureRoute
open Go.RowKit Go.Proofs.YtfneogaclbammaaDoor.Route Go.Proofs.YtfneogaclbammaaDoor.Ro Go.Proofs.YtfneogaclbammaaDoorW.PrintWords Go.Proofs.YtfneogaclbammaaDoorW.PrintLast Go.Proofs.YtfneogaclbammaaDoorW.PrintMore
set_option linter.unusedSimpArgs false
set_option linter.unusedVariables false
/-! ### a character's width -/
theorem bt_byte (s : ByteArray) (p : Nat) (h : p < s.size) : bt s (p : Int) = ((s.get! p).toNat : Int) := by
  have e : s.get! p = s[p]'h := by
    simp [ByteArray.get!, getElem!_pos, h]
    rfl
  rw [← bt_at s p (by simpa using h), e]
  rfl
theorem wz {z : Int} (h0 : -9223372036854775808 ≤ z) (h1 : z ≤ 9223372036854775807) : wrap64 z = z := by unfold wrap64; omega
theorem wz' {z y : Int} (e : z = y) (h0 : -9223372036854775808 ≤ y) (h1 : y ≤ 9223372036854775807) : wrap64 z = y := by rw [e]; exact wz h0 h1
theorem step_lo (k : Nat) (s : ByteArray) (p n least v i : Nat) (hi : i < n) (hp : p + i < s.size) (hs : s.size ≤ 100000) (hb : bt s ((p + i : Nat) : Int) < 128 ∨ bt s ((p + i : Nat) : Int) > 191) :
    becketref02_width.l0 (k + 1) s p n least v i = some 0 := by
  unfold becketref02_width.l0
  rw [wz' (y := ((p + i : Nat) : Int)) (by omega) (by omega) (by omega), if_pos (by omega), if_pos (by omega), if_pos (by omega)]
  rcases hb with hb | hb
  · rw [if_pos hb]
  · rw [if_neg (by omega), if_pos hb]
theorem step_in (k : Nat) (s : ByteArray) (p n least v i b : Nat) (hi : i < n) (hn : n ≤ 4) (hp : p + i < s.size) (hs : s.size ≤ 100000) (hv : v ≤ 100000) (hb : bt s ((p + i : Nat) : Int) = (b : Int)) (h0 : 128 ≤ b) (h1 : b ≤ 191) :
    becketref02_width.l0 (k + 1) s p n least v i = becketref02_width.l0 k s p n least ((v * 64 + b - 128 : Nat) : Int) ((i + 1 : Nat) : Int) := by
  conv => lhs; unfold becketref02_width.l0
  rw [wz' (z := (p : Int) + (i : Int)) (y := ((p + i : Nat) : Int)) (by omega) (by omega) (by omega), if_pos (by omega), if_pos (by omega), if_pos (by omega), hb, if_neg (by omega), if_neg (by omega),
    wz' (z := (v : Int) * 64) (y := (v : Int) * 64) rfl (by omega) (by omega), wz' (z := (b : Int)) (y := (b : Int)) rfl (by omega) (by omega), wz' (z := (v : Int) * 64 + (b : Int)) (y := (v : Int) * 64 + (b : Int)) rfl (by omega) (by omega),
    wz' (z := (v : Int) * 64 + (b : Int) - 128) (y := ((v * 64 + b - 128 : Nat) : Int)) (by omega) (by omega) (by omega), wz' (z := (i : Int) + 1) (y := ((i + 1 : Nat) : Int)) (by omega) (by omega) (by omega)]
theorem step_end (k : Nat) (s : ByteArray) (p n least v : Nat) : becketref02_width.l0 (k + 1) s p n least v n = some (if v < least ∨ 1114111 < v ∨ (55296 ≤ v ∧ v ≤ 57343) ∨ v = 65533 then 0 else (n : Int)) := by
  unfold becketref02_width.l0
  rw [if_neg (by omega)]
  by_cases h1 : v < least
  · rw [if_pos (by omega), if_pos (.inl h1)]
  rw [if_neg (by omega)]
  by_cases h2 : 1114111 < v
  · rw [if_pos (by omega), if_pos (.inr (.inl h2))]
  rw [if_neg (by omega)]
  by_cases h3 : 55296 ≤ v
  · rw [if_pos (by omega)]
    by_cases h4 : v ≤ 57343
    · rw [if_pos (by omega), if_pos (.inr (.inr (.inl ⟨h3, h4⟩)))]
    · rw [if_neg (by omega)]
      by_cases h5 : v = 65533
      · rw [if_pos (by omega), if_pos (.inr (.inr (.inr h5)))]
      · rw [if_neg (by omega), if_neg (by omega)]
  · rw [if_neg (by omega)]
    by_cases h5 : v = 65533
    · rw [if_pos (by omega), if_pos (.inr (.inr (.inr h5)))]
    · rw [if_neg (by omega), if_neg (by omega)]
/-- What the document's width says, by the model's decoding. -/
def widthOf (s : ByteArray) (p : Nat) : Nat := if (Utf8.decode s p).1 = 65533 then 0 else (Utf8.decode s p).2

theorem dec_eq (s : ByteArray) (p b0 b1 b2 b3 : Nat) (h0 : (s.get! p).toNat = b0) (h1 : (s.get! (p + 1)).toNat = b1) (h2 : (s.get! (p + 2)).toNat = b2) (h3 : (s.get! (p + 3)).toNat = b3) :
    Utf8.decode s p = (if b0 < 128 then (b0, 1)
      else if (b0 / 32 == 6 && (decide (p + 1 < s.size) && b1 / 64 == 2)) = true then (if (b0 % 32) * 64 + b1 % 64 ≥ 128 then ((b0 % 32) * 64 + b1 % 64, 2) else (65533, 1))
      else if (b0 / 16 == 14 && (decide (p + 1 < s.size) && b1 / 64 == 2) && (decide (p + 2 < s.size) && b2 / 64 == 2)) = true then (if ((b0 % 16) * 4096 + (b1 % 64) * 64 + b2 % 64 ≥ 2048 && Utf8.valid (((b0 % 16) * 4096 + (b1 % 64) * 64 + b2 % 64 : Nat) : Int)) = true then ((b0 % 16) * 4096 + (b1 % 64) * 64 + b2 % 64, 3) else (65533, 1))
      else if (b0 / 8 == 30 && (decide (p + 1 < s.size) && b1 / 64 == 2) && (decide (p + 2 < s.size) && b2 / 64 == 2) && (decide (p + 3 < s.size) && b3 / 64 == 2)) = true then (if ((b0 % 8) * 262144 + (b1 % 64) * 4096 + (b2 % 64) * 64 + b3 % 64 ≥ 65536 && Utf8.valid (((b0 % 8) * 262144 + (b1 % 64) * 4096 + (b2 % 64) * 64 + b3 % 64 : Nat) : Int)) = true then ((b0 % 8) * 262144 + (b1 % 64) * 4096 + (b2 % 64) * 64 + b3 % 64, 4) else (65533, 1))
      else (65533, 1)) := by
  subst h0 h1 h2 h3
  simp only [Utf8.decode, Nat.add_zero, Utf8.runeError]
theorem valid_iff (c : Nat) : Utf8.valid (c : Int) = true ↔ c < 55296 ∨ (57344 ≤ c ∧ c ≤ 1114111) := by
  unfold Utf8.valid
  simp
  omega
/-- The bytes at a place. -/
structure At4 (s : ByteArray) (p b0 b1 b2 b3 : Nat) : Prop where
  h0 : (s.get! p).toNat = b0
  h1 : (s.get! (p + 1)).toNat = b1
  h2 : (s.get! (p + 2)).toNat = b2
  h3 : (s.get! (p + 3)).toNat = b3
theorem At4.lt {s : ByteArray} {p b0 b1 b2 b3 : Nat} (h : At4 s p b0 b1 b2 b3) : b0 < 256 ∧ b1 < 256 ∧ b2 < 256 ∧ b3 < 256 := by
  obtain ⟨rfl, rfl, rfl, rfl⟩ := h
  exact ⟨UInt8.toNat_lt _, UInt8.toNat_lt _, UInt8.toNat_lt _, UInt8.toNat_lt _⟩
theorem wd {s : ByteArray} {p c w : Nat} (h : Utf8.decode s p = (c, w)) : widthOf s p = if c = 65533 then 0 else w := by
  unfold widthOf
  rw [h]
theorem width_1 {s : ByteArray} {p b0 b1 b2 b3 : Nat} (h : At4 s p b0 b1 b2 b3) (c : b0 < 128) : widthOf s p = 1 := by
  have D := dec_eq s p b0 b1 b2 b3 h.h0 h.h1 h.h2 h.h3
  rw [if_pos c] at D
  rw [wd D, if_neg (by omega)]
theorem width_2 {s : ByteArray} {p b0 b1 b2 b3 : Nat} (h : At4 s p b0 b1 b2 b3) (c : 192 ≤ b0) (c' : b0 < 224) : widthOf s p = if p + 1 < s.size ∧ 128 ≤ b1 ∧ b1 ≤ 191 ∧ 128 ≤ (b0 - 192) * 64 + b1 - 128 then 2 else 0 := by
  have hl := h.lt
  have D := dec_eq s p b0 b1 b2 b3 h.h0 h.h1 h.h2 h.h3
  rw [if_neg (by omega)] at D
  by_cases k : p + 1 < s.size ∧ 128 ≤ b1 ∧ b1 ≤ 191
  · rw [if_pos (by simp; omega)] at D
    by_cases k2 : 128 ≤ (b0 - 192) * 64 + b1 - 128
    · rw [if_pos (by omega)] at D
      rw [wd D, if_neg (by omega), if_pos (by omega)]
    · rw [if_neg (by omega)] at D
      rw [wd D, if_pos rfl, if_neg (by omega)]
  · rw [if_neg (by simp; omega), if_neg (by simp; omega), if_neg (by simp; omega)] at D
    rw [wd D, if_pos rfl, if_neg (by omega)]
theorem width_3 {s : ByteArray} {p b0 b1 b2 b3 : Nat} (h : At4 s p b0 b1 b2 b3) (c : 224 ≤ b0) (c' : b0 < 240) : widthOf s p = if p + 2 < s.size ∧ (128 ≤ b1 ∧ b1 ≤ 191) ∧ (128 ≤ b2 ∧ b2 ≤ 191) ∧ ¬ (((b0 - 224) * 64 + b1 - 128) * 64 + b2 - 128 < 2048 ∨ 1114111 < ((b0 - 224) * 64 + b1 - 128) * 64 + b2 - 128 ∨ (55296 ≤ ((b0 - 224) * 64 + b1 - 128) * 64 + b2 - 128 ∧ ((b0 - 224) * 64 + b1 - 128) * 64 + b2 - 128 ≤ 57343) ∨ ((b0 - 224) * 64 + b1 - 128) * 64 + b2 - 128 = 65533) then 3 else 0 := by
  have hl := h.lt
  have D := dec_eq s p b0 b1 b2 b3 h.h0 h.h1 h.h2 h.h3
  rw [if_neg (by omega), if_neg (by simp; omega)] at D
  by_cases k : p + 2 < s.size ∧ (128 ≤ b1 ∧ b1 ≤ 191) ∧ (128 ≤ b2 ∧ b2 ≤ 191)
  · rw [if_pos (by simp; omega)] at D
    have e : (b0 % 16) * 4096 + (b1 % 64) * 64 + b2 % 64 = ((b0 - 224) * 64 + b1 - 128) * 64 + b2 - 128 := by omega
    rw [e] at D
    generalize ((b0 - 224) * 64 + b1 - 128) * 64 + b2 - 128 = v at D ⊢
    clear e
    by_cases k2 : v ≥ 2048 ∧ (v < 55296 ∨ (57344 ≤ v ∧ v ≤ 1114111))
    · rw [if_pos (by rw [Bool.and_eq_true, valid_iff]; simp; omega)] at D
      by_cases k3 : v = 65533
      · rw [wd D, if_pos k3, if_neg (by omega)]
      · rw [wd D, if_neg k3, if_pos (by omega)]
    · rw [if_neg (by rw [Bool.and_eq_true, valid_iff]; simp; omega)] at D
      rw [wd D, if_pos rfl, if_neg (by omega)]
  · rw [if_neg (by simp; omega), if_neg (by simp; omega)] at D
    rw [wd D, if_pos rfl, if_neg (by omega)]
theorem width_4 {s : ByteArray} {p b0 b1 b2 b3 : Nat} (h : At4 s p b0 b1 b2 b3) (c : 240 ≤ b0) (c' : b0 < 248) : widthOf s p = if p + 3 < s.size ∧ (128 ≤ b1 ∧ b1 ≤ 191) ∧ (128 ≤ b2 ∧ b2 ≤ 191) ∧ (128 ≤ b3 ∧ b3 ≤ 191) ∧ ¬ ((((b0 - 240) * 64 + b1 - 128) * 64 + b2 - 128) * 64 + b3 - 128 < 65536 ∨ 1114111 < (((b0 - 240) * 64 + b1 - 128) * 64 + b2 - 128) * 64 + b3 - 128 ∨ (55296 ≤ (((b0 - 240) * 64 + b1 - 128) * 64 + b2 - 128) * 64 + b3 - 128 ∧ (((b0 - 240) * 64 + b1 - 128) * 64 + b2 - 128) * 64 + b3 - 128 ≤ 57343) ∨ (((b0 - 240) * 64 + b1 - 128) * 64 + b2 - 128) * 64 + b3 - 128 = 65533) then 4 else 0 := by
  have hl := h.lt
  have D := dec_eq s p b0 b1 b2 b3 h.h0 h.h1 h.h2 h.h3
  rw [if_neg (by omega), if_neg (by simp; omega), if_neg (by simp; omega)] at D
  by_cases k : p + 3 < s.size ∧ (128 ≤ b1 ∧ b1 ≤ 191) ∧ (128 ≤ b2 ∧ b2 ≤ 191) ∧ (128 ≤ b3 ∧ b3 ≤ 191)
  · rw [if_pos (by simp; omega)] at D
    have e : (b0 % 8) * 262144 + (b1 % 64) * 4096 + (b2 % 64) * 64 + b3 % 64 = (((b0 - 240) * 64 + b1 - 128) * 64 + b2 - 128) * 64 + b3 - 128 := by omega
    rw [e] at D
    generalize (((b0 - 240) * 64 + b1 - 128) * 64 + b2 - 128) * 64 + b3 - 128 = v at D ⊢
    clear e
    by_cases k2 : v ≥ 65536 ∧ (v < 55296 ∨ (57344 ≤ v ∧ v ≤ 1114111))
    · rw [if_pos (by rw [Bool.and_eq_true, valid_iff]; simp; omega)] at D
      rw [wd D, if_neg (by omega), if_pos (by omega)]
    · rw [if_neg (by rw [Bool.and_eq_true, valid_iff]; simp; omega)] at D
      rw [wd D, if_pos rfl, if_neg (by omega)]
  · rw [if_neg (by simp; omega)] at D
    rw [wd D, if_pos rfl, if_neg (by omega)]
theorem width_0 {s : ByteArray} {p b0 b1 b2 b3 : Nat} (h : At4 s p b0 b1 b2 b3) (c : (128 ≤ b0 ∧ b0 < 192) ∨ 248 ≤ b0) : widthOf s p = 0 := by
  have hl := h.lt
  have D := dec_eq s p b0 b1 b2 b3 h.h0 h.h1 h.h2 h.h3
  rw [if_neg (by omega), if_neg (by simp; omega), if_neg (by simp; omega), if_neg (by simp; omega)] at D
  rw [wd D, if_pos rfl]
theorem j2_out (k : Nat) (s : ByteArray) (p n least v : Nat) (hn : n ≤ 4) (hs : s.size ≤ 100000) (hps : p < s.size) (hp : s.size < p + n) : becketref02_width.j2 (k + 1) s p n least v = some 0 := by
  simp only [becketref02_width.j2]
  rw [wz' (z := (p : Int) + (n : Int)) (y := (p : Int) + (n : Int)) rfl (by omega) (by omega), if_pos (by omega)]
theorem j2_in (k : Nat) (s : ByteArray) (p n least v : Nat) (hn : n ≤ 4) (hs : s.size ≤ 100000) (hps : p < s.size) (hp : p + n ≤ s.size) : becketref02_width.j2 (k + 1) s p n least v = becketref02_width.l0 k s p n least v ((1 : Nat) : Int) := by
  simp only [becketref02_width.j2]
  rw [wz' (z := (p : Int) + (n : Int)) (y := (p : Int) + (n : Int)) rfl (by omega) (by omega), if_neg (by omega)]
  rfl
theorem j2_2 {s : ByteArray} {p b0 b1 b2 b3 : Nat} (k : Nat) (h : At4 s p b0 b1 b2 b3) (hps : p < s.size) (hs : s.size ≤ 100000) (c : 192 ≤ b0) (c' : b0 < 224) : becketref02_width.j2 (k + 5) s p ((2 : Nat) : Int) ((128 : Nat) : Int) ((b0 - 192 : Nat) : Int) = some (widthOf s p : Int) := by
  rw [width_2 h c c']
  by_cases k0 : p + 2 ≤ s.size
  · have hb1 : bt s ((p + 1 : Nat) : Int) = (b1 : Int) := by rw [bt_byte s (p + 1) (by omega), h.h1]
    rw [j2_in _ s p 2 128 _ (by omega) hs hps k0]
    by_cases k1 : 128 ≤ b1 ∧ b1 ≤ 191
    · rw [step_in (k + 3) s p 2 128 (b0 - 192) 1 b1 (by omega) (by omega) (by omega) hs (by omega) hb1 k1.1 k1.2, step_end (k + 2)]
      split <;> split <;> first | rfl | omega
    · rw [step_lo (k + 3) s p 2 128 (b0 - 192) 1 (by omega) (by omega) hs (by rw [hb1]; omega), if_neg (by omega)]
      rfl
  · rw [j2_out _ s p 2 128 _ (by omega) hs hps (by omega), if_neg (by omega)]
    rfl
theorem j2_3 {s : ByteArray} {p b0 b1 b2 b3 : Nat} (k : Nat) (h : At4 s p b0 b1 b2 b3) (hps : p < s.size) (hs : s.size ≤ 100000) (c : 224 ≤ b0) (c' : b0 < 240) : becketref02_width.j2 (k + 5) s p ((3 : Nat) : Int) ((2048 : Nat) : Int) ((b0 - 224 : Nat) : Int) = some (widthOf s p : Int) := by
  rw [width_3 h c c']
  by_cases k0 : p + 3 ≤ s.size
  · have hb1 : bt s ((p + 1 : Nat) : Int) = (b1 : Int) := by rw [bt_byte s (p + 1) (by omega), h.h1]
    have hb2 : bt s ((p + 2 : Nat) : Int) = (b2 : Int) := by rw [bt_byte s (p + 2) (by omega), h.h2]
    rw [j2_in _ s p 3 2048 _ (by omega) hs hps k0]
    by_cases k1 : 128 ≤ b1 ∧ b1 ≤ 191
    · rw [step_in (k + 3) s p 3 2048 (b0 - 224) 1 b1 (by omega) (by omega) (by omega) hs (by omega) hb1 k1.1 k1.2]
      by_cases k2 : 128 ≤ b2 ∧ b2 ≤ 191
      · rw [step_in (k + 2) s p 3 2048 ((b0 - 224) * 64 + b1 - 128) (1 + 1) b2 (by omega) (by omega) (by omega) hs (by omega) hb2 k2.1 k2.2, step_end (k + 1)]
        generalize ((b0 - 224) * 64 + b1 - 128) * 64 + b2 - 128 = v
        by_cases k3 : v < 2048 ∨ 1114111 < v ∨ (55296 ≤ v ∧ v ≤ 57343) ∨ v = 65533
        · rw [if_pos k3, if_neg (fun h => h.2.2.2 k3)]; rfl
        · rw [if_neg k3, if_pos ⟨by omega, k1, k2, k3⟩]
      · rw [step_lo (k + 2) s p 3 2048 ((b0 - 224) * 64 + b1 - 128) (1 + 1) (by omega) (by omega) hs (by rw [hb2]; omega), if_neg (fun h => k2 h.2.2.1)]
        rfl
    · rw [step_lo (k + 3) s p 3 2048 (b0 - 224) 1 (by omega) (by omega) hs (by rw [hb1]; omega), if_neg (fun h => k1 h.2.1)]
      rfl
  · rw [j2_out _ s p 3 2048 _ (by omega) hs hps (by omega), if_neg (fun h => by have := h.1; omega)]
    rfl
theorem j2_4 {s : ByteArray} {p b0 b1 b2 b3 : Nat} (k : Nat) (h : At4 s p b0 b1 b2 b3) (hps : p < s.size) (hs : s.size ≤ 100000) (c : 240 ≤ b0) (c' : b0 < 248) : becketref02_width.j2 (k + 5) s p ((4 : Nat) : Int) ((65536 : Nat) : Int) ((b0 - 240 : Nat) : Int) = some (widthOf s p : Int) := by
  rw [width_4 h c c']
  by_cases k0 : p + 4 ≤ s.size
  · have hb1 : bt s ((p + 1 : Nat) : Int) = (b1 : Int) := by rw [bt_byte s (p + 1) (by omega), h.h1]
    have hb2 : bt s ((p + 2 : Nat) : Int) = (b2 : Int) := by rw [bt_byte s (p + 2) (by omega), h.h2]
    have hb3 : bt s ((p + 3 : Nat) : Int) = (b3 : Int) := by rw [bt_byte s (p + 3) (by omega), h.h3]
    rw [j2_in _ s p 4 65536 _ (by omega) hs hps k0]
    by_cases k1 : 128 ≤ b1 ∧ b1 ≤ 191
    · rw [step_in (k + 3) s p 4 65536 (b0 - 240) 1 b1 (by omega) (by omega) (by omega) hs (by omega) hb1 k1.1 k1.2]
      by_cases k2 : 128 ≤ b2 ∧ b2 ≤ 191
      · rw [step_in (k + 2) s p 4 65536 ((b0 - 240) * 64 + b1 - 128) (1 + 1) b2 (by omega) (by omega) (by omega) hs (by omega) hb2 k2.1 k2.2]
        by_cases k3 : 128 ≤ b3 ∧ b3 ≤ 191
        · rw [step_in (k + 1) s p 4 65536 (((b0 - 240) * 64 + b1 - 128) * 64 + b2 - 128) (1 + 1 + 1) b3 (by omega) (by omega) (by omega) hs (by omega) hb3 k3.1 k3.2, step_end k]
          generalize (((b0 - 240) * 64 + b1 - 128) * 64 + b2 - 128) * 64 + b3 - 128 = v
          by_cases k4 : v < 65536 ∨ 1114111 < v ∨ (55296 ≤ v ∧ v ≤ 57343) ∨ v = 65533
          · rw [if_pos k4, if_neg (fun h => h.2.2.2.2 k4)]; rfl
          · rw [if_neg k4, if_pos ⟨by omega, k1, k2, k3, k4⟩]
        · rw [step_lo (k + 1) s p 4 65536 (((b0 - 240) * 64 + b1 - 128) * 64 + b2 - 128) (1 + 1 + 1) (by omega) (by omega) hs (by rw [hb3]; omega), if_neg (fun h => k3 h.2.2.2.1)]
          rfl
      · rw [step_lo (k + 2) s p 4 65536 ((b0 - 240) * 64 + b1 - 128) (1 + 1) (by omega) (by omega) hs (by rw [hb2]; omega), if_neg (fun h => k2 h.2.2.1)]
        rfl
    · rw [step_lo (k + 3) s p 4 65536 (b0 - 240) 1 (by omega) (by omega) hs (by rw [hb1]; omega), if_neg (fun h => k1 h.2.1)]
      rfl
  · rw [j2_out _ s p 4 65536 _ (by omega) hs hps (by omega), if_neg (fun h => by have := h.1; omega)]
    rfl
theorem sub_wrap (b m : Nat) (hm : m ≤ b) (hb : b < 256) : wrap64 (wrap64 (b : Int) - (m : Int)) = ((b - m : Nat) : Int) := by
  rw [wz' (z := (b : Int)) (y := (b : Int)) rfl (by omega) (by omega), wz' (z := (b : Int) - (m : Int)) (y := ((b - m : Nat) : Int)) (by omega) (by omega) (by omega)]
theorem width_f (s : ByteArray) (p k : Nat) (hp : p < s.size) (hs : s.size ≤ 100000) (hk : 10 ≤ k) : becketref02_width.f k s (p : Int) = some (widthOf s p : Int) := by
  obtain ⟨k, rfl⟩ : ∃ k', k = k' + 5 + 1 + 1 := ⟨k - 7, by omega⟩
  have A : At4 s p (s.get! p).toNat (s.get! (p + 1)).toNat (s.get! (p + 2)).toNat (s.get! (p + 3)).toNat := ⟨rfl, rfl, rfl, rfl⟩
  have h0 := bt_byte s p hp
  have hl := A.lt
  generalize (s.get! p).toNat = b0 at *
  generalize (s.get! (p + 1)).toNat = b1 at *
  generalize (s.get! (p + 2)).toNat = b2 at *
  generalize (s.get! (p + 3)).toNat = b3 at *
  unfold becketref02_width.f
  rw [h0, if_pos (by omega), if_pos (by omega)]
  by_cases c0 : b0 < 128
  · rw [if_pos (by omega), width_1 A c0]; rfl
  rw [if_neg (by omega)]
  by_cases c1 : 192 ≤ b0
  · rw [if_pos (by omega)]
    by_cases c2 : b0 < 224
    · rw [decide_eq_true (by omega : (b0 : Int) < 224)]
      have := j2_2 (k + 1) A hp hs c1 c2
      rw [← sub_wrap b0 192 c1 hl.1] at this
      simp only [becketref02_width.j0, if_true]
      exact this
    · rw [decide_eq_false (by omega : ¬ (b0 : Int) < 224)]
      simp only [becketref02_width.j0, Bool.false_eq_true, if_false]
      rw [if_pos (by omega)]
      by_cases c3 : b0 < 240
      · rw [decide_eq_true (by omega : (b0 : Int) < 240)]
        have := j2_3 k A hp hs (by omega) c3
        rw [← sub_wrap b0 224 (by omega) hl.1] at this
        simp only [becketref02_width.j1, if_true]
        exact this
      · rw [decide_eq_false (by omega : ¬ (b0 : Int) < 240)]
        simp only [becketref02_width.j1, Bool.false_eq_true, if_false]
        rw [if_pos (by omega)]
        by_cases c4 : b0 < 248
        · rw [if_pos (by omega)]
          have := j2_4 k A hp hs (by omega) c4
          rw [← sub_wrap b0 240 (by omega) hl.1] at this
          exact this
        · rw [if_neg (by omega), width_0 A (by omega)]; rfl
  · rw [if_neg (by omega), width_0 A (by omega)]
    simp only [becketref02_width.j0, Bool.false_eq_true, if_false]
    rw [if_neg (by omega)]
    simp only [becketref02_width.j1, Bool.false_eq_true, if_false]
    rw [if_neg (by omega)]
    rfl
end Go.Proofs.YtfneogaclbammaaDoor.PureRoute
