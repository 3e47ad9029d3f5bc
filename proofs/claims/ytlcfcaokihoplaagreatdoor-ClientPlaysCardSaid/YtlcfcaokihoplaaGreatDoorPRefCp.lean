-- Cut.
import Derived.Test.YtlcfcaokihoplaaGreatDoorPOCp
import Derived.Lib.IndexBytes
import Derived.Lib.IndexLaws
namespace Go.Proofs.YtlcfcaokihoplaaGreatDoor.PureRoute
open Go.RowKit Go.Proofs.YtlcfcaokihoplaaGreatDoor.Route Go.Proofs.YtlcfcaokihoplaaGreatDoor.Ms Go.Proofs.YzW.PrintWords Go.Proofs.YzW.PrintLast Go.Proofs.YzW.PrintMore
set_option linter.unusedSimpArgs false
set_option linter.unusedVariables false
def partsOk (l : List ByteArray) : Bool := decide (1 ≤ l.length) && decide (l.length ≤ 8) && l.all dy_
theorem bt_byte (s : ByteArray) (p : Nat) (h : p < s.size) : bt s (p : Int) = ((s.get! p).toNat : Int) := by
 have e : s.get! p = s[p]'h := by
  simp [ByteArray.get!, getElem!_pos, h]
  rfl
 rw [← bt_at s p (by simpa using h), e]
 rfl
theorem wz {z : Int} (h0 : -9223372036854775808 ≤ z) (h1 : z ≤ 9223372036854775807) : wrap64 z = z := by unfold wrap64; omega
theorem wz' {z y : Int} (e : z = y) (h0 : -9223372036854775808 ≤ y) (h1 : y ≤ 9223372036854775807) : wrap64 z = y := by rw [e]; exact wz h0 h1
theorem step_lo (k : Nat) (s : ByteArray) (p n least v i : Nat) (hi : i < n) (hp : p + i < s.size) (hs : s.size ≤ 100000) (hb : bt s ((p + i : Nat) : Int) < 128 ∨ bt s ((p + i : Nat) : Int) > 191) :
  w_.l0 (k + 1) s p n least v i = some 0 := by
 unfold w_.l0
 rw [wz' (y := ((p + i : Nat) : Int)) (by omega) (by omega) (by omega), if_pos (by omega), if_pos (by omega), if_pos (by omega)]
 rcases hb with hb | hb
 ·rw [if_pos hb]
 ·rw [if_neg (by omega), if_pos hb]
theorem step_in (k : Nat) (s : ByteArray) (p n least v i b : Nat) (hi : i < n) (hn : n ≤ 4) (hp : p + i < s.size) (hs : s.size ≤ 100000) (hv : v ≤ 100000) (hb : bt s ((p + i : Nat) : Int) = (b : Int)) (h0 : 128 ≤ b) (h1 : b ≤ 191) :
  w_.l0 (k + 1) s p n least v i = w_.l0 k s p n least ((v * 64 + b - 128 : Nat) : Int) ((i + 1 : Nat) : Int) := by
 conv => lhs; unfold w_.l0
 rw [wz' (z := (p : Int) + (i : Int)) (y := ((p + i : Nat) : Int)) (by omega) (by omega) (by omega), if_pos (by omega), if_pos (by omega), if_pos (by omega), hb, if_neg (by omega), if_neg (by omega),
  wz' (z := (v : Int) * 64) (y := (v : Int) * 64) rfl (by omega) (by omega), wz' (z := (b : Int)) (y := (b : Int)) rfl (by omega) (by omega), wz' (z := (v : Int) * 64 + (b : Int)) (y := (v : Int) * 64 + (b : Int)) rfl (by omega) (by omega),
  wz' (z := (v : Int) * 64 + (b : Int) - 128) (y := ((v * 64 + b - 128 : Nat) : Int)) (by omega) (by omega) (by omega), wz' (z := (i : Int) + 1) (y := ((i + 1 : Nat) : Int)) (by omega) (by omega) (by omega)]
theorem step_end (k : Nat) (s : ByteArray) (p n least v : Nat) : w_.l0 (k + 1) s p n least v n = some (if v < least ∨ 1114111 < v ∨ (55296 ≤ v ∧ v ≤ 57343) ∨ v = 65533 then 0 else (n : Int)) := by
 unfold w_.l0
 rw [if_neg (by omega)]
 by_cases h1 : v < least
 ·rw [if_pos (by omega), if_pos (.inl h1)]
 rw [if_neg (by omega)]
 by_cases h2 : 1114111 < v
 ·rw [if_pos (by omega), if_pos (.inr (.inl h2))]
 rw [if_neg (by omega)]
 by_cases h3 : 55296 ≤ v
 ·rw [if_pos (by omega)]
  by_cases h4 : v ≤ 57343
  ·rw [if_pos (by omega), if_pos (.inr (.inr (.inl ⟨h3, h4⟩)))]
  ·rw [if_neg (by omega)]
   by_cases h5 : v = 65533
   ·rw [if_pos (by omega), if_pos (.inr (.inr (.inr h5)))]
   ·rw [if_neg (by omega), if_neg (by omega)]
 ·rw [if_neg (by omega)]
  by_cases h5 : v = 65533
  ·rw [if_pos (by omega), if_pos (.inr (.inr (.inr h5)))]
  ·rw [if_neg (by omega), if_neg (by omega)]
def do_ (s : ByteArray) (p : Nat) : Nat := if (Utf8.decode s p).1 = 65533 then 0 else (Utf8.decode s p).2
theorem dec_eq (s : ByteArray) (p b0 b1 b2 b3 : Nat) (h0 : (s.get! p).toNat = b0) (h1 : (s.get! (p + 1)).toNat = b1) (h2 : (s.get! (p + 2)).toNat = b2) (h3 : (s.get! (p + 3)).toNat = b3) :
  Utf8.decode s p = (if b0 < 128 then (b0, 1)
   else if (b0 / 32 == 6 && (decide (p + 1 < s.size) && b1 / 64 == 2)) = true then (if (b0 % 32) * 64 + b1 % 64 ≥ 128 then ((b0 % 32) * 64 + b1 % 64, 2) else (65533, 1))
   else if (b0 / 16 == 14 && (decide (p + 1 < s.size) && b1 / 64 == 2) && (decide (p + 2 < s.size) && b2 / 64 == 2)) = true then (if ((b0 % 16) * 4096 + (b1 % 64) * 64 + b2 % 64 ≥ 2048 && Utf8.valid (((b0 % 16) * 4096 + (b1 % 64) * 64 + b2 % 64 : Nat) : Int)) = true then ((b0 % 16) * 4096 + (b1 % 64) * 64 + b2 % 64, 3) else (65533, 1))
   else if (b0 / 8 == 30 && (decide (p + 1 < s.size) && b1 / 64 == 2) && (decide (p + 2 < s.size) && b2 / 64 == 2) && (decide (p + 3 < s.size) && b3 / 64 == 2)) = true then (if ((b0 % 8) * 262144 + (b1 % 64) * 4096 + (b2 % 64) * 64 + b3 % 64 ≥ 65536 && Utf8.valid (((b0 % 8) * 262144 + (b1 % 64) * 4096 + (b2 % 64) * 64 + b3 % 64 : Nat) : Int)) = true then ((b0 % 8) * 262144 + (b1 % 64) * 4096 + (b2 % 64) * 64 + b3 % 64, 4) else (65533, 1))
   else (65533, 1)) := by
 subst h0 h1 h2 h3
 simp only [Utf8.decode, Nat.add_zero, Utf8.runeError]
theorem valid_iff (c : Nat) : Utf8.valid (c : Int) = true ↔ c < 55296 ∨ (57344 ≤ c ∧ c ≤ 1114111) := by
 unfold Utf8.valid
 simp
 omega
structure At4 (s : ByteArray) (p b0 b1 b2 b3 : Nat) : Prop where
 h0 : (s.get! p).toNat = b0
 h1 : (s.get! (p + 1)).toNat = b1
 h2 : (s.get! (p + 2)).toNat = b2
 h3 : (s.get! (p + 3)).toNat = b3
theorem At4.lt {s : ByteArray} {p b0 b1 b2 b3 : Nat} (h : At4 s p b0 b1 b2 b3) : b0 < 256 ∧ b1 < 256 ∧ b2 < 256 ∧ b3 < 256 := by
 obtain ⟨rfl, rfl, rfl, rfl⟩ := h
 exact ⟨UInt8.toNat_lt _, UInt8.toNat_lt _, UInt8.toNat_lt _, UInt8.toNat_lt _⟩
theorem wd {s : ByteArray} {p c w : Nat} (h : Utf8.decode s p = (c, w)) : do_ s p = if c = 65533 then 0 else w := by
 unfold do_
 rw [h]
theorem width_1 {s : ByteArray} {p b0 b1 b2 b3 : Nat} (h : At4 s p b0 b1 b2 b3) (c : b0 < 128) : do_ s p = 1 := by
 have D := dec_eq s p b0 b1 b2 b3 h.h0 h.h1 h.h2 h.h3
 rw [if_pos c] at D
 rw [wd D, if_neg (by omega)]
theorem width_2 {s : ByteArray} {p b0 b1 b2 b3 : Nat} (h : At4 s p b0 b1 b2 b3) (c : 192 ≤ b0) (c' : b0 < 224) : do_ s p = if p + 1 < s.size ∧ 128 ≤ b1 ∧ b1 ≤ 191 ∧ 128 ≤ (b0 - 192) * 64 + b1 - 128 then 2 else 0 := by
 have hl := h.lt
 have D := dec_eq s p b0 b1 b2 b3 h.h0 h.h1 h.h2 h.h3
 rw [if_neg (by omega)] at D
 by_cases k : p + 1 < s.size ∧ 128 ≤ b1 ∧ b1 ≤ 191
 ·rw [if_pos (by simp; omega)] at D
  by_cases k2 : 128 ≤ (b0 - 192) * 64 + b1 - 128
  ·rw [if_pos (by omega)] at D
   rw [wd D, if_neg (by omega), if_pos (by omega)]
  ·rw [if_neg (by omega)] at D
   rw [wd D, if_pos rfl, if_neg (by omega)]
 ·rw [if_neg (by simp; omega), if_neg (by simp; omega), if_neg (by simp; omega)] at D
  rw [wd D, if_pos rfl, if_neg (by omega)]
theorem width_3 {s : ByteArray} {p b0 b1 b2 b3 : Nat} (h : At4 s p b0 b1 b2 b3) (c : 224 ≤ b0) (c' : b0 < 240) : do_ s p = if p + 2 < s.size ∧ (128 ≤ b1 ∧ b1 ≤ 191) ∧ (128 ≤ b2 ∧ b2 ≤ 191) ∧ ¬ (((b0 - 224) * 64 + b1 - 128) * 64 + b2 - 128 < 2048 ∨ 1114111 < ((b0 - 224) * 64 + b1 - 128) * 64 + b2 - 128 ∨ (55296 ≤ ((b0 - 224) * 64 + b1 - 128) * 64 + b2 - 128 ∧ ((b0 - 224) * 64 + b1 - 128) * 64 + b2 - 128 ≤ 57343) ∨ ((b0 - 224) * 64 + b1 - 128) * 64 + b2 - 128 = 65533) then 3 else 0 := by
 have hl := h.lt
 have D := dec_eq s p b0 b1 b2 b3 h.h0 h.h1 h.h2 h.h3
 rw [if_neg (by omega), if_neg (by simp; omega)] at D
 by_cases k : p + 2 < s.size ∧ (128 ≤ b1 ∧ b1 ≤ 191) ∧ (128 ≤ b2 ∧ b2 ≤ 191)
 ·rw [if_pos (by simp; omega)] at D
  have e : (b0 % 16) * 4096 + (b1 % 64) * 64 + b2 % 64 = ((b0 - 224) * 64 + b1 - 128) * 64 + b2 - 128 := by omega
  rw [e] at D
  generalize ((b0 - 224) * 64 + b1 - 128) * 64 + b2 - 128 = v at D ⊢
  clear e
  by_cases k2 : v ≥ 2048 ∧ (v < 55296 ∨ (57344 ≤ v ∧ v ≤ 1114111))
  ·rw [if_pos (by rw [Bool.and_eq_true, valid_iff]; simp; omega)] at D
   by_cases k3 : v = 65533
   ·rw [wd D, if_pos k3, if_neg (by omega)]
   ·rw [wd D, if_neg k3, if_pos (by omega)]
  ·rw [if_neg (by rw [Bool.and_eq_true, valid_iff]; simp; omega)] at D
   rw [wd D, if_pos rfl, if_neg (by omega)]
 ·rw [if_neg (by simp; omega), if_neg (by simp; omega)] at D
  rw [wd D, if_pos rfl, if_neg (by omega)]
theorem width_4 {s : ByteArray} {p b0 b1 b2 b3 : Nat} (h : At4 s p b0 b1 b2 b3) (c : 240 ≤ b0) (c' : b0 < 248) : do_ s p = if p + 3 < s.size ∧ (128 ≤ b1 ∧ b1 ≤ 191) ∧ (128 ≤ b2 ∧ b2 ≤ 191) ∧ (128 ≤ b3 ∧ b3 ≤ 191) ∧ ¬ ((((b0 - 240) * 64 + b1 - 128) * 64 + b2 - 128) * 64 + b3 - 128 < 65536 ∨ 1114111 < (((b0 - 240) * 64 + b1 - 128) * 64 + b2 - 128) * 64 + b3 - 128 ∨ (55296 ≤ (((b0 - 240) * 64 + b1 - 128) * 64 + b2 - 128) * 64 + b3 - 128 ∧ (((b0 - 240) * 64 + b1 - 128) * 64 + b2 - 128) * 64 + b3 - 128 ≤ 57343) ∨ (((b0 - 240) * 64 + b1 - 128) * 64 + b2 - 128) * 64 + b3 - 128 = 65533) then 4 else 0 := by
 have hl := h.lt
 have D := dec_eq s p b0 b1 b2 b3 h.h0 h.h1 h.h2 h.h3
 rw [if_neg (by omega), if_neg (by simp; omega), if_neg (by simp; omega)] at D
 by_cases k : p + 3 < s.size ∧ (128 ≤ b1 ∧ b1 ≤ 191) ∧ (128 ≤ b2 ∧ b2 ≤ 191) ∧ (128 ≤ b3 ∧ b3 ≤ 191)
 ·rw [if_pos (by simp; omega)] at D
  have e : (b0 % 8) * 262144 + (b1 % 64) * 4096 + (b2 % 64) * 64 + b3 % 64 = (((b0 - 240) * 64 + b1 - 128) * 64 + b2 - 128) * 64 + b3 - 128 := by omega
  rw [e] at D
  generalize (((b0 - 240) * 64 + b1 - 128) * 64 + b2 - 128) * 64 + b3 - 128 = v at D ⊢
  clear e
  by_cases k2 : v ≥ 65536 ∧ (v < 55296 ∨ (57344 ≤ v ∧ v ≤ 1114111))
  ·rw [if_pos (by rw [Bool.and_eq_true, valid_iff]; simp; omega)] at D
   rw [wd D, if_neg (by omega), if_pos (by omega)]
  ·rw [if_neg (by rw [Bool.and_eq_true, valid_iff]; simp; omega)] at D
   rw [wd D, if_pos rfl, if_neg (by omega)]
 ·rw [if_neg (by simp; omega)] at D
  rw [wd D, if_pos rfl, if_neg (by omega)]
theorem width_0 {s : ByteArray} {p b0 b1 b2 b3 : Nat} (h : At4 s p b0 b1 b2 b3) (c : (128 ≤ b0 ∧ b0 < 192) ∨ 248 ≤ b0) : do_ s p = 0 := by
 have hl := h.lt
 have D := dec_eq s p b0 b1 b2 b3 h.h0 h.h1 h.h2 h.h3
 rw [if_neg (by omega), if_neg (by simp; omega), if_neg (by simp; omega), if_neg (by simp; omega)] at D
 rw [wd D, if_pos rfl]
theorem j2_out (k : Nat) (s : ByteArray) (p n least v : Nat) (hn : n ≤ 4) (hs : s.size ≤ 100000) (hps : p < s.size) (hp : s.size < p + n) : w_.j2 (k + 1) s p n least v = some 0 := by
 simp only [w_.j2]
 rw [wz' (z := (p : Int) + (n : Int)) (y := (p : Int) + (n : Int)) rfl (by omega) (by omega), if_pos (by omega)]
theorem j2_in (k : Nat) (s : ByteArray) (p n least v : Nat) (hn : n ≤ 4) (hs : s.size ≤ 100000) (hps : p < s.size) (hp : p + n ≤ s.size) : w_.j2 (k + 1) s p n least v = w_.l0 k s p n least v ((1 : Nat) : Int) := by
 simp only [w_.j2]
 rw [wz' (z := (p : Int) + (n : Int)) (y := (p : Int) + (n : Int)) rfl (by omega) (by omega), if_neg (by omega)]
 rfl
theorem j2_2 {s : ByteArray} {p b0 b1 b2 b3 : Nat} (k : Nat) (h : At4 s p b0 b1 b2 b3) (hps : p < s.size) (hs : s.size ≤ 100000) (c : 192 ≤ b0) (c' : b0 < 224) : w_.j2 (k + 5) s p ((2 : Nat) : Int) ((128 : Nat) : Int) ((b0 - 192 : Nat) : Int) = some (do_ s p : Int) := by
 rw [width_2 h c c']
 by_cases k0 : p + 2 ≤ s.size
 ·have hb1 : bt s ((p + 1 : Nat) : Int) = (b1 : Int) := by rw [bt_byte s (p + 1) (by omega), h.h1]
  rw [j2_in _ s p 2 128 _ (by omega) hs hps k0]
  by_cases k1 : 128 ≤ b1 ∧ b1 ≤ 191
  ·rw [step_in (k + 3) s p 2 128 (b0 - 192) 1 b1 (by omega) (by omega) (by omega) hs (by omega) hb1 k1.1 k1.2, step_end (k + 2)]
   split <;> split <;> first | rfl | omega
  ·rw [step_lo (k + 3) s p 2 128 (b0 - 192) 1 (by omega) (by omega) hs (by rw [hb1]; omega), if_neg (by omega)]
   rfl
 ·rw [j2_out _ s p 2 128 _ (by omega) hs hps (by omega), if_neg (by omega)]
  rfl
theorem j2_3 {s : ByteArray} {p b0 b1 b2 b3 : Nat} (k : Nat) (h : At4 s p b0 b1 b2 b3) (hps : p < s.size) (hs : s.size ≤ 100000) (c : 224 ≤ b0) (c' : b0 < 240) : w_.j2 (k + 5) s p ((3 : Nat) : Int) ((2048 : Nat) : Int) ((b0 - 224 : Nat) : Int) = some (do_ s p : Int) := by
 rw [width_3 h c c']
 by_cases k0 : p + 3 ≤ s.size
 ·have hb1 : bt s ((p + 1 : Nat) : Int) = (b1 : Int) := by rw [bt_byte s (p + 1) (by omega), h.h1]
  have hb2 : bt s ((p + 2 : Nat) : Int) = (b2 : Int) := by rw [bt_byte s (p + 2) (by omega), h.h2]
  rw [j2_in _ s p 3 2048 _ (by omega) hs hps k0]
  by_cases k1 : 128 ≤ b1 ∧ b1 ≤ 191
  ·rw [step_in (k + 3) s p 3 2048 (b0 - 224) 1 b1 (by omega) (by omega) (by omega) hs (by omega) hb1 k1.1 k1.2]
   by_cases k2 : 128 ≤ b2 ∧ b2 ≤ 191
   ·rw [step_in (k + 2) s p 3 2048 ((b0 - 224) * 64 + b1 - 128) (1 + 1) b2 (by omega) (by omega) (by omega) hs (by omega) hb2 k2.1 k2.2, step_end (k + 1)]
    generalize ((b0 - 224) * 64 + b1 - 128) * 64 + b2 - 128 = v
    by_cases k3 : v < 2048 ∨ 1114111 < v ∨ (55296 ≤ v ∧ v ≤ 57343) ∨ v = 65533
    ·rw [if_pos k3, if_neg (fun h => h.2.2.2 k3)]; rfl
    ·rw [if_neg k3, if_pos ⟨by omega, k1, k2, k3⟩]
   ·rw [step_lo (k + 2) s p 3 2048 ((b0 - 224) * 64 + b1 - 128) (1 + 1) (by omega) (by omega) hs (by rw [hb2]; omega), if_neg (fun h => k2 h.2.2.1)]
    rfl
  ·rw [step_lo (k + 3) s p 3 2048 (b0 - 224) 1 (by omega) (by omega) hs (by rw [hb1]; omega), if_neg (fun h => k1 h.2.1)]
   rfl
 ·rw [j2_out _ s p 3 2048 _ (by omega) hs hps (by omega), if_neg (fun h => by have := h.1; omega)]
  rfl
theorem j2_4 {s : ByteArray} {p b0 b1 b2 b3 : Nat} (k : Nat) (h : At4 s p b0 b1 b2 b3) (hps : p < s.size) (hs : s.size ≤ 100000) (c : 240 ≤ b0) (c' : b0 < 248) : w_.j2 (k + 5) s p ((4 : Nat) : Int) ((65536 : Nat) : Int) ((b0 - 240 : Nat) : Int) = some (do_ s p : Int) := by
 rw [width_4 h c c']
 by_cases k0 : p + 4 ≤ s.size
 ·have hb1 : bt s ((p + 1 : Nat) : Int) = (b1 : Int) := by rw [bt_byte s (p + 1) (by omega), h.h1]
  have hb2 : bt s ((p + 2 : Nat) : Int) = (b2 : Int) := by rw [bt_byte s (p + 2) (by omega), h.h2]
  have hb3 : bt s ((p + 3 : Nat) : Int) = (b3 : Int) := by rw [bt_byte s (p + 3) (by omega), h.h3]
  rw [j2_in _ s p 4 65536 _ (by omega) hs hps k0]
  by_cases k1 : 128 ≤ b1 ∧ b1 ≤ 191
  ·rw [step_in (k + 3) s p 4 65536 (b0 - 240) 1 b1 (by omega) (by omega) (by omega) hs (by omega) hb1 k1.1 k1.2]
   by_cases k2 : 128 ≤ b2 ∧ b2 ≤ 191
   ·rw [step_in (k + 2) s p 4 65536 ((b0 - 240) * 64 + b1 - 128) (1 + 1) b2 (by omega) (by omega) (by omega) hs (by omega) hb2 k2.1 k2.2]
    by_cases k3 : 128 ≤ b3 ∧ b3 ≤ 191
    ·rw [step_in (k + 1) s p 4 65536 (((b0 - 240) * 64 + b1 - 128) * 64 + b2 - 128) (1 + 1 + 1) b3 (by omega) (by omega) (by omega) hs (by omega) hb3 k3.1 k3.2, step_end k]
     generalize (((b0 - 240) * 64 + b1 - 128) * 64 + b2 - 128) * 64 + b3 - 128 = v
     by_cases k4 : v < 65536 ∨ 1114111 < v ∨ (55296 ≤ v ∧ v ≤ 57343) ∨ v = 65533
     ·rw [if_pos k4, if_neg (fun h => h.2.2.2.2 k4)]; rfl
     ·rw [if_neg k4, if_pos ⟨by omega, k1, k2, k3, k4⟩]
    ·rw [step_lo (k + 1) s p 4 65536 (((b0 - 240) * 64 + b1 - 128) * 64 + b2 - 128) (1 + 1 + 1) (by omega) (by omega) hs (by rw [hb3]; omega), if_neg (fun h => k3 h.2.2.2.1)]
     rfl
   ·rw [step_lo (k + 2) s p 4 65536 ((b0 - 240) * 64 + b1 - 128) (1 + 1) (by omega) (by omega) hs (by rw [hb2]; omega), if_neg (fun h => k2 h.2.2.1)]
    rfl
  ·rw [step_lo (k + 3) s p 4 65536 (b0 - 240) 1 (by omega) (by omega) hs (by rw [hb1]; omega), if_neg (fun h => k1 h.2.1)]
   rfl
 ·rw [j2_out _ s p 4 65536 _ (by omega) hs hps (by omega), if_neg (fun h => by have := h.1; omega)]
  rfl
theorem sub_wrap (b m : Nat) (hm : m ≤ b) (hb : b < 256) : wrap64 (wrap64 (b : Int) - (m : Int)) = ((b - m : Nat) : Int) := by
 rw [wz' (z := (b : Int)) (y := (b : Int)) rfl (by omega) (by omega), wz' (z := (b : Int) - (m : Int)) (y := ((b - m : Nat) : Int)) (by omega) (by omega) (by omega)]
theorem width_f (s : ByteArray) (p k : Nat) (hp : p < s.size) (hs : s.size ≤ 100000) (hk : 10 ≤ k) : w_.f k s (p : Int) = some (do_ s p : Int) := by
 obtain ⟨k, rfl⟩ : ∃ k', k = k' + 5 + 1 + 1 := ⟨k - 7, by omega⟩
 have A : At4 s p (s.get! p).toNat (s.get! (p + 1)).toNat (s.get! (p + 2)).toNat (s.get! (p + 3)).toNat := ⟨rfl, rfl, rfl, rfl⟩
 have h0 := bt_byte s p hp
 have hl := A.lt
 generalize (s.get! p).toNat = b0 at *
 generalize (s.get! (p + 1)).toNat = b1 at *
 generalize (s.get! (p + 2)).toNat = b2 at *
 generalize (s.get! (p + 3)).toNat = b3 at *
 unfold w_.f
 rw [h0, if_pos (by omega), if_pos (by omega)]
 by_cases c0 : b0 < 128
 ·rw [if_pos (by omega), width_1 A c0]; rfl
 rw [if_neg (by omega)]
 by_cases c1 : 192 ≤ b0
 ·rw [if_pos (by omega)]
  by_cases c2 : b0 < 224
  ·rw [decide_eq_true (by omega : (b0 : Int) < 224)]
   have := j2_2 (k + 1) A hp hs c1 c2
   rw [← sub_wrap b0 192 c1 hl.1] at this
   simp only [w_.j0, if_true]
   exact this
  ·rw [decide_eq_false (by omega : ¬ (b0 : Int) < 224)]
   simp only [w_.j0, Bool.false_eq_true, if_false]
   rw [if_pos (by omega)]
   by_cases c3 : b0 < 240
   ·rw [decide_eq_true (by omega : (b0 : Int) < 240)]
    have := j2_3 k A hp hs (by omega) c3
    rw [← sub_wrap b0 224 (by omega) hl.1] at this
    simp only [w_.j1, if_true]
    exact this
   ·rw [decide_eq_false (by omega : ¬ (b0 : Int) < 240)]
    simp only [w_.j1, Bool.false_eq_true, if_false]
    rw [if_pos (by omega)]
    by_cases c4 : b0 < 248
    ·rw [if_pos (by omega)]
     have := j2_4 k A hp hs (by omega) c4
     rw [← sub_wrap b0 240 (by omega) hl.1] at this
     exact this
    ·rw [if_neg (by omega), width_0 A (by omega)]; rfl
 ·rw [if_neg (by omega), width_0 A (by omega)]
  simp only [w_.j0, Bool.false_eq_true, if_false]
  rw [if_neg (by omega)]
  simp only [w_.j1, Bool.false_eq_true, if_false]
  rw [if_neg (by omega)]
  rfl
theorem dec_cases (s : ByteArray) (p : Nat) (hp : p < s.size) : ((Utf8.decode s p).1 < 128 ∧ (Utf8.decode s p).2 = 1 ∧ bt s (p : Int) = ((Utf8.decode s p).1 : Int)) ∨ (128 ≤ (Utf8.decode s p).1 ∧ 2 ≤ (Utf8.decode s p).2 ∧ (Utf8.decode s p).1 ≠ 65533) ∨ (Utf8.decode s p).1 = 65533 := by
 have h0 := bt_byte s p hp
 have D := dec_eq s p _ _ _ _ rfl rfl rfl rfl
 have hl := At4.lt ⟨rfl, rfl, rfl, rfl⟩ (s := s) (p := p)
 generalize (s.get! p).toNat = b0 at *
 generalize (s.get! (p + 1)).toNat = b1 at *
 generalize (s.get! (p + 2)).toNat = b2 at *
 generalize (s.get! (p + 3)).toNat = b3 at *
 rw [h0, D]
 by_cases c0 : b0 < 128
 ·rw [if_pos c0]; exact .inl ⟨c0, rfl, rfl⟩
 rw [if_neg c0]
 split
 ·split
  ·rename_i h
   by_cases e : (b0 % 32) * 64 + b1 % 64 = 65533
   ·exact .inr (.inr e)
   ·exact .inr (.inl ⟨by show 128 ≤ (b0 % 32) * 64 + b1 % 64; omega, Nat.le_refl _, e⟩)
  ·exact .inr (.inr rfl)
 ·split
  ·split
   ·rename_i h
    rw [Bool.and_eq_true, decide_eq_true_eq] at h
    generalize (b0 % 16) * 4096 + (b1 % 64) * 64 + b2 % 64 = v at h ⊢
    by_cases e : v = 65533
    ·exact .inr (.inr e)
    ·exact .inr (.inl ⟨by show 128 ≤ v; have := h.1; omega, by show 2 ≤ 3; omega, e⟩)
   ·exact .inr (.inr rfl)
  ·split
   ·split
    ·rename_i h
     rw [Bool.and_eq_true, decide_eq_true_eq] at h
     generalize (b0 % 8) * 262144 + (b1 % 64) * 4096 + (b2 % 64) * 64 + b3 % 64 = v at h ⊢
     by_cases e : v = 65533
     ·exact .inr (.inr e)
     ·exact .inr (.inl ⟨by show 128 ≤ v; have := h.1; omega, by show 2 ≤ 4; omega, e⟩)
    ·exact .inr (.inr rfl)
   ·exact .inr (.inr rfl)
theorem plain_f (c : Nat) (h : c < 128) : cc_.f (c : Int) = some (runeOk c) := by
 unfold cc_.f runeOk
 have q : ∀ n : Nat, ((c : Int) == (n : Int)) = (c == n) := fun n => by
  by_cases h : c = n
  ·subst h; simp
  ·rw [beq_eq_false_iff_ne.2 h, beq_eq_false_iff_ne.2 (by omega)]
 have q46 : ((c : Int) == 46) = (c == 46) := q 46
 have e128 : decide (128 ≤ c) = false := decide_eq_false (by omega)
 rw [q46, e128]
 by_cases h1 : 97 ≤ c
 ·rw [if_pos (by omega)]
  by_cases h2 : c ≤ 122
  ·rw [if_pos (by omega)]; simp [h1, h2]
  ·rw [if_neg (by omega), if_pos (by omega), if_neg (by omega), if_neg (by omega), if_neg (by omega)]
   have : ¬ c ≤ 57 := by omega
   have : ¬ c = 95 := by omega
   have : ¬ c = 45 := by omega
   simp [*]
 ·rw [if_neg (by omega)]
  by_cases h3 : 48 ≤ c
  ·rw [if_pos (by omega)]
   by_cases h4 : c ≤ 57
   ·rw [if_pos (by omega)]; simp [*]
   ·rw [if_neg (by omega)]
    by_cases h5 : c = 95
    ·rw [if_pos (by omega)]; simp [*]
    ·rw [if_neg (by omega), if_neg (by omega)]
     have : ¬ c = 45 := by omega
     simp [*]
  ·rw [if_neg (by omega)]
   by_cases h5 : c = 95
   ·omega
   ·rw [if_neg (by omega)]
    by_cases h6 : c = 45
    ·rw [if_pos (by omega)]; simp [*]
    ·rw [if_neg (by omega)]; simp [*]
theorem part_l0 (s : ByteArray) (hs : s.size ≤ 10000) : ∀ (b k n pos : Nat), s.size ≤ pos + b → pos ≤ s.size + 4 → n ≤ pos → b + 20 ≤ k →
  aw_.l0 k s n pos = some (match bt_ s b pos with | none => false | some m => decide (1 ≤ n + m) && decide (n + m ≤ 16) && (s.toList != [46]) && (s.toList != [46, 46])) := by
 have hend : ∀ (b k n pos : Nat), ¬ pos < s.size → aw_.l0 (k + 1) s n pos = some (match bt_ s b pos with | none => false | some m => decide (1 ≤ n + m) && decide (n + m ≤ 16) && (s.toList != [46]) && (s.toList != [46, 46])) := by
  intro b k n pos hp
  rw [runesFrom_end s b pos hp]
  unfold aw_.l0
  rw [if_neg (by omega)]
  simp only [Nat.add_zero]
  by_cases h1 : 1 ≤ n
  ·rw [if_pos (by omega), decide_eq_true h1]
   by_cases h2 : n ≤ 16
   ·rw [if_pos (by omega), decide_eq_true h2]
    by_cases h3 : s.toList = [46]
    ·rw [if_pos h3]; simp [h3]
    ·rw [if_neg h3]; simp [h3]
   ·rw [if_neg (by omega), decide_eq_false h2]; simp
  ·rw [if_neg (by omega), decide_eq_false h1]; simp
 intro b
 induction b with
 | zero =>
  intro k n pos h1 h2 h3 hk
  obtain ⟨k, rfl⟩ : ∃ k', k = k' + 1 := ⟨k - 1, by omega⟩
  exact hend 0 k n pos (by omega)
 | succ b ih =>
  intro k n pos h1 h2 h3 hk
  obtain ⟨k, rfl⟩ : ∃ k', k = k' + 1 := ⟨k - 1, by omega⟩
  by_cases hp : pos < s.size
  ·have hw4 := width_le s pos
   have hw1 := width_pos s pos hp
   have ih' := ih k (n + 1) (pos + (Utf8.decode s pos).2) (by omega) (by omega) (by omega) (by omega)
   have hdc := dec_cases s pos hp
   have hr : bt_ s (b + 1) pos = (if runeOk (Utf8.decode s pos).1 = true then (bt_ s b (pos + (Utf8.decode s pos).2)).map (· + 1) else none) := by
    conv => lhs; unfold bt_
    rw [if_pos hp]
   have hgo : runeOk (Utf8.decode s pos).1 = true → aw_.l0 k s (wrap64 ((n : Int) + 1)) (wrap64 ((pos : Int) + ((Utf8.decode s pos).2 : Int))) = some (match bt_ s (b + 1) pos with | none => false | some m => decide (1 ≤ n + m) && decide (n + m ≤ 16) && (s.toList != [46]) && (s.toList != [46, 46])) := by
    intro hk
    rw [wz' (z := (n : Int) + 1) (y := ((n + 1 : Nat) : Int)) (by omega) (by omega) (by omega), wz' (z := (pos : Int) + ((Utf8.decode s pos).2 : Int)) (y := ((pos + (Utf8.decode s pos).2 : Nat) : Int)) (by omega) (by omega) (by omega), ih', hr, if_pos hk]
    cases bt_ s b (pos + (Utf8.decode s pos).2) with
    | none => rfl
    | some m =>
     simp only [Option.map_some]
     rw [show n + 1 + m = n + (m + 1) by omega]
   unfold aw_.l0
   rw [if_pos (by omega), width_f s pos k hp (by omega) (by omega), Option.bind_some]
   rcases hdc with ⟨d1, d2, d3⟩ | ⟨d1, d2, d3⟩ | d1
   ·have hw : do_ s pos = 1 := by unfold do_; rw [if_neg (by omega), d2]
    rw [hw, if_neg (by decide), if_pos (by decide), if_pos (by omega), d3, plain_f _ d1, Option.bind_some]
    by_cases hk : runeOk (Utf8.decode s pos).1 = true
    ·rw [if_pos hk]
     have := hgo hk
     rw [d2] at this
     exact this
    ·rw [if_neg hk, hr, if_neg hk]
   ·have hw : do_ s pos = (Utf8.decode s pos).2 := by unfold do_; rw [if_neg d3]
    have hk : runeOk (Utf8.decode s pos).1 = true := by
     unfold runeOk
     have e1 : decide (128 ≤ (Utf8.decode s pos).1) = true := decide_eq_true d1
     have e2 : ((Utf8.decode s pos).1 != 65533) = true := by simpa using d3
     rw [e1, e2]; simp
    rw [hw, if_pos (by omega)]
    exact hgo hk
   ·have hw : do_ s pos = 0 := by unfold do_; rw [if_pos d1]
    have hk : ¬ runeOk (Utf8.decode s pos).1 = true := by rw [d1]; decide
    rw [hw, if_neg (by decide), if_neg (by decide), hr, if_neg hk]
  ·exact hend (b + 1) k n pos hp
theorem part_f (s : ByteArray) (k : Nat) (hs : s.size ≤ 10000) (hk : s.size + 20 ≤ k) : aw_.f k s = some (dy_ s) := by
 have := part_l0 s hs s.size k 0 0 (by omega) (by omega) (Nat.le_refl _) hk
 unfold aw_.f
 rw [show ((0 : Nat) : Int) = 0 from rfl] at this
 rw [this]
 unfold dy_
 cases bt_ s s.size 0 with
 | none => rfl
 | some m => simp only [Nat.zero_add]
theorem rdOf_get (l : List ByteArray) (i : Nat) (h : i < l.length) : rdOf ByteArray.empty l (i : Int) = l[i] := by simp [rdOf, h]
theorem parts_l0 (l : List ByteArray) (hl : l.length ≤ 100000) (hs : ∀ x ∈ l, x.size ≤ 10000) : ∀ (m k i : Nat), m = l.length - i → i ≤ l.length → m + 10021 ≤ k → am_.l0 k l i = some ((l.drop i).all dy_)
 | 0, k, i, hm, hi, hk => by
  obtain ⟨k, rfl⟩ : ∃ k', k = k' + 1 := ⟨k - 1, by omega⟩
  have : i = l.length := by omega
  subst this
  unfold am_.l0
  rw [if_neg (by omega), List.drop_length]; rfl
 | m + 1, k, i, hm, hi, hk => by
  obtain ⟨k, rfl⟩ : ∃ k', k = k' + 1 := ⟨k - 1, by omega⟩
  have hlt : i < l.length := by omega
  have hd : l.drop i = l[i] :: l.drop (i + 1) := List.drop_eq_getElem_cons hlt
  have hsz := hs l[i] (List.getElem_mem _)
  have ih := parts_l0 l hl hs m k (i + 1) (by omega) (by omega) (by omega)
  unfold am_.l0
  rw [if_pos (by omega), if_pos (by omega), rdOf_get l i hlt, part_f _ k hsz (by omega), Option.bind_some, hd, List.all_cons, wz' (z := (i : Int) + 1) (y := ((i + 1 : Nat) : Int)) (by omega) (by omega) (by omega)]
  cases dy_ l[i] with
  | true => rw [if_pos rfl, ih]; rfl
  | false => rw [if_neg (by simp)]; rfl
theorem parts_f (l : List ByteArray) (k : Nat) (hl : l.length ≤ 100000) (hs : ∀ x ∈ l, x.size ≤ 10000) (hk : l.length + 10022 ≤ k) : am_.f k l = some (partsOk l) := by
 obtain ⟨k, rfl⟩ : ∃ k', k = k' + 1 := ⟨k - 1, by omega⟩
 unfold am_.f partsOk
 by_cases h1 : 1 ≤ l.length
 ·rw [if_neg (by omega), decide_eq_true h1]
  by_cases h2 : l.length ≤ 8
  ·rw [decide_eq_true h2, decide_eq_false (by omega : ¬ (l.length : Int) > 8)]
   simp only [am_.j0, Bool.false_eq_true, if_false]
   have := parts_l0 l hl hs l.length k 0 (by omega) (by omega) (by omega)
   rw [List.drop_zero] at this
   rw [show ((0 : Nat) : Int) = 0 from rfl] at this
   rw [this]
   rfl
  ·rw [decide_eq_false h2, decide_eq_true (by omega : (l.length : Int) > 8)]
   simp [am_.j0]
 ·rw [if_pos (by omega), decide_eq_false h1]
  simp [am_.j0]
def sp : List UInt8 → List (List UInt8)
 | [] => [[]]
 | c :: r => if c = 47 then [] :: sp r else match sp r with
  | [] => [[c]]
  | h :: t => (c :: h) :: t
theorem sp_cons (c : UInt8) (r : List UInt8) : sp (c :: r) = if c = 47 then [] :: sp r else match sp r with
  | [] => [[c]]
  | h :: t => (c :: h) :: t := rfl
theorem sp_ne : ∀ l, sp l ≠ []
 | [] => by simp [sp]
 | c :: r => by
  unfold sp
  split
  ·simp
  ·split <;> simp
theorem sp_whole : ∀ l, (47 : UInt8) ∉ l → sp l = [l]
 | [], _ => rfl
 | c :: r, h => by
  have h1 : c ≠ 47 := fun e => h (by simp [e])
  have h2 : (47 : UInt8) ∉ r := fun e => h (by simp [e])
  unfold sp
  rw [if_neg h1, sp_whole r h2]
theorem sp_append : ∀ (a b : List UInt8), sp (a ++ 47 :: b) = sp a ++ sp b
 | [], b => by simp [sp]
 | c :: r, b => by
  rw [List.cons_append, sp_cons, sp_cons]
  by_cases h : c = 47
  ·rw [if_pos h, if_pos h, sp_append r b]; rfl
  ·rw [if_neg h, if_neg h, sp_append r b]
   cases hs : sp r with
   | nil => exact absurd hs (sp_ne r)
   | cons x t => rfl
theorem indexByte_cases (l : List UInt8) (c : UInt8) : Lib.indexByte l c = -1 ∨ ∃ i : Nat, Lib.indexByte l c = i := by
 have := Lib.indexByte_ge l c
 by_cases h : Lib.indexByte l c = -1
 ·exact .inl h
 ·exact .inr ⟨(Lib.indexByte l c).toNat, by omega⟩
theorem splitK_sp : ∀ (k : Nat) (l : List UInt8), l.count 47 = k → Lib.splitK [47] 0 k l = sp l
 | 0, l, h => by
  rw [sp_whole l (by rw [← List.count_eq_zero]; exact h)]; rfl
 | k + 1, l, h => by
  have hm : (47 : UInt8) ∈ l := by
   apply Classical.byContradiction
   intro hn
   rw [List.count_eq_zero.2 hn] at h
   omega
  rcases (indexByte_cases l 47) with h1 | ⟨i, h1⟩
  ·exact absurd hm (by
    intro hm
    obtain ⟨j, hj⟩ := List.mem_iff_getElem?.1 hm
    exact Lib.indexByte_none h1 j hj)
  ·obtain ⟨h2, h3⟩ := Lib.indexByte_some h1
   have hi : i < l.length := (List.getElem?_eq_some_iff.1 h2).1
   have hl : l = l.take i ++ 47 :: l.drop (i + 1) := by
    have e : l.drop i = l[i] :: l.drop (i + 1) := List.drop_eq_getElem_cons hi
    have e2 : l[i] = 47 := by
     rw [List.getElem?_eq_getElem hi] at h2
     exact Option.some.inj h2
    rw [e2] at e
    rw [← e, List.take_append_drop]
   have hno : (47 : UInt8) ∉ l.take i := by
    intro hm
    obtain ⟨j, hj⟩ := List.mem_iff_getElem?.1 hm
    rw [List.getElem?_take] at hj
    split at hj
    ·exact h3 j (by assumption) hj
    ·cases hj
   have hc : (l.drop (i + 1)).count 47 = k := by
    rw [hl, List.count_append, List.count_eq_zero.2 hno, List.count_cons_self] at h
    omega
   have hx : Lib.index l [47] = i := by rw [Lib.index_one, h1]
   unfold Lib.splitK
   rw [hx, if_neg (by simp), Int.toNat_natCast, Nat.add_zero]
   rw [show [(47 : UInt8)].length = 1 from rfl, splitK_sp k _ hc]
   conv => rhs; rw [hl, sp_append, sp_whole _ hno]
   rfl
theorem ba_ext {x y : ByteArray} (h : x.data.toList = y.data.toList) : x = y := ByteArray.ext (Array.toList_inj.1 h)
theorem map_data_inj : ∀ {a b : List ByteArray}, a.map (·.data.toList) = b.map (·.data.toList) → a = b
 | [], [], _ => rfl
 | [], _ :: _, h => by simp at h
 | _ :: _, [], h => by simp at h
 | x :: a, y :: b, h => by
  simp only [List.map_cons, List.cons.injEq] at h
  rw [ba_ext h.1, map_data_inj h.2]
theorem pieces_data (s : ByteArray) : (dp_ s).map (·.data.toList) = sp s.data.toList := by
 unfold dp_
 rw [Lib.splitB_data]
 have e : Lib.countB s ⟨#[47]⟩ = s.data.toList.count 47 := by
  show Lib.count s.data.toList [47] = _
  rw [Lib.count_one]
 rw [e]
 exact splitK_sp _ _ rfl
theorem pieces_pos (s : ByteArray) : 1 ≤ (dp_ s).length := by rw [pieces_len]; omega
theorem pathOf_parts (s : ByteArray) : pathOf s = partsOk (dp_ s) := by
 unfold pathOf partsOk
 rw [decide_eq_true (pieces_pos s)]; rfl
theorem size_list (s : ByteArray) : s.data.toList.length = s.size := by rw [Array.length_toList]; rfl
theorem bt_list (s : ByteArray) (i : Nat) (h : i < s.size) : bt s (i : Int) = ((s.data.toList[i]'(by rw [size_list]; exact h)).toNat : Int) := by
 rw [← bt_at s i (by simpa using h)]
 rfl
theorem bt_47 (s : ByteArray) (i : Nat) (h : i < s.size) : bt s (i : Int) = 47 ↔ s.data.toList[i]? = some 47 := by
 rw [bt_list s i h, List.getElem?_eq_getElem (by rw [size_list]; exact h)]
 constructor
 ·intro e
  congr 1
  apply UInt8.toNat_inj.1
  have : (s.data.toList[i]'(by rw [size_list]; exact h)).toNat = 47 := by omega
  rw [this]; rfl
 ·intro e
  rw [Option.some.inj e]; rfl
theorem extract_list (s : ByteArray) (a b : Nat) : (s.extract a b).data.toList = (s.data.toList.take b).drop a := by
 rw [ByteArray.data_extract]; simp [List.drop_take]
theorem seg_no (l : List UInt8) (a b : Nat) (h : ∀ j, a ≤ j → j < b → l[j]? ≠ some 47) : (47 : UInt8) ∉ (l.take b).drop a := by
 intro hm
 obtain ⟨j, hj⟩ := List.mem_iff_getElem?.1 hm
 rw [List.getElem?_drop, List.getElem?_take] at hj
 split at hj
 ·exact h (a + j) (by omega) (by assumption) hj
 ·cases hj
theorem drop_seg (l : List UInt8) (a b : Nat) (hab : a ≤ b) (hb : b < l.length) (h47 : l[b]? = some 47) : l.drop a = (l.take b).drop a ++ 47 :: l.drop (b + 1) := by
 have e : l.drop b = l[b] :: l.drop (b + 1) := List.drop_eq_getElem_cons hb
 have e2 : l[b] = 47 := by
  rw [List.getElem?_eq_getElem hb] at h47
  exact Option.some.inj h47
 rw [e2] at e
 rw [← e]
 conv => lhs; rw [← List.take_append_drop b l]
 rw [List.drop_append_of_le_length (by rw [List.length_take]; omega)]
theorem split_l0 (s : ByteArray) (hs : s.size ≤ 100000) : ∀ (m k : Nat) (out : List ByteArray) (a i : Nat), m = s.size - i → i ≤ s.size → a ≤ i → out.length ≤ i → m + 2 ≤ k → (∀ j, a ≤ j → j < i → s.data.toList[j]? ≠ some 47) →
  ∃ R, az_.l0 k s out a i = some R ∧ R.map (·.data.toList) = out.map (·.data.toList) ++ sp (s.data.toList.drop a)
 | 0, k, out, a, i, hm, hi, ha, ho, hk, hno => by
  obtain ⟨k, rfl⟩ : ∃ k', k = k' + 1 + 1 := ⟨k - 2, by omega⟩
  have : i = s.size := by omega
  subst this
  refine ⟨out ++ [s.extract a s.size], ?_, ?_⟩
  ·unfold az_.l0
   rw [if_pos (by omega), if_pos rfl, if_pos (by omega), if_pos (by omega), if_pos (by omega)]
   rw [wz' (z := (s.size : Int) + 1) (y := ((s.size + 1 : Nat) : Int)) (by omega) (by omega) (by omega)]
   unfold az_.l0
   rw [if_neg (by omega)]
   rfl
  ·have h47 := seg_no s.data.toList a s.size hno
   rw [List.map_append, List.map_cons, List.map_nil, extract_list]
   have e : (s.data.toList.take s.size).drop a = s.data.toList.drop a := by rw [List.take_of_length_le (by rw [size_list]; exact Nat.le_refl _)]
   rw [e] at h47 ⊢
   rw [sp_whole _ h47]
 | m + 1, k, out, a, i, hm, hi, ha, ho, hk, hno => by
  obtain ⟨k, rfl⟩ : ∃ k', k = k' + 1 := ⟨k - 1, by omega⟩
  have hlt : i < s.size := by omega
  unfold az_.l0
  rw [if_pos (by omega), if_neg (by omega), if_pos (by omega), if_pos (by omega)]
  rw [wz' (z := (i : Int) + 1) (y := ((i + 1 : Nat) : Int)) (by omega) (by omega) (by omega)]
  by_cases h47 : bt s (i : Int) = 47
  ·rw [if_pos h47, if_pos (by omega), if_pos (by omega), if_pos (by omega)]
   obtain ⟨R, h1, h2⟩ := split_l0 s hs m k (out ++ [s.extract a i]) (i + 1) (i + 1) (by omega) (by omega) (Nat.le_refl _) (by simp; omega) (by omega) (fun j h1 h2 => by omega)
   refine ⟨R, h1, ?_⟩
   rw [h2, List.map_append, List.map_cons, List.map_nil, extract_list, drop_seg s.data.toList a i ha (by rw [size_list]; exact hlt) ((bt_47 s i hlt).1 h47), sp_append, sp_whole _ (seg_no s.data.toList a i hno), List.append_assoc]
  ·rw [if_neg h47]
   exact split_l0 s hs m k out a (i + 1) (by omega) (by omega) (by omega) (by omega) (by omega) (fun j h1 h2 => by
    by_cases e : j = i
    ·subst e; exact fun h => h47 ((bt_47 s j hlt).2 h)
    ·exact hno j h1 (by omega))
theorem split_f (s : ByteArray) (k : Nat) (hs : s.size ≤ 100000) (hk : s.size + 2 ≤ k) : az_.f k s = some (dp_ s) := by
 obtain ⟨R, h1, h2⟩ := split_l0 s hs s.size k [] 0 0 (by omega) (by omega) (Nat.le_refl _) (Nat.le_refl _) hk (fun j h1 h2 => by omega)
 unfold az_.f
 have h1' : az_.l0 k s [] 0 0 = some R := h1
 rw [h1']
 congr 1
 apply map_data_inj
 rw [h2, pieces_data]; rfl
theorem path_f (s : ByteArray) (k : Nat) (hs : s.size ≤ 10000) (hk : s.size + 20100 ≤ k) : ct_.f k s = some (pathOf s) := by
 have hl := pieces_len s
 have hc := Lib.countB_le ⟨#[47]⟩ (Nat.le_refl _) s.size s (Nat.le_refl _)
 unfold ct_.f
 rw [split_f s k (by omega) (by omega), Option.bind_some, parts_f _ k (by omega) (fun x hx => by have := pieces_size s x hx; omega) (by omega), Option.bind_some, pathOf_parts]
end Go.Proofs.YtlcfcaokihoplaaGreatDoor.PureRoute
namespace Go.Proofs.YtlcfcaokihoplaaGreatDoor.PureO
open Go.RowKit Go.Proofs.YtlcfcaokihoplaaGreatDoor.PureRoute Go.Proofs.YtlcfcaokihoplaaGreatDoor.MsgL Go.Proofs.YtlcfcaokihoplaaGreatDoor.OrderNK Go.Proofs.YtlcfcaokihoplaaGreatDoor.Route Go.Proofs.YtlcfcaokihoplaaGreatDoor.Ms Go.Proofs.YtlcfcaokihoplaaGreatDoor.Mw Go.Proofs.YzW.PrintWords Go.Proofs.YzW.PrintLast Go.Proofs.YzW.PrintMore
set_option linter.unusedSimpArgs false
set_option linter.unusedVariables false
theorem rput_l1 (ks : List ByteArray) (a0 a1 a2 a6 : Int) (nm pt : ByteArray) (hl : ks.length ≤ 100) (hs : ∀ x ∈ ks, x.size ≤ 5000) : ∀ (q k i : Nat) (acc : List Int), q = ks.length - i → i ≤ ks.length → acc.length + 5010 * q ≤ 1000000 → q + 20 ≤ k → aj_.l1 k acc i a0 a1 a2 nm pt ks a6 = some (acc ++ keysB (ks.drop i))
 | 0, k, i, acc, hq, hi, ha, hk => by
  obtain ⟨k, rfl⟩ : ∃ k', k = k' + 1 := ⟨k - 1, by omega⟩
  have : i = ks.length := by omega
  subst this
  unfold aj_.l1
  rw [if_neg (by omega), List.drop_length]
  simp [keysB]
 | q + 1, k, i, acc, hq, hi, ha, hk => by
  obtain ⟨k, rfl⟩ : ∃ k', k = k' + 1 := ⟨k - 1, by omega⟩
  have hlt : i < ks.length := by omega
  have hd : ks.drop i = ks[i] :: ks.drop (i + 1) := List.drop_eq_getElem_cons hlt
  have hsz := hs ks[i] (List.getElem_mem _)
  have htl := txt_len ks[i] hsz
  have ih := rput_l1 ks a0 a1 a2 a6 nm pt hl hs q k (i + 1) (acc ++ txt ks[i]) (by omega) (by omega) (by rw [List.length_append]; omega) (by omega)
  unfold aj_.l1
  rw [if_pos (by omega), if_pos (by omega), rdOf_get ks i hlt, reftext_f ks[i] (by omega) k (by omega), Option.bind_some, wz' (z := (i : Int) + 1) (y := ((i + 1 : Nat) : Int)) (by omega) (by omega) (by omega)]
  rw [show enc (ks[i]).size ++ bk_ ks[i] = txt ks[i] from rfl, if_pos (by omega), ih, hd]
  simp [keysB, List.append_assoc]
theorem rput_f (k c t d m : Nat) (nm pt : ByteArray) (ks : List ByteArray) (hc : c ≤ 1000000) (ht : t ≤ 1000000) (hd : d ≤ 1000000) (hm : m ≤ 1000000) (hn : nm.size ≤ 5000) (hp : pt.size ≤ 5000) (hl : ks.length ≤ 100) (hs : ∀ x ∈ ks, x.size ≤ 5000) :
  aj_.f (k + 200 + 1 + 1 + 1 + 1 + 1) c t d nm pt ks m = some (putB c t d m nm pt ks) := by
 have h1 := dr_ c hc
 have h2 := dr_ t ht
 have h3 := dr_ d hd
 have h4 := dr_ m hm
 have h5 := txt_len nm hn
 have h6 := txt_len pt hp
 have h7 := dr_ ks.length (by omega)
 have e1 : ∀ (K : Nat) (n : Nat), n ≤ 1000000 → 10 < K → av_.f K (IntKind.u64.wrap (n : Int)) = some (enc n) := fun K n h hK => by
  rw [wu h]; exact refnum_f n (by omega) K hK
 have e2 : ∀ (K : Nat) (s : ByteArray), s.size ≤ 5000 → 10 < K → bo_.f K s = some (txt s) := fun K s h hK => reftext_f s (by omega) K hK
 unfold aj_.f
 unfold aj_.l0
 rw [if_pos (by decide), if_pos (by decide), if_pos (by simp), show rd [(c : Int), (t : Int), (d : Int), (m : Int)] 0 = (c : Int) from rfl, e1 _ c hc (by omega), Option.bind_some, if_pos (by simp; omega), show wrap64 (0 + 1) = 1 from wz' (by decide) (by decide) (by decide)]
 unfold aj_.l0
 rw [if_pos (by decide), if_pos (by decide), if_pos (by simp), show rd [(c : Int), (t : Int), (d : Int), (m : Int)] 1 = (t : Int) from rfl, e1 _ t ht (by omega), Option.bind_some, if_pos (by simp; omega), show wrap64 (1 + 1) = 2 from wz' (by decide) (by decide) (by decide)]
 unfold aj_.l0
 rw [if_pos (by decide), if_pos (by decide), if_pos (by simp), show rd [(c : Int), (t : Int), (d : Int), (m : Int)] 2 = (d : Int) from rfl, e1 _ d hd (by omega), Option.bind_some, if_pos (by simp; omega), show wrap64 (2 + 1) = 3 from wz' (by decide) (by decide) (by decide)]
 unfold aj_.l0
 rw [if_pos (by decide), if_pos (by decide), if_pos (by simp), show rd [(c : Int), (t : Int), (d : Int), (m : Int)] 3 = (m : Int) from rfl, e1 _ m hm (by omega), Option.bind_some, if_pos (by simp; omega), show wrap64 (3 + 1) = 4 from wz' (by decide) (by decide) (by decide)]
 unfold aj_.l0
 rw [if_neg (by decide), e2 _ nm hn (by omega), Option.bind_some, if_pos (by simp; omega), Option.bind_some, e2 _ pt hp (by omega), Option.bind_some, if_pos (by simp; omega), Option.bind_some, e1 _ ks.length (by omega) (by omega), Option.bind_some, if_pos (by simp; omega)]
 have := rput_l1 ks c t d m nm pt hl hs ks.length (k + 200) 0 ([] ++ enc c ++ enc t ++ enc d ++ enc m ++ txt nm ++ txt pt ++ enc ks.length) (by omega) (by omega) (by simp; omega) (by omega)
 rw [show ((0 : Nat) : Int) = 0 from rfl] at this
 rw [this, List.drop_zero]
 simp [putB, headB, List.append_assoc]
theorem dec_inside (s : ByteArray) (p : Nat) (hp : p < s.size) (i : Nat) (h1 : 1 ≤ i) (hi : i < (Utf8.decode s p).2) : p + i < s.size ∧ 128 ≤ (s.get! (p + i)).toNat := by
 have D := dec_eq s p _ _ _ _ rfl rfl rfl rfl
 rw [D] at hi
 split at hi
 ·simp at hi; omega
 ·split at hi
  ·rename_i h
   simp only [Bool.and_eq_true, beq_iff_eq, decide_eq_true_eq] at h
   split at hi
   ·have : i = 1 := by simp at hi; omega
    subst this
    exact ⟨h.2.1, by have := h.2.2; omega⟩
   ·simp at hi; omega
  ·split at hi
   ·rename_i h
    simp only [Bool.and_eq_true, beq_iff_eq, decide_eq_true_eq] at h
    split at hi
    ·have : i = 1 ∨ i = 2 := by simp at hi; omega
     rcases this with rfl | rfl
     ·exact ⟨h.1.2.1, by have := h.1.2.2; omega⟩
     ·exact ⟨h.2.1, by have := h.2.2; omega⟩
    ·simp at hi; omega
   ·split at hi
    ·rename_i h
     simp only [Bool.and_eq_true, beq_iff_eq, decide_eq_true_eq] at h
     split at hi
     ·have : i = 1 ∨ i = 2 ∨ i = 3 := by simp at hi; omega
      rcases this with rfl | rfl | rfl
      ·exact ⟨h.1.1.2.1, by have := h.1.1.2.2; omega⟩
      ·exact ⟨h.1.2.1, by have := h.1.2.2; omega⟩
      ·exact ⟨h.2.1, by have := h.2.2; omega⟩
     ·simp at hi; omega
    ·simp at hi; omega
theorem get_list (s : ByteArray) (j : Nat) (h : j < s.size) : s.data.toList[j]? = some (s.get! j) := by
 rw [List.getElem?_eq_getElem (by rw [size_list]; exact h)]
 congr 1
 have e : s.get! j = s[j]'h := by
  simp [ByteArray.get!, getElem!_pos, h]
  rfl
 rw [e]; rfl
theorem runes_no47 (s : ByteArray) : ∀ (b pos n : Nat), s.size ≤ pos + b → bt_ s b pos = some n → ∀ j, pos ≤ j → s.data.toList[j]? ≠ some 47
 | 0, pos, n, hb, h, j, hj => by
  rw [List.getElem?_eq_none (by rw [size_list]; omega)]; simp
 | b + 1, pos, n, hb, h, j, hj => by
  by_cases hp : pos < s.size
  ·have hr : bt_ s (b + 1) pos = (if runeOk (Utf8.decode s pos).1 = true then (bt_ s b (pos + (Utf8.decode s pos).2)).map (· + 1) else none) := by
    conv => lhs; unfold bt_
    rw [if_pos hp]
   rw [hr] at h
   split at h
   ·rename_i hk
    obtain ⟨n', hn', _⟩ := Option.map_eq_some_iff.1 h
    have hw := width_pos s pos hp
    by_cases hin : j < pos + (Utf8.decode s pos).2
    ·by_cases e : j = pos
     ·subst e
      rw [get_list s j hp]
      intro e2
      have e3 : (s.get! j).toNat = 47 := by rw [Option.some.inj e2]; rfl
      have D := dec_eq s j _ _ _ _ rfl rfl rfl rfl
      rw [if_pos (by omega)] at D
      rw [D, e3] at hk
      exact absurd hk (by decide)
     ·obtain ⟨h1, h2⟩ := dec_inside s pos hp (j - pos) (by omega) (by omega)
      have e2 : pos + (j - pos) = j := by omega
      rw [e2] at h1 h2
      rw [get_list s j h1]
      intro e3
      rw [Option.some.inj e3] at h2
      exact absurd h2 (by decide)
    ·exact runes_no47 s b (pos + (Utf8.decode s pos).2) n' (by omega) hn' j (by omega)
   ·cases h
  ·rw [List.getElem?_eq_none (by rw [size_list]; omega)]; simp
theorem part_no47 (s : ByteArray) (h : dy_ s = true) : (47 : UInt8) ∉ s.data.toList := by
 unfold dy_ at h
 cases hr : bt_ s s.size 0 with
 | none => rw [hr] at h; cases h
 | some n =>
  intro hm
  obtain ⟨j, hj⟩ := List.mem_iff_getElem?.1 hm
  exact runes_no47 s s.size 0 n (by omega) hr j (Nat.zero_le _) hj
theorem name_part (s : ByteArray) : nameOf s = dy_ s := by
 unfold nameOf
 by_cases h47 : (47 : UInt8) ∈ s.data.toList
 ·have h1 : dy_ s = false := by
   cases h : dy_ s with
   | false => rfl
   | true => exact absurd h47 (part_no47 s h)
  have h2 : 0 ≤ Lib.indexByte s.data.toList 47 := by
   rcases indexByte_cases s.data.toList 47 with h | ⟨i, h⟩
   ·obtain ⟨j, hj⟩ := List.mem_iff_getElem?.1 h47
    exact absurd hj (Lib.indexByte_none h j)
   ·omega
  rw [h1, decide_eq_true h2]; simp
 ·have h2 : ¬ 0 ≤ Lib.indexByte s.data.toList 47 := by
   rcases indexByte_cases s.data.toList 47 with h | ⟨i, h⟩
   ·omega
   ·have := (Lib.indexByte_some h).1
    exact absurd (List.mem_iff_getElem?.2 ⟨i, this⟩) h47
  have hp : dp_ s = [s] := by
   apply map_data_inj
   rw [pieces_data, sp_whole _ h47]; rfl
  rw [decide_eq_false h2]
  unfold pathOf
  rw [hp]
  simp
theorem j2_t (k : Nat) (a b : Bool) (kd n : Int) (nm pt : ByteArray) (ks : List ByteArray) : aa_.j2 (k + 1) a b kd true kd nm pt ks n = some (a && decide (pt.toList = []) && decide ((ks.length : Int) = 0) && (n == 0)) := by
 rw [aa_.j2, if_pos rfl]
 cases a with
 | false => rfl
 | true =>
  rw [if_pos rfl]
  by_cases e2 : pt.toList = []
  ·rw [if_pos e2, decide_eq_true e2]
   by_cases e3 : (ks.length : Int) = 0
   ·rw [if_pos e3, decide_eq_true e3]; rfl
   ·rw [if_neg e3, decide_eq_false e3]; rfl
  ·rw [if_neg e2, decide_eq_false e2]; rfl
theorem j2_2 (k : Nat) (a b : Bool) (n : Int) (nm pt : ByteArray) (ks : List ByteArray) : aa_.j2 (k + 1) a b 2 false 2 nm pt ks n = some (a && b && (n == 0)) := by
 rw [aa_.j2, if_neg (by decide), if_pos rfl]
 cases a <;> cases b <;> simp
theorem j2_6 (k : Nat) (a b : Bool) (n : Int) (nm pt : ByteArray) (ks : List ByteArray) : aa_.j2 (k + 1) a b 6 false 6 nm pt ks n = some (a && b && decide ((ks.length : Int) = 0) && (n == 0)) := by
 rw [aa_.j2, if_neg (by decide), if_neg (by decide), if_pos rfl]
 cases a with
 | false => rfl
 | true =>
  rw [if_pos rfl]
  cases b with
  | false => rfl
  | true =>
   rw [if_pos rfl]
   by_cases e3 : (ks.length : Int) = 0
   ·rw [if_pos e3, decide_eq_true e3]; rfl
   ·rw [if_neg e3, decide_eq_false e3]; rfl
theorem j2_8 (k : Nat) (a b : Bool) (n : Int) (nm pt : ByteArray) (ks : List ByteArray) : aa_.j2 (k + 1) a b 8 false 8 nm pt ks n = some (decide (nm.toList = []) && decide (pt.toList = []) && decide ((ks.length : Int) = 0)) := by
 rw [aa_.j2, if_neg (by decide), if_neg (by decide), if_neg (by decide), if_pos rfl]
 by_cases e1 : nm.toList = []
 ·rw [if_pos e1, decide_eq_true e1]
  by_cases e2 : pt.toList = []
  ·rw [if_pos e2, decide_eq_true e2]
   by_cases e3 : (ks.length : Int) = 0
   ·rw [decide_eq_true e3, beq_iff_eq.2 e3]; rfl
   ·rw [decide_eq_false e3, beq_eq_false_iff_ne.2 e3]; rfl
  ·rw [if_neg e2, decide_eq_false e2]; rfl
 ·rw [if_neg e1, decide_eq_false e1]; rfl
theorem j2_o (k : Nat) (a b : Bool) (kd n : Int) (nm pt : ByteArray) (ks : List ByteArray) (h2 : kd ≠ 2) (h6 : kd ≠ 6) (h8 : kd ≠ 8) : aa_.j2 (k + 1) a b kd false kd nm pt ks n = some (decide (nm.toList = []) && decide (pt.toList = []) && decide ((ks.length : Int) = 0) && (n == 0)) := by
 rw [aa_.j2, if_neg (by decide), if_neg h2, if_neg h6, if_neg h8]
 by_cases e1 : nm.toList = []
 ·rw [if_pos e1, decide_eq_true e1]
  by_cases e2 : pt.toList = []
  ·rw [if_pos e2, decide_eq_true e2]
   by_cases e3 : (ks.length : Int) = 0
   ·rw [if_pos e3, decide_eq_true e3]; rfl
   ·rw [if_neg e3, decide_eq_false e3]; rfl
  ·rw [if_neg e2, decide_eq_false e2]; rfl
 ·rw [if_neg e1, decide_eq_false e1]; rfl
theorem refop_j2 (k : Nat) (kd n : Int) (nm pt : ByteArray) (ks : List ByteArray) (h1 : 1 ≤ kd) (h9 : kd ≤ 9) :
  (if kd = 1 then (aa_.j2 (k + 1) (nameOf nm) (pathOf pt) kd (kd == 1) kd nm pt ks n) else (if kd = 3 then (aa_.j2 (k + 1) (nameOf nm) (pathOf pt) kd (kd == 3) kd nm pt ks n) else (if kd = 4 then (aa_.j2 (k + 1) (nameOf nm) (pathOf pt) kd (kd == 4) kd nm pt ks n) else (aa_.j2 (k + 1) (nameOf nm) (pathOf pt) kd (kd == 7) kd nm pt ks n)))) = some (opBody kd nm pt ks n) := by
 unfold opBody
 generalize nameOf nm = a
 generalize pathOf pt = b
 rcases nine h1 h9 with rfl | rfl | rfl | rfl | rfl | rfl | rfl | rfl | rfl
 ·rw [if_pos rfl, show ((1 : Int) == 1) = true from rfl, j2_t, if_neg (by decide), if_neg (by decide), if_neg (by decide), if_neg (by decide)]
 ·rw [if_neg (by decide), if_neg (by decide), if_neg (by decide), show ((2 : Int) == 7) = false from rfl, j2_2, if_pos rfl]
 ·rw [if_neg (by decide), if_pos rfl, show ((3 : Int) == 3) = true from rfl, j2_t, if_neg (by decide), if_neg (by decide), if_neg (by decide), if_neg (by decide)]
 ·rw [if_neg (by decide), if_neg (by decide), if_pos rfl, show ((4 : Int) == 4) = true from rfl, j2_t, if_neg (by decide), if_neg (by decide), if_neg (by decide), if_neg (by decide)]
 ·rw [if_neg (by decide), if_neg (by decide), if_neg (by decide), show ((5 : Int) == 7) = false from rfl, j2_o _ _ _ _ _ _ _ _ (by decide) (by decide) (by decide), if_neg (by decide), if_neg (by decide), if_neg (by decide), if_pos (by decide)]
 ·rw [if_neg (by decide), if_neg (by decide), if_neg (by decide), show ((6 : Int) == 7) = false from rfl, j2_6, if_neg (by decide), if_pos rfl]
 ·rw [if_neg (by decide), if_neg (by decide), if_neg (by decide), show ((7 : Int) == 7) = true from rfl, j2_t, if_neg (by decide), if_neg (by decide), if_neg (by decide), if_neg (by decide)]
 ·rw [if_neg (by decide), if_neg (by decide), if_neg (by decide), show ((8 : Int) == 7) = false from rfl, j2_8, if_neg (by decide), if_neg (by decide), if_pos rfl]
 ·rw [if_neg (by decide), if_neg (by decide), if_neg (by decide), show ((9 : Int) == 7) = false from rfl, j2_o _ _ _ _ _ _ _ _ (by decide) (by decide) (by decide), if_neg (by decide), if_neg (by decide), if_neg (by decide), if_pos (by decide)]
theorem refop_l0 (kd n : Int) (nm pt : ByteArray) (ks : List ByteArray) (hn : nm.size ≤ 5000) (hp : pt.size ≤ 5000) (hl : ks.length ≤ 16) (h1 : 1 ≤ kd) (h9 : kd ≤ 9) : ∀ (q k i : Nat), q = ks.length - i → i ≤ ks.length → q + 40000 ≤ k → aa_.l0 k i kd nm pt ks n = some (!((ks.drop i).any keyBad) && opBody kd nm pt ks n)
 | 0, k, i, hq, hi, hk => by
  obtain ⟨k, rfl⟩ : ∃ k', k = k' + 1 + 1 := ⟨k - 2, by omega⟩
  have : i = ks.length := by omega
  subst this
  unfold aa_.l0
  rw [if_neg (by omega), List.drop_length]
  unfold dj_.f
  rw [part_f nm (k + 1) (by omega) (by omega), Option.bind_some, Option.bind_some, path_f pt (k + 1) (by omega) (by omega), Option.bind_some, ← name_part, refop_j2 k kd n nm pt ks h1 h9]
  rfl
 | q + 1, k, i, hq, hi, hk => by
  obtain ⟨k, rfl⟩ : ∃ k', k = k' + 1 := ⟨k - 1, by omega⟩
  have hlt : i < ks.length := by omega
  have hd : ks.drop i = ks[i] :: ks.drop (i + 1) := List.drop_eq_getElem_cons hlt
  have ih := refop_l0 kd n nm pt ks hn hp hl h1 h9 q k (i + 1) (by omega) (by omega) (by omega)
  unfold aa_.l0
  rw [if_pos (by omega), if_pos (by omega), rdOf_get ks i hlt, wz' (z := (i : Int) + 1) (y := ((i + 1 : Nat) : Int)) (by omega) (by omega) (by omega), hd, List.any_cons]
  by_cases g1 : (ks[i]).size < 1
  ·rw [if_pos (by omega), show keyBad ks[i] = true from by unfold keyBad; rw [decide_eq_true g1]; rfl]; rfl
  ·rw [if_neg (by omega)]
   by_cases g2 : 64 < (ks[i]).size
   ·rw [if_pos (by omega), show keyBad ks[i] = true from by unfold keyBad; rw [decide_eq_true g2]; simp]; rfl
   ·rw [if_neg (by omega), ih, show keyBad ks[i] = false from by unfold keyBad; rw [decide_eq_false g1, decide_eq_false g2]; rfl]; rfl
theorem refop_f (k : Nat) (kd n : Int) (nm pt : ByteArray) (ks : List ByteArray) (hn : nm.size ≤ 5000) (hp : pt.size ≤ 5000) (hk : 50000 ≤ k) : aa_.f k kd nm pt ks n = some (opOk kd nm pt ks n) := by
 obtain ⟨k, rfl⟩ : ∃ k', k = k' + 1 := ⟨k - 1, by omega⟩
 unfold aa_.f opOk keysOk
 by_cases h1 : 1 ≤ kd
 ·rw [if_neg (by omega), decide_eq_true h1]
  by_cases h9 : kd ≤ 9
  ·rw [if_neg (by omega), decide_eq_true h9]
   by_cases h0 : 0 ≤ n
   ·rw [if_neg (by omega), decide_eq_true h0]
    by_cases h100 : n ≤ 100
    ·rw [if_neg (by omega), decide_eq_true h100]
     by_cases h16 : ks.length ≤ 16
     ·rw [decide_eq_true h16, decide_eq_false (by omega : ¬ (ks.length : Int) > 16)]
      simp only [aa_.j0, Bool.false_eq_true, if_false, Bool.true_and]
      have := refop_l0 kd n nm pt ks hn hp h16 h1 h9 ks.length k 0 (by omega) (by omega) (by omega)
      rw [List.drop_zero, show ((0 : Nat) : Int) = 0 from rfl] at this
      exact this
     ·rw [decide_eq_false h16, decide_eq_true (by omega : (ks.length : Int) > 16)]
      simp [aa_.j0]
    ·rw [if_pos (by omega), decide_eq_false h100]
     simp [aa_.j0]
   ·rw [if_pos (by omega), decide_eq_false h0]
    simp [aa_.j0]
  ·rw [if_pos (by omega), decide_eq_false h9]
   simp [aa_.j0]
 ·rw [if_pos (by omega), decide_eq_false h1]
  simp [aa_.j0]
theorem refmay_f (k : Nat) (c t d : Int) (nm pt : ByteArray) (ks : List ByteArray) (n : Int) (hn : nm.size ≤ 5000) (hp : pt.size ≤ 5000) (hk : 50000 ≤ k) : ds_.f k c t d nm pt ks n = some (mayB c t d nm pt ks n) := by
 unfold ds_.f mayB
 rw [refop_f k d n nm pt ks hn hp hk, Option.bind_some]
 generalize opOk d nm pt ks n = o
 cases o with
 | false => simp
 | true =>
  rw [if_pos rfl]
  by_cases h1 : 0 ≤ c
  ·rw [if_pos (by omega), decide_eq_true h1]
   by_cases h2 : c ≤ 7
   ·rw [if_pos (by omega), decide_eq_true h2]
    by_cases h3 : 1 ≤ t
    ·rw [if_pos (by omega), decide_eq_true h3]; simp
    ·rw [if_neg (by omega), decide_eq_false h3]; simp
   ·rw [if_neg (by omega), decide_eq_false h2]; simp
  ·rw [if_neg (by omega), decide_eq_false h1]; simp
end Go.Proofs.YtlcfcaokihoplaaGreatDoor.PureO
