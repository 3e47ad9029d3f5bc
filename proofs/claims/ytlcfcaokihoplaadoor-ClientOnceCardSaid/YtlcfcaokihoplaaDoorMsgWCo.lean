-- Cut by a program of this session (wip/shake.py) out of a text of this seat: what this claim doesn't reach is struck out. Lean checks it.
import Derived.Test.YtlcfcaokihoplaaDoorMwxCo
import Derived.Laws.BitsLemmas
import Derived.Laws.Bits64
namespace Go.Proofs.YtlcfcaokihoplaaDoor.MsgL
open Go.RowKit Go.Proofs.YtlcfcaokihoplaaDoor.Mw Go.Proofs.YtlcfcaokihoplaaDoorW.PrintWords Go.Proofs.YtlcfcaokihoplaaDoorW.PrintLast Go.Proofs.YtlcfcaokihoplaaDoorW.PrintMore
set_option linter.unusedVariables false
set_option linter.unusedSimpArgs false
def enc (n : Nat) : List Int := if n < 128 then [(n : Int)] else ((n % 128 + 128 : Nat) : Int) :: enc (n / 128)
termination_by n
decreasing_by omega
theorem enc_small {n : Nat} (h : n < 128) : enc n = [(n : Int)] := by rw [enc, if_pos h]
theorem enc_more {n : Nat} (h : ¬ n < 128) : enc n = ((n % 128 + 128 : Nat) : Int) :: enc (n / 128) := by rw [enc, if_neg h]
theorem enc_len (j : Nat) : ∀ n : Nat, n < 128 ^ (j + 1) → (enc n).length ≤ j + 1 := by
  induction j with
  | zero => intro n h; rw [enc_small (by simpa using h)]; simp
  | succ j ih =>
    intro n h
    by_cases hn : n < 128
    · rw [enc_small hn]; simp
    · rw [enc_more hn, List.length_cons]
      have := ih (n / 128) (by rw [Nat.div_lt_iff_lt_mul (by decide)]; rw [Nat.pow_succ] at h; exact h)
      omega
theorem enc_pos (n : Nat) : 0 < (enc n).length := by
  by_cases hn : n < 128
  · rw [enc_small hn]; simp
  · rw [enc_more hn]; simp
def bytesOk (l : List Int) : Prop := ∀ x ∈ l, 0 ≤ x ∧ x ≤ 255
theorem pow70 {n : Nat} (h : n < 18446744073709551616) : n < 128 ^ (9 + 1) := Nat.lt_trans h (by decide)
theorem or128 : ∀ m : Fin 256, Go.bits .or .u8 ((m.val : Nat) : Int) 128 = ((m.val % 128 + 128 : Nat) : Int) := by decide +kernel
theorem wu64 {x : Int} (h0 : 0 ≤ x) (h1 : x < 18446744073709551616) : IntKind.u64.wrap x = x := by rw [IntKind.wrap_u64]; omega
theorem num_l (j : Nat) : ∀ (n : Nat) (acc : List Int) (k : Nat), n < 128 ^ (j + 1) → j < k → acc.length + j < 140737488355327 → wire_Num.l0 k (n : Int) acc = some (acc ++ enc n) := by
  induction j with
  | zero =>
    intro n acc k h hk hl
    obtain ⟨k, rfl⟩ : ∃ m, k = m + 1 := ⟨k - 1, by omega⟩
    have hn : n < 128 := by simpa using h
    simp only [wire_Num.l0]
    rw [if_neg (by omega), if_pos (by omega), enc_small hn, show ((n : Int) % 256) = (n : Int) from by omega]
  | succ j ih =>
    intro n acc k h hk hl
    obtain ⟨k, rfl⟩ : ∃ m, k = m + 1 := ⟨k - 1, by omega⟩
    simp only [wire_Num.l0]
    by_cases hn : n < 128
    · rw [if_neg (by omega), if_pos (by omega), enc_small hn, show ((n : Int) % 256) = (n : Int) from by omega]
    · have e := or128 ⟨n % 256, Nat.mod_lt _ (by decide)⟩
      simp only at e
      rw [if_pos (by omega), if_pos (by omega), show ((n : Int) / 128) = ((n / 128 : Nat) : Int) from by omega, show ((n : Int) % 256) = ((n % 256 : Nat) : Int) from by omega, e,
        ih (n / 128) _ k (by rw [Nat.div_lt_iff_lt_mul (by decide)]; rw [Nat.pow_succ] at h; exact h) (by omega) (by simp; omega), enc_more hn, show n % 256 % 128 = n % 128 from by omega]
      simp
theorem num_f (l : List Int) (n : Nat) (hn : n < 18446744073709551616) (hl : l.length < 140737488355300) (k : Nat) (hk : 10 < k) : wire_Num.f k l (n : Int) = some (l ++ enc n) := by
  unfold wire_Num.f slices_Clone_byte_byte.f
  rw [if_pos (by omega)]; simp only [Option.bind_some]
  exact num_l 9 n l k (pow70 hn) (by omega) (by omega)
theorem size_wrap (s : ByteArray) (hs : s.size ≤ 140737488351232) : IntKind.u64.wrap (s.size : Int) = ((s.size : Nat) : Int) := wu64 (by omega) (by omega)
theorem text_f (l : List Int) (s : ByteArray) (hs : s.size ≤ 140737488351232) (hl : l.length + s.size < 140737488355300) (k : Nat) (hk : 10 < k) : wire_Text.f k l s = some (l ++ enc s.size ++ bytesOf s) := by
  unfold wire_Text.f
  rw [size_wrap s hs, num_f l s.size (by omega) (by omega) k hk]; simp only [Option.bind_some]
  have := enc_len 9 s.size (pow70 (by omega))
  rw [if_pos (by rw [List.length_append]; omega)]
theorem or_swap (k : IntKind) (j : Nat) (hj : j ≤ k.bits) (hk : ∀ n : Int, 0 ≤ n → n < 2 ^ j → k.wrap n = n) (x y : Int) (hx0 : 0 ≤ x) (hx : x < 2 ^ j) (hy0 : 0 ≤ y) (hy : y < 2 ^ j) : Go.bits .or k x y = Go.bits .or k y x := by
  obtain ⟨a, rfl⟩ := Int.eq_ofNat_of_zero_le hx0
  obtain ⟨b, rfl⟩ := Int.eq_ofNat_of_zero_le hy0
  have ha : a < 2 ^ j := by exact_mod_cast hx
  have hb : b < 2 ^ j := by exact_mod_cast hy
  rw [(bits_nat k j hj hk a b ha hb).2, (bits_nat k j hj hk b a hb ha).2, Nat.or_comm]
theorem wraps64 (n : Int) (h0 : 0 ≤ n) (h1 : n < 2 ^ 64) : IntKind.u64.wrap n = n := wu64 h0 (by simpa using h1)
theorem and127 : ∀ m : Fin 256, Go.bits .and .u8 ((m.val : Nat) : Int) 127 = ((m.val % 128 : Nat) : Int) := by decide +kernel
theorem pow_le64 (i : Nat) (hi : i ≤ 8) : (2 : Int) ^ (7 * i) ≤ 72057594037927936 := by
  have h : 2 ^ (7 * i) ≤ 2 ^ 56 := Nat.pow_le_pow_right (by decide) (by omega)
  have h2 : (2 : Int) ^ (7 * i) ≤ 2 ^ 56 := by exact_mod_cast h
  have e : (2 : Int) ^ 56 = 72057594037927936 := by decide
  rw [e] at h2; exact h2
theorem pow128 (i : Nat) : (128 : Int) ^ i = 2 ^ (7 * i) := by rw [Int.pow_mul]; rfl
theorem or_shl (i : Nat) (hi : i ≤ 9) (n a : Int) (hn0 : 0 ≤ n) (hn : n < 128 ^ i) (ha0 : 0 ≤ a) (ha : a < 128) (h9 : i = 9 → a ≤ 1) : Go.bits .or .u64 n (shl .u64 a (7 * (i : Int))) = n + a * 128 ^ i := by
  have hp : (0 : Int) < 2 ^ (7 * i) := Int.pow_pos (by decide)
  have hlt : a * 2 ^ (7 * i) < 2 ^ 64 := by
    by_cases h : i = 9
    · subst h
      have := h9 rfl
      have e : (2 : Int) ^ (7 * 9) = 9223372036854775808 := by decide
      rw [e]; omega
    · have := pow_le64 i (by omega)
      have h2 : a * 2 ^ (7 * i) ≤ 127 * 72057594037927936 := Int.mul_le_mul (by omega) this (by omega) (by omega)
      omega
  have h0 : 0 ≤ a * 2 ^ (7 * i) := Int.mul_nonneg ha0 (by omega)
  have e1 : shl .u64 a (7 * (i : Int)) = a * 2 ^ (7 * i) := by
    unfold shl
    have : min (7 * (i : Int)).toNat (IntKind.u64.bits) = 7 * i := by simp [IntKind.bits]; omega
    rw [this]
    exact wraps64 _ h0 hlt
  have hn2 : n < 2 ^ (7 * i) := by rw [← pow128]; exact hn
  have hple : (2 : Int) ^ (7 * i) ≤ 2 ^ 64 := by
    have h : 2 ^ (7 * i) ≤ 2 ^ 64 := Nat.pow_le_pow_right (by decide) (by omega)
    exact_mod_cast h
  rw [e1, pow128, or_swap .u64 64 (by decide) wraps64 n _ hn0 (by omega) h0 hlt,
    bits_join .u64 64 (by decide) wraps64 (7 * i) (a * 2 ^ (7 * i)) n h0 (Int.mul_emod_left _ _) hlt hn0 hn2 (by omega), Int.add_comm]
def gn (most : Int) : Nat → Int → List Int → Int × Int × Option Int
  | _, _, [] => (0, 0, some 2)
  | i, n, x :: xs => if 10 ≤ i ∨ (x = 0 ∧ 0 < i) ∨ (1 < x ∧ i = 9) then (0, 0, some 2) else
      if x ≥ 128 then gn most (i + 1) (n + x % 128 * 128 ^ i) xs else if n + x % 128 * 128 ^ i > most then (0, 0, some 7) else (n + x % 128 * 128 ^ i, (i : Int) + 1, none)
def gat (at_ : Int) (r : Int × Int × Option Int) : Int × Int × Option Int := if r.2.2.isNone = true then (r.1, at_ + r.2.1, none) else r
theorem rd_at (xs : List Int) (i : Nat) : rd xs (i : Int) = xs.getD i 0 := rfl
theorem drop_cons (xs : List Int) (i : Nat) (h : i < xs.length) : xs.drop i = xs.getD i 0 :: xs.drop (i + 1) := by
  rw [List.drop_eq_getElem_cons h]
  simp [List.getD, h]
theorem mem_getD (xs : List Int) (i : Nat) (h : i < xs.length) : xs.getD i 0 ∈ xs := by
  simp [List.getD, h]
theorem getnum_l (most at_ : Int) (xs : List Int) (hb : bytesOk xs) (h0 : 0 ≤ at_) (h1 : at_ + xs.length ≤ 140737488355328) (d : Nat) : ∀ (i : Nat) (n : Int) (k : Nat), i + d = xs.length → 2 * d + 1 < k → 0 ≤ n → (i ≤ 10 → n < 128 ^ i) →
    wire_GetNum.l0 k at_ most n xs (xs.length : Int) (i : Int) = some (gat at_ (gn most i n (xs.drop i))) := by
  induction d with
  | zero =>
    intro i n k hd hk hn0 hn
    obtain ⟨k, rfl⟩ : ∃ m, k = m + 1 := ⟨k - 1, by omega⟩
    simp only [wire_GetNum.l0]
    rw [if_neg (by omega), List.drop_eq_nil_of_le (by omega)]
    rfl
  | succ d ih =>
    intro i n k hd hk hn0 hn
    obtain ⟨k, rfl⟩ : ∃ m, k = m + 1 + 1 := ⟨k - 2, by omega⟩
    have hi : i < xs.length := by omega
    have hx := hb _ (mem_getD xs i hi)
    simp only [wire_GetNum.l0]
    rw [if_pos (by omega), if_pos (by omega), if_pos (by omega), rd_at, drop_cons xs i hi]
    generalize xs.getD i 0 = x at hx ⊢
    have stop : (10 ≤ i ∨ (x = 0 ∧ 0 < i) ∨ (1 < x ∧ i = 9)) → wire_GetNum.j2 (k + 1) at_ most n (i : Int) x xs (xs.length : Int) (i : Int) true = some (gat at_ (gn most i n (x :: xs.drop (i + 1)))) := by
      intro h
      simp only [wire_GetNum.j2, gn, if_true]
      rw [if_pos h]; rfl
    have step : ¬ (10 ≤ i ∨ (x = 0 ∧ 0 < i) ∨ (1 < x ∧ i = 9)) → wire_GetNum.j2 (k + 1) at_ most n (i : Int) x xs (xs.length : Int) (i : Int) false = some (gat at_ (gn most i n (x :: xs.drop (i + 1)))) := by
      intro h
      have hi9 : i ≤ 9 := by omega
      have e1 : wrap64 (7 * (i : Int)) = 7 * (i : Int) := by unfold wrap64; omega
      have e2 : IntKind.u64.wrap (Go.bits .and .u8 x 127) = x % 128 := by
        obtain ⟨m, rfl⟩ := Int.eq_ofNat_of_zero_le hx.1
        have := and127 ⟨m, by omega⟩
        simp only at this
        rw [this, wu64 (by omega) (by omega)]; omega
      have e3 : Go.bits .or .u64 n (shl .u64 (x % 128) (7 * (i : Int))) = n + x % 128 * 128 ^ i := or_shl i hi9 n (x % 128) hn0 (hn (by omega)) (by omega) (by omega) (by omega)
      simp only [wire_GetNum.j2, gn]
      rw [if_neg (by decide), e1, if_pos (by omega), e2, e3, if_neg h]
      by_cases hx128 : x ≥ 128
      · rw [if_pos hx128, if_pos hx128, show wrap64 ((i : Int) + 1) = ((i + 1 : Nat) : Int) from by unfold wrap64; omega]
        refine ih (i + 1) _ k (by omega) (by omega) ?_ ?_
        · exact Int.add_nonneg hn0 (Int.mul_nonneg (by omega) (Int.pow_nonneg (by decide)))
        · intro _
          have hp := hn (by omega)
          have hle : x % 128 * 128 ^ i ≤ 127 * 128 ^ i := Int.mul_le_mul_of_nonneg_right (by omega) (Int.pow_nonneg (by decide))
          rw [Int.pow_succ]; omega
      · rw [if_neg hx128, if_neg hx128]
        by_cases hm : n + x % 128 * 128 ^ i > most
        · rw [if_pos hm, if_pos hm]; rfl
        · rw [if_neg hm, if_neg hm]
          simp only [gat, Option.isNone_none, if_true]
          rw [show wrap64 (at_ + (i : Int)) = at_ + (i : Int) from by unfold wrap64; omega, show wrap64 (at_ + (i : Int) + 1) = at_ + ((i : Int) + 1) from by unfold wrap64; omega]
    by_cases h10 : (i : Int) ≥ 10
    · rw [if_pos h10]; exact stop (by omega)
    rw [if_neg h10]
    by_cases hz : x = 0
    · rw [if_pos hz]
      by_cases hi0 : (i : Int) > 0
      · rw [if_pos hi0]; exact stop (by omega)
      · rw [if_neg hi0, if_neg (by omega)]; exact step (by omega)
    · rw [if_neg hz]
      by_cases hx1 : x > 1
      · rw [if_pos hx1]
        by_cases h9 : i = 9
        · subst h9
          exact stop (by omega)
        · rw [show ((i : Int) == 9) = false from by simp; omega]; exact step (by omega)
      · rw [if_neg hx1]; exact step (by omega)
theorem getnum_f (l : List Int) (at_ : Nat) (most : Int) (hb : bytesOk l) (ha : at_ ≤ l.length) (hl : l.length ≤ 140737488355328) (k : Nat) (hk : 2 * l.length + 3 < k) :
    wire_GetNum.f k l (at_ : Int) most = some (gat (at_ : Int) (gn most 0 0 (l.drop at_))) := by
  unfold wire_GetNum.f
  obtain ⟨k, rfl⟩ : ∃ m, k = m + 1 := ⟨k - 1, by omega⟩
  rw [if_neg (by omega), show decide ((at_ : Int) > (l.length : Int)) = false from by simp; omega]
  simp only [wire_GetNum.j0]
  rw [if_neg (by decide), if_pos (by omega), if_pos (by omega), Int.toNat_natCast]
  exact getnum_l most (at_ : Int) (l.drop at_) (fun x hx => hb x (List.mem_of_mem_drop hx)) (by omega) (by rw [List.length_drop]; omega) (l.drop at_).length 0 0 k (by omega) (by rw [List.length_drop]; omega) (by omega) (by intro _; simp)
theorem gn_back (most : Int) (xs : List Int) : ∀ (i : Nat) (n v c : Int), bytesOk xs → gn most i n xs = (v, c, none) → i ≤ 9 ∧ ∃ m : Nat, v = n + (m : Int) * 128 ^ i ∧ v ≤ most ∧ c = (i : Int) + (enc m).length ∧ (m = 0 → i = 0) ∧ (m : Int) * 128 ^ i < 18446744073709551616 ∧ ∃ post, xs = enc m ++ post := by
  induction xs with
  | nil => intro i n v c _ h; simp [gn] at h
  | cons x xs ih =>
    intro i n v c hb h
    have hx := hb x (by simp)
    simp only [gn] at h
    split at h
    · simp at h
    · rename_i hno
      split at h
      · rename_i h128
        obtain ⟨hi9, m, hv, hmost, hc, hz, h64, post, hpost⟩ := ih (i + 1) _ v c (fun y hy => hb y (by simp [hy])) h
        have hm0 : m ≠ 0 := fun e => by have := hz e; omega
        have hbig : ¬ (x.toNat % 128 + 128 * m) < 128 := by omega
        refine ⟨by omega, x.toNat % 128 + 128 * m, ?_, hmost, ?_, fun e => by omega, ?_, post, ?_⟩
        · rw [hv, Int.pow_succ, Int.mul_comm (128 ^ i) 128, ← Int.mul_assoc, Int.add_assoc, ← Int.add_mul]
          congr 2; omega
        · rw [enc_more hbig, List.length_cons, show (x.toNat % 128 + 128 * m) / 128 = m from by omega, hc]; omega
        · have e : ((x.toNat % 128 + 128 * m : Nat) : Int) * 128 ^ i = x % 128 * 128 ^ i + (m : Int) * 128 ^ (i + 1) := by
            rw [Int.pow_succ, Int.mul_comm (128 ^ i) 128, ← Int.mul_assoc, ← Int.add_mul]
            congr 1; omega
          rw [e]
          have hlow : x % 128 * 128 ^ i < 128 ^ (i + 1) := by
            rw [Int.pow_succ, Int.mul_comm (128 ^ i) 128]
            exact Int.mul_lt_mul_of_pos_right (by omega) (Int.pow_pos (by decide))
          have hpow : ((128 : Int) ^ (i + 1)) * 2 ^ (64 - 7 * (i + 1)) = 18446744073709551616 := by
            rw [pow128, ← Int.pow_add, show 7 * (i + 1) + (64 - 7 * (i + 1)) = 64 from by omega]; decide
          have hq : (m : Int) < 2 ^ (64 - 7 * (i + 1)) := by
            have hpos : (0 : Int) < 128 ^ (i + 1) := Int.pow_pos (by decide)
            rw [← hpow, Int.mul_comm] at h64
            exact Int.lt_of_mul_lt_mul_left h64 (by omega)
          have hpos : (0 : Int) < 128 ^ (i + 1) := Int.pow_pos (by decide)
          have h3 : ((m : Int) + 1) * 128 ^ (i + 1) ≤ 2 ^ (64 - 7 * (i + 1)) * 128 ^ (i + 1) := Int.mul_le_mul_of_nonneg_right (by omega) (by omega)
          rw [Int.mul_comm (2 ^ (64 - 7 * (i + 1))) _, hpow, Int.add_mul, Int.one_mul] at h3
          omega
        · rw [enc_more hbig, show (x.toNat % 128 + 128 * m) / 128 = m from by omega, hpost, List.cons_append]
          congr 1; omega
      · rename_i h128
        split at h
        · simp at h
        · rename_i hmost
          simp only [Prod.mk.injEq, and_true] at h
          obtain ⟨rfl, rfl⟩ := h
          have e : x % 128 = x := by omega
          refine ⟨by omega, x.toNat, ?_, by omega, ?_, fun e => by omega, ?_, xs, ?_⟩
          · rw [e]; congr 2; omega
          · rw [enc_small (by omega)]; simp
          · have ex : (x.toNat : Int) = x := by omega
            rw [ex]
            by_cases h9 : i = 9
            · subst h9
              have : (128 : Int) ^ 9 = 9223372036854775808 := by decide
              rw [this]; omega
            · have hp := pow_le64 i (by omega)
              rw [← pow128] at hp
              have : x * 128 ^ i ≤ 127 * 72057594037927936 := Int.mul_le_mul (by omega) hp (Int.pow_nonneg (by decide)) (by omega)
              omega
          · rw [enc_small (by omega)]; simp; omega
theorem gn_next (most : Int) (xs : List Int) (v c : Int) (hb : bytesOk xs) (h : gn most 0 0 xs = (v, c, none)) : 0 ≤ v ∧ v ≤ most ∧ v < 18446744073709551616 ∧ 1 ≤ c ∧ c ≤ xs.length ∧ c ≤ 10 ∧ xs.take c.toNat = enc v.toNat := by
  obtain ⟨_, m, hv, hm, hc, _, h64, post, hp⟩ := gn_back most xs 0 0 v c hb h
  have hm64 : (m : Int) < 18446744073709551616 := by simpa using h64
  have hvm : v = (m : Int) := by simpa using hv
  have := enc_pos m
  have := enc_len 9 m (pow70 (by omega))
  have e : c.toNat = (enc m).length := by omega
  refine ⟨by omega, hm, by omega, by omega, ?_, by omega, ?_⟩
  · rw [hp, List.length_append]; omega
  · rw [e, hp, List.take_left, hvm, Int.toNat_natCast]
theorem gettext_f (l : List Int) (at_ : Nat) (most : Int) (hm0 : 0 ≤ most) (hm1 : most ≤ 4096) (hb : bytesOk l) (ha : at_ ≤ l.length) (hl : l.length ≤ 140737488355328) (k : Nat) (hk : 2 * l.length + 4 < k) :
    wire_GetText.f k l (at_ : Int) most = some (match gn most 0 0 (l.drop at_) with
      | (v, c, none) => if (at_ : Int) + c + v > (l.length : Int) then ((⟨#[]⟩ : ByteArray), 0, some 2) else (strOfNums ((l.take ((at_ : Int) + c + v).toNat).drop ((at_ : Int) + c).toNat), (at_ : Int) + c + v, none)
      | (_, _, some e) => ((⟨#[]⟩ : ByteArray), 0, some e)) := by
  unfold wire_GetText.f
  obtain ⟨k, rfl⟩ : ∃ m, k = m + 1 := ⟨k - 1, by omega⟩
  rw [if_neg (by omega), show decide (most > 4096) = false from by simp; omega]
  simp only [wire_GetText.j0]
  rw [if_neg (by decide), wu64 hm0 (by omega), getnum_f l at_ most hb ha hl k (by omega)]
  have hbd : bytesOk (l.drop at_) := fun x hx => hb x (List.mem_of_mem_drop hx)
  rcases hg : gn most 0 0 (l.drop at_) with ⟨v, c, _ | e⟩
  · have := gn_next most _ v c hbd hg
    have hc := this.2.2.2.2.1
    rw [List.length_drop] at hc
    simp only [gat, Option.isNone_none, if_true, Option.bind_some]
    rw [show wrap64 v = v from by unfold wrap64; omega, show wrap64 ((at_ : Int) + c + v) = (at_ : Int) + c + v from by unfold wrap64; omega]
    by_cases h : (at_ : Int) + c + v > (l.length : Int)
    · rw [if_pos h, if_pos h]
    · rw [if_neg h, if_neg h, if_pos (by omega), if_pos (by omega), if_pos (by omega)]
  · simp [gat]
end Go.Proofs.YtlcfcaokihoplaaDoor.MsgL
