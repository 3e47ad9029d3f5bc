-- Cut.
import Derived.Test.YtlcfcaokihoplaaGreatDoorSplitCp
import Derived.Laws.BitsLemmas
import Derived.Laws.Bits64
namespace Go.Proofs.YtlcfcaokihoplaaGreatDoor.MsgL
open Go.RowKit Go.Proofs.YtlcfcaokihoplaaGreatDoor.Mw Go.Proofs.YzW.PrintWords Go.Proofs.YzW.PrintLast Go.Proofs.YzW.PrintMore
set_option linter.unusedVariables false
set_option linter.unusedSimpArgs false
def enc (n : Nat) : List Int := if n < 128 then [(n : Int)] else ((n % 128 + 128 : Nat) : Int) :: enc (n / 128)
termination_by n
decreasing_by omega
theorem cj_ {n : Nat} (h : n < 128) : enc n = [(n : Int)] := by rw [enc, if_pos h]
theorem dw_ {n : Nat} (h : ¬ n < 128) : enc n = ((n % 128 + 128 : Nat) : Int) :: enc (n / 128) := by rw [enc, if_neg h]
theorem enc_len (j : Nat) : ∀ n : Nat, n < 128 ^ (j + 1) → (enc n).length ≤ j + 1 := by
 induction j with
 | zero => intro n h; rw [cj_ (by simpa using h)]; simp
 | succ j ih =>
  intro n h
  by_cases hn : n < 128
  ·rw [cj_ hn]; simp
  ·rw [dw_ hn, List.length_cons]
   have := ih (n / 128) (by rw [Nat.div_lt_iff_lt_mul (by decide)]; rw [Nat.pow_succ] at h; exact h)
   omega
theorem enc_pos (n : Nat) : 0 < (enc n).length := by
 by_cases hn : n < 128
 ·rw [cj_ hn]; simp
 ·rw [dw_ hn]; simp
def bytesOk (l : List Int) : Prop := ∀ x ∈ l, 0 ≤ x ∧ x ≤ 255
theorem enc_bytes (j : Nat) : ∀ n : Nat, n < 128 ^ (j + 1) → bytesOk (enc n) := by
 induction j with
 | zero =>
  intro n h; rw [cj_ (by simpa using h)]
  intro x hx
  rw [List.mem_singleton] at hx
  subst hx
  have : n < 128 := by simpa using h
  omega
 | succ j ih =>
  intro n h
  by_cases hn : n < 128
  ·rw [cj_ hn]
   intro x hx
   rw [List.mem_singleton] at hx
   subst hx
   omega
  ·rw [dw_ hn]
   intro x hx
   rcases List.mem_cons.1 hx with rfl | hx
   ·omega
   ·exact ih (n / 128) (by rw [Nat.div_lt_iff_lt_mul (by decide)]; rw [Nat.pow_succ] at h; exact h) x hx
theorem pow70 {n : Nat} (h : n < 18446744073709551616) : n < 128 ^ (9 + 1) := Nat.lt_trans h (by decide)
theorem or128 : ∀ m : Fin 256, Go.bits .or .u8 ((m.val : Nat) : Int) 128 = ((m.val % 128 + 128 : Nat) : Int) := by decide +kernel
theorem wu64 {x : Int} (h0 : 0 ≤ x) (h1 : x < 18446744073709551616) : IntKind.u64.wrap x = x := by rw [IntKind.wrap_u64]; omega
theorem num_l (j : Nat) : ∀ (n : Nat) (acc : List Int) (k : Nat), n < 128 ^ (j + 1) → j < k → acc.length + j < 140737488355327 → br_.l0 k (n : Int) acc = some (acc ++ enc n) := by
 induction j with
 | zero =>
  intro n acc k h hk hl
  obtain ⟨k, rfl⟩ : ∃ m, k = m + 1 := ⟨k - 1, by omega⟩
  have hn : n < 128 := by simpa using h
  simp only [br_.l0]
  rw [if_neg (by omega), if_pos (by omega), cj_ hn, show ((n : Int) % 256) = (n : Int) from by omega]
 | succ j ih =>
  intro n acc k h hk hl
  obtain ⟨k, rfl⟩ : ∃ m, k = m + 1 := ⟨k - 1, by omega⟩
  simp only [br_.l0]
  by_cases hn : n < 128
  ·rw [if_neg (by omega), if_pos (by omega), cj_ hn, show ((n : Int) % 256) = (n : Int) from by omega]
  ·have e := or128 ⟨n % 256, Nat.mod_lt _ (by decide)⟩
   simp only at e
   rw [if_pos (by omega), if_pos (by omega), show ((n : Int) / 128) = ((n / 128 : Nat) : Int) from by omega, show ((n : Int) % 256) = ((n % 256 : Nat) : Int) from by omega, e,
    ih (n / 128) _ k (by rw [Nat.div_lt_iff_lt_mul (by decide)]; rw [Nat.pow_succ] at h; exact h) (by omega) (by simp; omega), dw_ hn, show n % 256 % 128 = n % 128 from by omega]
   simp
theorem num_f (l : List Int) (n : Nat) (hn : n < 18446744073709551616) (hl : l.length < 140737488355300) (k : Nat) (hk : 10 < k) : br_.f k l (n : Int) = some (l ++ enc n) := by
 unfold br_.f bp_.f
 rw [if_pos (by omega)]; simp only [Option.bind_some]
 exact num_l 9 n l k (pow70 hn) (by omega) (by omega)
theorem size_wrap (s : ByteArray) (hs : s.size ≤ 140737488351232) : IntKind.u64.wrap (s.size : Int) = ((s.size : Nat) : Int) := wu64 (by omega) (by omega)
theorem text_f (l : List Int) (s : ByteArray) (hs : s.size ≤ 140737488351232) (hl : l.length + s.size < 140737488355300) (k : Nat) (hk : 10 < k) : cy_.f k l s = some (l ++ enc s.size ++ bk_ s) := by
 unfold cy_.f
 rw [size_wrap s hs, num_f l s.size (by omega) (by omega) k hk]; simp only [Option.bind_some]
 have := enc_len 9 s.size (pow70 (by omega))
 rw [if_pos (by rw [List.length_append]; omega)]
theorem refnum_l (j : Nat) : ∀ (n : Nat) (acc : List Int) (k : Nat), n < 128 ^ (j + 1) → n < 18446744073709551616 → j < k → acc.length + j < 140737488355327 → av_.l0 k (n : Int) acc = some (acc ++ enc n) := by
 induction j with
 | zero =>
  intro n acc k h _ hk hl
  obtain ⟨k, rfl⟩ : ∃ m, k = m + 1 := ⟨k - 1, by omega⟩
  have hn : n < 128 := by simpa using h
  simp only [av_.l0]
  rw [if_neg (by omega), if_pos (by omega), cj_ hn, show ((n : Int) % 256) = (n : Int) from by omega]
 | succ j ih =>
  intro n acc k h h64 hk hl
  obtain ⟨k, rfl⟩ : ∃ m, k = m + 1 := ⟨k - 1, by omega⟩
  simp only [av_.l0]
  by_cases hn : n < 128
  ·rw [if_neg (by omega), if_pos (by omega), cj_ hn, show ((n : Int) % 256) = (n : Int) from by omega]
  ·have e1 : Int.tdiv (n : Int) 128 = ((n / 128 : Nat) : Int) := by rw [Int.tdiv_eq_ediv_of_nonneg (by omega)]; omega
   have e2 : Int.tmod (n : Int) 128 = ((n % 128 : Nat) : Int) := by rw [Int.tmod_eq_emod_of_nonneg (by omega)]; omega
   rw [if_pos (by omega), if_pos (by omega), e1, e2, wu64 (x := ((n / 128 : Nat) : Int)) (by omega) (by omega), wu64 (x := ((n % 128 : Nat) : Int) + 128) (by omega) (by omega),
    show (((n % 128 : Nat) : Int) + 128) % 256 = ((n % 128 + 128 : Nat) : Int) from by omega,
    ih (n / 128) _ k (by rw [Nat.div_lt_iff_lt_mul (by decide)]; rw [Nat.pow_succ] at h; exact h) (by omega) (by omega) (by simp; omega), dw_ hn]
   simp
theorem refnum_f (n : Nat) (hn : n < 18446744073709551616) (k : Nat) (hk : 10 < k) : av_.f k (n : Int) = some (enc n) := by
 unfold av_.f
 rw [refnum_l 9 n [] k (pow70 hn) hn (by omega) (by simp)]
 simp
theorem reftext_f (s : ByteArray) (hs : s.size ≤ 140737488351232) (k : Nat) (hk : 10 < k) : bo_.f k s = some (enc s.size ++ bk_ s) := by
 unfold bo_.f
 rw [size_wrap s hs, refnum_f s.size (by omega) k hk]; simp only [Option.bind_some]
 have := enc_len 9 s.size (pow70 (by omega))
 rw [if_pos (by omega)]
theorem str_list (xs : List Int) : (strOfNums xs).toList = xs.map fun n => UInt8.ofNat n.toNat := by rw [Go.ByteArray.toList_eq]; rfl
theorem map_inj : ∀ (a b : List Int), (∀ x ∈ a, 0 ≤ x ∧ x ≤ 255) → (∀ x ∈ b, 0 ≤ x ∧ x ≤ 255) → (a.map fun n => UInt8.ofNat n.toNat) = (b.map fun n => UInt8.ofNat n.toNat) → a = b
 | [], [], _, _, _ => rfl
 | [], _ :: _, _, _, h => by simp at h
 | _ :: _, [], _, _, h => by simp at h
 | x :: xs, y :: ys, ha, hb, h => by
  simp only [List.map_cons, List.cons.injEq] at h
  have hx := ha x (by simp)
  have hy := hb y (by simp)
  have e := congrArg UInt8.toNat h.1
  simp only [UInt8.toNat_ofNat'] at e
  rw [show x = y from by omega, map_inj xs ys (fun z hz => ha z (by simp [hz])) (fun z hz => hb z (by simp [hz])) h.2]
theorem str_inj {a b : List Int} (ha : bytesOk a) (hb : bytesOk b) (h : (strOfNums a).toList = (strOfNums b).toList) : a = b := by
 rw [str_list, str_list] at h
 exact map_inj a b ha hb h
theorem or_swap (k : IntKind) (j : Nat) (hj : j ≤ k.bits) (hk : ∀ n : Int, 0 ≤ n → n < 2 ^ j → k.wrap n = n) (x y : Int) (hx0 : 0 ≤ x) (hx : x < 2 ^ j) (hy0 : 0 ≤ y) (hy : y < 2 ^ j) : Go.bits .or k x y = Go.bits .or k y x := by
 obtain ⟨a, rfl⟩ := Int.eq_ofNat_of_zero_le hx0
 obtain ⟨b, rfl⟩ := Int.eq_ofNat_of_zero_le hy0
 have ha : a < 2 ^ j := by exact_mod_cast hx
 have hb : b < 2 ^ j := by exact_mod_cast hy
 rw [(bits_nat k j hj hk a b ha hb).2, (bits_nat k j hj hk b a hb ha).2, Nat.or_comm]
theorem wraps64 (n : Int) (h0 : 0 ≤ n) (h1 : n < 2 ^ 64) : IntKind.u64.wrap n = n := wu64 h0 (by simpa using h1)
theorem and127 : ∀ m : Fin 256, Go.bits .and .u8 ((m.val : Nat) : Int) 127 = ((m.val % 128 : Nat) : Int) := by decide +kernel
theorem pow_le64 (i : Nat) (hi : i ≤ 8) : (2 : Int) ^ (7 * i) ≤ 72057594037927936 := by
 have h : 2 ^ (7 * i) ≤ 2 ^ 56 := Nat.pow_le_pow_right (by decide) (by omega)
 have h2 : (2 : Int) ^ (7 * i) ≤ 2 ^ 56 := by exact_mod_cast h
 have e : (2 : Int) ^ 56 = 72057594037927936 := by decide
 rw [e] at h2; exact h2
theorem pow128 (i : Nat) : (128 : Int) ^ i = 2 ^ (7 * i) := by rw [Int.pow_mul]; rfl
theorem or_shl (i : Nat) (hi : i ≤ 9) (n a : Int) (hn0 : 0 ≤ n) (hn : n < 128 ^ i) (ha0 : 0 ≤ a) (ha : a < 128) (h9 : i = 9 → a ≤ 1) : Go.bits .or .u64 n (shl .u64 a (7 * (i : Int))) = n + a * 128 ^ i := by
 have hp : (0 : Int) < 2 ^ (7 * i) := Int.pow_pos (by decide)
 have hlt : a * 2 ^ (7 * i) < 2 ^ 64 := by
  by_cases h : i = 9
  ·subst h
   have := h9 rfl
   have e : (2 : Int) ^ (7 * 9) = 9223372036854775808 := by decide
   rw [e]; omega
  ·have := pow_le64 i (by omega)
   have h2 : a * 2 ^ (7 * i) ≤ 127 * 72057594037927936 := Int.mul_le_mul (by omega) this (by omega) (by omega)
   omega
 have h0 : 0 ≤ a * 2 ^ (7 * i) := Int.mul_nonneg ha0 (by omega)
 have e1 : shl .u64 a (7 * (i : Int)) = a * 2 ^ (7 * i) := by
  unfold shl
  have : min (7 * (i : Int)).toNat (IntKind.u64.bits) = 7 * i := by simp [IntKind.bits]; omega
  rw [this]
  exact wraps64 _ h0 hlt
 have hn2 : n < 2 ^ (7 * i) := by rw [← pow128]; exact hn
 have hple : (2 : Int) ^ (7 * i) ≤ 2 ^ 64 := by
  have h : 2 ^ (7 * i) ≤ 2 ^ 64 := Nat.pow_le_pow_right (by decide) (by omega)
  exact_mod_cast h
 rw [e1, pow128, or_swap .u64 64 (by decide) wraps64 n _ hn0 (by omega) h0 hlt,
  bits_join .u64 64 (by decide) wraps64 (7 * i) (a * 2 ^ (7 * i)) n h0 (Int.mul_emod_left _ _) hlt hn0 hn2 (by omega), Int.add_comm]
def gn (most : Int) : Nat → Int → List Int → Int × Int × Option Int
 | _, _, [] => (0, 0, some 2)
 | i, n, x :: xs => if 10 ≤ i ∨ (x = 0 ∧ 0 < i) ∨ (1 < x ∧ i = 9) then (0, 0, some 2) else
   if x ≥ 128 then gn most (i + 1) (n + x % 128 * 128 ^ i) xs else if n + x % 128 * 128 ^ i > most then (0, 0, some 7) else (n + x % 128 * 128 ^ i, (i : Int) + 1, none)
def gat (at_ : Int) (r : Int × Int × Option Int) : Int × Int × Option Int := if r.2.2.isNone = true then (r.1, at_ + r.2.1, none) else r
theorem rd_at (xs : List Int) (i : Nat) : rd xs (i : Int) = xs.getD i 0 := rfl
theorem drop_cons (xs : List Int) (i : Nat) (h : i < xs.length) : xs.drop i = xs.getD i 0 :: xs.drop (i + 1) := by
 rw [List.drop_eq_getElem_cons h]
 simp [List.getD, h]
theorem mem_getD (xs : List Int) (i : Nat) (h : i < xs.length) : xs.getD i 0 ∈ xs := by
 simp [List.getD, h]
theorem getnum_l (most at_ : Int) (xs : List Int) (hb : bytesOk xs) (h0 : 0 ≤ at_) (h1 : at_ + xs.length ≤ 140737488355328) (d : Nat) : ∀ (i : Nat) (n : Int) (k : Nat), i + d = xs.length → 2 * d + 1 < k → 0 ≤ n → (i ≤ 10 → n < 128 ^ i) →
  au_.l0 k at_ most n xs (xs.length : Int) (i : Int) = some (gat at_ (gn most i n (xs.drop i))) := by
 induction d with
 | zero =>
  intro i n k hd hk hn0 hn
  obtain ⟨k, rfl⟩ : ∃ m, k = m + 1 := ⟨k - 1, by omega⟩
  simp only [au_.l0]
  rw [if_neg (by omega), List.drop_eq_nil_of_le (by omega)]
  rfl
 | succ d ih =>
  intro i n k hd hk hn0 hn
  obtain ⟨k, rfl⟩ : ∃ m, k = m + 1 + 1 := ⟨k - 2, by omega⟩
  have hi : i < xs.length := by omega
  have hx := hb _ (mem_getD xs i hi)
  simp only [au_.l0]
  rw [if_pos (by omega), if_pos (by omega), if_pos (by omega), rd_at, drop_cons xs i hi]
  generalize xs.getD i 0 = x at hx ⊢
  have stop : (10 ≤ i ∨ (x = 0 ∧ 0 < i) ∨ (1 < x ∧ i = 9)) → au_.j2 (k + 1) at_ most n (i : Int) x xs (xs.length : Int) (i : Int) true = some (gat at_ (gn most i n (x :: xs.drop (i + 1)))) := by
   intro h
   simp only [au_.j2, gn, if_true]
   rw [if_pos h]; rfl
  have step : ¬ (10 ≤ i ∨ (x = 0 ∧ 0 < i) ∨ (1 < x ∧ i = 9)) → au_.j2 (k + 1) at_ most n (i : Int) x xs (xs.length : Int) (i : Int) false = some (gat at_ (gn most i n (x :: xs.drop (i + 1)))) := by
   intro h
   have hi9 : i ≤ 9 := by omega
   have e1 : wrap64 (7 * (i : Int)) = 7 * (i : Int) := by unfold wrap64; omega
   have e2 : IntKind.u64.wrap (Go.bits .and .u8 x 127) = x % 128 := by
    obtain ⟨m, rfl⟩ := Int.eq_ofNat_of_zero_le hx.1
    have := and127 ⟨m, by omega⟩
    simp only at this
    rw [this, wu64 (by omega) (by omega)]; omega
   have e3 : Go.bits .or .u64 n (shl .u64 (x % 128) (7 * (i : Int))) = n + x % 128 * 128 ^ i := or_shl i hi9 n (x % 128) hn0 (hn (by omega)) (by omega) (by omega) (by omega)
   simp only [au_.j2, gn]
   rw [if_neg (by decide), e1, if_pos (by omega), e2, e3, if_neg h]
   by_cases hx128 : x ≥ 128
   ·rw [if_pos hx128, if_pos hx128, show wrap64 ((i : Int) + 1) = ((i + 1 : Nat) : Int) from by unfold wrap64; omega]
    refine ih (i + 1) _ k (by omega) (by omega) ?_ ?_
    ·exact Int.add_nonneg hn0 (Int.mul_nonneg (by omega) (Int.pow_nonneg (by decide)))
    ·intro _
     have hp := hn (by omega)
     have hle : x % 128 * 128 ^ i ≤ 127 * 128 ^ i := Int.mul_le_mul_of_nonneg_right (by omega) (Int.pow_nonneg (by decide))
     rw [Int.pow_succ]; omega
   ·rw [if_neg hx128, if_neg hx128]
    by_cases hm : n + x % 128 * 128 ^ i > most
    ·rw [if_pos hm, if_pos hm]; rfl
    ·rw [if_neg hm, if_neg hm]
     simp only [gat, Option.isNone_none, if_true]
     rw [show wrap64 (at_ + (i : Int)) = at_ + (i : Int) from by unfold wrap64; omega, show wrap64 (at_ + (i : Int) + 1) = at_ + ((i : Int) + 1) from by unfold wrap64; omega]
  by_cases h10 : (i : Int) ≥ 10
  ·rw [if_pos h10]; exact stop (by omega)
  rw [if_neg h10]
  by_cases hz : x = 0
  ·rw [if_pos hz]
   by_cases hi0 : (i : Int) > 0
   ·rw [if_pos hi0]; exact stop (by omega)
   ·rw [if_neg hi0, if_neg (by omega)]; exact step (by omega)
  ·rw [if_neg hz]
   by_cases hx1 : x > 1
   ·rw [if_pos hx1]
    by_cases h9 : i = 9
    ·subst h9
     exact stop (by omega)
    ·rw [show ((i : Int) == 9) = false from by simp; omega]; exact step (by omega)
   ·rw [if_neg hx1]; exact step (by omega)
theorem getnum_f (l : List Int) (at_ : Nat) (most : Int) (hb : bytesOk l) (ha : at_ ≤ l.length) (hl : l.length ≤ 140737488355328) (k : Nat) (hk : 2 * l.length + 3 < k) :
  au_.f k l (at_ : Int) most = some (gat (at_ : Int) (gn most 0 0 (l.drop at_))) := by
 unfold au_.f
 obtain ⟨k, rfl⟩ : ∃ m, k = m + 1 := ⟨k - 1, by omega⟩
 rw [if_neg (by omega), show decide ((at_ : Int) > (l.length : Int)) = false from by simp; omega]
 simp only [au_.j0]
 rw [if_neg (by decide), if_pos (by omega), if_pos (by omega), Int.toNat_natCast]
 exact getnum_l most (at_ : Int) (l.drop at_) (fun x hx => hb x (List.mem_of_mem_drop hx)) (by omega) (by rw [List.length_drop]; omega) (l.drop at_).length 0 0 k (by omega) (by rw [List.length_drop]; omega) (by omega) (by intro _; simp)
theorem gn_enc (most : Int) (post : List Int) (j : Nat) : ∀ (i m : Nat) (n : Int), m < 128 ^ (j + 1) → i + j ≤ 9 → (m : Int) * 128 ^ i < 18446744073709551616 → (m = 0 → i = 0) → n + (m : Int) * 128 ^ i ≤ most →
  gn most i n (enc m ++ post) = (n + (m : Int) * 128 ^ i, (i : Int) + (enc m).length, none) := by
 induction j with
 | zero =>
  intro i m n hm hi h64 hz hmost
  have hm' : m < 128 := by simpa using hm
  rw [cj_ hm']
  simp only [List.cons_append, List.nil_append, gn, List.length_singleton]
  have e : ((m : Int) % 128) = (m : Int) := by omega
  rw [e, if_neg, if_neg (by omega), if_neg (by omega)]
  ·rfl
  ·rintro (h | h | h)
   ·omega
   ·have := hz (by omega); omega
   ·obtain ⟨h1, rfl⟩ := h
    have : (128 : Int) ^ 9 = 9223372036854775808 := by decide
    rw [this] at h64; omega
 | succ j ih =>
  intro i m n hm hi h64 hz hmost
  by_cases hm' : m < 128
  ·rw [cj_ hm']
   simp only [List.cons_append, List.nil_append, gn, List.length_singleton]
   have e : ((m : Int) % 128) = (m : Int) := by omega
   rw [e, if_neg, if_neg (by omega), if_neg (by omega)]
   ·rfl
   ·rintro (h | h | h)
    ·omega
    ·have := hz (by omega); omega
    ·omega
  ·rw [dw_ hm']
   simp only [List.cons_append, gn, List.length_cons]
   have e : (((m % 128 + 128 : Nat) : Int) % 128) = ((m % 128 : Nat) : Int) := by omega
   have es : n + ((m % 128 : Nat) : Int) * 128 ^ i + ((m / 128 : Nat) : Int) * 128 ^ (i + 1) = n + (m : Int) * 128 ^ i := by
    rw [Int.pow_succ, Int.mul_comm (128 ^ i) 128, ← Int.mul_assoc, Int.add_assoc, ← Int.add_mul]
    congr 2; omega
   have hle : ((m / 128 : Nat) : Int) * 128 ^ (i + 1) ≤ (m : Int) * 128 ^ i := by
    have : 0 ≤ ((m % 128 : Nat) : Int) * 128 ^ i := Int.mul_nonneg (by omega) (Int.pow_nonneg (by decide))
    omega
   rw [e, if_neg (by omega), if_pos (by omega), ih (i + 1) (m / 128) _ (by rw [Nat.div_lt_iff_lt_mul (by decide)]; rw [Nat.pow_succ] at hm; exact hm) (by omega) (by omega) (by omega) (by omega), es]
   congr 2; omega
theorem gn_written (n : Nat) (hn : n < 18446744073709551616) (most : Int) (hm : (n : Int) ≤ most) (post : List Int) : gn most 0 0 (enc n ++ post) = ((n : Int), ((enc n).length : Int), none) := by
 have h := gn_enc most post 9 0 n 0 (pow70 hn) (by omega) (by simp; omega) (fun _ => rfl) (by simpa using hm)
 simpa using h
theorem gn_back (most : Int) (xs : List Int) : ∀ (i : Nat) (n v c : Int), bytesOk xs → gn most i n xs = (v, c, none) → i ≤ 9 ∧ ∃ m : Nat, v = n + (m : Int) * 128 ^ i ∧ v ≤ most ∧ c = (i : Int) + (enc m).length ∧ (m = 0 → i = 0) ∧ (m : Int) * 128 ^ i < 18446744073709551616 ∧ ∃ post, xs = enc m ++ post := by
 induction xs with
 | nil => intro i n v c _ h; simp [gn] at h
 | cons x xs ih =>
  intro i n v c hb h
  have hx := hb x (by simp)
  simp only [gn] at h
  split at h
  ·simp at h
  ·rename_i hno
   split at h
   ·rename_i h128
    obtain ⟨hi9, m, hv, hmost, hc, hz, h64, post, hpost⟩ := ih (i + 1) _ v c (fun y hy => hb y (by simp [hy])) h
    have hm0 : m ≠ 0 := fun e => by have := hz e; omega
    have hbig : ¬ (x.toNat % 128 + 128 * m) < 128 := by omega
    refine ⟨by omega, x.toNat % 128 + 128 * m, ?_, hmost, ?_, fun e => by omega, ?_, post, ?_⟩
    ·rw [hv, Int.pow_succ, Int.mul_comm (128 ^ i) 128, ← Int.mul_assoc, Int.add_assoc, ← Int.add_mul]
     congr 2; omega
    ·rw [dw_ hbig, List.length_cons, show (x.toNat % 128 + 128 * m) / 128 = m from by omega, hc]; omega
    ·have e : ((x.toNat % 128 + 128 * m : Nat) : Int) * 128 ^ i = x % 128 * 128 ^ i + (m : Int) * 128 ^ (i + 1) := by
      rw [Int.pow_succ, Int.mul_comm (128 ^ i) 128, ← Int.mul_assoc, ← Int.add_mul]
      congr 1; omega
     rw [e]
     have hlow : x % 128 * 128 ^ i < 128 ^ (i + 1) := by
      rw [Int.pow_succ, Int.mul_comm (128 ^ i) 128]
      exact Int.mul_lt_mul_of_pos_right (by omega) (Int.pow_pos (by decide))
     have hpow : ((128 : Int) ^ (i + 1)) * 2 ^ (64 - 7 * (i + 1)) = 18446744073709551616 := by
      rw [pow128, ← Int.pow_add, show 7 * (i + 1) + (64 - 7 * (i + 1)) = 64 from by omega]; decide
     have hq : (m : Int) < 2 ^ (64 - 7 * (i + 1)) := by
      have hpos : (0 : Int) < 128 ^ (i + 1) := Int.pow_pos (by decide)
      rw [← hpow, Int.mul_comm] at h64
      exact Int.lt_of_mul_lt_mul_left h64 (by omega)
     have hpos : (0 : Int) < 128 ^ (i + 1) := Int.pow_pos (by decide)
     have h3 : ((m : Int) + 1) * 128 ^ (i + 1) ≤ 2 ^ (64 - 7 * (i + 1)) * 128 ^ (i + 1) := Int.mul_le_mul_of_nonneg_right (by omega) (by omega)
     rw [Int.mul_comm (2 ^ (64 - 7 * (i + 1))) _, hpow, Int.add_mul, Int.one_mul] at h3
     omega
    ·rw [dw_ hbig, show (x.toNat % 128 + 128 * m) / 128 = m from by omega, hpost, List.cons_append]
     congr 1; omega
   ·rename_i h128
    split at h
    ·simp at h
    ·rename_i hmost
     simp only [Prod.mk.injEq, and_true] at h
     obtain ⟨rfl, rfl⟩ := h
     have e : x % 128 = x := by omega
     refine ⟨by omega, x.toNat, ?_, by omega, ?_, fun e => by omega, ?_, xs, ?_⟩
     ·rw [e]; congr 2; omega
     ·rw [cj_ (by omega)]; simp
     ·have ex : (x.toNat : Int) = x := by omega
      rw [ex]
      by_cases h9 : i = 9
      ·subst h9
       have : (128 : Int) ^ 9 = 9223372036854775808 := by decide
       rw [this]; omega
      ·have hp := pow_le64 i (by omega)
       rw [← pow128] at hp
       have : x * 128 ^ i ≤ 127 * 72057594037927936 := Int.mul_le_mul (by omega) hp (Int.pow_nonneg (by decide)) (by omega)
       omega
     ·rw [cj_ (by omega)]; simp; omega
theorem gn_next (most : Int) (xs : List Int) (v c : Int) (hb : bytesOk xs) (h : gn most 0 0 xs = (v, c, none)) : 0 ≤ v ∧ v ≤ most ∧ v < 18446744073709551616 ∧ 1 ≤ c ∧ c ≤ xs.length ∧ c ≤ 10 ∧ xs.take c.toNat = enc v.toNat := by
 obtain ⟨_, m, hv, hm, hc, _, h64, post, hp⟩ := gn_back most xs 0 0 v c hb h
 have hm64 : (m : Int) < 18446744073709551616 := by simpa using h64
 have hvm : v = (m : Int) := by simpa using hv
 have := enc_pos m
 have := enc_len 9 m (pow70 (by omega))
 have e : c.toNat = (enc m).length := by omega
 refine ⟨by omega, hm, by omega, by omega, ?_, by omega, ?_⟩
 ·rw [hp, List.length_append]; omega
 ·rw [e, hp, List.take_left, hvm, Int.toNat_natCast]
theorem gettext_f (l : List Int) (at_ : Nat) (most : Int) (hm0 : 0 ≤ most) (hm1 : most ≤ 4096) (hb : bytesOk l) (ha : at_ ≤ l.length) (hl : l.length ≤ 140737488355328) (k : Nat) (hk : 2 * l.length + 4 < k) :
  bz_.f k l (at_ : Int) most = some (match gn most 0 0 (l.drop at_) with
   | (v, c, none) => if (at_ : Int) + c + v > (l.length : Int) then ((⟨#[]⟩ : ByteArray), 0, some 2) else (strOfNums ((l.take ((at_ : Int) + c + v).toNat).drop ((at_ : Int) + c).toNat), (at_ : Int) + c + v, none)
   | (_, _, some e) => ((⟨#[]⟩ : ByteArray), 0, some e)) := by
 unfold bz_.f
 obtain ⟨k, rfl⟩ : ∃ m, k = m + 1 := ⟨k - 1, by omega⟩
 rw [if_neg (by omega), show decide (most > 4096) = false from by simp; omega]
 simp only [bz_.j0]
 rw [if_neg (by decide), wu64 hm0 (by omega), getnum_f l at_ most hb ha hl k (by omega)]
 have hbd : bytesOk (l.drop at_) := fun x hx => hb x (List.mem_of_mem_drop hx)
 rcases hg : gn most 0 0 (l.drop at_) with ⟨v, c, _ | e⟩
 ·have := gn_next most _ v c hbd hg
  have hc := this.2.2.2.2.1
  rw [List.length_drop] at hc
  simp only [gat, Option.isNone_none, if_true, Option.bind_some]
  rw [show wrap64 v = v from by unfold wrap64; omega, show wrap64 ((at_ : Int) + c + v) = (at_ : Int) + c + v from by unfold wrap64; omega]
  by_cases h : (at_ : Int) + c + v > (l.length : Int)
  ·rw [if_pos h, if_pos h]
  ·rw [if_neg h, if_neg h, if_pos (by omega), if_pos (by omega), if_pos (by omega)]
 ·simp [gat]
def cnt : Nat → List Int → Nat
 | 0, _ => 0
 | _ + 1, [] => 0
 | f + 1, x :: xs => if x > 127 then cnt f xs + 1 else 0
theorem cnt_le : ∀ (f : Nat) (xs : List Int), cnt f xs ≤ f ∧ cnt f xs ≤ xs.length
 | 0, _ => by simp [cnt]
 | _ + 1, [] => by simp [cnt]
 | f + 1, x :: xs => by
  have := cnt_le f xs
  unfold cnt
  split
  ·simp only [List.length_cons]; omega
  ·simp
theorem cnt_enc (post : List Int) : ∀ (f m : Nat), (enc m).length ≤ f → cnt f (enc m ++ post) = (enc m).length - 1
 | 0, m, h => by have := enc_pos m; omega
 | f + 1, m, h => by
  by_cases hm : m < 128
  ·rw [cj_ hm]
   simp only [List.cons_append, List.nil_append, cnt, List.length_singleton]
   rw [if_neg (by omega)]
  ·rw [dw_ hm] at h ⊢
   simp only [List.cons_append, cnt, List.length_cons] at h ⊢
   have h1 := enc_pos (m / 128)
   rw [if_pos (by omega), cnt_enc post f (m / 128) (by omega)]
   omega
theorem enc_div : ∀ (j m : Nat), j < (enc m).length → (enc m).getD j 0 % 128 = ((m / 128 ^ j % 128 : Nat) : Int)
 | 0, m, _ => by
  by_cases hm : m < 128
  ·rw [cj_ hm]
   simp
  ·rw [dw_ hm]
   simp
 | j + 1, m, h => by
  by_cases hm : m < 128
  ·rw [cj_ hm] at h; simp at h
  ·rw [dw_ hm] at h ⊢
   simp only [List.length_cons] at h
   have := enc_div j (m / 128) (by omega)
   rw [List.getD_cons_succ, this, Nat.div_div_eq_div_mul, Nat.pow_succ, Nat.mul_comm 128]
theorem enc_top (n : Nat) : ∀ m : Nat, m < 128 ^ n → m / 128 ^ (enc m).length = 0 := by
 induction n with
 | zero =>
  intro m h
  have : m = 0 := by simpa using h
  subst this
  simp
 | succ n ih =>
  intro m h
  by_cases hm : m < 128
  ·rw [cj_ hm]; simp; omega
  ·rw [dw_ hm, List.length_cons, Nat.pow_succ, Nat.mul_comm, ← Nat.div_div_eq_div_mul]
   exact ih (m / 128) (by rw [Nat.div_lt_iff_lt_mul (by decide)]; rw [Nat.pow_succ] at h; exact h)
def refEnd (l : List Int) (a n : Nat) (u : Int) : Int × Int := if enc u.toNat = (l.drop a).take (n + 1) then (u, (n : Int) + 1) else (0, 0)
theorem ref_l1_end (l : List Int) (hb : bytesOk l) (a n : Nat) (u : Int) (h0 : 0 ≤ u) (h1 : u < 18446744073709551616) (hl : a + n + 1 ≤ l.length) (hL : l.length ≤ 140737488355328) (k : Nat) (hk : 11 < k) :
  t_.l1 k l (a : Int) (n : Int) u (-1) = some (refEnd l a n u) := by
 obtain ⟨k, rfl⟩ : ∃ k', k = k' + 1 := ⟨k - 1, by omega⟩
 obtain ⟨v, rfl⟩ := Int.eq_ofNat_of_zero_le h0
 have e1 : wrap64 ((a : Int) + (n : Int)) = (a : Int) + (n : Int) := by unfold wrap64; omega
 have e2 : wrap64 ((a : Int) + (n : Int) + 1) = ((a + (n + 1) : Nat) : Int) := by unfold wrap64; omega
 have e3 : wrap64 ((n : Int) + 1) = (n : Int) + 1 := by unfold wrap64; omega
 have e4 : (l.take (a + (n + 1))).drop a = (l.drop a).take (n + 1) := by rw [List.drop_take]; congr 1; omega
 simp only [t_.l1]
 rw [if_neg (by omega), refnum_f v (by omega) k (by omega), Option.bind_some, e1, e2, if_pos (by omega), if_pos (by omega), if_pos (by omega), e3, Int.toNat_natCast, Int.toNat_natCast, e4]
 unfold refEnd
 rw [Int.toNat_natCast]
 by_cases hq : enc v = (l.drop a).take (n + 1)
 ·rw [if_pos (by rw [hq]), if_pos hq]
 ·rw [if_neg (fun he => hq (str_inj (enc_bytes 9 v (pow70 (by omega))) (fun x hx => hb x (List.mem_of_mem_drop (List.mem_of_mem_take hx))) he)), if_neg hq]
theorem ref_l1_step (l : List Int) (hb : bytesOk l) (a n j : Nat) (u : Int) (hj : a + j < l.length) (hL : l.length ≤ 140737488355328) (k : Nat) :
  t_.l1 (k + 1) l (a : Int) (n : Int) u (j : Int) = t_.l1 k l (a : Int) (n : Int) (IntKind.u64.wrap (IntKind.u64.wrap (u * 128) + (l.getD (a + j) 0) % 128)) ((j : Int) - 1) := by
 have e1 : wrap64 ((a : Int) + (j : Int)) = ((a + j : Nat) : Int) := by unfold wrap64; omega
 have e2 : wrap64 ((j : Int) - 1) = (j : Int) - 1 := by unfold wrap64; omega
 have hx := hb _ (mem_getD l (a + j) hj)
 have e3 : IntKind.u64.wrap (Int.tmod (rd l ((a + j : Nat) : Int)) 128) = (l.getD (a + j) 0) % 128 := by
  rw [rd_at, Int.tmod_eq_emod_of_nonneg hx.1, wu64 (by omega) (by omega)]
 conv => lhs; simp only [t_.l1]
 rw [if_pos (by omega), e1, if_pos (by omega), if_pos (by omega), e2, e3]
theorem ref_l1_any (l : List Int) (hb : bytesOk l) (a n : Nat) (hl : a + n + 1 ≤ l.length) (hL : l.length ≤ 140737488355328) : ∀ (j k : Nat) (u : Int), 0 ≤ u → u < 18446744073709551616 → a + j ≤ l.length → j + 11 < k →
  ∃ u', 0 ≤ u' ∧ u' < 18446744073709551616 ∧ t_.l1 k l (a : Int) (n : Int) u ((j : Int) - 1) = some (refEnd l a n u')
 | 0, k, u, h0, h1, _, hk => ⟨u, h0, h1, by rw [show ((0 : Nat) : Int) - 1 = -1 from rfl]; exact ref_l1_end l hb a n u h0 h1 hl hL k (by omega)⟩
 | j + 1, k, u, h0, h1, ha, hk => by
  obtain ⟨k, rfl⟩ : ∃ k', k = k' + 1 := ⟨k - 1, by omega⟩
  rw [show ((j + 1 : Nat) : Int) - 1 = (j : Int) from by omega, ref_l1_step l hb a n j u (by omega) hL k]
  exact ref_l1_any l hb a n hl hL j k _ (by rw [IntKind.wrap_u64]; omega) (by rw [IntKind.wrap_u64]; omega) (by omega) (by omega)
theorem ref_l1_enc (l : List Int) (hb : bytesOk l) (a n m : Nat) (post : List Int) (hm : m < 18446744073709551616) (hd : l.drop a = enc m ++ post) (ha : a ≤ l.length) (hn : n + 1 = (enc m).length) (hL : l.length ≤ 140737488355328) : ∀ (j k : Nat), j ≤ (enc m).length → j + 11 < k →
  t_.l1 k l (a : Int) (n : Int) ((m / 128 ^ j : Nat) : Int) ((j : Int) - 1) = some (refEnd l a n (m : Int))
 | 0, k, _, hk => by
  have hlen := congrArg List.length hd
  rw [List.length_drop, List.length_append] at hlen
  rw [show ((0 : Nat) : Int) - 1 = -1 from rfl, Nat.pow_zero, Nat.div_one]
  exact ref_l1_end l hb a n (m : Int) (by omega) (by omega) (by omega) hL k (by omega)
 | j + 1, k, hj, hk => by
  have hlen := congrArg List.length hd
  rw [List.length_drop, List.length_append] at hlen
  obtain ⟨k, rfl⟩ : ∃ k', k = k' + 1 := ⟨k - 1, by omega⟩
  rw [show ((j + 1 : Nat) : Int) - 1 = (j : Int) from by omega, ref_l1_step l hb a n j _ (by omega) hL k]
  have hg : l.getD (a + j) 0 = (enc m).getD j 0 := by
   have h1 : (l.drop a).getD j 0 = l.getD (a + j) 0 := by simp [List.getD]
   rw [← h1, hd]
   simp only [List.getD]
   rw [List.getElem?_append_left (by omega)]
  have hle : m / 128 ^ j ≤ m := Nat.div_le_self _ _
  have hdv : m / 128 ^ (j + 1) = m / 128 ^ j / 128 := by rw [Nat.pow_succ, Nat.div_div_eq_div_mul]
  have ih := ref_l1_enc l hb a n m post hm hd ha hn hL j k (by omega) (by omega)
  rw [hg, enc_div j m (by omega), hdv]
  generalize m / 128 ^ j = x at *
  have e1 : IntKind.u64.wrap (((x / 128 : Nat) : Int) * 128) = ((x / 128 : Nat) : Int) * 128 := wu64 (by omega) (by omega)
  have e2 : IntKind.u64.wrap (((x / 128 : Nat) : Int) * 128 + ((x % 128 : Nat) : Int)) = (x : Int) := by rw [wu64 (by omega) (by omega)]; omega
  rw [e1, e2]
  exact ih
theorem ref_l0 (l : List Int) (a : Nat) (ha : a ≤ l.length) (hL : l.length ≤ 140737488355328) : ∀ (f i k : Nat), f = 10 - i → i ≤ 10 → f < k → ∃ k', k ≤ k' + f + 1 ∧ t_.l0 k l (a : Int) (i : Int) = t_.j1 k' l (a : Int) ((i + cnt f (l.drop (a + i)) : Nat) : Int)
 | f, i, k, hf, hi, hk => by
  obtain ⟨k, rfl⟩ : ∃ k', k = k' + 1 := ⟨k - 1, by omega⟩
  by_cases hb : a + i < l.length
  ·have e1 : wrap64 ((a : Int) + (i : Int)) = ((a + i : Nat) : Int) := by unfold wrap64; omega
   have hdc : l.drop (a + i) = l.getD (a + i) 0 :: l.drop (a + i + 1) := drop_cons l (a + i) hb
   match f, hf with
   | 0, hf =>
    refine ⟨k, by omega, ?_⟩
    simp only [t_.l0, cnt]
    rw [e1, if_pos (by omega), if_neg (by omega), Nat.add_zero]
   | f + 1, hf =>
    rw [hdc]
    simp only [t_.l0, cnt]
    rw [e1, if_pos (by omega), if_pos (by omega), if_pos (by omega), rd_at]
    by_cases hx : l.getD (a + i) 0 > 127
    ·rw [if_pos hx, if_pos hx, show wrap64 ((i : Int) + 1) = ((i + 1 : Nat) : Int) from by unfold wrap64; omega]
     obtain ⟨k', h1, h2⟩ := ref_l0 l a ha hL f (i + 1) k (by omega) (by omega) (by omega)
     refine ⟨k', by omega, ?_⟩
     rw [h2, show a + (i + 1) = a + i + 1 from by omega, show i + 1 + cnt f (l.drop (a + i + 1)) = i + (cnt f (l.drop (a + i + 1)) + 1) from by omega]
    ·rw [if_neg hx, if_neg hx]
     exact ⟨k, by omega, rfl⟩
  ·refine ⟨k, by omega, ?_⟩
   have e1 : wrap64 ((a : Int) + (i : Int)) = ((a + i : Nat) : Int) := by unfold wrap64; omega
   have hc : cnt f (l.drop (a + i)) = 0 := by
    have := (cnt_le f (l.drop (a + i))).2
    rw [List.length_drop] at this
    omega
   simp only [t_.l0]
   rw [e1, if_neg (by omega), hc, Nat.add_zero]
theorem ref_j1 (l : List Int) (a n : Nat) (ha : a ≤ l.length) (hn : n ≤ 10) (hL : l.length ≤ 140737488355328) (k : Nat) (hk : 2 ≤ k) : t_.j1 k l (a : Int) (n : Int) = if l.length ≤ a + n ∨ 10 ≤ n then some (0, 0) else t_.l1 (k - 2) l (a : Int) (n : Int) 0 (n : Int) := by
 obtain ⟨k, rfl⟩ : ∃ k', k = k' + 2 := ⟨k - 2, by omega⟩
 have e1 : wrap64 ((a : Int) + (n : Int)) = (a : Int) + (n : Int) := by unfold wrap64; omega
 simp only [t_.j1, t_.j2, Nat.add_sub_cancel, e1]
 by_cases h1 : l.length ≤ a + n
 ·rw [if_pos (by omega), if_pos trivial, if_pos (Or.inl h1)]
 ·rw [if_neg (by omega)]
  by_cases h2 : 10 ≤ n
  ·rw [if_pos (by simp; omega), if_pos (.inr h2)]
  ·rw [if_neg (by simp; omega), if_neg (by omega)]
theorem refget_f (l : List Int) (hb : bytesOk l) (a : Nat) (ha : a ≤ l.length) (hL : l.length ≤ 140737488355328) (k : Nat) (hk : 40 ≤ k) :
  t_.f k l (a : Int) = some (match gn 18446744073709551615 0 0 (l.drop a) with | (v, c, none) => (v, c) | (_, _, some _) => (0, 0)) := by
 unfold t_.f
 obtain ⟨k', h1, h2⟩ := ref_l0 l a ha hL 10 0 k rfl (by omega) (by omega)
 rw [show ((0 : Nat) : Int) = 0 from rfl] at h2
 rw [h2]
 simp only [Nat.add_zero, Nat.zero_add]
 have hc := cnt_le 10 (l.drop a)
 rw [List.length_drop] at hc
 rw [ref_j1 l a _ ha hc.1 hL k' (by omega)]
 have hbd : bytesOk (l.drop a) := fun x hx => hb x (List.mem_of_mem_drop hx)
 generalize hr : gn 18446744073709551615 0 0 (l.drop a) = r
 obtain ⟨v, c, er⟩ := r
 cases er with
 | none =>
  obtain ⟨_, m, g1, g2, g3, g4, g5, post, g6⟩ := gn_back 18446744073709551615 (l.drop a) 0 0 v c hbd hr
  simp only [Int.pow_zero, Int.mul_one, Int.zero_add] at g1 g5
  have hm : m < 18446744073709551616 := by omega
  have hel := enc_len 9 m (pow70 hm)
  have hep := enc_pos m
  have hlen := congrArg List.length g6
  rw [List.length_drop, List.length_append] at hlen
  have hcn : cnt 10 (l.drop a) = (enc m).length - 1 := by rw [g6]; exact cnt_enc post 10 m (by omega)
  rw [hcn, if_neg (by omega)]
  have h0 := ref_l1_enc l hb a ((enc m).length - 1) m post hm g6 ha (by omega) hL (enc m).length (k' - 2) (Nat.le_refl _) (by omega)
  rw [enc_top 10 m (pow70 hm), show ((enc m).length : Int) - 1 = (((enc m).length - 1 : Nat) : Int) from by omega] at h0
  rw [show (((0 : Nat) : Int)) = 0 from rfl] at h0
  rw [h0]
  unfold refEnd
  rw [Int.toNat_natCast, if_pos (by rw [g6, List.take_left' (by omega)])]
  congr 2
  ·exact g1.symm
  ·omega
 | some e =>
  simp only
  split
  ·rfl
  ·rename_i hno
   generalize cnt 10 (l.drop a) = n at *
   obtain ⟨u, u0, u1, hu⟩ := ref_l1_any l hb a n (by omega) hL (n + 1) (k' - 2) 0 (by omega) (by omega) (by omega) (by omega)
   rw [show ((n + 1 : Nat) : Int) - 1 = (n : Int) from by omega] at hu
   rw [hu]
   unfold refEnd
   rw [if_neg]
   intro he
   have := gn_written u.toNat (by omega) 18446744073709551615 (by omega) ((l.drop a).drop (n + 1))
   rw [he, List.take_append_drop, hr] at this
   simp at this
theorem gn_less (M m : Int) (h : m ≤ M) : ∀ (xs : List Int) (i : Nat) (n : Int), gn m i n xs = match gn M i n xs with | (v, c, none) => if v > m then (0, 0, some 7) else (v, c, none) | (v, c, some e) => (v, c, some e)
 | [], i, n => rfl
 | x :: xs, i, n => by
  simp only [gn]
  by_cases h1 : 10 ≤ i ∨ (x = 0 ∧ 0 < i) ∨ (1 < x ∧ i = 9)
  ·rw [if_pos h1, if_pos h1]
  ·rw [if_neg h1, if_neg h1]
   by_cases h2 : x ≥ 128
   ·rw [if_pos h2, if_pos h2]
    exact gn_less M m h xs (i + 1) _
   ·rw [if_neg h2, if_neg h2]
    by_cases h3 : n + x % 128 * 128 ^ i > M
    ·rw [if_pos h3, if_pos (by omega)]
    ·rw [if_neg h3]
end Go.Proofs.YtlcfcaokihoplaaGreatDoor.MsgL
