-- Cut by a program of this session (wip/shake.py) out of a text of this seat: what this claim doesn't reach is struck out. Lean checks it.
import Derived.Test.YtkaoojcafefjjaaMwxCp
import Derived.Laws.BitsLemmas
import Derived.Laws.Bits64
namespace Go.Proofs.Ytkaoojcafefjjaa.MsgL
open Go.RowKit Go.Proofs.Ytkaoojcafefjjaa.Mw Go.Proofs.YtkaoojcafefjjaaW.PrintWords Go.Proofs.YtkaoojcafefjjaaW.PrintLast Go.Proofs.YtkaoojcafefjjaaW.PrintMore
set_option linter.unusedVariables false
set_option linter.unusedSimpArgs false
def enc (n : Nat) : List Int := if n < 128 then [(n : Int)] else ((n % 128 + 128 : Nat) : Int) :: enc (n / 128)
termination_by n
decreasing_by omega
theorem enc_small {n : Nat} (h : n < 128) : enc n = [(n : Int)] := by rw [enc, if_pos h]
theorem enc_more {n : Nat} (h : ¬ n < 128) : enc n = ((n % 128 + 128 : Nat) : Int) :: enc (n / 128) := by rw [enc, if_neg h]
theorem enc_len (j : Nat) : ∀ n : Nat, n < 128 ^ (j + 1) → (enc n).length ≤ j + 1 := by
  induction j with
  | zero => intro n h; rw [enc_small (by simpa using h)]; simp
  | succ j ih =>
    intro n h
    by_cases hn : n < 128
    · rw [enc_small hn]; simp
    · rw [enc_more hn, List.length_cons]
      have := ih (n / 128) (by rw [Nat.div_lt_iff_lt_mul (by decide)]; rw [Nat.pow_succ] at h; exact h)
      omega
theorem pow70 {n : Nat} (h : n < 18446744073709551616) : n < 128 ^ (9 + 1) := Nat.lt_trans h (by decide)
theorem or128 : ∀ m : Fin 256, Go.bits .or .u8 ((m.val : Nat) : Int) 128 = ((m.val % 128 + 128 : Nat) : Int) := by decide +kernel
theorem wu64 {x : Int} (h0 : 0 ≤ x) (h1 : x < 18446744073709551616) : IntKind.u64.wrap x = x := by rw [IntKind.wrap_u64]; omega
theorem num_l (j : Nat) : ∀ (n : Nat) (acc : List Int) (k : Nat), n < 128 ^ (j + 1) → j < k → acc.length + j < 140737488355327 → wire_Num.l0 k (n : Int) acc = some (acc ++ enc n) := by
  induction j with
  | zero =>
    intro n acc k h hk hl
    obtain ⟨k, rfl⟩ : ∃ m, k = m + 1 := ⟨k - 1, by omega⟩
    have hn : n < 128 := by simpa using h
    simp only [wire_Num.l0]
    rw [if_neg (by omega), if_pos (by omega), enc_small hn, show ((n : Int) % 256) = (n : Int) from by omega]
  | succ j ih =>
    intro n acc k h hk hl
    obtain ⟨k, rfl⟩ : ∃ m, k = m + 1 := ⟨k - 1, by omega⟩
    simp only [wire_Num.l0]
    by_cases hn : n < 128
    · rw [if_neg (by omega), if_pos (by omega), enc_small hn, show ((n : Int) % 256) = (n : Int) from by omega]
    · have e := or128 ⟨n % 256, Nat.mod_lt _ (by decide)⟩
      simp only at e
      rw [if_pos (by omega), if_pos (by omega), show ((n : Int) / 128) = ((n / 128 : Nat) : Int) from by omega, show ((n : Int) % 256) = ((n % 256 : Nat) : Int) from by omega, e,
        ih (n / 128) _ k (by rw [Nat.div_lt_iff_lt_mul (by decide)]; rw [Nat.pow_succ] at h; exact h) (by omega) (by simp; omega), enc_more hn, show n % 256 % 128 = n % 128 from by omega]
      simp
theorem num_f (l : List Int) (n : Nat) (hn : n < 18446744073709551616) (hl : l.length < 140737488355300) (k : Nat) (hk : 10 < k) : wire_Num.f k l (n : Int) = some (l ++ enc n) := by
  unfold wire_Num.f slices_Clone_byte_byte.f
  rw [if_pos (by omega)]; simp only [Option.bind_some]
  exact num_l 9 n l k (pow70 hn) (by omega) (by omega)
theorem size_wrap (s : ByteArray) (hs : s.size ≤ 140737488351232) : IntKind.u64.wrap (s.size : Int) = ((s.size : Nat) : Int) := wu64 (by omega) (by omega)
theorem text_f (l : List Int) (s : ByteArray) (hs : s.size ≤ 140737488351232) (hl : l.length + s.size < 140737488355300) (k : Nat) (hk : 10 < k) : wire_Text.f k l s = some (l ++ enc s.size ++ bytesOf s) := by
  unfold wire_Text.f
  rw [size_wrap s hs, num_f l s.size (by omega) (by omega) k hk]; simp only [Option.bind_some]
  have := enc_len 9 s.size (pow70 (by omega))
  rw [if_pos (by rw [List.length_append]; omega)]
theorem refnum_l (j : Nat) : ∀ (n : Nat) (acc : List Int) (k : Nat), n < 128 ^ (j + 1) → n < 18446744073709551616 → j < k → acc.length + j < 140737488355327 → becketref01_Num.l0 k (n : Int) acc = some (acc ++ enc n) := by
  induction j with
  | zero =>
    intro n acc k h _ hk hl
    obtain ⟨k, rfl⟩ : ∃ m, k = m + 1 := ⟨k - 1, by omega⟩
    have hn : n < 128 := by simpa using h
    simp only [becketref01_Num.l0]
    rw [if_neg (by omega), if_pos (by omega), enc_small hn, show ((n : Int) % 256) = (n : Int) from by omega]
  | succ j ih =>
    intro n acc k h h64 hk hl
    obtain ⟨k, rfl⟩ : ∃ m, k = m + 1 := ⟨k - 1, by omega⟩
    simp only [becketref01_Num.l0]
    by_cases hn : n < 128
    · rw [if_neg (by omega), if_pos (by omega), enc_small hn, show ((n : Int) % 256) = (n : Int) from by omega]
    · have e1 : Int.tdiv (n : Int) 128 = ((n / 128 : Nat) : Int) := by rw [Int.tdiv_eq_ediv_of_nonneg (by omega)]; omega
      have e2 : Int.tmod (n : Int) 128 = ((n % 128 : Nat) : Int) := by rw [Int.tmod_eq_emod_of_nonneg (by omega)]; omega
      rw [if_pos (by omega), if_pos (by omega), e1, e2, wu64 (x := ((n / 128 : Nat) : Int)) (by omega) (by omega), wu64 (x := ((n % 128 : Nat) : Int) + 128) (by omega) (by omega),
        show (((n % 128 : Nat) : Int) + 128) % 256 = ((n % 128 + 128 : Nat) : Int) from by omega,
        ih (n / 128) _ k (by rw [Nat.div_lt_iff_lt_mul (by decide)]; rw [Nat.pow_succ] at h; exact h) (by omega) (by omega) (by simp; omega), enc_more hn]
      simp
theorem refnum_f (n : Nat) (hn : n < 18446744073709551616) (k : Nat) (hk : 10 < k) : becketref01_Num.f k (n : Int) = some (enc n) := by
  unfold becketref01_Num.f
  rw [refnum_l 9 n [] k (pow70 hn) hn (by omega) (by simp)]
  simp
theorem reftext_f (s : ByteArray) (hs : s.size ≤ 140737488351232) (k : Nat) (hk : 10 < k) : becketref01_Text.f k s = some (enc s.size ++ bytesOf s) := by
  unfold becketref01_Text.f
  rw [size_wrap s hs, refnum_f s.size (by omega) k hk]; simp only [Option.bind_some]
  have := enc_len 9 s.size (pow70 (by omega))
  rw [if_pos (by omega)]
end Go.Proofs.Ytkaoojcafefjjaa.MsgL
