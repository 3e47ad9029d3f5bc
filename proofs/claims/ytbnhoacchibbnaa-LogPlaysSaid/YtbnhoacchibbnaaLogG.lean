/-
  What the reference's reading of a number tells, in plain lists. No condition is added.
-/
import Derived.Test.YtbnhoacchibbnaaLogP
namespace Go.Proofs.Ytbnhoacchibbnaa.Log
open Go.RowKit Go.Proofs.Ytbnhoacchibbnaa.Lw Go.Proofs.Ytbnhoacchibbnaa.Tape Go.Proofs.YtbnhoacchibbnaaW.PrintWords Go.Proofs.YtbnhoacchibbnaaW.PrintLast Go.Proofs.YtbnhoacchibbnaaW.PrintMore
set_option linter.unusedVariables false
set_option linter.unusedSimpArgs false
/-! ### the reference's reading of a number -/
/-- How many bytes beyond 127 stand in front, at most f. -/
def cnt : Nat → List Int → Nat
  | 0, _ => 0
  | _ + 1, [] => 0
  | f + 1, x :: xs => if x > 127 then cnt f xs + 1 else 0
theorem cnt_le : ∀ (f : Nat) (xs : List Int), cnt f xs ≤ f ∧ cnt f xs ≤ xs.length
  | 0, _ => by simp [cnt]
  | _ + 1, [] => by simp [cnt]
  | f + 1, x :: xs => by
    have := cnt_le f xs
    unfold cnt
    split
    · simp only [List.length_cons]; omega
    · simp
theorem cnt_enc (post : List Int) : ∀ (f m : Nat), (enc m).length ≤ f → cnt f (enc m ++ post) = (enc m).length - 1
  | 0, m, h => by have := enc_pos m; omega
  | f + 1, m, h => by
    by_cases hm : m < 128
    · rw [enc_small hm]
      simp only [List.cons_append, List.nil_append, cnt, List.length_singleton]
      rw [if_neg (by omega)]
    · rw [enc_more hm] at h ⊢
      simp only [List.cons_append, cnt, List.length_cons] at h ⊢
      have h1 := enc_pos (m / 128)
      rw [if_pos (by omega), cnt_enc post f (m / 128) (by omega)]
      omega
theorem enc_div : ∀ (j m : Nat), j < (enc m).length → (enc m).getD j 0 % 128 = ((m / 128 ^ j % 128 : Nat) : Int)
  | 0, m, _ => by
    by_cases hm : m < 128
    · rw [enc_small hm]
      simp
    · rw [enc_more hm]
      simp
  | j + 1, m, h => by
    by_cases hm : m < 128
    · rw [enc_small hm] at h; simp at h
    · rw [enc_more hm] at h ⊢
      simp only [List.length_cons] at h
      have := enc_div j (m / 128) (by omega)
      rw [List.getD_cons_succ, this, Nat.div_div_eq_div_mul, Nat.pow_succ, Nat.mul_comm 128]
theorem enc_top (n : Nat) : ∀ m : Nat, m < 128 ^ n → m / 128 ^ (enc m).length = 0 := by
  induction n with
  | zero =>
    intro m h
    have : m = 0 := by simpa using h
    subst this
    simp
  | succ n ih =>
    intro m h
    by_cases hm : m < 128
    · rw [enc_small hm]; simp; omega
    · rw [enc_more hm, List.length_cons, Nat.pow_succ, Nat.mul_comm, ← Nat.div_div_eq_div_mul]
      exact ih (m / 128) (by rw [Nat.div_lt_iff_lt_mul (by decide)]; rw [Nat.pow_succ] at h; exact h)

/-- What is answered once the number is put together. -/
def refEnd (l : List Int) (a n : Nat) (u : Int) : Int × Int := if enc u.toNat = (l.drop a).take (n + 1) then (u, (n : Int) + 1) else (0, 0)

theorem ref_l1_end (l : List Int) (hb : bytesOk l) (a n : Nat) (u : Int) (h0 : 0 ≤ u) (h1 : u < 18446744073709551616) (hl : a + n + 1 ≤ l.length) (hL : l.length ≤ 140737488355328) (k : Nat) (hk : 11 < k) :
    becketref01_GetNum.l1 k l (a : Int) (n : Int) u (-1) = some (refEnd l a n u) := by
  obtain ⟨k, rfl⟩ : ∃ k', k = k' + 1 := ⟨k - 1, by omega⟩
  obtain ⟨v, rfl⟩ := Int.eq_ofNat_of_zero_le h0
  have e1 : wrap64 ((a : Int) + (n : Int)) = (a : Int) + (n : Int) := by unfold wrap64; omega
  have e2 : wrap64 ((a : Int) + (n : Int) + 1) = ((a + (n + 1) : Nat) : Int) := by unfold wrap64; omega
  have e3 : wrap64 ((n : Int) + 1) = (n : Int) + 1 := by unfold wrap64; omega
  have e4 : (l.take (a + (n + 1))).drop a = (l.drop a).take (n + 1) := by rw [List.drop_take]; congr 1; omega
  simp only [becketref01_GetNum.l1]
  rw [if_neg (by omega), refnum_f v (by omega) k (by omega), Option.bind_some, e1, e2, if_pos (by omega), if_pos (by omega), if_pos (by omega), e3, Int.toNat_natCast, Int.toNat_natCast, e4]
  unfold refEnd
  rw [Int.toNat_natCast]
  by_cases hq : enc v = (l.drop a).take (n + 1)
  · rw [if_pos (by rw [hq]), if_pos hq]
  · rw [if_neg (fun he => hq (str_inj (enc_bytes 9 v (pow70 (by omega))) (fun x hx => hb x (List.mem_of_mem_drop (List.mem_of_mem_take hx))) he)), if_neg hq]

theorem ref_l1_step (l : List Int) (hb : bytesOk l) (a n j : Nat) (u : Int) (hj : a + j < l.length) (hL : l.length ≤ 140737488355328) (k : Nat) :
    becketref01_GetNum.l1 (k + 1) l (a : Int) (n : Int) u (j : Int) = becketref01_GetNum.l1 k l (a : Int) (n : Int) (IntKind.u64.wrap (IntKind.u64.wrap (u * 128) + (l.getD (a + j) 0) % 128)) ((j : Int) - 1) := by
  have e1 : wrap64 ((a : Int) + (j : Int)) = ((a + j : Nat) : Int) := by unfold wrap64; omega
  have e2 : wrap64 ((j : Int) - 1) = (j : Int) - 1 := by unfold wrap64; omega
  have hx := hb _ (mem_getD l (a + j) hj)
  have e3 : IntKind.u64.wrap (Int.tmod (rd l ((a + j : Nat) : Int)) 128) = (l.getD (a + j) 0) % 128 := by
    rw [rd_at, Int.tmod_eq_emod_of_nonneg hx.1, wu64 (by omega) (by omega)]
  conv => lhs; simp only [becketref01_GetNum.l1]
  rw [if_pos (by omega), e1, if_pos (by omega), if_pos (by omega), e2, e3]

theorem ref_l1_any (l : List Int) (hb : bytesOk l) (a n : Nat) (hl : a + n + 1 ≤ l.length) (hL : l.length ≤ 140737488355328) : ∀ (j k : Nat) (u : Int), 0 ≤ u → u < 18446744073709551616 → a + j ≤ l.length → j + 11 < k →
    ∃ u', 0 ≤ u' ∧ u' < 18446744073709551616 ∧ becketref01_GetNum.l1 k l (a : Int) (n : Int) u ((j : Int) - 1) = some (refEnd l a n u')
  | 0, k, u, h0, h1, _, hk => ⟨u, h0, h1, by rw [show ((0 : Nat) : Int) - 1 = -1 from rfl]; exact ref_l1_end l hb a n u h0 h1 hl hL k (by omega)⟩
  | j + 1, k, u, h0, h1, ha, hk => by
    obtain ⟨k, rfl⟩ : ∃ k', k = k' + 1 := ⟨k - 1, by omega⟩
    rw [show ((j + 1 : Nat) : Int) - 1 = (j : Int) from by omega, ref_l1_step l hb a n j u (by omega) hL k]
    exact ref_l1_any l hb a n hl hL j k _ (by rw [IntKind.wrap_u64]; omega) (by rw [IntKind.wrap_u64]; omega) (by omega) (by omega)

theorem ref_l1_enc (l : List Int) (hb : bytesOk l) (a n m : Nat) (post : List Int) (hm : m < 18446744073709551616) (hd : l.drop a = enc m ++ post) (ha : a ≤ l.length) (hn : n + 1 = (enc m).length) (hL : l.length ≤ 140737488355328) : ∀ (j k : Nat), j ≤ (enc m).length → j + 11 < k →
    becketref01_GetNum.l1 k l (a : Int) (n : Int) ((m / 128 ^ j : Nat) : Int) ((j : Int) - 1) = some (refEnd l a n (m : Int))
  | 0, k, _, hk => by
    have hlen := congrArg List.length hd
    rw [List.length_drop, List.length_append] at hlen
    rw [show ((0 : Nat) : Int) - 1 = -1 from rfl, Nat.pow_zero, Nat.div_one]
    exact ref_l1_end l hb a n (m : Int) (by omega) (by omega) (by omega) hL k (by omega)
  | j + 1, k, hj, hk => by
    have hlen := congrArg List.length hd
    rw [List.length_drop, List.length_append] at hlen
    obtain ⟨k, rfl⟩ : ∃ k', k = k' + 1 := ⟨k - 1, by omega⟩
    rw [show ((j + 1 : Nat) : Int) - 1 = (j : Int) from by omega, ref_l1_step l hb a n j _ (by omega) hL k]
    have hg : l.getD (a + j) 0 = (enc m).getD j 0 := by
      have h1 : (l.drop a).getD j 0 = l.getD (a + j) 0 := by simp [List.getD]
      rw [← h1, hd]
      simp only [List.getD]
      rw [List.getElem?_append_left (by omega)]
    have hle : m / 128 ^ j ≤ m := Nat.div_le_self _ _
    have hdv : m / 128 ^ (j + 1) = m / 128 ^ j / 128 := by rw [Nat.pow_succ, Nat.div_div_eq_div_mul]
    have ih := ref_l1_enc l hb a n m post hm hd ha hn hL j k (by omega) (by omega)
    rw [hg, enc_div j m (by omega), hdv]
    generalize m / 128 ^ j = x at *
    have e1 : IntKind.u64.wrap (((x / 128 : Nat) : Int) * 128) = ((x / 128 : Nat) : Int) * 128 := wu64 (by omega) (by omega)
    have e2 : IntKind.u64.wrap (((x / 128 : Nat) : Int) * 128 + ((x % 128 : Nat) : Int)) = (x : Int) := by rw [wu64 (by omega) (by omega)]; omega
    rw [e1, e2]
    exact ih

theorem ref_l0 (l : List Int) (a : Nat) (ha : a ≤ l.length) (hL : l.length ≤ 140737488355328) : ∀ (f i k : Nat), f = 10 - i → i ≤ 10 → f < k → ∃ k', k ≤ k' + f + 1 ∧ becketref01_GetNum.l0 k l (a : Int) (i : Int) = becketref01_GetNum.j1 k' l (a : Int) ((i + cnt f (l.drop (a + i)) : Nat) : Int)
  | f, i, k, hf, hi, hk => by
    obtain ⟨k, rfl⟩ : ∃ k', k = k' + 1 := ⟨k - 1, by omega⟩
    by_cases hb : a + i < l.length
    · have e1 : wrap64 ((a : Int) + (i : Int)) = ((a + i : Nat) : Int) := by unfold wrap64; omega
      have hdc : l.drop (a + i) = l.getD (a + i) 0 :: l.drop (a + i + 1) := drop_cons l (a + i) hb
      match f, hf with
      | 0, hf =>
        refine ⟨k, by omega, ?_⟩
        simp only [becketref01_GetNum.l0, cnt]
        rw [e1, if_pos (by omega), if_neg (by omega), Nat.add_zero]
      | f + 1, hf =>
        rw [hdc]
        simp only [becketref01_GetNum.l0, cnt]
        rw [e1, if_pos (by omega), if_pos (by omega), if_pos (by omega), rd_at]
        by_cases hx : l.getD (a + i) 0 > 127
        · rw [if_pos hx, if_pos hx, show wrap64 ((i : Int) + 1) = ((i + 1 : Nat) : Int) from by unfold wrap64; omega]
          obtain ⟨k', h1, h2⟩ := ref_l0 l a ha hL f (i + 1) k (by omega) (by omega) (by omega)
          refine ⟨k', by omega, ?_⟩
          rw [h2, show a + (i + 1) = a + i + 1 from by omega, show i + 1 + cnt f (l.drop (a + i + 1)) = i + (cnt f (l.drop (a + i + 1)) + 1) from by omega]
        · rw [if_neg hx, if_neg hx]
          exact ⟨k, by omega, rfl⟩
    · refine ⟨k, by omega, ?_⟩
      have e1 : wrap64 ((a : Int) + (i : Int)) = ((a + i : Nat) : Int) := by unfold wrap64; omega
      have hc : cnt f (l.drop (a + i)) = 0 := by
        have := (cnt_le f (l.drop (a + i))).2
        rw [List.length_drop] at this
        omega
      simp only [becketref01_GetNum.l0]
      rw [e1, if_neg (by omega), hc, Nat.add_zero]

theorem ref_j1 (l : List Int) (a n : Nat) (ha : a ≤ l.length) (hn : n ≤ 10) (hL : l.length ≤ 140737488355328) (k : Nat) (hk : 2 ≤ k) : becketref01_GetNum.j1 k l (a : Int) (n : Int) = if l.length ≤ a + n ∨ 10 ≤ n then some (0, 0) else becketref01_GetNum.l1 (k - 2) l (a : Int) (n : Int) 0 (n : Int) := by
  obtain ⟨k, rfl⟩ : ∃ k', k = k' + 2 := ⟨k - 2, by omega⟩
  have e1 : wrap64 ((a : Int) + (n : Int)) = (a : Int) + (n : Int) := by unfold wrap64; omega
  simp only [becketref01_GetNum.j1, becketref01_GetNum.j2, Nat.add_sub_cancel, e1]
  by_cases h1 : l.length ≤ a + n
  · rw [if_pos (by omega), if_pos trivial, if_pos (Or.inl h1)]
  · rw [if_neg (by omega)]
    by_cases h2 : 10 ≤ n
    · rw [if_pos (by simp; omega), if_pos (.inr h2)]
    · rw [if_neg (by simp; omega), if_neg (by omega)]

/-- What the reference reads is what is read. -/
theorem refget_f (l : List Int) (hb : bytesOk l) (a : Nat) (ha : a ≤ l.length) (hL : l.length ≤ 140737488355328) (k : Nat) (hk : 40 ≤ k) :
    becketref01_GetNum.f k l (a : Int) = some (match gn 18446744073709551615 0 0 (l.drop a) with | (v, c, none) => (v, c) | (_, _, some _) => (0, 0)) := by
  unfold becketref01_GetNum.f
  obtain ⟨k', h1, h2⟩ := ref_l0 l a ha hL 10 0 k rfl (by omega) (by omega)
  rw [show ((0 : Nat) : Int) = 0 from rfl] at h2
  rw [h2]
  simp only [Nat.add_zero, Nat.zero_add]
  have hc := cnt_le 10 (l.drop a)
  rw [List.length_drop] at hc
  rw [ref_j1 l a _ ha hc.1 hL k' (by omega)]
  have hbd : bytesOk (l.drop a) := fun x hx => hb x (List.mem_of_mem_drop hx)
  generalize hr : gn 18446744073709551615 0 0 (l.drop a) = r
  obtain ⟨v, c, er⟩ := r
  cases er with
  | none =>
    obtain ⟨_, m, g1, g2, g3, g4, g5, post, g6⟩ := gn_back 18446744073709551615 (l.drop a) 0 0 v c hbd hr
    simp only [Int.pow_zero, Int.mul_one, Int.zero_add] at g1 g5
    have hm : m < 18446744073709551616 := by omega
    have hel := enc_len 9 m (pow70 hm)
    have hep := enc_pos m
    have hlen := congrArg List.length g6
    rw [List.length_drop, List.length_append] at hlen
    have hcn : cnt 10 (l.drop a) = (enc m).length - 1 := by rw [g6]; exact cnt_enc post 10 m (by omega)
    rw [hcn, if_neg (by omega)]
    have h0 := ref_l1_enc l hb a ((enc m).length - 1) m post hm g6 ha (by omega) hL (enc m).length (k' - 2) (Nat.le_refl _) (by omega)
    rw [enc_top 10 m (pow70 hm), show ((enc m).length : Int) - 1 = (((enc m).length - 1 : Nat) : Int) from by omega] at h0
    rw [show (((0 : Nat) : Int)) = 0 from rfl] at h0
    rw [h0]
    unfold refEnd
    rw [Int.toNat_natCast, if_pos (by rw [g6, List.take_left' (by omega)])]
    congr 2
    · exact g1.symm
    · omega
  | some e =>
    simp only
    split
    · rfl
    · rename_i hno
      generalize cnt 10 (l.drop a) = n at *
      obtain ⟨u, u0, u1, hu⟩ := ref_l1_any l hb a n (by omega) hL (n + 1) (k' - 2) 0 (by omega) (by omega) (by omega) (by omega)
      rw [show ((n + 1 : Nat) : Int) - 1 = (n : Int) from by omega] at hu
      rw [hu]
      unfold refEnd
      rw [if_neg]
      intro he
      have := gn_written u.toNat (by omega) 18446744073709551615 (by omega) ((l.drop a).drop (n + 1))
      rw [he, List.take_append_drop, hr] at this
      simp at this

/-- Less allowed: the same, or too great. -/
theorem gn_less (M m : Int) (h : m ≤ M) : ∀ (xs : List Int) (i : Nat) (n : Int), gn m i n xs = match gn M i n xs with | (v, c, none) => if v > m then (0, 0, some 7) else (v, c, none) | (v, c, some e) => (v, c, some e)
  | [], i, n => rfl
  | x :: xs, i, n => by
    simp only [gn]
    by_cases h1 : 10 ≤ i ∨ (x = 0 ∧ 0 < i) ∨ (1 < x ∧ i = 9)
    · rw [if_pos h1, if_pos h1]
    · rw [if_neg h1, if_neg h1]
      by_cases h2 : x ≥ 128
      · rw [if_pos h2, if_pos h2]
        exact gn_less M m h xs (i + 1) _
      · rw [if_neg h2, if_neg h2]
        by_cases h3 : n + x % 128 * 128 ^ i > M
        · rw [if_pos h3, if_pos (by omega)]
        · rw [if_neg h3]
end Go.Proofs.Ytbnhoacchibbnaa.Log
