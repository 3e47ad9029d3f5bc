-- Cut by a program of this session (wip/shake.py) out of a text of this seat: what this claim doesn't reach is struck out. Lean checks it.
import Derived.Test.YtghfofjlafeliaaDoorPureOBCg
import Derived.Laws.BitsLemmas
import Derived.Laws.Bits64
import Derived.Lib.Hide
import Derived.BigRegion
namespace Go.Proofs.YtghfofjlafeliaaDoor.OrderR
open Go.RowKit Go.Proofs.YtghfofjlafeliaaDoor.Order Go.Proofs.YtghfofjlafeliaaDoor.Ow Go.Proofs.YtghfofjlafeliaaDoorW.PrintWords Go.Proofs.YtghfofjlafeliaaDoorW.PrintLast Go.Proofs.YtghfofjlafeliaaDoorW.PrintMore
set_option linter.unusedVariables false
set_option linter.unusedSimpArgs false
theorem refnum_l (j : Nat) : ∀ (n : Nat) (acc : List Int) (k : Nat), n < 128 ^ (j + 1) → n < 18446744073709551616 → j < k → acc.length + j < 140737488355327 → becketref01_Num.l0 k (n : Int) acc = some (acc ++ enc n) := by
  induction j with
  | zero =>
    intro n acc k h _ hk hl
    obtain ⟨k, rfl⟩ : ∃ m, k = m + 1 := ⟨k - 1, by omega⟩
    have hn : n < 128 := by simpa using h
    simp only [becketref01_Num.l0]
    rw [if_neg (by omega), if_pos (by omega), enc_small hn, show ((n : Int) % 256) = (n : Int) from by omega]
  | succ j ih =>
    intro n acc k h h64 hk hl
    obtain ⟨k, rfl⟩ : ∃ m, k = m + 1 := ⟨k - 1, by omega⟩
    simp only [becketref01_Num.l0]
    by_cases hn : n < 128
    · rw [if_neg (by omega), if_pos (by omega), enc_small hn, show ((n : Int) % 256) = (n : Int) from by omega]
    · have e1 : Int.tdiv (n : Int) 128 = ((n / 128 : Nat) : Int) := by rw [Int.tdiv_eq_ediv_of_nonneg (by omega)]; omega
      have e2 : Int.tmod (n : Int) 128 = ((n % 128 : Nat) : Int) := by rw [Int.tmod_eq_emod_of_nonneg (by omega)]; omega
      rw [if_pos (by omega), if_pos (by omega), e1, e2, wu64 (x := ((n / 128 : Nat) : Int)) (by omega) (by omega), wu64 (x := ((n % 128 : Nat) : Int) + 128) (by omega) (by omega),
        show (((n % 128 : Nat) : Int) + 128) % 256 = ((n % 128 + 128 : Nat) : Int) from by omega,
        ih (n / 128) _ k (by rw [Nat.div_lt_iff_lt_mul (by decide)]; rw [Nat.pow_succ] at h; exact h) (by omega) (by omega) (by simp; omega), enc_more hn]
      simp
theorem refnum_f (n : Nat) (hn : n < 18446744073709551616) (k : Nat) (hk : 10 < k) : becketref01_Num.f k (n : Int) = some (enc n) := by
  unfold becketref01_Num.f
  rw [refnum_l 9 n [] k (pow70 hn) hn (by omega) (by simp)]
  simp
def cnt : Nat → List Int → Nat
  | 0, _ => 0
  | _ + 1, [] => 0
  | f + 1, x :: xs => if x > 127 then cnt f xs + 1 else 0
theorem cnt_le : ∀ (f : Nat) (xs : List Int), cnt f xs ≤ f ∧ cnt f xs ≤ xs.length
  | 0, _ => by simp [cnt]
  | _ + 1, [] => by simp [cnt]
  | f + 1, x :: xs => by
    have := cnt_le f xs
    unfold cnt
    split
    · simp only [List.length_cons]; omega
    · simp
theorem cnt_enc (post : List Int) : ∀ (f m : Nat), (enc m).length ≤ f → cnt f (enc m ++ post) = (enc m).length - 1
  | 0, m, h => by have := enc_pos m; omega
  | f + 1, m, h => by
    by_cases hm : m < 128
    · rw [enc_small hm]
      simp only [List.cons_append, List.nil_append, cnt, List.length_singleton]
      rw [if_neg (by omega)]
    · rw [enc_more hm] at h ⊢
      simp only [List.cons_append, cnt, List.length_cons] at h ⊢
      have h1 := enc_pos (m / 128)
      rw [if_pos (by omega), cnt_enc post f (m / 128) (by omega)]
      omega
theorem enc_div : ∀ (j m : Nat), j < (enc m).length → (enc m).getD j 0 % 128 = ((m / 128 ^ j % 128 : Nat) : Int)
  | 0, m, _ => by
    by_cases hm : m < 128
    · rw [enc_small hm]
      simp
    · rw [enc_more hm]
      simp
  | j + 1, m, h => by
    by_cases hm : m < 128
    · rw [enc_small hm] at h; simp at h
    · rw [enc_more hm] at h ⊢
      simp only [List.length_cons] at h
      have := enc_div j (m / 128) (by omega)
      rw [List.getD_cons_succ, this, Nat.div_div_eq_div_mul, Nat.pow_succ, Nat.mul_comm 128]
theorem enc_top (n : Nat) : ∀ m : Nat, m < 128 ^ n → m / 128 ^ (enc m).length = 0 := by
  induction n with
  | zero =>
    intro m h
    have : m = 0 := by simpa using h
    subst this
    simp
  | succ n ih =>
    intro m h
    by_cases hm : m < 128
    · rw [enc_small hm]; simp; omega
    · rw [enc_more hm, List.length_cons, Nat.pow_succ, Nat.mul_comm, ← Nat.div_div_eq_div_mul]
      exact ih (m / 128) (by rw [Nat.div_lt_iff_lt_mul (by decide)]; rw [Nat.pow_succ] at h; exact h)
def refEnd (l : List Int) (a n : Nat) (u : Int) : Int × Int := if enc u.toNat = (l.drop a).take (n + 1) then (u, (n : Int) + 1) else (0, 0)
theorem ref_l1_end (l : List Int) (hb : bytesOk l) (a n : Nat) (u : Int) (h0 : 0 ≤ u) (h1 : u < 18446744073709551616) (hl : a + n + 1 ≤ l.length) (hL : l.length ≤ 140737488355328) (k : Nat) (hk : 11 < k) :
    becketref01_GetNum.l1 k l (a : Int) (n : Int) u (-1) = some (refEnd l a n u) := by
  obtain ⟨k, rfl⟩ : ∃ k', k = k' + 1 := ⟨k - 1, by omega⟩
  obtain ⟨v, rfl⟩ := Int.eq_ofNat_of_zero_le h0
  have e1 : wrap64 ((a : Int) + (n : Int)) = (a : Int) + (n : Int) := by unfold wrap64; omega
  have e2 : wrap64 ((a : Int) + (n : Int) + 1) = ((a + (n + 1) : Nat) : Int) := by unfold wrap64; omega
  have e3 : wrap64 ((n : Int) + 1) = (n : Int) + 1 := by unfold wrap64; omega
  have e4 : (l.take (a + (n + 1))).drop a = (l.drop a).take (n + 1) := by rw [List.drop_take]; congr 1; omega
  simp only [becketref01_GetNum.l1]
  rw [if_neg (by omega), refnum_f v (by omega) k (by omega), Option.bind_some, e1, e2, if_pos (by omega), if_pos (by omega), if_pos (by omega), e3, Int.toNat_natCast, Int.toNat_natCast, e4]
  unfold refEnd
  rw [Int.toNat_natCast]
  by_cases hq : enc v = (l.drop a).take (n + 1)
  · rw [if_pos (by rw [hq]), if_pos hq]
  · rw [if_neg (fun he => hq (str_inj (enc_bytes 9 v (pow70 (by omega))) (fun x hx => hb x (List.mem_of_mem_drop (List.mem_of_mem_take hx))) he)), if_neg hq]
theorem ref_l1_step (l : List Int) (hb : bytesOk l) (a n j : Nat) (u : Int) (hj : a + j < l.length) (hL : l.length ≤ 140737488355328) (k : Nat) :
    becketref01_GetNum.l1 (k + 1) l (a : Int) (n : Int) u (j : Int) = becketref01_GetNum.l1 k l (a : Int) (n : Int) (IntKind.u64.wrap (IntKind.u64.wrap (u * 128) + (l.getD (a + j) 0) % 128)) ((j : Int) - 1) := by
  have e1 : wrap64 ((a : Int) + (j : Int)) = ((a + j : Nat) : Int) := by unfold wrap64; omega
  have e2 : wrap64 ((j : Int) - 1) = (j : Int) - 1 := by unfold wrap64; omega
  have hx := hb _ (mem_getD l (a + j) hj)
  have e3 : IntKind.u64.wrap (Int.tmod (rd l ((a + j : Nat) : Int)) 128) = (l.getD (a + j) 0) % 128 := by
    rw [rd_at, Int.tmod_eq_emod_of_nonneg hx.1, wu64 (by omega) (by omega)]
  conv => lhs; simp only [becketref01_GetNum.l1]
  rw [if_pos (by omega), e1, if_pos (by omega), if_pos (by omega), e2, e3]
theorem ref_l1_any (l : List Int) (hb : bytesOk l) (a n : Nat) (hl : a + n + 1 ≤ l.length) (hL : l.length ≤ 140737488355328) : ∀ (j k : Nat) (u : Int), 0 ≤ u → u < 18446744073709551616 → a + j ≤ l.length → j + 11 < k →
    ∃ u', 0 ≤ u' ∧ u' < 18446744073709551616 ∧ becketref01_GetNum.l1 k l (a : Int) (n : Int) u ((j : Int) - 1) = some (refEnd l a n u')
  | 0, k, u, h0, h1, _, hk => ⟨u, h0, h1, by rw [show ((0 : Nat) : Int) - 1 = -1 from rfl]; exact ref_l1_end l hb a n u h0 h1 hl hL k (by omega)⟩
  | j + 1, k, u, h0, h1, ha, hk => by
    obtain ⟨k, rfl⟩ : ∃ k', k = k' + 1 := ⟨k - 1, by omega⟩
    rw [show ((j + 1 : Nat) : Int) - 1 = (j : Int) from by omega, ref_l1_step l hb a n j u (by omega) hL k]
    exact ref_l1_any l hb a n hl hL j k _ (by rw [IntKind.wrap_u64]; omega) (by rw [IntKind.wrap_u64]; omega) (by omega) (by omega)
theorem ref_l1_enc (l : List Int) (hb : bytesOk l) (a n m : Nat) (post : List Int) (hm : m < 18446744073709551616) (hd : l.drop a = enc m ++ post) (ha : a ≤ l.length) (hn : n + 1 = (enc m).length) (hL : l.length ≤ 140737488355328) : ∀ (j k : Nat), j ≤ (enc m).length → j + 11 < k →
    becketref01_GetNum.l1 k l (a : Int) (n : Int) ((m / 128 ^ j : Nat) : Int) ((j : Int) - 1) = some (refEnd l a n (m : Int))
  | 0, k, _, hk => by
    have hlen := congrArg List.length hd
    rw [List.length_drop, List.length_append] at hlen
    rw [show ((0 : Nat) : Int) - 1 = -1 from rfl, Nat.pow_zero, Nat.div_one]
    exact ref_l1_end l hb a n (m : Int) (by omega) (by omega) (by omega) hL k (by omega)
  | j + 1, k, hj, hk => by
    have hlen := congrArg List.length hd
    rw [List.length_drop, List.length_append] at hlen
    obtain ⟨k, rfl⟩ : ∃ k', k = k' + 1 := ⟨k - 1, by omega⟩
    rw [show ((j + 1 : Nat) : Int) - 1 = (j : Int) from by omega, ref_l1_step l hb a n j _ (by omega) hL k]
    have hg : l.getD (a + j) 0 = (enc m).getD j 0 := by
      have h1 : (l.drop a).getD j 0 = l.getD (a + j) 0 := by simp [List.getD]
      rw [← h1, hd]
      simp only [List.getD]
      rw [List.getElem?_append_left (by omega)]
    have hle : m / 128 ^ j ≤ m := Nat.div_le_self _ _
    have hdv : m / 128 ^ (j + 1) = m / 128 ^ j / 128 := by rw [Nat.pow_succ, Nat.div_div_eq_div_mul]
    have ih := ref_l1_enc l hb a n m post hm hd ha hn hL j k (by omega) (by omega)
    rw [hg, enc_div j m (by omega), hdv]
    generalize m / 128 ^ j = x at *
    have e1 : IntKind.u64.wrap (((x / 128 : Nat) : Int) * 128) = ((x / 128 : Nat) : Int) * 128 := wu64 (by omega) (by omega)
    have e2 : IntKind.u64.wrap (((x / 128 : Nat) : Int) * 128 + ((x % 128 : Nat) : Int)) = (x : Int) := by rw [wu64 (by omega) (by omega)]; omega
    rw [e1, e2]
    exact ih
theorem ref_l0 (l : List Int) (a : Nat) (ha : a ≤ l.length) (hL : l.length ≤ 140737488355328) : ∀ (f i k : Nat), f = 10 - i → i ≤ 10 → f < k → ∃ k', k ≤ k' + f + 1 ∧ becketref01_GetNum.l0 k l (a : Int) (i : Int) = becketref01_GetNum.j1 k' l (a : Int) ((i + cnt f (l.drop (a + i)) : Nat) : Int)
  | f, i, k, hf, hi, hk => by
    obtain ⟨k, rfl⟩ : ∃ k', k = k' + 1 := ⟨k - 1, by omega⟩
    by_cases hb : a + i < l.length
    · have e1 : wrap64 ((a : Int) + (i : Int)) = ((a + i : Nat) : Int) := by unfold wrap64; omega
      have hdc : l.drop (a + i) = l.getD (a + i) 0 :: l.drop (a + i + 1) := drop_cons l (a + i) hb
      match f, hf with
      | 0, hf =>
        refine ⟨k, by omega, ?_⟩
        simp only [becketref01_GetNum.l0, cnt]
        rw [e1, if_pos (by omega), if_neg (by omega), Nat.add_zero]
      | f + 1, hf =>
        rw [hdc]
        simp only [becketref01_GetNum.l0, cnt]
        rw [e1, if_pos (by omega), if_pos (by omega), if_pos (by omega), rd_at]
        by_cases hx : l.getD (a + i) 0 > 127
        · rw [if_pos hx, if_pos hx, show wrap64 ((i : Int) + 1) = ((i + 1 : Nat) : Int) from by unfold wrap64; omega]
          obtain ⟨k', h1, h2⟩ := ref_l0 l a ha hL f (i + 1) k (by omega) (by omega) (by omega)
          refine ⟨k', by omega, ?_⟩
          rw [h2, show a + (i + 1) = a + i + 1 from by omega, show i + 1 + cnt f (l.drop (a + i + 1)) = i + (cnt f (l.drop (a + i + 1)) + 1) from by omega]
        · rw [if_neg hx, if_neg hx]
          exact ⟨k, by omega, rfl⟩
    · refine ⟨k, by omega, ?_⟩
      have e1 : wrap64 ((a : Int) + (i : Int)) = ((a + i : Nat) : Int) := by unfold wrap64; omega
      have hc : cnt f (l.drop (a + i)) = 0 := by
        have := (cnt_le f (l.drop (a + i))).2
        rw [List.length_drop] at this
        omega
      simp only [becketref01_GetNum.l0]
      rw [e1, if_neg (by omega), hc, Nat.add_zero]
theorem ref_j1 (l : List Int) (a n : Nat) (ha : a ≤ l.length) (hn : n ≤ 10) (hL : l.length ≤ 140737488355328) (k : Nat) (hk : 2 ≤ k) : becketref01_GetNum.j1 k l (a : Int) (n : Int) = if l.length ≤ a + n ∨ 10 ≤ n then some (0, 0) else becketref01_GetNum.l1 (k - 2) l (a : Int) (n : Int) 0 (n : Int) := by
  obtain ⟨k, rfl⟩ : ∃ k', k = k' + 2 := ⟨k - 2, by omega⟩
  have e1 : wrap64 ((a : Int) + (n : Int)) = (a : Int) + (n : Int) := by unfold wrap64; omega
  simp only [becketref01_GetNum.j1, becketref01_GetNum.j2, Nat.add_sub_cancel, e1]
  by_cases h1 : l.length ≤ a + n
  · rw [if_pos (by omega), if_pos trivial, if_pos (Or.inl h1)]
  · rw [if_neg (by omega)]
    by_cases h2 : 10 ≤ n
    · rw [if_pos (by simp; omega), if_pos (.inr h2)]
    · rw [if_neg (by simp; omega), if_neg (by omega)]
theorem refget_f (l : List Int) (hb : bytesOk l) (a : Nat) (ha : a ≤ l.length) (hL : l.length ≤ 140737488355328) (k : Nat) (hk : 40 ≤ k) :
    becketref01_GetNum.f k l (a : Int) = some (match gn 18446744073709551615 0 0 (l.drop a) with | (v, c, none) => (v, c) | (_, _, some _) => (0, 0)) := by
  unfold becketref01_GetNum.f
  obtain ⟨k', h1, h2⟩ := ref_l0 l a ha hL 10 0 k rfl (by omega) (by omega)
  rw [show ((0 : Nat) : Int) = 0 from rfl] at h2
  rw [h2]
  simp only [Nat.add_zero, Nat.zero_add]
  have hc := cnt_le 10 (l.drop a)
  rw [List.length_drop] at hc
  rw [ref_j1 l a _ ha hc.1 hL k' (by omega)]
  have hbd : bytesOk (l.drop a) := fun x hx => hb x (List.mem_of_mem_drop hx)
  generalize hr : gn 18446744073709551615 0 0 (l.drop a) = r
  obtain ⟨v, c, er⟩ := r
  cases er with
  | none =>
    obtain ⟨_, m, g1, g2, g3, g4, g5, post, g6⟩ := gn_back 18446744073709551615 (l.drop a) 0 0 v c hbd hr
    simp only [Int.pow_zero, Int.mul_one, Int.zero_add] at g1 g5
    have hm : m < 18446744073709551616 := by omega
    have hel := enc_len 9 m (pow70 hm)
    have hep := enc_pos m
    have hlen := congrArg List.length g6
    rw [List.length_drop, List.length_append] at hlen
    have hcn : cnt 10 (l.drop a) = (enc m).length - 1 := by rw [g6]; exact cnt_enc post 10 m (by omega)
    rw [hcn, if_neg (by omega)]
    have h0 := ref_l1_enc l hb a ((enc m).length - 1) m post hm g6 ha (by omega) hL (enc m).length (k' - 2) (Nat.le_refl _) (by omega)
    rw [enc_top 10 m (pow70 hm), show ((enc m).length : Int) - 1 = (((enc m).length - 1 : Nat) : Int) from by omega] at h0
    rw [show (((0 : Nat) : Int)) = 0 from rfl] at h0
    rw [h0]
    unfold refEnd
    rw [Int.toNat_natCast, if_pos (by rw [g6, List.take_left' (by omega)])]
    congr 2
    · exact g1.symm
    · omega
  | some e =>
    simp only
    split
    · rfl
    · rename_i hno
      generalize cnt 10 (l.drop a) = n at *
      obtain ⟨u, u0, u1, hu⟩ := ref_l1_any l hb a n (by omega) hL (n + 1) (k' - 2) 0 (by omega) (by omega) (by omega) (by omega)
      rw [show ((n + 1 : Nat) : Int) - 1 = (n : Int) from by omega] at hu
      rw [hu]
      unfold refEnd
      rw [if_neg]
      intro he
      have := gn_written u.toNat (by omega) 18446744073709551615 (by omega) ((l.drop a).drop (n + 1))
      rw [he, List.take_append_drop, hr] at this
      simp at this
theorem gn_less (M m : Int) (h : m ≤ M) : ∀ (xs : List Int) (i : Nat) (n : Int), gn m i n xs = match gn M i n xs with | (v, c, none) => if v > m then (0, 0, some 7) else (v, c, none) | (v, c, some e) => (v, c, some e)
  | [], i, n => rfl
  | x :: xs, i, n => by
    simp only [gn]
    by_cases h1 : 10 ≤ i ∨ (x = 0 ∧ 0 < i) ∨ (1 < x ∧ i = 9)
    · rw [if_pos h1, if_pos h1]
    · rw [if_neg h1, if_neg h1]
      by_cases h2 : x ≥ 128
      · rw [if_pos h2, if_pos h2]
        exact gn_less M m h xs (i + 1) _
      · rw [if_neg h2, if_neg h2]
        by_cases h3 : n + x % 128 * 128 ^ i > M
        · rw [if_pos h3, if_pos (by omega)]
        · rw [if_neg h3]
def RS (T : Nat) (w0 W : World) (g : Nat) (A : Option Addr) (n c : Nat) (at_ : Nat) (bad : Bool) : Prop :=
  W.heap[g]? = some (.cells #[.slice A n c, .int .i64 (at_ : Int), .bool bad] T (0, 0)) ∧ w0.heap.size ≤ g ∧ Below w0.heap.size w0 W
theorem rs_set {T g : Nat} {W : World} {A : Option Addr} {n c at_ : Nat} {bad : Bool} (h : W.heap[g]? = some (.cells #[.slice A n c, .int .i64 (at_ : Int), .bool bad] T (0, 0))) (b : Bool) (at2 : Nat) :
    (W.setCell ⟨g, 2, none⟩ (.bool b)).heap[g]? = some (.cells #[.slice A n c, .int .i64 (at_ : Int), .bool b] T (0, 0)) ∧
    (W.setCell ⟨g, 1, none⟩ (.int .i64 (at2 : Int))).heap[g]? = some (.cells #[.slice A n c, .int .i64 (at2 : Int), .bool bad] T (0, 0)) := by
  constructor
  · have := blk_set h 2 (.bool b)
    simpa using this
  · have := blk_set h 1 (.int .i64 (at2 : Int))
    simpa using this
theorem rs_bad {T g : Nat} {w0 W W1 : World} {A : Option Addr} {n c at_ : Nat} {bad : Bool} (hg : W.heap[g]? = some (.cells #[.slice A n c, .int .i64 (at_ : Int), .bool bad] T (0, 0))) (hge : w0.heap.size ≤ g) (hB : Below w0.heap.size w0 W) (hb : Below W.heap.size W W1) (hk : Kept W W1 (fun k => k = g)) (b : Bool) :
    RS T w0 (W1.setCell ⟨g, 2, none⟩ (.bool b)) g A n c at_ b ∧ Kept W (W1.setCell ⟨g, 2, none⟩ (.bool b)) (fun k => k = g) ∧ Below w0.heap.size W (W1.setCell ⟨g, 2, none⟩ (.bool b)) := by
  have h1 := blk_below hg hb
  have hbb : Below w0.heap.size W W1 := hb.mono hB.size
  exact ⟨⟨(rs_set h1 b 0).1, hge, hB.trans (hbb.setCell hge _)⟩, hk.setCell (.inl rfl) _, hbb.setCell hge _⟩
theorem rs_at {T g : Nat} {w0 W W1 : World} {A : Option Addr} {n c at_ : Nat} {bad : Bool} (h : RS T w0 W1 g A n c at_ bad ∧ Kept W W1 (fun k => k = g) ∧ Below w0.heap.size W W1) (at2 : Nat) :
    RS T w0 (W1.setCell ⟨g, 1, none⟩ (.int .i64 (at2 : Int))) g A n c at2 bad ∧ Kept W (W1.setCell ⟨g, 1, none⟩ (.int .i64 (at2 : Int))) (fun k => k = g) ∧ Below w0.heap.size W (W1.setCell ⟨g, 1, none⟩ (.int .i64 (at2 : Int))) := by
  obtain ⟨⟨h1, hge, h2⟩, h3, h4⟩ := h
  exact ⟨⟨(rs_set h1 false at2).2, hge, h2.setCell hge _⟩, h3.setCell (.inl rfl) _, h4.setCell hge _⟩
def big31 : Int := 2147483648
theorem wr_id {v : Int} (h0 : 0 ≤ v) (h1 : v ≤ big31) : wrap64 v = v := by unfold big31 at h1; unfold wrap64; omega
theorem gat_none {a : Int} {r : Int × Int × Option Int} {v nx : Int} (h : gat a r = (v, nx, none)) : r = (v, nx - a, none) := by
  obtain ⟨r1, r2, r3⟩ := r
  unfold gat at h
  cases r3 with
  | none =>
    simp at h
    obtain ⟨rfl, rfl⟩ := h
    simp; omega
  | some z => simp at h
theorem numOf_at {l : List Int} (hb : bytesOk l) (most : Int) (hm : 0 ≤ most) {at_ : Nat} (ha : at_ ≤ l.length) (bad : Bool) : (numOf l most at_ bad).2.1 ≤ l.length ∧ 0 ≤ (numOf l most at_ bad).1 ∧ (numOf l most at_ bad).1 ≤ most := by
  unfold numOf
  cases bad with
  | true => exact ⟨ha, Int.le_refl _, hm⟩
  | false =>
    simp only [Bool.false_eq_true, if_false]
    cases hg : gat (at_ : Int) (gn most 0 0 (l.drop at_)) with
    | mk v r =>
      obtain ⟨nx, er⟩ := r
      cases er with
      | none =>
        have hgn := gat_none hg
        have hb2 := gn_next most (l.drop at_) v (nx - at_) (fun x hx => hb x (List.drop_subset _ _ hx)) hgn
        rw [List.length_drop] at hb2
        refine ⟨?_, hb2.1, hb2.2.1⟩
        show nx.toNat ≤ l.length
        omega
      | some z => exact ⟨ha, Int.le_refl _, hm⟩
theorem RS.below {T g : Nat} {w0 W W' : World} {A : Option Addr} {n c at_ : Nat} {bad : Bool} (h : RS T w0 W g A n c at_ bad) (hb : Below W.heap.size W W') : RS T w0 W' g A n c at_ bad := ⟨blk_below h.1 hb, h.2.1, h.2.2.trans (hb.mono h.2.2.size)⟩
def rdOk (l : List Int) (a : Int) : Bool := (l.all fun x => decide (0 ≤ x) && decide (x ≤ 255)) && (decide (l.length ≤ 100000000) && (decide (0 ≤ a) && decide (a ≤ (l.length : Int))))
theorem rdOk_iff {l : List Int} {a : Int} (h : rdOk l a = true) : bytesOk l ∧ l.length ≤ 100000000 ∧ ∃ n : Nat, a = (n : Int) ∧ n ≤ l.length := by
  unfold rdOk at h
  simp only [Bool.and_eq_true, decide_eq_true_eq, List.all_eq_true] at h
  obtain ⟨h1, h2, h3, h4⟩ := h
  exact ⟨fun x hx => h1 x hx, h2, a.toNat, by omega, by omega⟩
theorem rdOk_mk {l : List Int} (hb : bytesOk l) (hl : l.length ≤ 100000000) {n : Nat} (hn : n ≤ l.length) : rdOk l (n : Int) = true := by
  unfold rdOk
  simp only [Bool.and_eq_true, decide_eq_true_eq, List.all_eq_true]
  exact ⟨fun x hx => hb x hx, hl, by omega, by omega⟩
set_option maxHeartbeats 4000000 in
set_option maxRecDepth 100000 in
theorem rnum_calls (w0 W : World) (g : Nat) (A : Option Addr) (c : Nat) (l : List Int) (at_ : Nat) (bad : Bool) (most : Int) (hm : 0 ≤ most ∧ most ≤ big31) (h : RS 59 w0 W g A l.length c at_ bad) (hC : Kd.C (Kd.int .u8) w0 A l.length l) (hc : l.length ≤ c) (hb : bytesOk l) (hl : l.length ≤ 100000000) (ha : at_ ≤ l.length) :
    Calls Tryd.prog 25 #[.pointer (some ⟨g, 0, none⟩), .int .u64 most] W fun e w' => e = .returned (.int .i64 (numOf l most at_ bad).1) ∧ RS 59 w0 w' g A l.length c (numOf l most at_ bad).2.1 (numOf l most at_ bad).2.2 ∧ Kept W w' (fun k => k = g) ∧ Below w0.heap.size W w' := by
  obtain ⟨hg, hge, hB⟩ := h
  have hf := refget_f l hb at_ ha (by omega) 40 (Nat.le_refl _)
  have hgl := gn_less 18446744073709551615 most (by have := hm.2; unfold big31 at this; omega) (l.drop at_) 0 0
  have hbd : bytesOk (l.drop at_) := fun x hx => hb x (List.mem_of_mem_drop hx)
  have c0 : W.cell? ⟨g, 0, none⟩ = some (.slice A l.length c) := (blk_cell hg 0).trans rfl
  have c1 : W.cell? ⟨g, 1, none⟩ = some (.int .i64 (at_ : Int)) := (blk_cell hg 1).trans rfl
  have c2 : W.cell? ⟨g, 2, none⟩ = some (.bool bad) := (blk_cell hg 2).trans rfl
  have HG := Lib.hid hg
  have HGE := Lib.hid hge
  have HB := Lib.hid hB
  have hcw : ∀ n, Kd.C (Kd.int .u8) (W.drewN n) A l.length l := fun n => Kd.C_drewN (Kd.C_below hC hB) n
  have HC := Lib.hid hcw
  have HBD := Lib.hid hbd
  have f1 := blk_frozen hg 1
  have f2 := blk_frozen hg 2
  clear hg hge hB hC hbd hcw
  cases bad with
  | true =>
    have hout : numOf l most at_ true = (0, at_, true) := by unfold numOf; rw [if_pos rfl]
    rw [hout]
    clear hf hgl hout f1 f2
    go_enter Tryd.func25, Tryd.ntmps25
    go_wp2
    go_ret
    exact ⟨rfl, ⟨HG.out, HGE.out, HB.out⟩, Kept.refl _ _, Below.refl _ _⟩
  | false =>
    generalize hr : gn 18446744073709551615 0 0 (l.drop at_) = r at hf hgl
    obtain ⟨v, nx, er⟩ := r
    cases er with
    | some z =>
      simp only at hf hgl
      have hout : numOf l most at_ false = (0, at_, true) := by unfold numOf; rw [if_neg (by decide), hgl]; rfl
      rw [hout]
      have HF := Lib.hid hf
      clear hf hgl hout hr f1
      go_enter Tryd.func25, Tryd.ntmps25
      go_wp2_with fail
      go_region_with (go_at_call 37; refine (becketref01_GetNum.calls 40 A c l (at_ : Int) 0 0 _ (by first | exact HC.out 1 | exact HC.out 0) hc HF.out).mono ?_; rintro e w1 ⟨rfl, hb0⟩; have hb1 : Below W.heap.size W w1 := ((Below.refl W.heap.size W).drew).trans hb0; clear hb0)
      all_goals
        have HB1 := Lib.hid hb1
        have f2' := blk_frozen (blk_below HG.out hb1) 2
        have c2' : w1.cell? ⟨g, 2, none⟩ = some (.bool false) := (blk_cell (blk_below HG.out hb1) 2).trans rfl
        clear hb1 f2
        go_wp2
        go_ret
        exact ⟨rfl, rs_bad HG.out HGE.out HB.out HB1.out (Kept.of_below HB1.out _) true⟩
    | none =>
      simp only at hf hgl
      obtain ⟨_, m, g1, g2, g3, _, _, post, g6⟩ := gn_back 18446744073709551615 (l.drop at_) 0 0 v nx HBD.out hr
      simp only [Int.pow_zero, Int.mul_one, Int.zero_add] at g1
      have hep := enc_pos m
      have hlen := congrArg List.length g6
      rw [List.length_drop, List.length_append] at hlen
      have hk0 : (nx == 0) = false := by simp; omega
      have HF := Lib.hid hf
      by_cases hv : most < v
      · have hout : numOf l most at_ false = (0, at_, true) := by unfold numOf; rw [if_neg (by decide), hgl, if_pos hv]; rfl
        rw [hout]
        have hd : decide (most < v) = true := decide_eq_true hv
        clear hf hgl hout hr f1 g1 g2 g3 g6 hep hlen hv
        go_enter Tryd.func25, Tryd.ntmps25
        go_wp2_with fail
        go_region_with (go_at_call 37; refine (becketref01_GetNum.calls 40 A c l (at_ : Int) v nx _ (by first | exact HC.out 1 | exact HC.out 0) hc HF.out).mono ?_; rintro e w1 ⟨rfl, hb0⟩; have hb1 : Below W.heap.size W w1 := ((Below.refl W.heap.size W).drew).trans hb0; clear hb0)
        all_goals
          have HB1 := Lib.hid hb1
          have f2' := blk_frozen (blk_below HG.out hb1) 2
          have c2' : w1.cell? ⟨g, 2, none⟩ = some (.bool false) := (blk_cell (blk_below HG.out hb1) 2).trans rfl
          clear hb1 f2
          go_wp2
          go_ret
          exact ⟨rfl, rs_bad HG.out HGE.out HB.out HB1.out (Kept.of_below HB1.out _) true⟩
      · have hout : numOf l most at_ false = (v, ((at_ : Int) + nx).toNat, false) := by unfold numOf; rw [if_neg (by decide), hgl, if_neg hv]; rfl
        rw [hout]
        have hd : decide (most < v) = false := decide_eq_false hv
        obtain ⟨k, hk⟩ : ∃ k : Nat, (at_ : Int) + nx = k := ⟨((at_ : Int) + nx).toNat, by omega⟩
        have hw1 : wrap64 v = v := wr_id (by omega) (by have := hm.2; omega)
        have hw2 : wrap64 ((at_ : Int) + nx) = (k : Int) := by
          have hk2 : k ≤ l.length := by omega
          clear hw1
          rw [hk]
          unfold wrap64
          omega
        have HK := Lib.hid hk
        clear hf hgl hout hr f2 g1 g2 g3 g6 hep hlen hv hk
        go_enter Tryd.func25, Tryd.ntmps25
        go_wp2_with fail
        go_region_with (go_at_call 37; refine (becketref01_GetNum.calls 40 A c l (at_ : Int) v nx _ (by first | exact HC.out 1 | exact HC.out 0) hc HF.out).mono ?_; rintro e w1 ⟨rfl, hb0⟩; have hb1 : Below W.heap.size W w1 := ((Below.refl W.heap.size W).drew).trans hb0; clear hb0)
        all_goals
          have HB1 := Lib.hid hb1
          have f1' := blk_frozen (blk_below HG.out hb1) 1
          have c1' : w1.cell? ⟨g, 1, none⟩ = some (.int .i64 (at_ : Int)) := (blk_cell (blk_below HG.out hb1) 1).trans rfl
          clear hb1 f1
          go_wp2
          go_ret
          rw [hw2, HK.out, Int.toNat_natCast]
          refine ⟨?_, rs_at ⟨⟨blk_below HG.out HB1.out, HGE.out, HB.out.trans (HB1.out.mono HB.out.size)⟩, Kept.of_below HB1.out _, HB1.out.mono HB.out.size⟩ k⟩
          show Ending.returned (.int .i64 (wrap64 v)) = _
          rw [hw1]
theorem cut_mid {P : Program} (t e : TypeId) {i : TypeInfo} (hu : P.underlying t = some (.slice e)) (hi : P.info? e = some i) (hsz : i.size = 1) (A : Option Addr) (n c a b : Nat) (h1 : a ≤ b) (h2 : b ≤ n) (h3 : n ≤ c) (W : World) :
    (Instr.slice t (.slice A n c) (some (.int .i64 (a : Int))) (some (.int .i64 (b : Int))) none).run P W = .ok (.slice (if c = a then A else A.map (·.add (a * 1))) (b - a) (c - a)) W := by
  have hel : P.elem t = e := by simp [Program.elem, hu]
  have hu' : P.underlying t = some (.slice (P.elem t)) := by rw [hel]; exact hu
  rw [run_slice_lh W t A n c hu' .i64 .i64 (a : Int) (b : Int) (by omega) (by omega) (by omega), hel]
  simp [sizeOf, typeInfo, hi, hsz, sliced, Result.andThen]
theorem txt_num {l : List Int} (hb : bytesOk l) {at_ : Nat} {bad : Bool} (ha : at_ ≤ l.length) : txtOf l at_ bad = (match numOf l 4096 at_ bad with | (_, _, true) => (⟨#[]⟩, at_, true) | (v, nx, false) => if v > (l.length : Int) - nx then (⟨#[]⟩, at_, true) else (strOfNums ((l.take (nx + v.toNat)).drop nx), nx + v.toNat, false)) := by
  unfold txtOf numOf
  by_cases hbad : bad = true
  · rw [if_pos hbad, if_pos hbad]
  · rw [if_neg hbad, if_neg hbad]
    unfold gat
    generalize hr : gn 4096 0 0 (l.drop at_) = r
    obtain ⟨v, c, er⟩ := r
    cases er with
    | some e => rfl
    | none =>
      obtain ⟨_, m, g1, g2, g3, _, _, post, g6⟩ := gn_back 4096 (l.drop at_) 0 0 v c (fun x hx => hb x (List.mem_of_mem_drop hx)) hr
      simp only [Int.pow_zero, Int.mul_one, Int.zero_add] at g1
      have hep := enc_pos m
      simp only [Option.isNone_none, if_true]
      by_cases hg : (at_ : Int) + c + v > (l.length : Int)
      · rw [if_pos hg, if_pos (by omega)]
      · rw [if_neg hg, if_neg (by omega)]
        have e1 : ((at_ : Int) + c + v).toNat = ((at_ : Int) + c).toNat + v.toNat := by omega
        rw [e1]
def rtxt (l : List Int) (at_ : Nat) (bad : Bool) : ByteArray × Nat × Bool :=
  match numOf l 4096 at_ bad with
  | (_, nx, true) => (⟨#[]⟩, nx, true)
  | (v, nx, false) => if v > (l.length : Int) - nx then (⟨#[]⟩, nx, true) else (strOfNums ((l.take (nx + v.toNat)).drop nx), nx + v.toNat, false)
theorem rtxt_txt {l : List Int} (hb : bytesOk l) {at_ : Nat} {bad : Bool} (ha : at_ ≤ l.length) : (rtxt l at_ bad).1 = (txtOf l at_ bad).1 ∧ (rtxt l at_ bad).2.2 = (txtOf l at_ bad).2.2 ∧ ((txtOf l at_ bad).2.2 = false → (rtxt l at_ bad).2.1 = (txtOf l at_ bad).2.1) ∧ (rtxt l at_ bad).2.1 ≤ l.length := by
  have hat := numOf_at hb 4096 (by decide) ha bad
  rw [txt_num hb ha]
  unfold rtxt
  generalize numOf l 4096 at_ bad = q at hat
  obtain ⟨v, nx, bd⟩ := q
  have h1 : nx ≤ l.length := hat.1
  have h2 : 0 ≤ v := hat.2.1
  cases bd with
  | true => exact ⟨rfl, rfl, fun h => (by cases h), h1⟩
  | false =>
    simp only
    split
    · exact ⟨rfl, rfl, fun h => (by cases h), h1⟩
    · exact ⟨rfl, rfl, fun _ => rfl, by simp only; omega⟩
set_option maxHeartbeats 4000000 in
set_option maxRecDepth 100000 in
theorem rtext_calls (w0 W : World) (g : Nat) (A : Option Addr) (c : Nat) (l : List Int) (at_ : Nat) (bad : Bool) (h : RS 59 w0 W g A l.length c at_ bad) (hC : Kd.C (Kd.int .u8) w0 A l.length l) (hc : l.length ≤ c) (hb : bytesOk l) (hl : l.length ≤ 100000000) (ha : at_ ≤ l.length) :
    Calls Tryd.prog 26 #[.pointer (some ⟨g, 0, none⟩)] W fun e w' => e = .returned (.string (rtxt l at_ bad).1) ∧ RS 59 w0 w' g A l.length c (rtxt l at_ bad).2.1 (rtxt l at_ bad).2.2 ∧ Kept W w' (fun k => k = g) ∧ Below w0.heap.size W w' := by
  have hnum := rnum_calls w0 W g A c l at_ bad 4096 (by unfold big31; omega) h hC hc hb hl ha
  have hat := numOf_at hb 4096 (by decide) ha bad
  have hC0 := Kd.C_below hC h.2.2
  have hsz := h.2.2
  unfold rtxt
  generalize numOf l 4096 at_ bad = q at hnum hat
  obtain ⟨v, nx, bd⟩ := q
  have HN := Lib.hid hnum
  have HAT := Lib.hid hat
  have HC := Lib.hid hC
  have HLL := Lib.hid hl
  clear hnum hat hC hC0 hsz h
  go_enter Tryd.func26, Tryd.ntmps26
  go_wp2_with fail
  refine HN.out.mono ?_
  rintro e w1 ⟨rfl, hrs, hk, hbl⟩
  have HRS := Lib.hid hrs
  have HK := Lib.hid hk
  have HBL := Lib.hid hbl
  have c0 : w1.cell? ⟨g, 0, none⟩ = some (.slice A l.length c) := (blk_cell hrs.1 0).trans rfl
  have c1 : w1.cell? ⟨g, 1, none⟩ = some (.int .i64 (nx : Int)) := (blk_cell hrs.1 1).trans rfl
  have c2 : w1.cell? ⟨g, 2, none⟩ = some (.bool bd) := (blk_cell hrs.1 2).trans rfl
  have f1 := blk_frozen hrs.1 1
  have f2 := blk_frozen hrs.1 2
  clear hrs hk hbl HN
  have hat := HAT.out
  have hd : bd = true ∨ (bd = false ∧ (l.length : Int) - (nx : Int) < v) ∨ (bd = false ∧ ¬ (l.length : Int) - (nx : Int) < v) := by
    cases bd
    · by_cases h : (l.length : Int) - (nx : Int) < v
      · exact .inr (.inl ⟨rfl, h⟩)
      · exact .inr (.inr ⟨rfl, h⟩)
    · exact .inl rfl
  have hw : wrap64 ((l.length : Int) - (nx : Int)) = (l.length : Int) - (nx : Int) := by
    have := HLL.out
    have h1 : nx ≤ l.length := hat.1
    unfold wrap64
    omega
  have hnl : nx ≤ l.length := hat.1
  rcases hd with hbd | ⟨hbd, hv⟩ | ⟨hbd, hv⟩
  · subst hbd
    clear hw hat
    go_wp2_with fail
    go_quiet (fail)
    have c2' : (w1.drewN nq).cell? ⟨g, 2, none⟩ = some (.bool true) := c2
    have f2' : (w1.drewN nq).frozen? ⟨g, 2, none⟩ = false := f2
    go_wp2
    go_ret
    obtain ⟨a1, a2, a3⟩ := rs_bad HRS.out.1 HRS.out.2.1 HRS.out.2.2 (pw_below_drewN (Below.refl _ _) nq) (Kept.drewN (Kept.refl _ _) nq) true
    exact ⟨rfl, a1, HK.out.then_ a2 (fun k hk => .inl hk), HBL.out.trans a3⟩
  · subst hbd
    have hd2 : decide ((l.length : Int) - (nx : Int) < v) = true := decide_eq_true hv
    clear hat
    have HV := Lib.hid hv
    clear hv
    go_wp2_with fail
    go_quiet (fail)
    have c2' : (w1.drewN nq).cell? ⟨g, 2, none⟩ = some (.bool false) := c2
    have f2' : (w1.drewN nq).frozen? ⟨g, 2, none⟩ = false := f2
    clear hw
    go_wp2
    go_ret
    obtain ⟨a1, a2, a3⟩ := rs_bad HRS.out.1 HRS.out.2.1 HRS.out.2.2 (pw_below_drewN (Below.refl _ _) nq) (Kept.drewN (Kept.refl _ _) nq) true
    exact ⟨rfl, a1, HK.out.then_ a2 (fun k hk => .inl hk), HBL.out.trans a3⟩
  · subst hbd
    have hd2 : decide ((l.length : Int) - (nx : Int) < v) = false := decide_eq_false hv
    have hv0 : 0 ≤ v := hat.2.1
    clear hat
    obtain ⟨m, rfl⟩ : ∃ m : Nat, v = m := ⟨v.toNat, by omega⟩
    have hnm : nx + m ≤ l.length := by omega
    have HV := Lib.hid hv
    have hw3 : wrap64 ((nx : Int) + (m : Int)) = (nx : Int) + (m : Int) := by
      have := HLL.out
      clear hw
      unfold wrap64
      omega
    clear hv hv0
    go_wp2_with fail
    go_quiet (fail)
    have HRS2 := Lib.hid (HRS.out.below (pw_below_drewN (Below.refl _ _) nq))
    have HK2 := Lib.hid (Kept.drewN HK.out nq)
    have HBL2 := Lib.hid (pw_below_drewN HBL.out nq)
    clear HRS HK HBL c0 c1 c2 f1 f2
    generalize w1.drewN nq = w2 at *
    have c0' : w2.cell? ⟨g, 0, none⟩ = some (.slice A l.length c) := (blk_cell HRS2.out.1 0).trans rfl
    have c1' : w2.cell? ⟨g, 1, none⟩ = some (.int .i64 (nx : Int)) := (blk_cell HRS2.out.1 1).trans rfl
    have f1' := blk_frozen HRS2.out.1 1
    have hcw : ∀ n, Kd.C (Kd.int .u8) (w2.drewN n) A l.length l := fun n => Kd.C_drewN (Kd.C_below HC.out HRS2.out.2.2) n
    have hci : ∃ i0, (Tryd.prog.info? 5) = some i0 ∧ i0.size = 1 := by obtain ⟨i0, h1, h2⟩ := Option.map_eq_some_iff.1 info5; exact ⟨i0, h1, by simp only [Prod.mk.injEq] at h2; exact h2.2.1⟩
    obtain ⟨i0, hi0, hsz0⟩ := hci
    have cut1 := cut_mid (P := Tryd.prog) 32 5 Tryd.underlying32 hi0 hsz0 A l.length c nx (nx + m) (by omega) hnm hc
    rw [show ((nx + m : Nat) : Int) = (nx : Int) + (m : Int) from by omega, Nat.add_sub_cancel_left] at cut1
    have hcl : ((l.take (nx + m)).drop nx).length = m := by rw [List.length_drop, List.length_take]; omega
    have hcut : ∀ n, Kd.C (Kd.int .u8) (w2.drewN n) (if c = nx then A else A.map (·.add (nx * 1))) ((l.take (nx + m)).drop nx).length ((l.take (nx + m)).drop nx) := fun n =>
      Kd.C_drop (m := nx) (Kd.C_take (m := nx + m) (hcw n) hnm) (by rw [List.length_take, Nat.min_eq_left hnm]; omega) (by rw [List.length_take, Nat.min_eq_left hnm]; omega)
    generalize (if c = nx then A else A.map (·.add (nx * 1))) = Z at cut1 hcut
    have hst := fun n => Kd.C_string (P := Tryd.prog) (c := c - nx) Tryd.underlying32 Tryd.underlying5 Tryd.underlying9 (hcut n)
    rw [hcl] at hst
    have HNM := Lib.hid hnm
    clear hcw hcut hi0 hsz0 hcl hw hnm hnl hd2
    go_wp2_with fail
    go_quiet (fail)
    have c1'' : (w2.drewN nq).cell? ⟨g, 1, none⟩ = some (.int .i64 (nx : Int)) := c1'
    have f1'' : (w2.drewN nq).frozen? ⟨g, 1, none⟩ = false := f1'
    clear cut1 hst c0' c1' f1'
    have e : (nx : Int) + (m : Int) = ((nx + m : Nat) : Int) := by omega
    have HE := Lib.hid e
    clear e
    go_wp2
    all_goals
      first
      | (exfalso; have := HV.out; omega)
      | (go_ret
         try rw [hw3]
         rw [HE.out]
         obtain ⟨a1, a2, a3⟩ := rs_at ⟨HRS2.out.below (pw_below_drewN (Below.refl _ _) nq), Kept.drewN HK2.out nq, pw_below_drewN HBL2.out nq⟩ (nx + m)
         exact ⟨rfl, a1, a2, a3⟩)
end Go.Proofs.YtghfofjlafeliaaDoor.OrderR
