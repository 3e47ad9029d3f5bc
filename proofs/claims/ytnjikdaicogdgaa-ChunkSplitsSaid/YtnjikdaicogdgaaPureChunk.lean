/-
  The pure statements of the layer chunk that join: what is cut is what is joined again, whatever stands behind, and lists stay. Conditions: those of the given statements, none besides.
-/
import Derived.Test.YtnjikdaicogdgaaLcx
import Derived.Laws.BitsLemmas
namespace Go.Proofs.Ytnjikdaicogdgaa.PureChunk
open Go.RowKit Go.Proofs.Ytnjikdaicogdgaa.Lc Go.Proofs.YtnjikdaicogdgaaW.PrintWords Go.Proofs.YtnjikdaicogdgaaW.PrintLast Go.Proofs.YtnjikdaicogdgaaW.PrintMore

theorem w64 {x : Int} (h : -9223372036854775808 ≤ x) (h' : x ≤ 9223372036854775807) : wrap64 x = x := by unfold wrap64; omega

theorem mn_def (a b : Int) : mn a b = min a b := by unfold mn; omega

theorem empty_iff (s : ByteArray) : s.toList = ([] : List UInt8) ↔ s.size = 0 := by
  rw [Go.ByteArray.toList_eq, ← data_length]
  exact List.length_eq_zero_iff.symm

/-- Is a chunk cut behind the place i? -/
def hit (s : ByteArray) (mi mask i a : Int) : Prop := i + 1 ≥ mi ∧ (Go.bits .and .i64 (wrap64 ((wrap64 (31 * a)) + (wrap64 (bt s i)))) mask) = mask
instance (s : ByteArray) (mi mask i a : Int) : Decidable (hit s mi mask i a) := by unfold hit; infer_instance

/-- The first chunk's length, from the place i on. -/
def cl (s : ByteArray) (mi ma mask : Int) : Nat → Int → Int → Int
  | 0, _, _ => min (s.size : Int) ma
  | d + 1, i, a => if hit s mi mask i a then i + 1 else cl s mi ma mask d (i + 1) (wrap64 (bt s i))

theorem len_cl (s : ByteArray) (mi ma mask : Int) (hs : s.size ≤ 140737488351232) (h2 : ma ≤ 64) (d : Nat) : ∀ (k : Nat) (i a : Int), 0 ≤ i → i + d = min (s.size : Int) ma → d < k →
    chunk_length.l0 k s a (min (s.size : Int) ma) i mi ma mask = some (cl s mi ma mask d i a) := by
  induction d with
  | zero =>
    intro k i a h0 hd hk
    obtain ⟨k, rfl⟩ : ∃ m, k = m + 1 := ⟨k - 1, by omega⟩
    simp only [chunk_length.l0, cl]; rw [if_neg (by omega), mn_def]
  | succ d ih =>
    intro k i a h0 hd hk
    obtain ⟨k, rfl⟩ : ∃ m, k = m + 1 := ⟨k - 1, by omega⟩
    simp only [chunk_length.l0, cl]
    rw [if_pos (by omega), if_pos h0, if_pos (by omega), w64 (x := i + 1) (by omega) (by omega)]
    have IH := ih k (i + 1) (wrap64 (bt s i)) (by omega) (by omega) (by omega)
    by_cases h : i + 1 ≥ mi
    · rw [if_pos h]
      by_cases h' : (Go.bits .and .i64 (wrap64 ((wrap64 (31 * a)) + (wrap64 (bt s i)))) mask) = mask
      · rw [if_pos h', if_pos (show hit s mi mask i a from ⟨h, h'⟩)]
      · rw [if_neg h', if_neg (show ¬ hit s mi mask i a from fun x => h' x.2)]; exact IH
    · rw [if_neg h, if_neg (show ¬ hit s mi mask i a from fun x => h x.1)]; exact IH

theorem cl_range (s : ByteArray) (mi ma mask : Int) (d : Nat) : ∀ (i a : Int), 0 ≤ i → i + d = min (s.size : Int) ma → 1 ≤ min (s.size : Int) ma → 1 ≤ cl s mi ma mask d i a ∧ cl s mi ma mask d i a ≤ min (s.size : Int) ma ∧ (cl s mi ma mask d i a = min (s.size : Int) ma ∨ mi ≤ cl s mi ma mask d i a) := by
  induction d with
  | zero => intro i a h0 hd h1; unfold cl; exact ⟨h1, Int.le_refl _, Or.inl rfl⟩
  | succ d ih =>
    intro i a h0 hd h1
    simp only [cl]
    split
    · rename_i h; have := h.1; omega
    · exact ih _ _ (by omega) (by omega) h1

/-- The first chunk's length. -/
def clen (mi ma mask : Int) (s : ByteArray) : Nat := (cl s mi ma mask (min (s.size : Int) ma).toNat 0 0).toNat

theorem clen_range (mi ma mask : Int) (s : ByteArray) (h1 : 1 ≤ mi) (h2 : mi ≤ ma) (hs : s.size ≠ 0) : 1 ≤ clen mi ma mask s ∧ clen mi ma mask s ≤ s.size ∧ (clen mi ma mask s : Int) ≤ ma ∧ (clen mi ma mask s = s.size ∨ mi ≤ (clen mi ma mask s : Int)) := by
  unfold clen
  have := cl_range s mi ma mask (min (s.size : Int) ma).toNat 0 0 (by omega) (by omega) (by omega)
  omega

theorem len_f (s : ByteArray) (mi ma mask : Int) (hs : s.size ≤ 140737488351232) (h0 : s.size ≠ 0) (h1 : 1 ≤ mi) (h2 : mi ≤ ma) (h3 : ma ≤ 64) (k : Nat) (hk : 65 ≤ k) :
    chunk_length.f k s mi ma mask = some (clen mi ma mask s : Int) := by
  unfold chunk_length.f
  rw [mn_def, len_cl s mi ma mask hs h3 (min (s.size : Int) ma).toNat k 0 0 (by omega) (by omega) (by omega)]
  unfold clen
  have := cl_range s mi ma mask (min (s.size : Int) ma).toNat 0 0 (by omega) (by omega) (by omega)
  congr 1; omega

/-- The chunks of a text, by a first chunk's length. -/
def pieces (len : ByteArray → Nat) : Nat → ByteArray → List ByteArray
  | 0, _ => []
  | d + 1, s => if s.size = 0 then [] else s.extract 0 (len s) :: pieces len d (s.extract (len s) s.size)

theorem size_rest (s : ByteArray) (n : Nat) : (s.extract n s.size).size = s.size - n := by rw [ByteArray.size_extract]; omega
theorem size_head (s : ByteArray) (n : Nat) (h : n ≤ s.size) : (s.extract 0 n).size = n := by rw [ByteArray.size_extract]; omega

theorem pieces_fuel (mi ma mask : Int) (h1 : 1 ≤ mi) (h2 : mi ≤ ma) (d : Nat) : ∀ (d' : Nat) (s : ByteArray), s.size ≤ d → s.size ≤ d' → pieces (clen mi ma mask) d s = pieces (clen mi ma mask) d' s := by
  induction d with
  | zero =>
    intro d' s h h'
    cases d' with
    | zero => rfl
    | succ d' => simp only [pieces]; rw [if_pos (by omega)]
  | succ d ih =>
    intro d' s h h'
    by_cases h0 : s.size = 0
    · cases d' with
      | zero => simp only [pieces]; rw [if_pos h0]
      | succ d' => simp only [pieces]; rw [if_pos h0, if_pos h0]
    · have := clen_range mi ma mask s h1 h2 h0
      cases d' with
      | zero => omega
      | succ d' =>
        simp only [pieces]; rw [if_neg h0, if_neg h0, ih d' _ (by rw [size_rest]; omega) (by rw [size_rest]; omega)]

theorem split_l (mi ma mask : Int) (h1 : 1 ≤ mi) (h2 : mi ≤ ma) (h3 : ma ≤ 64) (d : Nat) : ∀ (k : Nat) (s : ByteArray) (acc : List ByteArray), s.size ≤ d → s.size ≤ 1024 → acc.length + d ≤ 5000 → d + 66 < k →
    chunk_Split.l0 k s acc mi ma mask = some (acc ++ pieces (clen mi ma mask) d s, none) := by
  induction d with
  | zero =>
    intro k s acc hs hb ha hk
    obtain ⟨k, rfl⟩ : ∃ m, k = m + 1 := ⟨k - 1, by omega⟩
    simp only [chunk_Split.l0, pieces]
    rw [if_pos ((empty_iff s).2 (by omega))]; simp
  | succ d ih =>
    intro k s acc hs hb ha hk
    by_cases h0 : s.size = 0
    · rw [ih k s acc (by omega) hb (by omega) (by omega), pieces_fuel mi ma mask h1 h2 d (d + 1) s (by omega) (by omega)]
    obtain ⟨k, rfl⟩ : ∃ m, k = m + 1 := ⟨k - 1, by omega⟩
    have hr := clen_range mi ma mask s h1 h2 h0
    simp only [chunk_Split.l0]
    rw [if_neg (fun h => h0 ((empty_iff s).1 h)), len_f s mi ma mask (by omega) h0 h1 h2 h3 k (by omega)]
    simp only [Option.bind_some]
    rw [if_pos (by omega), if_pos (by omega), if_pos (by omega), Int.toNat_natCast]
    rw [ih k (s.extract (clen mi ma mask s) s.size) _ (by rw [size_rest]; omega) (by rw [size_rest]; omega) (by simp; omega) (by omega)]
    simp only [pieces]
    rw [if_neg h0]; simp

def may (mi ma mask : Int) : Prop := 1 ≤ mi ∧ mi ≤ ma ∧ ma ≤ 64 ∧ 0 ≤ mask ∧ mask ≤ 255

theorem may_yes {mi ma mask : Int} (h : may mi ma mask) : chunk_May.f mi ma mask = some true := by
  obtain ⟨m1, m2, m3, m4, m5⟩ := h
  unfold chunk_May.f; rw [if_pos (by omega), if_pos (by omega), if_pos (by omega), if_pos (by omega)]; simp; omega

theorem may_no {mi ma mask : Int} (h : ¬ may mi ma mask) : chunk_May.f mi ma mask = some false := by
  unfold may at h
  unfold chunk_May.f
  split
  · split
    · split
      · split
        · congr 1; simp; omega
        · rfl
      · rfl
    · rfl
  · rfl

/-- The chunks. -/
def chunks (mi ma mask : Int) (s : ByteArray) : List ByteArray := pieces (clen mi ma mask) s.size s

theorem split_yes {mi ma mask : Int} (h : may mi ma mask) (s : ByteArray) (hs : s.size ≤ 1024) (k : Nat) (hk : s.size + 66 < k) : chunk_Split.f k s mi ma mask = some (chunks mi ma mask s, none) := by
  unfold chunk_Split.f
  rw [may_yes h]; simp only [Option.bind_some, if_true]; rw [if_neg (by omega), split_l mi ma mask h.1 h.2.1 h.2.2.1 s.size k s [] (by omega) hs (by simp; omega) (by omega)]
  simp [chunks]

theorem split_large {mi ma mask : Int} (h : may mi ma mask) (s : ByteArray) (hs : 1024 < s.size) (k : Nat) : chunk_Split.f k s mi ma mask = some ([], some 7) := by
  unfold chunk_Split.f
  rw [may_yes h]; simp only [Option.bind_some, if_true]; rw [if_pos (by omega)]

theorem split_no {mi ma mask : Int} (h : ¬ may mi ma mask) (s : ByteArray) (k : Nat) : chunk_Split.f k s mi ma mask = some ([], some 1) := by
  unfold chunk_Split.f
  rw [may_no h]; simp

theorem chunks_cons {mi ma mask : Int} (h : may mi ma mask) (s : ByteArray) (h0 : s.size ≠ 0) : chunks mi ma mask s = s.extract 0 (clen mi ma mask s) :: chunks mi ma mask (s.extract (clen mi ma mask s) s.size) := by
  have hr := clen_range mi ma mask s h.1 h.2.1 h0
  unfold chunks
  rw [size_rest]
  obtain ⟨d, hd⟩ : ∃ d, s.size = d + 1 := ⟨s.size - 1, by omega⟩
  rw [hd]; simp only [pieces]; rw [if_neg h0, pieces_fuel mi ma mask h.1 h.2.1 d (d + 1 - clen mi ma mask s) _ (by rw [size_rest]; omega) (by rw [size_rest]; omega), hd]

theorem chunks_nil {mi ma mask : Int} (s : ByteArray) (h0 : s.size = 0) : chunks mi ma mask s = [] := by
  unfold chunks; rw [h0]; rfl

theorem same_l (L : List ByteArray) (hL : L.length ≤ 140737488351232) (d : Nat) : ∀ (k : Nat) (i : Nat), i + d = L.length → d < k → becketref03_Same.l0 k L L i = some true := by
  induction d with
  | zero =>
    intro k i hd hk
    obtain ⟨k, rfl⟩ : ∃ m, k = m + 1 := ⟨k - 1, by omega⟩
    simp only [becketref03_Same.l0]; rw [if_neg (by omega)]
  | succ d ih =>
    intro k i hd hk
    obtain ⟨k, rfl⟩ : ∃ m, k = m + 1 := ⟨k - 1, by omega⟩
    simp only [becketref03_Same.l0]
    rw [if_pos (by omega), if_pos (by omega), if_pos (by omega)]
    simp only [if_true]
    rw [w64 (x := (i : Int) + 1) (by omega) (by omega), show ((i : Int) + 1) = ((i + 1 : Nat) : Int) from by omega]
    exact ih k (i + 1) (by omega) (by omega)

theorem same_self (L : List ByteArray) (hL : L.length ≤ 140737488351232) (k : Nat) (hk : L.length < k) : becketref03_Same.f k L L = some true := by
  unfold becketref03_Same.f
  rw [if_pos rfl]
  exact same_l L hL L.length k 0 (by omega) hk

/-! ### cuts of texts -/
theorem ext_head (s t : ByteArray) (r : Nat) (h : r ≤ s.size) : (s ++ t).extract 0 r = s.extract 0 r := by
  rw [ByteArray.extract_append, show r - s.size = 0 from by omega]
  apply ByteArray.ext
  rw [ByteArray.data_append, ByteArray.data_extract, ByteArray.data_extract]
  simp
theorem ext_all (t : ByteArray) (n : Nat) (h : n = t.size) : t.extract 0 n = t := by
  subst h
  apply ByteArray.ext
  rw [ByteArray.data_extract]
  show t.data.extract 0 t.data.size = t.data
  simp
theorem ext_over (s : ByteArray) (r n : Nat) (h : s.size ≤ n) : s.extract r n = s.extract r s.size := by
  apply ByteArray.ext
  rw [ByteArray.data_extract, ByteArray.data_extract]
  show s.data.extract r n = s.data.extract r s.data.size
  have : s.data.size ≤ n := h
  apply Array.ext'
  simp [Array.toList_extract, List.extract]
  omega
theorem ext_rest (s t : ByteArray) (r : Nat) (h : r ≤ s.size) : (s ++ t).extract r (s ++ t).size = s.extract r s.size ++ t := by
  rw [ByteArray.extract_append, ByteArray.size_append, show r - s.size = 0 from by omega, ext_all t _ (by omega), ext_over s r _ (by omega)]
theorem ext_rest2 (s : ByteArray) (a b : Nat) : (s.extract a s.size).extract b (s.extract a s.size).size = s.extract (a + b) s.size := by
  rw [ByteArray.extract_extract]
  congr 1
  rw [ByteArray.size_extract]; omega
theorem ext_head2 (s : ByteArray) (a b : Nat) (h : a + b ≤ s.size) : (s.extract a s.size).extract 0 b = s.extract a (a + b) := by
  rw [ByteArray.extract_extract]
  congr 1; omega
theorem ext_join (s : ByteArray) (r : Nat) : (s.extract 0 r).data.toList ++ (s.extract r s.size).data.toList = s.data.toList := by
  rw [ByteArray.data_extract, ByteArray.data_extract]
  show (s.data.extract 0 r).toList ++ (s.data.extract r s.data.size).toList = _
  simp only [Array.toList_extract, List.extract, Nat.sub_zero, List.drop_zero]
  rw [List.take_of_length_le (l := List.drop r s.data.toList) (by simp), List.take_append_drop]
theorem and_step (n m : Nat) : (n &&& m = m) ↔ ((m % 2 = 1 → n % 2 = 1) ∧ (n / 2 &&& m / 2 = m / 2)) := by
  have h1 : (n &&& m) / 2 = n / 2 &&& m / 2 := Nat.and_div_two
  have h2 : (n &&& m) % 2 = (n % 2) &&& (m % 2) := by
    have := @Nat.and_mod_two_pow n m 1
    simpa using this
  rw [← h1]
  clear h1
  generalize (n &&& m) = x at h2 ⊢
  rcases Nat.mod_two_eq_zero_or_one n with a | a <;> rcases Nat.mod_two_eq_zero_or_one m with b | b <;> rw [a, b] at h2 <;> simp at h2 <;> constructor
  · intro e; exact ⟨by omega, by omega⟩
  · rintro ⟨p, q⟩; omega
  · intro e; exact ⟨by omega, by omega⟩
  · rintro ⟨p, q⟩; have := p (by omega); omega
  · intro e; exact ⟨by omega, by omega⟩
  · rintro ⟨p, q⟩; omega
  · intro e; exact ⟨by omega, by omega⟩
  · rintro ⟨p, q⟩; omega

/-! ### the joined chunks -/
theorem join_nil (L : List (List UInt8)) : Lib.join L [] = L.flatten := by
  show List.intercalate [] L = L.flatten
  induction L with
  | nil => rfl
  | cons x xs ih =>
    cases xs with
    | nil => simp [List.intercalate]
    | cons y ys =>
      simp [List.intercalate, List.intersperse] at ih ⊢
      exact ih

theorem chunks_flat {mi ma mask : Int} (h : may mi ma mask) (d : Nat) : ∀ s : ByteArray, s.size ≤ d → ((chunks mi ma mask s).map (·.data.toList)).flatten = s.data.toList := by
  induction d with
  | zero =>
    intro s hs
    rw [chunks_nil s (by omega)]
    exact (List.eq_nil_of_length_eq_zero (by rw [data_length]; omega)).symm
  | succ d ih =>
    intro s hs
    by_cases h0 : s.size = 0
    · exact ih s (by omega)
    · have hr := clen_range mi ma mask s h.1 h.2.1 h0
      rw [chunks_cons h s h0, List.map_cons, List.flatten_cons, ih _ (by rw [size_rest]; omega), ext_join]

theorem flat_size (L : List ByteArray) : (L.map (·.data.toList)).flatten.length = (L.map (·.size)).sum := by
  induction L with
  | nil => rfl
  | cons x xs ih => simp only [List.map_cons, List.flatten_cons, List.length_append, ih, List.sum_cons, data_length]

theorem join_f (L : List ByteArray) (h1 : L.length ≤ 140737488355328) (h2 : (L.map (·.data.toList)).flatten.length ≤ 140737488355328) : chunk_Join.f L = some ⟨(L.map (·.data.toList)).flatten.toArray⟩ := by
  unfold chunk_Join.f strings_Join.f
  have e : Lib.join (L.map (·.data.toList)) (⟨#[]⟩ : ByteArray).data.toList = (L.map (·.data.toList)).flatten := join_nil _
  rw [e, if_pos ⟨h1, h2⟩]
  rfl

theorem chunks_length {mi ma mask : Int} (h : may mi ma mask) (d : Nat) : ∀ s : ByteArray, s.size ≤ d → (chunks mi ma mask s).length ≤ s.size := by
  induction d with
  | zero => intro s hs; rw [chunks_nil s (by omega)]; simp
  | succ d ih =>
    intro s hs
    by_cases h0 : s.size = 0
    · rw [chunks_nil s h0]; simp
    · have hr := clen_range mi ma mask s h.1 h.2.1 h0
      rw [chunks_cons h s h0, List.length_cons]
      have := ih (s.extract (clen mi ma mask s) s.size) (by rw [size_rest]; omega)
      rw [size_rest] at this
      omega

theorem join_chunks {mi ma mask : Int} (h : may mi ma mask) (s : ByteArray) (hs : s.size ≤ 3000) : chunk_Join.f (chunks mi ma mask s) = some s := by
  have hc := chunks_length h s.size s (Nat.le_refl _)
  have hf := chunks_flat h s.size s (Nat.le_refl _)
  rw [join_f _ (by omega) (by rw [hf, data_length]; omega), hf]

theorem join_empty : chunk_Join.f [] = some ⟨#[]⟩ := by
  rw [join_f [] (by simp) (by simp)]; rfl

/-! ### ChunkStays -/
theorem up_true : ∃ k, becketlaw03_up.f k = some true := ⟨200, by decide +kernel⟩

theorem stays_set (s : ByteArray) (e : Option Int) (was : List ByteArray) (mi ma mask : Int) (fin : ∀ k, 5000 < k → becketlaw03_ChunkStays.l0 k s true [] e was 0 mi ma mask = some true) (d : Nat) :
    ∀ (k i : Nat) (L : List ByteArray), i + d = L.length → d + 5000 < k → L.length ≤ 3000 → becketlaw03_ChunkStays.l0 k s true L e was i mi ma mask = some true := by
  induction d with
  | zero =>
    intro k i L hd hk hL
    have f := fin k (by omega)
    obtain ⟨k, rfl⟩ : ∃ m, k = m + 1 := ⟨k - 1, by omega⟩
    simp only [becketlaw03_ChunkStays.l0] at f ⊢
    rw [if_neg (by simp)] at f
    rw [if_neg (by omega)]; exact f
  | succ d ih =>
    intro k i L hd hk hL
    obtain ⟨k, rfl⟩ : ∃ m, k = m + 1 := ⟨k - 1, by omega⟩
    simp only [becketlaw03_ChunkStays.l0]
    rw [if_pos (by omega), if_pos (by omega), w64 (x := (i : Int) + 1) (by omega) (by omega), show ((i : Int) + 1) = ((i + 1 : Nat) : Int) from by omega]
    exact ih k (i + 1) _ (by rw [List.length_set]; omega) (by omega) (by rw [List.length_set]; exact hL)

theorem stays_fin (s : ByteArray) (e : Option Int) (was : List ByteArray) (mi ma mask : Int) (hw : was.length ≤ 3000) (hs : ∀ k, 5000 ≤ k → chunk_Split.f k s mi ma mask = some (was, e)) :
    ∀ k, 5000 < k → becketlaw03_ChunkStays.l0 k s true [] e was 0 mi ma mask = some true := by
  intro k hk
  obtain ⟨k, rfl⟩ : ∃ m, k = m + 1 := ⟨k - 1, by omega⟩
  simp only [becketlaw03_ChunkStays.l0]
  rw [if_neg (by simp), hs k (by omega)]; simp only [Option.bind_some, if_true]
  have hsame := same_self was (by omega) k (by omega)
  cases e with
  | none => simp [hsame]
  | some e => simp [hsame]

theorem chunk_stays (s : ByteArray) (mi ma mask : Int) : ∃ k, becketlaw03_ChunkStays.f k s mi ma mask = some true := by
  obtain ⟨K, hK⟩ := up_true
  have hup : ∀ k, K ≤ k → becketlaw03_up.f k = some true := fun k hk => at_rounds (g := fun k => becketlaw03_up.f k) (fun k => becketlaw03_up.mono k) hk hK
  refine ⟨K + 20000, ?_⟩
  generalize hk : K + 20000 = k
  unfold becketlaw03_ChunkStays.f
  rw [hup _ (by omega)]; simp only [Option.bind_some]
  by_cases h1 : (s.size : Int) > 3000
  · rw [if_pos h1]
  rw [if_neg h1]
  have main : ∀ (e : Option Int) (was : List ByteArray) (j : ByteArray), was.length ≤ 3000 → (∀ k, 5000 ≤ k → chunk_Split.f k s mi ma mask = some (was, e)) → chunk_Join.f was = some j → ((chunk_Split.f k s mi ma mask).bind fun bt187 => ((some (([] : List ByteArray) : List ByteArray)).bind fun y191 => (if y191.length + bt187.1.length < 8796093022208 then ((some (y191 ++ bt187.1 : List ByteArray)).bind fun y194 => ((chunk_Join.f bt187.1).bind fun t197 => ((becketref03_Same.f k bt187.1 y194).bind fun t198 => (if t198 = true then (becketlaw03_ChunkStays.l0 k s true bt187.1 bt187.2 y194 0 mi ma mask) else (some false))))) else (none)))) = some true := by
    intro e was j hw hs hj
    rw [hs k (by omega)]; simp only [Option.bind_some, List.nil_append, List.length_nil]
    rw [if_pos (by omega), hj]; simp only [Option.bind_some]
    rw [same_self was (by omega) k (by omega)]; simp only [Option.bind_some, if_true]
    exact stays_set s e was mi ma mask (stays_fin s e was mi ma mask hw hs) was.length k 0 was (by omega) (by omega) hw
  by_cases hm : may mi ma mask
  · by_cases hL : s.size ≤ 1024
    · have hc := chunks_length hm s.size s (Nat.le_refl _)
      exact main none (chunks mi ma mask s) s (by omega) (fun k hk => split_yes hm s hL k (by omega)) (join_chunks hm s (by omega))
    · exact main (some 7) [] _ (by simp) (fun k hk => split_large hm s (by omega) k) join_empty
  · exact main (some 1) [] _ (by simp) (fun k hk => split_no hm s k) join_empty

/-! ### ChunkBack -/
theorem bt_append (s t : ByteArray) (i : Int) (h0 : 0 ≤ i) (h : i < s.size) : bt (s ++ t) i = bt s i := by
  unfold bt
  rw [dif_pos (show i.toNat < (s ++ t).size by rw [ByteArray.size_append]; omega), dif_pos (show i.toNat < s.size by omega)]
  rw [ByteArray.getElem_append_left]

theorem cl_append (s t : ByteArray) (mi ma mask : Int) (d : Nat) : ∀ (d' : Nat) (i a : Int), 0 ≤ i → i + d = min (s.size : Int) ma → i + d' = min ((s ++ t).size : Int) ma → cl s mi ma mask d i a < s.size → cl (s ++ t) mi ma mask d' i a = cl s mi ma mask d i a := by
  induction d with
  | zero =>
    intro d' i a h0 hd hd' hlt
    simp only [cl] at hlt ⊢
    rw [ByteArray.size_append] at hd'
    have : d' = 0 := by omega
    subst this
    simp only [cl]
    rw [ByteArray.size_append]; omega
  | succ d ih =>
    intro d' i a h0 hd hd' hlt
    rw [ByteArray.size_append] at hd'
    obtain ⟨d', rfl⟩ : ∃ m, d' = m + 1 := ⟨d' - 1, by omega⟩
    have hb : bt (s ++ t) i = bt s i := bt_append s t i h0 (by omega)
    have hh : hit (s ++ t) mi mask i a ↔ hit s mi mask i a := by unfold hit; rw [hb]
    simp only [cl] at hlt ⊢
    by_cases h : hit s mi mask i a
    · rw [if_pos h, if_pos (hh.2 h)]
    · rw [if_neg h] at hlt
      rw [if_neg h, if_neg (fun x => h (hh.1 x)), hb]
      exact ih d' (i + 1) _ (by omega) (by omega) (by rw [ByteArray.size_append]; omega) hlt

theorem clen_append (s t : ByteArray) (mi ma mask : Int) (hm : may mi ma mask) (h : clen mi ma mask s < s.size) : clen mi ma mask (s ++ t) = clen mi ma mask s := by
  unfold clen at h ⊢
  have hr := cl_range s mi ma mask (min (s.size : Int) ma).toNat 0 0 (by omega) (by have := hm.1; have := hm.2.1; omega) (by have := hm.1; have := hm.2.1; omega)
  rw [cl_append s t mi ma mask (min (s.size : Int) ma).toNat (min ((s ++ t).size : Int) ma).toNat 0 0 (by omega) (by have := hm.1; have := hm.2.1; omega) (by have := hm.1; have := hm.2.1; omega) (by omega)]

theorem chunks_append {mi ma mask : Int} (hm : may mi ma mask) (t : ByteArray) (d : Nat) : ∀ s : ByteArray, s.size ≤ d → s.size ≠ 0 → ∃ A last B, chunks mi ma mask s = A ++ [last] ∧ chunks mi ma mask (s ++ t) = A ++ B := by
  induction d with
  | zero => intro s hs h0; omega
  | succ d ih =>
    intro s hs h0
    have hr := clen_range mi ma mask s hm.1 hm.2.1 h0
    by_cases hl : clen mi ma mask s = s.size
    · refine ⟨[], s.extract 0 (clen mi ma mask s), chunks mi ma mask (s ++ t), ?_, by simp⟩
      rw [chunks_cons hm s h0, chunks_nil (s.extract (clen mi ma mask s) s.size) (by rw [size_rest]; omega)]; simp
    · obtain ⟨A, last, B, e1, e2⟩ := ih (s.extract (clen mi ma mask s) s.size) (by rw [size_rest]; omega) (by rw [size_rest]; omega)
      refine ⟨s.extract 0 (clen mi ma mask s) :: A, last, B, ?_, ?_⟩
      · rw [chunks_cons hm s h0, e1]; simp
      · rw [chunks_cons hm (s ++ t) (by rw [ByteArray.size_append]; omega), clen_append s t mi ma mask hm (by omega), ext_head s t _ (by omega), ext_rest s t _ (by omega), e2]; simp

theorem chunks_sizes {mi ma mask : Int} (hm : may mi ma mask) (d : Nat) : ∀ s : ByteArray, s.size ≤ d → ∀ i : Nat, i < (chunks mi ma mask s).length → 1 ≤ ((chunks mi ma mask s).getD i ByteArray.empty).size ∧ (((chunks mi ma mask s).getD i ByteArray.empty).size : Int) ≤ ma ∧ (i + 1 < (chunks mi ma mask s).length → mi ≤ (((chunks mi ma mask s).getD i ByteArray.empty).size : Int)) := by
  induction d with
  | zero => intro s hs i hi; rw [chunks_nil s (by omega)] at hi; simp at hi
  | succ d ih =>
    intro s hs i hi
    by_cases h0 : s.size = 0
    · rw [chunks_nil s h0] at hi; simp at hi
    have hr := clen_range mi ma mask s hm.1 hm.2.1 h0
    rw [chunks_cons hm s h0] at hi ⊢
    cases i with
    | zero =>
      simp only [List.getD_cons_zero, List.length_cons]
      rw [size_head s _ (by omega)]
      refine ⟨by omega, by omega, fun h => ?_⟩
      by_cases hl : clen mi ma mask s = s.size
      · rw [chunks_nil (s.extract (clen mi ma mask s) s.size) (by rw [size_rest]; omega)] at h; simp at h
      · omega
    | succ i =>
      simp only [List.getD_cons_succ, List.length_cons] at hi ⊢
      have := ih (s.extract (clen mi ma mask s) s.size) (by rw [size_rest]; omega) i (by omega)
      exact ⟨this.1, this.2.1, fun h => this.2.2 (by omega)⟩

theorem back_l1 (A B : List ByteArray) (last : ByteArray) (hA : A.length ≤ 3000) (d : Nat) : ∀ (k i : Nat), i + d = A.length → d < k → becketlaw03_ChunkBack.l1 k true (A ++ [last]) (A ++ B) i = some true := by
  induction d with
  | zero =>
    intro k i hd hk
    obtain ⟨k, rfl⟩ : ∃ m, k = m + 1 := ⟨k - 1, by omega⟩
    simp only [becketlaw03_ChunkBack.l1]
    rw [if_neg (by simp; rw [w64 (by omega) (by omega)]; omega)]
  | succ d ih =>
    intro k i hd hk
    obtain ⟨k, rfl⟩ : ∃ m, k = m + 1 := ⟨k - 1, by omega⟩
    have l1 : (A ++ [last]).length = A.length + 1 := by simp
    have l2 : (A ++ B).length = A.length + B.length := by simp
    have e : rdOf ByteArray.empty (A ++ B) (i : Int) = rdOf ByteArray.empty (A ++ [last]) (i : Int) := by
      show (A ++ B).getD i ByteArray.empty = (A ++ [last]).getD i ByteArray.empty
      rw [List.getD_eq_getElem?_getD, List.getD_eq_getElem?_getD, List.getElem?_append_left (by omega), List.getElem?_append_left (by omega)]
    simp only [becketlaw03_ChunkBack.l1]
    rw [l1, l2, w64 (x := ((A.length + 1 : Nat) : Int) - 1) (by omega) (by omega), if_pos (by omega), if_neg (by omega), if_pos (by omega), if_pos (by omega), if_pos (by omega), e, if_pos rfl,
      w64 (x := (i : Int) + 1) (by omega) (by omega), show ((i : Int) + 1) = ((i + 1 : Nat) : Int) from by omega]
    exact ih k (i + 1) (by omega) (by omega)

theorem back_fin (s t : ByteArray) (mi ma mask : Int) (hm : may mi ma mask) (hs : s.size ≤ 1024) (ht : t.size ≤ 3000) (k : Nat) (hk : 8000 < k) : becketlaw03_ChunkBack.l0 k s t true (chunks mi ma mask s) ((chunks mi ma mask s).length : Int) mi ma mask = some true := by
  have hc := chunks_length hm s.size s (Nat.le_refl _)
  obtain ⟨k, rfl⟩ : ∃ m, k = m + 1 := ⟨k - 1, by omega⟩
  simp only [becketlaw03_ChunkBack.l0]
  rw [if_neg (by omega), join_chunks hm s (by omega)]; simp only [Option.bind_some, if_true]
  rw [if_pos (by omega)]
  by_cases hL : (s ++ t).size ≤ 1024
  · rw [split_yes hm (s ++ t) hL k (by omega)]; simp only [Option.bind_some, Option.isNone_none, if_true]
    by_cases h0 : s.size = 0
    · rw [chunks_nil s h0]
      obtain ⟨k, rfl⟩ : ∃ m, k = m + 1 := ⟨k - 1, by omega⟩
      simp only [becketlaw03_ChunkBack.l1]
      rw [if_neg (by simp; rw [w64 (by omega) (by omega)]; omega)]
    · obtain ⟨A, last, B, e1, e2⟩ := chunks_append hm t s.size s (Nat.le_refl _) h0
      have : A.length ≤ 3000 := by rw [e1] at hc; simp at hc; omega
      rw [e1, e2]
      exact back_l1 A B last this A.length k 0 (by omega) (by omega)
  · rw [split_large hm (s ++ t) (by omega) k]
    rw [ByteArray.size_append] at hL
    simp only [Option.bind_some, Option.isNone_some]
    rw [if_neg (by decide), w64 (by omega) (by omega)]
    simp; omega

theorem back_loop (s t : ByteArray) (mi ma mask : Int) (hm : may mi ma mask) (hs : s.size ≤ 1024) (ht : t.size ≤ 3000) (d : Nat) : ∀ (k i : Nat), i + d = (chunks mi ma mask s).length → d + 8000 < k → becketlaw03_ChunkBack.l0 k s t true (chunks mi ma mask s) (i : Int) mi ma mask = some true := by
  have hc := chunks_length hm s.size s (Nat.le_refl _)
  induction d with
  | zero =>
    intro k i hd hk
    rw [show i = (chunks mi ma mask s).length from by omega]
    exact back_fin s t mi ma mask hm hs ht k (by omega)
  | succ d ih =>
    intro k i hd hk
    obtain ⟨k, rfl⟩ : ∃ m, k = m + 1 := ⟨k - 1, by omega⟩
    obtain ⟨c1, c2, c3⟩ := chunks_sizes hm s.size s (Nat.le_refl _) i (by omega)
    have e : rdOf ByteArray.empty (chunks mi ma mask s) (i : Int) = (chunks mi ma mask s).getD i ByteArray.empty := rfl
    have IH := ih k (i + 1) (by omega) (by omega)
    simp only [becketlaw03_ChunkBack.l0]
    rw [if_pos (by omega), if_pos (by omega), e, if_neg (by omega), if_neg (by omega), w64 (x := ((chunks mi ma mask s).length : Int) - 1) (by omega) (by omega),
      w64 (x := (i : Int) + 1) (by omega) (by omega), show ((i : Int) + 1) = ((i + 1 : Nat) : Int) from by omega, IH]
    by_cases h : (i : Int) < ((chunks mi ma mask s).length : Int) - 1
    · rw [if_pos h, if_neg (by have := c3 (by omega); omega)]
    · rw [if_neg h]

theorem chunk_back (s t : ByteArray) (mi ma mask : Int) : ∃ k, becketlaw03_ChunkBack.f k s t mi ma mask = some true := by
  obtain ⟨K, hK⟩ := up_true
  have hup : ∀ k, K ≤ k → becketlaw03_up.f k = some true := fun k hk => at_rounds (g := fun k => becketlaw03_up.f k) (fun k => becketlaw03_up.mono k) hk hK
  refine ⟨(K + 20000) + 1, ?_⟩
  generalize hk : K + 20000 = k
  unfold becketlaw03_ChunkBack.f
  rw [hup _ (by omega)]; simp only [Option.bind_some]
  by_cases h1 : (s.size : Int) > 3000
  · rw [if_pos h1]; simp [becketlaw03_ChunkBack.j0]
  rw [if_neg h1]
  by_cases h2 : (t.size : Int) > 3000
  · rw [decide_eq_true h2]; simp [becketlaw03_ChunkBack.j0]
  rw [decide_eq_false h2]
  simp only [becketlaw03_ChunkBack.j0]
  rw [if_neg (by decide)]
  by_cases hm : may mi ma mask
  · by_cases hL : s.size ≤ 1024
    · rw [split_yes hm s hL k (by omega)]; simp only [Option.bind_some, Option.isNone_none, if_true]
      have hc := chunks_length hm s.size s (Nat.le_refl _)
      exact back_loop s t mi ma mask hm hL (by omega) (chunks mi ma mask s).length k 0 (by omega) (by omega)
    · rw [split_large hm s (by omega) k]; simp
  · rw [split_no hm s k]; simp

/-! ### ChunkSplits: the document's own cutting -/
theorem m_small (j m : Nat) (hj : j + 1 ≤ 8) (hm : m < 2 ^ (j + 1)) : m < 512 :=
  Nat.lt_of_lt_of_le hm (Nat.le_trans (Nat.pow_le_pow_right (show 0 < 2 by decide) hj) (show 2 ^ 8 ≤ 512 by decide))

theorem all_l (j : Nat) : ∀ (k i n m : Nat), i + j = 8 → m < 2 ^ j → n < 16384 → j < k → becketref03_all.l0 k (n : Int) (m : Int) (i : Int) = some (decide (n &&& m = m)) := by
  induction j with
  | zero =>
    intro k i n m hi hm hn hk
    obtain ⟨k, rfl⟩ : ∃ q, k = q + 1 := ⟨k - 1, by omega⟩
    have : m = 0 := by simpa using hm
    subst this
    simp only [becketref03_all.l0]
    rw [if_neg (by omega)]; simp
  | succ j ih =>
    intro k i n m hi hm hn hk
    obtain ⟨k, rfl⟩ : ∃ q, k = q + 1 := ⟨k - 1, by omega⟩
    have hm2 : m < 512 := m_small j m (by omega) hm
    have hmh : m / 2 < 2 ^ j := Nat.div_lt_of_lt_mul (by rw [Nat.pow_succ, Nat.mul_comm] at hm; exact hm)
    clear hm
    have IH := ih k (i + 1) (n / 2) (m / 2) (by omega) hmh (by omega) (by omega)
    clear hmh
    have hi8 : (i : Int) < 8 := by omega
    have hw1 : wrap64 ((i : Int) + 1) = ((i + 1 : Nat) : Int) := by rw [w64 (by omega) (by omega)]; omega
    have e1 : Int.tmod (m : Int) 2 = ((m % 2 : Nat) : Int) := by rw [Int.tmod_eq_emod_of_nonneg (by omega)]; omega
    have e2 : Int.tmod (n : Int) 2 = ((n % 2 : Nat) : Int) := by rw [Int.tmod_eq_emod_of_nonneg (by omega)]; omega
    have e3 : wrap64 (Int.tdiv (n : Int) 2) = ((n / 2 : Nat) : Int) := by rw [Int.tdiv_eq_ediv_of_nonneg (by omega), w64 (by omega) (by omega)]; omega
    have e4 : wrap64 (Int.tdiv (m : Int) 2) = ((m / 2 : Nat) : Int) := by rw [Int.tdiv_eq_ediv_of_nonneg (by omega), w64 (by omega) (by omega)]; omega
    have st := and_step n m
    simp only [becketref03_all.l0]
    rw [if_pos hi8, e1, e2, e3, e4, hw1, IH]
    clear e1 e2 e3 e4 hw1 IH
    by_cases h1 : m % 2 = 1
    · rw [if_pos (by omega)]
      by_cases h2 : n % 2 = 0
      · rw [if_pos (by omega), decide_eq_false (fun h => by have := (st.1 h).1 h1; omega)]
      · rw [if_neg (by omega)]
        congr 1
        rw [decide_eq_decide]
        exact ⟨fun h => st.2 ⟨fun _ => by omega, h⟩, fun h => (st.1 h).2⟩
    · rw [if_neg (by omega)]
      congr 1
      rw [decide_eq_decide]
      exact ⟨fun h => st.2 ⟨fun h3 => absurd h3 h1, h⟩, fun h => (st.1 h).2⟩

theorem all_f (n mask : Int) (hn0 : 0 ≤ n) (hn : n < 16384) (hm0 : 0 ≤ mask) (hm : mask ≤ 255) (k : Nat) (hk : 8 < k) : becketref03_all.f k n mask = some (decide (Go.bits .and .i64 n mask = mask)) := by
  obtain ⟨a, rfl⟩ := Int.eq_ofNat_of_zero_le hn0
  obtain ⟨b, rfl⟩ := Int.eq_ofNat_of_zero_le hm0
  unfold becketref03_all.f
  have hp8 : (2 : Nat) ^ 8 = 256 := by decide
  have h := all_l 8 k 0 a b (by omega) (by omega) (by omega) hk
  rw [Int.natCast_zero] at h
  have w62 : ∀ x : Int, 0 ≤ x → x < 2 ^ 62 → IntKind.i64.wrap x = x := by
    intro x h0 h1
    have e : (2 : Int) ^ 62 = 4611686018427387904 := by decide
    rw [e] at h1
    rw [IntKind.wrap_i64]; omega
  rw [h, (bits_nat .i64 62 (by decide) w62 a b (Nat.lt_trans (show a < 16384 by omega) (by decide)) (Nat.lt_trans (show b < 16384 by omega) (by decide))).1]
  congr 1
  rw [decide_eq_decide]
  omega

/-- The byte ahead of the place i, where the chunk begins at f. -/
def ahead (s : ByteArray) (f i : Nat) : Int := if i = f then 0 else bt s ((i : Int) - 1)

/-- Is a chunk cut behind the place i? The document's words. -/
def cutAt (s : ByteArray) (mi ma mask : Int) (f i : Nat) : Prop := ((i + 1 - f : Nat) : Int) = ma ∨ (mi ≤ ((i + 1 - f : Nat) : Int) ∧ Go.bits .and .i64 (31 * ahead s f i + bt s i) mask = mask) ∨ i + 1 = s.size
instance (s : ByteArray) (mi ma mask : Int) (f i : Nat) : Decidable (cutAt s mi ma mask f i) := by unfold cutAt; infer_instance

theorem ref_step (s : ByteArray) (mi ma mask : Int) (hm : may mi ma mask) (out : List ByteArray) (f i k : Nat) (hf : f ≤ i) (hi : i < s.size) (hs : s.size ≤ 3000) (ho : out.length ≤ 5000) (hk : 10 < k) :
    becketref03_Split.l0 (k + 1) s out f i mi ma mask = if cutAt s mi ma mask f i then becketref03_Split.l0 k s (out ++ [s.extract f (i + 1)]) ((i + 1 : Nat) : Int) ((i + 1 : Nat) : Int) mi ma mask else becketref03_Split.l0 k s out f ((i + 1 : Nat) : Int) mi ma mask := by
  have hb := bt_range s i
  have hb1 := bt_range s ((i : Int) - 1)
  have e1 : wrap64 ((i : Int) + 1) = ((i + 1 : Nat) : Int) := by rw [w64 (by omega) (by omega)]; omega
  have e2 : wrap64 (((i + 1 : Nat) : Int) - (f : Int)) = ((i + 1 - f : Nat) : Int) := by rw [w64 (by omega) (by omega)]; omega
  have e3 : wrap64 ((i : Int) - 1) = (i : Int) - 1 := w64 (by omega) (by omega)
  have e4 : wrap64 ((s.size : Int) - 1) = (s.size : Int) - 1 := w64 (by omega) (by omega)
  have e5 : wrap64 (bt s i) = bt s i := w64 (by omega) (by omega)
  have e6 : wrap64 (bt s ((i : Int) - 1)) = bt s ((i : Int) - 1) := w64 (by omega) (by omega)
  have fin : ∀ (b : Bool), b = decide (Go.bits .and .i64 (31 * ahead s f i + bt s i) mask = mask) →
      (if ((i + 1 - f : Nat) : Int) = ma then (if 0 ≤ (f : Int) then (if (f : Int) ≤ ((i + 1 : Nat) : Int) then (if ((i + 1 : Nat) : Int) ≤ (s.size : Int) then (if out.length < 8796093022208 then (becketref03_Split.l0 k s (out ++ [s.extract (f : Int).toNat (((i + 1 : Nat) : Int)).toNat]) ((i + 1 : Nat) : Int) ((i + 1 : Nat) : Int) mi ma mask) else (none)) else (none)) else (none)) else (none)) else
        (if ((i + 1 - f : Nat) : Int) ≥ mi then (if b = true then (if 0 ≤ (f : Int) then (if (f : Int) ≤ ((i + 1 : Nat) : Int) then (if ((i + 1 : Nat) : Int) ≤ (s.size : Int) then (if out.length < 8796093022208 then (becketref03_Split.l0 k s (out ++ [s.extract (f : Int).toNat (((i + 1 : Nat) : Int)).toNat]) ((i + 1 : Nat) : Int) ((i + 1 : Nat) : Int) mi ma mask) else (none)) else (none)) else (none)) else (none)) else
          (if (i : Int) = (s.size : Int) - 1 then (if 0 ≤ (f : Int) then (if (f : Int) ≤ ((i + 1 : Nat) : Int) then (if ((i + 1 : Nat) : Int) ≤ (s.size : Int) then (if out.length < 8796093022208 then (becketref03_Split.l0 k s (out ++ [s.extract (f : Int).toNat (((i + 1 : Nat) : Int)).toNat]) ((i + 1 : Nat) : Int) ((i + 1 : Nat) : Int) mi ma mask) else (none)) else (none)) else (none)) else (none)) else (becketref03_Split.l0 k s out f ((i + 1 : Nat) : Int) mi ma mask))) else
        (if (i : Int) = (s.size : Int) - 1 then (if 0 ≤ (f : Int) then (if (f : Int) ≤ ((i + 1 : Nat) : Int) then (if ((i + 1 : Nat) : Int) ≤ (s.size : Int) then (if out.length < 8796093022208 then (becketref03_Split.l0 k s (out ++ [s.extract (f : Int).toNat (((i + 1 : Nat) : Int)).toNat]) ((i + 1 : Nat) : Int) ((i + 1 : Nat) : Int) mi ma mask) else (none)) else (none)) else (none)) else (none)) else (becketref03_Split.l0 k s out f ((i + 1 : Nat) : Int) mi ma mask)))) =
      if cutAt s mi ma mask f i then becketref03_Split.l0 k s (out ++ [s.extract f (i + 1)]) ((i + 1 : Nat) : Int) ((i + 1 : Nat) : Int) mi ma mask else becketref03_Split.l0 k s out f ((i + 1 : Nat) : Int) mi ma mask := by
    intro b hbb
    have c : (if 0 ≤ (f : Int) then (if (f : Int) ≤ ((i + 1 : Nat) : Int) then (if ((i + 1 : Nat) : Int) ≤ (s.size : Int) then (if out.length < 8796093022208 then (becketref03_Split.l0 k s (out ++ [s.extract (f : Int).toNat (((i + 1 : Nat) : Int)).toNat]) ((i + 1 : Nat) : Int) ((i + 1 : Nat) : Int) mi ma mask) else (none)) else (none)) else (none)) else (none)) = becketref03_Split.l0 k s (out ++ [s.extract f (i + 1)]) ((i + 1 : Nat) : Int) ((i + 1 : Nat) : Int) mi ma mask := by
      rw [if_pos (by omega), if_pos (by omega), if_pos (by omega), if_pos (by omega), Int.toNat_natCast, Int.toNat_natCast]
    rw [c]
    generalize becketref03_Split.l0 k s (out ++ [s.extract f (i + 1)]) ((i + 1 : Nat) : Int) ((i + 1 : Nat) : Int) mi ma mask = X
    generalize becketref03_Split.l0 k s out f ((i + 1 : Nat) : Int) mi ma mask = Y
    have hno : ¬ ((i + 1 - f : Nat) : Int) = ma → ¬ (mi ≤ ((i + 1 - f : Nat) : Int) ∧ Go.bits .and .i64 (31 * ahead s f i + bt s i) mask = mask) → ¬ i + 1 = s.size → ¬ cutAt s mi ma mask f i := by
      rintro a1 a2 a3 (x | x | x)
      · exact a1 x
      · exact a2 x
      · exact a3 x
    by_cases h1 : ((i + 1 - f : Nat) : Int) = ma
    · rw [if_pos h1, if_pos (show cutAt s mi ma mask f i from Or.inl h1)]
    rw [if_neg h1]
    by_cases h2 : ((i + 1 - f : Nat) : Int) ≥ mi
    · rw [if_pos h2]
      by_cases h3 : Go.bits .and .i64 (31 * ahead s f i + bt s i) mask = mask
      · rw [hbb, decide_eq_true h3, if_pos rfl, if_pos (show cutAt s mi ma mask f i from Or.inr (Or.inl ⟨h2, h3⟩))]
      · rw [hbb, decide_eq_false h3, if_neg (by decide)]
        by_cases h4 : (i : Int) = (s.size : Int) - 1
        · rw [if_pos h4, if_pos (show cutAt s mi ma mask f i from Or.inr (Or.inr (by omega)))]
        · rw [if_neg h4, if_neg (hno h1 (fun x => h3 x.2) (by omega))]
    · rw [if_neg h2]
      by_cases h4 : (i : Int) = (s.size : Int) - 1
      · rw [if_pos h4, if_pos (show cutAt s mi ma mask f i from Or.inr (Or.inr (by omega)))]
      · rw [if_neg h4, if_neg (hno h1 (fun x => h2 x.1) (by omega))]
  simp only [becketref03_Split.l0]
  rw [if_pos (by omega), e1, e2, e3, e4, e5, e6]
  by_cases hn : ((i + 1 - f : Nat) : Int) > 1
  · rw [if_pos hn, if_pos (by omega), if_pos (by omega), if_pos (by omega), w64 (x := 31 * bt s ((i : Int) - 1)) (by omega) (by omega), w64 (x := 31 * bt s ((i : Int) - 1) + bt s i) (by omega) (by omega),
      all_f _ mask (by omega) (by omega) hm.2.2.2.1 hm.2.2.2.2 k (by omega)]
    simp only [Option.bind_some]
    exact fin _ (by unfold ahead; rw [if_neg (by omega)])
  · rw [if_neg hn, if_pos (by omega), e5, all_f _ mask (by omega) (by omega) hm.2.2.2.1 hm.2.2.2.2 k (by omega)]
    simp only [Option.bind_some]
    exact fin _ (by unfold ahead; rw [if_pos (by omega)]; simp)

theorem bt_ext (s : ByteArray) (f j : Nat) (h : f + j < s.size) : bt (s.extract f s.size) (j : Int) = bt s ((f + j : Nat) : Int) := by
  unfold bt
  simp only [Int.toNat_natCast]
  rw [dif_pos (show j < (s.extract f s.size).size by rw [size_rest]; omega), dif_pos h, ByteArray.getElem_extract]

/-- The chunks from the place f on, none being cut ahead of i. -/
theorem ref_split (s : ByteArray) (mi ma mask : Int) (hm : may mi ma mask) (hs : s.size ≤ 3000) (d : Nat) : ∀ (k f i : Nat) (out : List ByteArray), i + d = s.size → d + 20 < k → f ≤ i → (f = i ∨ i < s.size) → ((i - f : Nat) : Int) < ma → out.length + d ≤ 4000 →
    clen mi ma mask (s.extract f s.size) = (cl (s.extract f s.size) mi ma mask (min ((s.size - f : Nat) : Int) ma - ((i - f : Nat) : Int)).toNat ((i - f : Nat) : Int) (ahead s f i)).toNat →
    becketref03_Split.l0 k s out f i mi ma mask = some (out ++ chunks mi ma mask (s.extract f s.size)) := by
  have h1 := hm.1
  have h2 := hm.2.1
  induction d with
  | zero =>
    intro k f i out hd hk hf hfi hma ho hcl
    obtain ⟨k, rfl⟩ : ∃ q, k = q + 1 := ⟨k - 1, by omega⟩
    simp only [becketref03_Split.l0]
    rw [if_neg (by omega), chunks_nil (s.extract f s.size) (by rw [size_rest]; omega)]; simp
  | succ d ih =>
    intro k f i out hd hk hf hfi hma ho hcl
    obtain ⟨k, rfl⟩ : ∃ q, k = q + 1 := ⟨k - 1, by omega⟩
    have hsz : (s.extract f s.size).size = s.size - f := size_rest s f
    have hne : (s.extract f s.size).size ≠ 0 := by omega
    have hb := bt_range s i
    have hah : 0 ≤ ahead s f i ∧ ahead s f i ≤ 255 := by
      unfold ahead
      split
      · omega
      · exact bt_range s _
    rw [ref_step s mi ma mask hm out f i k hf (by omega) hs (by omega) (by omega)]
    obtain ⟨q, hq⟩ : ∃ q : Nat, (min ((s.size - f : Nat) : Int) ma - ((i - f : Nat) : Int)).toNat = q + 1 := ⟨(min ((s.size - f : Nat) : Int) ma - ((i - f : Nat) : Int)).toNat - 1, by omega⟩
    rw [hq] at hcl
    have hbe : bt (s.extract f s.size) ((i - f : Nat) : Int) = bt s i := by rw [bt_ext s f (i - f) (by omega), show f + (i - f) = i from by omega]
    have hhit : hit (s.extract f s.size) mi mask ((i - f : Nat) : Int) (ahead s f i) ↔ (mi ≤ ((i + 1 - f : Nat) : Int) ∧ Go.bits .and .i64 (31 * ahead s f i + bt s i) mask = mask) := by
      unfold hit
      rw [hbe, w64 (x := bt s i) (by omega) (by omega), w64 (x := 31 * ahead s f i) (by omega) (by omega), w64 (x := 31 * ahead s f i + bt s i) (by omega) (by omega)]
      constructor
      · rintro ⟨a, b⟩; exact ⟨by omega, b⟩
      · rintro ⟨a, b⟩; exact ⟨by omega, b⟩
    simp only [cl] at hcl
    by_cases hc : cutAt s mi ma mask f i
    · rw [if_pos hc]
      have hlen : clen mi ma mask (s.extract f s.size) = i + 1 - f := by
        by_cases hh : hit (s.extract f s.size) mi mask ((i - f : Nat) : Int) (ahead s f i)
        · rw [hcl, if_pos hh]; omega
        · rw [hcl, if_neg hh]
          have hend : min ((s.size - f : Nat) : Int) ma = ((i + 1 - f : Nat) : Int) := by
            rcases hc with x | x | x
            · omega
            · exact absurd (hhit.2 x) hh
            · omega
          have : q = 0 := by omega
          subst this
          simp only [cl]
          rw [hsz]; omega
      have e := chunks_cons hm (s.extract f s.size) hne
      rw [hlen, ext_head2 s f _ (by omega), ext_rest2, show f + (i + 1 - f) = i + 1 from by omega] at e
      rw [e]
      have IH := ih k (i + 1) (i + 1) (out ++ [s.extract f (i + 1)]) (by omega) (by omega) (by omega) (Or.inl rfl) (by omega) (by simp; omega) (by
        unfold clen ahead
        rw [size_rest, if_pos rfl, Nat.sub_self, Int.natCast_zero, Int.sub_zero])
      rw [IH]; simp
    · rw [if_neg hc]
      have hno : ¬ hit (s.extract f s.size) mi mask ((i - f : Nat) : Int) (ahead s f i) := fun x => hc (Or.inr (Or.inl (hhit.1 x)))
      have hnm : ((i + 1 - f : Nat) : Int) ≠ ma := fun x => hc (Or.inl x)
      have hne2 : i + 1 ≠ s.size := fun x => hc (Or.inr (Or.inr x))
      refine ih k f (i + 1) out (by omega) (by omega) (by omega) (Or.inr (by omega)) (by omega) (by omega) ?_
      rw [hcl, if_neg hno]
      have ea : ahead s f (i + 1) = wrap64 (bt (s.extract f s.size) ((i - f : Nat) : Int)) := by
        unfold ahead
        rw [if_neg (by omega), hbe, w64 (by omega) (by omega), show (((i + 1 : Nat) : Int) - 1) = (i : Int) from by omega]
      rw [ea, show (min ((s.size - f : Nat) : Int) ma - ((i + 1 - f : Nat) : Int)).toNat = q from by omega, show ((i - f : Nat) : Int) + 1 = ((i + 1 - f : Nat) : Int) from by omega]

theorem refsplit_f (s : ByteArray) (mi ma mask : Int) (hm : may mi ma mask) (hs : s.size ≤ 3000) (k : Nat) (hk : 4000 < k) : becketref03_Split.f k s mi ma mask = some (chunks mi ma mask s) := by
  have h1 := hm.1
  have h2 := hm.2.1
  have e0 : s.extract 0 s.size = s := ext_all s _ rfl
  unfold becketref03_Split.f
  have h := ref_split s mi ma mask hm hs s.size k 0 0 [] (by omega) (by omega) (by omega) (Or.inl rfl) (by omega) (by simp; omega) (by
    rw [e0]
    unfold clen ahead
    rw [if_pos rfl]
    simp)
  rw [e0, Int.natCast_zero, List.nil_append] at h
  exact h

theorem refmay_f (mi ma mask : Int) : becketref03_May.f mi ma mask = chunk_May.f mi ma mask := by
  unfold becketref03_May.f chunk_May.f
  by_cases h1 : mi ≥ 1
  · rw [if_pos h1]
  · rw [if_neg h1]

theorem flat_snoc (L : List ByteArray) (i : Nat) (h : i < L.length) : ((L.take (i + 1)).map (·.data.toList)).flatten = ((L.take i).map (·.data.toList)).flatten ++ (L.getD i ByteArray.empty).data.toList := by
  rw [List.take_succ_eq_append_getElem h, List.map_append, List.flatten_append]
  simp [List.getD, h]

theorem refjoin_l (L : List ByteArray) (hL : L.length ≤ 100) (hb : ∀ i, i < L.length → (L.getD i ByteArray.empty).size ≤ 1000) (d : Nat) : ∀ (k i : Nat) (s : ByteArray), i + d = L.length → d < k → s.size ≤ 1000 * i → s.data.toList = ((L.take i).map (·.data.toList)).flatten →
    becketref03_Join.l0 k L s (i : Int) = some ⟨(L.map (·.data.toList)).flatten.toArray⟩ := by
  induction d with
  | zero =>
    intro k i s hd hk hs he
    obtain ⟨k, rfl⟩ : ∃ q, k = q + 1 := ⟨k - 1, by omega⟩
    simp only [becketref03_Join.l0]
    rw [if_neg (by omega)]
    rw [List.take_of_length_le (by omega)] at he
    rw [← he]
  | succ d ih =>
    intro k i s hd hk hs he
    obtain ⟨k, rfl⟩ : ∃ q, k = q + 1 := ⟨k - 1, by omega⟩
    have hi := hb i (by omega)
    have e : rdOf ByteArray.empty L (i : Int) = L.getD i ByteArray.empty := rfl
    simp only [becketref03_Join.l0]
    rw [if_pos (by omega), if_pos (by omega), e, if_pos (by omega), w64 (x := (i : Int) + 1) (by omega) (by omega), show ((i : Int) + 1) = ((i + 1 : Nat) : Int) from by omega]
    refine ih k (i + 1) _ (by omega) (by omega) (by rw [ByteArray.size_append]; omega) ?_
    rw [ByteArray.data_append, Array.toList_append, he, flat_snoc L i (by omega)]

theorem joins (L : List ByteArray) (hL : L.length ≤ 100) (hb : ∀ i, i < L.length → (L.getD i ByteArray.empty).size ≤ 1000) (k : Nat) (hk : 200 < k) : ∃ j, chunk_Join.f L = some j ∧ becketref03_Join.f k L = some j := by
  have h := refjoin_l L hL hb L.length k 0 ⟨#[]⟩ (by omega) (by omega) (by simp [ByteArray.size]) (by simp)
  have hlen : ∀ i, i ≤ L.length → ((L.take i).map (·.data.toList)).flatten.length ≤ 1000 * i := by
    intro i
    induction i with
    | zero => intro _; simp
    | succ i ih =>
      intro hi
      rw [flat_snoc L i (by omega), List.length_append, data_length]
      have := ih (by omega)
      have := hb i (by omega)
      omega
  have hl := hlen L.length (Nat.le_refl _)
  rw [List.take_length] at hl
  refine ⟨_, join_f L (by omega) (by omega), ?_⟩
  unfold becketref03_Join.f
  exact h

theorem splits_j2 (k : Nat) (s : ByteArray) (mi ma mask : Int) (hs : s.size ≤ 3000) (hk : 6000 < k) : ∀ (x : List ByteArray) (e : Option Int) (m : Bool), chunk_Split.f k s mi ma mask = some (x, e) → chunk_May.f mi ma mask = some m → becketlaw03_ChunkSplits.j2 k s true x e m false mi ma mask = some true := by
  intro x e m hx hmay
  obtain ⟨k, rfl⟩ : ∃ q, k = q + 1 := ⟨k - 1, by omega⟩
  by_cases hm : may mi ma mask
  · rw [may_yes hm] at hmay
    obtain rfl := Option.some.inj hmay
    by_cases hL : s.size ≤ 1024
    · have hc := chunks_length hm s.size s (Nat.le_refl _)
      rw [split_yes hm s hL _ (by omega)] at hx
      simp only [Option.some.injEq, Prod.mk.injEq] at hx
      obtain ⟨rfl, rfl⟩ := hx
      simp only [becketlaw03_ChunkSplits.j2, if_true, Bool.false_eq_true, if_false, Option.isNone_none]
      rw [if_neg (show ¬ ((s.size : Int) > 1024) by omega), refsplit_f s mi ma mask hm hs k (by omega)]
      simp only [Option.bind_some]
      rw [same_self (chunks mi ma mask s) (by omega) k (by omega)]
      rfl
    · rw [split_large hm s (by omega)] at hx
      simp only [Option.some.injEq, Prod.mk.injEq] at hx
      obtain ⟨rfl, rfl⟩ := hx
      simp only [becketlaw03_ChunkSplits.j2, if_true, Bool.false_eq_true, if_false, Option.isNone_some]
      rw [if_pos (show ((s.size : Int) > 1024) by omega)]
      simp
  · rw [may_no hm] at hmay
    obtain rfl := Option.some.inj hmay
    rw [split_no hm s] at hx
    simp only [Option.some.injEq, Prod.mk.injEq] at hx
    obtain ⟨rfl, rfl⟩ := hx
    simp only [becketlaw03_ChunkSplits.j2]
    simp

theorem splits_l (s : ByteArray) (L : List ByteArray) (mi ma mask : Int) (hs : s.size ≤ 3000) (hL : L.length ≤ 100) (d : Nat) : ∀ (k i : Nat), i + d = L.length → d + 7000 < k → (∀ j, j < i → (L.getD j ByteArray.empty).size ≤ 1000) → becketlaw03_ChunkSplits.l0 k s L true (i : Int) mi ma mask = some true := by
  induction d with
  | zero =>
    intro k i hd hk hb
    obtain ⟨k, rfl⟩ : ∃ q, k = q + 1 := ⟨k - 1, by omega⟩
    obtain ⟨j, j1, j2⟩ := joins L hL (fun q hq => hb q (by omega)) k (by omega)
    have hsp : ∃ x e, chunk_Split.f k s mi ma mask = some (x, e) := by
      by_cases hm : may mi ma mask
      · by_cases hl : s.size ≤ 1024
        · exact ⟨_, _, split_yes hm s hl k (by omega)⟩
        · exact ⟨_, _, split_large hm s (by omega) k⟩
      · exact ⟨_, _, split_no hm s k⟩
    have hmy : ∃ m, chunk_May.f mi ma mask = some m := by
      by_cases hm : may mi ma mask
      · exact ⟨_, may_yes hm⟩
      · exact ⟨_, may_no hm⟩
    obtain ⟨x, e, hx⟩ := hsp
    obtain ⟨m, hmm⟩ := hmy
    simp only [becketlaw03_ChunkSplits.l0]
    rw [if_neg (by omega), hx, refmay_f, hmm, j1, j2]; simp only [Option.bind_some]
    rw [if_neg (by simp), show (j.toList != j.toList) = false from by simp]
    exact splits_j2 k s mi ma mask hs (by omega) x e m hx hmm
  | succ d ih =>
    intro k i hd hk hb
    obtain ⟨k, rfl⟩ : ∃ q, k = q + 1 := ⟨k - 1, by omega⟩
    have e : rdOf ByteArray.empty L (i : Int) = L.getD i ByteArray.empty := rfl
    simp only [becketlaw03_ChunkSplits.l0]
    rw [if_pos (by omega), if_pos (by omega), e, w64 (x := (i : Int) + 1) (by omega) (by omega), show ((i : Int) + 1) = ((i + 1 : Nat) : Int) from by omega]
    by_cases h : ((L.getD i ByteArray.empty).size : Int) > 1000
    · rw [if_pos h]
    · rw [if_neg h]
      refine ih k (i + 1) (by omega) (by omega) (fun j hj => ?_)
      by_cases hji : j = i
      · subst hji; omega
      · exact hb j (by omega)

theorem chunk_splits (s : ByteArray) (mi ma mask : Int) (L : List ByteArray) : ∃ k, becketlaw03_ChunkSplits.f k s mi ma mask L = some true := by
  obtain ⟨K, hK⟩ := up_true
  have hup : ∀ k, K ≤ k → becketlaw03_up.f k = some true := fun k hk => at_rounds (g := fun k => becketlaw03_up.f k) (fun k => becketlaw03_up.mono k) hk hK
  refine ⟨(K + 20000) + 1, ?_⟩
  generalize hk : K + 20000 = k
  unfold becketlaw03_ChunkSplits.f
  rw [hup _ (by omega)]; simp only [Option.bind_some]
  by_cases h1 : (s.size : Int) > 3000
  · rw [if_pos h1]; simp [becketlaw03_ChunkSplits.j0]
  rw [if_neg h1]
  by_cases h2 : (L.length : Int) > 100
  · rw [decide_eq_true h2]; simp [becketlaw03_ChunkSplits.j0]
  rw [decide_eq_false h2]
  simp only [becketlaw03_ChunkSplits.j0]
  rw [if_neg (by decide)]
  exact splits_l s L mi ma mask (by omega) (by omega) L.length k 0 (by omega) (by omega) (fun j hj => by omega)

end Go.Proofs.Ytnjikdaicogdgaa.PureChunk
