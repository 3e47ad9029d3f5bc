/-
  The pure statement of ChunkRest: what is behind the first chunk is cut as it is alone. Conditions: those of the given statement, none besides.
-/
import Derived.Test.YtnjikdaicogdgaaPChunkRestx2
namespace Go.Proofs.Ytnjikdaicogdgaa.PureRest
open Go.RowKit Go.Proofs.Ytnjikdaicogdgaa.PChunkRest Go.Proofs.YtnjikdaicogdgaaW.PrintWords Go.Proofs.YtnjikdaicogdgaaW.PrintLast Go.Proofs.YtnjikdaicogdgaaW.PrintMore

theorem w64 {x : Int} (h : -9223372036854775808 ≤ x) (h' : x ≤ 9223372036854775807) : wrap64 x = x := by unfold wrap64; omega

theorem mn_def (a b : Int) : mn a b = min a b := by unfold mn; omega

theorem empty_iff (s : ByteArray) : s.toList = ([] : List UInt8) ↔ s.size = 0 := by
  rw [Go.ByteArray.toList_eq, ← data_length]
  exact List.length_eq_zero_iff.symm

/-- Is a chunk cut behind the place i? -/
def hit (s : ByteArray) (mi mask i a : Int) : Prop := i + 1 ≥ mi ∧ (Go.bits .and .i64 (wrap64 ((wrap64 (31 * a)) + (wrap64 (bt s i)))) mask) = mask
instance (s : ByteArray) (mi mask i a : Int) : Decidable (hit s mi mask i a) := by unfold hit; infer_instance

/-- The first chunk's length, from the place i on. -/
def cl (s : ByteArray) (mi ma mask : Int) : Nat → Int → Int → Int
  | 0, _, _ => min (s.size : Int) ma
  | d + 1, i, a => if hit s mi mask i a then i + 1 else cl s mi ma mask d (i + 1) (wrap64 (bt s i))

theorem len_cl (s : ByteArray) (mi ma mask : Int) (hs : s.size ≤ 140737488351232) (h2 : ma ≤ 64) (d : Nat) : ∀ (k : Nat) (i a : Int), 0 ≤ i → i + d = min (s.size : Int) ma → d < k →
    chunk_length.l0 k s a (min (s.size : Int) ma) i mi ma mask = some (cl s mi ma mask d i a) := by
  induction d with
  | zero =>
    intro k i a h0 hd hk
    obtain ⟨k, rfl⟩ : ∃ m, k = m + 1 := ⟨k - 1, by omega⟩
    simp only [chunk_length.l0, cl]; rw [if_neg (by omega), mn_def]
  | succ d ih =>
    intro k i a h0 hd hk
    obtain ⟨k, rfl⟩ : ∃ m, k = m + 1 := ⟨k - 1, by omega⟩
    simp only [chunk_length.l0, cl]
    rw [if_pos (by omega), if_pos h0, if_pos (by omega), w64 (x := i + 1) (by omega) (by omega)]
    have IH := ih k (i + 1) (wrap64 (bt s i)) (by omega) (by omega) (by omega)
    by_cases h : i + 1 ≥ mi
    · rw [if_pos h]
      by_cases h' : (Go.bits .and .i64 (wrap64 ((wrap64 (31 * a)) + (wrap64 (bt s i)))) mask) = mask
      · rw [if_pos h', if_pos (show hit s mi mask i a from ⟨h, h'⟩)]
      · rw [if_neg h', if_neg (show ¬ hit s mi mask i a from fun x => h' x.2)]; exact IH
    · rw [if_neg h, if_neg (show ¬ hit s mi mask i a from fun x => h x.1)]; exact IH

theorem cl_range (s : ByteArray) (mi ma mask : Int) (d : Nat) : ∀ (i a : Int), 0 ≤ i → i + d = min (s.size : Int) ma → 1 ≤ min (s.size : Int) ma → 1 ≤ cl s mi ma mask d i a ∧ cl s mi ma mask d i a ≤ min (s.size : Int) ma ∧ (cl s mi ma mask d i a = min (s.size : Int) ma ∨ mi ≤ cl s mi ma mask d i a) := by
  induction d with
  | zero => intro i a h0 hd h1; unfold cl; exact ⟨h1, Int.le_refl _, Or.inl rfl⟩
  | succ d ih =>
    intro i a h0 hd h1
    simp only [cl]
    split
    · rename_i h; have := h.1; omega
    · exact ih _ _ (by omega) (by omega) h1

/-- The first chunk's length. -/
def clen (mi ma mask : Int) (s : ByteArray) : Nat := (cl s mi ma mask (min (s.size : Int) ma).toNat 0 0).toNat

theorem clen_range (mi ma mask : Int) (s : ByteArray) (h1 : 1 ≤ mi) (h2 : mi ≤ ma) (hs : s.size ≠ 0) : 1 ≤ clen mi ma mask s ∧ clen mi ma mask s ≤ s.size ∧ (clen mi ma mask s : Int) ≤ ma ∧ (clen mi ma mask s = s.size ∨ mi ≤ (clen mi ma mask s : Int)) := by
  unfold clen
  have := cl_range s mi ma mask (min (s.size : Int) ma).toNat 0 0 (by omega) (by omega) (by omega)
  omega

theorem len_f (s : ByteArray) (mi ma mask : Int) (hs : s.size ≤ 140737488351232) (h0 : s.size ≠ 0) (h1 : 1 ≤ mi) (h2 : mi ≤ ma) (h3 : ma ≤ 64) (k : Nat) (hk : 65 ≤ k) :
    chunk_length.f k s mi ma mask = some (clen mi ma mask s : Int) := by
  unfold chunk_length.f
  rw [mn_def, len_cl s mi ma mask hs h3 (min (s.size : Int) ma).toNat k 0 0 (by omega) (by omega) (by omega)]
  unfold clen
  have := cl_range s mi ma mask (min (s.size : Int) ma).toNat 0 0 (by omega) (by omega) (by omega)
  congr 1; omega

/-- The chunks of a text, by a first chunk's length. -/
def pieces (len : ByteArray → Nat) : Nat → ByteArray → List ByteArray
  | 0, _ => []
  | d + 1, s => if s.size = 0 then [] else s.extract 0 (len s) :: pieces len d (s.extract (len s) s.size)

theorem size_rest (s : ByteArray) (n : Nat) : (s.extract n s.size).size = s.size - n := by rw [ByteArray.size_extract]; omega
theorem size_head (s : ByteArray) (n : Nat) (h : n ≤ s.size) : (s.extract 0 n).size = n := by rw [ByteArray.size_extract]; omega

theorem pieces_fuel (mi ma mask : Int) (h1 : 1 ≤ mi) (h2 : mi ≤ ma) (d : Nat) : ∀ (d' : Nat) (s : ByteArray), s.size ≤ d → s.size ≤ d' → pieces (clen mi ma mask) d s = pieces (clen mi ma mask) d' s := by
  induction d with
  | zero =>
    intro d' s h h'
    cases d' with
    | zero => rfl
    | succ d' => simp only [pieces]; rw [if_pos (by omega)]
  | succ d ih =>
    intro d' s h h'
    by_cases h0 : s.size = 0
    · cases d' with
      | zero => simp only [pieces]; rw [if_pos h0]
      | succ d' => simp only [pieces]; rw [if_pos h0, if_pos h0]
    · have := clen_range mi ma mask s h1 h2 h0
      cases d' with
      | zero => omega
      | succ d' =>
        simp only [pieces]; rw [if_neg h0, if_neg h0, ih d' _ (by rw [size_rest]; omega) (by rw [size_rest]; omega)]

theorem split_l (mi ma mask : Int) (h1 : 1 ≤ mi) (h2 : mi ≤ ma) (h3 : ma ≤ 64) (d : Nat) : ∀ (k : Nat) (s : ByteArray) (acc : List ByteArray), s.size ≤ d → s.size ≤ 1024 → acc.length + d ≤ 5000 → d + 66 < k →
    chunk_Split.l0 k s acc mi ma mask = some (acc ++ pieces (clen mi ma mask) d s, none) := by
  induction d with
  | zero =>
    intro k s acc hs hb ha hk
    obtain ⟨k, rfl⟩ : ∃ m, k = m + 1 := ⟨k - 1, by omega⟩
    simp only [chunk_Split.l0, pieces]
    rw [if_pos ((empty_iff s).2 (by omega))]; simp
  | succ d ih =>
    intro k s acc hs hb ha hk
    by_cases h0 : s.size = 0
    · rw [ih k s acc (by omega) hb (by omega) (by omega), pieces_fuel mi ma mask h1 h2 d (d + 1) s (by omega) (by omega)]
    obtain ⟨k, rfl⟩ : ∃ m, k = m + 1 := ⟨k - 1, by omega⟩
    have hr := clen_range mi ma mask s h1 h2 h0
    simp only [chunk_Split.l0]
    rw [if_neg (fun h => h0 ((empty_iff s).1 h)), len_f s mi ma mask (by omega) h0 h1 h2 h3 k (by omega)]
    simp only [Option.bind_some]
    rw [if_pos (by omega), if_pos (by omega), if_pos (by omega), Int.toNat_natCast]
    rw [ih k (s.extract (clen mi ma mask s) s.size) _ (by rw [size_rest]; omega) (by rw [size_rest]; omega) (by simp; omega) (by omega)]
    simp only [pieces]
    rw [if_neg h0]; simp

def may (mi ma mask : Int) : Prop := 1 ≤ mi ∧ mi ≤ ma ∧ ma ≤ 64 ∧ 0 ≤ mask ∧ mask ≤ 255

theorem may_yes {mi ma mask : Int} (h : may mi ma mask) : chunk_May.f mi ma mask = some true := by
  obtain ⟨m1, m2, m3, m4, m5⟩ := h
  unfold chunk_May.f; rw [if_pos (by omega), if_pos (by omega), if_pos (by omega), if_pos (by omega)]; simp; omega

theorem may_no {mi ma mask : Int} (h : ¬ may mi ma mask) : chunk_May.f mi ma mask = some false := by
  unfold may at h
  unfold chunk_May.f
  split
  · split
    · split
      · split
        · congr 1; simp; omega
        · rfl
      · rfl
    · rfl
  · rfl

/-- The chunks. -/
def chunks (mi ma mask : Int) (s : ByteArray) : List ByteArray := pieces (clen mi ma mask) s.size s

theorem split_yes {mi ma mask : Int} (h : may mi ma mask) (s : ByteArray) (hs : s.size ≤ 1024) (k : Nat) (hk : s.size + 66 < k) : chunk_Split.f k s mi ma mask = some (chunks mi ma mask s, none) := by
  unfold chunk_Split.f
  rw [may_yes h]; simp only [Option.bind_some, if_true]; rw [if_neg (by omega), split_l mi ma mask h.1 h.2.1 h.2.2.1 s.size k s [] (by omega) hs (by simp; omega) (by omega)]
  simp [chunks]

theorem split_large {mi ma mask : Int} (h : may mi ma mask) (s : ByteArray) (hs : 1024 < s.size) (k : Nat) : chunk_Split.f k s mi ma mask = some ([], some 7) := by
  unfold chunk_Split.f
  rw [may_yes h]; simp only [Option.bind_some, if_true]; rw [if_pos (by omega)]

theorem split_no {mi ma mask : Int} (h : ¬ may mi ma mask) (s : ByteArray) (k : Nat) : chunk_Split.f k s mi ma mask = some ([], some 1) := by
  unfold chunk_Split.f
  rw [may_no h]; simp

theorem chunks_cons {mi ma mask : Int} (h : may mi ma mask) (s : ByteArray) (h0 : s.size ≠ 0) : chunks mi ma mask s = s.extract 0 (clen mi ma mask s) :: chunks mi ma mask (s.extract (clen mi ma mask s) s.size) := by
  have hr := clen_range mi ma mask s h.1 h.2.1 h0
  unfold chunks
  rw [size_rest]
  obtain ⟨d, hd⟩ : ∃ d, s.size = d + 1 := ⟨s.size - 1, by omega⟩
  rw [hd]; simp only [pieces]; rw [if_neg h0, pieces_fuel mi ma mask h.1 h.2.1 d (d + 1 - clen mi ma mask s) _ (by rw [size_rest]; omega) (by rw [size_rest]; omega), hd]

theorem chunks_nil {mi ma mask : Int} (s : ByteArray) (h0 : s.size = 0) : chunks mi ma mask s = [] := by
  unfold chunks; rw [h0]; rfl

theorem same_l (L : List ByteArray) (hL : L.length ≤ 140737488351232) (d : Nat) : ∀ (k : Nat) (i : Nat), i + d = L.length → d < k → becketref03_Same.l0 k L L i = some true := by
  induction d with
  | zero =>
    intro k i hd hk
    obtain ⟨k, rfl⟩ : ∃ m, k = m + 1 := ⟨k - 1, by omega⟩
    simp only [becketref03_Same.l0]; rw [if_neg (by omega)]
  | succ d ih =>
    intro k i hd hk
    obtain ⟨k, rfl⟩ : ∃ m, k = m + 1 := ⟨k - 1, by omega⟩
    simp only [becketref03_Same.l0]
    rw [if_pos (by omega), if_pos (by omega), if_pos (by omega)]
    simp only [if_true]
    rw [w64 (x := (i : Int) + 1) (by omega) (by omega), show ((i : Int) + 1) = ((i + 1 : Nat) : Int) from by omega]
    exact ih k (i + 1) (by omega) (by omega)

theorem same_self (L : List ByteArray) (hL : L.length ≤ 140737488351232) (k : Nat) (hk : L.length < k) : becketref03_Same.f k L L = some true := by
  unfold becketref03_Same.f
  rw [if_pos rfl]
  exact same_l L hL L.length k 0 (by omega) hk

theorem chunks_length {mi ma mask : Int} (h : may mi ma mask) (d : Nat) : ∀ s : ByteArray, s.size ≤ d → (chunks mi ma mask s).length ≤ s.size := by
  induction d with
  | zero => intro s hs; rw [chunks_nil s (by omega)]; simp
  | succ d ih =>
    intro s hs
    by_cases h0 : s.size = 0
    · rw [chunks_nil s h0]; simp
    · have hr := clen_range mi ma mask s h.1 h.2.1 h0
      rw [chunks_cons h s h0, List.length_cons]
      have := ih (s.extract (clen mi ma mask s) s.size) (by rw [size_rest]; omega)
      rw [size_rest] at this
      omega

theorem up_true : ∃ k, becketlaw03_up.f k = some true := ⟨200, by decide +kernel⟩

theorem pure (s : ByteArray) (mi ma mask : Int) : ∃ k, becketlaw03_ChunkRest.f k s mi ma mask = some true := by
  obtain ⟨k0, hk0⟩ := up_true
  have hup : ∀ k, k0 ≤ k → becketlaw03_up.f k = some true := fun k hk => at_rounds (g := fun k => becketlaw03_up.f k) (fun k => becketlaw03_up.mono k) hk hk0
  refine ⟨k0 + 5000, ?_⟩
  unfold becketlaw03_ChunkRest.f
  rw [hup _ (by omega)]; simp only [Option.bind_some]
  by_cases hl : (s.size : Int) > 1024
  · rw [if_pos hl]
  rw [if_neg hl]
  by_cases hm : may mi ma mask
  · rw [split_yes hm s (by omega) _ (by omega)]
    simp only [Option.bind_some, Option.isNone_none, if_true]
    rw [show k0 + 5000 = (k0 + 4999) + 1 from rfl]
    by_cases h0 : s.size = 0
    · rw [chunks_nil s h0]
      simp [becketlaw03_ChunkRest.j0]
    · rw [chunks_cons hm s h0]
      have hr := clen_range mi ma mask s hm.1 hm.2.1 h0
      simp only [becketlaw03_ChunkRest.j0]
      have e : rdOf ByteArray.empty (s.extract 0 (clen mi ma mask s) :: chunks mi ma mask (s.extract (clen mi ma mask s) s.size)) 0 = s.extract 0 (clen mi ma mask s) := rfl
      have hc := chunks_length hm _ (s.extract (clen mi ma mask s) s.size) (Nat.le_refl _)
      rw [size_rest] at hc
      rw [e, size_head s _ (by omega), if_neg (by simp only [List.length_cons]; simp; omega), if_pos (by simp only [List.length_cons]; omega), if_pos (by omega), if_pos (by omega), Int.toNat_natCast,
        split_yes hm _ (by rw [size_rest]; omega) _ (by rw [size_rest]; omega)]
      simp only [Option.bind_some, Option.isNone_none, if_true, List.drop_succ_cons, List.drop_zero]
      rw [if_pos (by simp only [List.length_cons]; omega), same_self _ (by omega) _ (by omega)]
      rfl
  · rw [split_no hm]
    simp [becketlaw03_ChunkRest.j0]

end Go.Proofs.Ytnjikdaicogdgaa.PureRest
