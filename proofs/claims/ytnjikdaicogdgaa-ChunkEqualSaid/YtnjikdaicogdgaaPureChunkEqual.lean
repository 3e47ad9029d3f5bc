/-
  The pure statement of ChunkEqual: when Min is Max every chunk but the last has as many bytes. Conditions: those of the given statement, none besides.
-/
import Derived.Test.YtnjikdaicogdgaaPChunkEqualx2
namespace Go.Proofs.Ytnjikdaicogdgaa.Pure
open Go.RowKit Go.Proofs.Ytnjikdaicogdgaa.PChunkEqual Go.Proofs.YtnjikdaicogdgaaW.PrintWords Go.Proofs.YtnjikdaicogdgaaW.PrintLast Go.Proofs.YtnjikdaicogdgaaW.PrintMore

theorem w64 {x : Int} (h : -9223372036854775808 ≤ x) (h' : x ≤ 9223372036854775807) : wrap64 x = x := by unfold wrap64; omega

theorem mn_def (a b : Int) : mn a b = min a b := by unfold mn; omega

/-- The first chunk's length where Min is Max: the lesser of the text's length and of it. -/
theorem len_eq (s : ByteArray) (n mask : Int) (hs : s.size ≤ 140737488351232) (h1 : 1 ≤ n) (h2 : n ≤ 64) (d : Nat) : ∀ (k : Nat) (i a : Int), 0 ≤ i → i + d = min (s.size : Int) n → d < k →
    chunk_length.l0 k s a (min (s.size : Int) n) i n n mask = some (min (s.size : Int) n) := by
  induction d with
  | zero =>
    intro k i a h0 hd hk
    obtain ⟨k, rfl⟩ : ∃ m, k = m + 1 := ⟨k - 1, by omega⟩
    simp only [chunk_length.l0]; rw [if_neg (by omega), mn_def]
  | succ d ih =>
    intro k i a h0 hd hk
    obtain ⟨k, rfl⟩ : ∃ m, k = m + 1 := ⟨k - 1, by omega⟩
    simp only [chunk_length.l0]
    rw [if_pos (by omega), if_pos h0, if_pos (by omega), w64 (x := i + 1) (by omega) (by omega)]
    have IH := ih k (i + 1) (wrap64 (bt s i)) (by omega) (by omega) (by omega)
    by_cases h : i + 1 ≥ n
    · rw [if_pos h]
      split
      · congr 1; omega
      · exact IH
    · rw [if_neg h]; exact IH

theorem len_f (s : ByteArray) (n mask : Int) (hs : s.size ≤ 140737488351232) (h1 : 1 ≤ n) (h2 : n ≤ 64) (k : Nat) (hk : 65 ≤ k) :
    chunk_length.f k s n n mask = some (min (s.size : Int) n) := by
  unfold chunk_length.f
  rw [mn_def]
  exact len_eq s n mask hs h1 h2 (min (s.size : Int) n).toNat k 0 0 (by omega) (by omega) (by omega)

theorem empty_iff (s : ByteArray) : s.toList = ([] : List UInt8) ↔ s.size = 0 := by
  rw [Go.ByteArray.toList_eq, ← data_length]
  exact List.length_eq_zero_iff.symm

/-- What is said of the chunks where Min is Max. -/
def Good (n : Int) (m : Int) (L : List ByteArray) : Prop := (m = 0 → L = []) ∧ (L.length : Int) * n < m + n ∧ m ≤ (L.length : Int) * n ∧ ∀ i : Nat, i < L.length → ((L.getD i ByteArray.empty).size : Int) ≤ n ∧ (i + 1 < L.length → ((L.getD i ByteArray.empty).size : Int) = n)

theorem split_eq (n mask : Int) (h1 : 1 ≤ n) (h2 : n ≤ 64) (d : Nat) : ∀ (k : Nat) (s : ByteArray) (acc : List ByteArray), s.size ≤ d → s.size ≤ 1024 → acc.length + d ≤ 5000 → d + 66 < k →
    ∃ L, chunk_Split.l0 k s acc n n mask = some (acc ++ L, none) ∧ Good n s.size L := by
  induction d with
  | zero =>
    intro k s acc hs hb ha hk
    obtain ⟨k, rfl⟩ : ∃ m, k = m + 1 := ⟨k - 1, by omega⟩
    refine ⟨[], ?_, fun _ => rfl, ?_, ?_, ?_⟩
    · simp only [chunk_Split.l0]
      rw [if_pos ((empty_iff s).2 (by omega))]; simp
    · rw [List.length_nil]; omega
    · rw [List.length_nil]; omega
    · intro i hi; simp at hi
  | succ d ih =>
    intro k s acc hs hb ha hk
    by_cases h0 : s.size = 0
    · exact ih k s acc (by omega) hb (by omega) (by omega)
    obtain ⟨k, rfl⟩ : ∃ m, k = m + 1 := ⟨k - 1, by omega⟩
    simp only [chunk_Split.l0]
    rw [if_neg (fun h => h0 ((empty_iff s).1 h)), len_f s n mask (by omega) h1 h2 k (by omega)]
    simp only [Option.bind_some]
    rw [if_pos (by omega), if_pos (by omega), if_pos (by omega)]
    have e1 : (s.extract (min (s.size : Int) n).toNat s.size).size = s.size - (min (s.size : Int) n).toNat := by rw [ByteArray.size_extract]; omega
    have e2 : (s.extract 0 (min (s.size : Int) n).toNat).size = (min (s.size : Int) n).toNat := by rw [ByteArray.size_extract]; omega
    obtain ⟨L, hL, g0, g1, g2, g3⟩ := ih k (s.extract (min (s.size : Int) n).toNat s.size) (acc ++ [s.extract 0 (min (s.size : Int) n).toNat]) (by omega) (by omega) (by simp; omega) (by omega)
    refine ⟨s.extract 0 (min (s.size : Int) n).toNat :: L, by rw [hL]; simp, fun h => by omega, ?_, ?_, ?_⟩
    · simp only [List.length_cons]; rw [show ((L.length + 1 : Nat) : Int) * n = (L.length : Int) * n + n from by rw [show ((L.length + 1 : Nat) : Int) = (L.length : Int) + 1 from by omega, Int.add_mul, Int.one_mul]]
      by_cases hz : (s.size : Int) ≤ n
      · have : L = [] := g0 (by omega)
        subst this
        rw [List.length_nil]; omega
      · omega
    · simp only [List.length_cons]; rw [show ((L.length + 1 : Nat) : Int) * n = (L.length : Int) * n + n from by rw [show ((L.length + 1 : Nat) : Int) = (L.length : Int) + 1 from by omega, Int.add_mul, Int.one_mul]]
      omega
    · intro i hi
      cases i with
      | zero =>
        simp only [List.getD_cons_zero, List.length_cons]
        refine ⟨by omega, fun h => ?_⟩
        have hl : 1 ≤ L.length := by omega
        have hn : n ≤ (L.length : Int) * n := by
          have := Int.mul_le_mul_of_nonneg_right (show (1 : Int) ≤ (L.length : Int) by omega) (show 0 ≤ n by omega)
          omega
        omega
      | succ i =>
        simp only [List.getD_cons_succ, List.length_cons]
        have := g3 i (by simp at hi; omega)
        exact ⟨this.1, fun h => this.2 (by omega)⟩

theorem loop_eq (s : ByteArray) (n : Int) (L : List ByteArray) (h1 : 1 ≤ n) (h2 : n ≤ 64) (hs : s.size ≤ 3000) (g : Good n s.size L) (d : Nat) : ∀ (k : Nat) (i : Nat), i + d = L.length → d < k →
    becketlaw03_ChunkEqual.l0 k s n true L i = some true := by
  obtain ⟨_, g1, g2, g3⟩ := g
  have hlen : L.length ≤ 4000 := by
    have := Int.mul_le_mul_of_nonneg_left h1 (show 0 ≤ (L.length : Int) by omega)
    omega
  induction d with
  | zero =>
    intro k i hd hk
    obtain ⟨k, rfl⟩ : ∃ m, k = m + 1 := ⟨k - 1, by omega⟩
    simp only [becketlaw03_ChunkEqual.l0]
    rw [if_neg (by omega)]
    simp only [if_true]
    rw [if_neg (by omega), w64 (x := (s.size : Int) + n) (by omega) (by omega), w64 (x := (s.size : Int) + n - 1) (by omega) (by omega), Int.tdiv_eq_ediv_of_nonneg (by omega)]
    have hq : ((s.size : Int) + n - 1) / n = (L.length : Int) := by
      apply Int.le_antisymm
      · apply Int.lt_add_one_iff.1
        rw [Int.ediv_lt_iff_lt_mul (by omega), Int.add_mul]; omega
      · rw [Int.le_ediv_iff_mul_le (by omega)]; omega
    rw [hq, w64 (by omega) (by omega)]
    simp
  | succ d ih =>
    intro k i hd hk
    obtain ⟨k, rfl⟩ : ∃ m, k = m + 1 := ⟨k - 1, by omega⟩
    simp only [becketlaw03_ChunkEqual.l0]
    obtain ⟨a, b⟩ := g3 i (by omega)
    have e : rdOf ByteArray.empty L (i : Int) = L.getD i ByteArray.empty := rfl
    have IH := ih k (i + 1) (by omega) (by omega)
    rw [if_pos (by omega), if_pos (by omega), e, w64 (x := (i : Int) + 1) (by omega) (by omega), w64 (x := (L.length : Int) - 1) (by omega) (by omega)]
    rw [show ((i : Int) + 1) = ((i + 1 : Nat) : Int) from by omega, IH]
    by_cases hne : ((L.getD i ByteArray.empty).size : Int) = n
    · rw [if_pos hne, if_neg (by omega)]
    · rw [if_neg hne, if_neg (fun hlt => hne (b (by omega))), if_neg (by omega)]

theorem up_true : ∃ k, becketlaw03_up.f k = some true := ⟨200, by decide +kernel⟩

theorem ChunkEqual : becketlaw03_ChunkEqual.Pure := by
  intro s n mask hs w1 w2
  obtain ⟨k0, hk0⟩ := up_true
  have hup : ∀ k, k0 ≤ k → becketlaw03_up.f k = some true := fun k hk => at_rounds (g := fun k => becketlaw03_up.f k) (fun k => becketlaw03_up.mono k) hk hk0
  by_cases hl : (s.size : Int) > 3000
  · refine ⟨k0, ?_⟩
    unfold becketlaw03_ChunkEqual.f
    rw [hup k0 (Nat.le_refl _)]; simp only [Option.bind_some]; rw [if_pos hl]
  by_cases hm : 1 ≤ n ∧ n ≤ 64 ∧ 0 ≤ mask ∧ mask ≤ 255
  · obtain ⟨m1, m2, m3, m4⟩ := hm
    have hmay : chunk_May.f n n mask = some true := by
      unfold chunk_May.f; rw [if_pos (by omega), if_pos (by omega), if_pos (by omega), if_pos (by omega)]; simp; omega
    by_cases hL : (s.size : Int) > 1024
    · refine ⟨k0 + 1, ?_⟩
      unfold becketlaw03_ChunkEqual.f
      rw [hup _ (by omega)]; simp only [Option.bind_some]; rw [if_neg hl]
      unfold chunk_Split.f
      rw [hmay]; simp only [Option.bind_some, if_true]; rw [if_pos hL]
      simp [becketlaw03_ChunkEqual.j0]
    · obtain ⟨L, hL', g⟩ := split_eq n mask m1 m2 s.size (k0 + 5000) s [] (by omega) (by omega) (by simp; omega) (by omega)
      refine ⟨k0 + 5000, ?_⟩
      unfold becketlaw03_ChunkEqual.f
      rw [hup _ (by omega)]; simp only [Option.bind_some]; rw [if_neg hl]
      unfold chunk_Split.f
      rw [hmay]; simp only [Option.bind_some, if_true]; rw [if_neg hL, hL']
      simp only [Option.bind_some, List.nil_append, Option.isNone_none, if_true]
      rw [show k0 + 5000 = (k0 + 4999) + 1 from rfl]
      simp only [becketlaw03_ChunkEqual.j0]
      rw [if_neg (by simp; omega)]
      have hlen : L.length ≤ 2000 := by
        have := Int.mul_le_mul_of_nonneg_left m1 (show 0 ≤ (L.length : Int) by omega)
        obtain ⟨_, g1, _, _⟩ := g
        omega
      exact loop_eq s n L m1 m2 (by omega) g L.length (k0 + 4999) 0 (by omega) (by omega)
  · have hmay : chunk_May.f n n mask = some false := by
      unfold chunk_May.f
      split
      · split
        · split
          · split
            · congr 1; simp; omega
            · rfl
          · rfl
        · rfl
      · rfl
    refine ⟨k0 + 1, ?_⟩
    unfold becketlaw03_ChunkEqual.f
    rw [hup _ (by omega)]; simp only [Option.bind_some]; rw [if_neg hl]
    unfold chunk_Split.f
    rw [hmay]; simp [becketlaw03_ChunkEqual.j0]

end Go.Proofs.Ytnjikdaicogdgaa.Pure
