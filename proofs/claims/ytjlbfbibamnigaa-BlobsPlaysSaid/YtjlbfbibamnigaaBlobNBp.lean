-- Cut by a program of this session (wip/shake.py) out of a text of this seat: what this claim doesn't reach is struck out. Lean checks it.
import Derived.Test.YtjlbfbibamnigaaBlobMBp
import Derived.Test.YtjlbfbibamnigaaBlobKBp
namespace Go.Proofs.Ytjlbfbibamnigaa.Blobs
open Go.RowKit Go.ChangeMaps Go.MapKept Go.WideShapes Go.WideAt Go.Sort Go.WideMaps Go.Proofs.Ytjlbfbibamnigaa.Bs Go.Proofs.YtjlbfbibamnigaaW.PrintWords Go.Proofs.YtjlbfbibamnigaaW.PrintLast Go.Proofs.YtjlbfbibamnigaaW.PrintMore
set_option linter.unusedVariables false
set_option linter.unusedSimpArgs false
def StoreAt (W : World) (B : Nat) (ok : Nat → Prop) (g : Nat) (q : Int) (l : List ByteArray) : Prop :=
  B ≤ g ∧ ok g ∧ l.length ≤ 90000 ∧ sizeL l ≤ 65536 ∧ (∀ s ∈ l, s.size ≤ 64) ∧ ∃ b, W.heap[g]? = some (.cells #[.map (some b), .int .i64 (sizeL l : Int), .int .i64 q] 47 (0, 0)) ∧ B ≤ b ∧ ok b ∧ SetIs Try.prog 9 4 W b l
theorem StoreAt.mono {W : World} {B : Nat} {ok ok' : Nat → Prop} {g : Nat} {q : Int} {l : List ByteArray} (h : StoreAt W B ok g q l) (hk : ∀ k, ok k → ok' k) : StoreAt W B ok' g q l := by
  obtain ⟨h1, h2, h3, h4, h5, b, h6, h7, h8, h9⟩ := h
  exact ⟨h1, hk _ h2, h3, h4, h5, b, h6, h7, hk _ h8, h9⟩
theorem StoreAt.below {W W' : World} {B : Nat} {ok : Nat → Prop} {g : Nat} {q : Int} {l : List ByteArray} (h : StoreAt W B ok g q l) (hb : Below W.heap.size W W') : StoreAt W' B ok g q l := by
  obtain ⟨h1, h2, h3, h4, h5, b, h6, h7, h8, h9⟩ := h
  exact ⟨h1, h2, h3, h4, h5, b, blk_below h6 hb, h7, h8, h9.of_heap (hb.block b h9.lt)⟩
theorem StoreAt.kept {W W' : World} {B : Nat} {ok S : Nat → Prop} {g : Nat} {q : Int} {l : List ByteArray} (h : StoreAt W B ok g q l) (hk : Kept W W' S) (hne : ∀ k, ok k → ¬ S k) : StoreAt W' B ok g q l := by
  obtain ⟨h1, h2, h3, h4, h5, b, h6, h7, h8, h9⟩ := h
  exact ⟨h1, h2, h3, h4, h5, b, blk_kept h6 hk (hne g h2), h7, h8, h9.of_heap (hk.2 b h9.lt (hne b h8))⟩
theorem StoreAt.bound {W : World} {B : Nat} {ok : Nat → Prop} {g : Nat} {q : Int} {l : List ByteArray} (h : StoreAt W B ok g q l) : StoreAt W B (fun k => ok k ∧ B ≤ k ∧ k < W.heap.size) g q l := by
  obtain ⟨h1, h2, h3, h4, h5, b, h6, h7, h8, h9⟩ := h
  exact ⟨h1, ⟨h2, h1, blk_lt h6⟩, h3, h4, h5, b, h6, h7, ⟨h8, h7, h9.lt⟩, h9⟩
theorem StoreAt.glt {W : World} {B : Nat} {ok : Nat → Prop} {g : Nat} {q : Int} {l : List ByteArray} (h : StoreAt W B ok g q l) : g < W.heap.size := by
  obtain ⟨h1, h2, h3, h4, h5, b, h6, h7, h8, h9⟩ := h
  exact blk_lt h6
theorem StoreAt.len {W : World} {B : Nat} {ok : Nat → Prop} {g : Nat} {q : Int} {l : List ByteArray} (h : StoreAt W B ok g q l) : l.length ≤ 90000 ∧ sizeL l ≤ 65536 := ⟨h.2.2.1, h.2.2.2.1⟩
def StoreTo (w w' : World) (B : Nat) (ok : Nat → Prop) (g : Nat) (q : Int) (l : List ByteArray) : Prop := StoreAt w' B ok g q l ∧ Kept w w' ok ∧ Below B w w'
theorem sizeL_put (key : ByteArray) : ∀ l : List ByteArray, sizeL (putL key l) = sizeL l + key.size
  | [] => by simp [putL, sizeL]
  | x :: r => by
    rw [putL]
    split
    · unfold sizeL; simp; omega
    · have := sizeL_put key r
      unfold sizeL at this ⊢
      simp only [List.map_cons, List.sum_cons] at this ⊢
      omega
theorem sizeL_drop (key : ByteArray) : ∀ {l : List ByteArray}, l.Nodup → key ∈ l → sizeL (l.filter fun s => decide (s ≠ key)) + key.size = sizeL l ∧ (l.filter fun s => decide (s ≠ key)).length + 1 = l.length
  | [], _, h => by cases h
  | x :: r, hn, h => by
    obtain ⟨h1, h2⟩ := List.nodup_cons.1 hn
    rw [List.filter_cons]
    by_cases e : x = key
    · subst e
      have e2 : (r.filter fun s => decide (s ≠ x)) = r := by
        rw [List.filter_eq_self]
        intro s hs
        exact decide_eq_true (fun e => h1 (by rw [← e]; exact hs))
      rw [if_neg (by simp), e2]
      unfold sizeL
      simp
      omega
    · have hk : key ∈ r := (List.mem_cons.1 h).resolve_left (fun e2 => e e2.symm)
      obtain ⟨h3, h4⟩ := sizeL_drop key h2 hk
      rw [if_pos (by simpa using e)]
      unfold sizeL at h3 ⊢
      simp only [List.map_cons, List.sum_cons, List.length_cons] at h3 ⊢
      omega
theorem store_New (w : World) (q : Int) (h0 : 0 ≤ q) (h1 : q ≤ 65536) : Calls Try.prog 7 #[.int .i64 q] w fun e w' => e = .returned (.tuple #[.pointer (some ⟨w.heap.size + 1, 0, none⟩), .nilIface]) ∧ StoreAt w' w.heap.size (fun k => k = w.heap.size ∨ k = w.heap.size + 1) (w.heap.size + 1) q [] ∧ Below w.heap.size w w' := by
  have t1 : decide (q < 0) = false := by simp; omega
  have t2 : decide (65536 < q) = false := by simp; omega
  have hmm := @run_makeMap Try.prog
  go_enter Try.func7, Try.ntmps7
  go_wp2
  go_ret2
  have hs : (w.alloc (.map #[] 0)).heap.size = w.heap.size + 1 := by simp
  have hb : Below w.heap.size w ((w.alloc (.map #[] 0)).alloc (.cells #[.map (some w.heap.size), .int .i64 0, .int .i64 q] 47)) := ((Below.refl _ w).alloc (Nat.le_refl _) _).alloc (by simp) _
  have hh := heap_alloc_new (w.alloc (.map #[] 0)) (.cells #[.map (some w.heap.size), .int .i64 0, .int .i64 q] 47)
  rw [hs] at hh
  exact ⟨rfl, ⟨by omega, .inr rfl, by simp, by simp [sizeL], by simp, w.heap.size, hh, Nat.le_refl _, .inl rfl, (SetIs.made _ _ _ w).of_heap (Below.heap_alloc _ _ _ (by simp))⟩, hb⟩
theorem store_New_no (w : World) (q : Int) (h : q < 0 ∨ 65536 < q) : Calls Try.prog 7 #[.int .i64 q] w fun e w' => e = .returned (.tuple #[.pointer none, .iface 36 (.int .i64 1)]) ∧ Below w.heap.size w w' := by
  have t1 : decide (q < 0) = true ∨ (decide (q < 0) = false ∧ decide (65536 < q) = true) := by
    by_cases h0 : q < 0
    · exact .inl (by simpa using h0)
    · exact .inr ⟨by simpa using h0, by simp; omega⟩
  rcases t1 with t1 | ⟨t1, t2⟩
  all_goals
    go_enter Try.func7, Try.ntmps7
    go_wp2
    go_ret2
    exact ⟨rfl, Below.refl _ _⟩
theorem zero_bool (w : World) : (zeroValue 4).run Try.prog w = .ok (.bool false) w := by kernel_rfl
def eW : Option Int → Value
  | none => .nilIface
  | some c => .iface 36 (.int .i64 c)
theorem eW_none : eW none = .nilIface := rfl
theorem eW_some (c : Int) : eW (some c) = .iface 36 (.int .i64 c) := rfl
def putErr (q : Int) (l : List ByteArray) (key : ByteArray) : Option Int :=
  if key.size < 1 ∨ 64 < key.size then some 1 else if hasB l key = true then none else if q - (sizeL l : Int) < (key.size : Int) then some 5 else none
def putTo (q : Int) (l : List ByteArray) (key : ByteArray) : List ByteArray :=
  if key.size < 1 ∨ 64 < key.size then l else if hasB l key = true then l else if q - (sizeL l : Int) < (key.size : Int) then l else putL key l
theorem store_Has (w : World) (B : Nat) (ok : Nat → Prop) (g : Nat) (q : Int) (l : List ByteArray) (h : StoreAt w B ok g q l) (key : ByteArray) (hkk : key.size ≤ maxLen) :
    Calls Try.prog 19 #[.pointer (some ⟨g, 0, none⟩), .string key] w fun e w' => e = .returned (.bool (hasB l key)) ∧ w' = w := by
  obtain ⟨h1, h2, h3, h4, h5, b, h6, h7, h8, h9⟩ := h
  have c0 : w.cell? ⟨g, 0, none⟩ = some (.map (some b)) := (blk_cell h6 0).trans rfl
  have hlk := h9.look (t := 45) Try.underlying9 Try.underlying4 Try.underlying45 (zero_bool w) key hkk
  clear h3 h4 h5 h6 h9
  go_enter Try.func19, Try.ntmps19
  go_wp2
  go_ret
  exact ⟨rfl, rfl⟩
theorem store_Size (w : World) (B : Nat) (ok : Nat → Prop) (g : Nat) (q : Int) (l : List ByteArray) (h : StoreAt w B ok g q l) :
    Calls Try.prog 12 #[.pointer (some ⟨g, 0, none⟩)] w fun e w' => e = .returned (.int .i64 (sizeL l : Int)) ∧ w' = w := by
  obtain ⟨h1, h2, h3, h4, h5, b, h6, h7, h8, h9⟩ := h
  have c0 : w.cell? ⟨g, 1, none⟩ = some (.int .i64 (sizeL l : Int)) := (blk_cell h6 1).trans rfl
  clear h3 h4 h5 h6 h9
  go_enter Try.func12, Try.ntmps12
  go_wp2
  go_ret
  exact ⟨rfl, rfl⟩
set_option maxHeartbeats 4000000 in
theorem store_Put (w : World) (B : Nat) (ok : Nat → Prop) (g : Nat) (q : Int) (hq : 0 ≤ q ∧ q ≤ 65536) (l : List ByteArray) (h : StoreAt w B ok g q l) (hl : l.length < 90000) (key : ByteArray) (hkk : key.size ≤ maxLen) :
    Calls Try.prog 9 #[.pointer (some ⟨g, 0, none⟩), .string key] w fun e w' => e = .returned (eW (putErr q l key)) ∧ StoreTo w w' B ok g q (putTo q l key) := by
  have H := Lib.hid h
  obtain ⟨h1, h2, h3, h4, h5, b, h6, h7, h8, h9⟩ := h
  have c0 : w.cell? ⟨g, 0, none⟩ = some (.map (some b)) := (blk_cell h6 0).trans rfl
  have hlk := h9.look (t := 45) Try.underlying9 Try.underlying4 Try.underlying45 (zero_bool w) key hkk
  have HC1 : Hid (w.drew.cell? ⟨g, 1, none⟩ = some (.int .i64 (sizeL l : Int))) := Lib.hid ((blk_cell h6 1).trans rfl)
  have HC2 : Hid (w.drew.cell? ⟨g, 2, none⟩ = some (.int .i64 q)) := Lib.hid ((blk_cell h6 2).trans rfl)
  have H6 := Lib.hid h6
  have H9 := Lib.hid h9
  have HOK := Lib.hid (And.intro h2 h8)
  have HBB := Lib.hid (And.intro h1 h7)
  have HLL := Lib.hid hl
  have HQ := Lib.hid hq
  have HS4 := Lib.hid h4
  have HS5 := Lib.hid h5
  have hbg : b ≠ g := fun e => by
    obtain ⟨_, es, clock, hh, _⟩ := h9
    rw [e, h6] at hh
    cases hh
  have HBG := Lib.hid hbg
  clear h3 h4 h5 h6 h9 h1 h2 h7 h8 hl hq hbg
  by_cases hb : key.size < 1 ∨ 64 < key.size
  · have e1 : putErr q l key = some 1 := by unfold putErr; rw [if_pos hb]
    have e2 : putTo q l key = l := by unfold putTo; rw [if_pos hb]
    rw [e1, e2, eW_some]
    have t1 : decide ((key.size : Int) < 1) = true ∨ (decide ((key.size : Int) < 1) = false ∧ decide (64 < (key.size : Int)) = true) := by
      by_cases h0 : (key.size : Int) < 1
      · exact .inl (by simpa using h0)
      · exact .inr ⟨by simpa using h0, by simp; omega⟩
    clear hb e1 e2
    rcases t1 with t1 | ⟨t1, t2⟩
    all_goals
      go_enter Try.func9, Try.ntmps9
      go_wp2
      go_ret
      exact ⟨rfl, H.out, Kept.refl _ _, Below.refl _ _⟩
  have t1 : decide ((key.size : Int) < 1) = false := by simp; omega
  have t2 : decide (64 < (key.size : Int)) = false := by simp; omega
  have HKB : Hid (¬ (key.size < 1 ∨ 64 < key.size)) := Lib.hid hb
  clear hb
  cases hh : hasB l key with
  | true =>
    have e1 : putErr q l key = none := by unfold putErr; rw [if_neg HKB.out, if_pos hh]
    have e2 : putTo q l key = l := by unfold putTo; rw [if_neg HKB.out, if_pos hh]
    rw [e1, e2, eW_none]
    rw [hh] at hlk
    clear e1 e2 hh
    go_enter Try.func9, Try.ntmps9
    go_wp2
    go_ret
    exact ⟨rfl, H.out, Kept.refl _ _, Below.refl _ _⟩
  | false =>
  rw [hh] at hlk
  have HNH : Hid (key ∉ l) := Lib.hid (fun e => by rw [hasB_iff.2 e] at hh; cases hh)
  have hw1 : wrap64 (q - (sizeL l : Int)) = q - (sizeL l : Int) := by have := HQ.out; have := HS4.out; unfold wrap64; omega
  by_cases hf : q - (sizeL l : Int) < (key.size : Int)
  · have e1 : putErr q l key = some 5 := by unfold putErr; rw [if_neg HKB.out, hh, if_neg (by decide), if_pos hf]
    have e2 : putTo q l key = l := by unfold putTo; rw [if_neg HKB.out, hh, if_neg (by decide), if_pos hf]
    rw [e1, e2, eW_some]
    have t3 : decide (q - (sizeL l : Int) < (key.size : Int)) = true := by simpa using hf
    clear e1 e2 hh hf
    go_enter Try.func9, Try.ntmps9
    go_wp2_with fail
    refine start_ (n := 13) (S := fun w' => w'.cell? ⟨g, 2, none⟩ = some (.int .i64 q) ∧ w'.cell? ⟨g, 1, none⟩ = some (.int .i64 (sizeL l : Int))) (ds := []) #[false, false, false, false, false, false, false, false, false, false, false, false, false] (by kernel_rfl) rfl rfl ⟨HC2.out, HC1.out⟩ (fun hHeld => ?_)
    refine pure_ (i := 0) (N := some 23) (v := ?_) (a' := ?_) #[true, false, false, false, false, false, false, false, false, false, false, false, false] rfl rfl (by kernel_rfl) (fun _ _ _ h => h) (Or.inl ⟨by rfl, ?_⟩) ?_ ?_
    rotate_left
    · intro w'
      go_simp
      with_reducible rfl
    rotate_left
    · simp only [Act.put, List.setIfInBounds_toArray, List.set_cons_zero, List.set_cons_succ, i64_w, i32_w]
      rfl
    refine pure_ (i := 1) (N := some 24) (v := ?_) (a' := ?_) #[true, true, false, false, false, false, false, false, false, false, false, false, false] rfl rfl (by kernel_rfl) (fun _ _ _ h => h) (Or.inl ⟨by rfl, ?_⟩) ?_ ?_
    rotate_left
    · intro w'
      go_simp
      with_reducible rfl
    rotate_left
    · simp only [Act.put, List.setIfInBounds_toArray, List.set_cons_zero, List.set_cons_succ, i64_w, i32_w]
      rfl
    refine pure_ (i := 2) (N := some 25) (v := ?_) (a' := ?_) #[true, true, true, false, false, false, false, false, false, false, false, false, false] rfl rfl (by kernel_rfl) (fun _ _ _ h => h) (Or.inl ⟨by rfl, ?_⟩) ?_ ?_
    rotate_left
    · intro w'
      go_simp
      with_reducible rfl
    rotate_left
    · simp only [Act.put, List.setIfInBounds_toArray, List.set_cons_zero, List.set_cons_succ, i64_w, i32_w]
      rfl
    refine pure_ (i := 3) (N := some 26) (v := ?_) (a' := ?_) #[true, true, true, true, false, false, false, false, false, false, false, false, false] rfl rfl (by kernel_rfl) (fun _ _ _ h => h) (Or.inl ⟨by rfl, ?_⟩) ?_ ?_
    rotate_left
    · intro w'
      go_simp
      with_reducible rfl
    rotate_left
    · simp only [Act.put, List.setIfInBounds_toArray, List.set_cons_zero, List.set_cons_succ, i64_w, i32_w]
      rfl
    refine pure_ (i := 4) (N := some 27) (v := ?_) (a' := ?_) #[true, true, true, true, true, false, false, false, false, false, false, false, false] rfl rfl (by kernel_rfl) (fun _ _ _ h => h) (Or.inl ⟨by rfl, ?_⟩) ?_ ?_
    rotate_left
    · intro w'
      go_simp
      with_reducible rfl
    rotate_left
    · simp only [Act.put, List.setIfInBounds_toArray, List.set_cons_zero, List.set_cons_succ, i64_w, i32_w]
      rfl
    refine pure_ (i := 6) (N := some 29) (v := ?_) (a' := ?_) #[true, true, true, true, true, false, true, false, false, false, false, false, false] rfl rfl (by kernel_rfl) (fun _ _ _ h => h) (Or.inl ⟨by rfl, ?_⟩) ?_ ?_
    rotate_left
    · intro w'
      go_simp
      with_reducible rfl
    rotate_left
    · simp only [Act.put, List.setIfInBounds_toArray, List.set_cons_zero, List.set_cons_succ, i64_w, i32_w]
      rfl
    refine pure_ (i := 7) (N := some 30) (v := ?_) (a' := ?_) #[true, true, true, true, true, false, true, true, false, false, false, false, false] rfl rfl (by kernel_rfl) (fun _ _ _ h => h) (Or.inl ⟨by rfl, ?_⟩) ?_ ?_
    rotate_left
    · intro w'
      go_simp
      with_reducible rfl
    rotate_left
    · simp only [Act.put, List.setIfInBounds_toArray, List.set_cons_zero, List.set_cons_succ, i64_w, i32_w]
      rfl
    refine pure_ (i := 8) (N := some 31) (v := ?_) (a' := ?_) #[true, true, true, true, true, false, true, true, true, false, false, false, false] rfl rfl (by kernel_rfl) (fun _ _ _ h => h) (Or.inl ⟨by rfl, ?_⟩) ?_ ?_
    rotate_left
    · intro w'
      go_simp
      with_reducible rfl
    rotate_left
    · simp only [Act.put, List.setIfInBounds_toArray, List.set_cons_zero, List.set_cons_succ, i64_w, i32_w]
      rfl
    refine take_ (i := 5) (N := some 28) (v := ?_) (a' := ?_) #[true, true, true, true, true, true, true, true, true, false, false, false, false] rfl rfl (by kernel_rfl) (fun _ _ _ h => h) (Or.inl ⟨by rfl, ?_⟩) hHeld ?_ ?_
    rotate_left
    · rintro w' ⟨s0, s1⟩
      go_simp
      with_reducible rfl
    rotate_left
    · simp only [Act.put, List.setIfInBounds_toArray, List.set_cons_zero, List.set_cons_succ, i64_w, i32_w]
      rfl
    refine take_ (i := 9) (N := some 32) (v := ?_) (a' := ?_) #[true, true, true, true, true, true, true, true, true, true, false, false, false] rfl rfl (by kernel_rfl) (fun _ _ _ h => h) (Or.inl ⟨by rfl, ?_⟩) hHeld ?_ ?_
    rotate_left
    · rintro w' ⟨s0, s1⟩
      go_simp
      with_reducible rfl
    rotate_left
    · simp only [Act.put, List.setIfInBounds_toArray, List.set_cons_zero, List.set_cons_succ, i64_w, i32_w]
      rfl
    refine pure_ (i := 10) (N := some 33) (v := ?_) (a' := ?_) #[true, true, true, true, true, true, true, true, true, true, true, false, false] rfl rfl (by kernel_rfl) (fun _ _ _ h => h) (Or.inl ⟨by rfl, ?_⟩) ?_ ?_
    rotate_left
    · intro w'
      go_simp
      with_reducible rfl
    rotate_left
    · simp only [Act.put, List.setIfInBounds_toArray, List.set_cons_zero, List.set_cons_succ, i64_w, i32_w]
      rfl
    refine pure_ (i := 11) (N := some 34) (v := ?_) (a' := ?_) #[true, true, true, true, true, true, true, true, true, true, true, true, false] rfl rfl (by kernel_rfl) (fun _ _ _ h => h) (Or.inl ⟨by rfl, ?_⟩) ?_ ?_
    rotate_left
    · intro w'
      go_simp
      with_reducible rfl
    rotate_left
    · simp only [Act.put, List.setIfInBounds_toArray, List.set_cons_zero, List.set_cons_succ, i64_w, i32_w]
      rfl
    refine pure_ (i := 12) (N := some 22) (v := ?_) (a' := ?_) #[true, true, true, true, true, true, true, true, true, true, true, true, true] rfl rfl (by kernel_rfl) (fun _ _ _ h => h) (Or.inl ⟨by rfl, ?_⟩) ?_ ?_
    rotate_left
    · intro w'
      go_simp
      with_reducible rfl
    rotate_left
    · simp only [Act.put, List.setIfInBounds_toArray, List.set_cons_zero, List.set_cons_succ, i64_w, i32_w]
      rfl
    refine done_ (by kernel_rfl) ?_
    go_wp2
    go_ret
    exact ⟨rfl, H.out.below (Below.refl _ w).drew, (Kept.refl w ok).drew, (Below.refl _ w).drew⟩
  have e1 : putErr q l key = none := by unfold putErr; rw [if_neg HKB.out, hh, if_neg (by decide), if_neg hf]
  have e2 : putTo q l key = putL key l := by unfold putTo; rw [if_neg HKB.out, hh, if_neg (by decide), if_neg hf]
  rw [e1, e2, eW_none]
  have t3 : decide (q - (sizeL l : Int) < (key.size : Int)) = false := by simpa using hf
  have HFF := Lib.hid hf
  clear e1 e2 hh hf
  go_enter Try.func9, Try.ntmps9
  go_wp2_with fail
  refine start_ (n := 13) (S := fun w' => w'.cell? ⟨g, 2, none⟩ = some (.int .i64 q) ∧ w'.cell? ⟨g, 1, none⟩ = some (.int .i64 (sizeL l : Int))) (ds := []) #[false, false, false, false, false, false, false, false, false, false, false, false, false] (by kernel_rfl) rfl rfl ⟨HC2.out, HC1.out⟩ (fun hHeld => ?_)
  refine pure_ (i := 0) (N := some 23) (v := ?_) (a' := ?_) #[true, false, false, false, false, false, false, false, false, false, false, false, false] rfl rfl (by kernel_rfl) (fun _ _ _ h => h) (Or.inl ⟨by rfl, ?_⟩) ?_ ?_
  rotate_left
  · intro w'
    go_simp
    with_reducible rfl
  rotate_left
  · simp only [Act.put, List.setIfInBounds_toArray, List.set_cons_zero, List.set_cons_succ, i64_w, i32_w]
    rfl
  refine pure_ (i := 1) (N := some 24) (v := ?_) (a' := ?_) #[true, true, false, false, false, false, false, false, false, false, false, false, false] rfl rfl (by kernel_rfl) (fun _ _ _ h => h) (Or.inl ⟨by rfl, ?_⟩) ?_ ?_
  rotate_left
  · intro w'
    go_simp
    with_reducible rfl
  rotate_left
  · simp only [Act.put, List.setIfInBounds_toArray, List.set_cons_zero, List.set_cons_succ, i64_w, i32_w]
    rfl
  refine pure_ (i := 2) (N := some 25) (v := ?_) (a' := ?_) #[true, true, true, false, false, false, false, false, false, false, false, false, false] rfl rfl (by kernel_rfl) (fun _ _ _ h => h) (Or.inl ⟨by rfl, ?_⟩) ?_ ?_
  rotate_left
  · intro w'
    go_simp
    with_reducible rfl
  rotate_left
  · simp only [Act.put, List.setIfInBounds_toArray, List.set_cons_zero, List.set_cons_succ, i64_w, i32_w]
    rfl
  refine pure_ (i := 3) (N := some 26) (v := ?_) (a' := ?_) #[true, true, true, true, false, false, false, false, false, false, false, false, false] rfl rfl (by kernel_rfl) (fun _ _ _ h => h) (Or.inl ⟨by rfl, ?_⟩) ?_ ?_
  rotate_left
  · intro w'
    go_simp
    with_reducible rfl
  rotate_left
  · simp only [Act.put, List.setIfInBounds_toArray, List.set_cons_zero, List.set_cons_succ, i64_w, i32_w]
    rfl
  refine pure_ (i := 4) (N := some 27) (v := ?_) (a' := ?_) #[true, true, true, true, true, false, false, false, false, false, false, false, false] rfl rfl (by kernel_rfl) (fun _ _ _ h => h) (Or.inl ⟨by rfl, ?_⟩) ?_ ?_
  rotate_left
  · intro w'
    go_simp
    with_reducible rfl
  rotate_left
  · simp only [Act.put, List.setIfInBounds_toArray, List.set_cons_zero, List.set_cons_succ, i64_w, i32_w]
    rfl
  refine pure_ (i := 6) (N := some 29) (v := ?_) (a' := ?_) #[true, true, true, true, true, false, true, false, false, false, false, false, false] rfl rfl (by kernel_rfl) (fun _ _ _ h => h) (Or.inl ⟨by rfl, ?_⟩) ?_ ?_
  rotate_left
  · intro w'
    go_simp
    with_reducible rfl
  rotate_left
  · simp only [Act.put, List.setIfInBounds_toArray, List.set_cons_zero, List.set_cons_succ, i64_w, i32_w]
    rfl
  refine pure_ (i := 7) (N := some 30) (v := ?_) (a' := ?_) #[true, true, true, true, true, false, true, true, false, false, false, false, false] rfl rfl (by kernel_rfl) (fun _ _ _ h => h) (Or.inl ⟨by rfl, ?_⟩) ?_ ?_
  rotate_left
  · intro w'
    go_simp
    with_reducible rfl
  rotate_left
  · simp only [Act.put, List.setIfInBounds_toArray, List.set_cons_zero, List.set_cons_succ, i64_w, i32_w]
    rfl
  refine pure_ (i := 8) (N := some 31) (v := ?_) (a' := ?_) #[true, true, true, true, true, false, true, true, true, false, false, false, false] rfl rfl (by kernel_rfl) (fun _ _ _ h => h) (Or.inl ⟨by rfl, ?_⟩) ?_ ?_
  rotate_left
  · intro w'
    go_simp
    with_reducible rfl
  rotate_left
  · simp only [Act.put, List.setIfInBounds_toArray, List.set_cons_zero, List.set_cons_succ, i64_w, i32_w]
    rfl
  refine take_ (i := 5) (N := some 28) (v := ?_) (a' := ?_) #[true, true, true, true, true, true, true, true, true, false, false, false, false] rfl rfl (by kernel_rfl) (fun _ _ _ h => h) (Or.inl ⟨by rfl, ?_⟩) hHeld ?_ ?_
  rotate_left
  · rintro w' ⟨s0, s1⟩
    go_simp
    with_reducible rfl
  rotate_left
  · simp only [Act.put, List.setIfInBounds_toArray, List.set_cons_zero, List.set_cons_succ, i64_w, i32_w]
    rfl
  refine take_ (i := 9) (N := some 32) (v := ?_) (a' := ?_) #[true, true, true, true, true, true, true, true, true, true, false, false, false] rfl rfl (by kernel_rfl) (fun _ _ _ h => h) (Or.inl ⟨by rfl, ?_⟩) hHeld ?_ ?_
  rotate_left
  · rintro w' ⟨s0, s1⟩
    go_simp
    with_reducible rfl
  rotate_left
  · simp only [Act.put, List.setIfInBounds_toArray, List.set_cons_zero, List.set_cons_succ, i64_w, i32_w]
    rfl
  refine pure_ (i := 10) (N := some 33) (v := ?_) (a' := ?_) #[true, true, true, true, true, true, true, true, true, true, true, false, false] rfl rfl (by kernel_rfl) (fun _ _ _ h => h) (Or.inl ⟨by rfl, ?_⟩) ?_ ?_
  rotate_left
  · intro w'
    go_simp
    with_reducible rfl
  rotate_left
  · simp only [Act.put, List.setIfInBounds_toArray, List.set_cons_zero, List.set_cons_succ, i64_w, i32_w]
    rfl
  refine pure_ (i := 11) (N := some 34) (v := ?_) (a' := ?_) #[true, true, true, true, true, true, true, true, true, true, true, true, false] rfl rfl (by kernel_rfl) (fun _ _ _ h => h) (Or.inl ⟨by rfl, ?_⟩) ?_ ?_
  rotate_left
  · intro w'
    go_simp
    with_reducible rfl
  rotate_left
  · simp only [Act.put, List.setIfInBounds_toArray, List.set_cons_zero, List.set_cons_succ, i64_w, i32_w]
    rfl
  refine pure_ (i := 12) (N := some 22) (v := ?_) (a' := ?_) #[true, true, true, true, true, true, true, true, true, true, true, true, true] rfl rfl (by kernel_rfl) (fun _ _ _ h => h) (Or.inl ⟨by rfl, ?_⟩) ?_ ?_
  rotate_left
  · intro w'
    go_simp
    with_reducible rfl
  rotate_left
  · simp only [Act.put, List.setIfInBounds_toArray, List.set_cons_zero, List.set_cons_succ, i64_w, i32_w]
    rfl
  refine done_ (by kernel_rfl) ?_
  have d0 : w.drew.cell? ⟨g, 0, none⟩ = some (.map (some b)) := c0
  clear c0 hlk
  go_wp2_with (first | (at_mapUpdate; refine wp_put (b := b) (l := l) rfl _ _ _ 45 rfl Try.underlying9 Try.underlying4 Try.underlying45 rfl (H9.out.of_heap rfl : SetIs Try.prog 9 4 w.drew b l) (by have := HLL.out; omega) key hkk rfl rfl HNH.out ?_; intro w1 hs1 hg1; have hb1 := blk_grown (blk_drew H6.out) hg1 (fun e => HBG.out (Option.some.inj e).symm); have k1 : w1.cell? ⟨g, 1, none⟩ = some (.int .i64 (sizeL l : Int)) := (blk_cell hb1 1).trans rfl; have f1 := blk_frozen hb1 1; have hw2 : wrap64 ((sizeL l : Int) + (key.size : Int)) = (sizeL l : Int) + (key.size : Int) := by (have := HS4.out; have := HFF.out; have := HQ.out; unfold wrap64; omega)))
  have HS1 := Lib.hid hs1
  have HG1 := Lib.hid hg1
  have HB1 := Lib.hid hb1
  clear hs1 hg1 hb1 d0
  go_ret
  have hz : sizeL (putL key l) = sizeL l + key.size := sizeL_put key l
  refine ⟨rfl, ⟨HBB.out.1, HOK.out.1, by rw [putL_len]; have := HLL.out; omega, by have := HFF.out; have := HQ.out; omega, fun s hs => ?_, b, ?_, HBB.out.2, HOK.out.2, HS1.out.of_heap (Below.heap_setCell _ _ _ _ HBG.out)⟩, ?_, ?_⟩
  · rcases mem_putL.1 hs with e | e
    · rw [e]; have := HKB.out; omega
    · exact HS5.out s e
  · have := blk_set HB1.out 1 (.int .i64 ((sizeL l : Int) + (key.size : Int)))
    rw [hz]
    simpa using this
  · exact Kept.setCell (p := ⟨g, 1, none⟩) (Kept.of_grown HG1.out (Kept.refl w ok : Kept w w.drew ok) (fun k hk => .inl (by rw [← Option.some.inj hk]; exact HOK.out.2))) (.inl HOK.out.1) _
  · refine Below.setCell (p := ⟨g, 1, none⟩) (((Below.refl B w).drew).trans ⟨HG1.out.os, HG1.out.tape, HG1.out.output, HG1.out.size, fun k hk => HG1.out.block k ?_ ?_⟩) HBB.out.1 _
    · have := blk_lt HB1.out; have := H9.out.lt; have := HBB.out.2; show k < w.heap.size; omega
    · exact fun e => by have := Option.some.inj e; have := HBB.out.2; omega
end Go.Proofs.Ytjlbfbibamnigaa.Blobs
