-- Cut by a program of this session (wip/shake.py) out of a text of this seat: what this claim doesn't reach is struck out. Lean checks it.
import Derived.Test.YtkaoojcafefjjaaNetD0Cp
import Derived.Lib.Hide
import Derived.BigRegion
namespace Go.Proofs.Ytkaoojcafefjjaa.Net
open Go.RowKit Go.Proofs.Ytkaoojcafefjjaa.Ms Go.Proofs.YtkaoojcafefjjaaW.PrintWords Go.Proofs.YtkaoojcafefjjaaW.PrintLast Go.Proofs.YtkaoojcafefjjaaW.PrintMore
attribute [local go_sem] Go.Proofs.Ytkaoojcafefjjaa.Ms.eqlErr Go.Proofs.Ytkaoojcafefjjaa.Ms.neqErr Go.Proofs.Ytkaoojcafefjjaa.Ms.eqlErrNil Go.Proofs.Ytkaoojcafefjjaa.Ms.neqErrNil
set_option linter.unusedVariables false
set_option linter.unusedSimpArgs false
def NetAt (W : World) (B : Nat) (ok : Nat → Prop) (g : Nat) (f : Int) (l : List S41) : Prop :=
  B ≤ g ∧ ok g ∧ l.length ≤ 50000 ∧ ∃ v, W.heap[g]? = some (.cells #[.int .i64 f, v] 60 (0, 0)) ∧ Kd.R k41 41 W B (fun k => ok k ∧ k ≠ g) v l
theorem NetAt.open_ {W : World} {B : Nat} {ok : Nat → Prop} {g : Nat} {f : Int} {l : List S41} (h : NetAt W B ok g f l) :
    ∃ A c, W.heap[g]? = some (.cells #[.int .i64 f, .slice A l.length c] 60 (0, 0)) ∧ Kd.R k41 41 W B (fun k => ok k ∧ k ≠ g) (.slice A l.length c) l ∧ B ≤ g ∧ ok g ∧ l.length ≤ 50000 := by
  obtain ⟨hB, hok, hl, v, hb, hr⟩ := h
  obtain ⟨A, c, rfl⟩ := Kd.R_slice hr
  exact ⟨A, c, hb, hr, hB, hok, hl⟩
theorem NetAt.mono {W : World} {B : Nat} {ok ok' : Nat → Prop} {g : Nat} {f : Int} {l : List S41} (h : NetAt W B ok g f l) (hk : ∀ k, ok k → ok' k) : NetAt W B ok' g f l := by
  obtain ⟨hB, hok, hl, v, hb, hr⟩ := h
  exact ⟨hB, hk _ hok, hl, v, hb, Kd.R_mono hr (fun k h => ⟨hk k h.1, h.2⟩)⟩
theorem NetAt.below {W W' : World} {B : Nat} {ok : Nat → Prop} {g : Nat} {f : Int} {l : List S41} (h : NetAt W B ok g f l) (hb : Below W.heap.size W W') : NetAt W' B ok g f l := by
  obtain ⟨hB, hok, hl, v, hg, hr⟩ := h
  exact ⟨hB, hok, hl, v, blk_below hg hb, Kd.R_below hr hb⟩
theorem NetAt.bound {W : World} {B : Nat} {ok : Nat → Prop} {g : Nat} {f : Int} {l : List S41} (h : NetAt W B ok g f l) : NetAt W B (fun k => ok k ∧ B ≤ k ∧ k < W.heap.size) g f l := by
  obtain ⟨hB, hok, hl, v, hg, hr⟩ := h
  exact ⟨hB, ⟨hok, hB, blk_lt hg⟩, hl, v, hg, Kd.R_mono (Kd.R_bound hr) (fun k h => ⟨⟨h.1.1, h.2.1, h.2.2.1⟩, h.1.2⟩)⟩
theorem NetAt.kept {W W' : World} {B : Nat} {ok S : Nat → Prop} {g : Nat} {f : Int} {l : List S41} (h : NetAt W B ok g f l) (hk : Kept W W' S) (hne : ∀ k, ok k → ¬ S k) : NetAt W' B ok g f l := by
  obtain ⟨hB, hok, hl, v, hg, hr⟩ := h
  exact ⟨hB, hok, hl, v, blk_kept hg hk (hne g hok), Kd.R_kept hr hk (fun k h => hne k h.1)⟩
theorem NetAt.drew {W : World} {B : Nat} {ok : Nat → Prop} {g : Nat} {f : Int} {l : List S41} (h : NetAt W B ok g f l) : NetAt W.drew B ok g f l := h.below (Below.refl _ W).drew
theorem NetAt.len {W : World} {B : Nat} {ok : Nat → Prop} {g : Nat} {f : Int} {l : List S41} (h : NetAt W B ok g f l) : l.length ≤ 50000 := h.2.2.1
theorem NetAt.glt {W : World} {B : Nat} {ok : Nat → Prop} {g : Nat} {f : Int} {l : List S41} (h : NetAt W B ok g f l) : g < W.heap.size := by
  obtain ⟨hB, hok, hl, v, hg, hr⟩ := h
  exact blk_lt hg
def NetTo (w w' : World) (B : Nat) (ok : Nat → Prop) (g : Nat) (f : Int) (l : List S41) : Prop :=
  NetAt w' B (fun k => ok k ∨ w.heap.size ≤ k) g f l ∧ Kept w w' ok ∧ Below B w w'
theorem net_New (w : World) (f : Int) (h1 : 1 ≤ f) (h4 : f ≤ 4) : Calls Try.prog 8 #[.int .i64 f] w fun e w' => e = .returned (.tuple #[.pointer (some ⟨w.heap.size, 0, none⟩), .nilIface]) ∧ NetAt w' w.heap.size (fun k => k = w.heap.size) w.heap.size f [] ∧ Below w.heap.size w w' := by
  have t1 : decide (f < 1) = false := by simp; omega
  have t2 : decide (4 < f) = false := by simp; omega
  go_enter Try.func8, Try.ntmps8
  go_wp2
  go_ret2
  exact ⟨rfl, ⟨Nat.le_refl _, rfl, by simp, .slice none 0 0, heap_alloc_new w _, Kd.R_nil _ _ _ _ _⟩, (Below.refl _ _).alloc (Nat.le_refl _) _⟩
theorem net_New_no (w : World) (f : Int) (h : f < 1 ∨ 4 < f) : Calls Try.prog 8 #[.int .i64 f] w fun e w' => e = .returned (.tuple #[.pointer none, .iface 49 (.int .i64 1)]) ∧ Below w.heap.size w w' := by
  by_cases t1 : f < 1
  · have t1 : decide (f < 1) = true := by simpa using t1
    go_enter Try.func8, Try.ntmps8
    go_wp2
    go_ret2
    exact ⟨rfl, Below.refl _ _⟩
  · have t2 : decide (4 < f) = true := by simp; omega
    have t1 : decide (f < 1) = false := by simpa using t1
    go_enter Try.func8, Try.ntmps8
    go_wp2
    go_ret2
    exact ⟨rfl, Below.refl _ _⟩
theorem net_All (w : World) (B : Nat) (ok : Nat → Prop) (g : Nat) (f : Int) (l : List S41) (h : NetAt w B ok g f l) :
    Calls Try.prog 10 #[.pointer (some ⟨g, 0, none⟩)] w fun e w' => ∃ v : Value, e = .returned v ∧ Kd.R k41 41 w' w.heap.size (fun _ => True) v l ∧ Below w.heap.size w w' := by
  obtain ⟨A, c, hb, hr, hB, hok, hl⟩ := h.open_
  have c0 : w.cell? ⟨g, 1, none⟩ = some (.slice A l.length c) := (blk_cell hb 1).trans rfl
  have HC := Lib.hid (Kd.R_reads' hr).2.2
  have HL := Lib.hid hl
  clear hb hr h
  go_enter Try.func10, Try.ntmps10
  go_wp2_with fail
  refine (clone_calls A c l _ HC.out (by have := HL.out; omega)).mono ?_
  rintro e w' ⟨v, rfl, hv, hbw⟩
  obtain ⟨A2, c2, rfl⟩ := Kd.R_slice hv
  have HV := Lib.hid hv
  have HW := Lib.hid hbw
  clear hv hbw
  go_wp2
  go_ret
  exact ⟨_, rfl, HV.out, HW.out⟩
theorem net_Dup_no (w : World) (B : Nat) (ok : Nat → Prop) (g : Nat) (f : Int) (l : List S41) (h : NetAt w B ok g f l) (i : Int) (hi : i < 0 ∨ (l.length : Int) ≤ i) :
    Calls Try.prog 15 #[.pointer (some ⟨g, 0, none⟩), .int .i64 i] w fun e w' => e = .returned (.bool false) ∧ Below w.heap.size w w' := by
  obtain ⟨A, c, hb, hr, hB, hok, hl⟩ := h.open_
  have c0 : w.cell? ⟨g, 1, none⟩ = some (.slice A l.length c) := (blk_cell hb 1).trans rfl
  clear hb hr h
  by_cases h0 : i < 0
  · have t0 : decide (i < 0) = true := by simpa using h0
    clear hi h0
    go_enter Try.func15, Try.ntmps15
    go_wp2
    go_ret
    exact ⟨rfl, Below.refl _ _⟩
  · have t0 : decide (i < 0) = false := by simpa using h0
    have t1 : decide ((l.length : Int) ≤ i) = true := by simp; omega
    clear hi h0
    go_enter Try.func15, Try.ntmps15
    go_wp2
    go_ret
    exact ⟨rfl, Below.refl _ _⟩
theorem net_Take_no (w : World) (B : Nat) (ok : Nat → Prop) (g : Nat) (f : Int) (l : List S41) (h : NetAt w B ok g f l) (i : Int) (hi : i < 0 ∨ (l.length : Int) ≤ i) :
    Calls Try.prog 12 #[.pointer (some ⟨g, 0, none⟩), .int .i64 i] w fun e w' => e = .returned (.tuple #[.agg #[.int .i64 0, .int .i64 0, .string ⟨#[]⟩], .bool false]) ∧ Below w.heap.size w w' := by
  have hgl := h.glt
  obtain ⟨A, c, hb, hr, hB, hok, hl⟩ := h.open_
  have c0 : w.cell? ⟨g, 1, none⟩ = some (.slice A l.length c) := (blk_cell hb 1).trans rfl
  clear hb hr h
  by_cases h0 : i < 0
  · have t0 : decide (i < 0) = true := by simpa using h0
    clear hi h0
    go_enter Try.func12, Try.ntmps12
    go_wp2
    refine bodyPost_ret (v := .tuple #[.agg #[.int .i64 0, .int .i64 0, .string ⟨#[]⟩], .bool false]) ?_ rfl ?_
    · unfold results
      go_simp
    exact ⟨rfl, ((Below.refl _ _).alloc (Nat.le_refl _) _)⟩
  · have t0 : decide (i < 0) = false := by simpa using h0
    have t1 : decide ((l.length : Int) ≤ i) = true := by simp; omega
    clear hi h0
    go_enter Try.func12, Try.ntmps12
    go_wp2
    refine bodyPost_ret (v := .tuple #[.agg #[.int .i64 0, .int .i64 0, .string ⟨#[]⟩], .bool false]) ?_ rfl ?_
    · unfold results
      go_simp
    exact ⟨rfl, ((Below.refl _ _).alloc (Nat.le_refl _) _)⟩
theorem net_stored {w w3 : World} {B : Nat} {ok : Nat → Prop} {g : Nat} {f : Int} {v0 : Value} {l : List S41} {A1 : Option Addr} {c1 m : Nat} (hB : B ≤ g) (hok : ok g) (hl : l.length ≤ 50000) (hb3 : w3.heap[g]? = some (.cells #[.int .i64 f, v0] 60 (0, 0)))
    (hR : Kd.R k41 41 w3 B (fun k => (ok k ∨ w.heap.size ≤ k) ∧ k ≠ g) (.slice A1 l.length c1) l) (hm : m = l.length) (hK : Kept w w3 ok) (hBel : Below B w w3) :
    NetTo w (w3.setCell ⟨g, 1, none⟩ (.slice A1 m c1)) B ok g f l := by
  subst hm
  refine ⟨⟨hB, .inl hok, hl, .slice A1 l.length c1, ?_, ?_⟩, ?_, hBel.setCell hB _⟩
  · have := blk_set hb3 1 (.slice A1 l.length c1)
    simpa using this
  · exact Kd.R_far (p := ⟨g, 1, none⟩) hR (fun k hk => hk.2) _
  · exact Kept.setCell hK (.inl hok) _
theorem at_cells {w : World} {gr c : Nat} {l : List S41} (h : Kd.C k41 w (some ⟨gr, 0, none⟩) l.length l) (i : Nat) (hi : i < l.length) : w.cell? ⟨gr, i * 3, none⟩ = some (.int .i64 (rd_T41 l (i : Int)).f0) ∧ w.cell? ⟨gr, i * 3 + 1, none⟩ = some (.int .i64 (rd_T41 l (i : Int)).f1) ∧ w.cell? ⟨gr, i * 3 + 2, none⟩ = some (.string (rd_T41 l (i : Int)).f2) := by
  obtain ⟨ad, e, h0, h1, h2⟩ := at_T41 h (i : Int) (by omega) (by omega)
  injection e with e
  subst e
  simpa [Addr.add_lit] using And.intro h0 (And.intro h1 h2)
set_option maxHeartbeats 4000000 in
set_option maxRecDepth 100000 in
theorem net_Dup (w : World) (B : Nat) (ok : Nat → Prop) (g : Nat) (f : Int) (l : List S41) (h : NetAt w B ok g f l) (hBw : B ≤ w.heap.size) (i : Nat) (hi : i < l.length) (hn : l.length < 50000) :
    Calls Try.prog 15 #[.pointer (some ⟨g, 0, none⟩), .int .i64 (i : Int)] w fun e w' => e = .returned (.bool true) ∧ NetTo w w' B ok g f (l ++ [⟨(rd_T41 l (i : Int)).f0, (rd_T41 l (i : Int)).f1, (rd_T41 l (i : Int)).f2⟩]) := by
  have hgl := h.glt
  obtain ⟨A, c, hb, hr, hB, hok, hl⟩ := h.open_
  obtain ⟨gr, cap, he, hBg, hgrl, cells0, hcells0⟩ := Kd.R_form hr (by omega)
  injection he with e1 e2 e3
  subst e1 e3
  have hne := (hr.1 gr rfl)
  obtain ⟨hE0, hE1, hE2⟩ := at_cells (c := c) (Kd.R_reads' hr).2.2 i hi
  have c0 : w.cell? ⟨g, 1, none⟩ = some (.slice (some ⟨gr, 0, none⟩) l.length c) := (blk_cell hb 1).trans rfl
  have t0 : decide ((i : Int) < 0) = false := by simp
  have t1 : decide ((l.length : Int) ≤ (i : Int)) = false := by simp; omega
  have HB := Lib.hid hb
  have HR := Lib.hid (Kd.R_mono (ok' := fun k => (ok k ∨ w.heap.size ≤ k) ∧ k ≠ g) hr (fun k hk => ⟨.inl hk.1, hk.2⟩))
  have HRo := Lib.hid (hr.1)
  have HE0 := Lib.hid hE0
  have HE1 := Lib.hid hE1
  have HE2 := Lib.hid hE2
  have HEL := Lib.hid hgrl
  have HBW := Lib.hid hBw
  have HBG := Lib.hid hB
  have HOK := Lib.hid hok
  have HFR : Hid (∀ k, w.drew.heap.size ≤ k → (ok k ∨ w.heap.size ≤ k) ∧ k ≠ g) := Lib.hid (fun k hk => ⟨.inr hk, by have : w.heap.size ≤ k := hk; omega⟩)
  have HLEN : Hid ((l.length + 1) * 32 ≤ 140737488355328) := Lib.hid (by omega)
  have HNG : Hid (some g ≠ (Value.slice (some ⟨gr, 0, none⟩) l.length c).ownBlock) := Lib.hid (fun e => hne.2 (Option.some.inj e).symm)
  have HLL := Lib.hid hn
  have HIL := Lib.hid hi
  clear hb hr h e2 hcells0 hE0 hE1 hE2 hne
  go_enter Try.func15, Try.ntmps15
  go_wp2_with fail
  refine start_ (n := 17) (S := fun w' => w'.cell? ⟨g, 1, none⟩ = some (.slice (some ⟨gr, 0, none⟩) l.length c) ∧ w'.cell? ⟨gr, i * 3, none⟩ = some (.int .i64 (rd_T41 l (i : Int)).f0) ∧ w'.cell? ⟨gr, i * 3 + 1, none⟩ = some (.int .i64 (rd_T41 l (i : Int)).f1) ∧ w'.cell? ⟨gr, i * 3 + 2, none⟩ = some (.string (rd_T41 l (i : Int)).f2)) (ds := [13, 16]) #[false, false, false, false, false, false, false, false, false, false, false, false, false, false, false, false, false] (by kernel_rfl) rfl rfl ⟨((blk_cell (blk_drew HB.out) 1).trans rfl), HE0.out, HE1.out, HE2.out⟩ (fun hHeld => ?_)
  refine pure_ (i := 0) (N := some 16) (v := ?_) (a' := ?_) #[true, false, false, false, false, false, false, false, false, false, false, false, false, false, false, false, false] rfl rfl (by kernel_rfl) (fun _ _ _ h => h) (Or.inl ⟨by rfl, ?_⟩) ?_ ?_
  rotate_left
  · intro w'
    go_simp
    with_reducible rfl
  rotate_left
  · simp only [Act.put, List.setIfInBounds_toArray, List.set_cons_zero, List.set_cons_succ, i64_w, i32_w]
    rfl
  refine pure_ (i := 1) (N := some 17) (v := ?_) (a' := ?_) #[true, true, false, false, false, false, false, false, false, false, false, false, false, false, false, false, false] rfl rfl (by kernel_rfl) (fun _ _ _ h => h) (Or.inl ⟨by rfl, ?_⟩) ?_ ?_
  rotate_left
  · intro w'
    go_simp
    with_reducible rfl
  rotate_left
  · simp only [Act.put, List.setIfInBounds_toArray, List.set_cons_zero, List.set_cons_succ, i64_w, i32_w]
    rfl
  refine pure_ (i := 2) (N := some 18) (v := ?_) (a' := ?_) #[true, true, true, false, false, false, false, false, false, false, false, false, false, false, false, false, false] rfl rfl (by kernel_rfl) (fun _ _ _ h => h) (Or.inl ⟨by rfl, ?_⟩) ?_ ?_
  rotate_left
  · intro w'
    go_simp
    with_reducible rfl
  rotate_left
  · simp only [Act.put, List.setIfInBounds_toArray, List.set_cons_zero, List.set_cons_succ, i64_w, i32_w]
    rfl
  refine pure_ (i := 3) (N := some 19) (v := ?_) (a' := ?_) #[true, true, true, true, false, false, false, false, false, false, false, false, false, false, false, false, false] rfl rfl (by kernel_rfl) (fun _ _ _ h => h) (Or.inl ⟨by rfl, ?_⟩) ?_ ?_
  rotate_left
  · intro w'
    go_simp
    with_reducible rfl
  rotate_left
  · simp only [Act.put, List.setIfInBounds_toArray, List.set_cons_zero, List.set_cons_succ, i64_w, i32_w]
    rfl
  refine pure_ (i := 5) (N := some 21) (v := ?_) (a' := ?_) #[true, true, true, true, false, true, false, false, false, false, false, false, false, false, false, false, false] rfl rfl (by kernel_rfl) (fun _ _ _ h => h) (Or.inl ⟨by rfl, ?_⟩) ?_ ?_
  rotate_left
  · intro w'
    go_simp
    with_reducible rfl
  rotate_left
  · simp only [Act.put, List.setIfInBounds_toArray, List.set_cons_zero, List.set_cons_succ, i64_w, i32_w]
    rfl
  refine pure_ (i := 6) (N := some 22) (v := ?_) (a' := ?_) #[true, true, true, true, false, true, true, false, false, false, false, false, false, false, false, false, false] rfl rfl (by kernel_rfl) (fun _ _ _ h => h) (Or.inl ⟨by rfl, ?_⟩) ?_ ?_
  rotate_left
  · intro w'
    go_simp
    with_reducible rfl
  rotate_left
  · simp only [Act.put, List.setIfInBounds_toArray, List.set_cons_zero, List.set_cons_succ, i64_w, i32_w]
    rfl
  refine pure_ (i := 7) (N := some 23) (v := ?_) (a' := ?_) #[true, true, true, true, false, true, true, true, false, false, false, false, false, false, false, false, false] rfl rfl (by kernel_rfl) (fun _ _ _ h => h) (Or.inl ⟨by rfl, ?_⟩) ?_ ?_
  rotate_left
  · intro w'
    go_simp
    with_reducible rfl
  rotate_left
  · simp only [Act.put, List.setIfInBounds_toArray, List.set_cons_zero, List.set_cons_succ, i64_w, i32_w]
    rfl
  refine pure_ (i := 9) (N := some 25) (v := ?_) (a' := ?_) #[true, true, true, true, false, true, true, true, false, true, false, false, false, false, false, false, false] rfl rfl (by kernel_rfl) (fun _ _ _ h => h) (Or.inl ⟨by rfl, ?_⟩) ?_ ?_
  rotate_left
  · intro w'
    go_simp
    with_reducible rfl
  rotate_left
  · simp only [Act.put, List.setIfInBounds_toArray, List.set_cons_zero, List.set_cons_succ, i64_w, i32_w]
    rfl
  refine take_ (i := 4) (N := some 20) (v := ?_) (a' := ?_) #[true, true, true, true, true, true, true, true, false, true, false, false, false, false, false, false, false] rfl rfl (by kernel_rfl) (fun _ _ _ h => h) (Or.inl ⟨by rfl, ?_⟩) hHeld ?_ ?_
  rotate_left
  · rintro w' ⟨s0, s1, s2, s3⟩
    go_simp
    with_reducible rfl
  rotate_left
  · simp only [Act.put, List.setIfInBounds_toArray, List.set_cons_zero, List.set_cons_succ, i64_w, i32_w]
    rfl
  refine take_ (i := 8) (N := some 24) (v := ?_) (a' := ?_) #[true, true, true, true, true, true, true, true, true, true, false, false, false, false, false, false, false] rfl rfl (by kernel_rfl) (fun _ _ _ h => h) (Or.inl ⟨by rfl, ?_⟩) hHeld ?_ ?_
  rotate_left
  · rintro w' ⟨s0, s1, s2, s3⟩
    go_simp
    with_reducible rfl
  rotate_left
  · simp only [Act.put, List.setIfInBounds_toArray, List.set_cons_zero, List.set_cons_succ, i64_w, i32_w]
    rfl
  refine pure_ (i := 10) (N := some 26) (v := ?_) (a' := ?_) #[true, true, true, true, true, true, true, true, true, true, true, false, false, false, false, false, false] rfl rfl (by kernel_rfl) (fun _ _ _ h => h) (Or.inl ⟨by rfl, ?_⟩) ?_ ?_
  rotate_left
  · intro w'
    go_simp
    with_reducible rfl
  rotate_left
  · simp only [Act.put, List.setIfInBounds_toArray, List.set_cons_zero, List.set_cons_succ, i64_w, i32_w]
    rfl
  refine take_ (i := 11) (N := some 27) (v := ?_) (a' := ?_) #[true, true, true, true, true, true, true, true, true, true, true, true, false, false, false, false, false] rfl rfl (by kernel_rfl) (fun _ _ _ h => h) (Or.inl ⟨by rfl, ?_⟩) hHeld ?_ ?_
  rotate_left
  · rintro w' ⟨s0, s1, s2, s3⟩
    go_simp
    with_reducible rfl
  rotate_left
  · simp only [Act.put, List.setIfInBounds_toArray, List.set_cons_zero, List.set_cons_succ, i64_w, i32_w]
    rfl
  refine one_ (i := 12) (N := some 28) #[true, true, true, true, true, true, true, true, true, true, true, true, true, false, false, false, false] rfl rfl (by kernel_rfl) (by decide) (fun K hK => ?_)
  refine value_ (w1 := ?_) (v := ?_) (by rfl) rfl ?_ ?_
  rotate_left 2
  · go_simp
    constructor
    · rfl
    · rfl
  refine hK.out _ _ ⟨((blk_cell (blk_below HB.out (((Below.refl _ w).alloc (Nat.le_refl _) _).drew)) 1).trans rfl), ((((Below.refl _ w).alloc (Nat.le_refl _) _).drew).cell (p := ⟨gr, i * 3, none⟩) HEL.out |>.trans HE0.out), ((((Below.refl _ w).alloc (Nat.le_refl _) _).drew).cell (p := ⟨gr, i * 3 + 1, none⟩) HEL.out |>.trans HE1.out), ((((Below.refl _ w).alloc (Nat.le_refl _) _).drew).cell (p := ⟨gr, i * 3 + 2, none⟩) HEL.out |>.trans HE2.out)⟩ (fun hHeld => ?_)
  clear hK K
  refine norm_ (a' := ?_) ?_ ?_
  rotate_left
  · show Act.put _ (some 28) _ = _
    simp only [Act.put, List.setIfInBounds_toArray, List.set_cons_zero, List.set_cons_succ, i64_w, i32_w]
    rfl
  refine last_ (i := 13) (N := some 29) #[true, true, true, true, true, true, true, true, true, true, true, true, true, true, false, false, false] rfl rfl (by kernel_rfl) (by decide) (fun K hK => ?_)
  refine Kd.R_append_step k41 (w0 := w) (W := w.drew) B (by rfl) (.tmp 20) (.tmp 28) 38 41 (.agg #[.int .i64 0, .int .i64 0, .string ⟨#[]⟩]) 32 (by rfl) Try.underlying38 info41 rfl (by decide) (by omega) (.slice (some ⟨gr, 0, none⟩) l.length c) l (⟨(rd_T41 l (i : Int)).f0, (rd_T41 l (i : Int)).f1, (rd_T41 l (i : Int)).f2⟩ : S41) [.int .i64 (rd_T41 l (i : Int)).f0, .int .i64 (rd_T41 l (i : Int)).f1, .string (rd_T41 l (i : Int)).f2] (fun k => (ok k ∨ w.heap.size ≤ k) ∧ k ≠ g) (fun _ => False) (by rfl) (by rfl) (k41_mkM _ _ _ _) (fun _ h => h.elim) HFR.out (Kd.R_drew HR.out) ((Below.refl _ _).drew) HBW.out HLEN.out ?_
  intro v1 w3 hown hbel hgr hat
  obtain ⟨A1, c1, rfl⟩ := Kd.R_slice hown
  have hb3 := blk_grown (blk_drew HB.out) hgr HNG.out
  have k3 : w3.cell? ⟨g, 1, none⟩ = some (.slice (some ⟨gr, 0, none⟩) l.length c) := (blk_cell hb3 1).trans rfl
  have f3 := blk_frozen hb3 1
  have HO3 := Lib.hid hown
  have HB3 := Lib.hid hb3
  have HBel3 := Lib.hid hbel
  have HG3 := Lib.hid hgr
  clear hown hb3 hbel hgr hat
  refine hK.out _ _ ?_
  clear hK K
  refine norm_ (a' := ?_) ?_ ?_
  rotate_left
  · show Act.put _ (some 29) _ = _
    simp only [Act.put, List.setIfInBounds_toArray, List.set_cons_zero, List.set_cons_succ, i64_w, i32_w]
    rfl
  refine pure_ (i := 14) (N := some 30) (v := ?_) (a' := ?_) #[true, true, true, true, true, true, true, true, true, true, true, true, true, true, true, false, false] rfl rfl (by kernel_rfl) (fun _ _ _ h => h) (Or.inl ⟨by rfl, ?_⟩) ?_ ?_
  rotate_left
  · intro w'
    go_simp
    with_reducible rfl
  rotate_left
  · simp only [Act.put, List.setIfInBounds_toArray, List.set_cons_zero, List.set_cons_succ, i64_w, i32_w]
    rfl
  refine pure_ (i := 15) (N := some 31) (v := ?_) (a' := ?_) #[true, true, true, true, true, true, true, true, true, true, true, true, true, true, true, true, false] rfl rfl (by kernel_rfl) (fun _ _ _ h => h) (Or.inl ⟨by rfl, ?_⟩) ?_ ?_
  rotate_left
  · intro w'
    go_simp
    with_reducible rfl
  rotate_left
  · simp only [Act.put, List.setIfInBounds_toArray, List.set_cons_zero, List.set_cons_succ, i64_w, i32_w]
    rfl
  refine last_ (i := 16) (N := none) #[true, true, true, true, true, true, true, true, true, true, true, true, true, true, true, true, true] rfl rfl (by kernel_rfl) (by decide) (fun K hK => ?_)
  refine skip_ (w1 := ?_) (by rfl) rfl ?_ ?_
  rotate_left
  · go_simp
    rfl
  refine hK.out _ _ ?_
  clear hK K
  refine done_ (by kernel_rfl) ?_
  go_wp2
  go_ret
  exact ⟨rfl, net_stored HBG.out HOK.out (by have := HLL.out; simp; omega) HB3.out HO3.out (by simp) (Kept.of_grown HG3.out (Kept.refl w ok : Kept w w.drew ok) (fun k hk => .inl (HRo.out k hk).1)) HBel3.out⟩
end Go.Proofs.Ytkaoojcafefjjaa.Net
