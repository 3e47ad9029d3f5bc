/-
  The tape's functions, each by its contract.
-/
import Derived.Test.YtbnhoacchibbnaaLwx
import Derived.Lib.Hide
import Derived.BigRegion
namespace Go.Proofs.Ytbnhoacchibbnaa.Tape
open Go.RowKit Go.Proofs.Ytbnhoacchibbnaa.Lw Go.Proofs.YtbnhoacchibbnaaW.PrintWords Go.Proofs.YtbnhoacchibbnaaW.PrintLast Go.Proofs.YtbnhoacchibbnaaW.PrintMore
attribute [local go_sem] max2_int min2_int
set_option linter.unusedVariables false
/-- A tape in memory: its struct at block g, its bytes l in a row of its own, of which s are synced. What is its own lies from B on, within ok. -/
def TapeAt (W : World) (B : Nat) (ok : Nat → Prop) (g : Nat) (l : List Int) (s : Nat) : Prop :=
  B ≤ g ∧ ok g ∧ s ≤ l.length ∧ l.length ≤ 1048576 ∧ ∃ v, W.heap[g]? = some (.cells #[v, .int .i64 (s : Int)] 95 (0, 0)) ∧ Kd.R (Kd.int .u8) 5 W B (fun k => ok k ∧ k ≠ g) v l

/-- The tape's struct laid open. -/
theorem TapeAt.open_ {W : World} {B : Nat} {ok : Nat → Prop} {g : Nat} {l : List Int} {s : Nat} (h : TapeAt W B ok g l s) :
    ∃ A c, W.heap[g]? = some (.cells #[.slice A l.length c, .int .i64 (s : Int)] 95 (0, 0)) ∧ Kd.R (Kd.int .u8) 5 W B (fun k => ok k ∧ k ≠ g) (.slice A l.length c) l ∧ B ≤ g ∧ ok g ∧ s ≤ l.length ∧ l.length ≤ 1048576 := by
  obtain ⟨hB, hok, hs, hl, v, hb, hr⟩ := h
  obtain ⟨A, c, rfl⟩ := Kd.R_slice hr
  exact ⟨A, c, hb, hr, hB, hok, hs, hl⟩

theorem TapeAt.mono {W : World} {B : Nat} {ok ok' : Nat → Prop} {g : Nat} {l : List Int} {s : Nat} (h : TapeAt W B ok g l s) (hk : ∀ k, ok k → ok' k) : TapeAt W B ok' g l s := by
  obtain ⟨hB, hok, hs, hl, v, hb, hr⟩ := h
  exact ⟨hB, hk _ hok, hs, hl, v, hb, Kd.R_mono hr (fun k h => ⟨hk k h.1, h.2⟩)⟩

theorem TapeAt.below {W W' : World} {B : Nat} {ok : Nat → Prop} {g : Nat} {l : List Int} {s : Nat} (h : TapeAt W B ok g l s) (hb : Below W.heap.size W W') : TapeAt W' B ok g l s := by
  obtain ⟨hB, hok, hs, hl, v, hg, hr⟩ := h
  exact ⟨hB, hok, hs, hl, v, blk_below hg hb, Kd.R_below hr hb⟩

/-- What is kept apart from the tape, and was there, bounds it. -/
theorem TapeAt.bound {W : World} {B : Nat} {ok : Nat → Prop} {g : Nat} {l : List Int} {s : Nat} (h : TapeAt W B ok g l s) : TapeAt W B (fun k => ok k ∧ B ≤ k ∧ k < W.heap.size) g l s := by
  obtain ⟨hB, hok, hs, hl, v, hg, hr⟩ := h
  exact ⟨hB, ⟨hok, hB, blk_lt hg⟩, hs, hl, v, hg, Kd.R_mono (Kd.R_bound hr) (fun k h => ⟨⟨h.1.1, h.2.1, h.2.2.1⟩, h.1.2⟩)⟩

theorem TapeAt.kept {W W' : World} {B : Nat} {ok S : Nat → Prop} {g : Nat} {l : List Int} {s : Nat} (h : TapeAt W B ok g l s) (hk : Kept W W' S) (hne : ∀ k, ok k → ¬ S k) : TapeAt W' B ok g l s := by
  obtain ⟨hB, hok, hs, hl, v, hg, hr⟩ := h
  exact ⟨hB, hok, hs, hl, v, blk_kept hg hk (hne g hok), Kd.R_kept hr hk (fun k h => hne k h.1)⟩

/-- What an operation on a tape leaves: the tape as it says, what is not the tape's own as it was. -/
def TapeTo (w w' : World) (B : Nat) (ok : Nat → Prop) (g : Nat) (l : List Int) (s : Nat) : Prop :=
  TapeAt w' B (fun k => ok k ∨ w.heap.size ≤ k) g l s ∧ Kept w w' ok ∧ Below B w w'

theorem set_kept {w : World} {g j : Nat} {u : Value} {ok : Nat → Prop} (hg : ok g) : Kept w (w.setCell ⟨g, j, none⟩ u) ok := (Kept.refl w ok).setCell (.inl hg) u

theorem tape_New (w : World) : Calls Try.prog 15 #[] w fun e w' => e = .returned (.pointer (some ⟨w.heap.size, 0, none⟩)) ∧ TapeAt w' w.heap.size (fun k => k = w.heap.size) w.heap.size [] 0 ∧ Below w.heap.size w w' := by
  go_enter Try.func15, Try.ntmps15
  go_wp2
  go_ret
  exact ⟨rfl, ⟨Nat.le_refl _, rfl, by simp, by simp, .slice none 0 0, heap_alloc_new w _, Kd.R_nil _ _ _ _ _⟩, (Below.refl _ _).alloc (Nat.le_refl _) _⟩

theorem tape_Sync0 (w : World) (B : Nat) (ok : Nat → Prop) (g : Nat) (l : List Int) (s : Int) (A : Option Addr) (c : Nat) (hb : w.heap[g]? = some (.cells #[.slice A l.length c, .int .i64 s] 95 (0, 0)))
    (hr : Kd.R (Kd.int .u8) 5 w B (fun k => ok k ∧ k ≠ g) (.slice A l.length c) l) (hB : B ≤ g) (hok : ok g) (hl : l.length ≤ 1048576) :
    Calls Try.prog 50 #[.pointer (some ⟨g, 0, none⟩)] w fun e w' => e = .returned (.tuple #[]) ∧ TapeTo w w' B ok g l l.length := by
  have c0 : w.cell? ⟨g, 0, none⟩ = some (.slice A l.length c) := (blk_cell hb 0).trans rfl
  have c1 : w.cell? ⟨g, 1, none⟩ = some (.int .i64 s) := (blk_cell hb 1).trans rfl
  have f0 := blk_frozen hb 0
  have f1 := blk_frozen hb 1
  have HB := Lib.hid hb
  have HR := Lib.hid hr
  clear hb hr
  go_enter Try.func50, Try.ntmps50
  go_wp2
  go_end0
  refine ⟨rfl, ⟨hB, .inl hok, Nat.le_refl _, hl, .slice A l.length c, ?_, ?_⟩, set_kept hok, (Below.refl _ _).setCell hB _⟩
  · have := blk_set HB.out 1 (.int .i64 (l.length : Int))
    simpa using this
  · exact Kd.R_mono (Kd.R_far (p := ⟨g, 1, none⟩) HR.out (fun k hk => hk.2) _) (fun k hk => ⟨.inl hk.1, hk.2⟩)

theorem tape_Sync (w : World) (B : Nat) (ok : Nat → Prop) (g : Nat) (l : List Int) (s : Nat) (h : TapeAt w B ok g l s) :
    Calls Try.prog 50 #[.pointer (some ⟨g, 0, none⟩)] w fun e w' => e = .returned (.tuple #[]) ∧ TapeTo w w' B ok g l l.length := by
  obtain ⟨A, c, hb, hr, hB, hok, hs, hl⟩ := h.open_
  exact tape_Sync0 w B ok g l s A c hb hr hB hok hl

theorem tape_Synced (w : World) (B : Nat) (ok : Nat → Prop) (g : Nat) (l : List Int) (s : Nat) (h : TapeAt w B ok g l s) :
    Calls Try.prog 27 #[.pointer (some ⟨g, 0, none⟩)] w fun e w' => e = .returned (.int .i64 (s : Int)) ∧ w = w' := by
  obtain ⟨A, c, hb, hr, hB, hok, hs, hl⟩ := h.open_
  have c1 : w.cell? ⟨g, 1, none⟩ = some (.int .i64 (s : Int)) := (blk_cell hb 1).trans rfl
  clear hb hr h
  go_enter Try.func27, Try.ntmps27
  go_wp2
  go_ret
  exact ⟨rfl, rfl⟩

theorem tape_Bytes (w : World) (B : Nat) (ok : Nat → Prop) (g : Nat) (l : List Int) (s : Nat) (h : TapeAt w B ok g l s) :
    Calls Try.prog 18 #[.pointer (some ⟨g, 0, none⟩)] w fun e w' => ∃ v : Value, e = .returned v ∧ Kd.R (Kd.int .u8) 5 w' w.heap.size (fun _ => True) v l ∧ Below w.heap.size w w' := by
  obtain ⟨A, c, hb, hr, hB, hok, hs, hl⟩ := h.open_
  have c0 : w.cell? ⟨g, 0, none⟩ = some (.slice A l.length c) := (blk_cell hb 0).trans rfl
  obtain ⟨A', c', he, hcc, hC⟩ := Kd.R_reads hr
  obtain ⟨rfl, rfl⟩ : A = A' ∧ c = c' := by simpa using he
  have HC := Lib.hid hC
  clear hb hr h he hC
  have hf : slices_Clone_byte_byte.f l = some l := by unfold slices_Clone_byte_byte.f; rw [if_pos (by omega)]
  have HF := Lib.hid hf
  clear hf
  go_enter Try.func18, Try.ntmps18
  go_wp2_with (go_at_call 48; refine (slices_Clone_byte_byte.calls A c l l _ HC.out hcc HF.out).mono ?_; rintro e w' ⟨v, rfl, hv, hbw⟩)
  obtain ⟨A2, c2, rfl⟩ := Kd.R_slice hv
  have HV := Lib.hid hv
  have HW := Lib.hid hbw
  clear hv hbw
  go_wp2
  go_ret
  exact ⟨_, rfl, HV.out, HW.out⟩

theorem tape_Append_full (w : World) (B : Nat) (ok : Nat → Prop) (g : Nat) (l : List Int) (s : Nat) (h : TapeAt w B ok g l s) (A0 : Option Addr) (n0 c0 : Nat) (hbig : 1048576 < l.length + n0) (hn : n0 ≤ 9223372036854775807) :
    Calls Try.prog 16 #[.pointer (some ⟨g, 0, none⟩), .slice A0 n0 c0] w fun e w' => e = .returned (errW (some 5)) ∧ w = w' := by
  obtain ⟨A, c, hb, hr, hB, hok, hs, hl⟩ := h.open_
  have k0 : w.cell? ⟨g, 0, none⟩ = some (.slice A l.length c) := (blk_cell hb 0).trans rfl
  clear hb hr h
  have t0 : (1048576 : Int) - (l.length : Int) < (n0 : Int) := by omega
  go_enter Try.func16, Try.ntmps16
  go_wp2
  go_ret
  exact ⟨rfl, rfl⟩

theorem tape_Append (w : World) (B : Nat) (ok : Nat → Prop) (g : Nat) (l : List Int) (s : Nat) (h : TapeAt w B ok g l s) (hBw : B ≤ w.heap.size) (A0 : Option Addr) (c0 : Nat) (m : List Int) (hm : Kd.C (Kd.int .u8) w A0 m.length m) (hfit : l.length + m.length ≤ 1048576) :
    Calls Try.prog 16 #[.pointer (some ⟨g, 0, none⟩), .slice A0 m.length c0] w fun e w' => e = .returned (errW none) ∧ TapeTo w w' B ok g (l ++ m) s := by
  obtain ⟨A, c, hb, hr, hB, hok, hs, hl⟩ := h.open_
  have k0 : w.cell? ⟨g, 0, none⟩ = some (.slice A l.length c) := (blk_cell hb 0).trans rfl
  have HB := Lib.hid hb
  have HR := Lib.hid hr
  have HM := Lib.hid hm
  have hgs : g < w.heap.size := blk_lt hb
  clear hb hr h hm
  have t0 : ¬ ((1048576 : Int) - (l.length : Int) < (m.length : Int)) := by omega
  go_enter Try.func16, Try.ntmps16
  go_wp2_with (at_builtin; refine Kd.R_append_row (w0 := w) (Value.int .u8) 0 (h1 := fun _ => rfl) B rfl (.tmp 19) (.tmp 20) 22 5 (.int .u8 0) 1 rfl Try.underlying22 (by kernel_rfl) rfl (by decide) (.slice A l.length c) l m A0 m.length c0 (fun k => (ok k ∨ w.heap.size ≤ k) ∧ k ≠ g) rfl rfl ?fresh ?own ?src (Below.refl _ _) hBw ?len ?go)
  case fresh => exact fun k hk => ⟨.inr hk, by omega⟩
  case own => exact Kd.R_mono HR.out (fun k hk => ⟨.inl hk.1, hk.2⟩)
  case src => exact HM.out
  case len => omega
  case go =>
    intro v1 w1 hown hbel hgr hat
    obtain ⟨A1, c1, rfl⟩ := Kd.R_slice hown
    have hb1 := blk_grown HB.out hgr (by
      intro e
      have := HR.out.1 g e.symm
      exact this.2 rfl)
    have k1 : w1.cell? ⟨g, 0, none⟩ = some (.slice A l.length c) := (blk_cell hb1 0).trans rfl
    have f1 := blk_frozen hb1 0
    have HO := Lib.hid hown
    have HG := Lib.hid hgr
    have HB1 := Lib.hid hb1
    have HBel := Lib.hid hbel
    clear hown hgr hb1 hat hbel
    go_wp2
    go_ret
    refine ⟨rfl, ⟨hB, .inl hok, by simp; omega, by simp; omega, .slice A1 (l ++ m).length c1, ?_, ?_⟩, ?_, HBel.out.setCell hB _⟩
    · have := blk_set HB1.out 0 (.slice A1 (l ++ m).length c1)
      simpa using this
    · exact Kd.R_far (p := ⟨g, 0, none⟩) HO.out (fun k hk => hk.2) _
    · refine Kept.setCell (Kept.of_grown HG.out (Kept.refl w ok) (fun k hk => ?_)) (.inl hok) _
      exact .inl (HR.out.1 k hk).1

theorem tape_Cut_no (w : World) (B : Nat) (ok : Nat → Prop) (g : Nat) (l : List Int) (s : Nat) (h : TapeAt w B ok g l s) (n : Int) (hn : n < 0 ∨ (l.length : Int) < n) :
    Calls Try.prog 47 #[.pointer (some ⟨g, 0, none⟩), .int .i64 n] w fun e w' => e = .returned (errW (some 1)) ∧ w = w' := by
  obtain ⟨A, c, hb, hr, hB, hok, hs, hl⟩ := h.open_
  have k0 : w.cell? ⟨g, 0, none⟩ = some (.slice A l.length c) := (blk_cell hb 0).trans rfl
  clear hb hr h
  by_cases h0 : n < 0
  · clear hn
    go_enter Try.func47, Try.ntmps47
    go_wp2
    go_ret
    exact ⟨rfl, rfl⟩
  · have h1 : (l.length : Int) < n := by omega
    clear hn
    go_enter Try.func47, Try.ntmps47
    go_wp2
    go_ret
    exact ⟨rfl, rfl⟩

theorem setCell_size (w : World) (p : Addr) (u : Value) : (w.setCell p u).heap.size = w.heap.size := by simp

/-- The tape's bytes are cut at k, and what is left is synced: behind one store into its struct. -/
theorem tape_cut_sync {w : World} {B : Nat} {ok : Nat → Prop} {g : Nat} {l : List Int} {s : Int} {A : Option Addr} {c k : Nat} (hb : w.heap[g]? = some (.cells #[.slice A l.length c, .int .i64 s] 95 (0, 0)))
    (hr : Kd.R (Kd.int .u8) 5 w B (fun k => ok k ∧ k ≠ g) (.slice A l.length c) l) (hB : B ≤ g) (hok : ok g) (hl : l.length ≤ 1048576) (hk : k ≤ l.length) :
    Calls Try.prog 50 #[.pointer (some ⟨g, 0, none⟩)] (w.setCell ⟨g, 0, none⟩ (.slice A k c)) fun e w' => e = .returned (.tuple #[]) ∧ TapeTo w w' B ok g (l.take k) k := by
  have hlen : (l.take k).length = k := by rw [List.length_take]; omega
  have hb' : (w.setCell ⟨g, 0, none⟩ (.slice A k c)).heap[g]? = some (.cells #[.slice A (l.take k).length c, .int .i64 s] 95 (0, 0)) := by
    have := blk_set hb 0 (.slice A k c)
    rw [hlen]; simpa using this
  have hr' : Kd.R (Kd.int .u8) 5 (w.setCell ⟨g, 0, none⟩ (.slice A k c)) B (fun k => ok k ∧ k ≠ g) (.slice A (l.take k).length c) (l.take k) := by
    rw [hlen]; exact Kd.R_far (p := ⟨g, 0, none⟩) (Kd.R_take hr hk) (fun k hk => hk.2) _
  refine (tape_Sync0 _ B ok g (l.take k) s A c hb' hr' hB hok (by omega)).mono ?_
  rintro e w' ⟨rfl, h1, h2, h3⟩
  rw [setCell_size] at h1
  rw [hlen] at h1
  exact ⟨rfl, h1, (set_kept hok).then_ h2 (fun k hk => .inl hk), ((Below.refl B w).setCell hB _).trans h3⟩

theorem tape_Cut (w : World) (B : Nat) (ok : Nat → Prop) (g : Nat) (l : List Int) (s : Nat) (h : TapeAt w B ok g l s) (n : Nat) (hn : n ≤ l.length) :
    Calls Try.prog 47 #[.pointer (some ⟨g, 0, none⟩), .int .i64 (n : Int)] w fun e w' => e = .returned (errW none) ∧ TapeTo w w' B ok g (l.take n) n := by
  obtain ⟨A, c, hb, hr, hB, hok, hs, hl⟩ := h.open_
  have k0 : w.cell? ⟨g, 0, none⟩ = some (.slice A l.length c) := (blk_cell hb 0).trans rfl
  have f0 := blk_frozen hb 0
  obtain ⟨A', c', he, hcc, _⟩ := Kd.R_reads hr
  obtain ⟨rfl, rfl⟩ : A = A' ∧ c = c' := by simpa using he
  have hnc : n ≤ c := by omega
  have h0 : ¬ ((n : Int) < 0) := by omega
  have h1 : ¬ ((l.length : Int) < (n : Int)) := by omega
  have HB := Lib.hid hb
  have HR := Lib.hid hr
  clear hb hr h he
  go_enter Try.func47, Try.ntmps47
  go_wp2_with fail
  refine (tape_cut_sync HB.out HR.out hB hok hl hn).mono ?_
  rintro e w1 ⟨rfl, ht⟩
  have HT := Lib.hid ht
  clear ht
  go_wp2
  go_ret
  exact ⟨rfl, HT.out⟩

theorem tape_cut_sync_drew {w : World} {B : Nat} {ok : Nat → Prop} {g : Nat} {l : List Int} {s : Int} {A : Option Addr} {c k : Nat} (hb : w.heap[g]? = some (.cells #[.slice A l.length c, .int .i64 s] 95 (0, 0)))
    (hr : Kd.R (Kd.int .u8) 5 w B (fun k => ok k ∧ k ≠ g) (.slice A l.length c) l) (hB : B ≤ g) (hok : ok g) (hl : l.length ≤ 1048576) (hk : k ≤ l.length) :
    Calls Try.prog 50 #[.pointer (some ⟨g, 0, none⟩)] (w.setCell ⟨g, 0, none⟩ (.slice A k c)).drew fun e w' => e = .returned (.tuple #[]) ∧ TapeTo w w' B ok g (l.take k) k := by
  have h := tape_cut_sync (w := w.drew) (k := k) (blk_drew hb) (Kd.R_drew hr) hB hok hl hk
  rw [World.setCell_drew] at h
  refine h.mono ?_
  rintro e w' ⟨rfl, h1, h2, h3⟩
  exact ⟨rfl, h1, h2, (Below.refl B w).drew.trans h3⟩

/-- How many bytes a crash leaves. -/
def crashLeft (len s : Nat) (n : Int) : Nat := (min ((s : Int) + max n 0) (len : Int)).toNat

theorem tape_Crash (w : World) (B : Nat) (ok : Nat → Prop) (g : Nat) (l : List Int) (s : Nat) (h : TapeAt w B ok g l s) (n : Int) (hn : n ≤ 9223372036854775807) :
    Calls Try.prog 51 #[.pointer (some ⟨g, 0, none⟩), .int .i64 n] w fun e w' => e = .returned (.tuple #[]) ∧ TapeTo w w' B ok g (l.take (crashLeft l.length s n)) (crashLeft l.length s n) := by
  obtain ⟨A, c, hb, hr, hB, hok, hs, hl⟩ := h.open_
  have k0 : w.cell? ⟨g, 0, none⟩ = some (.slice A l.length c) := (blk_cell hb 0).trans rfl
  have k1 : w.cell? ⟨g, 1, none⟩ = some (.int .i64 (s : Int)) := (blk_cell hb 1).trans rfl
  have f0 := blk_frozen hb 0
  obtain ⟨A', c', he, hcc, _⟩ := Kd.R_reads hr
  obtain ⟨rfl, rfl⟩ : A = A' ∧ c = c' := by simpa using he
  have HB := Lib.hid hb
  have HR := Lib.hid hr
  clear hb hr h he
  go_enter Try.func51, Try.ntmps51
  go_wp2
  go_region
  have e : ((s : Int) + if (l.length : Int) - (s : Int) < (if n < 0 then 0 else n) then (l.length : Int) - (s : Int) else (if n < 0 then 0 else n)).toNat = crashLeft l.length s n := by
    unfold crashLeft
    split <;> split <;> omega
  rw [e]
  have hk : crashLeft l.length s n ≤ l.length := by unfold crashLeft; omega
  have hcl : crashLeft l.length s n ≤ c := by omega
  clear e
  generalize hkk : crashLeft l.length s n = k at hk hcl ⊢
  have HK := Lib.hid hkk
  clear hkk
  generalize ((s : Int) + if (l.length : Int) - (s : Int) < (if n < 0 then 0 else n) then (l.length : Int) - (s : Int) else (if n < 0 then 0 else n)) = q1
  generalize (if (l.length : Int) - (s : Int) < (if n < 0 then 0 else n) then (l.length : Int) - (s : Int) else (if n < 0 then 0 else n)) = q3
  generalize (if n < 0 then 0 else n) = q2
  go_wp2_with fail
  refine (tape_cut_sync_drew HB.out HR.out hB hok hl hk).mono ?_
  rintro e w1 ⟨rfl, ht⟩
  have HT := Lib.hid ht
  clear ht
  go_wp2
  go_end0
  exact ⟨rfl, by rw [HK.out]; exact HT.out⟩

/-- A literal's row, as it is read. -/
theorem lit_C (W : World) (cs : List Int) (h : cs.length ≤ 9223372036854775807) : Kd.C (Kd.int .u8) (W.alloc (.cells (cs.map (Value.int .u8)).toArray 5)) (some ⟨W.heap.size, 0, none⟩) cs.length cs := by
  refine ⟨rfl, h, fun _ => ⟨_, rfl, fun j p hj => ⟨[.int .u8 p], rfl, rfl, fun i u hi => ?_⟩⟩⟩
  have hi0 : i = 0 := by
    have := (List.getElem?_eq_some_iff.1 hi).1
    simpa using this
  subst hi0
  have hu : u = .int .u8 p := by simpa using hi.symm
  subst hu
  have := blk_cell (blk_new W (.cells (cs.map (Value.int .u8)).toArray 5)) j
  show (W.alloc _).cell? ((⟨W.heap.size, 0, none⟩ : Addr).add (j * 1 + 0)) = _
  rw [Addr.add_lit, Nat.mul_one, Nat.add_zero, Nat.zero_add, this]
  simp [hj]

end Go.Proofs.Ytbnhoacchibbnaa.Tape
