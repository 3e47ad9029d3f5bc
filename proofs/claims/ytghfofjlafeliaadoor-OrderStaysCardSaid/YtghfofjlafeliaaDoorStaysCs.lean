-- Cut by a program of this session (wip/shake.py) out of a text of this seat: what this claim doesn't reach is struck out. Lean checks it.
import Derived.Test.YtghfofjlafeliaaDoorPureOBCs
import Derived.Lib.Hide
import Derived.BigRegion
namespace Go.Proofs.YtghfofjlafeliaaDoor.PureO
open Go.RowKit Go.Proofs.YtghfofjlafeliaaDoor.PureRoute Go.Proofs.YtghfofjlafeliaaDoor.Order Go.Proofs.YtghfofjlafeliaaDoor.OrderNK Go.Proofs.YtghfofjlafeliaaDoor.Route Go.Proofs.YtghfofjlafeliaaDoor.Or Go.Proofs.YtghfofjlafeliaaDoorW.PrintWords Go.Proofs.YtghfofjlafeliaaDoorW.PrintLast Go.Proofs.YtghfofjlafeliaaDoorW.PrintMore
attribute [local go_sem] eqlErr neqErr eqlErrNil neqErrNil
set_option linter.unusedSimpArgs false
set_option linter.unusedVariables false
theorem txt_size {l : List Int} (hb : bytesOk l) (at_ : Nat) (bad : Bool) : (txtOf l at_ bad).1.size ≤ 4096 := by
  unfold txtOf
  by_cases h : bad = true
  · rw [if_pos h]
    show (⟨#[]⟩ : ByteArray).size ≤ 4096
    decide
  · rw [if_neg h]
    generalize hr : gn 4096 0 0 (l.drop at_) = r
    obtain ⟨v, c, er⟩ := r
    cases er with
    | some e =>
      show (⟨#[]⟩ : ByteArray).size ≤ 4096
      decide
    | none =>
      obtain ⟨_, m, g1, g2, g3, _⟩ := gn_back 4096 (l.drop at_) 0 0 v c (fun x hx => hb x (List.mem_of_mem_drop hx)) hr
      simp only
      split
      · show (⟨#[]⟩ : ByteArray).size ≤ 4096
        decide
      · rw [strOfNums_size, List.length_drop, List.length_take]
        omega
theorem readKeys_len (l : List Int) : ∀ (m at_ : Nat) (bad : Bool) (ks : List ByteArray), (readKeys l m at_ bad ks).1.length ≤ ks.length + m
  | 0, _, _, ks => by simp [readKeys]
  | m + 1, at_, bad, ks => by
    unfold readKeys
    split
    · simp
    · have := readKeys_len l m (txtOf l at_ bad).2.1 (txtOf l at_ bad).2.2 (ks ++ [(txtOf l at_ bad).1])
      rw [List.length_append, List.length_singleton] at this
      omega
theorem num_most {l : List Int} (hb : bytesOk l) (at_ : Nat) (bad : Bool) : (numOf l 65536 at_ bad).1.toNat ≤ 65536 := by
  unfold numOf
  by_cases h : bad = true
  · rw [if_pos h]
    show (0 : Int).toNat ≤ 65536
    decide
  · rw [if_neg h]
    unfold gat
    generalize hr : gn 65536 0 0 (l.drop at_) = r
    obtain ⟨v, c, er⟩ := r
    cases er with
    | some e =>
      show (0 : Int).toNat ≤ 65536
      decide
    | none =>
      obtain ⟨_, m, g1, g2, g3, _⟩ := gn_back 65536 (l.drop at_) 0 0 v c (fun x hx => hb x (List.mem_of_mem_drop hx)) hr
      simp only [Option.isNone_none, if_true]
      omega
theorem get_total {l : List Int} (hb : bytesOk l) (hl : l.length ≤ 1000000) : ∃ r1 r2 r3 r4 r5 r6 r7 r8, order_Get.f 1000 l = some (r1, r2, r3, r4, r5, r6, r7, r8) ∧ r6.length ≤ 65536 := by
  have hall : (l.all fun x => decide (0 ≤ x) && decide (x ≤ 255)) = true := by
    rw [List.all_eq_true]
    intro x hx
    have := hb x hx
    simp [this.1, this.2]
  have hk : (keysOfL l).1.length ≤ 65536 := by
    unfold keysOfL
    have h1 := readKeys_len l (headOf l).ct.1.toNat (headOf l).ct.2.1 (headOf l).ct.2.2 []
    have h2 : (headOf l).ct.1.toNat ≤ 65536 := num_most hb _ _
    simp only [List.length_nil] at h1
    omega
  have hn : (headOf l).nm.1.size ≤ 5000 := by have : (headOf l).nm.1.size ≤ 4096 := txt_size hb _ _; omega
  have hp : (headOf l).pt.1.size ≤ 5000 := by have : (headOf l).pt.1.size ≤ 4096 := txt_size hb _ _; omega
  unfold order_Get.f
  obtain ⟨ck, hck⟩ : ∃ ck, order_Check.f 1000 (headOf l).cl.1 (headOf l).tm.1 (headOf l).kd.1 (headOf l).nm.1 (headOf l).pt.1 (keysOfL l).1 (headOf l).n.1 = some ck := ⟨_, check_f 1000 _ _ _ _ _ _ _ hn hp (by omega) (by omega)⟩
  rw [if_pos ⟨hall, hl⟩, hck, Option.bind_some]
  split
  · exact ⟨_, _, _, _, _, _, _, _, rfl, hk⟩
  · exact ⟨_, _, _, _, _, _, _, _, rfl, by simp⟩
theorem nil_R (W : World) : Kd.R (Kd.int .u8) 5 (W.alloc (.cells #[] 5)) W.heap.size (fun k => k = W.heap.size) (.slice (some ⟨W.heap.size, 0, none⟩) 0 0) [] := by
  refine ⟨fun k hk => ?_, [], ?_, Reps.none _ _⟩
  · have : W.heap.size = k := by simpa [Value.ownBlock] using hk
    exact this.symm
  · exact World.ownsRow_lit (base := W.heap.size) (e := 5) (size := 1) W #[] 0 (Nat.le_refl _) (by simp [maxLen]) (by simp)
theorem nil_RS (W : World) : Kd.R Kd.string 9 (W.alloc (.cells #[] 9)) W.heap.size (fun k => k = W.heap.size) (.slice (some ⟨W.heap.size, 0, none⟩) 0 0) [] := by
  refine ⟨fun k hk => ?_, [], ?_, Reps.none _ _⟩
  · have : W.heap.size = k := by simpa [Value.ownBlock] using hk
    exact this.symm
  · exact World.ownsRow_lit (base := W.heap.size) (e := 9) (size := 1) W #[] 0 (Nat.le_refl _) (by simp [maxLen]) (by simp)
theorem nil_RS' (W : World) (n : Nat) (hn : W.heap.size = n) : Kd.R Kd.string 9 (W.alloc (.cells #[] 9)) n (fun k => k = n) (.slice (some ⟨n, 0, none⟩) 0 0) [] := by
  subst hn
  exact nil_RS W
theorem set_kept {w : World} {g j : Nat} {u : Value} {ok : Nat → Prop} (hg : ok g) : Kept w (w.setCell ⟨g, j, none⟩ u) ok := (Kept.refl w ok).setCell (.inl hg) u
def ST (w W : World) (g0 g1 : Nat) (c t d : Int) (nm pt : ByteArray) (A5 : Option Addr) (c5 : Nat) (ks : List ByteArray) (n : Int) (Ao : Option Addr) (co : Nat) (ok : Nat → Prop) : Prop :=
  W.heap[g0]? = some (.cells #[.int .i64 c, .int .i64 t, .int .i64 d, .string nm, .string pt, .slice A5 ks.length c5, .int .i64 n] 26) ∧ W.heap[g1]? = some (.cells #[.int .i64 c, .int .i64 t, .int .i64 d, .string nm, .string pt, .slice Ao ks.length co, .int .i64 n] 26) ∧
    Kd.R Kd.string 9 W w.heap.size ok (.slice Ao ks.length co) ks ∧ Below w.heap.size w W ∧ ok g0 ∧ ok g1
theorem ST.kept {w W W' : World} {g0 g1 : Nat} {c t d : Int} {nm pt : ByteArray} {A5 : Option Addr} {c5 : Nat} {ks : List ByteArray} {n : Int} {Ao : Option Addr} {co : Nat} {ok S : Nat → Prop} (h : ST w W g0 g1 c t d nm pt A5 c5 ks n Ao co ok) (hk : Kept W W' S) (hb : Below w.heap.size w W') (hS : ∀ k, ok k → ¬ S k) : ST w W' g0 g1 c t d nm pt A5 c5 ks n Ao co ok := by
  obtain ⟨h1, h2, h3, h4, h5, h6⟩ := h
  exact ⟨blk_kept h1 hk (hS g0 h5), blk_kept h2 hk (hS g1 h6), Kd.R_kept h3 hk hS, hb, h5, h6⟩
theorem ST.below {w W W' : World} {g0 g1 : Nat} {c t d : Int} {nm pt : ByteArray} {A5 : Option Addr} {c5 : Nat} {ks : List ByteArray} {n : Int} {Ao : Option Addr} {co : Nat} {ok : Nat → Prop} (h : ST w W g0 g1 c t d nm pt A5 c5 ks n Ao co ok) (hb : Below W.heap.size W W') : ST w W' g0 g1 c t d nm pt A5 c5 ks n Ao co ok := by
  obtain ⟨h1, h2, h3, h4, h5, h6⟩ := h
  exact ⟨blk_below h1 hb, blk_below h2 hb, Kd.R_below h3 hb, h4.trans (hb.mono h4.size), h5, h6⟩
set_option maxHeartbeats 16000000 in
set_option maxRecDepth 100000 in
theorem stays_calls (c t d : Int) (nm pt : ByteArray) (A5 : Option Addr) (c5 : Nat) (ks : List ByteArray) (n : Int) (A1 : Option Addr) (c1 : Nat) (b : List Int) (w : World) (hC : Kd.C Kd.string w A5 ks.length ks) (hc : ks.length ≤ c5) (hB : Kd.C (Kd.int .u8) w A1 b.length b) (hcb : b.length ≤ c1) (hby : Order.bytesOk b) :
    Calls Tryd.prog 6 #[.agg #[.int .i64 c, .int .i64 t, .int .i64 d, .string nm, .string pt, .slice A5 ks.length c5, .int .i64 n], .slice A1 b.length c1] w fun e w' => e = .returned (.bool true) ∧ Below w.heap.size w w' := by
  have HC := Lib.hid hC
  have HB := Lib.hid hB
  have HUP := Lib.hid (up_f 1000 (Nat.le_refl _))
  have HSH := Lib.hid (short_f 200 d n nm pt ks (Nat.le_refl _))
  have HBY := Lib.hid hby
  have HCC := Lib.hid hc
  have HG0 := Lib.hid (heap_alloc_new w (.cells #[.int .i64 c, .int .i64 t, .int .i64 d, .string nm, .string pt, .slice A5 ks.length c5, .int .i64 n] 26))
  have HB0 := Lib.hid ((Below.refl w.heap.size w).alloc (Nat.le_refl _) (.cells #[.int .i64 c, .int .i64 t, .int .i64 d, .string nm, .string pt, .slice A5 ks.length c5, .int .i64 n] 26))
  clear hC hB hby
  go_enter Tryd.func6, Tryd.ntmps6
  go_wp2_with fail
  refine (becketlaw08_up.calls 1000 true _ HUP.out).mono ?_
  rintro e w1 ⟨rfl, hb⟩
  have HG1 := Lib.hid (blk_below HG0.out hb)
  have HB1 := Lib.hid (HB0.out.trans (hb.mono HB0.out.size))
  clear hb HG0 HB0
  have k2 := ((blk_cell HG1.out 2).trans rfl : w1.cell? ⟨w.heap.size, 2, none⟩ = some (.int .i64 d))
  have k3 := ((blk_cell HG1.out 3).trans rfl : w1.cell? ⟨w.heap.size, 3, none⟩ = some (.string nm))
  have k4 := ((blk_cell HG1.out 4).trans rfl : w1.cell? ⟨w.heap.size, 4, none⟩ = some (.string pt))
  have k5 := ((blk_cell HG1.out 5).trans rfl : w1.cell? ⟨w.heap.size, 5, none⟩ = some (.slice A5 ks.length c5))
  have k6 := ((blk_cell HG1.out 6).trans rfl : w1.cell? ⟨w.heap.size, 6, none⟩ = some (.int .i64 n))
  go_wp2_with fail
  clear k2 k3 k4 k5 k6
  refine (becketref08_Short.calls 200 d nm pt A5 c5 ks n _ w1 (Kd.C_below HC.out HB1.out) HCC.out HSH.out).mono ?_
  rintro e w2 ⟨rfl, hb⟩
  have HG2 := Lib.hid (blk_below HG1.out hb)
  have HB2 := Lib.hid (HB1.out.trans (hb.mono HB1.out.size))
  clear hb HG1 HB1
  by_cases hs : shortB nm pt ks = true
  rotate_left
  · have hs' : shortB nm pt ks = false := by simpa using hs
    rw [hs']
    clear hs hs'
    go_wp2
    go_ret
    exact ⟨rfl, HB2.out⟩
  rw [hs]
  have HSB := Lib.hid (shortB_iff hs)
  clear hs
  by_cases g0 : (5000 : Int) < (b.length : Int)
  · have hd : decide ((5000 : Int) < (b.length : Int)) = true := decide_eq_true g0
    clear g0
    go_wp2
    go_ret
    exact ⟨rfl, HB2.out⟩
  have hd : decide ((5000 : Int) < (b.length : Int)) = false := decide_eq_false g0
  have HLB := Lib.hid g0
  clear g0
  have k0 := ((blk_cell HG2.out 0).trans rfl : w2.cell? ⟨w.heap.size, 0, none⟩ = some (.int .i64 c))
  have k1 := ((blk_cell HG2.out 1).trans rfl : w2.cell? ⟨w.heap.size, 1, none⟩ = some (.int .i64 t))
  have k2 := ((blk_cell HG2.out 2).trans rfl : w2.cell? ⟨w.heap.size, 2, none⟩ = some (.int .i64 d))
  have k3 := ((blk_cell HG2.out 3).trans rfl : w2.cell? ⟨w.heap.size, 3, none⟩ = some (.string nm))
  have k4 := ((blk_cell HG2.out 4).trans rfl : w2.cell? ⟨w.heap.size, 4, none⟩ = some (.string pt))
  have k5 := ((blk_cell HG2.out 5).trans rfl : w2.cell? ⟨w.heap.size, 5, none⟩ = some (.slice A5 ks.length c5))
  have k6 := ((blk_cell HG2.out 6).trans rfl : w2.cell? ⟨w.heap.size, 6, none⟩ = some (.int .i64 n))
  have hlt : w.heap.size < w2.heap.size := blk_lt HG2.out
  have hbO : Below w2.heap.size w2 ((w2.alloc (.cells #[.int .i64 c, .int .i64 t, .int .i64 d, .string nm, .string pt, .slice A5 ks.length c5, .int .i64 n] 26)).alloc (.cells #[] 9)) := ((Below.refl _ _).alloc (Nat.le_refl _) _).alloc (by simp) _
  have kk5 : ((w2.alloc (.cells #[.int .i64 c, .int .i64 t, .int .i64 d, .string nm, .string pt, .slice A5 ks.length c5, .int .i64 n] 26)).alloc (.cells #[] 9)).cell? ⟨w.heap.size, 5, none⟩ = some (.slice A5 ks.length c5) := (hbO.cell (p := ⟨w.heap.size, 5, none⟩) hlt).trans k5
  have HBO := Lib.hid hbO
  have HLT := Lib.hid hlt
  clear hbO hlt
  go_wp2_with (at_builtin; refine Kd.R_append_row (w0 := w2.alloc (.cells #[.int .i64 c, .int .i64 t, .int .i64 d, .string nm, .string pt, .slice A5 ks.length c5, .int .i64 n] 26)) Value.string (⟨#[]⟩ : ByteArray) (h1 := fun _ => rfl) (w2.heap.size + 1) rfl (.tmp 33) (.tmp 36) 22 9 (.string ⟨#[]⟩) 16 rfl Tryd.underlying22 (by kernel_rfl) rfl (by decide) (.slice (some ⟨w2.heap.size + 1, 0, none⟩) 0 0) [] ks A5 ks.length c5 (fun k => w2.heap.size + 1 ≤ k) rfl rfl ?fresh ?own ?src ?bel (by simp) ?len ?go)
  case fresh => intro k hk; first | omega | (simp at hk; omega)
  case own => exact Kd.R_mono (nil_RS' (w2.alloc (.cells #[.int .i64 c, .int .i64 t, .int .i64 d, .string nm, .string pt, .slice A5 ks.length c5, .int .i64 n] 26)) (w2.heap.size + 1) (by simp)) (fun k hk => by omega)
  case src => exact Kd.C_below (Kd.C_below HC.out HB2.out) HBO.out
  case bel => exact (Below.refl _ _).alloc (by simp) _
  case len => have := HSB.out.2.2.1; first | omega | (simp; omega)
  case go =>
  intro v1 w3 hown hbel hgr hat
  replace hown : Kd.R Kd.string 9 w3 (w2.heap.size + 1) (fun k => w2.heap.size + 1 ≤ k) v1 ks := hown
  obtain ⟨Ao, co, rfl⟩ := Kd.R_slice hown
  have hg1 : w3.heap[w2.heap.size]? = some (.cells #[.int .i64 c, .int .i64 t, .int .i64 d, .string nm, .string pt, .slice A5 ks.length c5, .int .i64 n] 26) := (hbel.block w2.heap.size (by omega)).trans (heap_alloc_new w2 _)
  have f5 := blk_frozen hg1 5
  have hg1s : (w3.setCell ⟨w2.heap.size, 5, none⟩ (.slice Ao ks.length co)).heap[w2.heap.size]? = some (.cells #[.int .i64 c, .int .i64 t, .int .i64 d, .string nm, .string pt, .slice Ao ks.length co, .int .i64 n] 26) := by
    have := blk_set hg1 5 (.slice Ao ks.length co)
    simpa using this
  have hb3 : Below w2.heap.size w2 w3 := ((Below.refl w2.heap.size w2).alloc (Nat.le_refl _) _).trans (hbel.mono (by omega))
  have hST : ST w (w3.setCell ⟨w2.heap.size, 5, none⟩ (.slice Ao ks.length co)) w.heap.size w2.heap.size c t d nm pt A5 c5 ks n Ao co (fun k => k < w3.heap.size) :=
    ⟨(Below.heap_setCell _ _ _ _ (by have := HLT.out; show w.heap.size ≠ w2.heap.size; omega)).trans (blk_below HG2.out hb3), hg1s, Kd.R_mono (Kd.R_far (p := ⟨w2.heap.size, 5, none⟩) (Kd.R_lower (Kd.R_bound hown) (by have := HLT.out; omega)) (fun k hk => by have h1 : w2.heap.size + 1 ≤ k := hk.1; show k ≠ w2.heap.size; omega) _) (fun k hk => hk.2.2.1), ((HB2.out.trans (hb3.mono HB2.out.size)).setCell (p := ⟨w2.heap.size, 5, none⟩) (by have := HLT.out; show w.heap.size ≤ w2.heap.size; omega) _), by have := HLT.out; have := hb3.size; show w.heap.size < w3.heap.size; omega, by have := blk_lt hg1; exact this⟩
  have HST := Lib.hid hST
  have hput : ∃ q : List Int × Option Int, order_Put.f 1000 c t d nm pt ks n = some q := ⟨_, put_f 1000 c t d nm pt ks n (by have := HSB.out.1; omega) (by have := HSB.out.2.1; omega) HSB.out.2.2.1 (fun x hx => by have := HSB.out.2.2.2 x hx; omega) (Nat.le_refl _)⟩
  obtain ⟨⟨pl, er⟩, hput⟩ := hput
  have HPUT := Lib.hid hput
  have m0 := ((blk_cell HST.out.2.1 0).trans rfl : (w3.setCell ⟨w2.heap.size, 5, none⟩ (.slice Ao ks.length co)).cell? ⟨w2.heap.size, 0, none⟩ = some (.int .i64 c))
  have m1 := ((blk_cell HST.out.2.1 1).trans rfl : (w3.setCell ⟨w2.heap.size, 5, none⟩ (.slice Ao ks.length co)).cell? ⟨w2.heap.size, 1, none⟩ = some (.int .i64 t))
  have m2 := ((blk_cell HST.out.2.1 2).trans rfl : (w3.setCell ⟨w2.heap.size, 5, none⟩ (.slice Ao ks.length co)).cell? ⟨w2.heap.size, 2, none⟩ = some (.int .i64 d))
  have m3 := ((blk_cell HST.out.2.1 3).trans rfl : (w3.setCell ⟨w2.heap.size, 5, none⟩ (.slice Ao ks.length co)).cell? ⟨w2.heap.size, 3, none⟩ = some (.string nm))
  have m4 := ((blk_cell HST.out.2.1 4).trans rfl : (w3.setCell ⟨w2.heap.size, 5, none⟩ (.slice Ao ks.length co)).cell? ⟨w2.heap.size, 4, none⟩ = some (.string pt))
  have m5 := ((blk_cell HST.out.2.1 5).trans rfl : (w3.setCell ⟨w2.heap.size, 5, none⟩ (.slice Ao ks.length co)).cell? ⟨w2.heap.size, 5, none⟩ = some (.slice Ao ks.length co))
  have m6 := ((blk_cell HST.out.2.1 6).trans rfl : (w3.setCell ⟨w2.heap.size, 5, none⟩ (.slice Ao ks.length co)).cell? ⟨w2.heap.size, 6, none⟩ = some (.int .i64 n))
  have q0 := ((blk_cell hg1 0).trans rfl : w3.cell? ⟨w2.heap.size, 0, none⟩ = some (.int .i64 c))
  have q1 := ((blk_cell hg1 1).trans rfl : w3.cell? ⟨w2.heap.size, 1, none⟩ = some (.int .i64 t))
  have q2 := ((blk_cell hg1 2).trans rfl : w3.cell? ⟨w2.heap.size, 2, none⟩ = some (.int .i64 d))
  have q3 := ((blk_cell hg1 3).trans rfl : w3.cell? ⟨w2.heap.size, 3, none⟩ = some (.string nm))
  have q4 := ((blk_cell hg1 4).trans rfl : w3.cell? ⟨w2.heap.size, 4, none⟩ = some (.string pt))
  have q5 := ((blk_cell hg1 5).trans rfl : w3.cell? ⟨w2.heap.size, 5, none⟩ = some (.slice A5 ks.length c5))
  have q6 := ((blk_cell hg1 6).trans rfl : w3.cell? ⟨w2.heap.size, 6, none⟩ = some (.int .i64 n))
  have HS3 := Lib.hid (show w3.heap.size = (w3.setCell ⟨w2.heap.size, 5, none⟩ (.slice Ao ks.length co)).heap.size from (by simp))
  have HL3 := Lib.hid (show w.heap.size ≤ w3.heap.size by have := HLT.out; have := hb3.size; omega)
  clear hown hbel hgr hat hg1 hg1s hb3 hST hput k0 k1 k2 k3 k4 k6 kk5 HG2 HB2 HBO
  go_wp2_with fail
  generalize (w3.setCell ⟨w2.heap.size, 5, none⟩ (.slice Ao ks.length co)) = wS at *
  clear m0 m1 m2 m3 m4 m5 m6 q0 q1 q2 q3 q4 q5 q6 k5 f5
  refine (order_Put.calls 1000 c t d nm pt Ao co ks n pl er wS (Kd.R_reads' HST.out.2.2.1).2.2 (Kd.R_reads' HST.out.2.2.1).2.1 HPUT.out).mono ?_
  rintro e w5 ⟨vp, rfl, hr, hb⟩
  obtain ⟨Ap, cp, rfl⟩ := Kd.R_slice hr
  have hcv := own_string (P := Tryd.prog) Tryd.underlying32 Tryd.underlying5 Tryd.underlying9 (Kd.own_of_R hr)
  have HP5 : Hid (Kd.R (Kd.int .u8) 5 w5 wS.heap.size (fun k => wS.heap.size ≤ k ∧ k < w5.heap.size) (.slice Ap pl.length cp) pl) := Lib.hid (Kd.R_mono (Kd.R_bound hr) (fun k hk => ⟨hk.2.1, hk.2.2.1⟩))
  have HST5 := Lib.hid (HST.out.below hb)
  have HPM := Lib.hid (Kd.R_reads' hr).2.2.2.1
  have HS5 := Lib.hid hb.size
  clear hr hb HST
  go_wp2_with fail
  clear hcv
  go_loopg [11] pl.length (fun kj v11 w' => ∃ (xs : List Int) (j : Int), v11 = .int .i64 j ∧ Hid (j = pl.length - kj ∧ kj ≤ pl.length ∧ xs.length = pl.length) ∧ Hid (Kd.R (Kd.int .u8) 5 w' wS.heap.size (fun k => wS.heap.size ≤ k ∧ k < w5.heap.size) (.slice Ap pl.length cp) xs) ∧ Hid (ST w w' w.heap.size w2.heap.size c t d nm pt A5 c5 ks n Ao co (fun k => k < w3.heap.size)) ∧ Hid (w5.heap.size ≤ w'.heap.size))
  case atStart => exact ⟨pl, 0, rfl, Lib.hid ⟨by omega, by omega, rfl⟩, HP5, HST5, Lib.hid (Nat.le_refl _)⟩
  case round =>
    clear HP5 HST5
    obtain ⟨xs, j, rfl, HJ, HO, HT, HSR⟩ := hrel
    cases gk with
    | zero =>
      have hj : j = (pl.length : Int) := by have := HJ.out; omega
      subst hj
      have m0 := ((blk_cell HT.out.2.1 0).trans rfl : wr.cell? ⟨w2.heap.size, 0, none⟩ = some (.int .i64 c))
      have m1 := ((blk_cell HT.out.2.1 1).trans rfl : wr.cell? ⟨w2.heap.size, 1, none⟩ = some (.int .i64 t))
      have m2 := ((blk_cell HT.out.2.1 2).trans rfl : wr.cell? ⟨w2.heap.size, 2, none⟩ = some (.int .i64 d))
      have m3 := ((blk_cell HT.out.2.1 3).trans rfl : wr.cell? ⟨w2.heap.size, 3, none⟩ = some (.string nm))
      have m4 := ((blk_cell HT.out.2.1 4).trans rfl : wr.cell? ⟨w2.heap.size, 4, none⟩ = some (.string pt))
      have m5 := ((blk_cell HT.out.2.1 5).trans rfl : wr.cell? ⟨w2.heap.size, 5, none⟩ = some (.slice Ao ks.length co))
      have m6 := ((blk_cell HT.out.2.1 6).trans rfl : wr.cell? ⟨w2.heap.size, 6, none⟩ = some (.int .i64 n))
      go_wp2_with fail
      clear m0 m1 m2 m3 m4 m5 m6
      refine (order_Put.calls 1000 c t d nm pt Ao co ks n pl er wr (Kd.R_reads' HT.out.2.2.1).2.2 (Kd.R_reads' HT.out.2.2.1).2.1 HPUT.out).mono ?_
      rintro e w6 ⟨vq, rfl, hr, hb⟩
      obtain ⟨Aq, cq, rfl⟩ := Kd.R_slice hr
      have HQ6 := Lib.hid (Kd.R_mono (Kd.R_bound hr) (fun k hk => (⟨hk.2.1, hk.2.2.1⟩ : wr.heap.size ≤ k ∧ k < w6.heap.size)))
      have HT6 := Lib.hid (HT.out.below hb)
      have HSR6 := Lib.hid (Nat.le_trans HSR.out hb.size)
      clear hr hb HO HT
      have hfr : Kd.C (Kd.int .u8) w6 A1 b.length b := Kd.C_below HB.out HT6.out.2.2.2.1
      have HB6 := Lib.hid hfr
      clear hfr
      go_wp2_with (at_builtin; refine Kd.R_append_row (w0 := w6) (Value.int .u8) 0 (h1 := fun _ => rfl) w6.heap.size rfl (.tmp 66) (.tmp 67) 32 5 (.int .u8 0) 1 rfl Tryd.underlying32 (by kernel_rfl) rfl (by decide) (.slice (some ⟨w6.heap.size, 0, none⟩) 0 0) [] b A1 b.length c1 (fun k => w6.heap.size ≤ k) rfl rfl ?fresh ?own ?src ((Below.refl _ _).alloc (Nat.le_refl _) _) (by simp) ?len ?go)
      case fresh => intro k hk; first | omega | (simp at hk; omega)
      case own => exact Kd.R_mono (nil_R w6) (fun k hk => by omega)
      case src => exact Kd.C_alloc HB6.out _
      case len => have := HLB.out; first | omega | (simp; omega)
      case go =>
      intro v7 w7 hown hbel hgr hat
      replace hown : Kd.R (Kd.int .u8) 5 w7 w6.heap.size (fun k => w6.heap.size ≤ k) v7 b := hown
      obtain ⟨Am, cm, rfl⟩ := Kd.R_slice hown
      have HM7 := Lib.hid (Kd.R_mono (Kd.R_bound hown) (fun k hk => (⟨hk.1, hk.2.2.1⟩ : w6.heap.size ≤ k ∧ k < w7.heap.size)))
      have HT7 := Lib.hid (HT6.out.below hbel)
      have HQ7 := Lib.hid (Kd.R_below HQ6.out hbel)
      have HS7 := Lib.hid hbel.size
      clear hown hbel hgr hat HQ6 HT6 HB6
      go_wp2_with fail
      obtain ⟨r1, r2, r3, r4, r5, r6, r7, r8, hget, hrl⟩ := get_total HBY.out (by have := HLB.out; omega)
      have HGET := Lib.hid hget
      have HRL := Lib.hid hrl
      clear hget hrl
      refine (order_Get.calls 1000 Am cm b r1 r2 r3 r4 r5 r6 r7 r8 w7 (Kd.R_reads' HM7.out).2.2 (Kd.R_reads' HM7.out).2.1 HGET.out).mono ?_
      rintro e w8 ⟨vx, rfl, hr, hb⟩
      obtain ⟨Ax, cx, rfl⟩ := Kd.R_slice hr
      have HX8 : Hid (Kd.R Kd.string 9 w8 w7.heap.size (fun k => w7.heap.size ≤ k ∧ k < w8.heap.size) (.slice Ax r6.length cx) r6) := Lib.hid (Kd.R_mono (Kd.R_bound hr) (fun k hk => ⟨hk.2.1, hk.2.2.1⟩))
      have HM8 := Lib.hid (Kd.R_below HM7.out hb)
      have HT8 := Lib.hid (HT7.out.below hb)
      have HQ8 := Lib.hid (Kd.R_below HQ7.out hb)
      have HS8 := Lib.hid hb.size
      clear hr hb HM7 HT7 HQ7
      have HGX := Lib.hid (heap_alloc_new w8 (.cells #[.int .i64 r1, .int .i64 r2, .int .i64 r3, .string r4, .string r5, .slice Ax r6.length cx, .int .i64 r7] 26))
      have HX9 := Lib.hid (Kd.R_alloc HX8.out (.cells #[.int .i64 r1, .int .i64 r2, .int .i64 r3, .string r4, .string r5, .slice Ax r6.length cx, .int .i64 r7] 26))
      have HM9 := Lib.hid (Kd.R_alloc HM8.out (.cells #[.int .i64 r1, .int .i64 r2, .int .i64 r3, .string r4, .string r5, .slice Ax r6.length cx, .int .i64 r7] 26))
      have HT9 := Lib.hid (HT8.out.below ((Below.refl _ w8).alloc (Nat.le_refl _) (.cells #[.int .i64 r1, .int .i64 r2, .int .i64 r3, .string r4, .string r5, .slice Ax r6.length cx, .int .i64 r7] 26)))
      have HQ9 := Lib.hid (Kd.R_alloc HQ8.out (.cells #[.int .i64 r1, .int .i64 r2, .int .i64 r3, .string r4, .string r5, .slice Ax r6.length cx, .int .i64 r7] 26))
      clear HX8 HM8 HT8 HQ8
      go_wp2_with fail
      generalize w8.alloc (.cells #[.int .i64 r1, .int .i64 r2, .int .i64 r3, .string r4, .string r5, .slice Ax r6.length cx, .int .i64 r7] 26) = w9 at *
      go_loopg [17] b.length (fun kj v17 w' => ∃ (xs : List Int) (j : Int), v17 = .int .i64 j ∧ Hid (j = b.length - kj ∧ kj ≤ b.length ∧ xs.length = b.length) ∧ Hid (Kd.R (Kd.int .u8) 5 w' w6.heap.size (fun k => w6.heap.size ≤ k ∧ k < w7.heap.size) (.slice Am b.length cm) xs) ∧ Hid (ST w w' w.heap.size w2.heap.size c t d nm pt A5 c5 ks n Ao co (fun k => k < w3.heap.size)) ∧ Hid (Kd.R (Kd.int .u8) 5 w' wr.heap.size (fun k => wr.heap.size ≤ k ∧ k < w6.heap.size) (.slice Aq pl.length cq) pl) ∧ Hid (Kd.R Kd.string 9 w' w7.heap.size (fun k => w7.heap.size ≤ k ∧ k < w8.heap.size) (.slice Ax r6.length cx) r6) ∧ Hid (w'.heap[w8.heap.size]? = some (.cells #[.int .i64 r1, .int .i64 r2, .int .i64 r3, .string r4, .string r5, .slice Ax r6.length cx, .int .i64 r7] 26)))
      case atStart => exact ⟨b, 0, rfl, Lib.hid ⟨by omega, by omega, rfl⟩, HM9, HT9, HQ9, HX9, HGX⟩
      case round =>
        clear HM9 HT9 HQ9 HX9 HGX
        obtain ⟨ys, j, rfl, HJ2, HO2, HT2, HQ2, HX2, HG2⟩ := hrel
        cases gk with
        | zero =>
          have hj : j = (b.length : Int) := by have := HJ2.out; omega
          subst hj
          have HBb := Lib.hid (Kd.C_below HB.out HT2.out.2.2.2.1)
          clear HO2
          go_wp2_with fail
          refine (order_Get.calls 1000 A1 c1 b r1 r2 r3 r4 r5 r6 r7 r8 _ HBb.out hcb HGET.out).mono ?_
          rintro e w11 ⟨vy, rfl, hr, hb⟩
          obtain ⟨Ay, cy, rfl⟩ := Kd.R_slice hr
          have HY11 := Lib.hid (Kd.R_alloc hr (.cells #[.int .i64 r1, .int .i64 r2, .int .i64 r3, .string r4, .string r5, .slice Ay r6.length cy, .int .i64 r7] 26))
          have hbY : Below _ _ (w11.alloc (.cells #[.int .i64 r1, .int .i64 r2, .int .i64 r3, .string r4, .string r5, .slice Ay r6.length cy, .int .i64 r7] 26)) := (hb.alloc hb.size (.cells #[.int .i64 r1, .int .i64 r2, .int .i64 r3, .string r4, .string r5, .slice Ay r6.length cy, .int .i64 r7] 26))
          have HT12 := Lib.hid (HT2.out.below hbY)
          have HD_q := Lib.hid (Kd.R_reads' (Kd.R_below HQ2.out hbY)).2.2
          have HKx := Lib.hid (Kd.R_reads' (Kd.R_below HX2.out hbY)).2.2
          have HKxc := Lib.hid (Kd.R_reads' (Kd.R_below HX2.out hbY)).2.1
          have HKy := Lib.hid (Kd.R_reads' HY11.out).2.2
          have HKyc := Lib.hid (Kd.R_reads' HY11.out).2.1
          have HD_gx := Lib.hid (blk_below HG2.out hbY)
          have HD_gy := Lib.hid (heap_alloc_new w11 (.cells #[.int .i64 r1, .int .i64 r2, .int .i64 r3, .string r4, .string r5, .slice Ay r6.length cy, .int .i64 r7] 26))
          have HD_g0 := Lib.hid HT12.out.1
          have HD_g1 := Lib.hid HT12.out.2.1
          have HKo := Lib.hid (Kd.R_reads' HT12.out.2.2.1).2.2
          have HKoc := Lib.hid (Kd.R_reads' HT12.out.2.2.1).2.1
          have HKr := Lib.hid (Kd.C_below HC.out HT12.out.2.2.2.1)
          have HKrc := HCC
          have HBW := Lib.hid HT12.out.2.2.2.1
          have HS1 : Hid (becketref08_Same.f 100001 c t d nm pt ks n c t d nm pt ks n = some true) := Lib.hid (by rw [same_f 100001 c t d n c t d n nm pt nm pt ks ks (by have := HSB.out.2.2.1; omega) (Nat.le_refl _)]; simp)
          have HS2 : Hid (becketref08_Same.f 100001 r1 r2 r3 r4 r5 r6 r7 r1 r2 r3 r4 r5 r6 r7 = some true) := Lib.hid (by rw [same_f 100001 r1 r2 r3 r7 r1 r2 r3 r7 r4 r5 r4 r5 r6 r6 (by have := HRL.out; omega) (Nat.le_refl _)]; simp)
          clear hr hb hbY HY11 HT2 HQ2 HX2 HG2 HT12 HBb
          go_wp2_with fail
          generalize w11.alloc (.cells #[.int .i64 r1, .int .i64 r2, .int .i64 r3, .string r4, .string r5, .slice Ay r6.length cy, .int .i64 r7] 26) = w12 at *
          cases er
          all_goals cases r8
          all_goals simp only [errW_none, errW_some]
          all_goals
            refine start_ (n := 32) (S := fun w' => w'.cell? ⟨w.heap.size, 0, none⟩ = some (.int .i64 c) ∧ w'.cell? ⟨w.heap.size, 1, none⟩ = some (.int .i64 t) ∧ w'.cell? ⟨w.heap.size, 2, none⟩ = some (.int .i64 d) ∧ w'.cell? ⟨w.heap.size, 3, none⟩ = some (.string nm) ∧ w'.cell? ⟨w.heap.size, 4, none⟩ = some (.string pt) ∧ w'.cell? ⟨w.heap.size, 5, none⟩ = some (.slice A5 ks.length c5) ∧ w'.cell? ⟨w.heap.size, 6, none⟩ = some (.int .i64 n) ∧ w'.cell? ⟨w2.heap.size, 0, none⟩ = some (.int .i64 c) ∧ w'.cell? ⟨w2.heap.size, 1, none⟩ = some (.int .i64 t) ∧ w'.cell? ⟨w2.heap.size, 2, none⟩ = some (.int .i64 d) ∧ w'.cell? ⟨w2.heap.size, 3, none⟩ = some (.string nm) ∧ w'.cell? ⟨w2.heap.size, 4, none⟩ = some (.string pt) ∧ w'.cell? ⟨w2.heap.size, 5, none⟩ = some (.slice Ao ks.length co) ∧ w'.cell? ⟨w2.heap.size, 6, none⟩ = some (.int .i64 n) ∧ w'.cell? ⟨w8.heap.size, 0, none⟩ = some (.int .i64 r1) ∧ w'.cell? ⟨w8.heap.size, 1, none⟩ = some (.int .i64 r2) ∧ w'.cell? ⟨w8.heap.size, 2, none⟩ = some (.int .i64 r3) ∧ w'.cell? ⟨w8.heap.size, 3, none⟩ = some (.string r4) ∧ w'.cell? ⟨w8.heap.size, 4, none⟩ = some (.string r5) ∧ w'.cell? ⟨w8.heap.size, 5, none⟩ = some (.slice Ax r6.length cx) ∧ w'.cell? ⟨w8.heap.size, 6, none⟩ = some (.int .i64 r7) ∧ w'.cell? ⟨w11.heap.size, 0, none⟩ = some (.int .i64 r1) ∧ w'.cell? ⟨w11.heap.size, 1, none⟩ = some (.int .i64 r2) ∧ w'.cell? ⟨w11.heap.size, 2, none⟩ = some (.int .i64 r3) ∧ w'.cell? ⟨w11.heap.size, 3, none⟩ = some (.string r4) ∧ w'.cell? ⟨w11.heap.size, 4, none⟩ = some (.string r5) ∧ w'.cell? ⟨w11.heap.size, 5, none⟩ = some (.slice Ay r6.length cy) ∧ w'.cell? ⟨w11.heap.size, 6, none⟩ = some (.int .i64 r7) ∧ Kd.C (Kd.int .u8) w' Aq pl.length pl) (ds := []) #[false, false, false, false, false, false, false, false, false, false, false, false, false, false, false, false, false, false, false, false, false, false, false, false, false, false, false, false, false, false, false, false] (by kernel_rfl) rfl rfl ⟨((blk_cell (HD_g0.out) 0).trans rfl), ((blk_cell (HD_g0.out) 1).trans rfl), ((blk_cell (HD_g0.out) 2).trans rfl), ((blk_cell (HD_g0.out) 3).trans rfl), ((blk_cell (HD_g0.out) 4).trans rfl), ((blk_cell (HD_g0.out) 5).trans rfl), ((blk_cell (HD_g0.out) 6).trans rfl), ((blk_cell (HD_g1.out) 0).trans rfl), ((blk_cell (HD_g1.out) 1).trans rfl), ((blk_cell (HD_g1.out) 2).trans rfl), ((blk_cell (HD_g1.out) 3).trans rfl), ((blk_cell (HD_g1.out) 4).trans rfl), ((blk_cell (HD_g1.out) 5).trans rfl), ((blk_cell (HD_g1.out) 6).trans rfl), ((blk_cell (HD_gx.out) 0).trans rfl), ((blk_cell (HD_gx.out) 1).trans rfl), ((blk_cell (HD_gx.out) 2).trans rfl), ((blk_cell (HD_gx.out) 3).trans rfl), ((blk_cell (HD_gx.out) 4).trans rfl), ((blk_cell (HD_gx.out) 5).trans rfl), ((blk_cell (HD_gx.out) 6).trans rfl), ((blk_cell (HD_gy.out) 0).trans rfl), ((blk_cell (HD_gy.out) 1).trans rfl), ((blk_cell (HD_gy.out) 2).trans rfl), ((blk_cell (HD_gy.out) 3).trans rfl), ((blk_cell (HD_gy.out) 4).trans rfl), ((blk_cell (HD_gy.out) 5).trans rfl), ((blk_cell (HD_gy.out) 6).trans rfl), (Kd.C_drew HD_q.out)⟩ (fun hHeld => ?_)
            refine pure_ (i := 0) (N := some 93) (v := ?_) (a' := ?_) #[true, false, false, false, false, false, false, false, false, false, false, false, false, false, false, false, false, false, false, false, false, false, false, false, false, false, false, false, false, false, false, false] rfl rfl (by kernel_rfl) (fun _ _ _ h => h) (Or.inl ⟨by rfl, ?_⟩) ?_ ?_
            rotate_left
            · intro w'
              go_simp
              with_reducible rfl
            rotate_left
            · simp only [Act.put, List.setIfInBounds_toArray, List.set_cons_zero, List.set_cons_succ, i64_w, i32_w]
              rfl
            refine pure_ (i := 1) (N := some 94) (v := ?_) (a' := ?_) #[true, true, false, false, false, false, false, false, false, false, false, false, false, false, false, false, false, false, false, false, false, false, false, false, false, false, false, false, false, false, false, false] rfl rfl (by kernel_rfl) (fun _ _ _ h => h) (Or.inl ⟨by rfl, ?_⟩) ?_ ?_
            rotate_left
            · intro w'
              go_simp
              with_reducible rfl
            rotate_left
            · simp only [Act.put, List.setIfInBounds_toArray, List.set_cons_zero, List.set_cons_succ, i64_w, i32_w]
              rfl
            refine take_ (i := 2) (N := some 95) (v := ?_) (a' := ?_) #[true, true, true, false, false, false, false, false, false, false, false, false, false, false, false, false, false, false, false, false, false, false, false, false, false, false, false, false, false, false, false, false] rfl rfl (by kernel_rfl) (fun _ _ _ h => h) (Or.inl ⟨by rfl, ?_⟩) hHeld ?_ ?_
            rotate_left
            · rintro w' ⟨s0, s1, s2, s3, s4, s5, s6, s7, s8, s9, s10, s11, s12, s13, s14, s15, s16, s17, s18, s19, s20, s21, s22, s23, s24, s25, s26, s27, s28⟩
              go_simp
              with_reducible rfl
            rotate_left
            · simp only [Act.put, List.setIfInBounds_toArray, List.set_cons_zero, List.set_cons_succ, i64_w, i32_w]
              rfl
            refine take_ (i := 3) (N := some 96) (v := ?_) (a' := ?_) #[true, true, true, true, false, false, false, false, false, false, false, false, false, false, false, false, false, false, false, false, false, false, false, false, false, false, false, false, false, false, false, false] rfl rfl (by kernel_rfl) (fun _ _ _ h => h) (Or.inl ⟨by rfl, ?_⟩) hHeld ?_ ?_
            rotate_left
            · rintro w' ⟨s0, s1, s2, s3, s4, s5, s6, s7, s8, s9, s10, s11, s12, s13, s14, s15, s16, s17, s18, s19, s20, s21, s22, s23, s24, s25, s26, s27, s28⟩
              go_simp
              with_reducible rfl
            rotate_left
            · simp only [Act.put, List.setIfInBounds_toArray, List.set_cons_zero, List.set_cons_succ, i64_w, i32_w]
              rfl
            refine one_ (i := 4) (N := some 97) #[true, true, true, true, true, false, false, false, false, false, false, false, false, false, false, false, false, false, false, false, false, false, false, false, false, false, false, false, false, false, false, false] rfl rfl (by kernel_rfl) (by decide) (fun K hK => ?_)
            refine goes_ Tryd.func16 (by kernel_rfl) rfl #[.agg #[.int .i64 c, .int .i64 t, .int .i64 d, .string nm, .string pt, .slice Ao ks.length co, .int .i64 n], .agg #[.int .i64 c, .int .i64 t, .int .i64 d, .string nm, .string pt, .slice A5 ks.length c5, .int .i64 n]] (by rfl) rfl rfl (by simp only [List.map_toArray, List.map_cons, List.map_nil]; rfl) ?_
            with_reducible refine (becketref08_Same.calls 100001 c t d nm pt Ao co ks n c t d nm pt A5 c5 ks n true _ (Kd.C_drew HKo.out) HKoc.out (Kd.C_drew HKr.out) HKrc.out HS1.out).mono ?_
            rintro e wS ⟨rfl, hb⟩
            refine ⟨_, rfl, ?_⟩
            replace hb : Below w12.heap.size w12 wS := ((Below.refl w12.heap.size w12).drew).trans hb
            have HE_g0 := Lib.hid (blk_below HD_g0.out hb)
            have HE_g1 := Lib.hid (blk_below HD_g1.out hb)
            have HE_gx := Lib.hid (blk_below HD_gx.out hb)
            have HE_gy := Lib.hid (blk_below HD_gy.out hb)
            have HE_q := Lib.hid (Kd.C_below HD_q.out hb)
            have HXk := Lib.hid (Kd.C_below HKx.out hb)
            have HYk := Lib.hid (Kd.C_below HKy.out hb)
            have HBS := Lib.hid hb
            clear hb
            refine hK.out _ _ ⟨((blk_cell (HE_g0.out) 0).trans rfl), ((blk_cell (HE_g0.out) 1).trans rfl), ((blk_cell (HE_g0.out) 2).trans rfl), ((blk_cell (HE_g0.out) 3).trans rfl), ((blk_cell (HE_g0.out) 4).trans rfl), ((blk_cell (HE_g0.out) 5).trans rfl), ((blk_cell (HE_g0.out) 6).trans rfl), ((blk_cell (HE_g1.out) 0).trans rfl), ((blk_cell (HE_g1.out) 1).trans rfl), ((blk_cell (HE_g1.out) 2).trans rfl), ((blk_cell (HE_g1.out) 3).trans rfl), ((blk_cell (HE_g1.out) 4).trans rfl), ((blk_cell (HE_g1.out) 5).trans rfl), ((blk_cell (HE_g1.out) 6).trans rfl), ((blk_cell (HE_gx.out) 0).trans rfl), ((blk_cell (HE_gx.out) 1).trans rfl), ((blk_cell (HE_gx.out) 2).trans rfl), ((blk_cell (HE_gx.out) 3).trans rfl), ((blk_cell (HE_gx.out) 4).trans rfl), ((blk_cell (HE_gx.out) 5).trans rfl), ((blk_cell (HE_gx.out) 6).trans rfl), ((blk_cell (HE_gy.out) 0).trans rfl), ((blk_cell (HE_gy.out) 1).trans rfl), ((blk_cell (HE_gy.out) 2).trans rfl), ((blk_cell (HE_gy.out) 3).trans rfl), ((blk_cell (HE_gy.out) 4).trans rfl), ((blk_cell (HE_gy.out) 5).trans rfl), ((blk_cell (HE_gy.out) 6).trans rfl), HE_q.out⟩ (fun hHeld => ?_)
            clear hK K
            refine norm_ (a' := ?_) ?_ ?_
            rotate_left
            · show Act.put _ (some 97) _ = _
              simp only [Act.put, List.setIfInBounds_toArray, List.set_cons_zero, List.set_cons_succ, i64_w, i32_w]
              rfl
            refine pure_ (i := 5) (N := some 98) (v := ?_) (a' := ?_) #[true, true, true, true, true, true, false, false, false, false, false, false, false, false, false, false, false, false, false, false, false, false, false, false, false, false, false, false, false, false, false, false] rfl rfl (by kernel_rfl) (fun _ _ _ h => h) (Or.inl ⟨by rfl, ?_⟩) ?_ ?_
            rotate_left
            · intro w'
              go_simp
              with_reducible rfl
            rotate_left
            · simp only [Act.put, List.setIfInBounds_toArray, List.set_cons_zero, List.set_cons_succ, i64_w, i32_w]
              rfl
            refine pure_ (i := 6) (N := some 99) (v := ?_) (a' := ?_) #[true, true, true, true, true, true, true, false, false, false, false, false, false, false, false, false, false, false, false, false, false, false, false, false, false, false, false, false, false, false, false, false] rfl rfl (by kernel_rfl) (fun _ _ _ h => h) (Or.inl ⟨by rfl, ?_⟩) ?_ ?_
            rotate_left
            · intro w'
              go_simp
              with_reducible rfl
            rotate_left
            · simp only [Act.put, List.setIfInBounds_toArray, List.set_cons_zero, List.set_cons_succ, i64_w, i32_w]
              rfl
            refine pure_ (i := 7) (N := some 100) (v := ?_) (a' := ?_) #[true, true, true, true, true, true, true, true, false, false, false, false, false, false, false, false, false, false, false, false, false, false, false, false, false, false, false, false, false, false, false, false] rfl rfl (by kernel_rfl) (fun _ _ _ h => h) (Or.inl ⟨by rfl, ?_⟩) ?_ ?_
            rotate_left
            · intro w'
              go_simp
              with_reducible rfl
            rotate_left
            · simp only [Act.put, List.setIfInBounds_toArray, List.set_cons_zero, List.set_cons_succ, i64_w, i32_w]
              rfl
            refine pure_ (i := 8) (N := some 101) (v := ?_) (a' := ?_) #[true, true, true, true, true, true, true, true, true, false, false, false, false, false, false, false, false, false, false, false, false, false, false, false, false, false, false, false, false, false, false, false] rfl rfl (by kernel_rfl) (fun _ _ _ h => h) (Or.inl ⟨by rfl, ?_⟩) ?_ ?_
            rotate_left
            · intro w'
              go_simp
              with_reducible rfl
            rotate_left
            · simp only [Act.put, List.setIfInBounds_toArray, List.set_cons_zero, List.set_cons_succ, i64_w, i32_w]
              rfl
            refine pure_ (i := 9) (N := some 102) (v := ?_) (a' := ?_) #[true, true, true, true, true, true, true, true, true, true, false, false, false, false, false, false, false, false, false, false, false, false, false, false, false, false, false, false, false, false, false, false] rfl rfl (by kernel_rfl) (fun _ _ _ h => h) (Or.inl ⟨by rfl, ?_⟩) ?_ ?_
            rotate_left
            · intro w'
              go_simp
              with_reducible rfl
            rotate_left
            · simp only [Act.put, List.setIfInBounds_toArray, List.set_cons_zero, List.set_cons_succ, i64_w, i32_w]
              rfl
            refine pure_ (i := 10) (N := some 103) (v := ?_) (a' := ?_) #[true, true, true, true, true, true, true, true, true, true, true, false, false, false, false, false, false, false, false, false, false, false, false, false, false, false, false, false, false, false, false, false] rfl rfl (by kernel_rfl) (fun _ _ _ h => h) (Or.inl ⟨by rfl, ?_⟩) ?_ ?_
            rotate_left
            · intro w'
              go_simp
              with_reducible rfl
            rotate_left
            · simp only [Act.put, List.setIfInBounds_toArray, List.set_cons_zero, List.set_cons_succ, i64_w, i32_w]
              rfl
            refine pure_ (i := 11) (N := some 104) (v := ?_) (a' := ?_) #[true, true, true, true, true, true, true, true, true, true, true, true, false, false, false, false, false, false, false, false, false, false, false, false, false, false, false, false, false, false, false, false] rfl rfl (by kernel_rfl) (fun _ _ _ h => h) (Or.inl ⟨by rfl, ?_⟩) ?_ ?_
            rotate_left
            · intro w'
              go_simp
              with_reducible rfl
            rotate_left
            · simp only [Act.put, List.setIfInBounds_toArray, List.set_cons_zero, List.set_cons_succ, i64_w, i32_w]
              rfl
            refine pure_ (i := 12) (N := some 105) (v := ?_) (a' := ?_) #[true, true, true, true, true, true, true, true, true, true, true, true, true, false, false, false, false, false, false, false, false, false, false, false, false, false, false, false, false, false, false, false] rfl rfl (by kernel_rfl) (fun _ _ _ h => h) (Or.inl ⟨by rfl, ?_⟩) ?_ ?_
            rotate_left
            · intro w'
              go_simp
              with_reducible rfl
            rotate_left
            · simp only [Act.put, List.setIfInBounds_toArray, List.set_cons_zero, List.set_cons_succ, i64_w, i32_w]
              rfl
            refine pure_ (i := 13) (N := some 106) (v := ?_) (a' := ?_) #[true, true, true, true, true, true, true, true, true, true, true, true, true, true, false, false, false, false, false, false, false, false, false, false, false, false, false, false, false, false, false, false] rfl rfl (by kernel_rfl) (fun _ _ _ h => h) (Or.inl ⟨by rfl, ?_⟩) ?_ ?_
            rotate_left
            · intro w'
              go_simp
              with_reducible rfl
            rotate_left
            · simp only [Act.put, List.setIfInBounds_toArray, List.set_cons_zero, List.set_cons_succ, i64_w, i32_w]
              rfl
            refine pure_ (i := 14) (N := some 107) (v := ?_) (a' := ?_) #[true, true, true, true, true, true, true, true, true, true, true, true, true, true, true, false, false, false, false, false, false, false, false, false, false, false, false, false, false, false, false, false] rfl rfl (by kernel_rfl) (fun _ _ _ h => h) (Or.inl ⟨by rfl, ?_⟩) ?_ ?_
            rotate_left
            · intro w'
              go_simp
              with_reducible rfl
            rotate_left
            · simp only [Act.put, List.setIfInBounds_toArray, List.set_cons_zero, List.set_cons_succ, i64_w, i32_w]
              rfl
            refine pure_ (i := 16) (N := some 109) (v := ?_) (a' := ?_) #[true, true, true, true, true, true, true, true, true, true, true, true, true, true, true, false, true, false, false, false, false, false, false, false, false, false, false, false, false, false, false, false] rfl rfl (by kernel_rfl) (fun _ _ _ h => h) (Or.inl ⟨by rfl, ?_⟩) ?_ ?_
            rotate_left
            · intro w'
              go_simp
              with_reducible rfl
            rotate_left
            · simp only [Act.put, List.setIfInBounds_toArray, List.set_cons_zero, List.set_cons_succ, i64_w, i32_w]
              rfl
            refine take_ (i := 15) (N := some 108) (v := ?_) (a' := ?_) #[true, true, true, true, true, true, true, true, true, true, true, true, true, true, true, true, true, false, false, false, false, false, false, false, false, false, false, false, false, false, false, false] rfl rfl (by kernel_rfl) (fun _ _ _ h => h) (Or.inl ⟨by rfl, ?_⟩) hHeld ?_ ?_
            rotate_left
            · rintro w' ⟨s0, s1, s2, s3, s4, s5, s6, s7, s8, s9, s10, s11, s12, s13, s14, s15, s16, s17, s18, s19, s20, s21, s22, s23, s24, s25, s26, s27, s28⟩
              have hcB := Kd.C_string (P := Tryd.prog) (c := cq) Tryd.underlying32 Tryd.underlying5 Tryd.underlying9 s28
              go_simp
              with_reducible rfl
            rotate_left
            · simp only [Act.put, List.setIfInBounds_toArray, List.set_cons_zero, List.set_cons_succ, i64_w, i32_w]
              rfl
            refine pure_ (i := 17) (N := some 110) (v := ?_) (a' := ?_) #[true, true, true, true, true, true, true, true, true, true, true, true, true, true, true, true, true, true, false, false, false, false, false, false, false, false, false, false, false, false, false, false] rfl rfl (by kernel_rfl) (fun _ _ _ h => h) (Or.inl ⟨by rfl, ?_⟩) ?_ ?_
            rotate_left
            · intro w'
              go_simp
              with_reducible rfl
            rotate_left
            · simp only [Act.put, List.setIfInBounds_toArray, List.set_cons_zero, List.set_cons_succ, i64_w, i32_w]
              rfl
            refine pure_ (i := 18) (N := some 111) (v := ?_) (a' := ?_) #[true, true, true, true, true, true, true, true, true, true, true, true, true, true, true, true, true, true, true, false, false, false, false, false, false, false, false, false, false, false, false, false] rfl rfl (by kernel_rfl) (fun _ _ _ h => h) (Or.inl ⟨by rfl, ?_⟩) ?_ ?_
            rotate_left
            · intro w'
              go_simp
              with_reducible rfl
            rotate_left
            · simp only [Act.put, List.setIfInBounds_toArray, List.set_cons_zero, List.set_cons_succ, i64_w, i32_w]
              rfl
            refine pure_ (i := 19) (N := some 112) (v := ?_) (a' := ?_) #[true, true, true, true, true, true, true, true, true, true, true, true, true, true, true, true, true, true, true, true, false, false, false, false, false, false, false, false, false, false, false, false] rfl rfl (by kernel_rfl) (fun _ _ _ h => h) (Or.inl ⟨by rfl, ?_⟩) ?_ ?_
            rotate_left
            · intro w'
              go_simp
              with_reducible rfl
            rotate_left
            · simp only [Act.put, List.setIfInBounds_toArray, List.set_cons_zero, List.set_cons_succ, i64_w, i32_w]
              rfl
            refine pure_ (i := 20) (N := some 113) (v := ?_) (a' := ?_) #[true, true, true, true, true, true, true, true, true, true, true, true, true, true, true, true, true, true, true, true, true, false, false, false, false, false, false, false, false, false, false, false] rfl rfl (by kernel_rfl) (fun _ _ _ h => h) (Or.inl ⟨by rfl, ?_⟩) ?_ ?_
            rotate_left
            · intro w'
              go_simp
              with_reducible rfl
            rotate_left
            · simp only [Act.put, List.setIfInBounds_toArray, List.set_cons_zero, List.set_cons_succ, i64_w, i32_w]
              rfl
            refine pure_ (i := 21) (N := some 114) (v := ?_) (a' := ?_) #[true, true, true, true, true, true, true, true, true, true, true, true, true, true, true, true, true, true, true, true, true, true, false, false, false, false, false, false, false, false, false, false] rfl rfl (by kernel_rfl) (fun _ _ _ h => h) (Or.inl ⟨by rfl, ?_⟩) ?_ ?_
            rotate_left
            · intro w'
              go_simp
              with_reducible rfl
            rotate_left
            · simp only [Act.put, List.setIfInBounds_toArray, List.set_cons_zero, List.set_cons_succ, i64_w, i32_w]
              rfl
            refine pure_ (i := 22) (N := some 115) (v := ?_) (a' := ?_) #[true, true, true, true, true, true, true, true, true, true, true, true, true, true, true, true, true, true, true, true, true, true, true, false, false, false, false, false, false, false, false, false] rfl rfl (by kernel_rfl) (fun _ _ _ h => h) (Or.inl ⟨by rfl, ?_⟩) ?_ ?_
            rotate_left
            · intro w'
              go_simp
              with_reducible rfl
            rotate_left
            · simp only [Act.put, List.setIfInBounds_toArray, List.set_cons_zero, List.set_cons_succ, i64_w, i32_w]
              rfl
            refine pure_ (i := 23) (N := some 116) (v := ?_) (a' := ?_) #[true, true, true, true, true, true, true, true, true, true, true, true, true, true, true, true, true, true, true, true, true, true, true, true, false, false, false, false, false, false, false, false] rfl rfl (by kernel_rfl) (fun _ _ _ h => h) (Or.inl ⟨by rfl, ?_⟩) ?_ ?_
            rotate_left
            · intro w'
              go_simp
              with_reducible rfl
            rotate_left
            · simp only [Act.put, List.setIfInBounds_toArray, List.set_cons_zero, List.set_cons_succ, i64_w, i32_w]
              rfl
            refine pure_ (i := 24) (N := some 117) (v := ?_) (a' := ?_) #[true, true, true, true, true, true, true, true, true, true, true, true, true, true, true, true, true, true, true, true, true, true, true, true, true, false, false, false, false, false, false, false] rfl rfl (by kernel_rfl) (fun _ _ _ h => h) (Or.inl ⟨by rfl, ?_⟩) ?_ ?_
            rotate_left
            · intro w'
              go_simp
              with_reducible rfl
            rotate_left
            · simp only [Act.put, List.setIfInBounds_toArray, List.set_cons_zero, List.set_cons_succ, i64_w, i32_w]
              rfl
            refine pure_ (i := 25) (N := some 118) (v := ?_) (a' := ?_) #[true, true, true, true, true, true, true, true, true, true, true, true, true, true, true, true, true, true, true, true, true, true, true, true, true, true, false, false, false, false, false, false] rfl rfl (by kernel_rfl) (fun _ _ _ h => h) (Or.inl ⟨by rfl, ?_⟩) ?_ ?_
            rotate_left
            · intro w'
              go_simp
              with_reducible rfl
            rotate_left
            · simp only [Act.put, List.setIfInBounds_toArray, List.set_cons_zero, List.set_cons_succ, i64_w, i32_w]
              rfl
            refine pure_ (i := 26) (N := some 119) (v := ?_) (a' := ?_) #[true, true, true, true, true, true, true, true, true, true, true, true, true, true, true, true, true, true, true, true, true, true, true, true, true, true, true, false, false, false, false, false] rfl rfl (by kernel_rfl) (fun _ _ _ h => h) (Or.inl ⟨by rfl, ?_⟩) ?_ ?_
            rotate_left
            · intro w'
              go_simp
              with_reducible rfl
            rotate_left
            · simp only [Act.put, List.setIfInBounds_toArray, List.set_cons_zero, List.set_cons_succ, i64_w, i32_w]
              rfl
            refine take_ (i := 27) (N := some 120) (v := ?_) (a' := ?_) #[true, true, true, true, true, true, true, true, true, true, true, true, true, true, true, true, true, true, true, true, true, true, true, true, true, true, true, true, false, false, false, false] rfl rfl (by kernel_rfl) (fun _ _ _ h => h) (Or.inl ⟨by rfl, ?_⟩) hHeld ?_ ?_
            rotate_left
            · rintro w' ⟨s0, s1, s2, s3, s4, s5, s6, s7, s8, s9, s10, s11, s12, s13, s14, s15, s16, s17, s18, s19, s20, s21, s22, s23, s24, s25, s26, s27, s28⟩
              go_simp
              with_reducible rfl
            rotate_left
            · simp only [Act.put, List.setIfInBounds_toArray, List.set_cons_zero, List.set_cons_succ, i64_w, i32_w]
              rfl
            refine take_ (i := 28) (N := some 121) (v := ?_) (a' := ?_) #[true, true, true, true, true, true, true, true, true, true, true, true, true, true, true, true, true, true, true, true, true, true, true, true, true, true, true, true, true, false, false, false] rfl rfl (by kernel_rfl) (fun _ _ _ h => h) (Or.inl ⟨by rfl, ?_⟩) hHeld ?_ ?_
            rotate_left
            · rintro w' ⟨s0, s1, s2, s3, s4, s5, s6, s7, s8, s9, s10, s11, s12, s13, s14, s15, s16, s17, s18, s19, s20, s21, s22, s23, s24, s25, s26, s27, s28⟩
              go_simp
              with_reducible rfl
            rotate_left
            · simp only [Act.put, List.setIfInBounds_toArray, List.set_cons_zero, List.set_cons_succ, i64_w, i32_w]
              rfl
            refine one_ (i := 29) (N := some 122) #[true, true, true, true, true, true, true, true, true, true, true, true, true, true, true, true, true, true, true, true, true, true, true, true, true, true, true, true, true, true, false, false] rfl rfl (by kernel_rfl) (by decide) (fun K hK => ?_)
            refine goes_ Tryd.func16 (by kernel_rfl) rfl #[.agg #[.int .i64 r1, .int .i64 r2, .int .i64 r3, .string r4, .string r5, .slice Ax r6.length cx, .int .i64 r7], .agg #[.int .i64 r1, .int .i64 r2, .int .i64 r3, .string r4, .string r5, .slice Ay r6.length cy, .int .i64 r7]] (by rfl) rfl rfl (by simp only [List.map_toArray, List.map_cons, List.map_nil]; rfl) ?_
            with_reducible refine (becketref08_Same.calls 100001 r1 r2 r3 r4 r5 Ax cx r6 r7 r1 r2 r3 r4 r5 Ay cy r6 r7 true _ HXk.out HKxc.out HYk.out HKyc.out HS2.out).mono ?_
            rintro e wT ⟨rfl, hb⟩
            refine ⟨_, rfl, ?_⟩
            have HF_g0 := Lib.hid (blk_below HE_g0.out hb)
            have HF_g1 := Lib.hid (blk_below HE_g1.out hb)
            have HF_gx := Lib.hid (blk_below HE_gx.out hb)
            have HF_gy := Lib.hid (blk_below HE_gy.out hb)
            have HF_q := Lib.hid (Kd.C_below HE_q.out hb)
            have HBT := Lib.hid hb
            clear hb
            refine hK.out _ _ ⟨((blk_cell (HF_g0.out) 0).trans rfl), ((blk_cell (HF_g0.out) 1).trans rfl), ((blk_cell (HF_g0.out) 2).trans rfl), ((blk_cell (HF_g0.out) 3).trans rfl), ((blk_cell (HF_g0.out) 4).trans rfl), ((blk_cell (HF_g0.out) 5).trans rfl), ((blk_cell (HF_g0.out) 6).trans rfl), ((blk_cell (HF_g1.out) 0).trans rfl), ((blk_cell (HF_g1.out) 1).trans rfl), ((blk_cell (HF_g1.out) 2).trans rfl), ((blk_cell (HF_g1.out) 3).trans rfl), ((blk_cell (HF_g1.out) 4).trans rfl), ((blk_cell (HF_g1.out) 5).trans rfl), ((blk_cell (HF_g1.out) 6).trans rfl), ((blk_cell (HF_gx.out) 0).trans rfl), ((blk_cell (HF_gx.out) 1).trans rfl), ((blk_cell (HF_gx.out) 2).trans rfl), ((blk_cell (HF_gx.out) 3).trans rfl), ((blk_cell (HF_gx.out) 4).trans rfl), ((blk_cell (HF_gx.out) 5).trans rfl), ((blk_cell (HF_gx.out) 6).trans rfl), ((blk_cell (HF_gy.out) 0).trans rfl), ((blk_cell (HF_gy.out) 1).trans rfl), ((blk_cell (HF_gy.out) 2).trans rfl), ((blk_cell (HF_gy.out) 3).trans rfl), ((blk_cell (HF_gy.out) 4).trans rfl), ((blk_cell (HF_gy.out) 5).trans rfl), ((blk_cell (HF_gy.out) 6).trans rfl), HF_q.out⟩ (fun hHeld => ?_)
            clear hK K
            refine norm_ (a' := ?_) ?_ ?_
            rotate_left
            · show Act.put _ (some 122) _ = _
              simp only [Act.put, List.setIfInBounds_toArray, List.set_cons_zero, List.set_cons_succ, i64_w, i32_w]
              rfl
            refine pure_ (i := 30) (N := some 123) (v := ?_) (a' := ?_) #[true, true, true, true, true, true, true, true, true, true, true, true, true, true, true, true, true, true, true, true, true, true, true, true, true, true, true, true, true, true, true, false] rfl rfl (by kernel_rfl) (fun _ _ _ h => h) (Or.inl ⟨by rfl, ?_⟩) ?_ ?_
            rotate_left
            · intro w'
              go_simp
              with_reducible rfl
            rotate_left
            · simp only [Act.put, List.setIfInBounds_toArray, List.set_cons_zero, List.set_cons_succ, i64_w, i32_w]
              rfl
            refine pure_ (i := 31) (N := some 4) (v := ?_) (a' := ?_) #[true, true, true, true, true, true, true, true, true, true, true, true, true, true, true, true, true, true, true, true, true, true, true, true, true, true, true, true, true, true, true, true] rfl rfl (by kernel_rfl) (fun _ _ _ h => h) (Or.inl ⟨by rfl, ?_⟩) ?_ ?_
            rotate_left
            · intro w'
              go_simp
              with_reducible rfl
            rotate_left
            · simp only [Act.put, List.setIfInBounds_toArray, List.set_cons_zero, List.set_cons_succ, i64_w, i32_w]
              rfl
            refine done_ (by kernel_rfl) ?_
            go_wp2_with fail
            go_ret
            exact ⟨rfl, (HBW.out.trans (HBS.out.mono HBW.out.size)).trans (HBT.out.mono (HBW.out.trans (HBS.out.mono HBW.out.size)).size)⟩
        | succ kj2 =>
          have hj0 : 0 ≤ j := by have := HJ2.out; omega
          have hj1 : j < (b.length : Int) := by have := HJ2.out; omega
          have hxl : ys.length = b.length := HJ2.out.2.2
          obtain ⟨go, co', e1, _, _, _⟩ := Kd.R_form HO2.out (by have := HJ2.out; omega)
          have e2 : Am = some ⟨go, 0, none⟩ ∧ cm = co' := by injection e1 with a b c; exact ⟨a, c⟩
          obtain ⟨rfl, rfl⟩ := e2
          obtain ⟨hx, hf⟩ := Kd.R_celln 0 HO2.out j hj0 hj1
          have hgo := HO2.out.1 go rfl
          have HGO := Lib.hid hgo
          have hww : wrap64 (j + 1) = j + 1 := by have := HLB.out; unfold wrap64; omega
          clear e1 hxl hgo
          go_wp2_with fail
          go_roundg kj2
          case measure => omega
          case rel =>
            have h2g := HGO.out
            have h3 := HS3.out
            have h4 := HSR6.out
            have h5 := HS5.out
            have h6 := HS8.out
            have hk : ∀ (W : World) (u : Value), Kept W (W.setCell ⟨go, j.toNat, none⟩ u) (fun k => w6.heap.size ≤ k ∧ k < w7.heap.size) := fun W u => set_kept (ok := fun k => w6.heap.size ≤ k ∧ k < w7.heap.size) HGO.out
            refine ⟨ys.set j.toNat ((rdOf 0 ys j + 1) % 256), j + 1, rfl, Lib.hid ⟨?_, ?_, ?_⟩, Lib.hid (Kd.R_putg HO2.out j _).1, Lib.hid (HT2.out.kept (hk _ _) (HT2.out.2.2.2.1.setCell (p := ⟨go, j.toNat, none⟩) (by have := HL3.out; show w.heap.size ≤ go; omega) _) (fun k hk h => by have := h.1; omega)), Lib.hid (Kd.R_kept HQ2.out (hk _ _) (fun k hk h => by have := hk.2; have := h.1; omega)), Lib.hid (Kd.R_kept HX2.out (hk _ _) (fun k hk h => by have := hk.1; have := h.2; omega)), Lib.hid (blk_kept HG2.out (hk _ _) (fun h => by have := h.2; omega))⟩
            · have := HJ2.out; omega
            · have := HJ2.out; omega
            · have := HJ2.out; simp; omega
    | succ kj1 =>
      have hj0 : 0 ≤ j := by have := HJ.out; omega
      have hj1 : j < (pl.length : Int) := by have := HJ.out; omega
      have hxl : xs.length = pl.length := HJ.out.2.2
      obtain ⟨go, co', e1, _, _, _⟩ := Kd.R_form HO.out (by have := HJ.out; omega)
      have e2 : Ap = some ⟨go, 0, none⟩ ∧ cp = co' := by injection e1 with a b c; exact ⟨a, c⟩
      obtain ⟨rfl, rfl⟩ := e2
      obtain ⟨hx, hf⟩ := Kd.R_celln 0 HO.out j hj0 hj1
      have hgo := HO.out.1 go rfl
      have HGO := Lib.hid hgo
      have hww : wrap64 (j + 1) = j + 1 := by have := HPM.out; unfold wrap64; omega
      clear e1 hxl hgo
      go_wp2_with fail
      go_roundg kj1
      case measure => omega
      case rel =>
        have h2g := HGO.out
        have h3 := HS3.out
        refine ⟨xs.set j.toNat ((rdOf 0 xs j + 1) % 256), j + 1, rfl, Lib.hid ⟨?_, ?_, ?_⟩, Lib.hid (Kd.R_putg HO.out j _).1, Lib.hid (HT.out.kept (set_kept (ok := fun k => wS.heap.size ≤ k ∧ k < w5.heap.size) HGO.out) (HT.out.2.2.2.1.setCell (p := ⟨go, j.toNat, none⟩) (by have := HL3.out; show w.heap.size ≤ go; omega) _) (fun k hk h => by have := h.1; omega)), Lib.hid (by simpa using HSR.out)⟩
        · have := HJ.out; omega
        · have := HJ.out; omega
        · have := HJ.out; simp; omega
end Go.Proofs.YtghfofjlafeliaaDoor.PureO
