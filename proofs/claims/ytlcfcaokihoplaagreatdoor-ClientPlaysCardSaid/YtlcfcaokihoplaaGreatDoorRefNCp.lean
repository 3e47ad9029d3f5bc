-- Cut.
import Derived.Test.YtlcfcaokihoplaaGreatDoorOpenCliCp
import Derived.Test.YtlcfcaokihoplaaGreatDoorPRefCp
import Derived.Test.YtlcfcaokihoplaaGreatDoorPA2Cp
namespace Go.Proofs.YtlcfcaokihoplaaGreatDoor.Cli
open Go.RowKit Go.Proofs.YtlcfcaokihoplaaGreatDoor.Ms Go.Proofs.YzW.PrintWords Go.Proofs.YzW.PrintLast Go.Proofs.YzW.PrintMore
attribute [local go_sem] Go.Proofs.YtlcfcaokihoplaaGreatDoor.Ms.eqlErr Go.Proofs.YtlcfcaokihoplaaGreatDoor.Ms.neqErr Go.Proofs.YtlcfcaokihoplaaGreatDoor.Ms.eqlErrNil Go.Proofs.YtlcfcaokihoplaaGreatDoor.Ms.neqErrNil
set_option linter.unusedVariables false
set_option linter.unusedSimpArgs false
def dn_ (W : World) (B : Nat) (ok : Nat → Prop) (g : Nat) (f id t : Int) (wt : Bool) (body : ByteArray) (fs : List Int) (ss : List ByteArray) : Prop :=
 B ≤ g ∧ ok g ∧ fs.length ≤ 50000 ∧ ss.length ≤ 50000 ∧ ∃ v u, W.heap[g]? = some (.cells #[.int .i64 f, .int .i64 id, .int .i64 t, .bool wt, .string body, v, u] 34 (0, 0)) ∧
  Kd.R (Kd.int .i64) 3 W B (fun k => (ok k ∧ k ≠ g) ∧ some k ≠ u.ownBlock) v fs ∧ Kd.R Kd.string 9 W B (fun k => (ok k ∧ k ≠ g) ∧ some k ≠ v.ownBlock) u ss
section
variable {W W' : World} {B : Nat} {ok ok' S : Nat → Prop} {g : Nat} {f id t : Int} {wt : Bool} {body : ByteArray} {fs : List Int} {ss : List ByteArray}
theorem dn_.open_ (h : dn_ W B ok g f id t wt body fs ss) :
  ∃ A c A' c', W.heap[g]? = some (.cells #[.int .i64 f, .int .i64 id, .int .i64 t, .bool wt, .string body, .slice A fs.length c, .slice A' ss.length c'] 34 (0, 0)) ∧
   Kd.R (Kd.int .i64) 3 W B (fun k => (ok k ∧ k ≠ g) ∧ some k ≠ (Value.slice A' ss.length c').ownBlock) (.slice A fs.length c) fs ∧ Kd.R Kd.string 9 W B (fun k => (ok k ∧ k ≠ g) ∧ some k ≠ (Value.slice A fs.length c).ownBlock) (.slice A' ss.length c') ss ∧ B ≤ g ∧ ok g ∧ fs.length ≤ 50000 ∧ ss.length ≤ 50000 := by
 obtain ⟨hB, hok, hl, hl', v, u, hb, hr, hr'⟩ := h
 obtain ⟨A, c, rfl⟩ := Kd.R_slice hr
 obtain ⟨A', c', rfl⟩ := Kd.R_slice hr'
 exact ⟨A, c, A', c', hb, hr, hr', hB, hok, hl, hl'⟩
theorem dn_.mono (h : dn_ W B ok g f id t wt body fs ss) (hk : ∀ k, ok k → ok' k) : dn_ W B ok' g f id t wt body fs ss := by
 obtain ⟨hB, hok, hl, hl', v, u, hb, hr, hr'⟩ := h
 exact ⟨hB, hk _ hok, hl, hl', v, u, hb, Kd.R_mono hr (fun k h => ⟨⟨hk k h.1.1, h.1.2⟩, h.2⟩), Kd.R_mono hr' (fun k h => ⟨⟨hk k h.1.1, h.1.2⟩, h.2⟩)⟩
theorem dn_.below (h : dn_ W B ok g f id t wt body fs ss) (hb : Below W.heap.size W W') : dn_ W' B ok g f id t wt body fs ss := by
 obtain ⟨hB, hok, hl, hl', v, u, hg, hr, hr'⟩ := h
 exact ⟨hB, hok, hl, hl', v, u, s_ hg hb, Kd.R_below hr hb, Kd.R_below hr' hb⟩
theorem dn_.bound (h : dn_ W B ok g f id t wt body fs ss) : dn_ W B (fun k => ok k ∧ B ≤ k ∧ k < W.heap.size) g f id t wt body fs ss := by
 obtain ⟨hB, hok, hl, hl', v, u, hg, hr, hr'⟩ := h
 exact ⟨hB, ⟨hok, hB, bj_ hg⟩, hl, hl', v, u, hg, Kd.R_mono (Kd.R_bound hr) (fun k h => ⟨⟨⟨h.1.1.1, h.2.1, h.2.2.1⟩, h.1.1.2⟩, h.1.2⟩), Kd.R_mono (Kd.R_bound hr') (fun k h => ⟨⟨⟨h.1.1.1, h.2.1, h.2.2.1⟩, h.1.1.2⟩, h.1.2⟩)⟩
theorem dn_.kept (h : dn_ W B ok g f id t wt body fs ss) (hk : bv_ W W' S) (hne : ∀ k, ok k → ¬ S k) : dn_ W' B ok g f id t wt body fs ss := by
 obtain ⟨hB, hok, hl, hl', v, u, hg, hr, hr'⟩ := h
 exact ⟨hB, hok, hl, hl', v, u, dd_ hg hk (hne g hok), Kd.R_kept hr hk (fun k h => hne k h.1.1), Kd.R_kept hr' hk (fun k h => hne k h.1.1)⟩
theorem dn_.glt (h : dn_ W B ok g f id t wt body fs ss) : g < W.heap.size := by
 obtain ⟨hB, hok, hl, hl', v, u, hg, hr, hr'⟩ := h
 exact bj_ hg
end
def RefTo (w w' : World) (B : Nat) (ok : Nat → Prop) (g : Nat) (f id t : Int) (wt : Bool) (body : ByteArray) (fs : List Int) (ss : List ByteArray) : Prop :=
 dn_ w' B (fun k => ok k ∨ w.heap.size ≤ k) g f id t wt body fs ss ∧ bv_ w w' ok ∧ Below B w w'
theorem RefTo.of_below {w w' : World} {B : Nat} {ok : Nat → Prop} {g : Nat} {f id t : Int} {wt : Bool} {body : ByteArray} {fs : List Int} {ss : List ByteArray} (h : dn_ w B ok g f id t wt body fs ss) (hBw : B ≤ w.heap.size) (hb : Below w.heap.size w w') : RefTo w w' B ok g f id t wt body fs ss :=
 ⟨(h.below hb).mono (fun _ h => .inl h), bv_.of_below hb ok, hb.mono hBw⟩
set_option maxHeartbeats 8000000 in
set_option maxRecDepth 100000 in
theorem ref_Again (w : World) (B : Nat) (ok : Nat → Prop) (g : Nat) (f id t : Int) (wt : Bool) (body : ByteArray) (fs : List Int) (ss : List ByteArray) (h : dn_ w B ok g f id t wt body fs ss) :
  Calls Tryz.prog 14 #[.pointer (some ⟨g, 0, none⟩)] w fun e w' => e = .returned (msgQ id body) ∧ Below w.heap.size w w' := by
 obtain ⟨A, c, A', c', hb, hr, hr', hB, hok, hl, hl'⟩ := h.open_
 have hgl := h.glt
 have c1 : w.cell? ⟨g, 1, none⟩ = some (.int .i64 id) := (b_ hb 1).trans rfl
 have c4 : w.cell? ⟨g, 4, none⟩ = some (.string body) := (b_ hb 4).trans rfl
 have HB := Lib.hid hb
 clear hb hr hr' hB hok hl hl' h
 go_enter Tryz.func14, Tryz.ntmps14
 go_wp2_with fail
 have hX := heap_alloc_new w (.cells #[.int .i64 0, .int .i64 0, .int .i64 0, .int .i64 0, .string ⟨#[]⟩, .slice none 0 0, .slice none 0 0] 40)
 have hBl : Below w.heap.size w (w.alloc (.cells #[.int .i64 0, .int .i64 0, .int .i64 0, .int .i64 0, .string ⟨#[]⟩, .slice none 0 0, .slice none 0 0] 40)) := (Below.refl _ w).alloc (Nat.le_refl _) _
 have hl7 := bj_ hX
 generalize w.alloc (.cells #[.int .i64 0, .int .i64 0, .int .i64 0, .int .i64 0, .string ⟨#[]⟩, .slice none 0 0, .slice none 0 0] 40) = w1 at hX hBl hl7 ⊢
 have HBL := Lib.hid hBl
 have HC1 : Hid (w1.drew.cell? ⟨g, 1, none⟩ = some (.int .i64 id)) := Lib.hid ((b_ (o_ (s_ HB.out hBl)) 1).trans rfl)
 have HC4 : Hid (w1.drew.cell? ⟨g, 4, none⟩ = some (.string body)) := Lib.hid ((b_ (o_ (s_ HB.out hBl)) 4).trans rfl)
 obtain ⟨z0, z1, z2, z3, z4, z5, z6, y0, y1, y2, y3, y4, y5, y6⟩ := zero7 hX
 clear c1 c4 hX hBl
 refine start_ (n := 10) (S := fun w' => w'.cell? ⟨g, 1, none⟩ = some (.int .i64 id) ∧ w'.cell? ⟨g, 4, none⟩ = some (.string body)) (ds := [9]) #[F_, F_, F_, F_, F_, F_, F_, F_, F_, F_] (by kernel_rfl) rfl rfl ⟨HC1.out, HC4.out⟩ (fun hHeld => ?_)
 refine ay_ (i := 0) (N := some 3) (v := ?_) (a' := ?_) #[T_, F_, F_, F_, F_, F_, F_, F_, F_, F_] rfl rfl (by kernel_rfl) (fun _ _ _ h => h) (Or.inl ⟨by rfl, ?_⟩) ?_ ?_
 rotate_left
 ·intro w'
  go_simp
  with_reducible rfl
 rotate_left
 ·simp only [Act.put, sA_, sB_, sC_, af_, ag_]
  rfl
 refine ay_ (i := 1) (N := some 4) (v := ?_) (a' := ?_) #[T_, T_, F_, F_, F_, F_, F_, F_, F_, F_] rfl rfl (by kernel_rfl) (fun _ _ _ h => h) (Or.inl ⟨by rfl, ?_⟩) ?_ ?_
 rotate_left
 ·intro w'
  go_simp
  with_reducible rfl
 rotate_left
 ·simp only [Act.put, sA_, sB_, sC_, af_, ag_]
  rfl
 refine ay_ (i := 2) (N := some 5) (v := ?_) (a' := ?_) #[T_, T_, T_, F_, F_, F_, F_, F_, F_, F_] rfl rfl (by kernel_rfl) (fun _ _ _ h => h) (Or.inl ⟨by rfl, ?_⟩) ?_ ?_
 rotate_left
 ·intro w'
  go_simp
  with_reducible rfl
 rotate_left
 ·simp only [Act.put, sA_, sB_, sC_, af_, ag_]
  rfl
 refine ay_ (i := 4) (N := some 7) (v := ?_) (a' := ?_) #[T_, T_, T_, F_, T_, F_, F_, F_, F_, F_] rfl rfl (by kernel_rfl) (fun _ _ _ h => h) (Or.inl ⟨by rfl, ?_⟩) ?_ ?_
 rotate_left
 ·intro w'
  go_simp
  with_reducible rfl
 rotate_left
 ·simp only [Act.put, sA_, sB_, sC_, af_, ag_]
  rfl
 refine ay_ (i := 5) (N := some 8) (v := ?_) (a' := ?_) #[T_, T_, T_, F_, T_, T_, F_, F_, F_, F_] rfl rfl (by kernel_rfl) (fun _ _ _ h => h) (Or.inl ⟨by rfl, ?_⟩) ?_ ?_
 rotate_left
 ·intro w'
  go_simp
  with_reducible rfl
 rotate_left
 ·simp only [Act.put, sA_, sB_, sC_, af_, ag_]
  rfl
 refine ay_ (i := 6) (N := some 9) (v := ?_) (a' := ?_) #[T_, T_, T_, F_, T_, T_, T_, F_, F_, F_] rfl rfl (by kernel_rfl) (fun _ _ _ h => h) (Or.inl ⟨by rfl, ?_⟩) ?_ ?_
 rotate_left
 ·intro w'
  go_simp
  with_reducible rfl
 rotate_left
 ·simp only [Act.put, sA_, sB_, sC_, af_, ag_]
  rfl
 refine take_ (i := 3) (N := some 6) (v := ?_) (a' := ?_) #[T_, T_, T_, T_, T_, T_, T_, F_, F_, F_] rfl rfl (by kernel_rfl) (fun _ _ _ h => h) (Or.inl ⟨by rfl, ?_⟩) hHeld ?_ ?_
 rotate_left
 ·rintro w' ⟨s0, s1⟩
  go_simp
  with_reducible rfl
 rotate_left
 ·simp only [Act.put, sA_, sB_, sC_, af_, ag_]
  rfl
 refine take_ (i := 7) (N := some 10) (v := ?_) (a' := ?_) #[T_, T_, T_, T_, T_, T_, T_, T_, F_, F_] rfl rfl (by kernel_rfl) (fun _ _ _ h => h) (Or.inl ⟨by rfl, ?_⟩) hHeld ?_ ?_
 rotate_left
 ·rintro w' ⟨s0, s1⟩
  go_simp
  with_reducible rfl
 rotate_left
 ·simp only [Act.put, sA_, sB_, sC_, af_, ag_]
  rfl
 refine ay_ (i := 8) (N := some 11) (v := ?_) (a' := ?_) #[T_, T_, T_, T_, T_, T_, T_, T_, T_, F_] rfl rfl (by kernel_rfl) (fun _ _ _ h => h) (Or.inl ⟨by rfl, ?_⟩) ?_ ?_
 rotate_left
 ·intro w'
  go_simp
  with_reducible rfl
 rotate_left
 ·simp only [Act.put, sA_, sB_, sC_, af_, ag_]
  rfl
 refine last_ (i := 9) (N := none) #[T_, T_, T_, T_, T_, T_, T_, T_, T_, T_] rfl rfl (by kernel_rfl) (by decide) (fun K hK => ?_)
 refine skip_ (w1 := ?_) (by rfl) rfl ?_ ?_
 rotate_left
 ·go_simp
  rfl
 refine hK.out _ _ ?_
 clear hK K
 refine done_ (by kernel_rfl) ?_
 go_wp2
 refine bodyPost_ret (v := msgQ id body) ?_ rfl ?_
 ·unfold results
  go_simp
  rfl
 exact ⟨rfl, Below.drew (cp_ HBL.out (Nat.le_refl _) _ _ _ _ _ _ _)⟩
theorem rput_i {id t kd n : Int} {nm pt : ByteArray} {ks : List ByteArray} (h : PureO.mayB id t kd nm pt ks n = true) (hz : nm.size ≤ 5000 ∧ pt.size ≤ 5000 ∧ ks.length ≤ 100 ∧ ∀ x ∈ ks, x.size ≤ 5000) : aj_.f 1000 id t kd nm pt ks n = some (PureO.putB id.toNat t.toNat kd.toNat n.toNat nm pt ks) := by
 obtain ⟨b1, b2, b3, b4, _⟩ := PureO.may_bounds h
 obtain ⟨c', rfl⟩ : ∃ c' : Nat, id = c' := ⟨id.toNat, by omega⟩
 obtain ⟨t', rfl⟩ : ∃ t' : Nat, t = t' := ⟨t.toNat, by omega⟩
 obtain ⟨d', rfl⟩ : ∃ d' : Nat, kd = d' := ⟨kd.toNat, by omega⟩
 obtain ⟨n', rfl⟩ : ∃ n' : Nat, n = n' := ⟨n.toNat, by omega⟩
 rw [Int.toNat_natCast, Int.toNat_natCast, Int.toNat_natCast, Int.toNat_natCast]
 exact PureO.rput_f 795 c' t' d' n' nm pt ks (by omega) (by omega) (by omega) (by omega) hz.1 hz.2.1 hz.2.2.1 hz.2.2.2
set_option maxHeartbeats 8000000 in
set_option maxRecDepth 100000 in
theorem ref_Ask (w : World) (B : Nat) (ok : Nat → Prop) (g : Nat) (f id t : Int) (wt : Bool) (body : ByteArray) (fs : List Int) (ss : List ByteArray) (h : dn_ w B ok g f id t wt body fs ss) (ht : 0 ≤ t ∧ t ≤ 1000)
  (kd n : Int) (nm pt : ByteArray) (A : Option Addr) (c : Nat) (ks : List ByteArray) (hks : ∀ W : World, Below B w W → Kd.C Kd.string W A ks.length ks) (hc : ks.length ≤ c) (hn : nm.size ≤ 5000) (hp : pt.size ≤ 5000) (hl : ks.length ≤ 100) (hs : ∀ x ∈ ks, x.size ≤ 5000) :
  Calls Tryz.prog 10 #[.pointer (some ⟨g, 0, none⟩), .agg #[.int .i64 kd, .string nm, .string pt, .slice A ks.length c, .int .i64 n]] w fun e w' =>
   (ef_ wt t (PureO.mayB id (t + 1) kd nm pt ks n) = none ∧ e = .returned (.tuple #[msgQ id (newBody id t kd n nm pt ks), .int .i64 0]) ∧ RefTo w w' B ok g f id (t + 1) true (newBody id t kd n nm pt ks) [] []) ∨
   (∃ er, ef_ wt t (PureO.mayB id (t + 1) kd nm pt ks n) = some er ∧ e = .returned (.tuple #[msgZ, .int .i64 er]) ∧ RefTo w w' B ok g f id t wt body fs ss) := by
 have H := Lib.hid h
 have hgl := h.glt
 have HBW : Hid (B ≤ w.heap.size) := Lib.hid (by have := h.1; omega)
 obtain ⟨Av, cv, Au, cu, hb, hr, hr', hB, hok, hvl, hul⟩ := h.open_
 have c3 : w.cell? ⟨g, 3, none⟩ = some (.bool wt) := (b_ hb 3).trans rfl
 have c2 : w.cell? ⟨g, 2, none⟩ = some (.int .i64 t) := (b_ hb 2).trans rfl
 have HB := Lib.hid hb
 have HBG := Lib.hid hB
 have HOK := Lib.hid hok
 have HKS := Lib.hid hks
 have HC := Lib.hid hc
 have HT := Lib.hid ht
 have hgw : g ≠ w.heap.size := by omega
 have hgw1 : g ≠ w.heap.size + 1 := by omega
 have hgw2 : g ≠ w.heap.size + 2 := by omega
 have HGW := Lib.hid hgl
 have hpf := PureO.refmay_f 50000 id (t + 1) kd nm pt ks n hn hp (Nat.le_refl _)
 have HP := Lib.hid hpf
 have HSZ := Lib.hid (And.intro hn (And.intro hp (And.intro hl hs)))
 clear hb hr hr' hB hok hvl hul h hks hc ht hn hp hl hs hpf
 cases wt with
 | true =>
  have ha : ef_ true t (PureO.mayB id (t + 1) kd nm pt ks n) = some 6 := by unfold ef_; rw [if_pos rfl]
  rw [ha]
  clear ha
  go_enter Tryz.func10, Tryz.ntmps10
  go_wp2
  refine bodyPost_ret (v := .tuple #[msgZ, .int .i64 6]) ?_ rfl ?_
  ·unfold results
   go_simp
   rfl
  exact .inr ⟨6, rfl, rfl, RefTo.of_below H.out HBW.out (((Below.refl _ w).alloc (Nat.le_refl _) _).alloc (by simp) _)⟩
 | false =>
 by_cases hq : 1000 ≤ t
 ·have ha : ef_ false t (PureO.mayB id (t + 1) kd nm pt ks n) = some 5 := by unfold ef_; rw [if_neg (by decide), if_pos hq]
  have t1 : decide (1000 ≤ t) = true := by simpa using hq
  rw [ha]
  clear ha hq
  go_enter Tryz.func10, Tryz.ntmps10
  go_wp2
  refine bodyPost_ret (v := .tuple #[msgZ, .int .i64 5]) ?_ rfl ?_
  ·unfold results
   go_simp
   rfl
  exact .inr ⟨5, rfl, rfl, RefTo.of_below H.out HBW.out (((Below.refl _ w).alloc (Nat.le_refl _) _).alloc (by simp) _)⟩
 have t1 : decide (1000 ≤ t) = false := by simpa using hq
 have ha : ef_ false t (PureO.mayB id (t + 1) kd nm pt ks n) = if PureO.mayB id (t + 1) kd nm pt ks n = true then none else some 1 := by unfold ef_; rw [if_neg (by decide), if_neg hq]
 have HA := Lib.hid ha
 clear ha
 go_enter Tryz.func10, Tryz.ntmps10
 go_wp2_with fail
 obtain ⟨b1, hb1⟩ : ∃ b1, b1 = w.heap.size := ⟨_, rfl⟩
 have hX1 := heap_alloc_new w (.cells #[.int .i64 kd, .string nm, .string pt, .slice A ks.length c, .int .i64 n] 36)
 have hB1 : Below w.heap.size w (w.alloc (.cells #[.int .i64 kd, .string nm, .string pt, .slice A ks.length c, .int .i64 n] 36)) := (Below.refl _ w).alloc (Nat.le_refl _) _
 have hs1 : (w.alloc (.cells #[.int .i64 kd, .string nm, .string pt, .slice A ks.length c, .int .i64 n] 36)).heap.size = w.heap.size + 1 := by simp
 generalize w.alloc (.cells #[.int .i64 kd, .string nm, .string pt, .slice A ks.length c, .int .i64 n] 36) = wa at hX1 hB1 hs1 ⊢
 have hX2 := heap_alloc_new wa (.cells #[.int .i64 0, .int .i64 0, .int .i64 0, .int .i64 0, .string ⟨#[]⟩, .slice none 0 0, .slice none 0 0] 40)
 have hB2 : Below wa.heap.size wa (wa.alloc (.cells #[.int .i64 0, .int .i64 0, .int .i64 0, .int .i64 0, .string ⟨#[]⟩, .slice none 0 0, .slice none 0 0] 40)) := (Below.refl _ wa).alloc (Nat.le_refl _) _
 have hs2 : (wa.alloc (.cells #[.int .i64 0, .int .i64 0, .int .i64 0, .int .i64 0, .string ⟨#[]⟩, .slice none 0 0, .slice none 0 0] 40)).heap.size = wa.heap.size + 1 := by simp
 generalize wa.alloc (.cells #[.int .i64 0, .int .i64 0, .int .i64 0, .int .i64 0, .string ⟨#[]⟩, .slice none 0 0, .slice none 0 0] 40) = w1 at hX2 hB2 hs2 ⊢
 rw [hs1] at hX2 hs2
 rw [← hb1] at hX1 hX2 hs2 hgw hgw1 hgw2 ⊢
 have hX1' := s_ hX1 hB2
 have HX1 := Lib.hid hX1'
 have HX2 := Lib.hid hX2
 have HBL : Hid (Below w.heap.size w w1) := Lib.hid (hB1.trans (hB2.mono hB1.size))
 have HG1 := Lib.hid (s_ HB.out HBL.out)
 have HBB := Lib.hid hb1
 have HS1 : Hid (w1.heap.size = b1 + 2) := Lib.hid (by omega)
 clear hX1 hX2 hB1 hB2 hs1 hs2 hX1' hb1 c2 c3 wa
 refine start_ (n := 13) (S := fun w' => w'.cell? ⟨g, 1, none⟩ = some (.int .i64 id) ∧ w'.cell? ⟨g, 2, none⟩ = some (.int .i64 t) ∧ w'.cell? ⟨b1, 0, none⟩ = some (.int .i64 kd) ∧ w'.cell? ⟨b1, 1, none⟩ = some (.string nm) ∧ w'.cell? ⟨b1, 2, none⟩ = some (.string pt) ∧ w'.cell? ⟨b1, 3, none⟩ = some (.slice A ks.length c) ∧ w'.cell? ⟨b1, 4, none⟩ = some (.int .i64 n)) (ds := [12]) #[F_, F_, F_, F_, F_, F_, F_, F_, F_, F_, F_, F_, F_] (by kernel_rfl) rfl rfl ⟨((b_ (o_ HG1.out) 1).trans rfl), ((b_ (o_ HG1.out) 2).trans rfl), ((b_ (o_ HX1.out) 0).trans rfl), ((b_ (o_ HX1.out) 1).trans rfl), ((b_ (o_ HX1.out) 2).trans rfl), ((b_ (o_ HX1.out) 3).trans rfl), ((b_ (o_ HX1.out) 4).trans rfl)⟩ (fun hHeld => ?_)
 refine ay_ (i := 0) (N := some 19) (v := ?_) (a' := ?_) #[T_, F_, F_, F_, F_, F_, F_, F_, F_, F_, F_, F_, F_] rfl rfl (by kernel_rfl) (fun _ _ _ h => h) (Or.inl ⟨by rfl, ?_⟩) ?_ ?_
 rotate_left
 ·intro w'
  go_simp
  with_reducible rfl
 rotate_left
 ·simp only [Act.put, sA_, sB_, sC_, af_, ag_]
  rfl
 refine ay_ (i := 1) (N := some 20) (v := ?_) (a' := ?_) #[T_, T_, F_, F_, F_, F_, F_, F_, F_, F_, F_, F_, F_] rfl rfl (by kernel_rfl) (fun _ _ _ h => h) (Or.inl ⟨by rfl, ?_⟩) ?_ ?_
 rotate_left
 ·intro w'
  go_simp
  with_reducible rfl
 rotate_left
 ·simp only [Act.put, sA_, sB_, sC_, af_, ag_]
  rfl
 refine ay_ (i := 2) (N := some 21) (v := ?_) (a' := ?_) #[T_, T_, T_, F_, F_, F_, F_, F_, F_, F_, F_, F_, F_] rfl rfl (by kernel_rfl) (fun _ _ _ h => h) (Or.inl ⟨by rfl, ?_⟩) ?_ ?_
 rotate_left
 ·intro w'
  go_simp
  with_reducible rfl
 rotate_left
 ·simp only [Act.put, sA_, sB_, sC_, af_, ag_]
  rfl
 refine ay_ (i := 4) (N := some 23) (v := ?_) (a' := ?_) #[T_, T_, T_, F_, T_, F_, F_, F_, F_, F_, F_, F_, F_] rfl rfl (by kernel_rfl) (fun _ _ _ h => h) (Or.inl ⟨by rfl, ?_⟩) ?_ ?_
 rotate_left
 ·intro w'
  go_simp
  with_reducible rfl
 rotate_left
 ·simp only [Act.put, sA_, sB_, sC_, af_, ag_]
  rfl
 refine ay_ (i := 5) (N := some 24) (v := ?_) (a' := ?_) #[T_, T_, T_, F_, T_, T_, F_, F_, F_, F_, F_, F_, F_] rfl rfl (by kernel_rfl) (fun _ _ _ h => h) (Or.inl ⟨by rfl, ?_⟩) ?_ ?_
 rotate_left
 ·intro w'
  go_simp
  with_reducible rfl
 rotate_left
 ·simp only [Act.put, sA_, sB_, sC_, af_, ag_]
  rfl
 refine ay_ (i := 6) (N := some 25) (v := ?_) (a' := ?_) #[T_, T_, T_, F_, T_, T_, T_, F_, F_, F_, F_, F_, F_] rfl rfl (by kernel_rfl) (fun _ _ _ h => h) (Or.inl ⟨by rfl, ?_⟩) ?_ ?_
 rotate_left
 ·intro w'
  go_simp
  with_reducible rfl
 rotate_left
 ·simp only [Act.put, sA_, sB_, sC_, af_, ag_]
  rfl
 refine take_ (i := 3) (N := some 22) (v := ?_) (a' := ?_) #[T_, T_, T_, T_, T_, T_, T_, F_, F_, F_, F_, F_, F_] rfl rfl (by kernel_rfl) (fun _ _ _ h => h) (Or.inl ⟨by rfl, ?_⟩) hHeld ?_ ?_
 rotate_left
 ·rintro w' ⟨s0, s1, s2, s3, s4, s5, s6⟩
  go_simp
  with_reducible rfl
 rotate_left
 ·simp only [Act.put, sA_, sB_, sC_, af_, ag_]
  rfl
 refine take_ (i := 7) (N := some 26) (v := ?_) (a' := ?_) #[T_, T_, T_, T_, T_, T_, T_, T_, F_, F_, F_, F_, F_] rfl rfl (by kernel_rfl) (fun _ _ _ h => h) (Or.inl ⟨by rfl, ?_⟩) hHeld ?_ ?_
 rotate_left
 ·rintro w' ⟨s0, s1, s2, s3, s4, s5, s6⟩
  go_simp
  with_reducible rfl
 rotate_left
 ·simp only [Act.put, sA_, sB_, sC_, af_, ag_]
  rfl
 refine ay_ (i := 8) (N := some 27) (v := ?_) (a' := ?_) #[T_, T_, T_, T_, T_, T_, T_, T_, T_, F_, F_, F_, F_] rfl rfl (by kernel_rfl) (fun _ _ _ h => h) (Or.inl ⟨by rfl, ?_⟩) ?_ ?_
 rotate_left
 ·intro w'
  go_simp
  with_reducible rfl
 rotate_left
 ·simp only [Act.put, sA_, sB_, sC_, af_, ag_]
  rfl
 refine take_ (i := 9) (N := some 28) (v := ?_) (a' := ?_) #[T_, T_, T_, T_, T_, T_, T_, T_, T_, T_, F_, F_, F_] rfl rfl (by kernel_rfl) (fun _ _ _ h => h) (Or.inl ⟨by rfl, ?_⟩) hHeld ?_ ?_
 rotate_left
 ·rintro w' ⟨s0, s1, s2, s3, s4, s5, s6⟩
  go_simp
  with_reducible rfl
 rotate_left
 ·simp only [Act.put, sA_, sB_, sC_, af_, ag_]
  rfl
 refine ay_ (i := 10) (N := some 29) (v := ?_) (a' := ?_) #[T_, T_, T_, T_, T_, T_, T_, T_, T_, T_, T_, F_, F_] rfl rfl (by kernel_rfl) (fun _ _ _ h => h) (Or.inl ⟨by rfl, ?_⟩) ?_ ?_
 rotate_left
 ·intro w'
  go_simp
  with_reducible rfl
 rotate_left
 ·simp only [Act.put, sA_, sB_, sC_, af_, ag_]
  rfl
 refine one_ (i := 11) (N := some 6) #[T_, T_, T_, T_, T_, T_, T_, T_, T_, T_, T_, T_, F_] rfl rfl (by kernel_rfl) (by decide) (fun K hK => ?_)
 refine value_ (w1 := ?_) (v := ?_) (by rfl) rfl ?_ ?_
 rotate_left 2
 ·go_simp
  constructor
  ·rfl
  ·rfl
 refine hK.out _ _ ⟨((b_ (s_ HG1.out (((Below.refl _ w1).alloc (Nat.le_refl _) _).drew)) 1).trans rfl), ((b_ (s_ HG1.out (((Below.refl _ w1).alloc (Nat.le_refl _) _).drew)) 2).trans rfl), ((b_ (s_ HX1.out (((Below.refl _ w1).alloc (Nat.le_refl _) _).drew)) 0).trans rfl), ((b_ (s_ HX1.out (((Below.refl _ w1).alloc (Nat.le_refl _) _).drew)) 1).trans rfl), ((b_ (s_ HX1.out (((Below.refl _ w1).alloc (Nat.le_refl _) _).drew)) 2).trans rfl), ((b_ (s_ HX1.out (((Below.refl _ w1).alloc (Nat.le_refl _) _).drew)) 3).trans rfl), ((b_ (s_ HX1.out (((Below.refl _ w1).alloc (Nat.le_refl _) _).drew)) 4).trans rfl)⟩ (fun hHeld => ?_)
 clear hK K
 refine norm_ (a' := ?_) ?_ ?_
 rotate_left
 ·show Act.put _ (some 6) _ = _
  simp only [Act.put, sA_, sB_, sC_, af_, ag_]
  rfl
 refine last_ (i := 12) (N := none) #[T_, T_, T_, T_, T_, T_, T_, T_, T_, T_, T_, T_, T_] rfl rfl (by kernel_rfl) (by decide) (fun K hK => ?_)
 refine skip_ (w1 := ?_) (by rfl) rfl ?_ ?_
 rotate_left
 ·go_simp
  rfl
 refine hK.out _ _ ?_
 clear hK K
 refine done_ (by kernel_rfl) ?_
 have hwt : wrap64 (t + 1) = t + 1 := by have := HT.out; unfold wrap64; omega
 rw [hwt]
 have hX3 := o_ (heap_alloc_new w1 (.cells #[.int .i64 id, .int .i64 (t + 1), .int .i64 kd, .string nm, .string pt, .slice A ks.length c, .int .i64 n] 74))
 have hB3 : Below w1.heap.size w1 (w1.alloc (.cells #[.int .i64 id, .int .i64 (t + 1), .int .i64 kd, .string nm, .string pt, .slice A ks.length c, .int .i64 n] 74)).drew := ((Below.refl _ w1).alloc (Nat.le_refl _) _).drew
 have hs3 : (w1.alloc (.cells #[.int .i64 id, .int .i64 (t + 1), .int .i64 kd, .string nm, .string pt, .slice A ks.length c, .int .i64 n] 74)).drew.heap.size = w1.heap.size + 1 := by show (w1.alloc (.cells #[.int .i64 id, .int .i64 (t + 1), .int .i64 kd, .string nm, .string pt, .slice A ks.length c, .int .i64 n] 74)).heap.size = _; simp
 clear hHeld
 generalize (w1.alloc (.cells #[.int .i64 id, .int .i64 (t + 1), .int .i64 kd, .string nm, .string pt, .slice A ks.length c, .int .i64 n] 74)).drew = w2 at hX3 hB3 hs3 ⊢
 rw [HS1.out] at hX3 hs3 ⊢
 have HX3 := Lib.hid hX3
 have HB2 := Lib.hid (HBL.out.trans (hB3.mono HBL.out.size))
 have HZ2 := Lib.hid (s_ HX2.out hB3)
 have HG2 := Lib.hid (s_ HG1.out hB3)
 have HS2 : Hid (w2.heap.size = b1 + 3) := Lib.hid hs3
 have HWT := Lib.hid hwt
 have q0 : w2.cell? ⟨b1 + 2, 0, none⟩ = some (.int .i64 id) := (b_ hX3 0).trans rfl
 have q1 : w2.cell? ⟨b1 + 2, 1, none⟩ = some (.int .i64 (t + 1)) := (b_ hX3 1).trans rfl
 have q2 : w2.cell? ⟨b1 + 2, 2, none⟩ = some (.int .i64 kd) := (b_ hX3 2).trans rfl
 have q3 : w2.cell? ⟨b1 + 2, 3, none⟩ = some (.string nm) := (b_ hX3 3).trans rfl
 have q4 : w2.cell? ⟨b1 + 2, 4, none⟩ = some (.string pt) := (b_ hX3 4).trans rfl
 have q5 : w2.cell? ⟨b1 + 2, 5, none⟩ = some (.slice A ks.length c) := (b_ hX3 5).trans rfl
 have q6 : w2.cell? ⟨b1 + 2, 6, none⟩ = some (.int .i64 n) := (b_ hX3 6).trans rfl
 clear hX3 hB3 hs3 hwt HX1 HX2 HG1
 go_wp2_with fail
 refine (ds_.calls 50000 id (t + 1) kd nm pt A c ks n (PureO.mayB id (t + 1) kd nm pt ks n) w2 (HKS.out w2 (HB2.out.mono HBW.out)) HC.out HP.out).mono ?_
 rintro e w3 ⟨rfl, hb3⟩
 have HX4 := Lib.hid (s_ HX3.out hb3)
 have HZ3 := Lib.hid (s_ HZ2.out hb3)
 have HG3 := Lib.hid (s_ HG2.out hb3)
 have HB3 := Lib.hid (HB2.out.trans (hb3.mono HB2.out.size))
 have HS3 : Hid (b1 + 3 ≤ w3.heap.size) := Lib.hid (by have := HS2.out; have := hb3.size; omega)
 clear hb3 q0 q1 q2 q3 q4 q5 q6 HX3 HZ2 HG2 HB2 HS2
 rcases (show PureO.mayB id (t + 1) kd nm pt ks n = false ∨ PureO.mayB id (t + 1) kd nm pt ks n = true by cases PureO.mayB id (t + 1) kd nm pt ks n <;> simp) with hm | hm
 ·rw [hm]
  have HM := Lib.hid hm
  obtain ⟨z0, z1, z2, z3, z4, z5, z6, y0, y1, y2, y3, y4, y5, y6⟩ := zero7 HZ3.out
  clear hm
  go_wp2
  refine bodyPost_ret (v := .tuple #[msgZ, .int .i64 1]) ?_ rfl ?_
  ·unfold results
   go_simp
   rfl
  exact .inr ⟨1, by rw [HA.out, HM.out]; rfl, rfl, RefTo.of_below H.out HBW.out (cp_ HB3.out (by have := HBB.out; omega) _ _ _ _ _ _ _)⟩
 rw [hm]
 have HM := Lib.hid hm
 have c2 : w3.cell? ⟨g, 2, none⟩ = some (.int .i64 t) := (b_ HG3.out 2).trans rfl
 have f2 := a_ HG3.out 2
 have c3 : w3.cell? ⟨g, 3, none⟩ = some (.bool false) := (b_ HG3.out 3).trans rfl
 have f3 := a_ HG3.out 3
 have q0 : w3.cell? ⟨b1 + 2, 0, none⟩ = some (.int .i64 id) := (b_ HX4.out 0).trans rfl
 have q1 : w3.cell? ⟨b1 + 2, 1, none⟩ = some (.int .i64 (t + 1)) := (b_ HX4.out 1).trans rfl
 have q2 : w3.cell? ⟨b1 + 2, 2, none⟩ = some (.int .i64 kd) := (b_ HX4.out 2).trans rfl
 have q3 : w3.cell? ⟨b1 + 2, 3, none⟩ = some (.string nm) := (b_ HX4.out 3).trans rfl
 have q4 : w3.cell? ⟨b1 + 2, 4, none⟩ = some (.string pt) := (b_ HX4.out 4).trans rfl
 have q5 : w3.cell? ⟨b1 + 2, 5, none⟩ = some (.slice A ks.length c) := (b_ HX4.out 5).trans rfl
 have q6 : w3.cell? ⟨b1 + 2, 6, none⟩ = some (.int .i64 n) := (b_ HX4.out 6).trans rfl
 have hgw2' := Ne.symm hgw2
 have hwt := HWT.out
 clear hm
 go_wp2_with fail
 have hne1 : b1 + 1 ≠ g := Ne.symm hgw1
 have hg4 : ((w3.setCell ⟨g, 2, none⟩ (.int .i64 (t + 1))).setCell ⟨g, 3, none⟩ (.bool true)).heap[g]? = some (.cells #[.int .i64 f, .int .i64 id, .int .i64 (t + 1), .bool true, .string body, .slice Av fs.length cv, .slice Au ss.length cu] 34 (0, 0)) := by
  have := dc_ (dc_ HG3.out 2 (.int .i64 (t + 1))) 3 (.bool true)
  simpa using this
 have hz4 := bl_ (bl_ HZ3.out (p := ⟨g, 2, none⟩) hne1 (.int .i64 (t + 1))) (p := ⟨g, 3, none⟩) hne1 (.bool true)
 have hK4 : bv_ w ((w3.setCell ⟨g, 2, none⟩ (.int .i64 (t + 1))).setCell ⟨g, 3, none⟩ (.bool true)) ok := bv_.setCell (p := ⟨g, 3, none⟩) (bv_.setCell (p := ⟨g, 2, none⟩) (bv_.of_below HB3.out ok) (.inl HOK.out) _) (.inl HOK.out) _
 have hB4 : Below B w ((w3.setCell ⟨g, 2, none⟩ (.int .i64 (t + 1))).setCell ⟨g, 3, none⟩ (.bool true)) := Below.setCell (p := ⟨g, 3, none⟩) (Below.setCell (p := ⟨g, 2, none⟩) (HB3.out.mono HBW.out) HBG.out _) HBG.out _
 have hs4 : ((w3.setCell ⟨g, 2, none⟩ (.int .i64 (t + 1))).setCell ⟨g, 3, none⟩ (.bool true)).heap.size = w3.heap.size := by simp
 clear q0 q1 q2 q3 q4 q5 q6 c2 c3 f2 f3 hwt
 generalize (w3.setCell ⟨g, 2, none⟩ (.int .i64 (t + 1))).setCell ⟨g, 3, none⟩ (.bool true) = w4 at hg4 hz4 hK4 hB4 hs4 ⊢
 have HG4 := Lib.hid hg4
 have HZ4 := Lib.hid hz4
 have HK4 := Lib.hid hK4
 have HB4 := Lib.hid hB4
 have HS4 : Hid (b1 + 3 ≤ w4.heap.size) := Lib.hid (by rw [hs4]; exact HS3.out)
 clear hg4 hz4 hK4 hB4 hs4 HG3 HZ3 HX4 HB3
 refine (aj_.calls 1000 id (t + 1) kd nm pt A c ks n _ w4 (HKS.out w4 HB4.out) HC.out (rput_i HM.out HSZ.out)).mono ?_
 rintro e w5 ⟨v0, rfl, hr5, hb5⟩
 obtain ⟨A1, c1, rfl⟩ := Kd.R_slice hr5
 have hR5 := Kd.R_mono (ok' := fun k => w4.heap.size ≤ k) (Kd.R_bound hr5) (fun k hk => hk.2.1)
 have hcv := fun W (hk : bv_ w5 W (fun k => k = g)) => own_string (P := Tryz.prog) Tryz.underlying70 Tryz.underlying5 Tryz.underlying9 (Kd.own_of_R (Kd.R_kept hR5 hk (fun k hk e => by have := HS4.out; have := HGW.out; have := HBB.out; omega)))
 have hcv5 := hcv w5 (bv_.refl _ _)
 have HG5 := Lib.hid (s_ HG4.out hb5)
 have HZ5 := Lib.hid (s_ HZ4.out hb5)
 have HK5 := Lib.hid (HK4.out.below hb5)
 have HB5 := Lib.hid (HB4.out.trans (hb5.mono (by have := HBW.out; have := HBB.out; have := HS4.out; omega)))
 have HS5 : Hid (b1 + 3 ≤ w5.heap.size) := Lib.hid (Nat.le_trans HS4.out hb5.size)
 have c4 : w5.cell? ⟨g, 4, none⟩ = some (.string body) := (b_ HG5.out 4).trans rfl
 have c5 : w5.cell? ⟨g, 5, none⟩ = some (.slice Av fs.length cv) := (b_ HG5.out 5).trans rfl
 have c6 : w5.cell? ⟨g, 6, none⟩ = some (.slice Au ss.length cu) := (b_ HG5.out 6).trans rfl
 have f4 := a_ HG5.out 4
 have f5 := a_ HG5.out 5
 have f6 := a_ HG5.out 6
 clear hr5 hb5 hR5 hcv HG4 HZ4 HK4 HB4 HS4
 go_wp2_with fail
 obtain ⟨nb, hnb⟩ : ∃ nb, nb = newBody id t kd n nm pt ks := ⟨_, rfl⟩
 have HNB := Lib.hid hnb
 rw [show strOfNums (PureO.putB id.toNat (t + 1).toNat kd.toNat n.toNat nm pt ks) = nb from hnb.symm]
 have hg7 : (((w5.setCell ⟨g, 4, none⟩ (.string nb)).setCell ⟨g, 5, none⟩ (.slice none 0 0)).setCell ⟨g, 6, none⟩ (.slice none 0 0)).heap[g]? = some (.cells #[.int .i64 f, .int .i64 id, .int .i64 (t + 1), .bool true, .string nb, .slice none 0 0, .slice none 0 0] 34 (0, 0)) := by
  have := dc_ (dc_ (dc_ HG5.out 4 (.string nb)) 5 (.slice none 0 0)) 6 (.slice none 0 0)
  simpa using this
 have hz7 := bl_ (bl_ (bl_ HZ5.out (p := ⟨g, 4, none⟩) hne1 (.string nb)) (p := ⟨g, 5, none⟩) hne1 (.slice none 0 0)) (p := ⟨g, 6, none⟩) hne1 (.slice none 0 0)
 have hK7 : bv_ w (((w5.setCell ⟨g, 4, none⟩ (.string nb)).setCell ⟨g, 5, none⟩ (.slice none 0 0)).setCell ⟨g, 6, none⟩ (.slice none 0 0)) ok := bv_.setCell (p := ⟨g, 6, none⟩) (bv_.setCell (p := ⟨g, 5, none⟩) (bv_.setCell (p := ⟨g, 4, none⟩) HK5.out (.inl HOK.out) _) (.inl HOK.out) _) (.inl HOK.out) _
 have hB7 : Below B w (((w5.setCell ⟨g, 4, none⟩ (.string nb)).setCell ⟨g, 5, none⟩ (.slice none 0 0)).setCell ⟨g, 6, none⟩ (.slice none 0 0)) := Below.setCell (p := ⟨g, 6, none⟩) (Below.setCell (p := ⟨g, 5, none⟩) (Below.setCell (p := ⟨g, 4, none⟩) HB5.out HBG.out _) HBG.out _) HBG.out _
 have hs7 : (((w5.setCell ⟨g, 4, none⟩ (.string nb)).setCell ⟨g, 5, none⟩ (.slice none 0 0)).setCell ⟨g, 6, none⟩ (.slice none 0 0)).heap.size = w5.heap.size := by simp
 clear c4 c5 c6 f4 f5 f6 hcv5 hnb
 generalize ((w5.setCell ⟨g, 4, none⟩ (.string nb)).setCell ⟨g, 5, none⟩ (.slice none 0 0)).setCell ⟨g, 6, none⟩ (.slice none 0 0) = w7 at hg7 hz7 hK7 hB7 hs7 ⊢
 have HA7 : Hid (dn_ w7 B (fun k => k = g) g f id (t + 1) true nb [] []) := Lib.hid ⟨HBG.out, rfl, by simp, by simp, .slice none 0 0, .slice none 0 0, hg7, Kd.R_nil _ _ _ _ _, Kd.R_nil _ _ _ _ _⟩
 have HZ7 := Lib.hid hz7
 have HK7 := Lib.hid hK7
 have HB7 := Lib.hid hB7
 have HS7 : Hid (b1 + 3 ≤ w7.heap.size) := Lib.hid (by rw [hs7]; exact HS5.out)
 clear hg7 hz7 hK7 hB7 hs7 HG5 HZ5 HK5 HB5 HS5
 refine (ref_Again w7 _ _ _ _ _ _ _ _ _ _ HA7.out).mono ?_
 rintro e w8 ⟨rfl, hb8⟩
 unfold msgQ
 have hz8 := s_ HZ7.out hb8
 have HA8 := Lib.hid (HA7.out.below hb8)
 have HK8 := Lib.hid (HK7.out.below hb8)
 have HB8 := Lib.hid (HB7.out.trans (hb8.mono (by have := HS7.out; have := HBW.out; have := HBB.out; omega)))
 obtain ⟨z0, z1, z2, z3, z4, z5, z6, y0, y1, y2, y3, y4, y5, y6⟩ := zero7 hz8
 clear hz8 hb8
 go_wp2_with fail
 refine bodyPost_ret (v := .tuple #[msgQ id nb, .int .i64 0]) ?_ rfl ?_
 ·unfold results
  go_simp
  rfl
 have hBb : B ≤ b1 + 1 := by have := HBW.out; have := HBB.out; omega
 have hWb : w.heap.size ≤ b1 + 1 := by have := HBB.out; omega
 have hfin : ∀ w9 : World, bv_ w8 w9 (fun k => k = b1 + 1) → bv_ w w9 ok → Below B w w9 → RefTo w w9 B ok g f id (t + 1) true nb [] [] := fun w9 k1 k2 k3 =>
  ⟨((HA8.out.kept (S := fun k => k = b1 + 1) k1 (fun k hk e => by have h1 : k = g := hk; have := HBB.out; have := HGW.out; omega)).mono (fun k hk => .inl (by rw [show k = g from hk]; exact HOK.out))), k2, k3⟩
 rw [← HNB.out]
 exact .inl ⟨by rw [HA.out, HM.out]; rfl, rfl, hfin _ (dz_ (bv_.refl w8 (fun k => k = b1 + 1)) (.inl rfl) _ _ _ _ _ _ _) (dz_ HK8.out (.inr hWb) _ _ _ _ _ _ _) (cp_ HB8.out hBb _ _ _ _ _ _ _)⟩
end Go.Proofs.YtlcfcaokihoplaaGreatDoor.Cli
