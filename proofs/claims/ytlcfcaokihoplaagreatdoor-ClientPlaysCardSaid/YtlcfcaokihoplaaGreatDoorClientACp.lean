-- Cut.
import Derived.Test.YtlcfcaokihoplaaGreatDoorClientNCp
import Derived.Lib.Hide
import Derived.BigRegion
namespace Go.Proofs.YtlcfcaokihoplaaGreatDoor.Cli
open Go.RowKit Go.Proofs.YtlcfcaokihoplaaGreatDoor.Ms Go.Proofs.YzW.PrintWords Go.Proofs.YzW.PrintLast Go.Proofs.YzW.PrintMore
set_option linter.unusedVariables false
set_option linter.unusedSimpArgs false
def ef_ (wt : Bool) (t : Int) (may : Bool) : Option Int := if wt = true then some 6 else if 1000 ≤ t then some 5 else if may = true then none else some 1
def dg_ (w w' : World) (B : Nat) (ok : Nat → Prop) (g : Nat) (f id t : Int) (wt : Bool) (body : ByteArray) (vs : List S80) : Prop :=
 bq_ w' B (fun k => ok k ∨ w.heap.size ≤ k) g f id t wt body vs ∧ bv_ w w' ok ∧ Below B w w'
theorem dg_.of_below {w w' : World} {B : Nat} {ok : Nat → Prop} {g : Nat} {f id t : Int} {wt : Bool} {body : ByteArray} {vs : List S80} (h : bq_ w B ok g f id t wt body vs) (hBw : B ≤ w.heap.size) (hb : Below w.heap.size w w') : dg_ w w' B ok g f id t wt body vs :=
 ⟨(h.below hb).mono (fun _ h => .inl h), bv_.of_below hb ok, hb.mono hBw⟩
def newBody (id t kd n : Int) (nm pt : ByteArray) (ks : List ByteArray) : ByteArray := strOfNums (PureO.putB id.toNat (t + 1).toNat kd.toNat n.toNat nm pt ks)
set_option maxHeartbeats 8000000 in
set_option maxRecDepth 100000 in
theorem client_Ask (w : World) (B : Nat) (ok : Nat → Prop) (g : Nat) (f id t : Int) (wt : Bool) (body : ByteArray) (vs : List S80) (h : bq_ w B ok g f id t wt body vs) (ht : 0 ≤ t ∧ t ≤ 1000)
  (kd n : Int) (nm pt : ByteArray) (A : Option Addr) (c : Nat) (ks : List ByteArray) (hks : Kd.C Kd.string w A ks.length ks) (hc : ks.length ≤ c) (hn : nm.size ≤ 5000) (hp : pt.size ≤ 5000) (hl : ks.length ≤ 100) (hs : ∀ x ∈ ks, x.size ≤ 5000) :
  Calls Tryz.prog 9 #[.pointer (some ⟨g, 0, none⟩), .agg #[.int .i64 kd, .string nm, .string pt, .slice A ks.length c, .int .i64 n]] w fun e w' =>
   (ef_ wt t (PureO.mayB id (t + 1) kd nm pt ks n) = none ∧ e = .returned (.tuple #[msgQ id (newBody id t kd n nm pt ks), .nilIface]) ∧ dg_ w w' B ok g f id (t + 1) true (newBody id t kd n nm pt ks) []) ∨
   (∃ er, ef_ wt t (PureO.mayB id (t + 1) kd nm pt ks n) = some er ∧ e = .returned (.tuple #[msgZ, .iface 29 (.int .i64 er)]) ∧ dg_ w w' B ok g f id t wt body vs) := by
 have H := Lib.hid h
 have hgl := h.glt
 have HBW : Hid (B ≤ w.heap.size) := Lib.hid (by have := h.1; omega)
 obtain ⟨Av, cv, hb, hr, hB, hok, hvl⟩ := h.open_
 have c3 : w.cell? ⟨g, 3, none⟩ = some (.bool wt) := (b_ hb 3).trans rfl
 have c2 : w.cell? ⟨g, 2, none⟩ = some (.int .i64 t) := (b_ hb 2).trans rfl
 have HB := Lib.hid hb
 have HBG := Lib.hid hB
 have HOK := Lib.hid hok
 have HKS := Lib.hid hks
 have HC := Lib.hid hc
 have HT := Lib.hid ht
 have hgw : g ≠ w.heap.size := by omega
 have hgw1 : g ≠ w.heap.size + 1 := by omega
 have HGW := Lib.hid hgl
 have hpf := PureO.put_f 1000 id (t + 1) kd nm pt ks n hn hp hl hs (Nat.le_refl _)
 have HP := Lib.hid hpf
 clear hb hr hB hok hvl h hks hc ht hn hp hl hs hpf
 cases wt with
 | true =>
  have ha : ef_ true t (PureO.mayB id (t + 1) kd nm pt ks n) = some 6 := by unfold ef_; rw [if_pos rfl]
  rw [ha]
  clear ha
  go_enter Tryz.func9, Tryz.ntmps9
  go_wp2
  refine bodyPost_ret (v := .tuple #[msgZ, .iface 29 (.int .i64 6)]) ?_ rfl ?_
  ·unfold results
   go_simp
   rfl
  exact .inr ⟨6, rfl, rfl, dg_.of_below H.out HBW.out (((Below.refl _ w).alloc (Nat.le_refl _) _).alloc (by simp) _)⟩
 | false =>
 by_cases hq : 1000 ≤ t
 ·have ha : ef_ false t (PureO.mayB id (t + 1) kd nm pt ks n) = some 5 := by unfold ef_; rw [if_neg (by decide), if_pos hq]
  have t1 : decide (1000 ≤ t) = true := by simpa using hq
  rw [ha]
  clear ha hq
  go_enter Tryz.func9, Tryz.ntmps9
  go_wp2
  refine bodyPost_ret (v := .tuple #[msgZ, .iface 29 (.int .i64 5)]) ?_ rfl ?_
  ·unfold results
   go_simp
   rfl
  exact .inr ⟨5, rfl, rfl, dg_.of_below H.out HBW.out (((Below.refl _ w).alloc (Nat.le_refl _) _).alloc (by simp) _)⟩
 have t1 : decide (1000 ≤ t) = false := by simpa using hq
 have ha : ef_ false t (PureO.mayB id (t + 1) kd nm pt ks n) = if PureO.mayB id (t + 1) kd nm pt ks n = true then none else some 1 := by unfold ef_; rw [if_neg (by decide), if_neg hq]
 rw [ha]
 have hwt : wrap64 (t + 1) = t + 1 := by have := HT.out; unfold wrap64; omega
 clear ha hq
 go_enter Tryz.func9, Tryz.ntmps9
 go_wp2_with fail
 obtain ⟨b1, hb1⟩ : ∃ b1, b1 = w.heap.size := ⟨_, rfl⟩
 have hX1 := heap_alloc_new w (.cells #[.int .i64 kd, .string nm, .string pt, .slice A ks.length c, .int .i64 n] 36)
 have hB1 : Below w.heap.size w (w.alloc (.cells #[.int .i64 kd, .string nm, .string pt, .slice A ks.length c, .int .i64 n] 36)) := (Below.refl _ w).alloc (Nat.le_refl _) _
 have hs1 : (w.alloc (.cells #[.int .i64 kd, .string nm, .string pt, .slice A ks.length c, .int .i64 n] 36)).heap.size = w.heap.size + 1 := by simp
 generalize w.alloc (.cells #[.int .i64 kd, .string nm, .string pt, .slice A ks.length c, .int .i64 n] 36) = wa at hX1 hB1 hs1 ⊢
 have hX2 := heap_alloc_new wa (.cells #[.int .i64 0, .int .i64 0, .int .i64 0, .int .i64 0, .string ⟨#[]⟩, .slice none 0 0, .slice none 0 0] 40)
 have hB2 : Below wa.heap.size wa (wa.alloc (.cells #[.int .i64 0, .int .i64 0, .int .i64 0, .int .i64 0, .string ⟨#[]⟩, .slice none 0 0, .slice none 0 0] 40)) := (Below.refl _ wa).alloc (Nat.le_refl _) _
 have hs2 : (wa.alloc (.cells #[.int .i64 0, .int .i64 0, .int .i64 0, .int .i64 0, .string ⟨#[]⟩, .slice none 0 0, .slice none 0 0] 40)).heap.size = wa.heap.size + 1 := by simp
 generalize wa.alloc (.cells #[.int .i64 0, .int .i64 0, .int .i64 0, .int .i64 0, .string ⟨#[]⟩, .slice none 0 0, .slice none 0 0] 40) = w1 at hX2 hB2 hs2 ⊢
 rw [hs1] at hX2 hs2
 rw [← hb1] at hX1 hX2 hs2 hgw hgw1 ⊢
 have hX1' := s_ hX1 hB2
 have HX2 := Lib.hid hX2
 have HBL : Hid (Below w.heap.size w w1) := Lib.hid (hB1.trans (hB2.mono hB1.size))
 have HC1 : Hid (w1.drew.cell? ⟨g, 1, none⟩ = some (.int .i64 id)) := Lib.hid ((b_ (o_ (s_ HB.out HBL.out)) 1).trans rfl)
 have HC2 : Hid (w1.drew.cell? ⟨g, 2, none⟩ = some (.int .i64 t)) := Lib.hid ((b_ (o_ (s_ HB.out HBL.out)) 2).trans rfl)
 have HX0 : Hid (w1.drew.cell? ⟨b1, 0, none⟩ = some (.int .i64 kd)) := Lib.hid ((b_ (o_ hX1') 0).trans rfl)
 have HX1 : Hid (w1.drew.cell? ⟨b1, 1, none⟩ = some (.string nm)) := Lib.hid ((b_ (o_ hX1') 1).trans rfl)
 have HX2' : Hid (w1.drew.cell? ⟨b1, 2, none⟩ = some (.string pt)) := Lib.hid ((b_ (o_ hX1') 2).trans rfl)
 have HX3 : Hid (w1.drew.cell? ⟨b1, 3, none⟩ = some (.slice A ks.length c)) := Lib.hid ((b_ (o_ hX1') 3).trans rfl)
 have HX4 : Hid (w1.drew.cell? ⟨b1, 4, none⟩ = some (.int .i64 n)) := Lib.hid ((b_ (o_ hX1') 4).trans rfl)
 have HBX : Hid (b1 < w1.heap.size) := Lib.hid (bj_ hX1')
 have HGL : Hid (g < w1.heap.size) := Lib.hid (bj_ (s_ HB.out HBL.out))
 have HSZ : Hid (w1.heap.size = b1 + 2) := Lib.hid hs2
 have HB1 := Lib.hid hb1
 obtain ⟨R1, R2, hpf, hcs⟩ : ∃ R1 R2, bc_.f 1000 id (t + 1) kd nm pt ks n = some (R1, R2) ∧ ((PureO.mayB id (t + 1) kd nm pt ks n = true ∧ R1 = PureO.putB id.toNat (t + 1).toNat kd.toNat n.toNat nm pt ks ∧ R2 = none) ∨ (PureO.mayB id (t + 1) kd nm pt ks n = false ∧ R1 = [] ∧ R2 = some 1)) := by
  rw [HP.out]
  cases hm : PureO.mayB id (t + 1) kd nm pt ks n with
  | true => exact ⟨_, _, rfl, .inl ⟨rfl, rfl, rfl⟩⟩
  | false => exact ⟨_, _, rfl, .inr ⟨rfl, rfl, rfl⟩⟩
 have HPF := Lib.hid hpf
 have HCS := Lib.hid hcs
 clear hX1 hX2 hB1 hB2 hs1 hs2 hX1' hpf hcs HP c2 c3 hb1 wa
 refine start_ (n := 17) (S := fun w' => w'.cell? ⟨g, 1, none⟩ = some (.int .i64 id) ∧ w'.cell? ⟨g, 2, none⟩ = some (.int .i64 t) ∧ w'.cell? ⟨b1, 0, none⟩ = some (.int .i64 kd) ∧ w'.cell? ⟨b1, 1, none⟩ = some (.string nm) ∧ w'.cell? ⟨b1, 2, none⟩ = some (.string pt) ∧ w'.cell? ⟨b1, 3, none⟩ = some (.slice A ks.length c) ∧ w'.cell? ⟨b1, 4, none⟩ = some (.int .i64 n)) (ds := []) #[F_, F_, F_, F_, F_, F_, F_, F_, F_, F_, F_, F_, F_, F_, F_, F_, F_] (by kernel_rfl) rfl rfl ⟨HC1.out, HC2.out, HX0.out, HX1.out, HX2'.out, HX3.out, HX4.out⟩ (fun hHeld => ?_)
 refine ay_ (i := 0) (N := some 26) (v := ?_) (a' := ?_) #[T_, F_, F_, F_, F_, F_, F_, F_, F_, F_, F_, F_, F_, F_, F_, F_, F_] rfl rfl (by kernel_rfl) (fun _ _ _ h => h) (Or.inl ⟨by rfl, ?_⟩) ?_ ?_
 rotate_left
 ·intro w'
  go_simp
  with_reducible rfl
 rotate_left
 ·simp only [Act.put, sA_, sB_, sC_, af_, ag_]
  rfl
 refine ay_ (i := 1) (N := some 27) (v := ?_) (a' := ?_) #[T_, T_, F_, F_, F_, F_, F_, F_, F_, F_, F_, F_, F_, F_, F_, F_, F_] rfl rfl (by kernel_rfl) (fun _ _ _ h => h) (Or.inl ⟨by rfl, ?_⟩) ?_ ?_
 rotate_left
 ·intro w'
  go_simp
  with_reducible rfl
 rotate_left
 ·simp only [Act.put, sA_, sB_, sC_, af_, ag_]
  rfl
 refine ay_ (i := 2) (N := some 28) (v := ?_) (a' := ?_) #[T_, T_, T_, F_, F_, F_, F_, F_, F_, F_, F_, F_, F_, F_, F_, F_, F_] rfl rfl (by kernel_rfl) (fun _ _ _ h => h) (Or.inl ⟨by rfl, ?_⟩) ?_ ?_
 rotate_left
 ·intro w'
  go_simp
  with_reducible rfl
 rotate_left
 ·simp only [Act.put, sA_, sB_, sC_, af_, ag_]
  rfl
 refine ay_ (i := 4) (N := some 30) (v := ?_) (a' := ?_) #[T_, T_, T_, F_, T_, F_, F_, F_, F_, F_, F_, F_, F_, F_, F_, F_, F_] rfl rfl (by kernel_rfl) (fun _ _ _ h => h) (Or.inl ⟨by rfl, ?_⟩) ?_ ?_
 rotate_left
 ·intro w'
  go_simp
  with_reducible rfl
 rotate_left
 ·simp only [Act.put, sA_, sB_, sC_, af_, ag_]
  rfl
 refine ay_ (i := 5) (N := some 31) (v := ?_) (a' := ?_) #[T_, T_, T_, F_, T_, T_, F_, F_, F_, F_, F_, F_, F_, F_, F_, F_, F_] rfl rfl (by kernel_rfl) (fun _ _ _ h => h) (Or.inl ⟨by rfl, ?_⟩) ?_ ?_
 rotate_left
 ·intro w'
  go_simp
  with_reducible rfl
 rotate_left
 ·simp only [Act.put, sA_, sB_, sC_, af_, ag_]
  rfl
 refine ay_ (i := 6) (N := some 32) (v := ?_) (a' := ?_) #[T_, T_, T_, F_, T_, T_, T_, F_, F_, F_, F_, F_, F_, F_, F_, F_, F_] rfl rfl (by kernel_rfl) (fun _ _ _ h => h) (Or.inl ⟨by rfl, ?_⟩) ?_ ?_
 rotate_left
 ·intro w'
  go_simp
  with_reducible rfl
 rotate_left
 ·simp only [Act.put, sA_, sB_, sC_, af_, ag_]
  rfl
 refine take_ (i := 3) (N := some 29) (v := ?_) (a' := ?_) #[T_, T_, T_, T_, T_, T_, T_, F_, F_, F_, F_, F_, F_, F_, F_, F_, F_] rfl rfl (by kernel_rfl) (fun _ _ _ h => h) (Or.inl ⟨by rfl, ?_⟩) hHeld ?_ ?_
 rotate_left
 ·rintro w' ⟨s0, s1, s2, s3, s4, s5, s6⟩
  go_simp
  with_reducible rfl
 rotate_left
 ·simp only [Act.put, sA_, sB_, sC_, af_, ag_]
  rfl
 refine take_ (i := 7) (N := some 33) (v := ?_) (a' := ?_) #[T_, T_, T_, T_, T_, T_, T_, T_, F_, F_, F_, F_, F_, F_, F_, F_, F_] rfl rfl (by kernel_rfl) (fun _ _ _ h => h) (Or.inl ⟨by rfl, ?_⟩) hHeld ?_ ?_
 rotate_left
 ·rintro w' ⟨s0, s1, s2, s3, s4, s5, s6⟩
  go_simp
  with_reducible rfl
 rotate_left
 ·simp only [Act.put, sA_, sB_, sC_, af_, ag_]
  rfl
 refine ay_ (i := 8) (N := some 34) (v := ?_) (a' := ?_) #[T_, T_, T_, T_, T_, T_, T_, T_, T_, F_, F_, F_, F_, F_, F_, F_, F_] rfl rfl (by kernel_rfl) (fun _ _ _ h => h) (Or.inl ⟨by rfl, ?_⟩) ?_ ?_
 rotate_left
 ·intro w'
  go_simp
  with_reducible rfl
 rotate_left
 ·simp only [Act.put, sA_, sB_, sC_, af_, ag_]
  rfl
 refine take_ (i := 9) (N := some 35) (v := ?_) (a' := ?_) #[T_, T_, T_, T_, T_, T_, T_, T_, T_, T_, F_, F_, F_, F_, F_, F_, F_] rfl rfl (by kernel_rfl) (fun _ _ _ h => h) (Or.inl ⟨by rfl, ?_⟩) hHeld ?_ ?_
 rotate_left
 ·rintro w' ⟨s0, s1, s2, s3, s4, s5, s6⟩
  go_simp
  with_reducible rfl
 rotate_left
 ·simp only [Act.put, sA_, sB_, sC_, af_, ag_]
  rfl
 refine ay_ (i := 10) (N := some 36) (v := ?_) (a' := ?_) #[T_, T_, T_, T_, T_, T_, T_, T_, T_, T_, T_, F_, F_, F_, F_, F_, F_] rfl rfl (by kernel_rfl) (fun _ _ _ h => h) (Or.inl ⟨by rfl, ?_⟩) ?_ ?_
 rotate_left
 ·intro w'
  go_simp
  with_reducible rfl
 rotate_left
 ·simp only [Act.put, sA_, sB_, sC_, af_, ag_]
  rfl
 refine one_ (i := 11) (N := some 37) #[T_, T_, T_, T_, T_, T_, T_, T_, T_, T_, T_, T_, F_, F_, F_, F_, F_] rfl rfl (by kernel_rfl) (by decide) (fun K hK => ?_)
 refine goes_ Tryz.func19 (by kernel_rfl) rfl #[.agg #[.int .i64 id, .int .i64 (t + 1), .int .i64 kd, .string nm, .string pt, .slice A ks.length c, .int .i64 n]] (by rfl) rfl rfl (by simp only [List.map_toArray, List.map_cons, List.map_nil]; rfl) ?_
 with_reducible refine (bc_.calls 1000 id (t + 1) kd nm pt A c ks n R1 R2 _ (Kd.C_below HKS.out (HBL.out.drew)) HC.out HPF.out).mono ?_
 rintro e w3 ⟨v0, rfl, hr3, hb3⟩
 refine ⟨_, rfl, ?_⟩
 obtain ⟨A1, c1, rfl⟩ := Kd.R_slice hr3
 have HR3 := Lib.hid hr3
 have HB3 := Lib.hid ((Below.refl _ w1).drew.trans hb3 : Below w1.heap.size w1 w3)
 clear hr3 hb3
 refine hK.out _ _ ⟨(HB3.out.cell (p := ⟨g, 1, none⟩) HGL.out |>.trans HC1.out), (HB3.out.cell (p := ⟨g, 2, none⟩) HGL.out |>.trans HC2.out), (HB3.out.cell (p := ⟨b1, 0, none⟩) HBX.out |>.trans HX0.out), (HB3.out.cell (p := ⟨b1, 1, none⟩) HBX.out |>.trans HX1.out), (HB3.out.cell (p := ⟨b1, 2, none⟩) HBX.out |>.trans HX2'.out), (HB3.out.cell (p := ⟨b1, 3, none⟩) HBX.out |>.trans HX3.out), (HB3.out.cell (p := ⟨b1, 4, none⟩) HBX.out |>.trans HX4.out)⟩ (fun hHeld => ?_)
 clear hK K
 refine norm_ (a' := ?_) ?_ ?_
 rotate_left
 ·show Act.put _ (some 37) _ = _
  simp only [Act.put, sA_, sB_, sC_, af_, ag_]
  rfl
 refine ay_ (i := 12) (N := some 25) (v := ?_) (a' := ?_) #[T_, T_, T_, T_, T_, T_, T_, T_, T_, T_, T_, T_, T_, F_, F_, F_, F_] rfl rfl (by kernel_rfl) (fun _ _ _ h => h) (Or.inl ⟨by rfl, ?_⟩) ?_ ?_
 rotate_left
 ·intro w'
  go_simp
  with_reducible rfl
 rotate_left
 ·simp only [Act.put, sA_, sB_, sC_, af_, ag_]
  rfl
 refine ay_ (i := 13) (N := some 38) (v := ?_) (a' := ?_) #[T_, T_, T_, T_, T_, T_, T_, T_, T_, T_, T_, T_, T_, T_, F_, F_, F_] rfl rfl (by kernel_rfl) (fun _ _ _ h => h) (Or.inl ⟨by rfl, ?_⟩) ?_ ?_
 rotate_left
 ·intro w'
  go_simp
  with_reducible rfl
 rotate_left
 ·simp only [Act.put, sA_, sB_, sC_, af_, ag_]
  rfl
 refine ay_ (i := 14) (N := some 39) (v := ?_) (a' := ?_) #[T_, T_, T_, T_, T_, T_, T_, T_, T_, T_, T_, T_, T_, T_, T_, F_, F_] rfl rfl (by kernel_rfl) (fun _ _ _ h => h) (Or.inl ⟨by rfl, ?_⟩) ?_ ?_
 rotate_left
 ·intro w'
  go_simp
  with_reducible rfl
 rotate_left
 ·simp only [Act.put, sA_, sB_, sC_, af_, ag_]
  rfl
 refine ay_ (i := 15) (N := some 6) (v := ?_) (a' := ?_) #[T_, T_, T_, T_, T_, T_, T_, T_, T_, T_, T_, T_, T_, T_, T_, T_, F_] rfl rfl (by kernel_rfl) (fun _ _ _ h => h) (Or.inl ⟨by rfl, ?_⟩) ?_ ?_
 rotate_left
 ·intro w'
  go_simp
  with_reducible rfl
 rotate_left
 ·simp only [Act.put, sA_, sB_, sC_, af_, ag_]
  rfl
 refine ay_ (i := 16) (N := some 7) (v := ?_) (a' := ?_) #[T_, T_, T_, T_, T_, T_, T_, T_, T_, T_, T_, T_, T_, T_, T_, T_, T_] rfl rfl (by kernel_rfl) (fun _ _ _ h => h) (Or.inl ⟨by rfl, ?_⟩) ?_ ?_
 rotate_left
 ·intro w'
  go_simp
  with_reducible rfl
 rotate_left
 ·simp only [Act.put, sA_, sB_, sC_, af_, ag_]
  rfl
 refine done_ (by kernel_rfl) ?_
 have hg3 := s_ (s_ HB.out HBL.out) HB3.out
 have hz3 := s_ HX2.out HB3.out
 have HG3 := Lib.hid hg3
 have HZ3 := Lib.hid hz3
 have hR3 := Kd.R_mono (ok' := fun k => w1.heap.size ≤ k) (Kd.R_bound HR3.out) (fun k hk => hk.2.1)
 have HR3' := Lib.hid hR3
 have HBw3 := Lib.hid (HBL.out.trans (HB3.out.mono HBL.out.size))
 obtain ⟨z0, z1, z2, z3, z4, z5, z6, y0, y1, y2, y3, y4, y5, y6⟩ := zero7 hz3
 have hc2 : w3.cell? ⟨g, 2, none⟩ = some (.int .i64 t) := (b_ hg3 2).trans rfl
 have hc3 : w3.cell? ⟨g, 3, none⟩ = some (.bool false) := (b_ hg3 3).trans rfl
 have hc4 : w3.cell? ⟨g, 4, none⟩ = some (.string body) := (b_ hg3 4).trans rfl
 have hc5 : w3.cell? ⟨g, 5, none⟩ = some (.slice Av vs.length cv) := (b_ hg3 5).trans rfl
 have f2 := a_ hg3 2
 have f3 := a_ hg3 3
 have f4 := a_ hg3 4
 have f5 := a_ hg3 5
 clear hg3 hz3 hR3 hHeld
 rcases HCS.out with ⟨hm, hr1, hr2⟩ | ⟨hm, hr1, hr2⟩
 rotate_left
 ·subst hr2
  rw [g_]
  have HM := Lib.hid hm
  clear hm
  go_wp2
  refine bodyPost_ret (v := .tuple #[msgZ, .iface 29 (.int .i64 1)]) ?_ rfl ?_
  ·unfold results
   go_simp
   rfl
  exact .inr ⟨1, by first | exact ⟨HM.out, rfl⟩ | (rw [HM.out]; rfl), rfl, dg_.of_below H.out HBW.out (cp_ HBw3.out (by have := HB1.out; omega) _ _ _ _ _ _ _)⟩
 subst hr2
 rw [i_]
 have HM := Lib.hid hm
 have HR1 := Lib.hid hr1
 clear hm hr1
 have hcv : (convert 70 9 (.slice A1 R1.length c1)).run Tryz.prog (w3.setCell ⟨g, 2, none⟩ (.int .i64 (t + 1))) = .ok (.string (strOfNums R1)) (w3.setCell ⟨g, 2, none⟩ (.int .i64 (t + 1))) :=
  own_string (P := Tryz.prog) Tryz.underlying70 Tryz.underlying5 Tryz.underlying9 (Kd.own_of_R (Kd.R_kept HR3'.out (bv_.setCell (p := ⟨g, 2, none⟩) (bv_.refl w3 (fun k => k = g)) (.inl rfl) (.int .i64 (t + 1))) (fun k hk e => by have := HGL.out; omega)))
 go_wp2_with fail
 have hg7 : ((((w3.setCell ⟨g, 2, none⟩ (.int .i64 (t + 1))).setCell ⟨g, 3, none⟩ (.bool true)).setCell ⟨g, 4, none⟩ (.string (strOfNums R1))).setCell ⟨g, 5, none⟩ (.slice none 0 0)).heap[g]? = some (.cells #[.int .i64 f, .int .i64 id, .int .i64 (t + 1), .bool true, .string (strOfNums R1), .slice none 0 0] 66 (0, 0)) := by
  have := dc_ (dc_ (dc_ (dc_ HG3.out 2 (.int .i64 (t + 1))) 3 (.bool true)) 4 (.string (strOfNums R1))) 5 (.slice none 0 0)
  simpa using this
 have hne1 : b1 + 1 ≠ g := by have := HB1.out; have := HGW.out; omega
 have hz7 := bl_ (bl_ (bl_ (bl_ HZ3.out (p := ⟨g, 2, none⟩) hne1 (.int .i64 (t + 1))) (p := ⟨g, 3, none⟩) hne1 (.bool true)) (p := ⟨g, 4, none⟩) hne1 (.string (strOfNums R1))) (p := ⟨g, 5, none⟩) hne1 (.slice none 0 0)
 have hK7 : bv_ w ((((w3.setCell ⟨g, 2, none⟩ (.int .i64 (t + 1))).setCell ⟨g, 3, none⟩ (.bool true)).setCell ⟨g, 4, none⟩ (.string (strOfNums R1))).setCell ⟨g, 5, none⟩ (.slice none 0 0)) ok := bv_.setCell (p := ⟨g, 5, none⟩) (bv_.setCell (p := ⟨g, 4, none⟩) (bv_.setCell (p := ⟨g, 3, none⟩) (bv_.setCell (p := ⟨g, 2, none⟩) (bv_.of_below HBw3.out ok) (.inl HOK.out) _) (.inl HOK.out) _) (.inl HOK.out) _) (.inl HOK.out) _
 have hB7 : Below B w ((((w3.setCell ⟨g, 2, none⟩ (.int .i64 (t + 1))).setCell ⟨g, 3, none⟩ (.bool true)).setCell ⟨g, 4, none⟩ (.string (strOfNums R1))).setCell ⟨g, 5, none⟩ (.slice none 0 0)) := Below.setCell (p := ⟨g, 5, none⟩) (Below.setCell (p := ⟨g, 4, none⟩) (Below.setCell (p := ⟨g, 3, none⟩) (Below.setCell (p := ⟨g, 2, none⟩) (HBw3.out.mono HBW.out) HBG.out _) HBG.out _) HBG.out _) HBG.out _
 have hs7 : ((((w3.setCell ⟨g, 2, none⟩ (.int .i64 (t + 1))).setCell ⟨g, 3, none⟩ (.bool true)).setCell ⟨g, 4, none⟩ (.string (strOfNums R1))).setCell ⟨g, 5, none⟩ (.slice none 0 0)).heap.size = w3.heap.size := by simp
 clear z0 z1 z2 z3 z4 z5 z6 y0 y1 y2 y3 y4 y5 y6 hc2 hc3 hc4 hc5 f2 f3 f4 f5 hcv
 generalize ((((w3.setCell ⟨g, 2, none⟩ (.int .i64 (t + 1))).setCell ⟨g, 3, none⟩ (.bool true)).setCell ⟨g, 4, none⟩ (.string (strOfNums R1))).setCell ⟨g, 5, none⟩ (.slice none 0 0)) = w7 at hg7 hz7 hK7 hB7 hs7 ⊢
 have HA7 : Hid (bq_ w7 B (fun k => k = g) g f id (t + 1) true (strOfNums R1) []) := Lib.hid ⟨HBG.out, rfl, by simp, .slice none 0 0, hg7, Kd.R_nil _ _ _ _ _⟩
 have HZ7 := Lib.hid hz7
 have HK7 := Lib.hid hK7
 have HB7 := Lib.hid hB7
 have HS7 : Hid (b1 + 2 ≤ w7.heap.size) := Lib.hid (by rw [hs7]; have := HSZ.out; have := HB3.out.size; omega)
 clear hg7 hz7 hK7 hB7 hs7
 refine (client_Again w7 _ _ _ _ _ _ _ _ _ HA7.out).mono ?_
 rintro e w8 ⟨rfl, hb8⟩
 rw [if_pos rfl]
 unfold msgQ
 have hz8 := s_ HZ7.out hb8
 have HA8 := Lib.hid (HA7.out.below hb8)
 have HK8 := Lib.hid (HK7.out.below hb8)
 have HB8 := Lib.hid (HB7.out.trans (hb8.mono (by have := HS7.out; have := HBW.out; have := HB1.out; omega)))
 have hs8 := hb8.size
 have hn8 : b1 + 1 ≠ w8.heap.size := by have := HS7.out; omega
 have hn8' : w8.heap.size ≠ b1 + 1 := by have := HS7.out; omega
 obtain ⟨z0, z1, z2, z3, z4, z5, z6, y0, y1, y2, y3, y4, y5, y6⟩ := zero7 hz8
 have hlt8 := bj_ hz8
 clear hz8 hb8 hs8
 go_wp2_with fail
 have hnb : newBody id t kd n nm pt ks = strOfNums R1 := by unfold newBody; rw [HR1.out]
 rw [hnb]
 refine bodyPost_ret (v := .tuple #[msgQ id (strOfNums R1), .nilIface]) ?_ rfl ?_
 ·unfold results
  go_simp
  rfl
 have hBb : B ≤ b1 + 1 := by have := HBW.out; have := HB1.out; omega
 have hWb : w.heap.size ≤ b1 + 1 := by have := HB1.out; omega
 have hfin : ∀ w9 : World, bv_ w8 w9 (fun k => k = b1 + 1) → bv_ w w9 ok → Below B w w9 → dg_ w w9 B ok g f id (t + 1) true (strOfNums R1) [] := fun w9 k1 k2 k3 =>
  ⟨((HA8.out.kept (S := fun k => k = b1 + 1) k1 (fun k hk e => by have h1 : k = g := hk; have := HB1.out; have := HGW.out; omega)).mono (fun k hk => .inl (by rw [show k = g from hk]; exact HOK.out))), k2, k3⟩
 refine ⟨rfl, hfin _ (bv_.alloc (dz_ (bv_.refl w8 (fun k => k = b1 + 1)) (.inl rfl) _ _ _ _ _ _ _) _) (bv_.alloc (dz_ HK8.out (.inr hWb) _ _ _ _ _ _ _) _) (Below.alloc (cp_ HB8.out hBb _ _ _ _ _ _ _) (by have := HBW.out; have := HB1.out; have := hlt8; simp; omega) _)⟩
end Go.Proofs.YtlcfcaokihoplaaGreatDoor.Cli
