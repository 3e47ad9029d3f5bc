-- Cut.
import Derived.Test.YtlcfcaokihoplaaGreatDoorRefPCp
import Derived.Deep.QuietTactic
import Derived.BigQuiet
namespace Go.Proofs.YtlcfcaokihoplaaGreatDoor.Cli
open Go.RowKit Go.Proofs.YtlcfcaokihoplaaGreatDoor.Ms Go.Proofs.YzW.PrintWords Go.Proofs.YzW.PrintLast Go.Proofs.YzW.PrintMore
set_option linter.unusedVariables false
set_option linter.unusedSimpArgs false
set_option maxHeartbeats 16000000 in
set_option maxRecDepth 100000 in
theorem ref_On_yes (w : World) (B : Nat) (ok : Nat → Prop) (g : Nat) (f id t : Int) (body : ByteArray) (fs : List Int) (ss : List ByteArray) (h : dn_ w B ok g f id t true body fs ss) (hf : 1 ≤ f ∧ f ≤ 4) (hfs : fs.length ≤ 5000) (hss : ss.length ≤ 5000)
  (fr vw : Int) (bd : ByteArray) (A6 : Option Addr) (n6 c6 : Nat) (A7 : Option Addr) (n7 c7 : Nat) (hfr : 0 ≤ fr ∧ fr ≤ 3 * f) (hno : fr ∉ fs)
  (k : Nat) (r1 r2 : Int) (r3 r4 : List ByteArray) (r5 : List Mf.S107) (r6 : Bool) (hG : Mf.becketref12_GetAnswer.f k bd = some (r1, r2, r3, r4, r5, r6)) :
  Calls Tryz.prog 16 #[.pointer (some ⟨g, 0, none⟩), .agg #[.int .i64 7, .int .i64 fr, .int .i64 vw, .int .i64 t, .string bd, .slice A6 n6 c6, .slice A7 n7 c7]] w (RefPost w B ok g f id t body fs ss fr bd r1 r2 r3 r4 r5 r6) := by
 have hgl := h.glt
 have HBW : Hid (B ≤ w.heap.size) := Lib.hid (by have := h.1; omega)
 obtain ⟨okb, hokb⟩ : ∃ okb : Nat → Prop, okb = fun k => ok k ∧ B ≤ k ∧ k < w.heap.size := ⟨_, rfl⟩
 have h' := h.bound
 rw [← hokb] at h'
 have hokl : ∀ k, okb k → ok k ∧ k < w.heap.size := fun k hk => by rw [hokb] at hk; exact ⟨hk.1, hk.2.2⟩
 have HOKL := Lib.hid hokl
 obtain ⟨Av, cv, Au, cu, hb, hr, hr', hB, hok, hvl, hul⟩ := h'.open_
 have H := Lib.hid h'
 have HB := Lib.hid hb
 have HBG := Lib.hid hB
 have HOK := Lib.hid hok
 have HFS := Lib.hid hfs
 have HSS := Lib.hid hss
 have HGA := Lib.hid hG
 have HNI := Lib.hid hno
 have HVL := Lib.hid hvl
 have hgw : g ≠ w.heap.size := by omega
 have hgw1 : g ≠ w.heap.size + 1 := by omega
 have hw3 : wrap64 (3 * f) = 3 * f := by unfold wrap64; omega
 have HWF : Hid (wrap64 (f + 1) = f + 1) := Lib.hid (by unfold wrap64; omega)
 have HGL := Lib.hid hgl
 have q3 : decide (fr < 0) = false := by simp; omega
 have q4 : decide (3 * f < fr) = false := by simp; omega
 clear hb hr hr' hB hok hvl hul h h' hf hfs hss hfr hno hG hokl hokb
 go_enter Tryz.func16, Tryz.ntmps16
 go_wp2_with fail
 obtain ⟨b1, hb1⟩ : ∃ b1, b1 = w.heap.size := ⟨_, rfl⟩
 have hX1 := heap_alloc_new w (.cells #[.int .i64 7, .int .i64 fr, .int .i64 vw, .int .i64 t, .string bd, .slice A6 n6 c6, .slice A7 n7 c7] 40)
 have hB1 : Below w.heap.size w (w.alloc (.cells #[.int .i64 7, .int .i64 fr, .int .i64 vw, .int .i64 t, .string bd, .slice A6 n6 c6, .slice A7 n7 c7] 40)) := (Below.refl _ w).alloc (Nat.le_refl _) _
 have hs1 : (w.alloc (.cells #[.int .i64 7, .int .i64 fr, .int .i64 vw, .int .i64 t, .string bd, .slice A6 n6 c6, .slice A7 n7 c7] 40)).heap.size = w.heap.size + 1 := by simp
 generalize w.alloc (.cells #[.int .i64 7, .int .i64 fr, .int .i64 vw, .int .i64 t, .string bd, .slice A6 n6 c6, .slice A7 n7 c7] 40) = wa at hX1 hB1 hs1 ⊢
 have hX2 := heap_alloc_new wa (.cells #[.int .i64 0, .int .i64 0, .int .i64 0, .int .i64 0, .slice none 0 0, .slice none 0 0, .slice none 0 0] 59)
 have hB2 : Below wa.heap.size wa (wa.alloc (.cells #[.int .i64 0, .int .i64 0, .int .i64 0, .int .i64 0, .slice none 0 0, .slice none 0 0, .slice none 0 0] 59)) := (Below.refl _ wa).alloc (Nat.le_refl _) _
 have hs2 : (wa.alloc (.cells #[.int .i64 0, .int .i64 0, .int .i64 0, .int .i64 0, .slice none 0 0, .slice none 0 0, .slice none 0 0] 59)).heap.size = wa.heap.size + 1 := by simp
 generalize wa.alloc (.cells #[.int .i64 0, .int .i64 0, .int .i64 0, .int .i64 0, .slice none 0 0, .slice none 0 0, .slice none 0 0] 59) = w2 at hX2 hB2 hs2 ⊢
 rw [hs1] at hX2 hs2
 rw [← hb1] at hX1 hX2 hs2 hgw hgw1 ⊢
 have hX := s_ hX1 hB2
 have hBL := hB1.trans (hB2.mono hB1.size)
 have hG := s_ HB.out hBL
 have HBw2 := Lib.hid hBL
 have HBB := Lib.hid hb1
 have m0 : w2.cell? ⟨b1, 0, none⟩ = some (.int .i64 7) := (b_ hX 0).trans rfl
 have m1 : w2.cell? ⟨b1, 1, none⟩ = some (.int .i64 fr) := (b_ hX 1).trans rfl
 have m3 : w2.cell? ⟨b1, 3, none⟩ = some (.int .i64 t) := (b_ hX 3).trans rfl
 have g0 : w2.cell? ⟨g, 0, none⟩ = some (.int .i64 f) := (b_ hG 0).trans rfl
 have g2 : w2.cell? ⟨g, 2, none⟩ = some (.int .i64 t) := (b_ hG 2).trans rfl
 have g3 : w2.cell? ⟨g, 3, none⟩ = some (.bool true) := (b_ hG 3).trans rfl
 have HZ := Lib.hid hX2
 have HX := Lib.hid hX
 have HS2 : Hid (b1 + 2 ≤ w2.heap.size) := Lib.hid (by omega)
 clear hX hX1 hX2 hG hB1 hB2 hs1 hs2 hBL hb1
 go_quiet (fail)
 have HXq := Lib.hid (u_ HX.out nq)
 have HZq := Lib.hid (u_ HZ.out nq)
 have HBq := Lib.hid (d_ HBw2.out nq)
 have HSq : Hid (b1 + 2 ≤ (w2.drewN nq).heap.size) := Lib.hid HS2.out
 clear m0 m1 m3 g0 g2 g3 hw3 q3 q4 HX HZ HBw2 HS2
 generalize w2.drewN nq = wq at HXq HZq HBq HSq ⊢
 have HRq := Lib.hid (H.out.below HBq.out)
 go_wp2_with fail
 go_loopg [6] fs.length (fun kq v6 w' => ∃ i : Nat, v6 = .int .i64 (i : Int) ∧ Hid (dn_ w' B okb g f id t true body fs ss) ∧ Hid (w'.heap[b1]? = some (.cells #[.int .i64 7, .int .i64 fr, .int .i64 vw, .int .i64 t, .string bd, .slice A6 n6 c6, .slice A7 n7 c7] 40 (0, 0))) ∧ Hid (w'.heap[b1 + 1]? = some (.cells #[.int .i64 0, .int .i64 0, .int .i64 0, .int .i64 0, .slice none 0 0, .slice none 0 0, .slice none 0 0] 59 (0, 0))) ∧ Hid (Below w.heap.size w w') ∧ Hid (i + kq = fs.length) ∧ Hid (fr ∉ fs.take i))
 case atStart => exact ⟨0, rfl, HRq, HXq, HZq, HBq, Lib.hid (by omega), Lib.hid (by simp)⟩
 case round =>
  clear HRq HXq HZq HBq
  obtain ⟨i, rfl, HRl, HXl, HZl, HBl, HI, HN⟩ := hrel
  obtain ⟨A, c, A', c', hg, hrr, _, _, _, _, _⟩ := HRl.out.open_
  have g5 : wr.cell? ⟨g, 5, none⟩ = some (.slice A fs.length c) := (b_ hg 5).trans rfl
  have m1 : wr.cell? ⟨b1, 1, none⟩ = some (.int .i64 fr) := (b_ HXl.out 1).trans rfl
  have HC := Lib.hid (Kd.R_reads' hrr).2.2
  clear hg hrr
  by_cases hj : i < fs.length
  ·have t1 : decide (i < fs.length) = true := by simpa using hj
   cases gk with
   | zero => have := HI.out; omega
   | succ k1 =>
   have hwi : wrap64 ((i : Int) + 1) = ((i + 1 : Nat) : Int) := by have := HVL.out; unfold wrap64; omega
   obtain ⟨al, rfl, hL⟩ := Kd.at_int HC.out (i : Int) (by omega) (by omega)
   rw [Int.toNat_natCast] at hL
   have hrd : rd fs (i : Int) = fs[i] := by simp [rd, hj]
   have htk : fs.take (i + 1) = fs.take i ++ [fs[i]] := by rw [List.take_add_one, List.getElem?_eq_getElem hj]; rfl
   have HMM := Lib.hid (List.getElem_mem hj)
   rw [hrd] at hL
   generalize fs[i] = x at hL htk HMM
   by_cases hx : x = fr
   ·exfalso
    have h1 := HMM.out
    rw [hx] at h1
    exact HNI.out h1
   ·have t2 : (x == fr) = false := by simpa using hx
    have HN' : Hid (fr ∉ fs.take (i + 1)) := Lib.hid (by rw [htk]; simp only [List.mem_append, List.mem_singleton, not_or]; exact ⟨HN.out, Ne.symm hx⟩)
    clear hx htk hrd
    go_wp2_with fail
    go_quiet (fail)
    have HRl2 := Lib.hid (HRl.out.below (d_ (Below.refl _ wr) nq))
    have HXl2 := Lib.hid (u_ HXl.out nq)
    have HZl2 := Lib.hid (u_ HZl.out nq)
    have HBl2 := Lib.hid (d_ HBl.out nq)
    clear g5 m1 hL HRl HXl HZl HBl
    generalize wr.drewN nq = ws at HRl2 HXl2 HZl2 HBl2 ⊢
    go_wp2_with fail
    go_roundg k1
    case measure => omega
    case rel => exact ⟨i + 1, by first | (rw [hwi]; done) | (simp; done), HRl2, HXl2, HZl2, HBl2, Lib.hid (by have := HI.out; omega), HN'⟩
  have t1 : decide (i < fs.length) = false := by simpa using hj
  clear HC hj
  go_wp2_with fail
  clear g5 m1 t1 HI HN
  obtain ⟨A, c, A', c', hg, hf, hs, hB, hok, hl, hl'⟩ := HRl.out.open_
  have HG8 := Lib.hid hg
  have HX8 := HXl
  have HF8 := Lib.hid hf
  have HS8 := Lib.hid hs
  have HSl : Hid (b1 + 2 ≤ wr.heap.size) := Lib.hid (by have := bj_ HZl.out; omega)
  have HW8 : Hid (Kd.R (Kd.int .i64) 3 wr B (fun k => ((okb k ∨ wr.heap.size ≤ k) ∧ k ≠ g) ∧ some k ≠ (Value.slice A' ss.length c').ownBlock) (.slice A fs.length c) fs) := Lib.hid (Kd.R_mono hf (fun k hk => ⟨⟨.inl hk.1.1, hk.1.2⟩, hk.2⟩))
  have HFR8 : Hid (∀ k, wr.drew.heap.size ≤ k → ((okb k ∨ wr.heap.size ≤ k) ∧ k ≠ g) ∧ some k ≠ (Value.slice A' ss.length c').ownBlock) := Lib.hid (fun k hk => ⟨⟨.inr hk, by have h2 : wr.heap.size ≤ k := hk; have := HRl.out.glt; omega⟩, fun e => by have h2 : wr.heap.size ≤ k := hk; have := ((Kd.R_bound hs).1 k e.symm).2.2.1; omega⟩)
  have HBW8 : Hid (B ≤ wr.drew.heap.size) := Lib.hid (by show B ≤ wr.heap.size; have := HBW.out; have := HBl.out.size; omega)
  have HLEN8 : Hid ((fs.length + 1) * 8 ≤ 140737488355328) := Lib.hid (by have := HFS.out; omega)
  have HNG8 : Hid (some g ≠ (Value.slice A fs.length c).ownBlock) := Lib.hid (fun e => (hf.1 g e.symm).1.2 rfl)
  have HNX8 : Hid (some b1 ≠ (Value.slice A fs.length c).ownBlock) := Lib.hid (fun e => by have := (HOKL.out _ (hf.1 b1 e.symm).1.1).2; have := HBB.out; omega)
  have HNZ8 : Hid (some (b1 + 1) ≠ (Value.slice A fs.length c).ownBlock) := Lib.hid (fun e => by have := (HOKL.out _ (hf.1 (b1 + 1) e.symm).1.1).2; have := HBB.out; omega)
  clear hg hf hs hB hok hl hl' HRl
  refine start_ (n := 12) (S := fun w' => w'.cell? ⟨g, 5, none⟩ = some (.slice A fs.length c) ∧ w'.cell? ⟨b1, 1, none⟩ = some (.int .i64 fr)) (ds := [8, 11]) #[F_, F_, F_, F_, F_, F_, F_, F_, F_, F_, F_, F_] (by kernel_rfl) rfl rfl ⟨((b_ (o_ HG8.out) 5).trans rfl), ((b_ (o_ HX8.out) 1).trans rfl)⟩ (fun hHeld => ?_)
  refine ay_ (i := 0) (N := some 66) (v := ?_) (a' := ?_) #[T_, F_, F_, F_, F_, F_, F_, F_, F_, F_, F_, F_] rfl rfl (by kernel_rfl) (fun _ _ _ h => h) (Or.inl ⟨by rfl, ?_⟩) ?_ ?_
  rotate_left
  ·intro w'
   go_simp
   with_reducible rfl
  rotate_left
  ·simp only [Act.put, sA_, sB_, sC_, af_, ag_]
   rfl
  refine ay_ (i := 1) (N := some 67) (v := ?_) (a' := ?_) #[T_, T_, F_, F_, F_, F_, F_, F_, F_, F_, F_, F_] rfl rfl (by kernel_rfl) (fun _ _ _ h => h) (Or.inl ⟨by rfl, ?_⟩) ?_ ?_
  rotate_left
  ·intro w'
   go_simp
   with_reducible rfl
  rotate_left
  ·simp only [Act.put, sA_, sB_, sC_, af_, ag_]
   rfl
  refine ay_ (i := 2) (N := some 68) (v := ?_) (a' := ?_) #[T_, T_, T_, F_, F_, F_, F_, F_, F_, F_, F_, F_] rfl rfl (by kernel_rfl) (fun _ _ _ h => h) (Or.inl ⟨by rfl, ?_⟩) ?_ ?_
  rotate_left
  ·intro w'
   go_simp
   with_reducible rfl
  rotate_left
  ·simp only [Act.put, sA_, sB_, sC_, af_, ag_]
   rfl
  refine ay_ (i := 3) (N := some 69) (v := ?_) (a' := ?_) #[T_, T_, T_, T_, F_, F_, F_, F_, F_, F_, F_, F_] rfl rfl (by kernel_rfl) (fun _ _ _ h => h) (Or.inl ⟨by rfl, ?_⟩) ?_ ?_
  rotate_left
  ·intro w'
   go_simp
   with_reducible rfl
  rotate_left
  ·simp only [Act.put, sA_, sB_, sC_, af_, ag_]
   rfl
  refine ay_ (i := 5) (N := some 71) (v := ?_) (a' := ?_) #[T_, T_, T_, T_, F_, T_, F_, F_, F_, F_, F_, F_] rfl rfl (by kernel_rfl) (fun _ _ _ h => h) (Or.inl ⟨by rfl, ?_⟩) ?_ ?_
  rotate_left
  ·intro w'
   go_simp
   with_reducible rfl
  rotate_left
  ·simp only [Act.put, sA_, sB_, sC_, af_, ag_]
   rfl
  refine take_ (i := 4) (N := some 70) (v := ?_) (a' := ?_) #[T_, T_, T_, T_, T_, T_, F_, F_, F_, F_, F_, F_] rfl rfl (by kernel_rfl) (fun _ _ _ h => h) (Or.inl ⟨by rfl, ?_⟩) hHeld ?_ ?_
  rotate_left
  ·rintro w' ⟨s0, s1⟩
   go_simp
   with_reducible rfl
  rotate_left
  ·simp only [Act.put, sA_, sB_, sC_, af_, ag_]
   rfl
  refine take_ (i := 6) (N := some 72) (v := ?_) (a' := ?_) #[T_, T_, T_, T_, T_, T_, T_, F_, F_, F_, F_, F_] rfl rfl (by kernel_rfl) (fun _ _ _ h => h) (Or.inl ⟨by rfl, ?_⟩) hHeld ?_ ?_
  rotate_left
  ·rintro w' ⟨s0, s1⟩
   go_simp
   with_reducible rfl
  rotate_left
  ·simp only [Act.put, sA_, sB_, sC_, af_, ag_]
   rfl
  refine one_ (i := 7) (N := some 73) #[T_, T_, T_, T_, T_, T_, T_, T_, F_, F_, F_, F_] rfl rfl (by kernel_rfl) (by decide) (fun K hK => ?_)
  refine value_ (w1 := ?_) (v := ?_) (by rfl) rfl ?_ ?_
  rotate_left 2
  ·go_simp
   constructor
   ·rfl
   ·rfl
  refine hK.out _ _ ⟨((b_ (s_ HG8.out (((Below.refl _ wr).alloc (Nat.le_refl _) _).drew)) 5).trans rfl), ((b_ (s_ HX8.out (((Below.refl _ wr).alloc (Nat.le_refl _) _).drew)) 1).trans rfl)⟩ (fun hHeld => ?_)
  clear hK K
  refine norm_ (a' := ?_) ?_ ?_
  rotate_left
  ·show Act.put _ (some 73) _ = _
   simp only [Act.put, sA_, sB_, sC_, af_, ag_]
   rfl
  refine last_ (i := 8) (N := some 74) #[T_, T_, T_, T_, T_, T_, T_, T_, T_, F_, F_, F_] rfl rfl (by kernel_rfl) (by decide) (fun K hK => ?_)
  refine Kd.R_append_step (Kd.int .i64) (w0 := wr) (W := wr.drew) B (by rfl) (.tmp 70) (.tmp 73) 31 3 (.int .i64 0) 8 (by rfl) Tryz.underlying31 infoI rfl (by decide) (by omega) (.slice A fs.length c) fs fr [.int .i64 fr] (fun k => ((okb k ∨ wr.heap.size ≤ k) ∧ k ≠ g) ∧ some k ≠ (Value.slice A' ss.length c').ownBlock) (fun _ => False) (by rfl) (by rfl) rfl (fun _ h => h.elim) HFR8.out (Kd.R_drew HW8.out) ((Below.refl _ _).drew) HBW8.out HLEN8.out ?_
  intro v1 w3 hown hbel hgr hat
  obtain ⟨A1, c1, rfl⟩ := Kd.R_slice hown
  rw [show (fs ++ [fr]).length = fs.length + 1 from by simp] at hown hat
  have hg3 := bu_ (o_ HG8.out) hgr HNG8.out
  have k3 : w3.cell? ⟨g, 5, none⟩ = some (.slice A fs.length c) := (b_ hg3 5).trans rfl
  have f3 := a_ hg3 5
  have HO3 := Lib.hid hown
  have HBel3 := Lib.hid hbel
  have HGR3 := Lib.hid hgr
  have HAT3 := Lib.hid hat
  clear hown hg3 hbel hgr hat
  refine hK.out _ _ ?_
  clear hK K
  refine norm_ (a' := ?_) ?_ ?_
  rotate_left
  ·show Act.put _ (some 74) _ = _
   simp only [Act.put, sA_, sB_, sC_, af_, ag_]
   rfl
  refine ay_ (i := 9) (N := some 75) (v := ?_) (a' := ?_) #[T_, T_, T_, T_, T_, T_, T_, T_, T_, T_, F_, F_] rfl rfl (by kernel_rfl) (fun _ _ _ h => h) (Or.inl ⟨by rfl, ?_⟩) ?_ ?_
  rotate_left
  ·intro w'
   go_simp
   with_reducible rfl
  rotate_left
  ·simp only [Act.put, sA_, sB_, sC_, af_, ag_]
   rfl
  refine ay_ (i := 10) (N := some 76) (v := ?_) (a' := ?_) #[T_, T_, T_, T_, T_, T_, T_, T_, T_, T_, T_, F_] rfl rfl (by kernel_rfl) (fun _ _ _ h => h) (Or.inl ⟨by rfl, ?_⟩) ?_ ?_
  rotate_left
  ·intro w'
   go_simp
   with_reducible rfl
  rotate_left
  ·simp only [Act.put, sA_, sB_, sC_, af_, ag_]
   rfl
  refine last_ (i := 11) (N := none) #[T_, T_, T_, T_, T_, T_, T_, T_, T_, T_, T_, T_] rfl rfl (by kernel_rfl) (by decide) (fun K hK => ?_)
  refine skip_ (w1 := ?_) (by rfl) rfl ?_ ?_
  rotate_left
  ·go_simp
   rfl
  refine hK.out _ _ ?_
  clear hK K
  refine done_ (by kernel_rfl) ?_
  have hR4 := push_from (W := wr.drew) (ok := okb) (fr := fr) (o_ HG8.out) (Kd.R_drew HF8.out) (Kd.R_drew HS8.out) HBG.out HOK.out (by have := HFS.out; omega) (by have := HSS.out; omega) HO3.out HGR3.out HAT3.out
  have hx4 := bl_ (bu_ (o_ HX8.out) HGR3.out HNX8.out) (p := ⟨g, 5, none⟩) (Ne.symm hgw) (.slice A1 (fs.length + 1) c1)
  have hz4 := bl_ (bu_ (o_ HZl.out) HGR3.out HNZ8.out) (p := ⟨g, 5, none⟩) (Ne.symm hgw1) (.slice A1 (fs.length + 1) c1)
  have hK4 : bv_ w (w3.setCell ⟨g, 5, none⟩ (.slice A1 (fs.length + 1) c1)) ok := bv_.setCell (p := ⟨g, 5, none⟩) (bv_.of_grown HGR3.out (bv_.of_below HBl.out.drew ok : bv_ w wr.drew ok) (fun k hk => .inl (HOKL.out k (HF8.out.1 k hk).1.1).1)) (.inl (HOKL.out g HOK.out).1) _
  have hB4 : Below B w (w3.setCell ⟨g, 5, none⟩ (.slice A1 (fs.length + 1) c1)) := Below.setCell (p := ⟨g, 5, none⟩) ((HBl.out.mono HBW.out).trans HBel3.out) HBG.out _
  have hs4 : wr.heap.size ≤ ((w3.setCell ⟨g, 5, none⟩ (.slice A1 (fs.length + 1) c1))).heap.size := by
   have h1 := HGR3.out.size
   have h2 : ((w3.setCell ⟨g, 5, none⟩ (.slice A1 (fs.length + 1) c1))).heap.size = w3.heap.size := by simp
   rw [h2]
   exact h1
  clear hHeld HO3 HGR3 HAT3 HBel3 k3 f3 HG8 HX8 HF8 HS8 HW8 HFR8 HNG8 HNX8 HNZ8 HXl HZl HLEN8
  generalize (w3.setCell ⟨g, 5, none⟩ (.slice A1 (fs.length + 1) c1)) = w4 at hR4 hx4 hz4 hK4 hB4 hs4 ⊢
  obtain ⟨ok4, hok4⟩ : ∃ ok4 : Nat → Prop, ok4 = fun k => okb k ∨ wr.drew.heap.size ≤ k := ⟨_, rfl⟩
  rw [← hok4] at hR4
  have hok4l : ∀ k, ok4 k → (ok k ∨ w.heap.size ≤ k) ∧ k ≠ b1 ∧ k ≠ b1 + 1 := fun k hk => by
   rw [hok4] at hk
   have h0 := HBB.out
   have h1 := HSl.out
   rcases hk with h | h
   ·have h2 := HOKL.out k h
    exact ⟨.inl h2.1, by omega, by omega⟩
   ·have h2 : wr.heap.size ≤ k := h
    exact ⟨.inr (by omega), by omega, by omega⟩
  have HOK4 := Lib.hid hok4l
  obtain ⟨fs', hfs'⟩ : ∃ fs', fs' = fs ++ [fr] := ⟨_, rfl⟩
  rw [← hfs'] at hR4
  have HFD := Lib.hid hfs'
  have HFS' : Hid (fs'.length ≤ 5001) := Lib.hid (by rw [hfs']; have := HFS.out; simp; omega)
  obtain ⟨A, c, A', c', hg, hf, hs, hB, hok, hl, hl'⟩ := hR4.open_
  have HG9 := Lib.hid hg
  have HX9 := Lib.hid hx4
  have HZ4 := Lib.hid hz4
  have HF9 := Lib.hid hf
  have HS9 := Lib.hid hs
  have HOKG := Lib.hid hok
  have HK4 := Lib.hid hK4
  have HB4 := Lib.hid hB4
  have HS4 : Hid (b1 + 2 ≤ w4.heap.size) := Lib.hid (by have := HSl.out; omega)
  have HW9 : Hid (Kd.R Kd.string 9 w4 B (fun k => ((ok4 k ∨ w4.heap.size ≤ k) ∧ k ≠ g) ∧ some k ≠ (Value.slice A fs'.length c).ownBlock) (.slice A' ss.length c') ss) := Lib.hid (Kd.R_mono hs (fun k hk => ⟨⟨.inl hk.1.1, hk.1.2⟩, hk.2⟩))
  have HFR9 : Hid (∀ k, w4.drew.heap.size ≤ k → ((ok4 k ∨ w4.heap.size ≤ k) ∧ k ≠ g) ∧ some k ≠ (Value.slice A fs'.length c).ownBlock) := Lib.hid (fun k hk => ⟨⟨.inr hk, by have h2 : w4.heap.size ≤ k := hk; have := hR4.glt; omega⟩, fun e => by have h2 : w4.heap.size ≤ k := hk; have := ((Kd.R_bound hf).1 k e.symm).2.2.1; omega⟩)
  have HBW9 : Hid (B ≤ w4.drew.heap.size) := Lib.hid (by show B ≤ w4.heap.size; have := HBW.out; have := HBB.out; have := HS4.out; omega)
  have HLEN9 : Hid ((ss.length + 1) * 16 ≤ 140737488355328) := Lib.hid (by have := HSS.out; omega)
  have HNG9 : Hid (some g ≠ (Value.slice A' ss.length c').ownBlock) := Lib.hid (fun e => (hs.1 g e.symm).1.2 rfl)
  have HNX9 : Hid (some b1 ≠ (Value.slice A' ss.length c').ownBlock) := Lib.hid (fun e => (HOK4.out _ (hs.1 b1 e.symm).1.1).2.1 rfl)
  have HNZ9 : Hid (some (b1 + 1) ≠ (Value.slice A' ss.length c').ownBlock) := Lib.hid (fun e => (HOK4.out _ (hs.1 (b1 + 1) e.symm).1.1).2.2 rfl)
  clear hg hf hs hB hok hl hl' hR4 hx4 hz4 hK4 hB4 hs4 hok4 hok4l hfs' HBW8
  go_wp2_with fail
  refine start_ (n := 12) (S := fun w' => w'.cell? ⟨g, 6, none⟩ = some (.slice A' ss.length c') ∧ w'.cell? ⟨b1, 4, none⟩ = some (.string bd)) (ds := [8, 11]) #[F_, F_, F_, F_, F_, F_, F_, F_, F_, F_, F_, F_] (by kernel_rfl) rfl rfl ⟨((b_ (o_ HG9.out) 6).trans rfl), ((b_ (o_ HX9.out) 4).trans rfl)⟩ (fun hHeld => ?_)
  refine ay_ (i := 0) (N := some 77) (v := ?_) (a' := ?_) #[T_, F_, F_, F_, F_, F_, F_, F_, F_, F_, F_, F_] rfl rfl (by kernel_rfl) (fun _ _ _ h => h) (Or.inl ⟨by rfl, ?_⟩) ?_ ?_
  rotate_left
  ·intro w'
   go_simp
   with_reducible rfl
  rotate_left
  ·simp only [Act.put, sA_, sB_, sC_, af_, ag_]
   rfl
  refine ay_ (i := 1) (N := some 78) (v := ?_) (a' := ?_) #[T_, T_, F_, F_, F_, F_, F_, F_, F_, F_, F_, F_] rfl rfl (by kernel_rfl) (fun _ _ _ h => h) (Or.inl ⟨by rfl, ?_⟩) ?_ ?_
  rotate_left
  ·intro w'
   go_simp
   with_reducible rfl
  rotate_left
  ·simp only [Act.put, sA_, sB_, sC_, af_, ag_]
   rfl
  refine ay_ (i := 2) (N := some 79) (v := ?_) (a' := ?_) #[T_, T_, T_, F_, F_, F_, F_, F_, F_, F_, F_, F_] rfl rfl (by kernel_rfl) (fun _ _ _ h => h) (Or.inl ⟨by rfl, ?_⟩) ?_ ?_
  rotate_left
  ·intro w'
   go_simp
   with_reducible rfl
  rotate_left
  ·simp only [Act.put, sA_, sB_, sC_, af_, ag_]
   rfl
  refine ay_ (i := 3) (N := some 80) (v := ?_) (a' := ?_) #[T_, T_, T_, T_, F_, F_, F_, F_, F_, F_, F_, F_] rfl rfl (by kernel_rfl) (fun _ _ _ h => h) (Or.inl ⟨by rfl, ?_⟩) ?_ ?_
  rotate_left
  ·intro w'
   go_simp
   with_reducible rfl
  rotate_left
  ·simp only [Act.put, sA_, sB_, sC_, af_, ag_]
   rfl
  refine ay_ (i := 5) (N := some 82) (v := ?_) (a' := ?_) #[T_, T_, T_, T_, F_, T_, F_, F_, F_, F_, F_, F_] rfl rfl (by kernel_rfl) (fun _ _ _ h => h) (Or.inl ⟨by rfl, ?_⟩) ?_ ?_
  rotate_left
  ·intro w'
   go_simp
   with_reducible rfl
  rotate_left
  ·simp only [Act.put, sA_, sB_, sC_, af_, ag_]
   rfl
  refine take_ (i := 4) (N := some 81) (v := ?_) (a' := ?_) #[T_, T_, T_, T_, T_, T_, F_, F_, F_, F_, F_, F_] rfl rfl (by kernel_rfl) (fun _ _ _ h => h) (Or.inl ⟨by rfl, ?_⟩) hHeld ?_ ?_
  rotate_left
  ·rintro w' ⟨s0, s1⟩
   go_simp
   with_reducible rfl
  rotate_left
  ·simp only [Act.put, sA_, sB_, sC_, af_, ag_]
   rfl
  refine take_ (i := 6) (N := some 83) (v := ?_) (a' := ?_) #[T_, T_, T_, T_, T_, T_, T_, F_, F_, F_, F_, F_] rfl rfl (by kernel_rfl) (fun _ _ _ h => h) (Or.inl ⟨by rfl, ?_⟩) hHeld ?_ ?_
  rotate_left
  ·rintro w' ⟨s0, s1⟩
   go_simp
   with_reducible rfl
  rotate_left
  ·simp only [Act.put, sA_, sB_, sC_, af_, ag_]
   rfl
  refine one_ (i := 7) (N := some 84) #[T_, T_, T_, T_, T_, T_, T_, T_, F_, F_, F_, F_] rfl rfl (by kernel_rfl) (by decide) (fun K hK => ?_)
  refine value_ (w1 := ?_) (v := ?_) (by rfl) rfl ?_ ?_
  rotate_left 2
  ·go_simp
   constructor
   ·rfl
   ·rfl
  refine hK.out _ _ ⟨((b_ (s_ HG9.out (((Below.refl _ w4).alloc (Nat.le_refl _) _).drew)) 6).trans rfl), ((b_ (s_ HX9.out (((Below.refl _ w4).alloc (Nat.le_refl _) _).drew)) 4).trans rfl)⟩ (fun hHeld => ?_)
  clear hK K
  refine norm_ (a' := ?_) ?_ ?_
  rotate_left
  ·show Act.put _ (some 84) _ = _
   simp only [Act.put, sA_, sB_, sC_, af_, ag_]
   rfl
  refine last_ (i := 8) (N := some 85) #[T_, T_, T_, T_, T_, T_, T_, T_, T_, F_, F_, F_] rfl rfl (by kernel_rfl) (by decide) (fun K hK => ?_)
  refine Kd.R_append_step Kd.string (w0 := w4) (W := w4.drew) B (by rfl) (.tmp 81) (.tmp 84) 32 9 (.string ⟨#[]⟩) 16 (by rfl) Tryz.underlying32 infoS rfl (by decide) (by omega) (.slice A' ss.length c') ss bd [.string bd] (fun k => ((ok4 k ∨ w4.heap.size ≤ k) ∧ k ≠ g) ∧ some k ≠ (Value.slice A fs'.length c).ownBlock) (fun _ => False) (by rfl) (by rfl) rfl (fun _ h => h.elim) HFR9.out (Kd.R_drew HW9.out) ((Below.refl _ _).drew) HBW9.out HLEN9.out ?_
  intro v1 w3 hown hbel hgr hat
  obtain ⟨A1, c1, rfl⟩ := Kd.R_slice hown
  rw [show (ss ++ [bd]).length = ss.length + 1 from by simp] at hown hat
  have hg3 := bu_ (o_ HG9.out) hgr HNG9.out
  have k3 : w3.cell? ⟨g, 6, none⟩ = some (.slice A' ss.length c') := (b_ hg3 6).trans rfl
  have f3 := a_ hg3 6
  have HO3 := Lib.hid hown
  have HBel3 := Lib.hid hbel
  have HGR3 := Lib.hid hgr
  have HAT3 := Lib.hid hat
  clear hown hg3 hbel hgr hat
  refine hK.out _ _ ?_
  clear hK K
  refine norm_ (a' := ?_) ?_ ?_
  rotate_left
  ·show Act.put _ (some 85) _ = _
   simp only [Act.put, sA_, sB_, sC_, af_, ag_]
   rfl
  refine ay_ (i := 9) (N := some 86) (v := ?_) (a' := ?_) #[T_, T_, T_, T_, T_, T_, T_, T_, T_, T_, F_, F_] rfl rfl (by kernel_rfl) (fun _ _ _ h => h) (Or.inl ⟨by rfl, ?_⟩) ?_ ?_
  rotate_left
  ·intro w'
   go_simp
   with_reducible rfl
  rotate_left
  ·simp only [Act.put, sA_, sB_, sC_, af_, ag_]
   rfl
  refine ay_ (i := 10) (N := some 87) (v := ?_) (a' := ?_) #[T_, T_, T_, T_, T_, T_, T_, T_, T_, T_, T_, F_] rfl rfl (by kernel_rfl) (fun _ _ _ h => h) (Or.inl ⟨by rfl, ?_⟩) ?_ ?_
  rotate_left
  ·intro w'
   go_simp
   with_reducible rfl
  rotate_left
  ·simp only [Act.put, sA_, sB_, sC_, af_, ag_]
   rfl
  refine last_ (i := 11) (N := none) #[T_, T_, T_, T_, T_, T_, T_, T_, T_, T_, T_, T_] rfl rfl (by kernel_rfl) (by decide) (fun K hK => ?_)
  refine skip_ (w1 := ?_) (by rfl) rfl ?_ ?_
  rotate_left
  ·go_simp
   rfl
  refine hK.out _ _ ?_
  clear hK K
  refine done_ (by kernel_rfl) ?_
  have hR5 := push_says (W := w4.drew) (ok := ok4) (bd := bd) (o_ HG9.out) (Kd.R_drew HF9.out) (Kd.R_drew HS9.out) HBG.out HOKG.out (by have := HFS'.out; omega) (by have := HSS.out; omega) HO3.out HGR3.out HAT3.out
  have hx5 := bl_ (bu_ (o_ HX9.out) HGR3.out HNX9.out) (p := ⟨g, 6, none⟩) (Ne.symm hgw) (.slice A1 (ss.length + 1) c1)
  have hz5 := bl_ (bu_ (o_ HZ4.out) HGR3.out HNZ9.out) (p := ⟨g, 6, none⟩) (Ne.symm hgw1) (.slice A1 (ss.length + 1) c1)
  have hK5 : bv_ w (w3.setCell ⟨g, 6, none⟩ (.slice A1 (ss.length + 1) c1)) ok := bv_.setCell (p := ⟨g, 6, none⟩) (bv_.of_grown HGR3.out (HK4.out.below (Below.refl _ w4).drew : bv_ w w4.drew ok) (fun k hk => (HOK4.out k (HS9.out.1 k hk).1.1).1)) (.inl (HOKL.out g HOK.out).1) _
  have hB5 : Below B w (w3.setCell ⟨g, 6, none⟩ (.slice A1 (ss.length + 1) c1)) := Below.setCell (p := ⟨g, 6, none⟩) (HB4.out.trans HBel3.out) HBG.out _
  have hs5 : w4.heap.size ≤ ((w3.setCell ⟨g, 6, none⟩ (.slice A1 (ss.length + 1) c1))).heap.size := by
   have h1 := HGR3.out.size
   have h2 : ((w3.setCell ⟨g, 6, none⟩ (.slice A1 (ss.length + 1) c1))).heap.size = w3.heap.size := by simp
   rw [h2]
   exact h1
  clear hHeld HO3 HGR3 HAT3 HBel3 k3 f3 HG9 HX9 HF9 HS9 HW9 HFR9 HNG9 HNX9 HNZ9 HZ4 HLEN9 HBW9 HK4 HB4
  generalize (w3.setCell ⟨g, 6, none⟩ (.slice A1 (ss.length + 1) c1)) = w5 at hR5 hx5 hz5 hK5 hB5 hs5 ⊢
  obtain ⟨ss', hss'⟩ : ∃ ss', ss' = ss ++ [bd] := ⟨_, rfl⟩
  rw [← hss'] at hR5
  have HSD := Lib.hid hss'
  have HSS' : Hid (ss'.length ≤ 5001) := Lib.hid (by rw [hss']; have := HSS.out; simp; omega)
  have HR5 : Hid (dn_ w5 B (fun k => (ok k ∨ w.heap.size ≤ k) ∧ k ≠ b1 + 1) g f id t true body fs' ss') := Lib.hid (hR5.mono (fun k hk => hk.elim (fun h => ⟨(HOK4.out k h).1, (HOK4.out k h).2.2⟩) (fun h => by
   have h2 : w4.heap.size ≤ k := h
   have := HS4.out
   have := HBB.out
   exact ⟨.inr (by omega), by omega⟩)))
  have HX5 := Lib.hid hx5
  have HZ5 := Lib.hid hz5
  have HK5 := Lib.hid hK5
  have HB5 := Lib.hid hB5
  clear hR5 hx5 hz5 hK5 hB5 hs5 hss' HS4 HSl
  go_wp2_with fail
  go_loopg [7, 8] ss'.length (fun kq v7 v8 w' => ∃ i : Nat, v7 = .int .i64 (cntB (ss'.take i) bd : Int) ∧ v8 = .int .i64 (i : Int) ∧ Hid (i + kq = ss'.length) ∧ Hid (dn_ w' B (fun k => (ok k ∨ w.heap.size ≤ k) ∧ k ≠ b1 + 1) g f id t true body fs' ss') ∧ Hid (w'.heap[b1]? = some (.cells #[.int .i64 7, .int .i64 fr, .int .i64 vw, .int .i64 t, .string bd, .slice A6 n6 c6, .slice A7 n7 c7] 40 (0, 0))) ∧ Hid (w'.heap[b1 + 1]? = some (.cells #[.int .i64 0, .int .i64 0, .int .i64 0, .int .i64 0, .slice none 0 0, .slice none 0 0, .slice none 0 0] 59 (0, 0))) ∧ Hid (bv_ w w' ok) ∧ Hid (Below B w w'))
  case atStart => exact ⟨0, rfl, rfl, Lib.hid (by omega), HR5, HX5, HZ5, HK5, HB5⟩
  case round =>
   clear HR5 HX5 HZ5 HK5 HB5
   obtain ⟨i, rfl, rfl, HI, HRl, HXl, HZl, HKl, HBl⟩ := hrel
   obtain ⟨A, c, A', c', hg, _, hrr, _, _, _, _⟩ := HRl.out.open_
   have g6 : wr.cell? ⟨g, 6, none⟩ = some (.slice A' ss'.length c') := (b_ hg 6).trans rfl
   have m4 : wr.cell? ⟨b1, 4, none⟩ = some (.string bd) := (b_ HXl.out 4).trans rfl
   have HC := Lib.hid (Kd.R_reads' hrr).2.2
   clear hg hrr
   by_cases hj : i < ss'.length
   ·have t1 : decide (i < ss'.length) = true := by simpa using hj
    cases gk with
    | zero => have := HI.out; omega
    | succ k1 =>
    have hwi : wrap64 ((i : Int) + 1) = ((i + 1 : Nat) : Int) := by have := HSS'.out; unfold wrap64; omega
    obtain ⟨al, rfl, hL⟩ := Kd.at_string HC.out (i : Int) (by omega) (by omega)
    rw [Int.toNat_natCast] at hL
    have hrd : rdOf ByteArray.empty ss' (i : Int) = ss'[i] := by simp [rdOf, hj]
    have htk : ss'.take (i + 1) = ss'.take i ++ [ss'[i]] := by rw [List.take_add_one, List.getElem?_eq_getElem hj]; rfl
    have hcl := cntB_le (ss'.take i) bd
    rw [List.length_take] at hcl
    rw [hrd] at hL
    generalize ss'[i] = x at hL htk
    have hcs : cntB (ss'.take (i + 1)) bd = cntB (ss'.take i) bd + if (x.toList == bd.toList) = true then 1 else 0 := by rw [htk, cntB_snoc]
    have hwc : wrap64 ((cntB (ss'.take i) bd : Int) + 1) = ((cntB (ss'.take i) bd + 1 : Nat) : Int) := by have := HSS'.out; unfold wrap64; omega
    have HCS := Lib.hid hcs
    clear hrd htk hcl hcs
    cases t2 : (x.toList == bd.toList) with
    | true =>
     go_wp2_with fail
     go_quiet (fail)
     have HRl2 := Lib.hid (HRl.out.below (d_ (Below.refl _ wr) nq))
     have HXl2 := Lib.hid (u_ HXl.out nq)
     have HZl2 := Lib.hid (u_ HZl.out nq)
     have HKl2 := Lib.hid (HKl.out.below (d_ (Below.refl _ wr) nq))
     have HBl2 := Lib.hid (d_ HBl.out nq)
     have HC2 : Hid (cntB (ss'.take (i + 1)) bd = cntB (ss'.take i) bd + 1) := Lib.hid (by rw [HCS.out, t2]; rfl)
     clear g6 m4 hL HRl HXl HZl HBl HKl HCS t2
     generalize wr.drewN nq = ws at HRl2 HXl2 HZl2 HBl2 HKl2 ⊢
     go_wp2_with fail
     go_roundg k1
     case measure => omega
     case rel => exact ⟨i + 1, by rw [HC2.out]; first | (rw [hwc]; done) | (simp; done), by first | (rw [hwi]; done) | (simp; done), Lib.hid (by have := HI.out; omega), HRl2, HXl2, HZl2, HKl2, HBl2⟩
    | false =>
     go_wp2_with fail
     go_quiet (fail)
     have HRl2 := Lib.hid (HRl.out.below (d_ (Below.refl _ wr) nq))
     have HXl2 := Lib.hid (u_ HXl.out nq)
     have HZl2 := Lib.hid (u_ HZl.out nq)
     have HKl2 := Lib.hid (HKl.out.below (d_ (Below.refl _ wr) nq))
     have HBl2 := Lib.hid (d_ HBl.out nq)
     have HC2 : Hid (cntB (ss'.take (i + 1)) bd = cntB (ss'.take i) bd) := Lib.hid (by rw [HCS.out, t2]; rfl)
     clear g6 m4 hL HRl HXl HZl HBl HKl HCS t2 hwc
     generalize wr.drewN nq = ws at HRl2 HXl2 HZl2 HBl2 HKl2 ⊢
     go_wp2_with fail
     go_roundg k1
     case measure => omega
     case rel => exact ⟨i + 1, by rw [HC2.out], by first | (rw [hwi]; done) | (simp; done), Lib.hid (by have := HI.out; omega), HRl2, HXl2, HZl2, HKl2, HBl2⟩
   have t1 : decide (i < ss'.length) = false := by simpa using hj
   have htk : ss'.take i = ss' := List.take_of_length_le (by omega)
   rw [htk]
   clear HC hj htk HI
   go_wp2_with fail
   clear g6 m4 t1
   refine (Mf.becketref12_GetAnswer.calls k bd r1 r2 r3 r4 r5 r6 wr HGA.out).mono ?_
   rintro e w5 ⟨v2, v3, v4, rfl, ha2, ha3, ha4, hb5⟩
   obtain ⟨A2, d2, rfl⟩ := Kd.R_slice ha2
   obtain ⟨A3, d3, rfl⟩ := Kd.R_slice ha3
   obtain ⟨A4, d4, rfl⟩ := Kd.S_slice ha4
   have hB56 : Below w5.heap.size w5 (w5.alloc (.cells #[.int .i64 r1, .int .i64 r2, .slice A2 r3.length d2, .slice A3 r4.length d3, .slice A4 r5.length d4] 57)) := (Below.refl _ w5).alloc (Nat.le_refl _) _
   have hBr := hb5.trans (hB56.mono hb5.size)
   have hA6 := heap_alloc_new w5 (.cells #[.int .i64 r1, .int .i64 r2, .slice A2 r3.length d2, .slice A3 r4.length d3, .slice A4 r5.length d4] 57)
   have HA6 := Lib.hid hA6
   have HR6 := Lib.hid (HRl.out.below hBr)
   have HZ6 := Lib.hid (s_ HZl.out hBr)
   have HK6 := Lib.hid (HKl.out.below hBr)
   have HWR : Hid (w.heap.size ≤ wr.heap.size) := Lib.hid (by have := bj_ HXl.out; have := HBB.out; omega)
   have HBR : Hid (B ≤ wr.heap.size) := Lib.hid (by have := HWR.out; have := HBW.out; omega)
   have HB6 := Lib.hid (HBl.out.trans (hBr.mono HBR.out))
   have HQ2 := Lib.hid (Kd.R_below (Kd.R_bound ha2) hB56)
   have HQ3 := Lib.hid (Kd.R_below (Kd.R_bound ha3) hB56)
   have HQ4 := Lib.hid (Kd.S_below (Kd.S_bound ha4) hB56)
   have HLB : Hid (b1 + 2 ≤ w5.heap.size) := Lib.hid (by have := bj_ HZl.out; have := hb5.size; omega)
   have HLR : Hid (b1 + 2 ≤ wr.heap.size) := Lib.hid (by have := bj_ HZl.out; omega)
   obtain ⟨A, c, A', c', hg6, _⟩ := HR6.out.open_
   have HG6 := Lib.hid hg6
   have hfin0 : ∀ w9 : World, bv_ (w5.alloc (.cells #[.int .i64 r1, .int .i64 r2, .slice A2 r3.length d2, .slice A3 r4.length d3, .slice A4 r5.length d4] 57)) w9 (fun k => k = b1 + 1) → Below B (w5.alloc (.cells #[.int .i64 r1, .int .i64 r2, .slice A2 r3.length d2, .slice A3 r4.length d3, .slice A4 r5.length d4] 57)) w9 → RefTo w w9 B ok g f id t true body fs' ss' := fun w9 k1 k3 =>
    ⟨(HR6.out.kept (S := fun k => k = b1 + 1) k1 (fun k hk => hk.2)).mono (fun k hk => hk.1), HK6.out.then_ k1 (fun k hk => .inr (by have := HBB.out; omega)), HB6.out.trans k3⟩
   have HF0 := Lib.hid hfin0
   have HBB1 : Hid (B ≤ b1 + 1) := Lib.hid (by have := HBW.out; have := HBB.out; omega)
   clear ha2 ha3 ha4 hb5 hB56 hBr hA6 hg6 hfin0 HRl HXl HZl HKl HBl
   cases r6 with
   | false =>
    obtain ⟨z0, z1, z2, z3, z4, z5, z6, y0, y1, y2, y3, y4, y5, y6⟩ := zeroA HZ6.out
    go_wp2
    refine bodyPost_ret (v := .tuple #[accZ, .bool false]) ?_ rfl ?_
    ·unfold results
     go_simp
     rfl
    have hv := HFD.out
    subst hv
    have hv := HSD.out
    subst hv
    exact ⟨false, rfl, ⟨accZ, rfl, fun _ => rfl, fun h => by cases h⟩, HF0.out _ (dz_ (bv_.refl _ (fun k => k = b1 + 1)) (.inl rfl) _ _ _ _ _ _ _) (cp_ (Below.refl _ _) HBB1.out _ _ _ _ _ _ _)⟩
   | true =>
   have hwf := HWF.out
   have g0 : (w5.alloc (.cells #[.int .i64 r1, .int .i64 r2, .slice A2 r3.length d2, .slice A3 r4.length d3, .slice A4 r5.length d4] 57)).cell? ⟨g, 0, none⟩ = some (.int .i64 f) := (b_ HG6.out 0).trans rfl
   by_cases hq : (cntB ss' bd : Int) < f + 1
   ·have t1 : decide ((cntB ss' bd : Int) < f + 1) = true := by simpa using hq
    have HQQ := Lib.hid hq
    obtain ⟨z0, z1, z2, z3, z4, z5, z6, y0, y1, y2, y3, y4, y5, y6⟩ := zeroA HZ6.out
    go_wp2
    refine bodyPost_ret (v := .tuple #[accZ, .bool false]) ?_ rfl ?_
    ·unfold results
     go_simp
     rfl
    have hv := HFD.out
    subst hv
    have hv := HSD.out
    subst hv
    refine ⟨false, ?_, ⟨accZ, rfl, fun _ => rfl, fun h => by cases h⟩, HF0.out _ (dz_ (bv_.refl _ (fun k => k = b1 + 1)) (.inl rfl) _ _ _ _ _ _ _) (cp_ (Below.refl _ _) HBB1.out _ _ _ _ _ _ _)⟩
    rw [decide_eq_false (by have := HQQ.out; omega)]
    rfl
   have t1 : decide ((cntB ss' bd : Int) < f + 1) = false := by simpa using hq
   have HQQ : Hid (f < (cntB ss' bd : Int)) := Lib.hid (by omega)
   have k3 : (w5.alloc (.cells #[.int .i64 r1, .int .i64 r2, .slice A2 r3.length d2, .slice A3 r4.length d3, .slice A4 r5.length d4] 57)).cell? ⟨g, 3, none⟩ = some (.bool true) := (b_ HG6.out 3).trans rfl
   have f3 := a_ HG6.out 3
   clear hq
   go_wp2_with fail
   obtain ⟨b3, hb3⟩ : ∃ b3, b3 = w5.heap.size := ⟨_, rfl⟩
   have hLB3 : b1 + 2 ≤ b3 := by rw [hb3]; exact HLB.out
   have hgb3 : b3 ≠ g := by have := HBB.out; omega
   have hR8 := HR6.out.waits false
   have hA6 := HA6.out
   rw [← hb3] at hA6 ⊢
   have hA8 := bl_ hA6 (p := ⟨g, 3, none⟩) hgb3 (.bool false)
   have hz8 := bl_ HZ6.out (p := ⟨g, 3, none⟩) (Ne.symm hgw1) (.bool false)
   have hK68 : bv_ (w5.alloc (.cells #[.int .i64 r1, .int .i64 r2, .slice A2 r3.length d2, .slice A3 r4.length d3, .slice A4 r5.length d4] 57)) ((w5.alloc (.cells #[.int .i64 r1, .int .i64 r2, .slice A2 r3.length d2, .slice A3 r4.length d3, .slice A4 r5.length d4] 57)).setCell ⟨g, 3, none⟩ (.bool false)) (fun k => k = g ∨ k = b1 + 1) := bv_.setCell (p := ⟨g, 3, none⟩) (bv_.refl _ (fun k => k = g ∨ k = b1 + 1)) (.inl (.inl rfl)) _
   have hK8 : bv_ w ((w5.alloc (.cells #[.int .i64 r1, .int .i64 r2, .slice A2 r3.length d2, .slice A3 r4.length d3, .slice A4 r5.length d4] 57)).setCell ⟨g, 3, none⟩ (.bool false)) ok := bv_.setCell (p := ⟨g, 3, none⟩) HK6.out (.inl (HOKL.out g HOK.out).1) _
   have hB8 : Below B w ((w5.alloc (.cells #[.int .i64 r1, .int .i64 r2, .slice A2 r3.length d2, .slice A3 r4.length d3, .slice A4 r5.length d4] 57)).setCell ⟨g, 3, none⟩ (.bool false)) := Below.setCell (p := ⟨g, 3, none⟩) HB6.out HBG.out _
   clear k3 f3 g0 hwf t1 HF0 HA6 HR6 HZ6 HG6 hA6
   generalize (w5.alloc (.cells #[.int .i64 r1, .int .i64 r2, .slice A2 r3.length d2, .slice A3 r4.length d3, .slice A4 r5.length d4] 57)).setCell ⟨g, 3, none⟩ (.bool false) = w8 at hR8 hA8 hz8 hK68 hK8 hB8 ⊢
   generalize w5.alloc (.cells #[.int .i64 r1, .int .i64 r2, .slice A2 r3.length d2, .slice A3 r4.length d3, .slice A4 r5.length d4] 57) = w6 at hK68 HQ2 HQ3 HQ4 HK6 HB6
   obtain ⟨A, c, A', c', hg8, _⟩ := hR8.open_
   have HG8 := Lib.hid hg8
   have HA8 := Lib.hid hA8
   have HR8 := Lib.hid hR8
   have HK68 := Lib.hid hK68
   have HK8 := Lib.hid hK8
   have HB8 := Lib.hid hB8
   have HGB := Lib.hid hgl
   obtain ⟨z0, z1, z2, z3, z4, z5, z6, y0, y1, y2, y3, y4, y5, y6⟩ := zeroA hz8
   clear hg8 hA8 hR8 hz8 hK68 hK8 hB8 hb3 hLB3 hgb3
   refine start_ (n := 12) (S := fun w' => w'.cell? ⟨g, 1, none⟩ = some (.int .i64 id) ∧ w'.cell? ⟨g, 2, none⟩ = some (.int .i64 t) ∧ w'.cell? ⟨b3, 0, none⟩ = some (.int .i64 r1) ∧ w'.cell? ⟨b3, 1, none⟩ = some (.int .i64 r2) ∧ w'.cell? ⟨b3, 2, none⟩ = some (.slice A2 r3.length d2) ∧ w'.cell? ⟨b3, 3, none⟩ = some (.slice A3 r4.length d3) ∧ w'.cell? ⟨b3, 4, none⟩ = some (.slice A4 r5.length d4)) (ds := [10]) #[F_, F_, F_, F_, F_, F_, F_, F_, F_, F_, F_, F_] (by kernel_rfl) rfl rfl ⟨((b_ (o_ HG8.out) 1).trans rfl), ((b_ (o_ HG8.out) 2).trans rfl), ((b_ (o_ HA8.out) 0).trans rfl), ((b_ (o_ HA8.out) 1).trans rfl), ((b_ (o_ HA8.out) 2).trans rfl), ((b_ (o_ HA8.out) 3).trans rfl), ((b_ (o_ HA8.out) 4).trans rfl)⟩ (fun hHeld => ?_)
   refine ay_ (i := 0) (N := some 130) (v := ?_) (a' := ?_) #[T_, F_, F_, F_, F_, F_, F_, F_, F_, F_, F_, F_] rfl rfl (by kernel_rfl) (fun _ _ _ h => h) (Or.inl ⟨by rfl, ?_⟩) ?_ ?_
   rotate_left
   ·intro w'
    go_simp
    with_reducible rfl
   rotate_left
   ·simp only [Act.put, sA_, sB_, sC_, af_, ag_]
    rfl
   refine ay_ (i := 1) (N := some 131) (v := ?_) (a' := ?_) #[T_, T_, F_, F_, F_, F_, F_, F_, F_, F_, F_, F_] rfl rfl (by kernel_rfl) (fun _ _ _ h => h) (Or.inl ⟨by rfl, ?_⟩) ?_ ?_
   rotate_left
   ·intro w'
    go_simp
    with_reducible rfl
   rotate_left
   ·simp only [Act.put, sA_, sB_, sC_, af_, ag_]
    rfl
   refine ay_ (i := 2) (N := some 132) (v := ?_) (a' := ?_) #[T_, T_, T_, F_, F_, F_, F_, F_, F_, F_, F_, F_] rfl rfl (by kernel_rfl) (fun _ _ _ h => h) (Or.inl ⟨by rfl, ?_⟩) ?_ ?_
   rotate_left
   ·intro w'
    go_simp
    with_reducible rfl
   rotate_left
   ·simp only [Act.put, sA_, sB_, sC_, af_, ag_]
    rfl
   refine ay_ (i := 4) (N := some 134) (v := ?_) (a' := ?_) #[T_, T_, T_, F_, T_, F_, F_, F_, F_, F_, F_, F_] rfl rfl (by kernel_rfl) (fun _ _ _ h => h) (Or.inl ⟨by rfl, ?_⟩) ?_ ?_
   rotate_left
   ·intro w'
    go_simp
    with_reducible rfl
   rotate_left
   ·simp only [Act.put, sA_, sB_, sC_, af_, ag_]
    rfl
   refine ay_ (i := 5) (N := some 135) (v := ?_) (a' := ?_) #[T_, T_, T_, F_, T_, T_, F_, F_, F_, F_, F_, F_] rfl rfl (by kernel_rfl) (fun _ _ _ h => h) (Or.inl ⟨by rfl, ?_⟩) ?_ ?_
   rotate_left
   ·intro w'
    go_simp
    with_reducible rfl
   rotate_left
   ·simp only [Act.put, sA_, sB_, sC_, af_, ag_]
    rfl
   refine ay_ (i := 6) (N := some 136) (v := ?_) (a' := ?_) #[T_, T_, T_, F_, T_, T_, T_, F_, F_, F_, F_, F_] rfl rfl (by kernel_rfl) (fun _ _ _ h => h) (Or.inl ⟨by rfl, ?_⟩) ?_ ?_
   rotate_left
   ·intro w'
    go_simp
    with_reducible rfl
   rotate_left
   ·simp only [Act.put, sA_, sB_, sC_, af_, ag_]
    rfl
   refine take_ (i := 3) (N := some 133) (v := ?_) (a' := ?_) #[T_, T_, T_, T_, T_, T_, T_, F_, F_, F_, F_, F_] rfl rfl (by kernel_rfl) (fun _ _ _ h => h) (Or.inl ⟨by rfl, ?_⟩) hHeld ?_ ?_
   rotate_left
   ·rintro w' ⟨s0, s1, s2, s3, s4, s5, s6⟩
    go_simp
    with_reducible rfl
   rotate_left
   ·simp only [Act.put, sA_, sB_, sC_, af_, ag_]
    rfl
   refine take_ (i := 7) (N := some 137) (v := ?_) (a' := ?_) #[T_, T_, T_, T_, T_, T_, T_, T_, F_, F_, F_, F_] rfl rfl (by kernel_rfl) (fun _ _ _ h => h) (Or.inl ⟨by rfl, ?_⟩) hHeld ?_ ?_
   rotate_left
   ·rintro w' ⟨s0, s1, s2, s3, s4, s5, s6⟩
    go_simp
    with_reducible rfl
   rotate_left
   ·simp only [Act.put, sA_, sB_, sC_, af_, ag_]
    rfl
   refine take_ (i := 8) (N := some 138) (v := ?_) (a' := ?_) #[T_, T_, T_, T_, T_, T_, T_, T_, T_, F_, F_, F_] rfl rfl (by kernel_rfl) (fun _ _ _ h => h) (Or.inl ⟨by rfl, ?_⟩) hHeld ?_ ?_
   rotate_left
   ·rintro w' ⟨s0, s1, s2, s3, s4, s5, s6⟩
    go_simp
    with_reducible rfl
   rotate_left
   ·simp only [Act.put, sA_, sB_, sC_, af_, ag_]
    rfl
   refine ay_ (i := 9) (N := some 139) (v := ?_) (a' := ?_) #[T_, T_, T_, T_, T_, T_, T_, T_, T_, T_, F_, F_] rfl rfl (by kernel_rfl) (fun _ _ _ h => h) (Or.inl ⟨by rfl, ?_⟩) ?_ ?_
   rotate_left
   ·intro w'
    go_simp
    with_reducible rfl
   rotate_left
   ·simp only [Act.put, sA_, sB_, sC_, af_, ag_]
    rfl
   refine last_ (i := 10) (N := none) #[T_, T_, T_, T_, T_, T_, T_, T_, T_, T_, T_, F_] rfl rfl (by kernel_rfl) (by decide) (fun K hK => ?_)
   refine skip_ (w1 := ?_) (by rfl) rfl ?_ ?_
   rotate_left
   ·go_simp
    rfl
   refine hK.out _ _ ?_
   clear hK K
   refine ay_ (i := 11) (N := some 5) (v := ?_) (a' := ?_) #[T_, T_, T_, T_, T_, T_, T_, T_, T_, T_, T_, T_] rfl rfl (by kernel_rfl) (fun _ _ _ h => h) (Or.inl ⟨by rfl, ?_⟩) ?_ ?_
   rotate_left
   ·intro w'
    go_simp
    with_reducible rfl
   rotate_left
   ·simp only [Act.put, sA_, sB_, sC_, af_, ag_]
    rfl
   refine done_ (by kernel_rfl) ?_
   go_wp2
   refine bodyPost_ret (v := .tuple #[.agg #[.int .i64 id, .int .i64 t, .int .i64 r1, .int .i64 r2, .slice A2 r3.length d2, .slice A3 r4.length d3, .slice A4 r5.length d4], .bool true]) ?_ rfl ?_
   ·unfold results
    go_simp
   have hv := HFD.out
   subst hv
   have hv := HSD.out
   subst hv
   have hne : ∀ k, wr.heap.size ≤ k → ¬ (k = g ∨ k = b1 + 1) := fun k hk e => by have := HLR.out; have := HGB.out; have := HBB.out; omega
   have key : ∀ wF : World, bv_ w8 wF (fun k => k = b1 + 1) → Below (b1 + 1) w8 wF → RefPost w B ok g f id t body fs ss fr bd r1 r2 r3 r4 r5 true (Ending.returned (.tuple #[.agg #[.int .i64 id, .int .i64 t, .int .i64 r1, .int .i64 r2, .slice A2 r3.length d2, .slice A3 r4.length d3, .slice A4 r5.length d4], .bool true])) wF := fun wF k1 k2 => by
    have hKF : bv_ w6 wF (fun k => k = g ∨ k = b1 + 1) := HK68.out.then_ k1 (fun k hk => .inl (.inr hk))
    refine ⟨true, by rw [decide_eq_true HQQ.out]; rfl, ⟨_, rfl, fun h => (by cases h), fun _ => ⟨_, _, _, rfl, ?_, ?_, ?_⟩⟩, ?_, ?_, ?_⟩
    ·exact Kd.R_lower (Kd.R_mono (Kd.R_kept HQ2.out hKF (fun k hk e => hne k hk.2.1 e)) (fun k hk => hk.1)) HWR.out
    ·exact Kd.R_lower (Kd.R_mono (Kd.R_kept HQ3.out hKF (fun k hk e => hne k hk.2.1 e)) (fun k hk => hk.1)) HWR.out
    ·exact Kd.S_lower (Kd.S_mono (Kd.S_kept HQ4.out hKF (fun k hk e => hne k hk.2.1 e)) (fun k hk => hk.1)) HWR.out
    ·exact (HR8.out.kept (S := fun k => k = b1 + 1) k1 (fun k hk => hk.2)).mono (fun k hk => hk.1)
    ·exact HK8.out.then_ k1 (fun k hk => .inr (by have := HBB.out; omega))
    ·exact HB8.out.trans (k2.mono HBB1.out)
   exact key _ (bv_.drew (dz_ (bv_.refl w8 (fun k => k = b1 + 1)) (.inl rfl) _ _ _ _ _ _ _)) (Below.drew (cp_ (Below.refl _ w8) (Nat.le_refl _) _ _ _ _ _ _ _))
end Go.Proofs.YtlcfcaokihoplaaGreatDoor.Cli
