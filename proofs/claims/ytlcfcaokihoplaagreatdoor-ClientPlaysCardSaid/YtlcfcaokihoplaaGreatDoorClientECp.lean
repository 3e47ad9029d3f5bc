-- Cut.
import Derived.Test.YtlcfcaokihoplaaGreatDoorClientDCp
namespace Go.Proofs.YtlcfcaokihoplaaGreatDoor.Cli
open Go.RowKit Go.Proofs.YtlcfcaokihoplaaGreatDoor.Ms Go.Proofs.YzW.PrintWords Go.Proofs.YzW.PrintLast Go.Proofs.YzW.PrintMore
set_option linter.unusedVariables false
set_option linter.unusedSimpArgs false
theorem infoV : (Tryz.prog.info? 80).map (fun i => (i.zero, i.size, i.bytes)) = some (some (.agg #[.int .i64 0, .string ⟨#[]⟩]), 2, 24) := by kernel_rfl
def OnPost (w : World) (B : Nat) (ok : Nat → Prop) (g : Nat) (f id t : Int) (body : ByteArray) (vs : List S80) (fr : Int) (bd : ByteArray) (r1 r2 : Int) (r3 r4 : List ByteArray) (r5 : List Mf.S107) (r6 : Option Int) (e : Ending) (w' : World) : Prop :=
 ∃ is : Bool, is = (r6.isNone && decide (f < ((CliP.whoL bd [] (vs ++ [⟨fr, bd⟩])).length : Int))) ∧
   (∃ av : Value, e = .returned (.tuple #[av, .bool is]) ∧ (is = false → av = accZ) ∧ (is = true → ∃ v2 v3 v4 : Value, av = .agg #[.int .i64 id, .int .i64 t, .int .i64 r1, .int .i64 r2, v2, v3, v4] ∧ Kd.R Kd.string 9 w' w.heap.size (fun k_ => some k_ ≠ (v3 : Value).ownBlock) v2 r3 ∧ Kd.R Kd.string 9 w' w.heap.size (fun k_ => some k_ ≠ (v2 : Value).ownBlock) v3 r4 ∧ Kd.S Mf.k107 107 w' w.heap.size (fun k_ => some k_ ≠ (v2 : Value).ownBlock ∧ some k_ ≠ (v3 : Value).ownBlock) v4 r5)) ∧
   dg_ w w' B ok g f id t (!is) body (vs ++ [⟨fr, bd⟩])
set_option maxHeartbeats 16000000 in
set_option maxRecDepth 100000 in
theorem client_On_yes (w : World) (B : Nat) (ok : Nat → Prop) (g : Nat) (f id t : Int) (body : ByteArray) (vs : List S80) (h : bq_ w B ok g f id t true body vs) (hf : 1 ≤ f ∧ f ≤ 4) (hvs : vs.length ≤ 5000)
  (fr vw : Int) (bd : ByteArray) (A6 : Option Addr) (n6 c6 : Nat) (A7 : Option Addr) (n7 c7 : Nat) (hfr : 0 ≤ fr ∧ fr ≤ 3 * f) (hno : (vs.any fun v => v.f0 == fr) = false)
  (k : Nat) (r1 r2 : Int) (r3 r4 : List ByteArray) (r5 : List Mf.S107) (r6 : Option Int) (hG : Mf.msg_GetAnswer.f k bd = some (r1, r2, r3, r4, r5, r6)) :
  Calls Tryz.prog 15 #[.pointer (some ⟨g, 0, none⟩), .agg #[.int .i64 7, .int .i64 fr, .int .i64 vw, .int .i64 t, .string bd, .slice A6 n6 c6, .slice A7 n7 c7]] w (OnPost w B ok g f id t body vs fr bd r1 r2 r3 r4 r5 r6) := by
 have hgl := h.glt
 have HBW : Hid (B ≤ w.heap.size) := Lib.hid (by have := h.1; omega)
 obtain ⟨okb, hokb⟩ : ∃ okb : Nat → Prop, okb = fun k => ok k ∧ B ≤ k ∧ k < w.heap.size := ⟨_, rfl⟩
 have h' := h.bound
 rw [← hokb] at h'
 obtain ⟨Av, cv, hb, hr, hB, hok, hvl⟩ := h'.open_
 have hokl : ∀ k, okb k → ok k ∧ k < w.heap.size := fun k hk => by rw [hokb] at hk; exact ⟨hk.1, hk.2.2⟩
 have HOKL := Lib.hid hokl
 have c5 : w.cell? ⟨g, 5, none⟩ = some (.slice Av vs.length cv) := (b_ hb 5).trans rfl
 have HB := Lib.hid hb
 have HR := Lib.hid hr
 have HBG := Lib.hid hB
 have HOK := Lib.hid hok
 have HVS := Lib.hid hvs
 have HGA := Lib.hid hG
 have hgw : g ≠ w.heap.size := by omega
 have hgw1 : g ≠ w.heap.size + 1 := by omega
 have hw3 : wrap64 (3 * f) = 3 * f := by unfold wrap64; omega
 have HW3 := Lib.hid hw3
 have HGL := Lib.hid hgl
 have q3 : decide (fr < 0) = false := by simp; omega
 have q4 : decide (3 * f < fr) = false := by simp; omega
 clear hb hr hB hok hvl h h' hw3 hf hfr hvs hG hokl hokb
 go_enter Tryz.func15, Tryz.ntmps15
 go_wp2_with fail
 obtain ⟨b1, hb1⟩ : ∃ b1, b1 = w.heap.size := ⟨_, rfl⟩
 have hX1 := heap_alloc_new w (.cells #[.int .i64 7, .int .i64 fr, .int .i64 vw, .int .i64 t, .string bd, .slice A6 n6 c6, .slice A7 n7 c7] 40)
 have hB1 : Below w.heap.size w (w.alloc (.cells #[.int .i64 7, .int .i64 fr, .int .i64 vw, .int .i64 t, .string bd, .slice A6 n6 c6, .slice A7 n7 c7] 40)) := (Below.refl _ w).alloc (Nat.le_refl _) _
 have hs1 : (w.alloc (.cells #[.int .i64 7, .int .i64 fr, .int .i64 vw, .int .i64 t, .string bd, .slice A6 n6 c6, .slice A7 n7 c7] 40)).heap.size = w.heap.size + 1 := by simp
 generalize w.alloc (.cells #[.int .i64 7, .int .i64 fr, .int .i64 vw, .int .i64 t, .string bd, .slice A6 n6 c6, .slice A7 n7 c7] 40) = wa at hX1 hB1 hs1 ⊢
 have hX2 := heap_alloc_new wa (.cells #[.int .i64 0, .int .i64 0, .int .i64 0, .int .i64 0, .slice none 0 0, .slice none 0 0, .slice none 0 0] 59)
 have hB2 : Below wa.heap.size wa (wa.alloc (.cells #[.int .i64 0, .int .i64 0, .int .i64 0, .int .i64 0, .slice none 0 0, .slice none 0 0, .slice none 0 0] 59)) := (Below.refl _ wa).alloc (Nat.le_refl _) _
 have hs2 : (wa.alloc (.cells #[.int .i64 0, .int .i64 0, .int .i64 0, .int .i64 0, .slice none 0 0, .slice none 0 0, .slice none 0 0] 59)).heap.size = wa.heap.size + 1 := by simp
 generalize wa.alloc (.cells #[.int .i64 0, .int .i64 0, .int .i64 0, .int .i64 0, .slice none 0 0, .slice none 0 0, .slice none 0 0] 59) = w1 at hX2 hB2 hs2 ⊢
 rw [hs1] at hX2 hs2
 rw [← hb1] at hX1 hX2 hs2 hgw hgw1 ⊢
 have hX1' := s_ hX1 hB2
 have HX1 := Lib.hid hX1'
 have HX2 := Lib.hid hX2
 have HBL : Hid (Below w.heap.size w w1) := Lib.hid (hB1.trans (hB2.mono hB1.size))
 have HBB := Lib.hid hb1
 have HSZ1 : Hid (b1 + 2 ≤ w1.heap.size) := Lib.hid (by omega)
 clear hX1 hX2 hB1 hB2 hs1 hs2 hX1' hb1 c5 wa
 refine (said_calls w1 Av cv vs b1 fr (Kd.C_below (Kd.R_reads' HR.out).2.2 HBL.out) ((b_ HX1.out 1).trans rfl)).mono ?_
 rintro e w2 ⟨rfl, hb2⟩
 rw [hno]
 have hX := s_ HX1.out hb2
 have hZ := s_ HX2.out hb2
 have hG := s_ (s_ HB.out HBL.out) hb2
 have HBw2 := Lib.hid (HBL.out.trans (hb2.mono HBL.out.size))
 have HSZ2 : Hid (b1 + 2 ≤ w2.heap.size) := Lib.hid (Nat.le_trans HSZ1.out hb2.size)
 have m0 : w2.cell? ⟨b1, 0, none⟩ = some (.int .i64 7) := (b_ hX 0).trans rfl
 have m1 : w2.cell? ⟨b1, 1, none⟩ = some (.int .i64 fr) := (b_ hX 1).trans rfl
 have m3 : w2.cell? ⟨b1, 3, none⟩ = some (.int .i64 t) := (b_ hX 3).trans rfl
 have g0 : w2.cell? ⟨g, 0, none⟩ = some (.int .i64 f) := (b_ hG 0).trans rfl
 have g2 : w2.cell? ⟨g, 2, none⟩ = some (.int .i64 t) := (b_ hG 2).trans rfl
 have g3 : w2.cell? ⟨g, 3, none⟩ = some (.bool true) := (b_ hG 3).trans rfl
 have HXa := Lib.hid hX
 have HZa := Lib.hid hZ
 have HGa := Lib.hid hG
 clear hX hZ hG hb2 hno
 go_wp2_with fail
 have hw3 := HW3.out
 go_quiet (fail)
 clear m0 m1 m3 g0 g2 g3 hw3 q3 q4
 have HX := Lib.hid (u_ HXa.out nq)
 have HZ := Lib.hid (u_ HZa.out nq)
 have HG := Lib.hid (u_ HGa.out nq)
 have HBwq := Lib.hid (d_ HBw2.out nq)
 have HSZ : Hid (b1 + 2 ≤ (w2.drewN nq).heap.size) := Lib.hid HSZ2.out
 generalize w2.drewN nq = wq at HX HZ HG HBwq HSZ ⊢
 have HRw : Hid (Kd.R k80 80 wq B (fun k => (okb k ∨ wq.heap.size ≤ k) ∧ k ≠ g) (.slice Av vs.length cv) vs) := Lib.hid (Kd.R_mono (Kd.R_below HR.out HBwq.out) (fun k hk => ⟨.inl hk.1, hk.2⟩))
 have HRo := Lib.hid (HR.out.1)
 have HBWq : Hid (B ≤ wq.drew.heap.size) := Lib.hid (by have := HBW.out; have := HBwq.out.size; show B ≤ wq.heap.size; omega)
 have HFR : Hid (∀ k, wq.drew.heap.size ≤ k → (okb k ∨ wq.heap.size ≤ k) ∧ k ≠ g) := Lib.hid (fun k hk => ⟨.inr hk, by have h2 : wq.heap.size ≤ k := hk; have := HGL.out; have := HBwq.out.size; omega⟩)
 have HLEN : Hid ((vs.length + 1) * 24 ≤ 140737488355328) := Lib.hid (by have := HVS.out; omega)
 have HNG : Hid (some g ≠ (Value.slice Av vs.length cv).ownBlock) := Lib.hid (fun e => (HRo.out g e.symm).2 rfl)
 have HNX : Hid (some b1 ≠ (Value.slice Av vs.length cv).ownBlock) := Lib.hid (fun e => by have := (HOKL.out _ (HRo.out b1 e.symm).1).2; have := HBB.out; omega)
 have HNZ : Hid (some (b1 + 1) ≠ (Value.slice Av vs.length cv).ownBlock) := Lib.hid (fun e => by have := (HOKL.out _ (HRo.out _ e.symm).1).2; have := HBB.out; omega)
 clear HXa HZa HGa HX1 HX2
 go_wp2_with fail
 refine start_ (n := 15) (S := fun w' => w'.cell? ⟨g, 5, none⟩ = some (.slice Av vs.length cv) ∧ w'.cell? ⟨b1, 1, none⟩ = some (.int .i64 fr) ∧ w'.cell? ⟨b1, 4, none⟩ = some (.string bd)) (ds := [11, 14]) #[F_, F_, F_, F_, F_, F_, F_, F_, F_, F_, F_, F_, F_, F_, F_] (by kernel_rfl) rfl rfl ⟨((b_ (o_ HG.out) 5).trans rfl), ((b_ (o_ HX.out) 1).trans rfl), ((b_ (o_ HX.out) 4).trans rfl)⟩ (fun hHeld => ?_)
 refine ay_ (i := 0) (N := some 53) (v := ?_) (a' := ?_) #[T_, F_, F_, F_, F_, F_, F_, F_, F_, F_, F_, F_, F_, F_, F_] rfl rfl (by kernel_rfl) (fun _ _ _ h => h) (Or.inl ⟨by rfl, ?_⟩) ?_ ?_
 rotate_left
 ·intro w'
  go_simp
  with_reducible rfl
 rotate_left
 ·simp only [Act.put, sA_, sB_, sC_, af_, ag_]
  rfl
 refine ay_ (i := 1) (N := some 54) (v := ?_) (a' := ?_) #[T_, T_, F_, F_, F_, F_, F_, F_, F_, F_, F_, F_, F_, F_, F_] rfl rfl (by kernel_rfl) (fun _ _ _ h => h) (Or.inl ⟨by rfl, ?_⟩) ?_ ?_
 rotate_left
 ·intro w'
  go_simp
  with_reducible rfl
 rotate_left
 ·simp only [Act.put, sA_, sB_, sC_, af_, ag_]
  rfl
 refine ay_ (i := 2) (N := some 55) (v := ?_) (a' := ?_) #[T_, T_, T_, F_, F_, F_, F_, F_, F_, F_, F_, F_, F_, F_, F_] rfl rfl (by kernel_rfl) (fun _ _ _ h => h) (Or.inl ⟨by rfl, ?_⟩) ?_ ?_
 rotate_left
 ·intro w'
  go_simp
  with_reducible rfl
 rotate_left
 ·simp only [Act.put, sA_, sB_, sC_, af_, ag_]
  rfl
 refine ay_ (i := 3) (N := some 56) (v := ?_) (a' := ?_) #[T_, T_, T_, T_, F_, F_, F_, F_, F_, F_, F_, F_, F_, F_, F_] rfl rfl (by kernel_rfl) (fun _ _ _ h => h) (Or.inl ⟨by rfl, ?_⟩) ?_ ?_
 rotate_left
 ·intro w'
  go_simp
  with_reducible rfl
 rotate_left
 ·simp only [Act.put, sA_, sB_, sC_, af_, ag_]
  rfl
 refine ay_ (i := 5) (N := some 58) (v := ?_) (a' := ?_) #[T_, T_, T_, T_, F_, T_, F_, F_, F_, F_, F_, F_, F_, F_, F_] rfl rfl (by kernel_rfl) (fun _ _ _ h => h) (Or.inl ⟨by rfl, ?_⟩) ?_ ?_
 rotate_left
 ·intro w'
  go_simp
  with_reducible rfl
 rotate_left
 ·simp only [Act.put, sA_, sB_, sC_, af_, ag_]
  rfl
 refine ay_ (i := 7) (N := some 60) (v := ?_) (a' := ?_) #[T_, T_, T_, T_, F_, T_, F_, T_, F_, F_, F_, F_, F_, F_, F_] rfl rfl (by kernel_rfl) (fun _ _ _ h => h) (Or.inl ⟨by rfl, ?_⟩) ?_ ?_
 rotate_left
 ·intro w'
  go_simp
  with_reducible rfl
 rotate_left
 ·simp only [Act.put, sA_, sB_, sC_, af_, ag_]
  rfl
 refine take_ (i := 4) (N := some 57) (v := ?_) (a' := ?_) #[T_, T_, T_, T_, T_, T_, F_, T_, F_, F_, F_, F_, F_, F_, F_] rfl rfl (by kernel_rfl) (fun _ _ _ h => h) (Or.inl ⟨by rfl, ?_⟩) hHeld ?_ ?_
 rotate_left
 ·rintro w' ⟨s0, s1, s2⟩
  go_simp
  with_reducible rfl
 rotate_left
 ·simp only [Act.put, sA_, sB_, sC_, af_, ag_]
  rfl
 refine take_ (i := 6) (N := some 59) (v := ?_) (a' := ?_) #[T_, T_, T_, T_, T_, T_, T_, T_, F_, F_, F_, F_, F_, F_, F_] rfl rfl (by kernel_rfl) (fun _ _ _ h => h) (Or.inl ⟨by rfl, ?_⟩) hHeld ?_ ?_
 rotate_left
 ·rintro w' ⟨s0, s1, s2⟩
  go_simp
  with_reducible rfl
 rotate_left
 ·simp only [Act.put, sA_, sB_, sC_, af_, ag_]
  rfl
 refine take_ (i := 8) (N := some 61) (v := ?_) (a' := ?_) #[T_, T_, T_, T_, T_, T_, T_, T_, T_, F_, F_, F_, F_, F_, F_] rfl rfl (by kernel_rfl) (fun _ _ _ h => h) (Or.inl ⟨by rfl, ?_⟩) hHeld ?_ ?_
 rotate_left
 ·rintro w' ⟨s0, s1, s2⟩
  go_simp
  with_reducible rfl
 rotate_left
 ·simp only [Act.put, sA_, sB_, sC_, af_, ag_]
  rfl
 refine ay_ (i := 9) (N := some 62) (v := ?_) (a' := ?_) #[T_, T_, T_, T_, T_, T_, T_, T_, T_, T_, F_, F_, F_, F_, F_] rfl rfl (by kernel_rfl) (fun _ _ _ h => h) (Or.inl ⟨by rfl, ?_⟩) ?_ ?_
 rotate_left
 ·intro w'
  go_simp
  with_reducible rfl
 rotate_left
 ·simp only [Act.put, sA_, sB_, sC_, af_, ag_]
  rfl
 refine one_ (i := 10) (N := some 63) #[T_, T_, T_, T_, T_, T_, T_, T_, T_, T_, T_, F_, F_, F_, F_] rfl rfl (by kernel_rfl) (by decide) (fun K hK => ?_)
 refine value_ (w1 := ?_) (v := ?_) (by rfl) rfl ?_ ?_
 rotate_left 2
 ·go_simp
  constructor
  ·rfl
  ·rfl
 refine hK.out _ _ ⟨((b_ (s_ HG.out (((Below.refl _ wq).alloc (Nat.le_refl _) _).drew)) 5).trans rfl), ((b_ (s_ HX.out (((Below.refl _ wq).alloc (Nat.le_refl _) _).drew)) 1).trans rfl), ((b_ (s_ HX.out (((Below.refl _ wq).alloc (Nat.le_refl _) _).drew)) 4).trans rfl)⟩ (fun hHeld => ?_)
 clear hK K
 refine norm_ (a' := ?_) ?_ ?_
 rotate_left
 ·show Act.put _ (some 63) _ = _
  simp only [Act.put, sA_, sB_, sC_, af_, ag_]
  rfl
 refine last_ (i := 11) (N := some 64) #[T_, T_, T_, T_, T_, T_, T_, T_, T_, T_, T_, T_, F_, F_, F_] rfl rfl (by kernel_rfl) (by decide) (fun K hK => ?_)
 refine Kd.R_append_step k80 (w0 := wq) (W := wq.drew) B (by rfl) (.tmp 57) (.tmp 63) 64 80 (.agg #[.int .i64 0, .string ⟨#[]⟩]) 24 (by rfl) Tryz.underlying64 infoV rfl (by decide) (by omega) (.slice Av vs.length cv) vs (⟨fr, bd⟩ : S80) [.int .i64 fr, .string bd] (fun k => (okb k ∨ wq.heap.size ≤ k) ∧ k ≠ g) (fun _ => False) (by rfl) (by rfl) (k80_mkM _ _ _ _) (fun _ h => h.elim) HFR.out (Kd.R_drew HRw.out) ((Below.refl _ _).drew) HBWq.out HLEN.out ?_
 intro v1 w3 hown hbel hgr hat
 obtain ⟨A1, c1, rfl⟩ := Kd.R_slice hown
 have hg3 := bu_ (o_ HG.out) hgr HNG.out
 have hx3 := bu_ (o_ HX.out) hgr HNX.out
 have hz3 := bu_ (o_ HZ.out) hgr HNZ.out
 have k3 : w3.cell? ⟨g, 5, none⟩ = some (.slice Av vs.length cv) := (b_ hg3 5).trans rfl
 have f3 := a_ hg3 5
 have HO3 := Lib.hid hown
 have HG3 := Lib.hid hg3
 have HX3 := Lib.hid hx3
 have HZ3 := Lib.hid hz3
 have HBel3 := Lib.hid hbel
 have HGR3 := Lib.hid hgr
 clear hown hg3 hx3 hz3 hbel hgr hat
 refine hK.out _ _ ?_
 clear hK K
 refine norm_ (a' := ?_) ?_ ?_
 rotate_left
 ·show Act.put _ (some 64) _ = _
  simp only [Act.put, sA_, sB_, sC_, af_, ag_]
  rfl
 refine ay_ (i := 12) (N := some 65) (v := ?_) (a' := ?_) #[T_, T_, T_, T_, T_, T_, T_, T_, T_, T_, T_, T_, T_, F_, F_] rfl rfl (by kernel_rfl) (fun _ _ _ h => h) (Or.inl ⟨by rfl, ?_⟩) ?_ ?_
 rotate_left
 ·intro w'
  go_simp
  with_reducible rfl
 rotate_left
 ·simp only [Act.put, sA_, sB_, sC_, af_, ag_]
  rfl
 refine ay_ (i := 13) (N := some 66) (v := ?_) (a' := ?_) #[T_, T_, T_, T_, T_, T_, T_, T_, T_, T_, T_, T_, T_, T_, F_] rfl rfl (by kernel_rfl) (fun _ _ _ h => h) (Or.inl ⟨by rfl, ?_⟩) ?_ ?_
 rotate_left
 ·intro w'
  go_simp
  with_reducible rfl
 rotate_left
 ·simp only [Act.put, sA_, sB_, sC_, af_, ag_]
  rfl
 refine last_ (i := 14) (N := none) #[T_, T_, T_, T_, T_, T_, T_, T_, T_, T_, T_, T_, T_, T_, T_] rfl rfl (by kernel_rfl) (by decide) (fun K hK => ?_)
 refine skip_ (w1 := ?_) (by rfl) rfl ?_ ?_
 rotate_left
 ·go_simp
  rfl
 refine hK.out _ _ ?_
 clear hK K
 refine done_ (by kernel_rfl) ?_
 obtain ⟨vs', hvs'⟩ : ∃ vs', vs' = vs ++ [(⟨fr, bd⟩ : S80)] := ⟨_, rfl⟩
 have hvl' : vs.length + 1 = vs'.length := by rw [hvs']; simp
 have hO3 := HO3.out
 rw [← hvs'] at hO3
 have hO3' := hO3
 have hn5 : vs'.length ≤ 5001 := by rw [← hvl']; have := HVS.out; omega
 rw [hvl']
 have HVD := Lib.hid hvs'
 obtain ⟨w4, hw4⟩ : ∃ w4, w4 = w3.setCell ⟨g, 5, none⟩ (.slice A1 vs'.length c1) := ⟨_, rfl⟩
 have hg4 : w4.heap[g]? = some (.cells #[.int .i64 f, .int .i64 id, .int .i64 t, .bool true, .string body, .slice A1 vs'.length c1] 66 (0, 0)) := by
  have := dc_ HG3.out 5 (.slice A1 vs'.length c1)
  rw [← hw4] at this
  simpa using this
 have hx4 := bl_ HX3.out (p := ⟨g, 5, none⟩) (Ne.symm hgw) (.slice A1 vs'.length c1)
 have hz4 := bl_ HZ3.out (p := ⟨g, 5, none⟩) (Ne.symm hgw1) (.slice A1 vs'.length c1)
 have hK4 : bv_ w w4 ok := by
  rw [hw4]
  exact bv_.setCell (p := ⟨g, 5, none⟩) (bv_.of_grown HGR3.out (bv_.of_below HBwq.out ok : bv_ w wq.drew ok) (fun k hk => .inl (HOKL.out k (HRo.out k hk).1).1)) (.inl (HOKL.out g HOK.out).1) _
 have hB4 : Below B w w4 := by
  rw [hw4]
  exact Below.setCell (p := ⟨g, 5, none⟩) ((HBwq.out.mono HBW.out).trans HBel3.out) HBG.out _
 have hR4 : Kd.R k80 80 w4 B (fun k => (okb k ∨ wq.heap.size ≤ k) ∧ k ≠ g) (.slice A1 vs'.length c1) vs' := by
  rw [hw4]
  exact Kd.R_far (p := ⟨g, 5, none⟩) hO3' (fun k hk => hk.2) _
 have hs4 : wq.heap.size ≤ w4.heap.size := by
  rw [hw4]
  have h1 := HGR3.out.size
  have h2 : (w3.setCell ⟨g, 5, none⟩ (.slice A1 vs'.length c1)).heap.size = w3.heap.size := by simp
  rw [h2]
  exact h1
 rw [← hw4] at hx4 hz4 ⊢
 have HG4 := Lib.hid hg4
 have HX4 := Lib.hid hx4
 have HZ4 := Lib.hid hz4
 have HK4 := Lib.hid hK4
 have HB4 := Lib.hid hB4
 have HR4 := Lib.hid hR4
 have HS4 : Hid (b1 + 2 ≤ w4.heap.size) := Lib.hid (by have := HSZ.out; omega)
 have HSQ := Lib.hid hs4
 have HN5 := Lib.hid hn5
 have m4 : w4.cell? ⟨b1, 4, none⟩ = some (.string bd) := (b_ hx4 4).trans rfl
 clear hg4 hx4 hz4 hK4 hB4 hR4 hs4 hO3 hO3' hvs' hvl' hn5 hw4 hHeld HO3 HG3 HX3 HZ3 HX HZ HG HBel3 HGR3 HRw k3 f3
 go_wp2_with fail
 refine (Mf.msg_GetAnswer.calls k bd r1 r2 r3 r4 r5 r6 w4 HGA.out).mono ?_
 rintro e w5 ⟨v2, v3, v4, rfl, ha2, ha3, ha4, hb5⟩
 obtain ⟨A2, d2, rfl⟩ := Kd.R_slice ha2
 obtain ⟨A3, d3, rfl⟩ := Kd.R_slice ha3
 obtain ⟨A4, d4, rfl⟩ := Kd.S_slice ha4
 have HA2 := Lib.hid ha2
 have HA3 := Lib.hid ha3
 have HA4 := Lib.hid ha4
 have HB5 := Lib.hid hb5
 have hx5 := s_ HX4.out hb5
 have hlt5 := hb5.size
 have hne5 : b1 ≠ w5.heap.size := by have := HS4.out; omega
 have hne5' : b1 + 1 ≠ w5.heap.size := by have := HS4.out; omega
 have hne5g : g ≠ w5.heap.size := by have := HGL.out; have := HBB.out; have := HS4.out; omega
 clear ha2 ha3 ha4 hb5 hx5 m4
 go_wp2_with fail
 obtain ⟨b3, hb3⟩ : ∃ b3, b3 = w5.heap.size := ⟨_, rfl⟩
 have hA6 := heap_alloc_new w5 (.cells #[.int .i64 r1, .int .i64 r2, .slice A2 r3.length d2, .slice A3 r4.length d3, .slice A4 r5.length d4] 57)
 have hB56 : Below w5.heap.size w5 (w5.alloc (.cells #[.int .i64 r1, .int .i64 r2, .slice A2 r3.length d2, .slice A3 r4.length d3, .slice A4 r5.length d4] 57)) := (Below.refl _ w5).alloc (Nat.le_refl _) _
 generalize w5.alloc (.cells #[.int .i64 r1, .int .i64 r2, .slice A2 r3.length d2, .slice A3 r4.length d3, .slice A4 r5.length d4] 57) = w6 at hA6 hB56 ⊢
 rw [← hb3] at hA6 ⊢
 have hB46 : Below w4.heap.size w4 w6 := HB5.out.trans (hB56.mono hlt5)
 have HA6 := Lib.hid hA6
 have HG6 := Lib.hid (s_ HG4.out hB46)
 have HX6 := Lib.hid (s_ HX4.out hB46)
 have HZ6 := Lib.hid (s_ HZ4.out hB46)
 have HV6 := Lib.hid (Kd.R_below HR4.out hB46)
 have HRV6 := Lib.hid (Kd.R_reads' HV6.out)
 have HK6 := Lib.hid (HK4.out.below hB46)
 have HBw4 : Hid (B ≤ w4.heap.size) := Lib.hid (by have := HS4.out; have := HBW.out; have := HBB.out; omega)
 have HB6 := Lib.hid (HB4.out.trans (hB46.mono HBw4.out))
 have HS6 : Hid (wq.heap.size ≤ w6.heap.size) := Lib.hid (Nat.le_trans HSQ.out hB46.size)
 have HQ2 := Lib.hid (Kd.R_below (Kd.R_bound HA2.out) hB56)
 have HQ3 := Lib.hid (Kd.R_below (Kd.R_bound HA3.out) hB56)
 have HQ4 := Lib.hid (Kd.S_below (Kd.S_bound HA4.out) hB56)
 have HB3 := Lib.hid hb3
 have HL3 : Hid (w4.heap.size ≤ b3) := Lib.hid (by rw [hb3]; exact hlt5)
 have HC6 : Hid (bq_ w6 B (fun k => okb k ∨ wq.heap.size ≤ k) g f id t true body vs') := Lib.hid ⟨HBG.out, .inl HOK.out, by have := HN5.out; omega, _, HG6.out, HV6.out⟩
 have hokc : ∀ k, okb k ∨ wq.heap.size ≤ k → ok k ∨ w.heap.size ≤ k := fun k hk => hk.elim (fun h => .inl (HOKL.out k h).1) (fun h => .inr (by have := HSZ.out; have := HBB.out; omega))
 have hnc : ∀ k, okb k ∨ wq.heap.size ≤ k → ¬ k = b1 + 1 := fun k hk e => hk.elim (fun h => by have := (HOKL.out k h).2; have := HBB.out; omega) (fun h => by have := HSZ.out; omega)
 have HOKC := Lib.hid hokc
 have HNC := Lib.hid hnc
 have hfin0 : ∀ w9 : World, bv_ w6 w9 (fun k => k = b1 + 1) → Below B w6 w9 → dg_ w w9 B ok g f id t true body vs' := fun w9 k1 k3 =>
  ⟨(HC6.out.kept (S := fun k => k = b1 + 1) k1 HNC.out).mono HOKC.out, HK6.out.then_ k1 (fun k hk => .inr (by have := HBB.out; omega)), HB6.out.trans k3⟩
 have HF0 := Lib.hid hfin0
 clear hA6 hB56 hB46 hokc hnc hfin0 hlt5 hne5 hne5' hne5g HB5 HX4 HZ4 HG4 HR4 HK4 HB4 HA2 HA3 HA4 hb3
 cases r6 with
 | some er =>
  rw [show Mf.errW (some er) = .iface 29 (.int .i64 er) from rfl]
  go_quiet (fail)
  obtain ⟨z0, z1, z2, z3, z4, z5, z6, y0, y1, y2, y3, y4, y5, y6⟩ := zeroA HZ6.out
  go_wp2
  refine bodyPost_ret (v := .tuple #[accZ, .bool false]) ?_ rfl ?_
  ·unfold results
   go_simp
   rfl
  have hv := HVD.out
  subst hv
  refine ⟨false, rfl, ⟨accZ, rfl, fun _ => rfl, fun h => by cases h⟩, HF0.out _ (dz_ (bv_.drewN (bv_.refl w6 (fun k => k = b1 + 1)) _) (.inl rfl) _ _ _ _ _ _ _) (cp_ (d_ (Below.refl B w6) _) (by have := HBW.out; have := HBB.out; omega) _ _ _ _ _ _ _)⟩
 | none =>
 have HCNT : Hid (vote_Count.f 20010 vs' bd = some ((CliP.whoL bd [] vs').length : Int)) := Lib.hid (CliP.count_f bd vs' 20010 (by have := HN5.out; omega) (by have := HN5.out; omega))
 rw [show Mf.errW none = .nilIface from rfl]
 refine start_ (n := 16) (S := fun w' => w'.cell? ⟨g, 5, none⟩ = some (.slice A1 vs'.length c1) ∧ w'.cell? ⟨b1, 4, none⟩ = some (.string bd) ∧ w'.cell? ⟨g, 0, none⟩ = some (.int .i64 f)) (ds := []) #[F_, F_, F_, F_, F_, F_, F_, F_, F_, F_, F_, F_, F_, F_, F_, F_] (by kernel_rfl) rfl rfl ⟨((b_ (s_ HG6.out (Below.refl _ w6).drew) 5).trans rfl), ((b_ (s_ HX6.out (Below.refl _ w6).drew) 4).trans rfl), ((b_ (s_ HG6.out (Below.refl _ w6).drew) 0).trans rfl)⟩ (fun hHeld => ?_)
 refine ay_ (i := 0) (N := some 73) (v := ?_) (a' := ?_) #[T_, F_, F_, F_, F_, F_, F_, F_, F_, F_, F_, F_, F_, F_, F_, F_] rfl rfl (by kernel_rfl) (fun _ _ _ h => h) (Or.inl ⟨by rfl, ?_⟩) ?_ ?_
 rotate_left
 ·intro w'
  go_simp
  with_reducible rfl
 rotate_left
 ·simp only [Act.put, sA_, sB_, sC_, af_, ag_]
  rfl
 refine ay_ (i := 1) (N := some 74) (v := ?_) (a' := ?_) #[T_, T_, F_, F_, F_, F_, F_, F_, F_, F_, F_, F_, F_, F_, F_, F_] rfl rfl (by kernel_rfl) (fun _ _ _ h => h) (Or.inl ⟨by rfl, ?_⟩) ?_ ?_
 rotate_left
 ·intro w'
  go_simp
  with_reducible rfl
 rotate_left
 ·simp only [Act.put, sA_, sB_, sC_, af_, ag_]
  rfl
 refine ay_ (i := 2) (N := some 75) (v := ?_) (a' := ?_) #[T_, T_, T_, F_, F_, F_, F_, F_, F_, F_, F_, F_, F_, F_, F_, F_] rfl rfl (by kernel_rfl) (fun _ _ _ h => h) (Or.inl ⟨by rfl, ?_⟩) ?_ ?_
 rotate_left
 ·intro w'
  go_simp
  with_reducible rfl
 rotate_left
 ·simp only [Act.put, sA_, sB_, sC_, af_, ag_]
  rfl
 refine ay_ (i := 3) (N := some 76) (v := ?_) (a' := ?_) #[T_, T_, T_, T_, F_, F_, F_, F_, F_, F_, F_, F_, F_, F_, F_, F_] rfl rfl (by kernel_rfl) (fun _ _ _ h => h) (Or.inl ⟨by rfl, ?_⟩) ?_ ?_
 rotate_left
 ·intro w'
  go_simp
  with_reducible rfl
 rotate_left
 ·simp only [Act.put, sA_, sB_, sC_, af_, ag_]
  rfl
 refine ay_ (i := 4) (N := some 77) (v := ?_) (a' := ?_) #[T_, T_, T_, T_, T_, F_, F_, F_, F_, F_, F_, F_, F_, F_, F_, F_] rfl rfl (by kernel_rfl) (fun _ _ _ h => h) (Or.inl ⟨by rfl, ?_⟩) ?_ ?_
 rotate_left
 ·intro w'
  go_simp
  with_reducible rfl
 rotate_left
 ·simp only [Act.put, sA_, sB_, sC_, af_, ag_]
  rfl
 refine ay_ (i := 5) (N := some 78) (v := ?_) (a' := ?_) #[T_, T_, T_, T_, T_, T_, F_, F_, F_, F_, F_, F_, F_, F_, F_, F_] rfl rfl (by kernel_rfl) (fun _ _ _ h => h) (Or.inl ⟨by rfl, ?_⟩) ?_ ?_
 rotate_left
 ·intro w'
  go_simp
  with_reducible rfl
 rotate_left
 ·simp only [Act.put, sA_, sB_, sC_, af_, ag_]
  rfl
 refine ay_ (i := 7) (N := some 80) (v := ?_) (a' := ?_) #[T_, T_, T_, T_, T_, T_, F_, T_, F_, F_, F_, F_, F_, F_, F_, F_] rfl rfl (by kernel_rfl) (fun _ _ _ h => h) (Or.inl ⟨by rfl, ?_⟩) ?_ ?_
 rotate_left
 ·intro w'
  go_simp
  with_reducible rfl
 rotate_left
 ·simp only [Act.put, sA_, sB_, sC_, af_, ag_]
  rfl
 refine ay_ (i := 10) (N := some 83) (v := ?_) (a' := ?_) #[T_, T_, T_, T_, T_, T_, F_, T_, F_, F_, T_, F_, F_, F_, F_, F_] rfl rfl (by kernel_rfl) (fun _ _ _ h => h) (Or.inl ⟨by rfl, ?_⟩) ?_ ?_
 rotate_left
 ·intro w'
  go_simp
  with_reducible rfl
 rotate_left
 ·simp only [Act.put, sA_, sB_, sC_, af_, ag_]
  rfl
 refine ay_ (i := 11) (N := some 84) (v := ?_) (a' := ?_) #[T_, T_, T_, T_, T_, T_, F_, T_, F_, F_, T_, T_, F_, F_, F_, F_] rfl rfl (by kernel_rfl) (fun _ _ _ h => h) (Or.inl ⟨by rfl, ?_⟩) ?_ ?_
 rotate_left
 ·intro w'
  go_simp
  with_reducible rfl
 rotate_left
 ·simp only [Act.put, sA_, sB_, sC_, af_, ag_]
  rfl
 refine ay_ (i := 12) (N := some 85) (v := ?_) (a' := ?_) #[T_, T_, T_, T_, T_, T_, F_, T_, F_, F_, T_, T_, T_, F_, F_, F_] rfl rfl (by kernel_rfl) (fun _ _ _ h => h) (Or.inl ⟨by rfl, ?_⟩) ?_ ?_
 rotate_left
 ·intro w'
  go_simp
  with_reducible rfl
 rotate_left
 ·simp only [Act.put, sA_, sB_, sC_, af_, ag_]
  rfl
 refine take_ (i := 6) (N := some 79) (v := ?_) (a' := ?_) #[T_, T_, T_, T_, T_, T_, T_, T_, F_, F_, T_, T_, T_, F_, F_, F_] rfl rfl (by kernel_rfl) (fun _ _ _ h => h) (Or.inl ⟨by rfl, ?_⟩) hHeld ?_ ?_
 rotate_left
 ·rintro w' ⟨s0, s1, s2⟩
  go_simp
  with_reducible rfl
 rotate_left
 ·simp only [Act.put, sA_, sB_, sC_, af_, ag_]
  rfl
 refine take_ (i := 8) (N := some 81) (v := ?_) (a' := ?_) #[T_, T_, T_, T_, T_, T_, T_, T_, T_, F_, T_, T_, T_, F_, F_, F_] rfl rfl (by kernel_rfl) (fun _ _ _ h => h) (Or.inl ⟨by rfl, ?_⟩) hHeld ?_ ?_
 rotate_left
 ·rintro w' ⟨s0, s1, s2⟩
  go_simp
  with_reducible rfl
 rotate_left
 ·simp only [Act.put, sA_, sB_, sC_, af_, ag_]
  rfl
 refine take_ (i := 13) (N := some 86) (v := ?_) (a' := ?_) #[T_, T_, T_, T_, T_, T_, T_, T_, T_, F_, T_, T_, T_, T_, F_, F_] rfl rfl (by kernel_rfl) (fun _ _ _ h => h) (Or.inl ⟨by rfl, ?_⟩) hHeld ?_ ?_
 rotate_left
 ·rintro w' ⟨s0, s1, s2⟩
  go_simp
  with_reducible rfl
 rotate_left
 ·simp only [Act.put, sA_, sB_, sC_, af_, ag_]
  rfl
 refine one_ (i := 9) (N := some 82) #[T_, T_, T_, T_, T_, T_, T_, T_, T_, T_, T_, T_, T_, T_, F_, F_] rfl rfl (by kernel_rfl) (by decide) (fun K hK => ?_)
 refine goes_ Tryz.func26 (by kernel_rfl) rfl #[.slice A1 vs'.length c1, .string bd] (by rfl) rfl rfl (by simp only [List.map_toArray, List.map_cons, List.map_nil]; rfl) ?_
 with_reducible refine (vote_Count.calls 20010 A1 c1 vs' bd ((CliP.whoL bd [] vs').length : Int) _ (Kd.C_below HRV6.out.2.2 (Below.refl _ w6).drew) HRV6.out.2.1 HCNT.out).mono ?_
 rintro e w7 ⟨rfl, hb7⟩
 refine ⟨_, rfl, ?_⟩
 have HB7 := Lib.hid ((Below.refl _ w6).drew.trans hb7 : Below w6.heap.size w6 w7)
 clear hb7
 refine hK.out _ _ ⟨((b_ (s_ HG6.out HB7.out) 5).trans rfl), ((b_ (s_ HX6.out HB7.out) 4).trans rfl), ((b_ (s_ HG6.out HB7.out) 0).trans rfl)⟩ (fun hHeld => ?_)
 clear hK K
 refine norm_ (a' := ?_) ?_ ?_
 rotate_left
 ·show Act.put _ (some 82) _ = _
  simp only [Act.put, sA_, sB_, sC_, af_, ag_]
  rfl
 refine ay_ (i := 14) (N := some 87) (v := ?_) (a' := ?_) #[T_, T_, T_, T_, T_, T_, T_, T_, T_, T_, T_, T_, T_, T_, T_, F_] rfl rfl (by kernel_rfl) (fun _ _ _ h => h) (Or.inl ⟨by rfl, ?_⟩) ?_ ?_
 rotate_left
 ·intro w'
  go_simp
  with_reducible rfl
 rotate_left
 ·simp only [Act.put, sA_, sB_, sC_, af_, ag_]
  rfl
 refine ay_ (i := 15) (N := some 88) (v := ?_) (a' := ?_) #[T_, T_, T_, T_, T_, T_, T_, T_, T_, T_, T_, T_, T_, T_, T_, T_] rfl rfl (by kernel_rfl) (fun _ _ _ h => h) (Or.inl ⟨by rfl, ?_⟩) ?_ ?_
 rotate_left
 ·intro w'
  go_simp
  with_reducible rfl
 rotate_left
 ·simp only [Act.put, sA_, sB_, sC_, af_, ag_]
  rfl
 refine done_ (by kernel_rfl) ?_
 have HG7 := Lib.hid (s_ HG6.out HB7.out)
 have HZ7 := Lib.hid (s_ HZ6.out HB7.out)
 have HA7 := Lib.hid (s_ HA6.out HB7.out)
 clear hHeld
 by_cases hq : ((CliP.whoL bd [] vs').length : Int) ≤ f
 ·have t1 : decide (((CliP.whoL bd [] vs').length : Int) ≤ f) = true := by simpa using hq
  have HQQ := Lib.hid hq
  rw [t1]
  clear hq
  obtain ⟨z0, z1, z2, z3, z4, z5, z6, y0, y1, y2, y3, y4, y5, y6⟩ := zeroA HZ7.out
  go_wp2
  refine bodyPost_ret (v := .tuple #[accZ, .bool false]) ?_ rfl ?_
  ·unfold results
   go_simp
   rfl
  have hv := HVD.out
  subst hv
  refine ⟨false, ?_, ⟨accZ, rfl, fun _ => rfl, fun h => by cases h⟩, HF0.out _ (dz_ (bv_.of_below HB7.out (fun k => k = b1 + 1)) (.inl rfl) _ _ _ _ _ _ _) (cp_ (HB7.out.mono (by have := HS6.out; have := HSZ.out; have := HBB.out; have := HBW.out; omega)) (by have := HBW.out; have := HBB.out; omega) _ _ _ _ _ _ _)⟩
  rw [decide_eq_false (by have := HQQ.out; omega)]
  rfl
 have t1 : decide (((CliP.whoL bd [] vs').length : Int) ≤ f) = false := by simpa using hq
 have HQQ : Hid (f < ((CliP.whoL bd [] vs').length : Int)) := Lib.hid (by omega)
 rw [t1]
 have k3 : w7.cell? ⟨g, 3, none⟩ = some (.bool true) := (b_ HG7.out 3).trans rfl
 have f3 := a_ HG7.out 3
 clear hq
 go_wp2_with fail
 have hg8 : (w7.setCell ⟨g, 3, none⟩ (.bool false)).heap[g]? = some (.cells #[.int .i64 f, .int .i64 id, .int .i64 t, .bool false, .string body, .slice A1 vs'.length c1] 66 (0, 0)) := by
  have := dc_ HG7.out 3 (.bool false)
  simpa using this
 have hgb3 : b3 ≠ g := by have := HL3.out; have := HS4.out; have := HGL.out; have := HBB.out; omega
 have ha8 := bl_ HA7.out (p := ⟨g, 3, none⟩) hgb3 (.bool false)
 have hz8 := bl_ HZ7.out (p := ⟨g, 3, none⟩) (Ne.symm hgw1) (.bool false)
 have hv8 := Kd.R_far (p := ⟨g, 3, none⟩) (Kd.R_below HV6.out HB7.out) (fun k hk => hk.2) (.bool false)
 have hK68 : bv_ w6 (w7.setCell ⟨g, 3, none⟩ (.bool false)) (fun k => k = g ∨ k = b1 + 1) := bv_.setCell (p := ⟨g, 3, none⟩) (bv_.of_below HB7.out _) (.inl (.inl rfl)) _
 have hK8 : bv_ w (w7.setCell ⟨g, 3, none⟩ (.bool false)) ok := bv_.setCell (p := ⟨g, 3, none⟩) (HK6.out.below HB7.out) (.inl (HOKL.out g HOK.out).1) _
 have hB8 : Below B w (w7.setCell ⟨g, 3, none⟩ (.bool false)) := Below.setCell (p := ⟨g, 3, none⟩) (HB6.out.trans (HB7.out.mono (by have := HS6.out; have := HSZ.out; have := HBB.out; have := HBW.out; omega))) HBG.out _
 clear k3 f3
 generalize w7.setCell ⟨g, 3, none⟩ (.bool false) = w8 at hg8 ha8 hz8 hv8 hK68 hK8 hB8 ⊢
 have HG8 := Lib.hid hg8
 have HA8 := Lib.hid ha8
 have HV8 := Lib.hid hv8
 have HK68 := Lib.hid hK68
 have HK8 := Lib.hid hK8
 have HB8 := Lib.hid hB8
 obtain ⟨z0, z1, z2, z3, z4, z5, z6, y0, y1, y2, y3, y4, y5, y6⟩ := zeroA hz8
 clear hg8 ha8 hz8 hv8 hK68 hK8 hB8
 refine start_ (n := 12) (S := fun w' => w'.cell? ⟨g, 1, none⟩ = some (.int .i64 id) ∧ w'.cell? ⟨g, 2, none⟩ = some (.int .i64 t) ∧ w'.cell? ⟨b3, 0, none⟩ = some (.int .i64 r1) ∧ w'.cell? ⟨b3, 1, none⟩ = some (.int .i64 r2) ∧ w'.cell? ⟨b3, 2, none⟩ = some (.slice A2 r3.length d2) ∧ w'.cell? ⟨b3, 3, none⟩ = some (.slice A3 r4.length d3) ∧ w'.cell? ⟨b3, 4, none⟩ = some (.slice A4 r5.length d4)) (ds := [10]) #[F_, F_, F_, F_, F_, F_, F_, F_, F_, F_, F_, F_] (by kernel_rfl) rfl rfl ⟨((b_ (o_ HG8.out) 1).trans rfl), ((b_ (o_ HG8.out) 2).trans rfl), ((b_ (o_ HA8.out) 0).trans rfl), ((b_ (o_ HA8.out) 1).trans rfl), ((b_ (o_ HA8.out) 2).trans rfl), ((b_ (o_ HA8.out) 3).trans rfl), ((b_ (o_ HA8.out) 4).trans rfl)⟩ (fun hHeld => ?_)
 refine ay_ (i := 0) (N := some 93) (v := ?_) (a' := ?_) #[T_, F_, F_, F_, F_, F_, F_, F_, F_, F_, F_, F_] rfl rfl (by kernel_rfl) (fun _ _ _ h => h) (Or.inl ⟨by rfl, ?_⟩) ?_ ?_
 rotate_left
 ·intro w'
  go_simp
  with_reducible rfl
 rotate_left
 ·simp only [Act.put, sA_, sB_, sC_, af_, ag_]
  rfl
 refine ay_ (i := 1) (N := some 94) (v := ?_) (a' := ?_) #[T_, T_, F_, F_, F_, F_, F_, F_, F_, F_, F_, F_] rfl rfl (by kernel_rfl) (fun _ _ _ h => h) (Or.inl ⟨by rfl, ?_⟩) ?_ ?_
 rotate_left
 ·intro w'
  go_simp
  with_reducible rfl
 rotate_left
 ·simp only [Act.put, sA_, sB_, sC_, af_, ag_]
  rfl
 refine ay_ (i := 2) (N := some 95) (v := ?_) (a' := ?_) #[T_, T_, T_, F_, F_, F_, F_, F_, F_, F_, F_, F_] rfl rfl (by kernel_rfl) (fun _ _ _ h => h) (Or.inl ⟨by rfl, ?_⟩) ?_ ?_
 rotate_left
 ·intro w'
  go_simp
  with_reducible rfl
 rotate_left
 ·simp only [Act.put, sA_, sB_, sC_, af_, ag_]
  rfl
 refine ay_ (i := 4) (N := some 97) (v := ?_) (a' := ?_) #[T_, T_, T_, F_, T_, F_, F_, F_, F_, F_, F_, F_] rfl rfl (by kernel_rfl) (fun _ _ _ h => h) (Or.inl ⟨by rfl, ?_⟩) ?_ ?_
 rotate_left
 ·intro w'
  go_simp
  with_reducible rfl
 rotate_left
 ·simp only [Act.put, sA_, sB_, sC_, af_, ag_]
  rfl
 refine ay_ (i := 5) (N := some 98) (v := ?_) (a' := ?_) #[T_, T_, T_, F_, T_, T_, F_, F_, F_, F_, F_, F_] rfl rfl (by kernel_rfl) (fun _ _ _ h => h) (Or.inl ⟨by rfl, ?_⟩) ?_ ?_
 rotate_left
 ·intro w'
  go_simp
  with_reducible rfl
 rotate_left
 ·simp only [Act.put, sA_, sB_, sC_, af_, ag_]
  rfl
 refine ay_ (i := 6) (N := some 99) (v := ?_) (a' := ?_) #[T_, T_, T_, F_, T_, T_, T_, F_, F_, F_, F_, F_] rfl rfl (by kernel_rfl) (fun _ _ _ h => h) (Or.inl ⟨by rfl, ?_⟩) ?_ ?_
 rotate_left
 ·intro w'
  go_simp
  with_reducible rfl
 rotate_left
 ·simp only [Act.put, sA_, sB_, sC_, af_, ag_]
  rfl
 refine take_ (i := 3) (N := some 96) (v := ?_) (a' := ?_) #[T_, T_, T_, T_, T_, T_, T_, F_, F_, F_, F_, F_] rfl rfl (by kernel_rfl) (fun _ _ _ h => h) (Or.inl ⟨by rfl, ?_⟩) hHeld ?_ ?_
 rotate_left
 ·rintro w' ⟨s0, s1, s2, s3, s4, s5, s6⟩
  go_simp
  with_reducible rfl
 rotate_left
 ·simp only [Act.put, sA_, sB_, sC_, af_, ag_]
  rfl
 refine take_ (i := 7) (N := some 100) (v := ?_) (a' := ?_) #[T_, T_, T_, T_, T_, T_, T_, T_, F_, F_, F_, F_] rfl rfl (by kernel_rfl) (fun _ _ _ h => h) (Or.inl ⟨by rfl, ?_⟩) hHeld ?_ ?_
 rotate_left
 ·rintro w' ⟨s0, s1, s2, s3, s4, s5, s6⟩
  go_simp
  with_reducible rfl
 rotate_left
 ·simp only [Act.put, sA_, sB_, sC_, af_, ag_]
  rfl
 refine take_ (i := 8) (N := some 101) (v := ?_) (a' := ?_) #[T_, T_, T_, T_, T_, T_, T_, T_, T_, F_, F_, F_] rfl rfl (by kernel_rfl) (fun _ _ _ h => h) (Or.inl ⟨by rfl, ?_⟩) hHeld ?_ ?_
 rotate_left
 ·rintro w' ⟨s0, s1, s2, s3, s4, s5, s6⟩
  go_simp
  with_reducible rfl
 rotate_left
 ·simp only [Act.put, sA_, sB_, sC_, af_, ag_]
  rfl
 refine ay_ (i := 9) (N := some 102) (v := ?_) (a' := ?_) #[T_, T_, T_, T_, T_, T_, T_, T_, T_, T_, F_, F_] rfl rfl (by kernel_rfl) (fun _ _ _ h => h) (Or.inl ⟨by rfl, ?_⟩) ?_ ?_
 rotate_left
 ·intro w'
  go_simp
  with_reducible rfl
 rotate_left
 ·simp only [Act.put, sA_, sB_, sC_, af_, ag_]
  rfl
 refine last_ (i := 10) (N := none) #[T_, T_, T_, T_, T_, T_, T_, T_, T_, T_, T_, F_] rfl rfl (by kernel_rfl) (by decide) (fun K hK => ?_)
 refine skip_ (w1 := ?_) (by rfl) rfl ?_ ?_
 rotate_left
 ·go_simp
  rfl
 refine hK.out _ _ ?_
 clear hK K
 refine ay_ (i := 11) (N := some 5) (v := ?_) (a' := ?_) #[T_, T_, T_, T_, T_, T_, T_, T_, T_, T_, T_, T_] rfl rfl (by kernel_rfl) (fun _ _ _ h => h) (Or.inl ⟨by rfl, ?_⟩) ?_ ?_
 rotate_left
 ·intro w'
  go_simp
  with_reducible rfl
 rotate_left
 ·simp only [Act.put, sA_, sB_, sC_, af_, ag_]
  rfl
 refine done_ (by kernel_rfl) ?_
 go_wp2
 refine bodyPost_ret (v := .tuple #[.agg #[.int .i64 id, .int .i64 t, .int .i64 r1, .int .i64 r2, .slice A2 r3.length d2, .slice A3 r4.length d3, .slice A4 r5.length d4], .bool true]) ?_ rfl ?_
 ·unfold results
  go_simp
 have hv := HVD.out
 subst hv
 have hWB : w.heap.size ≤ w4.heap.size := by have := HS4.out; have := HBB.out; omega
 have hBb : B ≤ b1 + 1 := by have := HBW.out; have := HBB.out; omega
 have hne : ∀ k, w4.heap.size ≤ k → ¬ (k = g ∨ k = b1 + 1) := fun k hk e => by have := HS4.out; have := HGL.out; have := HBB.out; omega
 have key : ∀ wF : World, bv_ w8 wF (fun k => k = b1 + 1) → Below (b1 + 1) w8 wF → OnPost w B ok g f id t body vs fr bd r1 r2 r3 r4 r5 none (Ending.returned (.tuple #[.agg #[.int .i64 id, .int .i64 t, .int .i64 r1, .int .i64 r2, .slice A2 r3.length d2, .slice A3 r4.length d3, .slice A4 r5.length d4], .bool true])) wF := fun wF k1 k2 => by
  have hKF : bv_ w6 wF (fun k => k = g ∨ k = b1 + 1) := HK68.out.then_ k1 (fun k hk => .inl (.inr hk))
  refine ⟨true, by rw [decide_eq_true HQQ.out]; rfl, ⟨_, rfl, fun h => (by cases h), fun _ => ⟨_, _, _, rfl, ?_, ?_, ?_⟩⟩, ?_, ?_, ?_⟩
  ·exact Kd.R_lower (Kd.R_mono (Kd.R_kept HQ2.out hKF (fun k hk e => hne k hk.2.1 e)) (fun k hk => hk.1)) hWB
  ·exact Kd.R_lower (Kd.R_mono (Kd.R_kept HQ3.out hKF (fun k hk e => hne k hk.2.1 e)) (fun k hk => hk.1)) hWB
  ·exact Kd.S_lower (Kd.S_mono (Kd.S_kept HQ4.out hKF (fun k hk e => hne k hk.2.1 e)) (fun k hk => hk.1)) hWB
  ·have hc8 : bq_ w8 B (fun k => okb k ∨ wq.heap.size ≤ k) g f id t false body (vs ++ [(⟨fr, bd⟩ : S80)]) := ⟨HBG.out, .inl HOK.out, by have := HN5.out; omega, _, HG8.out, HV8.out⟩
   exact (hc8.kept (S := fun k => k = b1 + 1) k1 HNC.out).mono HOKC.out
  ·exact HK8.out.then_ k1 (fun k hk => .inr (by have := HBB.out; omega))
  ·exact HB8.out.trans (k2.mono hBb)
 exact key _ (bv_.drew (dz_ (bv_.refl w8 (fun k => k = b1 + 1)) (.inl rfl) _ _ _ _ _ _ _)) (Below.drew (cp_ (Below.refl _ w8) (Nat.le_refl _) _ _ _ _ _ _ _))
end Go.Proofs.YtlcfcaokihoplaaGreatDoor.Cli
