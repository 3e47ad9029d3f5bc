-- Cut.
import Derived.Test.YtlcfcaokihoplaaGreatDoorPCCp
import Derived.Lib.Hide
import Derived.BigRegion
namespace Go.Proofs.YtlcfcaokihoplaaGreatDoor.Cli
open Go.RowKit Go.Proofs.YtlcfcaokihoplaaGreatDoor.Ms Go.Proofs.YzW.PrintWords Go.Proofs.YzW.PrintLast Go.Proofs.YzW.PrintMore
set_option linter.unusedVariables false
set_option linter.unusedSimpArgs false
def bq_ (W : World) (B : Nat) (ok : Nat → Prop) (g : Nat) (f id t : Int) (wt : Bool) (body : ByteArray) (vs : List S80) : Prop :=
 B ≤ g ∧ ok g ∧ vs.length ≤ 50000 ∧ ∃ v, W.heap[g]? = some (.cells #[.int .i64 f, .int .i64 id, .int .i64 t, .bool wt, .string body, v] 66 (0, 0)) ∧ Kd.R k80 80 W B (fun k => ok k ∧ k ≠ g) v vs
section
variable {W W' : World} {B : Nat} {ok ok' S : Nat → Prop} {g : Nat} {f id t : Int} {wt : Bool} {body : ByteArray} {vs : List S80}
theorem bq_.open_ (h : bq_ W B ok g f id t wt body vs) :
  ∃ A c, W.heap[g]? = some (.cells #[.int .i64 f, .int .i64 id, .int .i64 t, .bool wt, .string body, .slice A vs.length c] 66 (0, 0)) ∧ Kd.R k80 80 W B (fun k => ok k ∧ k ≠ g) (.slice A vs.length c) vs ∧ B ≤ g ∧ ok g ∧ vs.length ≤ 50000 := by
 obtain ⟨hB, hok, hl, v, hb, hr⟩ := h
 obtain ⟨A, c, rfl⟩ := Kd.R_slice hr
 exact ⟨A, c, hb, hr, hB, hok, hl⟩
theorem bq_.mono (h : bq_ W B ok g f id t wt body vs) (hk : ∀ k, ok k → ok' k) : bq_ W B ok' g f id t wt body vs := by
 obtain ⟨hB, hok, hl, v, hb, hr⟩ := h
 exact ⟨hB, hk _ hok, hl, v, hb, Kd.R_mono hr (fun k h => ⟨hk k h.1, h.2⟩)⟩
theorem bq_.below (h : bq_ W B ok g f id t wt body vs) (hb : Below W.heap.size W W') : bq_ W' B ok g f id t wt body vs := by
 obtain ⟨hB, hok, hl, v, hg, hr⟩ := h
 exact ⟨hB, hok, hl, v, s_ hg hb, Kd.R_below hr hb⟩
theorem bq_.bound (h : bq_ W B ok g f id t wt body vs) : bq_ W B (fun k => ok k ∧ B ≤ k ∧ k < W.heap.size) g f id t wt body vs := by
 obtain ⟨hB, hok, hl, v, hg, hr⟩ := h
 exact ⟨hB, ⟨hok, hB, bj_ hg⟩, hl, v, hg, Kd.R_mono (Kd.R_bound hr) (fun k h => ⟨⟨h.1.1, h.2.1, h.2.2.1⟩, h.1.2⟩)⟩
theorem bq_.kept (h : bq_ W B ok g f id t wt body vs) (hk : bv_ W W' S) (hne : ∀ k, ok k → ¬ S k) : bq_ W' B ok g f id t wt body vs := by
 obtain ⟨hB, hok, hl, v, hg, hr⟩ := h
 exact ⟨hB, hok, hl, v, dd_ hg hk (hne g hok), Kd.R_kept hr hk (fun k h => hne k h.1)⟩
theorem bq_.glt (h : bq_ W B ok g f id t wt body vs) : g < W.heap.size := by
 obtain ⟨hB, hok, hl, v, hg, hr⟩ := h
 exact bj_ hg
theorem bq_.len (h : bq_ W B ok g f id t wt body vs) : vs.length ≤ 50000 := h.2.2.1
end
theorem dz_ {w W : World} {S : Nat → Prop} {b : Nat} (h : bv_ w W S) (hb : S b ∨ w.heap.size ≤ b) (u0 u1 u2 u3 u4 u5 u6 : Value) : bv_ w (((((((W.setCell ⟨b, 0, none⟩ u0).setCell ⟨b, 1, none⟩ u1).setCell ⟨b, 2, none⟩ u2).setCell ⟨b, 3, none⟩ u3).setCell ⟨b, 4, none⟩ u4).setCell ⟨b, 5, none⟩ u5).setCell ⟨b, 6, none⟩ u6) S :=
 bv_.setCell (p := ⟨b, 6, none⟩) (bv_.setCell (p := ⟨b, 5, none⟩) (bv_.setCell (p := ⟨b, 4, none⟩) (bv_.setCell (p := ⟨b, 3, none⟩) (bv_.setCell (p := ⟨b, 2, none⟩) (bv_.setCell (p := ⟨b, 1, none⟩) (bv_.setCell (p := ⟨b, 0, none⟩) h hb u0) hb u1) hb u2) hb u3) hb u4) hb u5) hb u6
theorem cp_ {B : Nat} {w W : World} {b : Nat} (h : Below B w W) (hb : B ≤ b) (u0 u1 u2 u3 u4 u5 u6 : Value) : Below B w (((((((W.setCell ⟨b, 0, none⟩ u0).setCell ⟨b, 1, none⟩ u1).setCell ⟨b, 2, none⟩ u2).setCell ⟨b, 3, none⟩ u3).setCell ⟨b, 4, none⟩ u4).setCell ⟨b, 5, none⟩ u5).setCell ⟨b, 6, none⟩ u6) :=
 Below.setCell (p := ⟨b, 6, none⟩) (Below.setCell (p := ⟨b, 5, none⟩) (Below.setCell (p := ⟨b, 4, none⟩) (Below.setCell (p := ⟨b, 3, none⟩) (Below.setCell (p := ⟨b, 2, none⟩) (Below.setCell (p := ⟨b, 1, none⟩) (Below.setCell (p := ⟨b, 0, none⟩) h hb u0) hb u1) hb u2) hb u3) hb u4) hb u5) hb u6
theorem zero7 {W : World} {b : Nat} {T : TypeId} (h : W.heap[b]? = some (.cells #[.int .i64 0, .int .i64 0, .int .i64 0, .int .i64 0, .string ⟨#[]⟩, .slice none 0 0, .slice none 0 0] T (0, 0))) : W.cell? ⟨b, 0, none⟩ = some (.int .i64 0) ∧ W.cell? ⟨b, 1, none⟩ = some (.int .i64 0) ∧ W.cell? ⟨b, 2, none⟩ = some (.int .i64 0) ∧ W.cell? ⟨b, 3, none⟩ = some (.int .i64 0) ∧ W.cell? ⟨b, 4, none⟩ = some (.string ⟨#[]⟩) ∧ W.cell? ⟨b, 5, none⟩ = some (.slice none 0 0) ∧ W.cell? ⟨b, 6, none⟩ = some (.slice none 0 0) ∧ W.frozen? ⟨b, 0, none⟩ = false ∧ W.frozen? ⟨b, 1, none⟩ = false ∧ W.frozen? ⟨b, 2, none⟩ = false ∧ W.frozen? ⟨b, 3, none⟩ = false ∧ W.frozen? ⟨b, 4, none⟩ = false ∧ W.frozen? ⟨b, 5, none⟩ = false ∧ W.frozen? ⟨b, 6, none⟩ = false :=
 ⟨(b_ h 0).trans rfl, (b_ h 1).trans rfl, (b_ h 2).trans rfl, (b_ h 3).trans rfl, (b_ h 4).trans rfl, (b_ h 5).trans rfl, (b_ h 6).trans rfl, a_ h 0, a_ h 1, a_ h 2, a_ h 3, a_ h 4, a_ h 5, a_ h 6⟩
def msgZ : Value := .agg #[.int .i64 0, .int .i64 0, .int .i64 0, .int .i64 0, .string ⟨#[]⟩, .slice none 0 0, .slice none 0 0]
def msgQ (id : Int) (body : ByteArray) : Value := .agg #[.int .i64 1, .int .i64 id, .int .i64 0, .int .i64 0, .string body, .slice none 0 0, .slice none 0 0]
set_option maxHeartbeats 4000000 in
theorem client_New (w : World) (f id : Int) (h1 : 1 ≤ f) (h4 : f ≤ 4) (h0 : 0 ≤ id) (h7 : id ≤ 7) : Calls Tryz.prog 5 #[.int .i64 f, .int .i64 id] w fun e w' => e = .returned (.tuple #[.pointer (some ⟨w.heap.size, 0, none⟩), .nilIface]) ∧ bq_ w' w.heap.size (fun k => k = w.heap.size) w.heap.size f id 0 false ⟨#[]⟩ [] ∧ Below w.heap.size w w' := by
 have t1 : decide (f < 1) = false := by simp; omega
 have t2 : decide (4 < f) = false := by simp; omega
 have t3 : decide (id < 0) = false := by simp; omega
 have t4 : decide (8 ≤ id) = false := by simp; omega
 go_enter Tryz.func5, Tryz.ntmps5
 go_wp2
 go_ret2
 exact ⟨rfl, ⟨Nat.le_refl _, rfl, by simp, .slice none 0 0, heap_alloc_new w _, Kd.R_nil _ _ _ _ _⟩, (Below.refl _ _).alloc (Nat.le_refl _) _⟩
set_option maxHeartbeats 4000000 in
theorem client_New_no (w : World) (f id : Int) (h : f < 1 ∨ 4 < f ∨ id < 0 ∨ 7 < id) : Calls Tryz.prog 5 #[.int .i64 f, .int .i64 id] w fun e w' => e = .returned (.tuple #[.pointer none, .iface 29 (.int .i64 1)]) ∧ Below w.heap.size w w' := by
 have t : decide (f < 1) = true ∨ (decide (f < 1) = false ∧ decide (4 < f) = true) ∨ (decide (f < 1) = false ∧ decide (4 < f) = false ∧ decide (id < 0) = true) ∨ (decide (f < 1) = false ∧ decide (4 < f) = false ∧ decide (id < 0) = false ∧ decide (8 ≤ id) = true) := by
  by_cases a : f < 1
  ·exact .inl (by simpa using a)
  by_cases b : 4 < f
  ·exact .inr (.inl ⟨by simpa using a, by simpa using b⟩)
  by_cases c : id < 0
  ·exact .inr (.inr (.inl ⟨by simpa using a, by simpa using b, by simpa using c⟩))
  ·exact .inr (.inr (.inr ⟨by simpa using a, by simpa using b, by simpa using c, by simp; omega⟩))
 clear h
 rcases t with t1 | ⟨t1, t2⟩ | ⟨t1, t2, t3⟩ | ⟨t1, t2, t3, t4⟩
 all_goals
  go_enter Tryz.func5, Tryz.ntmps5
  go_wp2
  go_ret2
  exact ⟨rfl, Below.refl _ _⟩
set_option maxHeartbeats 8000000 in
set_option maxRecDepth 100000 in
theorem client_Again (w : World) (B : Nat) (ok : Nat → Prop) (g : Nat) (f id t : Int) (wt : Bool) (body : ByteArray) (vs : List S80) (h : bq_ w B ok g f id t wt body vs) :
  Calls Tryz.prog 13 #[.pointer (some ⟨g, 0, none⟩)] w fun e w' => e = .returned (.tuple #[if wt = true then msgQ id body else msgZ, .bool wt]) ∧ Below w.heap.size w w' := by
 obtain ⟨A, c, hb, hr, hB, hok, hl⟩ := h.open_
 have hgl := h.glt
 have c3 : w.cell? ⟨g, 3, none⟩ = some (.bool wt) := (b_ hb 3).trans rfl
 have c1 : w.cell? ⟨g, 1, none⟩ = some (.int .i64 id) := (b_ hb 1).trans rfl
 have c4 : w.cell? ⟨g, 4, none⟩ = some (.string body) := (b_ hb 4).trans rfl
 have hgw : g ≠ w.heap.size := by omega
 have HB := Lib.hid hb
 clear hb hr hB hok hl h
 cases wt with
 | false =>
  go_enter Tryz.func13, Tryz.ntmps13
  go_wp2
  refine bodyPost_ret (v := .tuple #[msgZ, .bool false]) ?_ rfl ?_
  ·unfold results
   go_simp
   rfl
  exact ⟨rfl, (Below.refl _ w).alloc (Nat.le_refl _) _⟩
 | true =>
  go_enter Tryz.func13, Tryz.ntmps13
  go_wp2_with fail
  have hl7 := bj_ (heap_alloc_new w (.cells #[.int .i64 0, .int .i64 0, .int .i64 0, .int .i64 0, .string ⟨#[]⟩, .slice none 0 0, .slice none 0 0] 40))
  have hX := heap_alloc_new w (.cells #[.int .i64 0, .int .i64 0, .int .i64 0, .int .i64 0, .string ⟨#[]⟩, .slice none 0 0, .slice none 0 0] 40)
  have hBl : Below w.heap.size w (w.alloc (.cells #[.int .i64 0, .int .i64 0, .int .i64 0, .int .i64 0, .string ⟨#[]⟩, .slice none 0 0, .slice none 0 0] 40)) := (Below.refl _ w).alloc (Nat.le_refl _) _
  generalize w.alloc (.cells #[.int .i64 0, .int .i64 0, .int .i64 0, .int .i64 0, .string ⟨#[]⟩, .slice none 0 0, .slice none 0 0] 40) = w1 at hX hBl hl7 ⊢
  have HX := Lib.hid hX
  have HBL := Lib.hid hBl
  have HC1 : Hid (w1.drew.cell? ⟨g, 1, none⟩ = some (.int .i64 id)) := Lib.hid ((b_ (o_ (s_ HB.out hBl)) 1).trans rfl)
  have HC4 : Hid (w1.drew.cell? ⟨g, 4, none⟩ = some (.string body)) := Lib.hid ((b_ (o_ (s_ HB.out hBl)) 4).trans rfl)
  have y0 := a_ HX.out 0
  have y1 := a_ HX.out 1
  have y2 := a_ HX.out 2
  have y3 := a_ HX.out 3
  have y4 := a_ HX.out 4
  have y5 := a_ HX.out 5
  have y6 := a_ HX.out 6
  have z0 : w1.cell? ⟨w.heap.size, 0, none⟩ = some (.int .i64 0) := (b_ HX.out 0).trans rfl
  have z1 : w1.cell? ⟨w.heap.size, 1, none⟩ = some (.int .i64 0) := (b_ HX.out 1).trans rfl
  have z2 : w1.cell? ⟨w.heap.size, 2, none⟩ = some (.int .i64 0) := (b_ HX.out 2).trans rfl
  have z3 : w1.cell? ⟨w.heap.size, 3, none⟩ = some (.int .i64 0) := (b_ HX.out 3).trans rfl
  have z4 : w1.cell? ⟨w.heap.size, 4, none⟩ = some (.string ⟨#[]⟩) := (b_ HX.out 4).trans rfl
  have z5 : w1.cell? ⟨w.heap.size, 5, none⟩ = some (.slice none 0 0) := (b_ HX.out 5).trans rfl
  have z6 : w1.cell? ⟨w.heap.size, 6, none⟩ = some (.slice none 0 0) := (b_ HX.out 6).trans rfl
  clear c1 c3 c4 hX hBl
  refine start_ (n := 11) (S := fun w' => w'.cell? ⟨g, 1, none⟩ = some (.int .i64 id) ∧ w'.cell? ⟨g, 4, none⟩ = some (.string body)) (ds := [9]) #[F_, F_, F_, F_, F_, F_, F_, F_, F_, F_, F_] (by kernel_rfl) rfl rfl ⟨HC1.out, HC4.out⟩ (fun hHeld => ?_)
  refine ay_ (i := 0) (N := some 10) (v := ?_) (a' := ?_) #[T_, F_, F_, F_, F_, F_, F_, F_, F_, F_, F_] rfl rfl (by kernel_rfl) (fun _ _ _ h => h) (Or.inl ⟨by rfl, ?_⟩) ?_ ?_
  rotate_left
  ·intro w'
   go_simp
   with_reducible rfl
  rotate_left
  ·simp only [Act.put, sA_, sB_, sC_, af_, ag_]
   rfl
  refine ay_ (i := 1) (N := some 11) (v := ?_) (a' := ?_) #[T_, T_, F_, F_, F_, F_, F_, F_, F_, F_, F_] rfl rfl (by kernel_rfl) (fun _ _ _ h => h) (Or.inl ⟨by rfl, ?_⟩) ?_ ?_
  rotate_left
  ·intro w'
   go_simp
   with_reducible rfl
  rotate_left
  ·simp only [Act.put, sA_, sB_, sC_, af_, ag_]
   rfl
  refine ay_ (i := 2) (N := some 12) (v := ?_) (a' := ?_) #[T_, T_, T_, F_, F_, F_, F_, F_, F_, F_, F_] rfl rfl (by kernel_rfl) (fun _ _ _ h => h) (Or.inl ⟨by rfl, ?_⟩) ?_ ?_
  rotate_left
  ·intro w'
   go_simp
   with_reducible rfl
  rotate_left
  ·simp only [Act.put, sA_, sB_, sC_, af_, ag_]
   rfl
  refine ay_ (i := 4) (N := some 14) (v := ?_) (a' := ?_) #[T_, T_, T_, F_, T_, F_, F_, F_, F_, F_, F_] rfl rfl (by kernel_rfl) (fun _ _ _ h => h) (Or.inl ⟨by rfl, ?_⟩) ?_ ?_
  rotate_left
  ·intro w'
   go_simp
   with_reducible rfl
  rotate_left
  ·simp only [Act.put, sA_, sB_, sC_, af_, ag_]
   rfl
  refine ay_ (i := 5) (N := some 15) (v := ?_) (a' := ?_) #[T_, T_, T_, F_, T_, T_, F_, F_, F_, F_, F_] rfl rfl (by kernel_rfl) (fun _ _ _ h => h) (Or.inl ⟨by rfl, ?_⟩) ?_ ?_
  rotate_left
  ·intro w'
   go_simp
   with_reducible rfl
  rotate_left
  ·simp only [Act.put, sA_, sB_, sC_, af_, ag_]
   rfl
  refine ay_ (i := 6) (N := some 16) (v := ?_) (a' := ?_) #[T_, T_, T_, F_, T_, T_, T_, F_, F_, F_, F_] rfl rfl (by kernel_rfl) (fun _ _ _ h => h) (Or.inl ⟨by rfl, ?_⟩) ?_ ?_
  rotate_left
  ·intro w'
   go_simp
   with_reducible rfl
  rotate_left
  ·simp only [Act.put, sA_, sB_, sC_, af_, ag_]
   rfl
  refine take_ (i := 3) (N := some 13) (v := ?_) (a' := ?_) #[T_, T_, T_, T_, T_, T_, T_, F_, F_, F_, F_] rfl rfl (by kernel_rfl) (fun _ _ _ h => h) (Or.inl ⟨by rfl, ?_⟩) hHeld ?_ ?_
  rotate_left
  ·rintro w' ⟨s0, s1⟩
   go_simp
   with_reducible rfl
  rotate_left
  ·simp only [Act.put, sA_, sB_, sC_, af_, ag_]
   rfl
  refine take_ (i := 7) (N := some 17) (v := ?_) (a' := ?_) #[T_, T_, T_, T_, T_, T_, T_, T_, F_, F_, F_] rfl rfl (by kernel_rfl) (fun _ _ _ h => h) (Or.inl ⟨by rfl, ?_⟩) hHeld ?_ ?_
  rotate_left
  ·rintro w' ⟨s0, s1⟩
   go_simp
   with_reducible rfl
  rotate_left
  ·simp only [Act.put, sA_, sB_, sC_, af_, ag_]
   rfl
  refine ay_ (i := 8) (N := some 18) (v := ?_) (a' := ?_) #[T_, T_, T_, T_, T_, T_, T_, T_, T_, F_, F_] rfl rfl (by kernel_rfl) (fun _ _ _ h => h) (Or.inl ⟨by rfl, ?_⟩) ?_ ?_
  rotate_left
  ·intro w'
   go_simp
   with_reducible rfl
  rotate_left
  ·simp only [Act.put, sA_, sB_, sC_, af_, ag_]
   rfl
  refine last_ (i := 9) (N := none) #[T_, T_, T_, T_, T_, T_, T_, T_, T_, T_, F_] rfl rfl (by kernel_rfl) (by decide) (fun K hK => ?_)
  refine skip_ (w1 := ?_) (by rfl) rfl ?_ ?_
  rotate_left
  ·go_simp
   rfl
  refine hK.out _ _ ?_
  clear hK K
  refine ay_ (i := 10) (N := some 3) (v := ?_) (a' := ?_) #[T_, T_, T_, T_, T_, T_, T_, T_, T_, T_, T_] rfl rfl (by kernel_rfl) (fun _ _ _ h => h) (Or.inl ⟨by rfl, ?_⟩) ?_ ?_
  rotate_left
  ·intro w'
   go_simp
   with_reducible rfl
  rotate_left
  ·simp only [Act.put, sA_, sB_, sC_, af_, ag_]
   rfl
  refine done_ (by kernel_rfl) ?_
  go_wp2
  refine bodyPost_ret (v := .tuple #[msgQ id body, .bool true]) ?_ rfl ?_
  ·unfold results
   go_simp
   rfl
  exact ⟨rfl, Below.drew (cp_ HBL.out (Nat.le_refl _) _ _ _ _ _ _ _)⟩
end Go.Proofs.YtlcfcaokihoplaaGreatDoor.Cli
