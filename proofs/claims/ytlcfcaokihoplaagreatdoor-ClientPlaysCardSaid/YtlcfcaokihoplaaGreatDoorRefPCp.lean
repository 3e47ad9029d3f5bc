-- Cut.
import Derived.Test.YtlcfcaokihoplaaGreatDoorRefNCp
import Derived.Deep.QuietTactic
import Derived.BigQuiet
namespace Go.Proofs.YtlcfcaokihoplaaGreatDoor.Cli
open Go.RowKit Go.Proofs.YtlcfcaokihoplaaGreatDoor.Ms Go.Proofs.YzW.PrintWords Go.Proofs.YzW.PrintLast Go.Proofs.YzW.PrintMore
set_option linter.unusedVariables false
set_option linter.unusedSimpArgs false
def refTake (f t : Int) (wt : Bool) (fs : List Int) (kd fr sq : Int) : Bool := wt && (kd == 7) && decide (0 ≤ fr) && decide (fr ≤ 3 * f) && (sq == t) && !(fs.contains fr)
theorem cont_any (fr : Int) : ∀ vs : List S80, (vs.map fun v => v.f0).contains fr = vs.any fun v => v.f0 == fr
 | [] => rfl
 | v :: l => by
  rw [List.map_cons, List.contains_cons, List.any_cons, cont_any fr l]
  by_cases e : fr = v.f0
  ·rw [e]
  ·rw [beq_eq_false_iff_ne.2 e, beq_eq_false_iff_ne.2 (Ne.symm e)]
theorem refTake_eq (f t : Int) (wt : Bool) (vs : List S80) (kd fr sq : Int) : refTake f t wt (vs.map fun v => v.f0) kd fr sq = eb_ f t wt vs kd fr sq := by
 unfold refTake eb_
 rw [cont_any]
def cntB (ss : List ByteArray) (bd : ByteArray) : Nat := (ss.filter fun s => s.toList == bd.toList).length
theorem cntB_snoc (ss : List ByteArray) (x bd : ByteArray) : cntB (ss ++ [x]) bd = cntB ss bd + if (x.toList == bd.toList) = true then 1 else 0 := by
 unfold cntB
 rw [List.filter_append, List.length_append, List.filter_cons]
 split <;> simp
theorem cntB_le (ss : List ByteArray) (bd : ByteArray) : cntB ss bd ≤ ss.length := List.length_filter_le _ _
def RefPost (w : World) (B : Nat) (ok : Nat → Prop) (g : Nat) (f id t : Int) (body : ByteArray) (fs : List Int) (ss : List ByteArray) (fr : Int) (bd : ByteArray) (r1 r2 : Int) (r3 r4 : List ByteArray) (r5 : List Mf.S107) (r6 : Bool) (e : Ending) (w' : World) : Prop :=
 ∃ is : Bool, is = (r6 && decide (f < (cntB (ss ++ [bd]) bd : Int))) ∧
   (∃ av : Value, e = .returned (.tuple #[av, .bool is]) ∧ (is = false → av = accZ) ∧ (is = true → ∃ v2 v3 v4 : Value, av = .agg #[.int .i64 id, .int .i64 t, .int .i64 r1, .int .i64 r2, v2, v3, v4] ∧ Kd.R Kd.string 9 w' w.heap.size (fun k_ => some k_ ≠ (v3 : Value).ownBlock) v2 r3 ∧ Kd.R Kd.string 9 w' w.heap.size (fun k_ => some k_ ≠ (v2 : Value).ownBlock) v3 r4 ∧ Kd.S Mf.k107 107 w' w.heap.size (fun k_ => some k_ ≠ (v2 : Value).ownBlock ∧ some k_ ≠ (v3 : Value).ownBlock) v4 r5)) ∧
   RefTo w w' B ok g f id t (!is) body (fs ++ [fr]) (ss ++ [bd])
theorem refTake_no {f t : Int} {wt : Bool} {fs : List Int} {kd fr sq : Int} (h : refTake f t wt fs kd fr sq = false) :
  wt = false ∨ (wt = true ∧ (kd != 7) = true) ∨ (wt = true ∧ (kd != 7) = false ∧ decide (fr < 0) = true) ∨ (wt = true ∧ (kd != 7) = false ∧ decide (fr < 0) = false ∧ decide (3 * f < fr) = true) ∨ (wt = true ∧ (kd != 7) = false ∧ decide (fr < 0) = false ∧ decide (3 * f < fr) = false ∧ (sq != t) = true) ∨ (wt = true ∧ (kd != 7) = false ∧ decide (fr < 0) = false ∧ decide (3 * f < fr) = false ∧ (sq != t) = false ∧ fr ∈ fs) := by
 unfold refTake at h
 cases wt with
 | false => exact .inl rfl
 | true =>
  refine .inr ?_
  by_cases a : kd = 7
  ·by_cases b : fr < 0
   ·exact .inr (.inl ⟨rfl, by simp [a], by simpa using b⟩)
   ·by_cases c : 3 * f < fr
    ·exact .inr (.inr (.inl ⟨rfl, by simp [a], by simpa using b, by simpa using c⟩))
    ·by_cases d : sq = t
     ·refine .inr (.inr (.inr (.inr ⟨rfl, by simp [a], by simpa using b, by simpa using c, by simp [d], ?_⟩)))
      rw [decide_eq_true (show 0 ≤ fr by omega), decide_eq_true (show fr ≤ 3 * f by omega)] at h
      simpa [a, d] using h
     ·exact .inr (.inr (.inr (.inl ⟨rfl, by simp [a], by simpa using b, by simpa using c, by simp [d]⟩)))
  ·exact .inl ⟨rfl, by simp [a]⟩
set_option maxHeartbeats 16000000 in
set_option maxRecDepth 100000 in
theorem ref_On_no (w : World) (B : Nat) (ok : Nat → Prop) (g : Nat) (f id t : Int) (wt : Bool) (body : ByteArray) (fs : List Int) (ss : List ByteArray) (h : dn_ w B ok g f id t wt body fs ss) (hf : 1 ≤ f ∧ f ≤ 4)
  (kd fr vw sq : Int) (bd : ByteArray) (A6 : Option Addr) (n6 c6 : Nat) (A7 : Option Addr) (n7 c7 : Nat) (hno : refTake f t wt fs kd fr sq = false) :
  Calls Tryz.prog 16 #[.pointer (some ⟨g, 0, none⟩), .agg #[.int .i64 kd, .int .i64 fr, .int .i64 vw, .int .i64 sq, .string bd, .slice A6 n6 c6, .slice A7 n7 c7]] w fun e w' => e = .returned (.tuple #[accZ, .bool false]) ∧ Below w.heap.size w w' := by
 have hgl := h.glt
 obtain ⟨Av, cv, Au, cu, hb, hr, hr', hB, hok, hvl, hul⟩ := h.open_
 have HB := Lib.hid hb
 have HR := Lib.hid (Kd.R_reads' hr)
 have hgw : g ≠ w.heap.size := by omega
 have hgw1 : g ≠ w.heap.size + 1 := by omega
 have HW3 : Hid (wrap64 (3 * f) = 3 * f) := Lib.hid (by unfold wrap64; omega)
 have HNO := Lib.hid (refTake_no hno)
 have H := Lib.hid h
 have HGL := Lib.hid hgl
 have HVL := Lib.hid hvl
 clear hb hr hr' hB hok hvl hul h hno hf
 go_enter Tryz.func16, Tryz.ntmps16
 go_wp2_with fail
 obtain ⟨b1, hb1⟩ : ∃ b1, b1 = w.heap.size := ⟨_, rfl⟩
 have hX1 := heap_alloc_new w (.cells #[.int .i64 kd, .int .i64 fr, .int .i64 vw, .int .i64 sq, .string bd, .slice A6 n6 c6, .slice A7 n7 c7] 40)
 have hB1 : Below w.heap.size w (w.alloc (.cells #[.int .i64 kd, .int .i64 fr, .int .i64 vw, .int .i64 sq, .string bd, .slice A6 n6 c6, .slice A7 n7 c7] 40)) := (Below.refl _ w).alloc (Nat.le_refl _) _
 have hs1 : (w.alloc (.cells #[.int .i64 kd, .int .i64 fr, .int .i64 vw, .int .i64 sq, .string bd, .slice A6 n6 c6, .slice A7 n7 c7] 40)).heap.size = w.heap.size + 1 := by simp
 generalize w.alloc (.cells #[.int .i64 kd, .int .i64 fr, .int .i64 vw, .int .i64 sq, .string bd, .slice A6 n6 c6, .slice A7 n7 c7] 40) = wa at hX1 hB1 hs1 ⊢
 have hX2 := heap_alloc_new wa (.cells #[.int .i64 0, .int .i64 0, .int .i64 0, .int .i64 0, .slice none 0 0, .slice none 0 0, .slice none 0 0] 59)
 have hB2 : Below wa.heap.size wa (wa.alloc (.cells #[.int .i64 0, .int .i64 0, .int .i64 0, .int .i64 0, .slice none 0 0, .slice none 0 0, .slice none 0 0] 59)) := (Below.refl _ wa).alloc (Nat.le_refl _) _
 generalize wa.alloc (.cells #[.int .i64 0, .int .i64 0, .int .i64 0, .int .i64 0, .slice none 0 0, .slice none 0 0, .slice none 0 0] 59) = w2 at hX2 hB2 ⊢
 rw [hs1] at hX2
 rw [← hb1] at hX1 hX2 hgw hgw1 ⊢
 have hX := s_ hX1 hB2
 have hBL := hB1.trans (hB2.mono hB1.size)
 have hG := s_ HB.out hBL
 have HBw2 := Lib.hid hBL
 have HBB := Lib.hid hb1
 have m0 : w2.cell? ⟨b1, 0, none⟩ = some (.int .i64 kd) := (b_ hX 0).trans rfl
 have m1 : w2.cell? ⟨b1, 1, none⟩ = some (.int .i64 fr) := (b_ hX 1).trans rfl
 have m3 : w2.cell? ⟨b1, 3, none⟩ = some (.int .i64 sq) := (b_ hX 3).trans rfl
 have g0 : w2.cell? ⟨g, 0, none⟩ = some (.int .i64 f) := (b_ hG 0).trans rfl
 have g2 : w2.cell? ⟨g, 2, none⟩ = some (.int .i64 t) := (b_ hG 2).trans rfl
 have g3 : w2.cell? ⟨g, 3, none⟩ = some (.bool wt) := (b_ hG 3).trans rfl
 have HZ := Lib.hid hX2
 have HX := Lib.hid hX
 have HGG := Lib.hid hG
 clear hX hX1 hX2 hG hB1 hB2 hs1 hBL hb1
 have hw3 := HW3.out
 rcases HNO.out with q1 | ⟨q1, q2⟩ | ⟨q1, q2, q3⟩ | ⟨q1, q2, q3, q4⟩ | ⟨q1, q2, q3, q4, q5⟩ | ⟨q1, q2, q3, q4, q5, q6⟩
 iterate 5
  ·subst q1
   go_quiet (fail)
   obtain ⟨z0, z1, z2, z3, z4, z5, z6, y0, y1, y2, y3, y4, y5, y6⟩ := zeroA HZ.out
   clear m0 m1 m3 g0 g2 g3
   go_wp2
   refine bodyPost_ret (v := .tuple #[accZ, .bool false]) ?_ rfl ?_
   ·unfold results
    go_simp
    rfl
   exact ⟨rfl, cp_ (d_ HBw2.out _) (by have := HBB.out; omega) _ _ _ _ _ _ _⟩
 subst q1
 have HIN := Lib.hid q6
 clear q6
 go_quiet (fail)
 have HXq := Lib.hid (u_ HX.out nq)
 have HZq := Lib.hid (u_ HZ.out nq)
 have HGq := Lib.hid (u_ HGG.out nq)
 have HBq := Lib.hid (d_ HBw2.out nq)
 clear m0 m1 m3 g0 g2 g3 hw3 q2 q3 q4 q5 HX HZ HGG HBw2
 generalize w2.drewN nq = wq at HXq HZq HGq HBq ⊢
 have HRq := Lib.hid (H.out.below HBq.out)
 go_wp2_with fail
 go_loopg [6] fs.length (fun kq v6 w' => ∃ i : Nat, v6 = .int .i64 (i : Int) ∧ Hid (dn_ w' B ok g f id t true body fs ss) ∧ Hid (w'.heap[b1]? = some (.cells #[.int .i64 kd, .int .i64 fr, .int .i64 vw, .int .i64 sq, .string bd, .slice A6 n6 c6, .slice A7 n7 c7] 40 (0, 0))) ∧ Hid (w'.heap[b1 + 1]? = some (.cells #[.int .i64 0, .int .i64 0, .int .i64 0, .int .i64 0, .slice none 0 0, .slice none 0 0, .slice none 0 0] 59 (0, 0))) ∧ Hid (Below w.heap.size w w') ∧ Hid (i + kq = fs.length) ∧ Hid (fr ∉ fs.take i))
 case atStart => exact ⟨0, rfl, HRq, HXq, HZq, HBq, Lib.hid (by omega), Lib.hid (by simp)⟩
 case round =>
  clear HRq HXq HZq HBq HGq
  obtain ⟨i, rfl, HRl, HXl, HZl, HBl, HI, HN⟩ := hrel
  obtain ⟨A, c, A', c', hg, hrr, _, _, _, _, _⟩ := HRl.out.open_
  have g5 : wr.cell? ⟨g, 5, none⟩ = some (.slice A fs.length c) := (b_ hg 5).trans rfl
  have m1 : wr.cell? ⟨b1, 1, none⟩ = some (.int .i64 fr) := (b_ HXl.out 1).trans rfl
  have HC := Lib.hid (Kd.R_reads' hrr).2.2
  clear hg hrr
  by_cases hj : i < fs.length
  ·have t1 : decide (i < fs.length) = true := by simpa using hj
   cases gk with
   | zero => have := HI.out; omega
   | succ k1 =>
   have hwi : wrap64 ((i : Int) + 1) = ((i + 1 : Nat) : Int) := by have := HVL.out; unfold wrap64; omega
   obtain ⟨al, rfl, hL⟩ := Kd.at_int HC.out (i : Int) (by omega) (by omega)
   rw [Int.toNat_natCast] at hL
   have hrd : rd fs (i : Int) = fs[i] := by simp [rd, hj]
   have htk : fs.take (i + 1) = fs.take i ++ [fs[i]] := by rw [List.take_add_one, List.getElem?_eq_getElem hj]; rfl
   have HMM := Lib.hid (List.getElem_mem hj)
   rw [hrd] at hL
   generalize fs[i] = x at hL htk HMM
   by_cases hx : x = fr
   ·have t2 : (x == fr) = true := by simpa using hx
    clear hx htk hrd HMM
    go_wp2_with fail
    go_quiet (fail)
    have HZl2 := Lib.hid (u_ HZl.out nq)
    have HBl2 := Lib.hid (d_ HBl.out nq)
    clear g5 m1 hL HRl HXl HZl HBl
    generalize wr.drewN nq = ws at HZl2 HBl2 ⊢
    obtain ⟨z0, z1, z2, z3, z4, z5, z6, y0, y1, y2, y3, y4, y5, y6⟩ := zeroA HZl2.out
    go_wp2
    refine bodyPost_ret (v := .tuple #[accZ, .bool false]) ?_ rfl ?_
    ·unfold results
     go_simp
     rfl
    exact ⟨rfl, cp_ HBl2.out (by have := HBB.out; omega) _ _ _ _ _ _ _⟩
   ·have t2 : (x == fr) = false := by simpa using hx
    have HN' : Hid (fr ∉ fs.take (i + 1)) := Lib.hid (by rw [htk]; simp only [List.mem_append, List.mem_singleton, not_or]; exact ⟨HN.out, Ne.symm hx⟩)
    clear hx htk hrd
    go_wp2_with fail
    go_quiet (fail)
    have HRl2 := Lib.hid (HRl.out.below (d_ (Below.refl _ wr) nq))
    have HXl2 := Lib.hid (u_ HXl.out nq)
    have HZl2 := Lib.hid (u_ HZl.out nq)
    have HBl2 := Lib.hid (d_ HBl.out nq)
    clear g5 m1 hL HRl HXl HZl HBl
    generalize wr.drewN nq = ws at HRl2 HXl2 HZl2 HBl2 ⊢
    go_wp2_with fail
    go_roundg k1
    case measure => omega
    case rel => exact ⟨i + 1, by first | (rw [hwi]; done) | (simp; done), HRl2, HXl2, HZl2, HBl2, Lib.hid (by have := HI.out; omega), HN'⟩
  ·exfalso
   have h1 : fs.take i = fs := List.take_of_length_le (by omega)
   have h2 := HN.out
   rw [h1] at h2
   exact h2 HIN.out
end Go.Proofs.YtlcfcaokihoplaaGreatDoor.Cli

namespace Go.Proofs.YtlcfcaokihoplaaGreatDoor.Cli
open Go.RowKit Go.Proofs.YtlcfcaokihoplaaGreatDoor.Ms Go.Proofs.YzW.PrintWords Go.Proofs.YzW.PrintLast Go.Proofs.YzW.PrintMore
set_option linter.unusedVariables false
set_option linter.unusedSimpArgs false
section
variable {W w3 : World} {B : Nat} {ok : Nat → Prop} {g : Nat} {f id t : Int} {wt : Bool} {body : ByteArray} {fs : List Int} {ss : List ByteArray} {A A' A1 : Option Addr} {c c' c1 : Nat}
theorem push_from {fr : Int} (hg : W.heap[g]? = some (.cells #[.int .i64 f, .int .i64 id, .int .i64 t, .bool wt, .string body, .slice A fs.length c, .slice A' ss.length c'] 34 (0, 0)))
  (hf : Kd.R (Kd.int .i64) 3 W B (fun k => (ok k ∧ k ≠ g) ∧ some k ≠ (Value.slice A' ss.length c').ownBlock) (.slice A fs.length c) fs) (hs : Kd.R Kd.string 9 W B (fun k => (ok k ∧ k ≠ g) ∧ some k ≠ (Value.slice A fs.length c).ownBlock) (.slice A' ss.length c') ss)
  (hB : B ≤ g) (hok : ok g) (hl : fs.length ≤ 40000) (hl' : ss.length ≤ 50000)
  (hown : Kd.R (Kd.int .i64) 3 w3 B (fun k => ((ok k ∨ W.heap.size ≤ k) ∧ k ≠ g) ∧ some k ≠ (Value.slice A' ss.length c').ownBlock) (.slice A1 (fs.length + 1) c1) (fs ++ [fr])) (hgr : W.grownBy w3 (Value.slice A fs.length c).ownBlock)
  (hat : (Value.slice A1 (fs.length + 1) c1).ownBlock = (Value.slice A fs.length c).ownBlock ∨ ∃ b, (Value.slice A1 (fs.length + 1) c1).ownBlock = some b ∧ W.heap.size ≤ b) :
  dn_ (w3.setCell ⟨g, 5, none⟩ (.slice A1 (fs.length + 1) c1)) B (fun k => ok k ∨ W.heap.size ≤ k) g f id t wt body (fs ++ [fr]) ss := by
 have hne : some g ≠ (Value.slice A fs.length c).ownBlock := fun e => (hf.1 g e.symm).1.2 rfl
 refine ⟨hB, .inl hok, by simp; omega, hl', .slice A1 (fs.length + 1) c1, .slice A' ss.length c', ?_, Kd.R_far (p := ⟨g, 5, none⟩) hown (fun k hk => hk.1.2) _, ?_⟩
 ·have := dc_ (bu_ hg hgr hne) 5 (.slice A1 (fs.length + 1) c1)
  simpa using this
 ·refine Kd.R_far (p := ⟨g, 5, none⟩) (Kd.R_mono (Kd.R_grown (Kd.R_bound hs) hgr (fun k hk => hk.1.2)) (fun k hk => ⟨⟨.inl hk.1.1.1, hk.1.1.2⟩, fun e => ?_⟩)) (fun k hk => hk.1.2) _
  rcases hat with h | ⟨b, h, hb⟩
  ·exact hk.1.2 (e.trans h)
  ·have : k = b := by rw [h] at e; exact Option.some.inj e
   have := hk.2.2.1
   omega
theorem push_says {bd : ByteArray} (hg : W.heap[g]? = some (.cells #[.int .i64 f, .int .i64 id, .int .i64 t, .bool wt, .string body, .slice A fs.length c, .slice A' ss.length c'] 34 (0, 0)))
  (hf : Kd.R (Kd.int .i64) 3 W B (fun k => (ok k ∧ k ≠ g) ∧ some k ≠ (Value.slice A' ss.length c').ownBlock) (.slice A fs.length c) fs) (hs : Kd.R Kd.string 9 W B (fun k => (ok k ∧ k ≠ g) ∧ some k ≠ (Value.slice A fs.length c).ownBlock) (.slice A' ss.length c') ss)
  (hB : B ≤ g) (hok : ok g) (hl : fs.length ≤ 50000) (hl' : ss.length ≤ 40000)
  (hown : Kd.R Kd.string 9 w3 B (fun k => ((ok k ∨ W.heap.size ≤ k) ∧ k ≠ g) ∧ some k ≠ (Value.slice A fs.length c).ownBlock) (.slice A1 (ss.length + 1) c1) (ss ++ [bd])) (hgr : W.grownBy w3 (Value.slice A' ss.length c').ownBlock)
  (hat : (Value.slice A1 (ss.length + 1) c1).ownBlock = (Value.slice A' ss.length c').ownBlock ∨ ∃ b, (Value.slice A1 (ss.length + 1) c1).ownBlock = some b ∧ W.heap.size ≤ b) :
  dn_ (w3.setCell ⟨g, 6, none⟩ (.slice A1 (ss.length + 1) c1)) B (fun k => ok k ∨ W.heap.size ≤ k) g f id t wt body fs (ss ++ [bd]) := by
 have hne : some g ≠ (Value.slice A' ss.length c').ownBlock := fun e => (hs.1 g e.symm).1.2 rfl
 refine ⟨hB, .inl hok, hl, by simp; omega, .slice A fs.length c, .slice A1 (ss.length + 1) c1, ?_, ?_, Kd.R_far (p := ⟨g, 6, none⟩) hown (fun k hk => hk.1.2) _⟩
 ·have := dc_ (bu_ hg hgr hne) 6 (.slice A1 (ss.length + 1) c1)
  simpa using this
 ·refine Kd.R_far (p := ⟨g, 6, none⟩) (Kd.R_mono (Kd.R_grown (Kd.R_bound hf) hgr (fun k hk => hk.1.2)) (fun k hk => ⟨⟨.inl hk.1.1.1, hk.1.1.2⟩, fun e => ?_⟩)) (fun k hk => hk.1.2) _
  rcases hat with h | ⟨b, h, hb⟩
  ·exact hk.1.2 (e.trans h)
  ·have : k = b := by rw [h] at e; exact Option.some.inj e
   have := hk.2.2.1
   omega
end
theorem infoI : (Tryz.prog.info? 3).map (fun i => (i.zero, i.size, i.bytes)) = some (some (.int .i64 0), 1, 8) := by kernel_rfl
theorem infoS : (Tryz.prog.info? 9).map (fun i => (i.zero, i.size, i.bytes)) = some (some (.string ⟨#[]⟩), 1, 16) := by kernel_rfl
theorem dn_.waits {W : World} {B : Nat} {ok : Nat → Prop} {g : Nat} {f id t : Int} {wt : Bool} {body : ByteArray} {fs : List Int} {ss : List ByteArray} (h : dn_ W B ok g f id t wt body fs ss) (b : Bool) : dn_ (W.setCell ⟨g, 3, none⟩ (.bool b)) B ok g f id t b body fs ss := by
 obtain ⟨hB, hok, hl, hl', v, u, hg, hr, hr'⟩ := h
 refine ⟨hB, hok, hl, hl', v, u, ?_, Kd.R_far (p := ⟨g, 3, none⟩) hr (fun k hk => hk.1.2) _, Kd.R_far (p := ⟨g, 3, none⟩) hr' (fun k hk => hk.1.2) _⟩
 have := dc_ hg 3 (.bool b)
 simpa using this
end Go.Proofs.YtlcfcaokihoplaaGreatDoor.Cli
