-- Cut by a program of this session (wip/shake.py) out of a text of this seat: what this claim doesn't reach is struck out. Lean checks it.
import Derived.Test.YtkaoojcafefjjaaNetBCp
import Derived.Lib.Hide
import Derived.BigRegion
namespace Go.Proofs.Ytkaoojcafefjjaa.Net
open Go.RowKit Go.Proofs.Ytkaoojcafefjjaa.Ms Go.Proofs.YtkaoojcafefjjaaW.PrintWords Go.Proofs.YtkaoojcafefjjaaW.PrintLast Go.Proofs.YtkaoojcafefjjaaW.PrintMore
attribute [local go_sem] Go.Proofs.Ytkaoojcafefjjaa.Ms.eqlErr Go.Proofs.Ytkaoojcafefjjaa.Ms.neqErr Go.Proofs.Ytkaoojcafefjjaa.Ms.eqlErrNil Go.Proofs.Ytkaoojcafefjjaa.Ms.neqErrNil
set_option linter.unusedVariables false
set_option linter.unusedSimpArgs false
set_option maxHeartbeats 4000000 in
set_option maxRecDepth 100000 in
theorem delete_calls (w : World) (B : Nat) (ok : Nat → Prop) (A : Option Addr) (c : Nat) (l : List S41) (i : Nat) (hi : i < l.length) (hn : l.length ≤ 100000) (hr : Kd.R k41 41 w B ok (.slice A l.length c) l) (hB : B ≤ w.heap.size) :
    Calls Try.prog 20 #[.slice A l.length c, .int .i64 (i : Int), .int .i64 ((i : Int) + 1)] w fun e w' => e = .returned (.slice A (l.eraseIdx i).length c) ∧ Kd.R k41 41 w' B ok (.slice A (l.eraseIdx i).length c) (l.eraseIdx i) ∧ Kept w w' ok ∧ Below B w w' := by
  obtain ⟨g, cap, he, hBg, hgl, cells0, hcells0⟩ := Kd.R_form hr (by omega)
  injection he with e1 e2 e3
  subst e1 e3
  have hcap := (Kd.R_reads' hr).2.1
  have hlen : (l.eraseIdx i).length = l.length - 1 := List.length_eraseIdx_of_lt hi
  rw [hlen]
  have hci : ∃ i0, (Try.prog.info? 41) = some i0 ∧ i0.size = 3 := by obtain ⟨i0, h1, h2⟩ := Option.map_eq_some_iff.1 info41; exact ⟨i0, h1, by simp only [Prod.mk.injEq] at h2; exact h2.2.1⟩
  obtain ⟨i0, hi0, hsz0⟩ := hci
  have cutT := cut_to (P := Try.prog) 38 41 .i64 Try.underlying38 hi0 (some ⟨g, 0, none⟩) l.length c (i : Int) (by omega) (by omega) hcap
  have cutF := cut_from (P := Try.prog) 38 41 .i64 Try.underlying38 hi0 3 hsz0 (some ⟨g, 0, none⟩) l.length c ((i : Int) + 1) (by omega) (by omega)
  have hto : ((i : Int) + 1).toNat = i + 1 := by omega
  rw [Int.toNat_natCast] at cutT
  rw [hto] at cutF
  clear hto
  have heq : ((i : Int) == (i : Int) + 1) = false := by simp; omega
  have HR := Lib.hid hr
  have HI := Lib.hid hi
  have HN := Lib.hid hn
  have HC := Lib.hid hcap
  have HB := Lib.hid hB
  have HG := Lib.hid hBg
  clear hr hlen hcells0 hi0 hB hBg
  go_enter Try.func20, Try.ntmps20
  go_wp2_with fail
  refine start_ (n := 8) (S := fun w' => True) (ds := []) #[false, false, false, false, false, false, false, false] (by kernel_rfl) rfl rfl trivial (fun hHeld => ?_)
  refine pure_ (i := 0) (N := some 20) (v := ?_) (a' := ?_) #[true, false, false, false, false, false, false, false] rfl rfl (by kernel_rfl) (fun _ _ _ h => h) (Or.inl ⟨by rfl, ?_⟩) ?_ ?_
  rotate_left
  · intro w'
    go_simp
    with_reducible rfl
  rotate_left
  · simp only [Act.put, List.setIfInBounds_toArray, List.set_cons_zero, List.set_cons_succ, i64_w, i32_w]
    rfl
  refine pure_ (i := 1) (N := some 21) (v := ?_) (a' := ?_) #[true, true, false, false, false, false, false, false] rfl rfl (by kernel_rfl) (fun _ _ _ h => h) (Or.inl ⟨by rfl, ?_⟩) ?_ ?_
  rotate_left
  · intro w'
    go_simp
    with_reducible rfl
  rotate_left
  · simp only [Act.put, List.setIfInBounds_toArray, List.set_cons_zero, List.set_cons_succ, i64_w, i32_w]
    rfl
  refine pure_ (i := 2) (N := some 22) (v := ?_) (a' := ?_) #[true, true, true, false, false, false, false, false] rfl rfl (by kernel_rfl) (fun _ _ _ h => h) (Or.inl ⟨by rfl, ?_⟩) ?_ ?_
  rotate_left
  · intro w'
    go_simp
    with_reducible rfl
  rotate_left
  · simp only [Act.put, List.setIfInBounds_toArray, List.set_cons_zero, List.set_cons_succ, i64_w, i32_w]
    rfl
  refine pure_ (i := 3) (N := some 23) (v := ?_) (a' := ?_) #[true, true, true, true, false, false, false, false] rfl rfl (by kernel_rfl) (fun _ _ _ h => h) (Or.inl ⟨by rfl, ?_⟩) ?_ ?_
  rotate_left
  · intro w'
    go_simp
    with_reducible rfl
  rotate_left
  · simp only [Act.put, List.setIfInBounds_toArray, List.set_cons_zero, List.set_cons_succ, i64_w, i32_w]
    rfl
  refine pure_ (i := 4) (N := some 24) (v := ?_) (a' := ?_) #[true, true, true, true, true, false, false, false] rfl rfl (by kernel_rfl) (fun _ _ _ h => h) (Or.inl ⟨by rfl, ?_⟩) ?_ ?_
  rotate_left
  · intro w'
    go_simp
    with_reducible rfl
  rotate_left
  · simp only [Act.put, List.setIfInBounds_toArray, List.set_cons_zero, List.set_cons_succ, i64_w, i32_w]
    rfl
  refine pure_ (i := 5) (N := some 25) (v := ?_) (a' := ?_) #[true, true, true, true, true, true, false, false] rfl rfl (by kernel_rfl) (fun _ _ _ h => h) (Or.inl ⟨by rfl, ?_⟩) ?_ ?_
  rotate_left
  · intro w'
    go_simp
    with_reducible rfl
  rotate_left
  · simp only [Act.put, List.setIfInBounds_toArray, List.set_cons_zero, List.set_cons_succ, i64_w, i32_w]
    rfl
  refine one_ (i := 6) (N := some 26) #[true, true, true, true, true, true, true, false] rfl rfl (by kernel_rfl) (by decide) (fun K hK => ?_)
  refine Kd.R_delete_step k41 (w0 := w) B (by rfl) (.tmp 22) (.tmp 25) 38 41 (by rfl) Try.underlying38 (by kernel_rfl) (g := g) (n := l.length) (c := c) (k := i) (m := l.length - (i + 1)) (c2 := c - (i + 1)) (A := if c = i + 1 then some ⟨g, 0, none⟩ else some ⟨g, (i + 1) * 3, none⟩) (by rfl) (by rfl) (by simp only [Option.map_some, Addr.add_lit, Nat.zero_add]; rfl) rfl (Kd.R_drew HR.out) HI.out ((Below.refl B w).drew) HB.out ?_
  intro w1 ho hb hg
  have HO := Lib.hid ho
  have HBW := Lib.hid hb
  have HGR := Lib.hid hg
  clear ho hb hg
  refine hK.out _ _ trivial (fun hHeld => ?_)
  clear hK K
  refine norm_ (a' := ?_) ?_ ?_
  rotate_left
  · show Act.put _ (some 26) _ = _
    simp only [Act.put, List.setIfInBounds_toArray, List.set_cons_zero, List.set_cons_succ, i64_w, i32_w]
    rfl
  refine pure_ (i := 7) (N := some 0) (v := ?_) (a' := ?_) #[true, true, true, true, true, true, true, true] rfl rfl (by kernel_rfl) (fun _ _ _ h => h) (Or.inl ⟨by rfl, ?_⟩) ?_ ?_
  rotate_left
  · intro w'
    go_simp
    with_reducible rfl
  rotate_left
  · simp only [Act.put, List.setIfInBounds_toArray, List.set_cons_zero, List.set_cons_succ, i64_w, i32_w]
    rfl
  refine done_ (by kernel_rfl) ?_
  have ho := HO.out
  obtain ⟨m, hm⟩ : ∃ m, l.length = m + 1 := ⟨l.length - 1, by have := HI.out; omega⟩
  obtain ⟨q1, q2, cur, hcur, hsz⟩ := R_cells ho
  have hcm : m + 1 ≤ c := by have := HC.out; omega
  have hsz' : cur.size = c * 3 := hsz
  have hcl : ∀ ty, (Builtin.clear_ #[38] ty #[.slice (some ⟨g, m * 3, none⟩) 1 (c - m)]).run Try.prog w1 = .ok (.tuple #[]) (w1.setCells g (m * 3) [.int .i64 0, .int .i64 0, .string ⟨#[]⟩]) := fun ty =>
    run_clear_one w1 _ 41 ty (.agg #[.int .i64 0, .int .i64 0, .string ⟨#[]⟩]) Try.underlying38 (fun w => by kernel_rfl) (by intro u hu; simp [Value.cells] at hu; rcases hu with rfl | rfl | rfl <;> rfl) g (m * 3) _
      (fun j hj => by
        have hj3 : j < 3 := hj
        rw [blk_cell hcur, Array.getElem?_eq_getElem (by omega)]; rfl) (fun j _ => blk_frozen hcur _)
  have HS := Lib.hid (show Kd.R k41 41 (w1.setCells g (m * 3) [.int .i64 0, .int .i64 0, .string ⟨#[]⟩]) B ok (.slice (some ⟨g, 0, none⟩) m c) (l.eraseIdx i) from R_tails _ _ _ (by have h2 := ho; rw [hm, Nat.add_sub_cancel] at h2; exact h2) (Nat.le_refl _))
  have HK := Lib.hid (setCells_kept (w0 := w) (g := g) q2 [.int .i64 0, .int .i64 0, .string ⟨#[]⟩] (m * 3) w1 ((Kept.of_grown HGR.out (Kept.refl _ ok) (fun k hk => .inl (by rw [← Option.some.inj hk]; exact q2))) : Kept w w1 ok))
  have HBB := Lib.hid (setCells_below q1 [.int .i64 0, .int .i64 0, .string ⟨#[]⟩] (m * 3) w1 HBW.out)
  generalize w1.setCells g (m * 3) [.int .i64 0, .int .i64 0, .string ⟨#[]⟩] = w2 at hcl HS HK HBB
  clear ho hcur hsz hsz' HO cutT cutF heq
  rw [hm, Nat.add_sub_cancel]
  generalize (if c = i + 1 then (some ⟨g, 0, none⟩ : Option Addr) else some ⟨g, (i + 1) * 3, none⟩) = AX
  go_wp2_with fail
  go_ret
  rw [show l.length - 1 = m from by omega]
  exact ⟨rfl, HS.out, HK.out, HBB.out⟩
end Go.Proofs.Ytkaoojcafefjjaa.Net
