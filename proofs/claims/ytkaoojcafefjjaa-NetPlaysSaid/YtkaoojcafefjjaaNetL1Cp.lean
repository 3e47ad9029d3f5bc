-- Cut by a program of this session (wip/shake.py) out of a text of this seat: what this claim doesn't reach is struck out. Lean checks it.
import Derived.Test.YtkaoojcafefjjaaNetS1Cp
import Derived.Test.YtkaoojcafefjjaaNetPCp
import Derived.Lib.Hide
import Derived.BigRegion
namespace Go.Proofs.Ytkaoojcafefjjaa.Net
open Go.RowKit Go.Proofs.Ytkaoojcafefjjaa.Ms Go.Proofs.YtkaoojcafefjjaaW.PrintWords Go.Proofs.YtkaoojcafefjjaaW.PrintLast Go.Proofs.YtkaoojcafefjjaaW.PrintMore
attribute [local go_sem] Go.Proofs.Ytkaoojcafefjjaa.Ms.eqlErr Go.Proofs.Ytkaoojcafefjjaa.Ms.neqErr Go.Proofs.Ytkaoojcafefjjaa.Ms.eqlErrNil Go.Proofs.Ytkaoojcafefjjaa.Ms.neqErrNil
set_option linter.unusedVariables false
set_option linter.unusedSimpArgs false
def outUp : S31 := ⟨-1, ⟨4, 0, 0, 0, ⟨#[]⟩, [], []⟩⟩
theorem lit_out {W : World} {r : Nat} (h : W.heap[r]? = some (.cells #[.int .i64 (-1), .int .i64 4, .int .i64 0, .int .i64 0, .int .i64 0, .string ⟨#[]⟩, .slice none 0 0, .slice none 0 0] 31 (0, 0))) : Kd.C k31 W (some ⟨r, 0, none⟩) [outUp].length [outUp] := by
  refine ⟨rfl, by simp, fun _ => ⟨_, rfl, fun j p hj => ?_⟩⟩
  have hj0 : j = 0 := by
    have := (List.getElem?_eq_some_iff.1 hj).1
    simpa using this
  subst hj0
  have hp : p = outUp := by simpa using hj.symm
  subst hp
  refine ⟨[.int .i64 (-1), .int .i64 4, .int .i64 0, .int .i64 0, .int .i64 0, .string ⟨#[]⟩, .slice none 0 0, .slice none 0 0], rfl, k31_mk W outUp (A6 := none) (c6 := 0) (Nat.le_refl _) (Kd.C_nil _ _) (A7 := none) (c7 := 0) (Nat.le_refl _) (Kd.C_nil _ _), fun i u hi => ?_⟩
  have := blk_cell h i
  show W.cell? ((⟨r, 0, none⟩ : Addr).add (0 * 8 + i)) = _
  rw [Addr.add_lit, Nat.zero_mul, Nat.zero_add, Nat.zero_add, this]
  rw [← hi]
  simp
theorem up_sent : ∃ x y z : S41, sent 1 0 [outUp] = [x, y, z] := by
  have h : MsgP.mayM 4 0 0 0 (⟨#[]⟩ : ByteArray) [] [] = true := by decide
  unfold sent
  rw [List.flatMap_cons, List.flatMap_nil, List.append_nil]
  unfold sent1 putM outUp
  rw [if_pos h]
  exact ⟨_, _, _, rfl⟩
set_option maxHeartbeats 4000000 in
set_option maxRecDepth 100000 in
theorem up_calls (w : World) : Calls Try.prog 6 #[] w fun e w' => e = .returned (.bool true) ∧ Below w.heap.size w w' := by
  obtain ⟨x, y, z, hS⟩ := up_sent
  have HS := Lib.hid hS
  clear hS
  go_enter Try.func6, Try.ntmps6
  go_wp2_with fail
  refine (net_New w 1 (by decide) (by decide)).mono ?_
  rintro e w1 ⟨rfl, hn1, hb1⟩
  have HN1 := Lib.hid hn1
  have HB1 := Lib.hid hb1
  clear hn1 hb1
  go_wp2_with fail
  refine (net_New_no w1 0 (by decide)).mono ?_
  rintro e w2 ⟨rfl, hb2⟩
  have HN2 := Lib.hid (HN1.out.below hb2)
  have HB2 := Lib.hid (HB1.out.trans (hb2.mono HB1.out.size))
  clear hb2 HN1 HB1
  go_wp2_with fail
  have hl2 := blk_lt (heap_alloc_new w2 (.cells #[.int .i64 (-1), .int .i64 4, .int .i64 0, .int .i64 0, .int .i64 0, .string ⟨#[]⟩, .slice none 0 0, .slice none 0 0] 31))
  have hX := heap_alloc_new w2 (.cells #[.int .i64 (-1), .int .i64 4, .int .i64 0, .int .i64 0, .int .i64 0, .string ⟨#[]⟩, .slice none 0 0, .slice none 0 0] 31)
  have hne : w2.heap.size ≠ w.heap.size := by have := HN2.out.glt; omega
  refine (net_Send _ w.heap.size (fun k => k = w.heap.size) w.heap.size 1 [] (HN2.out.below ((Below.refl _ w2).alloc (Nat.le_refl _) _)) (by have := HB2.out.size; simp; omega) 0 (some ⟨w2.heap.size, 0, none⟩) 1 [outUp] (fun W hk _ => lit_out (blk_kept hX hk hne)) (by decide) (by decide) (by simp)).mono ?_
  rintro e w3 ⟨rfl, hn3⟩
  have HN3 := Lib.hid hn3
  have HB3 := Lib.hid ((HB2.out.alloc HB2.out.size _).trans hn3.2.2)
  clear hn3 hX hl2 hne HN2
  go_wp2_with fail
  refine (net_All _ _ _ _ _ _ HN3.out.1).mono ?_
  rintro e w4 ⟨v, rfl, hr, hb4⟩
  rw [List.nil_append, HS.out] at hr
  obtain ⟨A4, c4, rfl⟩ := Kd.R_slice hr
  have HB4 := Lib.hid (HB3.out.trans (hb4.mono HB3.out.size))
  clear hr hb4 HN3 HB3
  go_wp2
  go_ret
  exact ⟨rfl, HB4.out⟩
end Go.Proofs.Ytkaoojcafefjjaa.Net
