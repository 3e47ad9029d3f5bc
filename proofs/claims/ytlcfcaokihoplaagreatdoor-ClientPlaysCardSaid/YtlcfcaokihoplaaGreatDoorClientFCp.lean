-- Cut.
import Derived.Test.YtlcfcaokihoplaaGreatDoorClientECp
namespace Go.Proofs.YtlcfcaokihoplaaGreatDoor.Cli
open Go.RowKit Go.Proofs.YtlcfcaokihoplaaGreatDoor.Ms Go.Proofs.YzW.PrintWords Go.Proofs.YzW.PrintLast Go.Proofs.YzW.PrintMore
attribute [local go_sem] Go.Proofs.YtlcfcaokihoplaaGreatDoor.Ms.eqlErr Go.Proofs.YtlcfcaokihoplaaGreatDoor.Ms.neqErr Go.Proofs.YtlcfcaokihoplaaGreatDoor.Ms.eqlErrNil Go.Proofs.YtlcfcaokihoplaaGreatDoor.Ms.neqErrNil
set_option linter.unusedVariables false
set_option linter.unusedSimpArgs false
theorem bytes_of_ok (s : ByteArray) : MsgL.bytesOk (bk_ s) := by
 intro x hx
 unfold bk_ at hx
 obtain ⟨b, _, rfl⟩ := List.mem_map.1 hx
 have := b.toNat_lt
 omega
theorem lok_of (s : ByteArray) (h : s.size ≤ 100000000) : MsgP.LOk (bk_ s) := ⟨bytes_of_ok s, by rw [bytesOf_length]; exact h⟩
theorem ans_f (bd : ByteArray) (h : bd.size ≤ 100000000) : Mf.msg_GetAnswer.f 300000 bd = some (MsgP.endA bd (MsgP.anC (bk_ bd) (MsgP.longB bd)).1 (MsgP.anN (bk_ bd) (MsgP.longB bd)).1 (MsgP.anNs (MsgP.tp _ (lok_of bd h)) (MsgP.longB bd)).1 (MsgP.anKs (MsgP.tp _ (lok_of bd h)) (MsgP.longB bd)).1 (MsgP.anEs (MsgP.tp _ (lok_of bd h)) (MsgP.longB bd))) := by
 unfold Mf.msg_GetAnswer.f
 rw [if_pos h, MsgP.getans_f (lok_of bd h) bd 300000 (Nat.le_refl _)]
def z5 : ByteArray := ⟨#[0, 0, 0, 0, 0]⟩
set_option maxRecDepth 100000 in
theorem ans_z5 : Mf.msg_GetAnswer.f 300000 z5 = some (0, 0, [], [], [], none) := by
 rw [ans_f z5 (by decide)]
 kernel_rfl
theorem up_who0 : CliP.whoL z5 [] [⟨0, z5⟩] = [0] := by kernel_rfl
theorem up_who2 : CliP.whoL z5 [] [⟨0, z5⟩, ⟨2, z5⟩] = [0, 2] := by kernel_rfl
theorem up_ask : ef_ false 0 (PureO.mayB 0 (0 + 1) 5 ⟨#[]⟩ ⟨#[]⟩ [] 0) = none := by kernel_rfl
set_option maxHeartbeats 4000000 in
set_option maxRecDepth 100000 in
theorem up_calls (w : World) : Calls Tryz.prog 4 #[] w fun e w' => e = .returned (.bool true) ∧ Below w.heap.size w w' := by
 go_enter Tryz.func4, Tryz.ntmps4
 go_wp2_with fail
 refine (client_New w 1 0 (by decide) (by decide) (by decide) (by decide)).mono ?_
 rintro e w1 ⟨rfl, hn1, hb1⟩
 have HN1 := Lib.hid hn1
 have HB1 := Lib.hid hb1
 clear hn1 hb1
 go_wp2_with fail
 refine (client_New_no w1 1 8 (by decide)).mono ?_
 rintro e w2 ⟨rfl, hb2⟩
 have HN2 := Lib.hid (HN1.out.below hb2)
 have HB2 := Lib.hid (HB1.out.trans (hb2.mono HB1.out.size))
 clear hb2 HN1 HB1
 go_wp2_with fail
 refine (client_Ask w2 w.heap.size (fun k => k = w.heap.size) w.heap.size 1 0 0 false ⟨#[]⟩ [] HN2.out (by decide) 5 0 ⟨#[]⟩ ⟨#[]⟩ none 0 [] (Kd.C_nil _ _) (Nat.le_refl _) (by decide) (by decide) (by decide) (by simp)).mono ?_
 rintro e w3 (⟨_, rfl, hn3, hk3, hb3⟩ | ⟨er, hx, _⟩)
 rotate_left
 ·rw [up_ask] at hx
  cases hx
 generalize newBody 0 0 5 0 ⟨#[]⟩ ⟨#[]⟩ [] = body at hn3 ⊢
 obtain ⟨okb, hokb⟩ : ∃ okb : Nat → Prop, okb = fun k => (k = w.heap.size ∨ w2.heap.size ≤ k) ∧ w.heap.size ≤ k ∧ k < w3.heap.size := ⟨_, rfl⟩
 have hn3b := hn3.bound
 rw [← hokb] at hn3b
 have hokl : ∀ k, okb k → k < w3.heap.size := fun k hk => by rw [hokb] at hk; exact hk.2.2
 have hB3 : Below w.heap.size w w3 := HB2.out.trans hb3
 have HOKL := Lib.hid hokl
 obtain ⟨g, hg⟩ : ∃ g, g = w.heap.size := ⟨_, rfl⟩
 have hgl := hn3b.glt
 have hsz3 := hB3.size
 clear hn3 hk3 hb3 hokl hokb HN2 HB2
 unfold msgQ
 go_wp2_with fail
 obtain ⟨bm, hbm⟩ : ∃ bm, bm = w3.heap.size := ⟨_, rfl⟩
 have hX1 := heap_alloc_new w3 (.cells #[.int .i64 1, .int .i64 0, .int .i64 0, .int .i64 0, .string body, .slice none 0 0, .slice none 0 0] 40)
 have hB1 : Below w3.heap.size w3 (w3.alloc (.cells #[.int .i64 1, .int .i64 0, .int .i64 0, .int .i64 0, .string body, .slice none 0 0, .slice none 0 0] 40)) := (Below.refl _ w3).alloc (Nat.le_refl _) _
 have hs1 : (w3.alloc (.cells #[.int .i64 1, .int .i64 0, .int .i64 0, .int .i64 0, .string body, .slice none 0 0, .slice none 0 0] 40)).heap.size = w3.heap.size + 1 := by simp
 generalize w3.alloc (.cells #[.int .i64 1, .int .i64 0, .int .i64 0, .int .i64 0, .string body, .slice none 0 0, .slice none 0 0] 40) = wa at hX1 hB1 hs1 ⊢
 have hX2 := heap_alloc_new wa (.cells #[.int .i64 7, .int .i64 0, .int .i64 0, .int .i64 1, .string ⟨#[0, 0, 0, 0, 0]⟩, .slice none 0 0, .slice none 0 0] 40)
 have hB2 : Below wa.heap.size wa (wa.alloc (.cells #[.int .i64 7, .int .i64 0, .int .i64 0, .int .i64 1, .string ⟨#[0, 0, 0, 0, 0]⟩, .slice none 0 0, .slice none 0 0] 40)) := (Below.refl _ wa).alloc (Nat.le_refl _) _
 have hs2 : (wa.alloc (.cells #[.int .i64 7, .int .i64 0, .int .i64 0, .int .i64 1, .string ⟨#[0, 0, 0, 0, 0]⟩, .slice none 0 0, .slice none 0 0] 40)).heap.size = wa.heap.size + 1 := by simp
 generalize wa.alloc (.cells #[.int .i64 7, .int .i64 0, .int .i64 0, .int .i64 1, .string ⟨#[0, 0, 0, 0, 0]⟩, .slice none 0 0, .slice none 0 0] 40) = w4 at hX2 hB2 hs2 ⊢
 rw [hs1] at hX2 hs2
 rw [← hbm] at hX1 hX2 hs2 ⊢
 have hX1' := s_ hX1 hB2
 have hB34 := hB1.trans (hB2.mono hB1.size)
 have HX1 := Lib.hid hX1'
 have HX2 := Lib.hid hX2
 have HN4 := Lib.hid (hn3b.below hB34)
 have HB4 := Lib.hid (hB3.trans (hB34.mono hsz3))
 have HS4 : Hid (w4.heap.size = bm + 2) := Lib.hid (by omega)
 have HBM := Lib.hid hbm
 have HWB : Hid (w.heap.size < bm) := Lib.hid (by rw [hbm]; exact hgl)
 clear hX1 hX2 hB1 hB2 hs1 hs2 hX1' hbm hB34 hn3b hB3 hsz3 hgl wa
 refine (client_On_yes w4 w.heap.size okb w.heap.size 1 0 (0 + 1) body [] HN4.out (by decide) (by simp) 0 0 z5 none 0 0 none 0 0 (by decide) rfl 300000 0 0 [] [] [] none ans_z5).mono ?_
 rintro e w5 ⟨is, his, ⟨av, rfl, hav, _⟩, hc5, hk5, hb5⟩
 rw [show ([] : List S80) ++ [⟨0, z5⟩] = [⟨0, z5⟩] from rfl, up_who0] at his
 obtain rfl : is = false := his
 obtain rfl := hav rfl
 have hnb : ∀ k, bm ≤ k → ¬ okb k := fun k hk h => by have := HOKL.out k h; have := HBM.out; omega
 have HX5 := Lib.hid (dd_ HX1.out hk5 (hnb _ (Nat.le_refl _)))
 have HY5 := Lib.hid (dd_ HX2.out hk5 (hnb _ (Nat.le_succ _)))
 have HN5 := Lib.hid hc5
 have HB5 := Lib.hid (HB4.out.trans hb5)
 have HS5 := Lib.hid hb5.size
 clear hav hc5 hk5 hb5 hnb HN4 HB4 HX1 HX2
 unfold accZ
 have HY5a := Lib.hid (s_ HY5.out ((Below.refl _ w5).alloc (Nat.le_refl _) (.cells #[.int .i64 0, .int .i64 0, .int .i64 0, .int .i64 0, .slice none 0 0, .slice none 0 0, .slice none 0 0] 59)))
 have c0 : (w5.alloc (.cells #[.int .i64 0, .int .i64 0, .int .i64 0, .int .i64 0, .slice none 0 0, .slice none 0 0, .slice none 0 0] 59)).cell? ⟨bm + 1, 0, none⟩ = some (.int .i64 7) := (b_ HY5a.out 0).trans rfl
 have c1 : (w5.alloc (.cells #[.int .i64 0, .int .i64 0, .int .i64 0, .int .i64 0, .slice none 0 0, .slice none 0 0, .slice none 0 0] 59)).cell? ⟨bm + 1, 1, none⟩ = some (.int .i64 0) := (b_ HY5a.out 1).trans rfl
 have c2 : (w5.alloc (.cells #[.int .i64 0, .int .i64 0, .int .i64 0, .int .i64 0, .slice none 0 0, .slice none 0 0, .slice none 0 0] 59)).cell? ⟨bm + 1, 2, none⟩ = some (.int .i64 0) := (b_ HY5a.out 2).trans rfl
 have c3 : (w5.alloc (.cells #[.int .i64 0, .int .i64 0, .int .i64 0, .int .i64 0, .slice none 0 0, .slice none 0 0, .slice none 0 0] 59)).cell? ⟨bm + 1, 3, none⟩ = some (.int .i64 1) := (b_ HY5a.out 3).trans rfl
 have c4 : (w5.alloc (.cells #[.int .i64 0, .int .i64 0, .int .i64 0, .int .i64 0, .slice none 0 0, .slice none 0 0, .slice none 0 0] 59)).cell? ⟨bm + 1, 4, none⟩ = some (.string ⟨#[0, 0, 0, 0, 0]⟩) := (b_ HY5a.out 4).trans rfl
 have c5 : (w5.alloc (.cells #[.int .i64 0, .int .i64 0, .int .i64 0, .int .i64 0, .slice none 0 0, .slice none 0 0, .slice none 0 0] 59)).cell? ⟨bm + 1, 5, none⟩ = some (.slice none 0 0) := (b_ HY5a.out 5).trans rfl
 have c6 : (w5.alloc (.cells #[.int .i64 0, .int .i64 0, .int .i64 0, .int .i64 0, .slice none 0 0, .slice none 0 0, .slice none 0 0] 59)).cell? ⟨bm + 1, 6, none⟩ = some (.slice none 0 0) := (b_ HY5a.out 6).trans rfl
 have fz := a_ HY5a.out 1
 have hne : bm + 1 ≠ w5.heap.size := by have := HS5.out; have := HS4.out; omega
 have hne' : w5.heap.size ≠ bm + 1 := Ne.symm hne
 go_wp2_with fail
 have hB56 : Below w5.heap.size w5 ((w5.alloc (.cells #[.int .i64 0, .int .i64 0, .int .i64 0, .int .i64 0, .slice none 0 0, .slice none 0 0, .slice none 0 0] 59)).setCell ⟨bm + 1, 1, none⟩ (.int .i64 2)) ∨ True := .inr trivial
 have hK56 : bv_ w5 ((w5.alloc (.cells #[.int .i64 0, .int .i64 0, .int .i64 0, .int .i64 0, .slice none 0 0, .slice none 0 0, .slice none 0 0] 59)).setCell ⟨bm + 1, 1, none⟩ (.int .i64 2)) (fun k => k = bm + 1) := bv_.setCell (p := ⟨bm + 1, 1, none⟩) (bv_.alloc (bv_.refl w5 (fun k => k = bm + 1)) _) (.inl rfl) _
 have hB6 : Below w.heap.size w ((w5.alloc (.cells #[.int .i64 0, .int .i64 0, .int .i64 0, .int .i64 0, .slice none 0 0, .slice none 0 0, .slice none 0 0] 59)).setCell ⟨bm + 1, 1, none⟩ (.int .i64 2)) := Below.setCell (p := ⟨bm + 1, 1, none⟩) (Below.alloc HB5.out HB5.out.size _) (by have := HWB.out; show w.heap.size ≤ bm + 1; omega) _
 have hs6 : ((w5.alloc (.cells #[.int .i64 0, .int .i64 0, .int .i64 0, .int .i64 0, .slice none 0 0, .slice none 0 0, .slice none 0 0] 59)).setCell ⟨bm + 1, 1, none⟩ (.int .i64 2)).heap.size = w5.heap.size + 1 := by simp
 clear hB56 c0 c1 c2 c3 c4 c5 c6 fz HY5a
 generalize (w5.alloc (.cells #[.int .i64 0, .int .i64 0, .int .i64 0, .int .i64 0, .slice none 0 0, .slice none 0 0, .slice none 0 0] 59)).setCell ⟨bm + 1, 1, none⟩ (.int .i64 2) = w6 at hK56 hB6 hs6 ⊢
 have HN6 : Hid (bq_ w6 w.heap.size (fun k => okb k ∨ (bm + 2 ≤ k ∧ k < w5.heap.size)) w.heap.size 1 0 (0 + 1) true body ([] ++ [⟨0, z5⟩])) := Lib.hid (((HN5.out.bound.kept hK56 (fun k hk e => by
  have h1 : k = bm + 1 := e
  rcases hk.1 with h | h
  ·have := HOKL.out k h; have := HBM.out; omega
  ·have h2 : w4.heap.size ≤ k := h; have := HS4.out; omega)).mono (fun k hk => hk.1.elim .inl (fun h => .inr ⟨by have h2 : w4.heap.size ≤ k := h; have := HS4.out; omega, hk.2.2⟩))))
 have HX6 := Lib.hid (dd_ HX5.out hK56 (by omega))
 have HB6 := Lib.hid hB6
 have HS6 := Lib.hid hs6
 have HW5 : Hid (bm < w5.heap.size) := Lib.hid (bj_ HX5.out)
 clear hK56 hB6 hs6 HX5 HY5 HN5 HB5 hne hne'
 refine (client_On_yes w6 w.heap.size _ w.heap.size 1 0 (0 + 1) body _ HN6.out (by decide) (by simp) 2 0 z5 none 0 0 none 0 0 (by decide) rfl 300000 0 0 [] [] [] none ans_z5).mono ?_
 rintro e w7 ⟨is, his, ⟨av, rfl, _, hav⟩, hc7, hk7, hb7⟩
 rw [show ([] ++ [⟨0, z5⟩] : List S80) ++ [⟨2, z5⟩] = [⟨0, z5⟩, ⟨2, z5⟩] from rfl, up_who2] at his
 obtain rfl : is = true := his
 obtain ⟨v2, v3, v4, rfl, h2, h3, h4⟩ := hav rfl
 obtain ⟨A2, d2, rfl⟩ := Kd.R_slice h2
 obtain ⟨A3, d3, rfl⟩ := Kd.R_slice h3
 obtain ⟨A4, d4, rfl⟩ := Kd.S_slice h4
 clear h2 h3 h4
 have HX7 := Lib.hid (dd_ HX6.out hk7 (fun h => by
  rcases h with h | h
  ·have := HOKL.out _ h; have := HBM.out; omega
  ·omega))
 have HB7 := Lib.hid (HB6.out.trans hb7)
 have hs7 := hb7.size
 have m0 : w7.cell? ⟨bm, 0, none⟩ = some (.int .i64 1) := (b_ HX7.out 0).trans rfl
 have hlt7 : bm < w7.heap.size := bj_ HX7.out
 have hne : bm ≠ w7.heap.size := by omega
 have hne' : w7.heap.size ≠ bm := Ne.symm hne
 clear hav hc7 hk7 hb7 hs7 HX6 HN6 HB6
 go_wp2
 go_ret
 exact ⟨rfl, (HB7.out.alloc HB7.out.size _)⟩
end Go.Proofs.YtlcfcaokihoplaaGreatDoor.Cli
