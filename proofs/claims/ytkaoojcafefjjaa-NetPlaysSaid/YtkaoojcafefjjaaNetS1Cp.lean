-- Cut by a program of this session (wip/shake.py) out of a text of this seat: what this claim doesn't reach is struck out. Lean checks it.
import Derived.Test.YtkaoojcafefjjaaNetTCp
import Derived.Test.YtkaoojcafefjjaaNetS0Cp
import Derived.Lib.Hide
import Derived.BigRegion
namespace Go.Proofs.Ytkaoojcafefjjaa.Net
open Go.RowKit Go.Proofs.Ytkaoojcafefjjaa.Ms Go.Proofs.YtkaoojcafefjjaaW.PrintWords Go.Proofs.YtkaoojcafefjjaaW.PrintLast Go.Proofs.YtkaoojcafefjjaaW.PrintMore
attribute [local go_sem] Go.Proofs.Ytkaoojcafefjjaa.Ms.eqlErr Go.Proofs.Ytkaoojcafefjjaa.Ms.neqErr Go.Proofs.Ytkaoojcafefjjaa.Ms.eqlErrNil Go.Proofs.Ytkaoojcafefjjaa.Ms.neqErrNil
set_option linter.unusedVariables false
set_option linter.unusedSimpArgs false
theorem net_still {w wr w3 : World} {B : Nat} {ok : Nat → Prop} {g : Nat} {f : Int} {l : List S41} (h : NetTo w wr B ok g f l) (hBw : B ≤ w.heap.size) (hb : Below wr.heap.size wr w3) : NetTo w w3 B ok g f l := by
  obtain ⟨h1, h2, h3⟩ := h
  refine ⟨h1.below hb, h2.below hb, h3.trans ⟨hb.os, hb.tape, hb.output, hb.size, fun k hk => hb.block k ?_⟩⟩
  have := h3.size
  omega
theorem net_then {w wr w4 : World} {B : Nat} {ok : Nat → Prop} {g : Nat} {f : Int} {l l' : List S41} (h : NetTo w wr B ok g f l) (k : NetTo wr w4 B (fun k => ok k ∨ w.heap.size ≤ k) g f l') : NetTo w w4 B ok g f l' := by
  obtain ⟨h1, h2, h3⟩ := h
  obtain ⟨k1, k2, k3⟩ := k
  refine ⟨k1.mono (fun k hk => ?_), h2.then_ k2 (fun k hk => hk), h3.trans k3⟩
  rcases hk with hk | hk
  · exact hk
  · exact .inr (by have := h2.1; omega)
theorem net_close {w wr w2 wb W : World} {B : Nat} {ok okI : Nat → Prop} {g : Nat} {f : Int} {l l' : List S41} (hBw : B ≤ w.heap.size) (hN : NetTo w wr B ok g f l) (hb2 : Below wr.heap.size wr w2) (hbb : Below w2.heap.size w2 wb) (hI : ∀ k, okI k → (ok k ∨ w.heap.size ≤ k))
    (h1 : NetAt W B (fun k => okI k ∨ wb.heap.size ≤ k) g f l') (h2 : Kept wb W (fun k => okI k ∨ k = w2.heap.size)) (h3 : Below B wb W) : NetTo w W B ok g f l' := by
  have s1 := hN.2.1.1
  have s2 := hb2.size
  have s3 := hbb.size
  have hb : Below wr.heap.size wr wb := hb2.trans (hbb.mono hb2.size)
  refine net_then hN ⟨h1.mono (fun k hk => ?_), (Kept.of_below hb _).then_ h2 (fun k hk => ?_), (hb.mono (Nat.le_trans hBw s1)).trans h3⟩
  · rcases hk with hk | hk
    · exact .inl (hI k hk)
    · exact .inr (by omega)
  · rcases hk with hk | hk
    · exact .inl (hI k hk)
    · exact .inr (by omega)
set_option maxHeartbeats 8000000 in
set_option maxRecDepth 100000 in
theorem net_Send (w : World) (B : Nat) (ok : Nat → Prop) (g : Nat) (f : Int) (l : List S41) (h : NetAt w B ok g f l) (hBw : B ≤ w.heap.size) (from_ : Int) (A0 : Option Addr) (c0 : Nat) (os : List S31)
    (hO : ∀ W, Kept w W ok → Below B w W → Kd.C k31 W A0 os.length os) (hf1 : 1 ≤ f) (hf4 : f ≤ 4) (hlen : l.length + 13 * os.length ≤ 50000) :
    Calls Try.prog 9 #[.pointer (some ⟨g, 0, none⟩), .int .i64 from_, .slice A0 os.length c0] w fun e w' => e = .returned (.tuple #[]) ∧ NetTo w w' B ok g f (l ++ sent f from_ os) := by
  have HO := Lib.hid hO
  have HLEN := Lib.hid hlen
  have HF1 := Lib.hid hf1
  have HF4 := Lib.hid hf4
  have HBw := Lib.hid hBw
  have H0 : Hid (NetTo w w B ok g f (l ++ sent f from_ (os.take 0))) := Lib.hid ⟨by rw [List.take_zero]; unfold sent; rw [List.flatMap_nil, List.append_nil]; exact h.mono (fun k hk => .inl hk), Kept.refl _ _, Below.refl _ _⟩
  clear hO hlen hf1 hf4 hBw h
  go_enter Try.func9, Try.ntmps9
  go_wp2_with fail
  go_loopg [15] os.length (fun kq v15 w' => ∃ i : Nat, v15 = .int .i64 (i : Int) ∧ Hid (i + kq = os.length) ∧ Hid (NetTo w w' B ok g f (l ++ sent f from_ (os.take i))))
  case atStart => exact ⟨0, rfl, Lib.hid (by omega), H0⟩
  case round =>
    obtain ⟨i, rfl, HI, HN⟩ := hrel
    by_cases hi : i < os.length
    rotate_left
    · have hd : decide (i < os.length) = false := by simpa using hi
      have e : os.take i = os := List.take_of_length_le (by omega)
      rw [e] at HN
      clear hi e
      go_wp2
      go_end0
      exact ⟨rfl, HN.out⟩
    have hd : decide (i < os.length) = true := by simpa using hi
    cases gk with
    | zero => have := HI.out; omega
    | succ k1 =>
    have hC := HO.out wr HN.out.2.1 HN.out.2.2
    obtain ⟨ad, A6, c6, A7, c7, rfl, x0, x1, x2, x3, x4, x5, x6, x7, l6, g6, l7, g7⟩ := at_T31 hC (i : Int) (by omega) (by omega)
    rw [Int.toNat_natCast] at x0 x1 x2 x3 x4 x5 x6 x7
    rw [rdO_get os i hi] at x0 x1 x2 x3 x4 x5 x6 x7 l6 g6 l7 g7
    have HS := Lib.hid (sent_succ f from_ os i hi)
    have HM := Lib.hid (sent1_len HF4.out from_ os[i])
    generalize os[i] = o at x0 x1 x2 x3 x4 x5 x6 x7 l6 g6 l7 g7 HS HM
    have HL6 := Lib.hid l6
    have HG6 := Lib.hid g6
    have HL7 := Lib.hid l7
    have HG7 := Lib.hid g7
    have HII := Lib.hid hi
    clear hC l6 g6 l7 g7 hi
    go_wp2_with fail
    have HX0 := Lib.hid (heap_alloc_new wr (.cells #[.int .i64 o.f0, .int .i64 o.f1.f0, .int .i64 o.f1.f1, .int .i64 o.f1.f2, .int .i64 o.f1.f3, .string o.f1.f4, .slice A6 o.f1.f5.length c6, .slice A7 o.f1.f6.length c7] 31))
    have HBa := Lib.hid ((Below.refl _ wr).alloc (Nat.le_refl _) (.cells #[.int .i64 o.f0, .int .i64 o.f1.f0, .int .i64 o.f1.f1, .int .i64 o.f1.f2, .int .i64 o.f1.f3, .string o.f1.f4, .slice A6 o.f1.f5.length c6, .slice A7 o.f1.f6.length c7] 31))
    generalize wr.alloc (.cells #[.int .i64 o.f0, .int .i64 o.f1.f0, .int .i64 o.f1.f1, .int .i64 o.f1.f2, .int .i64 o.f1.f3, .string o.f1.f4, .slice A6 o.f1.f5.length c6, .slice A7 o.f1.f6.length c7] 31) = wa at HX0 HBa ⊢
    obtain ⟨gb, hgb⟩ : ∃ gb, gb = wr.heap.size := ⟨_, rfl⟩
    rw [← hgb] at HX0 ⊢
    have HGB := Lib.hid hgb
    clear hgb x0 x1 x2 x3 x4 x5 x6 x7
    by_cases hmay : MsgP.mayM o.f1.f0 o.f1.f1 o.f1.f2 o.f1.f3 o.f1.f4 o.f1.f5 o.f1.f6 = true
    rotate_left
    · have hp := MsgP.put_any o.f1.f0 o.f1.f1 o.f1.f2 o.f1.f3 o.f1.f4 o.f1.f5 o.f1.f6 1000 (by decide)
      rw [if_neg hmay] at hp
      have e : sent1 f from_ o = [] := by unfold sent1 putM; rw [if_neg hmay]
      rw [e, List.append_nil] at HS
      refine (msg_Put.calls 1000 o.f1.f0 o.f1.f1 o.f1.f2 o.f1.f3 o.f1.f4 A6 c6 o.f1.f5 A7 c7 o.f1.f6 [] (some 1) wa (Kd.C_below HG6.out HBa.out) HL6.out (Kd.C_below HG7.out HBa.out) HL7.out hp).mono ?_
      rintro e2 w2 ⟨v2, rfl, hv, hb2⟩
      have HN2 := Lib.hid (net_still HN.out HBw.out (HBa.out.trans (hb2.mono HBa.out.size)))
      clear hv hb2 hp e hmay
      rw [errW_some]
      have hwi : wrap64 ((i : Int) + 1) = ((i + 1 : Nat) : Int) := by have := HLEN.out; have := HII.out; unfold wrap64; omega
      go_wp2_with fail
      go_roundg k1
      case measure => omega
      case rel => exact ⟨i + 1, by rw [hwi], Lib.hid (by have := HI.out; omega), by rw [HS.out]; exact HN2⟩
    have hp := MsgP.put_any o.f1.f0 o.f1.f1 o.f1.f2 o.f1.f3 o.f1.f4 o.f1.f5 o.f1.f6 1000 (by decide)
    rw [if_pos hmay] at hp
    obtain ⟨b, hb⟩ : ∃ b, b = strOfNums (MsgP.msgE o.f1.f0 o.f1.f1 o.f1.f2 o.f1.f3 o.f1.f4 o.f1.f5 o.f1.f6) := ⟨_, rfl⟩
    have e : putM o.f1 = some b := by unfold putM; rw [if_pos hmay, hb]
    have HE := Lib.hid e
    refine (msg_Put.calls 1000 o.f1.f0 o.f1.f1 o.f1.f2 o.f1.f3 o.f1.f4 A6 c6 o.f1.f5 A7 c7 o.f1.f6 _ none wa (Kd.C_below HG6.out HBa.out) HL6.out (Kd.C_below HG7.out HBa.out) HL7.out hp).mono ?_
    rintro e2 w2 ⟨v2, rfl, hv, hb2⟩
    obtain ⟨A2, c2, rfl⟩ := Kd.V_slice hv
    have hcv := Kd.C_string (P := Try.prog) (c := c2) Try.underlying61 Try.underlying5 Try.underlying9 (Kd.V_reads' hv).2.2
    rw [← hb] at hcv
    have HB2 := Lib.hid (HBa.out.trans (hb2.mono HBa.out.size))
    have HX := Lib.hid (blk_below HX0.out hb2)
    clear hv hb2 hp e hmay hb HX0 HBa HG6 HG7 HL6 HL7
    have hNr := (HN.out.1.bound).below HB2.out
    generalize hLs : l ++ sent f from_ (os.take i) = Ls at hNr HN
    have HSL : Hid (l ++ sent f from_ (os.take (i + 1)) = Ls ++ sent1 f from_ o) := Lib.hid (by rw [HS.out, ← List.append_assoc, hLs])
    have hLL : Ls.length + 13 ≤ 50000 := by
      rw [← hLs, List.length_append]
      have q1 := sent_len HF4.out from_ (os.take i)
      rw [List.length_take] at q1
      have := HLEN.out
      have := HII.out
      omega
    have HLL := Lib.hid hLL
    have HLS := Lib.hid hLs
    obtain ⟨okI, hokI⟩ : ∃ okI : Nat → Prop, okI = (fun k => (ok k ∨ w.heap.size ≤ k) ∧ B ≤ k ∧ k < wr.heap.size) := ⟨_, rfl⟩
    rw [← hokI] at hNr
    have HOKI : Hid (∀ k, okI k → (ok k ∨ w.heap.size ≤ k) ∧ k < gb) := Lib.hid (by rw [hokI, HGB.out]; exact fun k hk => ⟨hk.1, hk.2.2⟩)
    clear hokI hLL hLs
    obtain ⟨Ag, cg, hbg, hrg, hBg, hokg, _⟩ := hNr.open_
    have HB := Lib.hid hbg
    have HRI := Lib.hid hrg
    have HBG := Lib.hid hBg
    have HOKG := Lib.hid hokg
    have hgl := blk_lt hbg
    have yg : w2.cell? ⟨g, 0, none⟩ = some (.int .i64 f) := (blk_cell hbg 0).trans rfl
    clear hNr hbg hrg hBg hokg
    have hgbl := blk_lt HX.out
    have y0 : w2.cell? ⟨gb, 0, none⟩ = some (.int .i64 o.f0) := (blk_cell HX.out 0).trans rfl
    rw [errW_none]
    have hwi : wrap64 ((i : Int) + 1) = ((i + 1 : Nat) : Int) := by have := HLEN.out; have := HII.out; unfold wrap64; omega
    have hw3 : wrap64 (3 * f) = 3 * f := by have := HF1.out; have := HF4.out; unfold wrap64; omega
    have hw31 : wrap64 (3 * f + 1) = 3 * f + 1 := by have := HF1.out; have := HF4.out; unfold wrap64; omega
    by_cases q1 : o.f0 = -1
    · have t1 : (o.f0 == -1) = true := by simpa using q1
      have t2 : decide (100 ≤ o.f0) = false := by simp; omega
      go_wp2_with fail
      have HX2 := Lib.hid (heap_alloc_new w2 (.cells #[.int .i64 from_, .int .i64 (-1), .string b] 41))
      have HBb := Lib.hid ((Below.refl _ w2).alloc (Nat.le_refl _) (.cells #[.int .i64 from_, .int .i64 (-1), .string b] 41))
      have HCL : Hid (∀ W L', NetAt W B (fun k => okI k ∨ (w2.alloc (.cells #[.int .i64 from_, .int .i64 (-1), .string b] 41)).heap.size ≤ k) g f L' → Kept (w2.alloc (.cells #[.int .i64 from_, .int .i64 (-1), .string b] 41)) W (fun k => okI k ∨ k = w2.heap.size) → Below B (w2.alloc (.cells #[.int .i64 from_, .int .i64 (-1), .string b] 41)) W → NetTo w W B ok g f L') := Lib.hid (fun W L' h1 h2 h3 => net_close HBw.out HN.out HB2.out HBb.out (fun k hk => (HOKI.out k hk).1) h1 h2 h3)
      have HNb : Hid (NetAt (w2.alloc (.cells #[.int .i64 from_, .int .i64 (-1), .string b] 41)) B okI g f Ls) := Lib.hid (NetAt.below (⟨HBG.out, HOKG.out, by have := HLL.out; omega, _, HB.out, HRI.out⟩ : NetAt w2 B okI g f Ls) HBb.out)
      have hs2 : (w2.alloc (.cells #[.int .i64 from_, .int .i64 (-1), .string b] 41)).heap.size = w2.heap.size + 1 := by simp
      have HS2 := Lib.hid hs2
      have hBb2 := HBw.out
      have HBB : Hid (B ≤ w2.heap.size) := Lib.hid (Nat.le_trans hBb2 (Nat.le_trans HN.out.2.1.1 HB2.out.size))
      generalize w2.alloc (.cells #[.int .i64 from_, .int .i64 (-1), .string b] 41) = wb at HX2 HBb HCL HNb HS2 ⊢
      obtain ⟨gb2, hgb2⟩ : ∃ gb2, gb2 = w2.heap.size := ⟨_, rfl⟩
      rw [← hgb2] at HX2 HCL HS2 HBB ⊢
      have HGG : Hid (gb < gb2) := Lib.hid (by rw [hgb2]; exact hgbl)
      have HSS : Hid (∀ k, (okI k ∨ wb.heap.size ≤ k) → k ≠ gb2) := Lib.hid (fun k hk => by have h1 := HGG.out; have h2 := HS2.out; rcases hk with hk | hk; have := (HOKI.out k hk).2; omega; omega)
      have HSE : Hid (sent1 f from_ o = toAll from_ b (3 * f + 1).toNat) := Lib.hid (by unfold sent1; rw [HE.out]; simp only; rw [if_pos q1])
      clear hgb2 hs2 hBb2 hgbl hgl y0 yg HX HB HRI HBb HB2 hcv t1 t2 q1
      simp only [hw3, hw31]
      clear hw3 hw31
      go_loopg [51] (3 * f + 1).toNat (fun kq v51 w' => ∃ (j : Nat) (to' : Int), v51 = .int .i64 (j : Int) ∧ Hid (j + kq = (3 * f + 1).toNat) ∧ Hid (w'.heap[gb2]? = some (.cells #[.int .i64 from_, .int .i64 to', .string b] 41 (0, 0))) ∧ Hid (NetAt w' B (fun k => okI k ∨ wb.heap.size ≤ k) g f (Ls ++ toAll from_ b j)) ∧ Hid (Kept wb w' (fun k => okI k ∨ k = gb2)) ∧ Hid (Below B wb w'))
      case atStart => exact ⟨0, -1, rfl, Lib.hid (by omega), HX2, Lib.hid (by have := HNb.out.mono (ok' := fun k => okI k ∨ wb.heap.size ≤ k) (fun k hk => .inl hk); simpa [toAll] using this), Lib.hid (Kept.refl _ _), Lib.hid (Below.refl _ _)⟩
      case round =>
        obtain ⟨j, to', rfl, HJ, HXj, HNj, HKj, HBj⟩ := hrel
        by_cases hj : (j : Int) < 3 * f + 1
        rotate_left
        · have hd2 : decide ((j : Int) < 3 * f + 1) = false := by simpa using hj
          have e : j = (3 * f + 1).toNat := by have := HJ.out; omega
          have HN4 := Lib.hid (HCL.out _ _ HNj.out HKj.out HBj.out)
          rw [e, ← HSE.out, ← HSL.out] at HN4
          clear hj e
          go_wp2_with fail
          go_roundg k1
          case measure => omega
          case rel => exact ⟨i + 1, by rw [hwi], Lib.hid (by have := HI.out; omega), HN4⟩
        have hd2 : decide ((j : Int) < 3 * f + 1) = true := by simpa using hj
        cases gk with
        | zero => have := HJ.out; omega
        | succ k2 =>
        have e1 : wr.cell? ⟨gb2, 1, none⟩ = some (.int .i64 to') := (blk_cell HXj.out 1).trans rfl
        have e2 := blk_frozen HXj.out 1
        have hwj : wrap64 ((j : Int) + 1) = ((j + 1 : Nat) : Int) := by have := HF4.out; unfold wrap64; omega
        by_cases hq : (j : Int) = from_
        · have t3 : ((j : Int) != from_) = false := by simpa using hq
          have HQ := Lib.hid hq
          clear hq
          go_wp2_with fail
          go_roundg k2
          case measure => omega
          case rel =>
            refine ⟨j + 1, (j : Int), by first | (rw [hwj]; done) | (simp; done), Lib.hid (by have := HJ.out; omega), Lib.hid (by have := blk_set HXj.out 1 (.int .i64 (j : Int)); simpa using this), Lib.hid ?_, Lib.hid (Kept.setCell (p := ⟨gb2, 1, none⟩) HKj.out (.inl (.inr rfl)) _), Lib.hid (Below.setCell (p := ⟨gb2, 1, none⟩) HBj.out HBB.out _)⟩
            rw [toAll_succ, if_pos HQ.out, List.append_nil]
            exact HNj.out.kept (S := fun k => k = gb2) (Kept.setCell (p := ⟨gb2, 1, none⟩) (Kept.refl wr (fun k => k = gb2)) (.inl rfl) _) (fun k hk e => by have := HSS.out k hk; omega)
        · have t3 : ((j : Int) != from_) = true := by simpa using hq
          go_wp2_with fail
          obtain ⟨okJ, hokJ⟩ : ∃ okJ : Nat → Prop, okJ = (fun k => okI k ∨ wb.heap.size ≤ k) := ⟨_, rfl⟩
          have hNi := HNj.out.kept (S := fun k => k = gb2) (Kept.setCell (p := ⟨gb2, 1, none⟩) (Kept.refl wr (fun k => k = gb2)) (.inl rfl) (.int .i64 (j : Int))) (fun k hk e => by have := HSS.out k hk; omega)
          have hKi := Kept.setCell (p := ⟨gb2, 1, none⟩) HKj.out (.inl (.inr rfl)) (.int .i64 (j : Int))
          have hBi := Below.setCell (p := ⟨gb2, 1, none⟩) HBj.out HBB.out (.int .i64 (j : Int))
          have hXi : (wr.setCell ⟨gb2, 1, none⟩ (.int .i64 (j : Int))).heap[gb2]? = some (.cells #[.int .i64 from_, .int .i64 (j : Int), .string b] 41 (0, 0)) := by have := blk_set HXj.out 1 (.int .i64 (j : Int)); simpa using this
          generalize wr.setCell ⟨gb2, 1, none⟩ (.int .i64 (j : Int)) = wi at hNi hKi hBi hXi ⊢
          have HSJ : Hid (∀ k, okJ k → k ≠ gb2) := Lib.hid (by rw [hokJ]; exact fun k hk e => by have := HSS.out k hk; omega)
          rw [← hokJ] at hNi
          have HNi := Lib.hid hNi
          have HKi := Lib.hid hKi
          have HBi := Lib.hid hBi
          have HXi := Lib.hid hXi
          have hlc : (Ls ++ toAll from_ b j).length ≤ 49999 := by
            rw [List.length_append]
            have q1 := toAll_len from_ b j
            have := HLL.out
            have := HF4.out
            omega
          have HAP : Hid (toAll from_ b (j + 1) = toAll from_ b j ++ [⟨from_, (j : Int), b⟩]) := Lib.hid (by rw [toAll_succ, if_neg hq])
          have HASS : Hid (Ls ++ toAll from_ b (j + 1) = (Ls ++ toAll from_ b j) ++ [⟨from_, (j : Int), b⟩]) := Lib.hid (by rw [HAP.out, List.append_assoc])
          obtain ⟨Lc, hLc⟩ : ∃ Lc, Lc = Ls ++ toAll from_ b j := ⟨_, rfl⟩
          rw [← hLc] at hNi HNi hlc HASS
          obtain ⟨Ac, c, hbg, hrg, hBg, hokg, _⟩ := hNi.open_
          have HB := Lib.hid hbg
          have HR := Lib.hid (Kd.R_mono (ok' := fun k => (okJ k ∨ wi.heap.size ≤ k) ∧ k ≠ g) hrg (fun k hk => ⟨.inl hk.1, hk.2⟩))
          have HRo := Lib.hid hrg.1
          have HBG := Lib.hid hBg
          have HOKG := Lib.hid hokg
          have hgl := blk_lt hbg
          have HE0 : Hid (wi.cell? ⟨gb2, 0, none⟩ = some (.int .i64 from_)) := Lib.hid ((blk_cell hXi 0).trans rfl)
          have HE1 : Hid (wi.cell? ⟨gb2, 1, none⟩ = some (.int .i64 (j : Int))) := Lib.hid ((blk_cell hXi 1).trans rfl)
          have HE2 : Hid (wi.cell? ⟨gb2, 2, none⟩ = some (.string b)) := Lib.hid ((blk_cell hXi 2).trans rfl)
          have HEL : Hid (gb2 < wi.heap.size) := Lib.hid (blk_lt hXi)
          have HBW : Hid (B ≤ wi.heap.size) := Lib.hid (by have := HBB.out; have := HEL.out; omega)
          have HFR : Hid (∀ k, wi.drew.heap.size ≤ k → (okJ k ∨ wi.heap.size ≤ k) ∧ k ≠ g) := Lib.hid (fun k hk => ⟨.inr hk, by have : wi.heap.size ≤ k := hk; omega⟩)
          have HLEN3 : Hid ((Lc.length + 1) * 32 ≤ 140737488355328) := Lib.hid (by omega)
          have HNG : Hid (some g ≠ (Value.slice Ac Lc.length c).ownBlock) := Lib.hid (fun e => (hrg.1 g e.symm).2 rfl)
          have HLC := Lib.hid hlc
          have HXI := Lib.hid hokJ
          clear hNi hbg hrg hBg hokg hXi hKi hBi hlc hLc hokJ hq t3 e1 e2 HXj HKj HBj HNj
          refine start_ (n := 11) (S := fun w' => w'.cell? ⟨g, 1, none⟩ = some (.slice Ac Lc.length c) ∧ w'.cell? ⟨gb2, 0, none⟩ = some (.int .i64 from_) ∧ w'.cell? ⟨gb2, 1, none⟩ = some (.int .i64 (j : Int)) ∧ w'.cell? ⟨gb2, 2, none⟩ = some (.string b)) (ds := [7, 10]) #[false, false, false, false, false, false, false, false, false, false, false] (by kernel_rfl) rfl rfl ⟨((blk_cell (blk_drew HB.out) 1).trans rfl), HE0.out, HE1.out, HE2.out⟩ (fun hHeld => ?_)
          refine pure_ (i := 0) (N := some 59) (v := ?_) (a' := ?_) #[true, false, false, false, false, false, false, false, false, false, false] rfl rfl (by kernel_rfl) (fun _ _ _ h => h) (Or.inl ⟨by rfl, ?_⟩) ?_ ?_
          rotate_left
          · intro w'
            go_simp
            with_reducible rfl
          rotate_left
          · simp only [Act.put, List.setIfInBounds_toArray, List.set_cons_zero, List.set_cons_succ, i64_w, i32_w]
            rfl
          refine pure_ (i := 1) (N := some 60) (v := ?_) (a' := ?_) #[true, true, false, false, false, false, false, false, false, false, false] rfl rfl (by kernel_rfl) (fun _ _ _ h => h) (Or.inl ⟨by rfl, ?_⟩) ?_ ?_
          rotate_left
          · intro w'
            go_simp
            with_reducible rfl
          rotate_left
          · simp only [Act.put, List.setIfInBounds_toArray, List.set_cons_zero, List.set_cons_succ, i64_w, i32_w]
            rfl
          refine pure_ (i := 2) (N := some 61) (v := ?_) (a' := ?_) #[true, true, true, false, false, false, false, false, false, false, false] rfl rfl (by kernel_rfl) (fun _ _ _ h => h) (Or.inl ⟨by rfl, ?_⟩) ?_ ?_
          rotate_left
          · intro w'
            go_simp
            with_reducible rfl
          rotate_left
          · simp only [Act.put, List.setIfInBounds_toArray, List.set_cons_zero, List.set_cons_succ, i64_w, i32_w]
            rfl
          refine pure_ (i := 3) (N := some 62) (v := ?_) (a' := ?_) #[true, true, true, true, false, false, false, false, false, false, false] rfl rfl (by kernel_rfl) (fun _ _ _ h => h) (Or.inl ⟨by rfl, ?_⟩) ?_ ?_
          rotate_left
          · intro w'
            go_simp
            with_reducible rfl
          rotate_left
          · simp only [Act.put, List.setIfInBounds_toArray, List.set_cons_zero, List.set_cons_succ, i64_w, i32_w]
            rfl
          refine take_ (i := 4) (N := some 63) (v := ?_) (a' := ?_) #[true, true, true, true, true, false, false, false, false, false, false] rfl rfl (by kernel_rfl) (fun _ _ _ h => h) (Or.inl ⟨by rfl, ?_⟩) hHeld ?_ ?_
          rotate_left
          · rintro w' ⟨s0, s1, s2, s3⟩
            go_simp
            with_reducible rfl
          rotate_left
          · simp only [Act.put, List.setIfInBounds_toArray, List.set_cons_zero, List.set_cons_succ, i64_w, i32_w]
            rfl
          refine take_ (i := 5) (N := some 64) (v := ?_) (a' := ?_) #[true, true, true, true, true, true, false, false, false, false, false] rfl rfl (by kernel_rfl) (fun _ _ _ h => h) (Or.inl ⟨by rfl, ?_⟩) hHeld ?_ ?_
          rotate_left
          · rintro w' ⟨s0, s1, s2, s3⟩
            go_simp
            with_reducible rfl
          rotate_left
          · simp only [Act.put, List.setIfInBounds_toArray, List.set_cons_zero, List.set_cons_succ, i64_w, i32_w]
            rfl
          refine one_ (i := 6) (N := some 65) #[true, true, true, true, true, true, true, false, false, false, false] rfl rfl (by kernel_rfl) (by decide) (fun K hK => ?_)
          refine value_ (w1 := ?_) (v := ?_) (by rfl) rfl ?_ ?_
          rotate_left 2
          · go_simp
            constructor
            · rfl
            · rfl
          refine hK.out _ _ ⟨((blk_cell (blk_below HB.out (((Below.refl _ wi).alloc (Nat.le_refl _) _).drew)) 1).trans rfl), ((((Below.refl _ wi).alloc (Nat.le_refl _) _).drew).cell (p := ⟨gb2, 0, none⟩) HEL.out |>.trans HE0.out), ((((Below.refl _ wi).alloc (Nat.le_refl _) _).drew).cell (p := ⟨gb2, 1, none⟩) HEL.out |>.trans HE1.out), ((((Below.refl _ wi).alloc (Nat.le_refl _) _).drew).cell (p := ⟨gb2, 2, none⟩) HEL.out |>.trans HE2.out)⟩ (fun hHeld => ?_)
          clear hK K
          refine norm_ (a' := ?_) ?_ ?_
          rotate_left
          · show Act.put _ (some 65) _ = _
            simp only [Act.put, List.setIfInBounds_toArray, List.set_cons_zero, List.set_cons_succ, i64_w, i32_w]
            rfl
          refine last_ (i := 7) (N := some 66) #[true, true, true, true, true, true, true, true, false, false, false] rfl rfl (by kernel_rfl) (by decide) (fun K hK => ?_)
          refine Kd.R_append_step k41 (w0 := wi) (W := wi.drew) B (by rfl) (.tmp 63) (.tmp 65) 38 41 (.agg #[.int .i64 0, .int .i64 0, .string ⟨#[]⟩]) 32 (by rfl) Try.underlying38 info41 rfl (by decide) (by omega) (.slice Ac Lc.length c) Lc (⟨from_, (j : Int), b⟩ : S41) [.int .i64 from_, .int .i64 (j : Int), .string b] (fun k => (okJ k ∨ wi.heap.size ≤ k) ∧ k ≠ g) (fun _ => False) (by rfl) (by rfl) (k41_mkM _ _ _ _) (fun _ h => h.elim) HFR.out (Kd.R_drew HR.out) ((Below.refl _ _).drew) HBW.out HLEN3.out ?_
          intro v1 w3 hown hbel hgr hat
          obtain ⟨A1, c1, rfl⟩ := Kd.R_slice hown
          have hb3 := blk_grown (blk_drew HB.out) hgr HNG.out
          have k3 : w3.cell? ⟨g, 1, none⟩ = some (.slice Ac Lc.length c) := (blk_cell hb3 1).trans rfl
          have f3 := blk_frozen hb3 1
          have HO3 := Lib.hid hown
          have HB3 := Lib.hid hb3
          have HBel3 := Lib.hid hbel
          have HG3 := Lib.hid hgr
          clear hown hb3 hbel hgr hat
          refine hK.out _ _ ?_
          clear hK K
          refine norm_ (a' := ?_) ?_ ?_
          rotate_left
          · show Act.put _ (some 66) _ = _
            simp only [Act.put, List.setIfInBounds_toArray, List.set_cons_zero, List.set_cons_succ, i64_w, i32_w]
            rfl
          refine pure_ (i := 8) (N := some 67) (v := ?_) (a' := ?_) #[true, true, true, true, true, true, true, true, true, false, false] rfl rfl (by kernel_rfl) (fun _ _ _ h => h) (Or.inl ⟨by rfl, ?_⟩) ?_ ?_
          rotate_left
          · intro w'
            go_simp
            with_reducible rfl
          rotate_left
          · simp only [Act.put, List.setIfInBounds_toArray, List.set_cons_zero, List.set_cons_succ, i64_w, i32_w]
            rfl
          refine pure_ (i := 9) (N := some 68) (v := ?_) (a' := ?_) #[true, true, true, true, true, true, true, true, true, true, false] rfl rfl (by kernel_rfl) (fun _ _ _ h => h) (Or.inl ⟨by rfl, ?_⟩) ?_ ?_
          rotate_left
          · intro w'
            go_simp
            with_reducible rfl
          rotate_left
          · simp only [Act.put, List.setIfInBounds_toArray, List.set_cons_zero, List.set_cons_succ, i64_w, i32_w]
            rfl
          refine last_ (i := 10) (N := none) #[true, true, true, true, true, true, true, true, true, true, true] rfl rfl (by kernel_rfl) (by decide) (fun K hK => ?_)
          refine skip_ (w1 := ?_) (by rfl) rfl ?_ ?_
          rotate_left
          · go_simp
            rfl
          refine hK.out _ _ ?_
          clear hK K
          refine done_ (by kernel_rfl) ?_
          go_wp2_with fail
          have hST := fun m (hm : m = (Lc ++ [(⟨from_, (j : Int), b⟩ : S41)]).length) => net_stored (w := wi) (ok := okJ) HBG.out HOKG.out (by rw [List.length_append]; have := HLC.out; simp; omega) HB3.out HO3.out hm (Kept.of_grown HG3.out (Kept.refl wi okJ : Kept wi wi.drew okJ) (fun k hk => .inl (HRo.out k hk).1)) HBel3.out
          have HST := Lib.hid (hST (Lc.length + 1) (by simp))
          clear hST
          go_roundg k2
          case measure => omega
          case rel =>
            refine ⟨j + 1, (j : Int), by first | (rw [hwj]; done) | (simp; done), Lib.hid (by have := HJ.out; omega), Lib.hid (blk_kept HXi.out HST.out.2.1 (fun hk => HSJ.out gb2 hk rfl)), Lib.hid ?_, Lib.hid (HKi.out.then_ HST.out.2.1 (fun k hk => ?_)), Lib.hid (HBi.out.trans HST.out.2.2)⟩
            · rw [HASS.out]
              refine HST.out.1.mono (fun k hk => ?_)
              rcases hk with hk | hk
              · have := hk; rw [HXI.out] at this; exact this
              · have h1 := HKi.out.1; exact .inr (by omega)
            · have := hk; rw [HXI.out] at this
              rcases this with hk | hk
              · exact .inl (.inl hk)
              · exact .inr hk
    have HQ1 := Lib.hid q1
    have t1 : (o.f0 == -1) = false := by simpa using q1
    clear q1
    by_cases q2 : 100 ≤ o.f0 ∧ o.f0 < 108
    · have t2 : decide (100 ≤ o.f0) = true := by simpa using q2.1
      have t4 : decide (o.f0 < 108) = true := by simpa using q2.2
      have HQ2 : Hid ((100 ≤ o.f0 ∧ o.f0 < 108) ∨ (0 ≤ o.f0 ∧ o.f0 ≤ 3 * f)) := Lib.hid (.inl q2)
      clear q2
      go_wp2_with fail
      have hBb : Below w2.heap.size w2 (w2.alloc (.cells #[.int .i64 from_, .int .i64 o.f0, .string b] 41)) := ((Below.refl _ w2).alloc (Nat.le_refl _) (.cells #[.int .i64 from_, .int .i64 o.f0, .string b] 41))
      have hX2 : (w2.alloc (.cells #[.int .i64 from_, .int .i64 o.f0, .string b] 41)).heap[w2.heap.size]? = some (.cells #[.int .i64 from_, .int .i64 o.f0, .string b] 41 (0, 0)) := heap_alloc_new w2 (.cells #[.int .i64 from_, .int .i64 o.f0, .string b] 41)
      have hs2 : (w2.alloc (.cells #[.int .i64 from_, .int .i64 o.f0, .string b] 41)).heap.size = w2.heap.size + 1 := by simp
      generalize (w2.alloc (.cells #[.int .i64 from_, .int .i64 o.f0, .string b] 41)) = wb at hBb hX2 hs2 ⊢
      have hNb : NetAt wb B okI g f Ls := NetAt.below (⟨HBG.out, HOKG.out, by have := HLL.out; omega, _, HB.out, HRI.out⟩ : NetAt w2 B okI g f Ls) hBb
      have HCL : Hid (∀ W L', NetAt W B (fun k => okI k ∨ wb.heap.size ≤ k) g f L' → Kept wb W (fun k => okI k ∨ k = w2.heap.size) → Below B wb W → NetTo w W B ok g f L') := Lib.hid (fun W L' h1 h2 h3 => net_close HBw.out HN.out HB2.out hBb (fun k hk => (HOKI.out k hk).1) h1 h2 h3)
      have HBW : Hid (B ≤ wb.heap.size) := Lib.hid (Nat.le_trans (Nat.le_trans HBw.out (Nat.le_trans HN.out.2.1.1 HB2.out.size)) hBb.size)
      have HST0 := Lib.hid (net_still HN.out HBw.out (HB2.out.trans (hBb.mono HB2.out.size)))
      have HXb := Lib.hid (blk_below HX.out hBb)
      replace HX := HXb
      have hB9 := blk_below HB.out hBb
      replace HB := Lib.hid hB9
      clear HXb hB9
      clear y0 yg hgl hgbl hcv
      obtain ⟨gb2, hgb2⟩ : ∃ gb2, gb2 = w2.heap.size := ⟨_, rfl⟩
      rw [← hgb2] at hX2 HCL hs2 ⊢
      have HR := Lib.hid (Kd.R_mono (ok' := fun k => (okI k ∨ wb.heap.size ≤ k) ∧ k ≠ g) (Kd.R_below HRI.out hBb) (fun k hk => ⟨.inl hk.1, hk.2⟩))
      have HRo := Lib.hid HRI.out.1
      have hgw := blk_lt HB.out
      have HE0 : Hid (wb.cell? ⟨gb2, 0, none⟩ = some (.int .i64 from_)) := Lib.hid ((blk_cell hX2 0).trans rfl)
      have HE1 : Hid (wb.cell? ⟨gb2, 1, none⟩ = some (.int .i64 o.f0)) := Lib.hid ((blk_cell hX2 1).trans rfl)
      have HE2 : Hid (wb.cell? ⟨gb2, 2, none⟩ = some (.string b)) := Lib.hid ((blk_cell hX2 2).trans rfl)
      have HEL : Hid (gb2 < wb.heap.size) := Lib.hid (blk_lt hX2)
      have HFR : Hid (∀ k, wb.drew.heap.size ≤ k → (okI k ∨ wb.heap.size ≤ k) ∧ k ≠ g) := Lib.hid (fun k hk => ⟨.inr hk, by have : wb.heap.size ≤ k := hk; omega⟩)
      have HLEN3 : Hid ((Ls.length + 1) * 32 ≤ 140737488355328) := Lib.hid (by have := HLL.out; omega)
      have HNG : Hid (some g ≠ (Value.slice Ag Ls.length cg).ownBlock) := Lib.hid (fun e => (HRI.out.1 g e.symm).2 rfl)
      have HSL1 : Hid (l ++ sent f from_ (os.take (i + 1)) = Ls ++ [⟨from_, o.f0, b⟩]) := Lib.hid (by rw [HSL.out]; congr 1; unfold sent1; rw [HE.out]; simp only; rw [if_neg HQ1.out, if_pos HQ2.out])
      clear hBb hNb hX2 hs2 hgb2
      refine start_ (n := 11) (S := fun w' => w'.cell? ⟨g, 1, none⟩ = some (.slice Ag Ls.length cg) ∧ w'.cell? ⟨gb2, 0, none⟩ = some (.int .i64 from_) ∧ w'.cell? ⟨gb2, 1, none⟩ = some (.int .i64 o.f0) ∧ w'.cell? ⟨gb2, 2, none⟩ = some (.string b)) (ds := [7, 10]) #[false, false, false, false, false, false, false, false, false, false, false] (by kernel_rfl) rfl rfl ⟨((blk_cell (blk_drew HB.out) 1).trans rfl), HE0.out, HE1.out, HE2.out⟩ (fun hHeld => ?_)
      refine pure_ (i := 0) (N := some 85) (v := ?_) (a' := ?_) #[true, false, false, false, false, false, false, false, false, false, false] rfl rfl (by kernel_rfl) (fun _ _ _ h => h) (Or.inl ⟨by rfl, ?_⟩) ?_ ?_
      rotate_left
      · intro w'
        go_simp
        with_reducible rfl
      rotate_left
      · simp only [Act.put, List.setIfInBounds_toArray, List.set_cons_zero, List.set_cons_succ, i64_w, i32_w]
        rfl
      refine pure_ (i := 1) (N := some 86) (v := ?_) (a' := ?_) #[true, true, false, false, false, false, false, false, false, false, false] rfl rfl (by kernel_rfl) (fun _ _ _ h => h) (Or.inl ⟨by rfl, ?_⟩) ?_ ?_
      rotate_left
      · intro w'
        go_simp
        with_reducible rfl
      rotate_left
      · simp only [Act.put, List.setIfInBounds_toArray, List.set_cons_zero, List.set_cons_succ, i64_w, i32_w]
        rfl
      refine pure_ (i := 2) (N := some 87) (v := ?_) (a' := ?_) #[true, true, true, false, false, false, false, false, false, false, false] rfl rfl (by kernel_rfl) (fun _ _ _ h => h) (Or.inl ⟨by rfl, ?_⟩) ?_ ?_
      rotate_left
      · intro w'
        go_simp
        with_reducible rfl
      rotate_left
      · simp only [Act.put, List.setIfInBounds_toArray, List.set_cons_zero, List.set_cons_succ, i64_w, i32_w]
        rfl
      refine pure_ (i := 3) (N := some 88) (v := ?_) (a' := ?_) #[true, true, true, true, false, false, false, false, false, false, false] rfl rfl (by kernel_rfl) (fun _ _ _ h => h) (Or.inl ⟨by rfl, ?_⟩) ?_ ?_
      rotate_left
      · intro w'
        go_simp
        with_reducible rfl
      rotate_left
      · simp only [Act.put, List.setIfInBounds_toArray, List.set_cons_zero, List.set_cons_succ, i64_w, i32_w]
        rfl
      refine take_ (i := 4) (N := some 89) (v := ?_) (a' := ?_) #[true, true, true, true, true, false, false, false, false, false, false] rfl rfl (by kernel_rfl) (fun _ _ _ h => h) (Or.inl ⟨by rfl, ?_⟩) hHeld ?_ ?_
      rotate_left
      · rintro w' ⟨s0, s1, s2, s3⟩
        go_simp
        with_reducible rfl
      rotate_left
      · simp only [Act.put, List.setIfInBounds_toArray, List.set_cons_zero, List.set_cons_succ, i64_w, i32_w]
        rfl
      refine take_ (i := 5) (N := some 90) (v := ?_) (a' := ?_) #[true, true, true, true, true, true, false, false, false, false, false] rfl rfl (by kernel_rfl) (fun _ _ _ h => h) (Or.inl ⟨by rfl, ?_⟩) hHeld ?_ ?_
      rotate_left
      · rintro w' ⟨s0, s1, s2, s3⟩
        go_simp
        with_reducible rfl
      rotate_left
      · simp only [Act.put, List.setIfInBounds_toArray, List.set_cons_zero, List.set_cons_succ, i64_w, i32_w]
        rfl
      refine one_ (i := 6) (N := some 91) #[true, true, true, true, true, true, true, false, false, false, false] rfl rfl (by kernel_rfl) (by decide) (fun K hK => ?_)
      refine value_ (w1 := ?_) (v := ?_) (by rfl) rfl ?_ ?_
      rotate_left 2
      · go_simp
        constructor
        · rfl
        · rfl
      refine hK.out _ _ ⟨((blk_cell (blk_below HB.out (((Below.refl _ wb).alloc (Nat.le_refl _) _).drew)) 1).trans rfl), ((((Below.refl _ wb).alloc (Nat.le_refl _) _).drew).cell (p := ⟨gb2, 0, none⟩) HEL.out |>.trans HE0.out), ((((Below.refl _ wb).alloc (Nat.le_refl _) _).drew).cell (p := ⟨gb2, 1, none⟩) HEL.out |>.trans HE1.out), ((((Below.refl _ wb).alloc (Nat.le_refl _) _).drew).cell (p := ⟨gb2, 2, none⟩) HEL.out |>.trans HE2.out)⟩ (fun hHeld => ?_)
      clear hK K
      refine norm_ (a' := ?_) ?_ ?_
      rotate_left
      · show Act.put _ (some 91) _ = _
        simp only [Act.put, List.setIfInBounds_toArray, List.set_cons_zero, List.set_cons_succ, i64_w, i32_w]
        rfl
      refine last_ (i := 7) (N := some 92) #[true, true, true, true, true, true, true, true, false, false, false] rfl rfl (by kernel_rfl) (by decide) (fun K hK => ?_)
      refine Kd.R_append_step k41 (w0 := wb) (W := wb.drew) B (by rfl) (.tmp 89) (.tmp 91) 38 41 (.agg #[.int .i64 0, .int .i64 0, .string ⟨#[]⟩]) 32 (by rfl) Try.underlying38 info41 rfl (by decide) (by omega) (.slice Ag Ls.length cg) Ls (⟨from_, o.f0, b⟩ : S41) [.int .i64 from_, .int .i64 o.f0, .string b] (fun k => (okI k ∨ wb.heap.size ≤ k) ∧ k ≠ g) (fun _ => False) (by rfl) (by rfl) (k41_mkM _ _ _ _) (fun _ h => h.elim) HFR.out (Kd.R_drew HR.out) ((Below.refl _ _).drew) HBW.out HLEN3.out ?_
      intro v1 w3 hown hbel hgr hat
      obtain ⟨A1, c1, rfl⟩ := Kd.R_slice hown
      have hb3 := blk_grown (blk_drew HB.out) hgr HNG.out
      have k3 : w3.cell? ⟨g, 1, none⟩ = some (.slice Ag Ls.length cg) := (blk_cell hb3 1).trans rfl
      have f3 := blk_frozen hb3 1
      have HO3 := Lib.hid hown
      have HB3 := Lib.hid hb3
      have HBel3 := Lib.hid hbel
      have HG3 := Lib.hid hgr
      clear hown hb3 hbel hgr hat
      refine hK.out _ _ ?_
      clear hK K
      refine norm_ (a' := ?_) ?_ ?_
      rotate_left
      · show Act.put _ (some 92) _ = _
        simp only [Act.put, List.setIfInBounds_toArray, List.set_cons_zero, List.set_cons_succ, i64_w, i32_w]
        rfl
      refine pure_ (i := 8) (N := some 93) (v := ?_) (a' := ?_) #[true, true, true, true, true, true, true, true, true, false, false] rfl rfl (by kernel_rfl) (fun _ _ _ h => h) (Or.inl ⟨by rfl, ?_⟩) ?_ ?_
      rotate_left
      · intro w'
        go_simp
        with_reducible rfl
      rotate_left
      · simp only [Act.put, List.setIfInBounds_toArray, List.set_cons_zero, List.set_cons_succ, i64_w, i32_w]
        rfl
      refine pure_ (i := 9) (N := some 94) (v := ?_) (a' := ?_) #[true, true, true, true, true, true, true, true, true, true, false] rfl rfl (by kernel_rfl) (fun _ _ _ h => h) (Or.inl ⟨by rfl, ?_⟩) ?_ ?_
      rotate_left
      · intro w'
        go_simp
        with_reducible rfl
      rotate_left
      · simp only [Act.put, List.setIfInBounds_toArray, List.set_cons_zero, List.set_cons_succ, i64_w, i32_w]
        rfl
      refine last_ (i := 10) (N := none) #[true, true, true, true, true, true, true, true, true, true, true] rfl rfl (by kernel_rfl) (by decide) (fun K hK => ?_)
      refine skip_ (w1 := ?_) (by rfl) rfl ?_ ?_
      rotate_left
      · go_simp
        rfl
      refine hK.out _ _ ?_
      clear hK K
      refine done_ (by kernel_rfl) ?_
      go_wp2_with fail
      have hST := fun m (hm : m = (Ls ++ [(⟨from_, o.f0, b⟩ : S41)]).length) => net_stored (w := wb) (ok := okI) HBG.out HOKG.out (by rw [List.length_append]; have := HLL.out; simp; omega) HB3.out HO3.out hm (Kept.of_grown HG3.out (Kept.refl wb okI : Kept wb wb.drew okI) (fun k hk => .inl (HRo.out k hk).1)) HBel3.out
      have HST := Lib.hid (hST (Ls.length + 1) (by simp))
      clear hST
      have HN4 := Lib.hid (HCL.out _ _ HST.out.1 (HST.out.2.1.mono (fun k hk => .inl hk)) HST.out.2.2)
      rw [← HSL1.out] at HN4
      go_roundg k1
      case measure => omega
      case rel => exact ⟨i + 1, by first | (rw [hwi]; done) | (simp; done), Lib.hid (by have := HI.out; omega), HN4⟩
    have t5 : decide (100 ≤ o.f0) = false ∨ (decide (100 ≤ o.f0) = true ∧ decide (o.f0 < 108) = false) := by
      by_cases h : 100 ≤ o.f0
      · exact .inr ⟨by simpa using h, by simp; omega⟩
      · exact .inl (by simpa using h)
    by_cases q3 : 0 ≤ o.f0 ∧ o.f0 ≤ 3 * f
    · have t2 : decide (100 ≤ o.f0) = false := by have := HF4.out; simp; omega
      have t6 : decide (0 ≤ o.f0) = true := by simpa using q3.1
      have t7 : decide (o.f0 ≤ 3 * f) = true := by simpa using q3.2
      have HQ2 : Hid ((100 ≤ o.f0 ∧ o.f0 < 108) ∨ (0 ≤ o.f0 ∧ o.f0 ≤ 3 * f)) := Lib.hid (.inr q3)
      clear q3 q2 t5
      go_wp2_with fail
      have hBb : Below w2.heap.size w2 (w2.alloc (.cells #[.int .i64 from_, .int .i64 o.f0, .string b] 41)) := ((Below.refl _ w2).alloc (Nat.le_refl _) (.cells #[.int .i64 from_, .int .i64 o.f0, .string b] 41))
      have hX2 : (w2.alloc (.cells #[.int .i64 from_, .int .i64 o.f0, .string b] 41)).heap[w2.heap.size]? = some (.cells #[.int .i64 from_, .int .i64 o.f0, .string b] 41 (0, 0)) := heap_alloc_new w2 (.cells #[.int .i64 from_, .int .i64 o.f0, .string b] 41)
      have hs2 : (w2.alloc (.cells #[.int .i64 from_, .int .i64 o.f0, .string b] 41)).heap.size = w2.heap.size + 1 := by simp
      generalize (w2.alloc (.cells #[.int .i64 from_, .int .i64 o.f0, .string b] 41)) = wb at hBb hX2 hs2 ⊢
      have hNb : NetAt wb B okI g f Ls := NetAt.below (⟨HBG.out, HOKG.out, by have := HLL.out; omega, _, HB.out, HRI.out⟩ : NetAt w2 B okI g f Ls) hBb
      have HCL : Hid (∀ W L', NetAt W B (fun k => okI k ∨ wb.heap.size ≤ k) g f L' → Kept wb W (fun k => okI k ∨ k = w2.heap.size) → Below B wb W → NetTo w W B ok g f L') := Lib.hid (fun W L' h1 h2 h3 => net_close HBw.out HN.out HB2.out hBb (fun k hk => (HOKI.out k hk).1) h1 h2 h3)
      have HBW : Hid (B ≤ wb.heap.size) := Lib.hid (Nat.le_trans (Nat.le_trans HBw.out (Nat.le_trans HN.out.2.1.1 HB2.out.size)) hBb.size)
      have HST0 := Lib.hid (net_still HN.out HBw.out (HB2.out.trans (hBb.mono HB2.out.size)))
      have HXb := Lib.hid (blk_below HX.out hBb)
      replace HX := HXb
      have hB9 := blk_below HB.out hBb
      replace HB := Lib.hid hB9
      clear HXb hB9
      clear y0 yg hgl hgbl hcv
      refine start_ (n := 14) (S := fun w' => w'.cell? ⟨gb, 0, none⟩ = some (.int .i64 o.f0) ∧ w'.cell? ⟨g, 0, none⟩ = some (.int .i64 f)) (ds := []) #[false, false, false, false, false, false, false, false, false, false, false, false, false, false] (by kernel_rfl) rfl rfl ⟨((blk_cell (blk_drew HX.out) 0).trans rfl), ((blk_cell (blk_drew HB.out) 0).trans rfl)⟩ (fun hHeld => ?_)
      refine pure_ (i := 0) (N := some 72) (v := ?_) (a' := ?_) #[true, false, false, false, false, false, false, false, false, false, false, false, false, false] rfl rfl (by kernel_rfl) (fun _ _ _ h => h) (Or.inl ⟨by rfl, ?_⟩) ?_ ?_
      rotate_left
      · intro w'
        go_simp
        with_reducible rfl
      rotate_left
      · simp only [Act.put, List.setIfInBounds_toArray, List.set_cons_zero, List.set_cons_succ, i64_w, i32_w]
        rfl
      refine take_ (i := 1) (N := some 73) (v := ?_) (a' := ?_) #[true, true, false, false, false, false, false, false, false, false, false, false, false, false] rfl rfl (by kernel_rfl) (fun _ _ _ h => h) (Or.inl ⟨by rfl, ?_⟩) hHeld ?_ ?_
      rotate_left
      · rintro w' ⟨s0, s1⟩
        go_simp
        with_reducible rfl
      rotate_left
      · simp only [Act.put, List.setIfInBounds_toArray, List.set_cons_zero, List.set_cons_succ, i64_w, i32_w]
        rfl
      refine pure_ (i := 2) (N := some 74) (v := ?_) (a' := ?_) #[true, true, true, false, false, false, false, false, false, false, false, false, false, false] rfl rfl (by kernel_rfl) (fun _ _ _ h => h) (Or.inl ⟨by rfl, ?_⟩) ?_ ?_
      rotate_left
      · intro w'
        go_simp
        with_reducible rfl
      rotate_left
      · simp only [Act.put, List.setIfInBounds_toArray, List.set_cons_zero, List.set_cons_succ, i64_w, i32_w]
        rfl
      refine pure_ (i := 3) (N := some 75) (v := ?_) (a' := ?_) #[true, true, true, true, false, false, false, false, false, false, false, false, false, false] rfl rfl (by kernel_rfl) (fun _ _ _ h => h) (Or.inl ⟨by rfl, ?_⟩) ?_ ?_
      rotate_left
      · intro w'
        go_simp
        with_reducible rfl
      rotate_left
      · simp only [Act.put, List.setIfInBounds_toArray, List.set_cons_zero, List.set_cons_succ, i64_w, i32_w]
        rfl
      refine pure_ (i := 4) (N := some 76) (v := ?_) (a' := ?_) #[true, true, true, true, true, false, false, false, false, false, false, false, false, false] rfl rfl (by kernel_rfl) (fun _ _ _ h => h) (Or.inl ⟨by rfl, ?_⟩) ?_ ?_
      rotate_left
      · intro w'
        go_simp
        with_reducible rfl
      rotate_left
      · simp only [Act.put, List.setIfInBounds_toArray, List.set_cons_zero, List.set_cons_succ, i64_w, i32_w]
        rfl
      refine pure_ (i := 6) (N := some 78) (v := ?_) (a' := ?_) #[true, true, true, true, true, false, true, false, false, false, false, false, false, false] rfl rfl (by kernel_rfl) (fun _ _ _ h => h) (Or.inl ⟨by rfl, ?_⟩) ?_ ?_
      rotate_left
      · intro w'
        go_simp
        with_reducible rfl
      rotate_left
      · simp only [Act.put, List.setIfInBounds_toArray, List.set_cons_zero, List.set_cons_succ, i64_w, i32_w]
        rfl
      refine pure_ (i := 7) (N := some 79) (v := ?_) (a' := ?_) #[true, true, true, true, true, false, true, true, false, false, false, false, false, false] rfl rfl (by kernel_rfl) (fun _ _ _ h => h) (Or.inl ⟨by rfl, ?_⟩) ?_ ?_
      rotate_left
      · intro w'
        go_simp
        with_reducible rfl
      rotate_left
      · simp only [Act.put, List.setIfInBounds_toArray, List.set_cons_zero, List.set_cons_succ, i64_w, i32_w]
        rfl
      refine pure_ (i := 8) (N := some 80) (v := ?_) (a' := ?_) #[true, true, true, true, true, false, true, true, true, false, false, false, false, false] rfl rfl (by kernel_rfl) (fun _ _ _ h => h) (Or.inl ⟨by rfl, ?_⟩) ?_ ?_
      rotate_left
      · intro w'
        go_simp
        with_reducible rfl
      rotate_left
      · simp only [Act.put, List.setIfInBounds_toArray, List.set_cons_zero, List.set_cons_succ, i64_w, i32_w]
        rfl
      refine take_ (i := 5) (N := some 77) (v := ?_) (a' := ?_) #[true, true, true, true, true, true, true, true, true, false, false, false, false, false] rfl rfl (by kernel_rfl) (fun _ _ _ h => h) (Or.inl ⟨by rfl, ?_⟩) hHeld ?_ ?_
      rotate_left
      · rintro w' ⟨s0, s1⟩
        go_simp
        with_reducible rfl
      rotate_left
      · simp only [Act.put, List.setIfInBounds_toArray, List.set_cons_zero, List.set_cons_succ, i64_w, i32_w]
        rfl
      refine take_ (i := 9) (N := some 81) (v := ?_) (a' := ?_) #[true, true, true, true, true, true, true, true, true, true, false, false, false, false] rfl rfl (by kernel_rfl) (fun _ _ _ h => h) (Or.inl ⟨by rfl, ?_⟩) hHeld ?_ ?_
      rotate_left
      · rintro w' ⟨s0, s1⟩
        go_simp
        with_reducible rfl
      rotate_left
      · simp only [Act.put, List.setIfInBounds_toArray, List.set_cons_zero, List.set_cons_succ, i64_w, i32_w]
        rfl
      refine pure_ (i := 10) (N := some 82) (v := ?_) (a' := ?_) #[true, true, true, true, true, true, true, true, true, true, true, false, false, false] rfl rfl (by kernel_rfl) (fun _ _ _ h => h) (Or.inl ⟨by rfl, ?_⟩) ?_ ?_
      rotate_left
      · intro w'
        go_simp
        with_reducible rfl
      rotate_left
      · simp only [Act.put, List.setIfInBounds_toArray, List.set_cons_zero, List.set_cons_succ, i64_w, i32_w]
        rfl
      refine pure_ (i := 11) (N := some 83) (v := ?_) (a' := ?_) #[true, true, true, true, true, true, true, true, true, true, true, true, false, false] rfl rfl (by kernel_rfl) (fun _ _ _ h => h) (Or.inl ⟨by rfl, ?_⟩) ?_ ?_
      rotate_left
      · intro w'
        go_simp
        with_reducible rfl
      rotate_left
      · simp only [Act.put, List.setIfInBounds_toArray, List.set_cons_zero, List.set_cons_succ, i64_w, i32_w]
        rfl
      refine pure_ (i := 12) (N := some 84) (v := ?_) (a' := ?_) #[true, true, true, true, true, true, true, true, true, true, true, true, true, false] rfl rfl (by kernel_rfl) (fun _ _ _ h => h) (Or.inl ⟨by rfl, ?_⟩) ?_ ?_
      rotate_left
      · intro w'
        go_simp
        with_reducible rfl
      rotate_left
      · simp only [Act.put, List.setIfInBounds_toArray, List.set_cons_zero, List.set_cons_succ, i64_w, i32_w]
        rfl
      refine pure_ (i := 13) (N := some 70) (v := ?_) (a' := ?_) #[true, true, true, true, true, true, true, true, true, true, true, true, true, true] rfl rfl (by kernel_rfl) (fun _ _ _ h => h) (Or.inl ⟨by rfl, ?_⟩) ?_ ?_
      rotate_left
      · intro w'
        go_simp
        with_reducible rfl
      rotate_left
      · simp only [Act.put, List.setIfInBounds_toArray, List.set_cons_zero, List.set_cons_succ, i64_w, i32_w]
        rfl
      refine done_ (by kernel_rfl) ?_
      go_wp2_with fail
      have hBb9 := hBb.trans ((Below.refl _ wb).drew : Below w2.heap.size wb wb.drew)
      have hX9 := blk_drew hX2
      have hs9 : wb.drew.heap.size = w2.heap.size + 1 := hs2
      have HBW9 : Hid (B ≤ wb.drew.heap.size) := HBW
      have hB9 := blk_drew HB.out
      have HCL9 : Hid (∀ W L', NetAt W B (fun k => okI k ∨ wb.drew.heap.size ≤ k) g f L' → Kept wb.drew W (fun k => okI k ∨ k = w2.heap.size) → Below B wb.drew W → NetTo w W B ok g f L') := Lib.hid (fun W L' h1 h2 h3 => HCL.out W L' h1 h2 (((Below.refl B wb).drew).trans h3))
      clear hBb hX2 hs2 HBW HCL HB HST0 HX hNb hHeld
      rename_i hHeld0
      generalize wb.drew = wd at hBb9 hX9 hs9 HBW9 hB9 HCL9 ⊢
      clear wb
      obtain ⟨gb2, hgb2⟩ : ∃ gb2, gb2 = w2.heap.size := ⟨_, rfl⟩
      rw [← hgb2] at hX9 HCL9 hs9 ⊢
      have HR := Lib.hid (Kd.R_mono (ok' := fun k => (okI k ∨ wd.heap.size ≤ k) ∧ k ≠ g) (Kd.R_below HRI.out hBb9) (fun k hk => ⟨.inl hk.1, hk.2⟩))
      have HRo := Lib.hid HRI.out.1
      have HB := Lib.hid hB9
      have HBW := HBW9
      have hgw := blk_lt HB.out
      have HE0 : Hid (wd.cell? ⟨gb2, 0, none⟩ = some (.int .i64 from_)) := Lib.hid ((blk_cell hX9 0).trans rfl)
      have HE1 : Hid (wd.cell? ⟨gb2, 1, none⟩ = some (.int .i64 o.f0)) := Lib.hid ((blk_cell hX9 1).trans rfl)
      have HE2 : Hid (wd.cell? ⟨gb2, 2, none⟩ = some (.string b)) := Lib.hid ((blk_cell hX9 2).trans rfl)
      have HEL : Hid (gb2 < wd.heap.size) := Lib.hid (blk_lt hX9)
      have HFR : Hid (∀ k, wd.drew.heap.size ≤ k → (okI k ∨ wd.heap.size ≤ k) ∧ k ≠ g) := Lib.hid (fun k hk => ⟨.inr hk, by have : wd.heap.size ≤ k := hk; omega⟩)
      have HLEN3 : Hid ((Ls.length + 1) * 32 ≤ 140737488355328) := Lib.hid (by have := HLL.out; omega)
      have HNG : Hid (some g ≠ (Value.slice Ag Ls.length cg).ownBlock) := Lib.hid (fun e => (HRI.out.1 g e.symm).2 rfl)
      have HSL1 : Hid (l ++ sent f from_ (os.take (i + 1)) = Ls ++ [⟨from_, o.f0, b⟩]) := Lib.hid (by rw [HSL.out]; congr 1; unfold sent1; rw [HE.out]; simp only; rw [if_neg HQ1.out, if_pos HQ2.out])
      clear hBb9 hB9 HBW9 hX9 hs9 hgb2
      refine start_ (n := 11) (S := fun w' => w'.cell? ⟨g, 1, none⟩ = some (.slice Ag Ls.length cg) ∧ w'.cell? ⟨gb2, 0, none⟩ = some (.int .i64 from_) ∧ w'.cell? ⟨gb2, 1, none⟩ = some (.int .i64 o.f0) ∧ w'.cell? ⟨gb2, 2, none⟩ = some (.string b)) (ds := [7, 10]) #[false, false, false, false, false, false, false, false, false, false, false] (by kernel_rfl) rfl rfl ⟨((blk_cell (blk_drew HB.out) 1).trans rfl), HE0.out, HE1.out, HE2.out⟩ (fun hHeld => ?_)
      refine pure_ (i := 0) (N := some 85) (v := ?_) (a' := ?_) #[true, false, false, false, false, false, false, false, false, false, false] rfl rfl (by kernel_rfl) (fun _ _ _ h => h) (Or.inl ⟨by rfl, ?_⟩) ?_ ?_
      rotate_left
      · intro w'
        go_simp
        with_reducible rfl
      rotate_left
      · simp only [Act.put, List.setIfInBounds_toArray, List.set_cons_zero, List.set_cons_succ, i64_w, i32_w]
        rfl
      refine pure_ (i := 1) (N := some 86) (v := ?_) (a' := ?_) #[true, true, false, false, false, false, false, false, false, false, false] rfl rfl (by kernel_rfl) (fun _ _ _ h => h) (Or.inl ⟨by rfl, ?_⟩) ?_ ?_
      rotate_left
      · intro w'
        go_simp
        with_reducible rfl
      rotate_left
      · simp only [Act.put, List.setIfInBounds_toArray, List.set_cons_zero, List.set_cons_succ, i64_w, i32_w]
        rfl
      refine pure_ (i := 2) (N := some 87) (v := ?_) (a' := ?_) #[true, true, true, false, false, false, false, false, false, false, false] rfl rfl (by kernel_rfl) (fun _ _ _ h => h) (Or.inl ⟨by rfl, ?_⟩) ?_ ?_
      rotate_left
      · intro w'
        go_simp
        with_reducible rfl
      rotate_left
      · simp only [Act.put, List.setIfInBounds_toArray, List.set_cons_zero, List.set_cons_succ, i64_w, i32_w]
        rfl
      refine pure_ (i := 3) (N := some 88) (v := ?_) (a' := ?_) #[true, true, true, true, false, false, false, false, false, false, false] rfl rfl (by kernel_rfl) (fun _ _ _ h => h) (Or.inl ⟨by rfl, ?_⟩) ?_ ?_
      rotate_left
      · intro w'
        go_simp
        with_reducible rfl
      rotate_left
      · simp only [Act.put, List.setIfInBounds_toArray, List.set_cons_zero, List.set_cons_succ, i64_w, i32_w]
        rfl
      refine take_ (i := 4) (N := some 89) (v := ?_) (a' := ?_) #[true, true, true, true, true, false, false, false, false, false, false] rfl rfl (by kernel_rfl) (fun _ _ _ h => h) (Or.inl ⟨by rfl, ?_⟩) hHeld ?_ ?_
      rotate_left
      · rintro w' ⟨s0, s1, s2, s3⟩
        go_simp
        with_reducible rfl
      rotate_left
      · simp only [Act.put, List.setIfInBounds_toArray, List.set_cons_zero, List.set_cons_succ, i64_w, i32_w]
        rfl
      refine take_ (i := 5) (N := some 90) (v := ?_) (a' := ?_) #[true, true, true, true, true, true, false, false, false, false, false] rfl rfl (by kernel_rfl) (fun _ _ _ h => h) (Or.inl ⟨by rfl, ?_⟩) hHeld ?_ ?_
      rotate_left
      · rintro w' ⟨s0, s1, s2, s3⟩
        go_simp
        with_reducible rfl
      rotate_left
      · simp only [Act.put, List.setIfInBounds_toArray, List.set_cons_zero, List.set_cons_succ, i64_w, i32_w]
        rfl
      refine one_ (i := 6) (N := some 91) #[true, true, true, true, true, true, true, false, false, false, false] rfl rfl (by kernel_rfl) (by decide) (fun K hK => ?_)
      refine value_ (w1 := ?_) (v := ?_) (by rfl) rfl ?_ ?_
      rotate_left 2
      · go_simp
        constructor
        · rfl
        · rfl
      refine hK.out _ _ ⟨((blk_cell (blk_below HB.out (((Below.refl _ wd).alloc (Nat.le_refl _) _).drew)) 1).trans rfl), ((((Below.refl _ wd).alloc (Nat.le_refl _) _).drew).cell (p := ⟨gb2, 0, none⟩) HEL.out |>.trans HE0.out), ((((Below.refl _ wd).alloc (Nat.le_refl _) _).drew).cell (p := ⟨gb2, 1, none⟩) HEL.out |>.trans HE1.out), ((((Below.refl _ wd).alloc (Nat.le_refl _) _).drew).cell (p := ⟨gb2, 2, none⟩) HEL.out |>.trans HE2.out)⟩ (fun hHeld => ?_)
      clear hK K
      refine norm_ (a' := ?_) ?_ ?_
      rotate_left
      · show Act.put _ (some 91) _ = _
        simp only [Act.put, List.setIfInBounds_toArray, List.set_cons_zero, List.set_cons_succ, i64_w, i32_w]
        rfl
      refine last_ (i := 7) (N := some 92) #[true, true, true, true, true, true, true, true, false, false, false] rfl rfl (by kernel_rfl) (by decide) (fun K hK => ?_)
      refine Kd.R_append_step k41 (w0 := wd) (W := wd.drew) B (by rfl) (.tmp 89) (.tmp 91) 38 41 (.agg #[.int .i64 0, .int .i64 0, .string ⟨#[]⟩]) 32 (by rfl) Try.underlying38 info41 rfl (by decide) (by omega) (.slice Ag Ls.length cg) Ls (⟨from_, o.f0, b⟩ : S41) [.int .i64 from_, .int .i64 o.f0, .string b] (fun k => (okI k ∨ wd.heap.size ≤ k) ∧ k ≠ g) (fun _ => False) (by rfl) (by rfl) (k41_mkM _ _ _ _) (fun _ h => h.elim) HFR.out (Kd.R_drew HR.out) ((Below.refl _ _).drew) HBW.out HLEN3.out ?_
      intro v1 w3 hown hbel hgr hat
      obtain ⟨A1, c1, rfl⟩ := Kd.R_slice hown
      have hb3 := blk_grown (blk_drew HB.out) hgr HNG.out
      have k3 : w3.cell? ⟨g, 1, none⟩ = some (.slice Ag Ls.length cg) := (blk_cell hb3 1).trans rfl
      have f3 := blk_frozen hb3 1
      have HO3 := Lib.hid hown
      have HB3 := Lib.hid hb3
      have HBel3 := Lib.hid hbel
      have HG3 := Lib.hid hgr
      clear hown hb3 hbel hgr hat
      refine hK.out _ _ ?_
      clear hK K
      refine norm_ (a' := ?_) ?_ ?_
      rotate_left
      · show Act.put _ (some 92) _ = _
        simp only [Act.put, List.setIfInBounds_toArray, List.set_cons_zero, List.set_cons_succ, i64_w, i32_w]
        rfl
      refine pure_ (i := 8) (N := some 93) (v := ?_) (a' := ?_) #[true, true, true, true, true, true, true, true, true, false, false] rfl rfl (by kernel_rfl) (fun _ _ _ h => h) (Or.inl ⟨by rfl, ?_⟩) ?_ ?_
      rotate_left
      · intro w'
        go_simp
        with_reducible rfl
      rotate_left
      · simp only [Act.put, List.setIfInBounds_toArray, List.set_cons_zero, List.set_cons_succ, i64_w, i32_w]
        rfl
      refine pure_ (i := 9) (N := some 94) (v := ?_) (a' := ?_) #[true, true, true, true, true, true, true, true, true, true, false] rfl rfl (by kernel_rfl) (fun _ _ _ h => h) (Or.inl ⟨by rfl, ?_⟩) ?_ ?_
      rotate_left
      · intro w'
        go_simp
        with_reducible rfl
      rotate_left
      · simp only [Act.put, List.setIfInBounds_toArray, List.set_cons_zero, List.set_cons_succ, i64_w, i32_w]
        rfl
      refine last_ (i := 10) (N := none) #[true, true, true, true, true, true, true, true, true, true, true] rfl rfl (by kernel_rfl) (by decide) (fun K hK => ?_)
      refine skip_ (w1 := ?_) (by rfl) rfl ?_ ?_
      rotate_left
      · go_simp
        rfl
      refine hK.out _ _ ?_
      clear hK K
      refine done_ (by kernel_rfl) ?_
      go_wp2_with fail
      have hST := fun m (hm : m = (Ls ++ [(⟨from_, o.f0, b⟩ : S41)]).length) => net_stored (w := wd) (ok := okI) HBG.out HOKG.out (by rw [List.length_append]; have := HLL.out; simp; omega) HB3.out HO3.out hm (Kept.of_grown HG3.out (Kept.refl wd okI : Kept wd wd.drew okI) (fun k hk => .inl (HRo.out k hk).1)) HBel3.out
      have HST := Lib.hid (hST (Ls.length + 1) (by simp))
      clear hST
      have HN4 := Lib.hid (HCL9.out _ _ HST.out.1 (HST.out.2.1.mono (fun k hk => .inl hk)) HST.out.2.2)
      rw [← HSL1.out] at HN4
      go_roundg k1
      case measure => omega
      case rel => exact ⟨i + 1, by first | (rw [hwi]; done) | (simp; done), Lib.hid (by have := HI.out; omega), HN4⟩
    have HS0 : Hid (sent1 f from_ o = []) := Lib.hid (by unfold sent1; rw [HE.out]; simp only; rw [if_neg HQ1.out, if_neg (fun h => h.elim q2 q3)])
    by_cases q4 : 0 ≤ o.f0
    · have t6 : decide (0 ≤ o.f0) = true := by simpa using q4
      have t7 : decide (o.f0 ≤ 3 * f) = false := by simp; omega
      clear q2 q3 q4
      rcases t5 with t5 | ⟨t5, t8⟩
      · go_wp2_with fail
        have hBb : Below w2.heap.size w2 (w2.alloc (.cells #[.int .i64 from_, .int .i64 o.f0, .string b] 41)) := ((Below.refl _ w2).alloc (Nat.le_refl _) (.cells #[.int .i64 from_, .int .i64 o.f0, .string b] 41))
        have hX2 : (w2.alloc (.cells #[.int .i64 from_, .int .i64 o.f0, .string b] 41)).heap[w2.heap.size]? = some (.cells #[.int .i64 from_, .int .i64 o.f0, .string b] 41 (0, 0)) := heap_alloc_new w2 (.cells #[.int .i64 from_, .int .i64 o.f0, .string b] 41)
        have hs2 : (w2.alloc (.cells #[.int .i64 from_, .int .i64 o.f0, .string b] 41)).heap.size = w2.heap.size + 1 := by simp
        generalize (w2.alloc (.cells #[.int .i64 from_, .int .i64 o.f0, .string b] 41)) = wb at hBb hX2 hs2 ⊢
        have hNb : NetAt wb B okI g f Ls := NetAt.below (⟨HBG.out, HOKG.out, by have := HLL.out; omega, _, HB.out, HRI.out⟩ : NetAt w2 B okI g f Ls) hBb
        have HCL : Hid (∀ W L', NetAt W B (fun k => okI k ∨ wb.heap.size ≤ k) g f L' → Kept wb W (fun k => okI k ∨ k = w2.heap.size) → Below B wb W → NetTo w W B ok g f L') := Lib.hid (fun W L' h1 h2 h3 => net_close HBw.out HN.out HB2.out hBb (fun k hk => (HOKI.out k hk).1) h1 h2 h3)
        have HBW : Hid (B ≤ wb.heap.size) := Lib.hid (Nat.le_trans (Nat.le_trans HBw.out (Nat.le_trans HN.out.2.1.1 HB2.out.size)) hBb.size)
        have HST0 := Lib.hid (net_still HN.out HBw.out (HB2.out.trans (hBb.mono HB2.out.size)))
        have HXb := Lib.hid (blk_below HX.out hBb)
        replace HX := HXb
        have hB9 := blk_below HB.out hBb
        replace HB := Lib.hid hB9
        clear HXb hB9
        clear y0 yg hgl hgbl hcv
        refine start_ (n := 14) (S := fun w' => w'.cell? ⟨gb, 0, none⟩ = some (.int .i64 o.f0) ∧ w'.cell? ⟨g, 0, none⟩ = some (.int .i64 f)) (ds := []) #[false, false, false, false, false, false, false, false, false, false, false, false, false, false] (by kernel_rfl) rfl rfl ⟨((blk_cell (blk_drew HX.out) 0).trans rfl), ((blk_cell (blk_drew HB.out) 0).trans rfl)⟩ (fun hHeld => ?_)
        refine pure_ (i := 0) (N := some 72) (v := ?_) (a' := ?_) #[true, false, false, false, false, false, false, false, false, false, false, false, false, false] rfl rfl (by kernel_rfl) (fun _ _ _ h => h) (Or.inl ⟨by rfl, ?_⟩) ?_ ?_
        rotate_left
        · intro w'
          go_simp
          with_reducible rfl
        rotate_left
        · simp only [Act.put, List.setIfInBounds_toArray, List.set_cons_zero, List.set_cons_succ, i64_w, i32_w]
          rfl
        refine take_ (i := 1) (N := some 73) (v := ?_) (a' := ?_) #[true, true, false, false, false, false, false, false, false, false, false, false, false, false] rfl rfl (by kernel_rfl) (fun _ _ _ h => h) (Or.inl ⟨by rfl, ?_⟩) hHeld ?_ ?_
        rotate_left
        · rintro w' ⟨s0, s1⟩
          go_simp
          with_reducible rfl
        rotate_left
        · simp only [Act.put, List.setIfInBounds_toArray, List.set_cons_zero, List.set_cons_succ, i64_w, i32_w]
          rfl
        refine pure_ (i := 2) (N := some 74) (v := ?_) (a' := ?_) #[true, true, true, false, false, false, false, false, false, false, false, false, false, false] rfl rfl (by kernel_rfl) (fun _ _ _ h => h) (Or.inl ⟨by rfl, ?_⟩) ?_ ?_
        rotate_left
        · intro w'
          go_simp
          with_reducible rfl
        rotate_left
        · simp only [Act.put, List.setIfInBounds_toArray, List.set_cons_zero, List.set_cons_succ, i64_w, i32_w]
          rfl
        refine pure_ (i := 3) (N := some 75) (v := ?_) (a' := ?_) #[true, true, true, true, false, false, false, false, false, false, false, false, false, false] rfl rfl (by kernel_rfl) (fun _ _ _ h => h) (Or.inl ⟨by rfl, ?_⟩) ?_ ?_
        rotate_left
        · intro w'
          go_simp
          with_reducible rfl
        rotate_left
        · simp only [Act.put, List.setIfInBounds_toArray, List.set_cons_zero, List.set_cons_succ, i64_w, i32_w]
          rfl
        refine pure_ (i := 4) (N := some 76) (v := ?_) (a' := ?_) #[true, true, true, true, true, false, false, false, false, false, false, false, false, false] rfl rfl (by kernel_rfl) (fun _ _ _ h => h) (Or.inl ⟨by rfl, ?_⟩) ?_ ?_
        rotate_left
        · intro w'
          go_simp
          with_reducible rfl
        rotate_left
        · simp only [Act.put, List.setIfInBounds_toArray, List.set_cons_zero, List.set_cons_succ, i64_w, i32_w]
          rfl
        refine pure_ (i := 6) (N := some 78) (v := ?_) (a' := ?_) #[true, true, true, true, true, false, true, false, false, false, false, false, false, false] rfl rfl (by kernel_rfl) (fun _ _ _ h => h) (Or.inl ⟨by rfl, ?_⟩) ?_ ?_
        rotate_left
        · intro w'
          go_simp
          with_reducible rfl
        rotate_left
        · simp only [Act.put, List.setIfInBounds_toArray, List.set_cons_zero, List.set_cons_succ, i64_w, i32_w]
          rfl
        refine pure_ (i := 7) (N := some 79) (v := ?_) (a' := ?_) #[true, true, true, true, true, false, true, true, false, false, false, false, false, false] rfl rfl (by kernel_rfl) (fun _ _ _ h => h) (Or.inl ⟨by rfl, ?_⟩) ?_ ?_
        rotate_left
        · intro w'
          go_simp
          with_reducible rfl
        rotate_left
        · simp only [Act.put, List.setIfInBounds_toArray, List.set_cons_zero, List.set_cons_succ, i64_w, i32_w]
          rfl
        refine pure_ (i := 8) (N := some 80) (v := ?_) (a' := ?_) #[true, true, true, true, true, false, true, true, true, false, false, false, false, false] rfl rfl (by kernel_rfl) (fun _ _ _ h => h) (Or.inl ⟨by rfl, ?_⟩) ?_ ?_
        rotate_left
        · intro w'
          go_simp
          with_reducible rfl
        rotate_left
        · simp only [Act.put, List.setIfInBounds_toArray, List.set_cons_zero, List.set_cons_succ, i64_w, i32_w]
          rfl
        refine take_ (i := 5) (N := some 77) (v := ?_) (a' := ?_) #[true, true, true, true, true, true, true, true, true, false, false, false, false, false] rfl rfl (by kernel_rfl) (fun _ _ _ h => h) (Or.inl ⟨by rfl, ?_⟩) hHeld ?_ ?_
        rotate_left
        · rintro w' ⟨s0, s1⟩
          go_simp
          with_reducible rfl
        rotate_left
        · simp only [Act.put, List.setIfInBounds_toArray, List.set_cons_zero, List.set_cons_succ, i64_w, i32_w]
          rfl
        refine take_ (i := 9) (N := some 81) (v := ?_) (a' := ?_) #[true, true, true, true, true, true, true, true, true, true, false, false, false, false] rfl rfl (by kernel_rfl) (fun _ _ _ h => h) (Or.inl ⟨by rfl, ?_⟩) hHeld ?_ ?_
        rotate_left
        · rintro w' ⟨s0, s1⟩
          go_simp
          with_reducible rfl
        rotate_left
        · simp only [Act.put, List.setIfInBounds_toArray, List.set_cons_zero, List.set_cons_succ, i64_w, i32_w]
          rfl
        refine pure_ (i := 10) (N := some 82) (v := ?_) (a' := ?_) #[true, true, true, true, true, true, true, true, true, true, true, false, false, false] rfl rfl (by kernel_rfl) (fun _ _ _ h => h) (Or.inl ⟨by rfl, ?_⟩) ?_ ?_
        rotate_left
        · intro w'
          go_simp
          with_reducible rfl
        rotate_left
        · simp only [Act.put, List.setIfInBounds_toArray, List.set_cons_zero, List.set_cons_succ, i64_w, i32_w]
          rfl
        refine pure_ (i := 11) (N := some 83) (v := ?_) (a' := ?_) #[true, true, true, true, true, true, true, true, true, true, true, true, false, false] rfl rfl (by kernel_rfl) (fun _ _ _ h => h) (Or.inl ⟨by rfl, ?_⟩) ?_ ?_
        rotate_left
        · intro w'
          go_simp
          with_reducible rfl
        rotate_left
        · simp only [Act.put, List.setIfInBounds_toArray, List.set_cons_zero, List.set_cons_succ, i64_w, i32_w]
          rfl
        refine pure_ (i := 12) (N := some 84) (v := ?_) (a' := ?_) #[true, true, true, true, true, true, true, true, true, true, true, true, true, false] rfl rfl (by kernel_rfl) (fun _ _ _ h => h) (Or.inl ⟨by rfl, ?_⟩) ?_ ?_
        rotate_left
        · intro w'
          go_simp
          with_reducible rfl
        rotate_left
        · simp only [Act.put, List.setIfInBounds_toArray, List.set_cons_zero, List.set_cons_succ, i64_w, i32_w]
          rfl
        refine pure_ (i := 13) (N := some 70) (v := ?_) (a' := ?_) #[true, true, true, true, true, true, true, true, true, true, true, true, true, true] rfl rfl (by kernel_rfl) (fun _ _ _ h => h) (Or.inl ⟨by rfl, ?_⟩) ?_ ?_
        rotate_left
        · intro w'
          go_simp
          with_reducible rfl
        rotate_left
        · simp only [Act.put, List.setIfInBounds_toArray, List.set_cons_zero, List.set_cons_succ, i64_w, i32_w]
          rfl
        refine done_ (by kernel_rfl) ?_
        have HN4 : Hid (NetTo w wb.drew B ok g f (l ++ sent f from_ (os.take (i + 1)))) := Lib.hid (by rw [HSL.out, HS0.out, List.append_nil]; exact net_still HST0.out HBw.out (Below.refl _ wb).drew)
        go_wp2_with fail
        go_roundg k1
        case measure => omega
        case rel => exact ⟨i + 1, by first | (rw [hwi]; done) | (simp; done), Lib.hid (by have := HI.out; omega), HN4⟩
      · go_wp2_with fail
        have hBb : Below w2.heap.size w2 (w2.alloc (.cells #[.int .i64 from_, .int .i64 o.f0, .string b] 41)) := ((Below.refl _ w2).alloc (Nat.le_refl _) (.cells #[.int .i64 from_, .int .i64 o.f0, .string b] 41))
        have hX2 : (w2.alloc (.cells #[.int .i64 from_, .int .i64 o.f0, .string b] 41)).heap[w2.heap.size]? = some (.cells #[.int .i64 from_, .int .i64 o.f0, .string b] 41 (0, 0)) := heap_alloc_new w2 (.cells #[.int .i64 from_, .int .i64 o.f0, .string b] 41)
        have hs2 : (w2.alloc (.cells #[.int .i64 from_, .int .i64 o.f0, .string b] 41)).heap.size = w2.heap.size + 1 := by simp
        generalize (w2.alloc (.cells #[.int .i64 from_, .int .i64 o.f0, .string b] 41)) = wb at hBb hX2 hs2 ⊢
        have hNb : NetAt wb B okI g f Ls := NetAt.below (⟨HBG.out, HOKG.out, by have := HLL.out; omega, _, HB.out, HRI.out⟩ : NetAt w2 B okI g f Ls) hBb
        have HCL : Hid (∀ W L', NetAt W B (fun k => okI k ∨ wb.heap.size ≤ k) g f L' → Kept wb W (fun k => okI k ∨ k = w2.heap.size) → Below B wb W → NetTo w W B ok g f L') := Lib.hid (fun W L' h1 h2 h3 => net_close HBw.out HN.out HB2.out hBb (fun k hk => (HOKI.out k hk).1) h1 h2 h3)
        have HBW : Hid (B ≤ wb.heap.size) := Lib.hid (Nat.le_trans (Nat.le_trans HBw.out (Nat.le_trans HN.out.2.1.1 HB2.out.size)) hBb.size)
        have HST0 := Lib.hid (net_still HN.out HBw.out (HB2.out.trans (hBb.mono HB2.out.size)))
        have HXb := Lib.hid (blk_below HX.out hBb)
        replace HX := HXb
        have hB9 := blk_below HB.out hBb
        replace HB := Lib.hid hB9
        clear HXb hB9
        clear y0 yg hgl hgbl hcv
        refine start_ (n := 14) (S := fun w' => w'.cell? ⟨gb, 0, none⟩ = some (.int .i64 o.f0) ∧ w'.cell? ⟨g, 0, none⟩ = some (.int .i64 f)) (ds := []) #[false, false, false, false, false, false, false, false, false, false, false, false, false, false] (by kernel_rfl) rfl rfl ⟨((blk_cell (blk_drew HX.out) 0).trans rfl), ((blk_cell (blk_drew HB.out) 0).trans rfl)⟩ (fun hHeld => ?_)
        refine pure_ (i := 0) (N := some 72) (v := ?_) (a' := ?_) #[true, false, false, false, false, false, false, false, false, false, false, false, false, false] rfl rfl (by kernel_rfl) (fun _ _ _ h => h) (Or.inl ⟨by rfl, ?_⟩) ?_ ?_
        rotate_left
        · intro w'
          go_simp
          with_reducible rfl
        rotate_left
        · simp only [Act.put, List.setIfInBounds_toArray, List.set_cons_zero, List.set_cons_succ, i64_w, i32_w]
          rfl
        refine take_ (i := 1) (N := some 73) (v := ?_) (a' := ?_) #[true, true, false, false, false, false, false, false, false, false, false, false, false, false] rfl rfl (by kernel_rfl) (fun _ _ _ h => h) (Or.inl ⟨by rfl, ?_⟩) hHeld ?_ ?_
        rotate_left
        · rintro w' ⟨s0, s1⟩
          go_simp
          with_reducible rfl
        rotate_left
        · simp only [Act.put, List.setIfInBounds_toArray, List.set_cons_zero, List.set_cons_succ, i64_w, i32_w]
          rfl
        refine pure_ (i := 2) (N := some 74) (v := ?_) (a' := ?_) #[true, true, true, false, false, false, false, false, false, false, false, false, false, false] rfl rfl (by kernel_rfl) (fun _ _ _ h => h) (Or.inl ⟨by rfl, ?_⟩) ?_ ?_
        rotate_left
        · intro w'
          go_simp
          with_reducible rfl
        rotate_left
        · simp only [Act.put, List.setIfInBounds_toArray, List.set_cons_zero, List.set_cons_succ, i64_w, i32_w]
          rfl
        refine pure_ (i := 3) (N := some 75) (v := ?_) (a' := ?_) #[true, true, true, true, false, false, false, false, false, false, false, false, false, false] rfl rfl (by kernel_rfl) (fun _ _ _ h => h) (Or.inl ⟨by rfl, ?_⟩) ?_ ?_
        rotate_left
        · intro w'
          go_simp
          with_reducible rfl
        rotate_left
        · simp only [Act.put, List.setIfInBounds_toArray, List.set_cons_zero, List.set_cons_succ, i64_w, i32_w]
          rfl
        refine pure_ (i := 4) (N := some 76) (v := ?_) (a' := ?_) #[true, true, true, true, true, false, false, false, false, false, false, false, false, false] rfl rfl (by kernel_rfl) (fun _ _ _ h => h) (Or.inl ⟨by rfl, ?_⟩) ?_ ?_
        rotate_left
        · intro w'
          go_simp
          with_reducible rfl
        rotate_left
        · simp only [Act.put, List.setIfInBounds_toArray, List.set_cons_zero, List.set_cons_succ, i64_w, i32_w]
          rfl
        refine pure_ (i := 6) (N := some 78) (v := ?_) (a' := ?_) #[true, true, true, true, true, false, true, false, false, false, false, false, false, false] rfl rfl (by kernel_rfl) (fun _ _ _ h => h) (Or.inl ⟨by rfl, ?_⟩) ?_ ?_
        rotate_left
        · intro w'
          go_simp
          with_reducible rfl
        rotate_left
        · simp only [Act.put, List.setIfInBounds_toArray, List.set_cons_zero, List.set_cons_succ, i64_w, i32_w]
          rfl
        refine pure_ (i := 7) (N := some 79) (v := ?_) (a' := ?_) #[true, true, true, true, true, false, true, true, false, false, false, false, false, false] rfl rfl (by kernel_rfl) (fun _ _ _ h => h) (Or.inl ⟨by rfl, ?_⟩) ?_ ?_
        rotate_left
        · intro w'
          go_simp
          with_reducible rfl
        rotate_left
        · simp only [Act.put, List.setIfInBounds_toArray, List.set_cons_zero, List.set_cons_succ, i64_w, i32_w]
          rfl
        refine pure_ (i := 8) (N := some 80) (v := ?_) (a' := ?_) #[true, true, true, true, true, false, true, true, true, false, false, false, false, false] rfl rfl (by kernel_rfl) (fun _ _ _ h => h) (Or.inl ⟨by rfl, ?_⟩) ?_ ?_
        rotate_left
        · intro w'
          go_simp
          with_reducible rfl
        rotate_left
        · simp only [Act.put, List.setIfInBounds_toArray, List.set_cons_zero, List.set_cons_succ, i64_w, i32_w]
          rfl
        refine take_ (i := 5) (N := some 77) (v := ?_) (a' := ?_) #[true, true, true, true, true, true, true, true, true, false, false, false, false, false] rfl rfl (by kernel_rfl) (fun _ _ _ h => h) (Or.inl ⟨by rfl, ?_⟩) hHeld ?_ ?_
        rotate_left
        · rintro w' ⟨s0, s1⟩
          go_simp
          with_reducible rfl
        rotate_left
        · simp only [Act.put, List.setIfInBounds_toArray, List.set_cons_zero, List.set_cons_succ, i64_w, i32_w]
          rfl
        refine take_ (i := 9) (N := some 81) (v := ?_) (a' := ?_) #[true, true, true, true, true, true, true, true, true, true, false, false, false, false] rfl rfl (by kernel_rfl) (fun _ _ _ h => h) (Or.inl ⟨by rfl, ?_⟩) hHeld ?_ ?_
        rotate_left
        · rintro w' ⟨s0, s1⟩
          go_simp
          with_reducible rfl
        rotate_left
        · simp only [Act.put, List.setIfInBounds_toArray, List.set_cons_zero, List.set_cons_succ, i64_w, i32_w]
          rfl
        refine pure_ (i := 10) (N := some 82) (v := ?_) (a' := ?_) #[true, true, true, true, true, true, true, true, true, true, true, false, false, false] rfl rfl (by kernel_rfl) (fun _ _ _ h => h) (Or.inl ⟨by rfl, ?_⟩) ?_ ?_
        rotate_left
        · intro w'
          go_simp
          with_reducible rfl
        rotate_left
        · simp only [Act.put, List.setIfInBounds_toArray, List.set_cons_zero, List.set_cons_succ, i64_w, i32_w]
          rfl
        refine pure_ (i := 11) (N := some 83) (v := ?_) (a' := ?_) #[true, true, true, true, true, true, true, true, true, true, true, true, false, false] rfl rfl (by kernel_rfl) (fun _ _ _ h => h) (Or.inl ⟨by rfl, ?_⟩) ?_ ?_
        rotate_left
        · intro w'
          go_simp
          with_reducible rfl
        rotate_left
        · simp only [Act.put, List.setIfInBounds_toArray, List.set_cons_zero, List.set_cons_succ, i64_w, i32_w]
          rfl
        refine pure_ (i := 12) (N := some 84) (v := ?_) (a' := ?_) #[true, true, true, true, true, true, true, true, true, true, true, true, true, false] rfl rfl (by kernel_rfl) (fun _ _ _ h => h) (Or.inl ⟨by rfl, ?_⟩) ?_ ?_
        rotate_left
        · intro w'
          go_simp
          with_reducible rfl
        rotate_left
        · simp only [Act.put, List.setIfInBounds_toArray, List.set_cons_zero, List.set_cons_succ, i64_w, i32_w]
          rfl
        refine pure_ (i := 13) (N := some 70) (v := ?_) (a' := ?_) #[true, true, true, true, true, true, true, true, true, true, true, true, true, true] rfl rfl (by kernel_rfl) (fun _ _ _ h => h) (Or.inl ⟨by rfl, ?_⟩) ?_ ?_
        rotate_left
        · intro w'
          go_simp
          with_reducible rfl
        rotate_left
        · simp only [Act.put, List.setIfInBounds_toArray, List.set_cons_zero, List.set_cons_succ, i64_w, i32_w]
          rfl
        refine done_ (by kernel_rfl) ?_
        have HN4 : Hid (NetTo w wb.drew B ok g f (l ++ sent f from_ (os.take (i + 1)))) := Lib.hid (by rw [HSL.out, HS0.out, List.append_nil]; exact net_still HST0.out HBw.out (Below.refl _ wb).drew)
        go_wp2_with fail
        go_roundg k1
        case measure => omega
        case rel => exact ⟨i + 1, by first | (rw [hwi]; done) | (simp; done), Lib.hid (by have := HI.out; omega), HN4⟩
    have t6 : decide (0 ≤ o.f0) = false := by simpa using q4
    have t2 : decide (100 ≤ o.f0) = false := by simp; omega
    clear q2 q3 q4 t5
    go_wp2_with fail
    have hBb : Below w2.heap.size w2 (w2.alloc (.cells #[.int .i64 from_, .int .i64 o.f0, .string b] 41)) := ((Below.refl _ w2).alloc (Nat.le_refl _) (.cells #[.int .i64 from_, .int .i64 o.f0, .string b] 41))
    have hX2 : (w2.alloc (.cells #[.int .i64 from_, .int .i64 o.f0, .string b] 41)).heap[w2.heap.size]? = some (.cells #[.int .i64 from_, .int .i64 o.f0, .string b] 41 (0, 0)) := heap_alloc_new w2 (.cells #[.int .i64 from_, .int .i64 o.f0, .string b] 41)
    have hs2 : (w2.alloc (.cells #[.int .i64 from_, .int .i64 o.f0, .string b] 41)).heap.size = w2.heap.size + 1 := by simp
    generalize (w2.alloc (.cells #[.int .i64 from_, .int .i64 o.f0, .string b] 41)) = wb at hBb hX2 hs2 ⊢
    have hNb : NetAt wb B okI g f Ls := NetAt.below (⟨HBG.out, HOKG.out, by have := HLL.out; omega, _, HB.out, HRI.out⟩ : NetAt w2 B okI g f Ls) hBb
    have HCL : Hid (∀ W L', NetAt W B (fun k => okI k ∨ wb.heap.size ≤ k) g f L' → Kept wb W (fun k => okI k ∨ k = w2.heap.size) → Below B wb W → NetTo w W B ok g f L') := Lib.hid (fun W L' h1 h2 h3 => net_close HBw.out HN.out HB2.out hBb (fun k hk => (HOKI.out k hk).1) h1 h2 h3)
    have HBW : Hid (B ≤ wb.heap.size) := Lib.hid (Nat.le_trans (Nat.le_trans HBw.out (Nat.le_trans HN.out.2.1.1 HB2.out.size)) hBb.size)
    have HST0 := Lib.hid (net_still HN.out HBw.out (HB2.out.trans (hBb.mono HB2.out.size)))
    have HXb := Lib.hid (blk_below HX.out hBb)
    replace HX := HXb
    have hB9 := blk_below HB.out hBb
    replace HB := Lib.hid hB9
    clear HXb hB9
    clear y0 yg hgl hgbl hcv
    refine start_ (n := 14) (S := fun w' => w'.cell? ⟨gb, 0, none⟩ = some (.int .i64 o.f0) ∧ w'.cell? ⟨g, 0, none⟩ = some (.int .i64 f)) (ds := []) #[false, false, false, false, false, false, false, false, false, false, false, false, false, false] (by kernel_rfl) rfl rfl ⟨((blk_cell (blk_drew HX.out) 0).trans rfl), ((blk_cell (blk_drew HB.out) 0).trans rfl)⟩ (fun hHeld => ?_)
    refine pure_ (i := 0) (N := some 72) (v := ?_) (a' := ?_) #[true, false, false, false, false, false, false, false, false, false, false, false, false, false] rfl rfl (by kernel_rfl) (fun _ _ _ h => h) (Or.inl ⟨by rfl, ?_⟩) ?_ ?_
    rotate_left
    · intro w'
      go_simp
      with_reducible rfl
    rotate_left
    · simp only [Act.put, List.setIfInBounds_toArray, List.set_cons_zero, List.set_cons_succ, i64_w, i32_w]
      rfl
    refine take_ (i := 1) (N := some 73) (v := ?_) (a' := ?_) #[true, true, false, false, false, false, false, false, false, false, false, false, false, false] rfl rfl (by kernel_rfl) (fun _ _ _ h => h) (Or.inl ⟨by rfl, ?_⟩) hHeld ?_ ?_
    rotate_left
    · rintro w' ⟨s0, s1⟩
      go_simp
      with_reducible rfl
    rotate_left
    · simp only [Act.put, List.setIfInBounds_toArray, List.set_cons_zero, List.set_cons_succ, i64_w, i32_w]
      rfl
    refine pure_ (i := 2) (N := some 74) (v := ?_) (a' := ?_) #[true, true, true, false, false, false, false, false, false, false, false, false, false, false] rfl rfl (by kernel_rfl) (fun _ _ _ h => h) (Or.inl ⟨by rfl, ?_⟩) ?_ ?_
    rotate_left
    · intro w'
      go_simp
      with_reducible rfl
    rotate_left
    · simp only [Act.put, List.setIfInBounds_toArray, List.set_cons_zero, List.set_cons_succ, i64_w, i32_w]
      rfl
    refine pure_ (i := 3) (N := some 75) (v := ?_) (a' := ?_) #[true, true, true, true, false, false, false, false, false, false, false, false, false, false] rfl rfl (by kernel_rfl) (fun _ _ _ h => h) (Or.inl ⟨by rfl, ?_⟩) ?_ ?_
    rotate_left
    · intro w'
      go_simp
      with_reducible rfl
    rotate_left
    · simp only [Act.put, List.setIfInBounds_toArray, List.set_cons_zero, List.set_cons_succ, i64_w, i32_w]
      rfl
    refine pure_ (i := 4) (N := some 76) (v := undef) (a' := ?_) #[true, true, true, true, true, false, false, false, false, false, false, false, false, false] rfl rfl (by kernel_rfl) (fun _ _ _ h => h) (Or.inr ⟨by rfl, rfl⟩) ?_ ?_
    rotate_left
    · simp only [Act.put, List.setIfInBounds_toArray, List.set_cons_zero, List.set_cons_succ, i64_w, i32_w]
      rfl
    refine pure_ (i := 5) (N := some 77) (v := undef) (a' := ?_) #[true, true, true, true, true, true, false, false, false, false, false, false, false, false] rfl rfl (by kernel_rfl) (fun _ _ _ h => h) (Or.inr ⟨by rfl, rfl⟩) ?_ ?_
    rotate_left
    · simp only [Act.put, List.setIfInBounds_toArray, List.set_cons_zero, List.set_cons_succ, i64_w, i32_w]
      rfl
    refine pure_ (i := 6) (N := some 78) (v := undef) (a' := ?_) #[true, true, true, true, true, true, true, false, false, false, false, false, false, false] rfl rfl (by kernel_rfl) (fun _ _ _ h => h) (Or.inr ⟨by rfl, rfl⟩) ?_ ?_
    rotate_left
    · simp only [Act.put, List.setIfInBounds_toArray, List.set_cons_zero, List.set_cons_succ, i64_w, i32_w]
      rfl
    refine pure_ (i := 7) (N := some 79) (v := undef) (a' := ?_) #[true, true, true, true, true, true, true, true, false, false, false, false, false, false] rfl rfl (by kernel_rfl) (fun _ _ _ h => h) (Or.inr ⟨by rfl, rfl⟩) ?_ ?_
    rotate_left
    · simp only [Act.put, List.setIfInBounds_toArray, List.set_cons_zero, List.set_cons_succ, i64_w, i32_w]
      rfl
    refine pure_ (i := 8) (N := some 80) (v := undef) (a' := ?_) #[true, true, true, true, true, true, true, true, true, false, false, false, false, false] rfl rfl (by kernel_rfl) (fun _ _ _ h => h) (Or.inr ⟨by rfl, rfl⟩) ?_ ?_
    rotate_left
    · simp only [Act.put, List.setIfInBounds_toArray, List.set_cons_zero, List.set_cons_succ, i64_w, i32_w]
      rfl
    refine pure_ (i := 9) (N := some 81) (v := undef) (a' := ?_) #[true, true, true, true, true, true, true, true, true, true, false, false, false, false] rfl rfl (by kernel_rfl) (fun _ _ _ h => h) (Or.inr ⟨by rfl, rfl⟩) ?_ ?_
    rotate_left
    · simp only [Act.put, List.setIfInBounds_toArray, List.set_cons_zero, List.set_cons_succ, i64_w, i32_w]
      rfl
    refine pure_ (i := 10) (N := some 82) (v := undef) (a' := ?_) #[true, true, true, true, true, true, true, true, true, true, true, false, false, false] rfl rfl (by kernel_rfl) (fun _ _ _ h => h) (Or.inr ⟨by rfl, rfl⟩) ?_ ?_
    rotate_left
    · simp only [Act.put, List.setIfInBounds_toArray, List.set_cons_zero, List.set_cons_succ, i64_w, i32_w]
      rfl
    refine pure_ (i := 11) (N := some 83) (v := undef) (a' := ?_) #[true, true, true, true, true, true, true, true, true, true, true, true, false, false] rfl rfl (by kernel_rfl) (fun _ _ _ h => h) (Or.inr ⟨by rfl, rfl⟩) ?_ ?_
    rotate_left
    · simp only [Act.put, List.setIfInBounds_toArray, List.set_cons_zero, List.set_cons_succ, i64_w, i32_w]
      rfl
    refine pure_ (i := 12) (N := some 84) (v := ?_) (a' := ?_) #[true, true, true, true, true, true, true, true, true, true, true, true, true, false] rfl rfl (by kernel_rfl) (fun _ _ _ h => h) (Or.inl ⟨by rfl, ?_⟩) ?_ ?_
    rotate_left
    · intro w'
      go_simp
      with_reducible rfl
    rotate_left
    · simp only [Act.put, List.setIfInBounds_toArray, List.set_cons_zero, List.set_cons_succ, i64_w, i32_w]
      rfl
    refine pure_ (i := 13) (N := some 70) (v := ?_) (a' := ?_) #[true, true, true, true, true, true, true, true, true, true, true, true, true, true] rfl rfl (by kernel_rfl) (fun _ _ _ h => h) (Or.inl ⟨by rfl, ?_⟩) ?_ ?_
    rotate_left
    · intro w'
      go_simp
      with_reducible rfl
    rotate_left
    · simp only [Act.put, List.setIfInBounds_toArray, List.set_cons_zero, List.set_cons_succ, i64_w, i32_w]
      rfl
    refine done_ (by kernel_rfl) ?_
    have HN4 : Hid (NetTo w wb.drew B ok g f (l ++ sent f from_ (os.take (i + 1)))) := Lib.hid (by rw [HSL.out, HS0.out, List.append_nil]; exact net_still HST0.out HBw.out (Below.refl _ wb).drew)
    go_wp2_with fail
    go_roundg k1
    case measure => omega
    case rel => exact ⟨i + 1, by first | (rw [hwi]; done) | (simp; done), Lib.hid (by have := HI.out; omega), HN4⟩
end Go.Proofs.Ytkaoojcafefjjaa.Net
