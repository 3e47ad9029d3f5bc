/-
  The laws of the log: their head. No condition is added.
-/
import Derived.Test.YtbnhoacchibbnaaLog4
import Derived.Test.YtbnhoacchibbnaaLogP
namespace Go.Proofs.Ytbnhoacchibbnaa.Log
open Go.RowKit Go.Proofs.Ytbnhoacchibbnaa.Lw Go.Proofs.Ytbnhoacchibbnaa.Tape Go.Proofs.YtbnhoacchibbnaaW.PrintWords Go.Proofs.YtbnhoacchibbnaaW.PrintLast Go.Proofs.YtbnhoacchibbnaaW.PrintMore
attribute [local go_sem] eqlErr neqErr eqlErrNil neqErrNil
set_option linter.unusedVariables false
set_option linter.unusedSimpArgs false
/-- A log beside a tape: its own blocks are none of the tape's. -/
def LX (W : World) (B : Nat) (okT : Nat → Prop) (q g : Nat) (rs : List (List Int)) (torn : Bool) : Prop := ∃ okX : Nat → Prop, LogAt W B okX q g rs torn ∧ ∀ k, okX k → ¬ okT k
theorem LX.step {W W' : World} {B q g : Nat} {okT okT' S : Nat → Prop} {rs : List (List Int)} {torn : Bool} (h : LX W B okT q g rs torn) (hk : Kept W W' S) (hS : ∀ k, S k → okT k) (ht : ∀ k, okT' k → okT k ∨ W.heap.size ≤ k) : LX W' B okT' q g rs torn := by
  obtain ⟨okX, h1, h2⟩ := h
  refine ⟨fun k => okX k ∧ B ≤ k ∧ k < W.heap.size, h1.bound.kept hk (fun k hk hs => h2 k hk.1 (hS k hs)), fun k hk h3 => ?_⟩
  rcases ht k h3 with h4 | h4
  · exact h2 k hk.1 h4
  · have := hk.2.2; omega
theorem LX.below {W W' : World} {B q g : Nat} {okT : Nat → Prop} {rs : List (List Int)} {torn : Bool} (h : LX W B okT q g rs torn) (hb : Below W.heap.size W W') : LX W' B okT q g rs torn := by
  obtain ⟨okX, h1, h2⟩ := h
  exact ⟨okX, h1.below hb, h2⟩
theorem LX.ptr {W : World} {B q g : Nat} {okT : Nat → Prop} {rs : List (List Int)} {torn : Bool} (h : LX W B okT q g rs torn) : B ≤ q := by
  obtain ⟨okX, h1, h2⟩ := h
  exact h1.1

theorem lx_Open (w : World) (B : Nat) (okT : Nat → Prop) (g : Nat) (l : List Int) (s : Nat) (h : TapeAt w B okT g l s) (hb : bytesOk l) (hB : B ≤ w.heap.size) :
    Calls Try.prog 17 #[.pointer (some ⟨g, 0, none⟩)] w fun e w' => ∃ (q : Nat) (okT' : Nat → Prop), e = .returned (.tuple #[.pointer (some ⟨q, 0, none⟩), .nilIface]) ∧ LX w' B okT' q g (scan l 0).1 false ∧
      TapeAt w' B okT' g (l.take (scan l 0).2) (scan l 0).2 ∧ (∀ k, okT' k → okT k ∨ w.heap.size ≤ k) ∧ Kept w w' okT ∧ Below B w w' := by
  refine (log_Open w B okT g l s h hb).mono ?_
  rintro e w' ⟨q, okL, okT', rfl, hL, hT, h1, h2, h3, h4⟩
  exact ⟨q, okT', rfl, ⟨okL, hL.lower hB, fun k hk => (h1 k hk).1⟩, hT, h2, h3, h4⟩

theorem lx_Records (w : World) (B q g : Nat) (okT : Nat → Prop) (rs : List (List Int)) (torn : Bool) (hL : LX w B okT q g rs torn) (hlen : rs.length ≤ 2000000) (hm : ∀ m ∈ rs, m.length ≤ 100000) :
    Calls Try.prog 20 #[.pointer (some ⟨q, 0, none⟩)] w fun e w' => ∃ A c, e = .returned (.slice A rs.length c) ∧ Kd.R (Kd.slice 5 (Kd.int .u8)) 22 w' w.heap.size (fun _ => True) (.slice A rs.length c) rs ∧ Below w.heap.size w w' := by
  obtain ⟨okX, h1, h2⟩ := hL
  exact log_Records w B q g okX rs torn h1 hlen hm

theorem lit_bytes_nil : bytesOk ([] : List Int) := fun x hx => by cases hx

theorem lit_at {W : World} {k : Nat} {cs : List Int} (hb : W.heap[k]? = some (.cells (cs.map (Value.int .u8)).toArray 5)) (h : cs.length ≤ 9223372036854775807) : Kd.C (Kd.int .u8) W (some ⟨k, 0, none⟩) cs.length cs := by
  refine ⟨rfl, h, fun _ => ⟨_, rfl, fun j p hj => ⟨[.int .u8 p], rfl, rfl, fun i u hi => ?_⟩⟩⟩
  have hi0 : i = 0 := by
    have := (List.getElem?_eq_some_iff.1 hi).1
    simpa using this
  subst hi0
  have hu : u = .int .u8 p := by simpa using hi.symm
  subst hu
  have := blk_cell hb j
  show W.cell? ((⟨k, 0, none⟩ : Addr).add (j * 1 + 0)) = _
  rw [Addr.add_lit, Nat.mul_one, Nat.add_zero, Nat.zero_add, this]
  simp [hj]

set_option maxHeartbeats 4000000 in
set_option maxRecDepth 100000 in
theorem log_up (w : World) : Calls Try.prog 14 #[] w fun e w' => e = .returned (.bool true) ∧ Below w.heap.size w w' := by
  go_enter Try.func14, Try.ntmps14
  go_wp2_with fail
  refine (tape_New _).mono ?_
  rintro e w1 ⟨rfl, ht, hb⟩
  have HT := Lib.hid ht
  have HB := Lib.hid hb
  clear ht hb
  go_wp2_with fail
  refine (log_Open w1 w.heap.size _ w.heap.size [] 0 HT.out lit_bytes_nil).mono ?_
  rintro e w2 ⟨q, okL, okT', rfl, hL, hT, hne, _, _, hb2⟩
  rw [show scan [] 0 = ([], 0) from scan_none rfl] at hL hT
  have HL := Lib.hid (hL.lower HB.out.size)
  have HT2 := Lib.hid hT
  have HNE := Lib.hid (fun k hk => (hne k hk).1)
  have HB2 := Lib.hid (HB.out.trans hb2)
  clear hL hT hne hb2 HT HB
  go_wp2_with fail
  refine (log_Open_nil _).mono ?_
  rintro e w3 ⟨rfl, rfl⟩
  rw [errW_some]
  go_wp2_with fail
  refine (log_Append _ w.heap.size q w.heap.size okL (fun k => okT' k ∧ k < w2.heap.size) [] [] 0 (HL.out.below ((Below.refl _ _).alloc (Nat.le_refl _) _)) (HT2.out.bound.below ((Below.refl _ _).alloc (Nat.le_refl _) _) |>.mono (fun k hk => ⟨hk.1, hk.2.2⟩)) (fun k hk h2 => HNE.out k hk h2.1) (by have := HB2.out.size; simp; omega) (by simp) _ 1 [7] (fun w' hk _ => ?_) (by simp) (by simp) (by simp) (by simp [enc_small])).mono ?_
  · exact lit_at (cs := [7]) (blk_kept (heap_alloc_new w2 _) hk (fun h => by have := h.2; omega)) (by simp)
  rintro e w4 ⟨rfl, okL', okT'', hL, hT, _, _, _, _, hb⟩
  have HT4 := Lib.hid hT
  have HB4 := Lib.hid (HB2.out.alloc HB2.out.size (.cells #[.int .u8 7] 5) |>.trans hb)
  clear hL hT hb HL HT2 HNE
  go_wp2_with fail
  have hl : ([] : List Int) ++ (enc ([7] : List Int).length ++ [7]) = [1, 7] := by simp [enc_small]
  rw [hl] at HT4
  refine (tape_Bytes _ _ _ _ _ _ HT4.out).mono ?_
  rintro e w6 ⟨v, rfl, hr, hb⟩
  obtain ⟨A, c, rfl⟩ := Kd.R_slice hr
  have HB6 := Lib.hid hb
  have hcv := own_string (P := Try.prog) Try.underlying22 Try.underlying5 Try.underlying9 (Kd.own_of_R hr)
  rw [show strOfNums [1, 7] = ({ data := #[1, 7] } : ByteArray) from by decide] at hcv
  simp only [List.length_cons, List.length_nil, Nat.zero_add, Nat.reduceAdd] at hcv
  clear hr hb
  go_wp2
  go_ret
  exact ⟨rfl, HB4.out.trans (HB6.out.mono HB4.out.size)⟩

theorem same_l0 (xs ys : List (List Int)) (hl : xs.length = ys.length) (hx : xs.length ≤ 2000000) : ∀ (m k i : Nat), m = xs.length - i → i ≤ xs.length → m + 1 ≤ k →
    becketlaw06_same.l0 k xs ys (i : Int) = some (decide ((xs.drop i).map (fun x => (strOfNums x).toList) = (ys.drop i).map (fun x => (strOfNums x).toList)))
  | 0, k, i, hm, hi, hk => by
    obtain ⟨k, rfl⟩ : ∃ k', k = k' + 1 := ⟨k - 1, by omega⟩
    unfold becketlaw06_same.l0
    rw [if_neg (by omega), List.drop_eq_nil_of_le (by omega), List.drop_eq_nil_of_le (by omega)]
    simp
  | m + 1, k, i, hm, hi, hk => by
    obtain ⟨k, rfl⟩ : ∃ k', k = k' + 1 := ⟨k - 1, by omega⟩
    have h1 : i < xs.length := by omega
    have h2 : i < ys.length := by omega
    have hw : wrap64 ((i : Int) + 1) = ((i + 1 : Nat) : Int) := by unfold wrap64; omega
    have hr1 : rd_L1 xs (i : Int) = xs[i] := by simp [rd_L1, h1]
    have hr2 : rd_L1 ys (i : Int) = ys[i] := by simp [rd_L1, h2]
    unfold becketlaw06_same.l0
    rw [if_pos (by omega), if_pos (by omega), if_pos (by omega), hr1, hr2, hw, List.drop_eq_getElem_cons h1, List.drop_eq_getElem_cons h2, List.map_cons, List.map_cons]
    by_cases he : (strOfNums xs[i]).toList = (strOfNums ys[i]).toList
    · rw [if_pos he, same_l0 xs ys hl hx m k (i + 1) (by omega) (by omega) (by omega)]
      simp [he]
    · rw [if_neg he]
      simp [he]

/-- What same tells, with enough rounds. -/
theorem same_f (xs ys : List (List Int)) (hx : xs.length ≤ 2000000) (k : Nat) (hk : xs.length + 1 ≤ k) :
    becketlaw06_same.f k xs ys = some (decide (xs.map (fun x => (strOfNums x).toList) = ys.map (fun x => (strOfNums x).toList))) := by
  unfold becketlaw06_same.f
  by_cases h : (xs.length : Int) = (ys.length : Int)
  · rw [if_pos h]
    have := same_l0 xs ys (by omega) hx xs.length k 0 (by omega) (by omega) hk
    rw [List.drop_zero, List.drop_zero] at this
    exact this
  · rw [if_neg h, decide_eq_false]
    intro e
    have := congrArg List.length e
    simp at this
    omega
theorem same_self (xs : List (List Int)) (hx : xs.length ≤ 2000000) : becketlaw06_same.f (xs.length + 1) xs xs = some true := by
  rw [same_f xs xs hx _ (Nat.le_refl _)]; simp

set_option maxHeartbeats 8000000 in
set_option maxRecDepth 100000 in
theorem twice_calls (A0 : Option Addr) (c0 : Nat) (b : List Int) (w : World) (h0 : Kd.C (Kd.int .u8) w A0 b.length b) (k0 : b.length ≤ c0) (hby : bytesOk b) :
    Calls Try.prog 3 #[.slice A0 b.length c0] w fun e w' => e = .returned (.bool true) ∧ Below w.heap.size w w' := by
  have H0 := Lib.hid h0
  clear h0
  by_cases g0 : (5000 : Int) < (b.length : Int)
  · go_enter Try.func3, Try.ntmps3
    go_wp2_with fail
    refine (log_up _).mono ?_
    rintro e w1 ⟨rfl, hb⟩
    have HB := Lib.hid hb
    clear hb
    go_wp2
    go_ret
    exact ⟨rfl, HB.out⟩
  have hd0 : decide ((5000 : Int) < (b.length : Int)) = false := decide_eq_false g0
  have G0 := Lib.hid g0
  have HBY := Lib.hid hby
  have HSC := Lib.hid (scan_take hby)
  clear g0 hby
  go_enter Try.func3, Try.ntmps3
  go_wp2_with fail
  refine (log_up _).mono ?_
  rintro e w1 ⟨rfl, hb⟩
  have HB := Lib.hid hb
  have H0' := Lib.hid (Kd.C_below H0.out hb)
  clear hb H0
  go_wp2_with fail
  refine (tape_New _).mono ?_
  rintro e w2 ⟨rfl, ht, hb⟩
  have HT := Lib.hid ht
  have HB2 := Lib.hid hb
  clear ht hb
  go_wp2_with fail
  refine (tape_Append w2 _ _ _ [] 0 HT.out HB2.out.size A0 c0 b (Kd.C_below H0'.out HB2.out) (by have := G0.out; simp; omega)).mono ?_
  rintro e w3 ⟨rfl, ht⟩
  rw [List.nil_append] at ht
  have HT3 := Lib.hid ht.1
  have HB3 := Lib.hid (HB2.out.trans ht.2.2)
  clear ht HT HB2
  go_wp2_with fail
  refine (lx_Open w3 _ _ _ b 0 HT3.out HBY.out HB3.out.size).mono ?_
  rintro e w4 ⟨q1, okT1, rfl, hx, ht, _, _, hb⟩
  generalize hn : (scan b 0).2 = n at ht
  have HX := Lib.hid hx
  have HT4 := Lib.hid ht
  have HB4 := Lib.hid (HB3.out.trans hb)
  clear hx ht hb HT3 HB3
  have hnl : n ≤ b.length := by rw [← hn]; exact HSC.out.2
  have hsc : scan (b.take n) 0 = scan b 0 := by rw [← hn]; exact HSC.out.1
  have HSA := Lib.hid hsc
  have HN := Lib.hid hn
  have HNL := Lib.hid hnl
  have HBN : Hid (bytesOk (b.take n)) := Lib.hid (fun x hx => HBY.out x (List.mem_of_mem_take hx))
  have HNLEN : Hid ((b.take n).length = n) := Lib.hid (by rw [List.length_take]; omega)
  clear hn hnl hsc HSC
  generalize hxx : b.take n = x at HT4 HSA HBN HNLEN
  have HXT := Lib.hid hxx
  clear hxx
  have hxn : n = x.length := HNLEN.out.symm
  subst hxn
  go_wp2_with fail
  refine (tape_Bytes _ _ _ _ _ _ HT4.out).mono ?_
  rintro e w5 ⟨v, rfl, hr, hb⟩
  obtain ⟨A5, c5, rfl⟩ := Kd.R_slice hr
  have HX5 := Lib.hid (HX.out.below hb)
  have HT5 := Lib.hid (HT4.out.below hb)
  have HB5 := Lib.hid (HB4.out.trans (hb.mono HB4.out.size))
  have hcv := own_string (P := Try.prog) Try.underlying22 Try.underlying5 Try.underlying9 (Kd.own_of_R hr)
  clear hr hb HX HT4 HB4
  go_wp2_with fail
  clear hcv
  refine (lx_Open w5 _ _ _ _ _ HT5.out HBN.out HB5.out.size).mono ?_
  rintro e w6 ⟨q2, okT2, rfl, hy, ht, hsub, hk, hb⟩
  rw [HSA.out] at hy ht
  rw [HN.out, List.take_length] at ht
  have HX6 := Lib.hid (HX5.out.step hk (fun k hk => hk) hsub)
  have HY6 := Lib.hid hy
  have HT6 := Lib.hid ht
  have HB6 := Lib.hid (HB5.out.trans hb)
  clear hy ht hsub hk hb HX5 HT5 HB5
  go_wp2_with fail
  refine (tape_Bytes _ _ _ _ _ _ HT6.out).mono ?_
  rintro e w7 ⟨v, rfl, hr, hb⟩
  obtain ⟨A7, c7, rfl⟩ := Kd.R_slice hr
  have HX7 := Lib.hid (HX6.out.below hb)
  have HY7 := Lib.hid (HY6.out.below hb)
  have hB7 := HB6.out.trans (hb.mono HB6.out.size)
  have HB7 := Lib.hid hB7
  have hcv := own_string (P := Try.prog) Try.underlying22 Try.underlying5 Try.underlying9 (Kd.own_of_R hr)
  have hsz : (strOfNums x).size = x.length := strOfNums_size x
  have hci : ∃ i0, (Try.prog.info? 5) = some i0 ∧ i0.size = 1 := by obtain ⟨i0, h1, h2⟩ := Option.map_eq_some_iff.1 info5; exact ⟨i0, h1, by simp only [Prod.mk.injEq] at h2; exact h2.2.1⟩
  obtain ⟨i0, hi0, hsz0⟩ := hci
  have hle : (x.length : Int) ≤ (b.length : Int) := by have := HNL.out; omega
  have hdl : decide ((x.length : Int) ≤ (b.length : Int)) = true := decide_eq_true hle
  have hdl2 : decide ((b.length : Int) < (x.length : Int)) = false := decide_eq_false (by omega)
  have cut1 := cut_to (P := Try.prog) 22 5 .i64 Try.underlying22 hi0 A0 b.length c0 (x.length : Int) (by omega) hle k0
  rw [Int.toNat_natCast] at cut1
  have hs1 := Kd.C_take (m := x.length) (Kd.C_below H0'.out hB7) HNL.out
  rw [HXT.out] at hs1
  have hc1 := Kd.C_string (P := Try.prog) (c := c0) Try.underlying22 Try.underlying5 Try.underlying9 hs1
  clear hr hb hB7 hs1 hi0 hsz0
  go_wp2_with fail
  go_wp2_with fail
  clear hc1 hcv hsz cut1 hdl hdl2 hle
  have hrl : (scan b 0).1.length ≤ 2000000 ∧ ∀ m ∈ (scan b 0).1, m.length ≤ 100000 := by
    obtain ⟨rs, q, h1, h2, h3⟩ := scan_form b.length [] b (Nat.le_refl _) HBY.out
    rw [List.nil_append, List.length_nil, Nat.zero_add] at h3
    rw [h3]
    refine ⟨?_, fun m hm => by have := (h1 m hm).2; omega⟩
    have := scan_le HBY.out b.length 0 (by omega) (by omega)
    rw [h3] at this
    have h4 := G0.out
    simp only at this ⊢
    omega
  refine (lx_Records _ _ _ _ _ _ _ HX7.out hrl.1 hrl.2).mono ?_
  rintro e w8 ⟨A8, c8, rfl, hr, hb⟩
  have HR8 := Lib.hid hr
  have HY8 := Lib.hid (HY7.out.below hb)
  have HB8 := Lib.hid (HB7.out.trans (hb.mono HB7.out.size))
  clear hr hb HX7 HY7 HB7
  go_wp2_with fail
  refine (lx_Records _ _ _ _ _ _ _ HY8.out hrl.1 hrl.2).mono ?_
  rintro e w9 ⟨A9, c9, rfl, hr, hb⟩
  have HR9 := Lib.hid hr
  have HR8' := Lib.hid (Kd.R_below HR8.out hb)
  have HB9 := Lib.hid (HB8.out.trans (hb.mono HB8.out.size))
  clear hr hb HR8 HY8 HB8
  go_wp2_with fail
  refine (becketlaw06_same.calls _ A8 c8 _ A9 c9 _ true w9 (Kd.R_reads' HR8'.out).2.2 (Kd.R_reads' HR8'.out).2.1 (Kd.R_reads' HR9.out).2.2 (Kd.R_reads' HR9.out).2.1 (same_self _ hrl.1)).mono ?_
  rintro e w10 ⟨rfl, ⟨m, rfl⟩⟩
  go_wp2
  go_ret
  exact ⟨rfl, HB.out.trans ((pw_below_drewN HB9.out m).mono HB.out.size)⟩
end Go.Proofs.Ytbnhoacchibbnaa.Log
