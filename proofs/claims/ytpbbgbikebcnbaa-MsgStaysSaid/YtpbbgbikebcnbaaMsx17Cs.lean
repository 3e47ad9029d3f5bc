-- Cut by a program of this session (wip/shake.py) out of a text of this seat: what this claim doesn't reach is struck out. Lean checks it.
import Derived.Test.YtpbbgbikebcnbaaMsx0Cs
import Derived.Test.YtpbbgbikebcnbaaMsx7Cs
import Derived.Test.YtpbbgbikebcnbaaMsx15Cs
import Derived.Test.YtpbbgbikebcnbaaMsx16Cs
namespace Go.Proofs.Ytpbbgbikebcnbaa.Ms
open Go.RowKit Go.Proofs.YtpbbgbikebcnbaaW.PrintWords Go.Proofs.YtpbbgbikebcnbaaW.PrintLast Go.Proofs.YtpbbgbikebcnbaaW.PrintMore
attribute [local go_sem] max2_int min2_int max_two min_two max_three min_three max_four min_four   -- for this text's walks alone
set_option linter.unusedVariables false
set_option linter.unusedSimpArgs false
attribute [local go_sem] eqlErr neqErr eqlErrNil neqErrNil
open Go.Proofs.Ytpbbgbikebcnbaa.Mw
def sameC (x y : S61) : Bool := (x.f0 == y.f0) && ((x.f1 == y.f1) && samePs x.f2 y.f2)
def sameCs : List S61 → List S61 → Bool
  | [], [] => true
  | x :: xs, y :: ys => sameC x y && sameCs xs ys
  | [], _ :: _ => false
  | _ :: _, [] => false
theorem sameC_iff (x y : S61) : sameC x y = true ↔ x = y := by
  obtain ⟨a, b, c⟩ := x
  obtain ⟨a', b', c'⟩ := y
  unfold sameC
  simp only [Bool.and_eq_true, beq_iff_eq, samePs_iff]
  constructor
  · rintro ⟨rfl, rfl, rfl⟩; rfl
  · intro h
    injection h with h1 h2 h3
    exact ⟨h1, h2, h3⟩
theorem sameCs_iff : ∀ l m, sameCs l m = true ↔ l = m
  | [], [] => by simp [sameCs]
  | x :: xs, y :: ys => by simp [sameCs, sameC_iff, sameCs_iff xs ys]
  | [], _ :: _ => by simp [sameCs]
  | _ :: _, [] => by simp [sameCs]
theorem sameCs_no {l m : List S61} {j : Nat} {x y} (h1 : l[j]? = some x) (h2 : m[j]? = some y) (h : sameC x y = false) : sameCs l m = false := by
  rw [← Bool.not_eq_true]
  intro hc
  have := (sameCs_iff l m).1 hc
  rw [this, h2] at h1
  cases h1
  rw [(sameC_iff x x).2 rfl] at h
  cases h
theorem sameCs_yes {l m : List S61} (hl : l.length = m.length) (h : ∀ (j : Nat) (x y : S61), l[j]? = some x → m[j]? = some y → sameC x y = true) : sameCs l m = true := by
  rw [sameCs_iff]
  apply List.ext_getElem hl
  intro j h1 h2
  exact (sameC_iff _ _).1 (h j _ _ (List.getElem?_eq_getElem h1) (List.getElem?_eq_getElem h2))
theorem sameCs_len {l m : List S61} (hl : l.length ≠ m.length) : sameCs l m = false := by
  rw [← Bool.not_eq_true, sameCs_iff]
  exact fun e => hl (by rw [e])
def sameM (a b c d : Int) (s : ByteArray) (ps : List S95) (cs : List S61) (a' b' c' d' : Int) (s' : ByteArray) (ps' : List S95) (cs' : List S61) : Bool :=
  (a == a') && ((b == b') && ((c == c') && ((d == d') && ((s.toList == s'.toList) && (samePs ps ps' && sameCs cs cs')))))
theorem change_at {w : World} {A : Option Addr} {l : List S61} (hC : Kd.C k61 w A l.length l) (hpos : 0 < l.length) : ∃ b off, A = some ⟨b, off, none⟩ ∧ ∀ j x, l[j]? = some x → ∃ A3 c3,
    w.cell? ⟨b, off + j * 3, none⟩ = some (.int .i64 x.f0) ∧ w.cell? ⟨b, off + j * 3 + 1, none⟩ = some (.int .i64 x.f1) ∧ w.cell? ⟨b, off + j * 3 + 2, none⟩ = some (.slice A3 x.f2.length c3) ∧ x.f2.length ≤ c3 ∧ Kd.C k95 w A3 x.f2.length x.f2 := by
  obtain ⟨b, off, e, _, h⟩ := Go.Proofs.Ytpbbgbikebcnbaa.MsgC.row_at (d := k61) (by decide) hC hpos
  refine ⟨b, off, e, fun j x hj => ?_⟩
  obtain ⟨cs, h1, h2, h3⟩ := h j x hj
  obtain ⟨A3, c3, rfl, h5, h6⟩ := k61_open h2
  exact ⟨A3, c3, h3 0 _ rfl, h3 1 _ rfl, h3 2 _ rfl, h5, h6⟩
theorem drawn_below {b : Nat} {w W W' : World} (h : Below b w W) (hd : Drawn0 W W') : Below b w W' := by
  obtain ⟨m, rfl⟩ := hd
  exact pw_below_drewN h m
theorem drawn_cell {W W' : World} (h : Drawn0 W W') (p : Addr) : W'.cell? p = W.cell? p := by
  obtain ⟨m, rfl⟩ := h
  simp
def becketref12_Same.f (a0_0 : Int) (a0_1 : Int) (a0_2 : Int) (a0_3 : Int) (a0_4 : ByteArray) (l0_5 : List S95) (l0_6 : List S61) (a1_0 : Int) (a1_1 : Int) (a1_2 : Int) (a1_3 : Int) (a1_4 : ByteArray) (l1_5 : List S95) (l1_6 : List S61) : Option Bool := some (sameM a0_0 a0_1 a0_2 a0_3 a0_4 l0_5 l0_6 a1_0 a1_1 a1_2 a1_3 a1_4 l1_5 l1_6)
set_option maxHeartbeats 8000000 in
set_option maxRecDepth 100000 in
theorem becketref12_Same.calls (a0_0 : Int) (a0_1 : Int) (a0_2 : Int) (a0_3 : Int) (a0_4 : ByteArray) (A0_5 : Option Addr) (c0_5 : Nat) (l0_5 : List S95) (A0_6 : Option Addr) (c0_6 : Nat) (l0_6 : List S61) (a1_0 : Int) (a1_1 : Int) (a1_2 : Int) (a1_3 : Int) (a1_4 : ByteArray) (A1_5 : Option Addr) (c1_5 : Nat) (l1_5 : List S95) (A1_6 : Option Addr) (c1_6 : Nat) (l1_6 : List S61) (r : Bool) (w : World) (hr0_5 : Kd.C k95 w A0_5 l0_5.length l0_5) (hc0_5 : l0_5.length ≤ c0_5) (hr0_6 : Kd.C k61 w A0_6 l0_6.length l0_6) (hc0_6 : l0_6.length ≤ c0_6) (hr1_5 : Kd.C k95 w A1_5 l1_5.length l1_5) (hc1_5 : l1_5.length ≤ c1_5) (hr1_6 : Kd.C k61 w A1_6 l1_6.length l1_6) (hc1_6 : l1_6.length ≤ c1_6) (h : becketref12_Same.f a0_0 a0_1 a0_2 a0_3 a0_4 l0_5 l0_6 a1_0 a1_1 a1_2 a1_3 a1_4 l1_5 l1_6 = some r) :
    Calls Try.prog 18 #[.agg #[.int .i64 a0_0, .int .i64 a0_1, .int .i64 a0_2, .int .i64 a0_3, .string a0_4, .slice A0_5 l0_5.length c0_5, .slice A0_6 l0_6.length c0_6], .agg #[.int .i64 a1_0, .int .i64 a1_1, .int .i64 a1_2, .int .i64 a1_3, .string a1_4, .slice A1_5 l1_5.length c1_5, .slice A1_6 l1_6.length c1_6]] w fun e w' => e = .returned (.bool r) ∧ Below w.heap.size w w' := by
  obtain rfl := Option.some.inj h
  clear h
  have HM : Hid (sameM a0_0 a0_1 a0_2 a0_3 a0_4 l0_5 l0_6 a1_0 a1_1 a1_2 a1_3 a1_4 l1_5 l1_6 = ((a0_0 == a1_0) && ((a0_1 == a1_1) && ((a0_2 == a1_2) && ((a0_3 == a1_3) && ((a0_4.toList == a1_4.toList) && (samePs l0_5 l1_5 && sameCs l0_6 l1_6))))))) := Lib.hid rfl
  generalize hO : w.alloc (.cells #[.int .i64 a0_0, .int .i64 a0_1, .int .i64 a0_2, .int .i64 a0_3, .string a0_4, .slice A0_5 l0_5.length c0_5, .slice A0_6 l0_6.length c0_6] 25) = w1
  have hb1 : Below w.heap.size w w1 := by rw [← hO]; exact (Below.refl _ w).alloc (Nat.le_refl _) _
  have hz1 : w1.heap.size = w.heap.size + 1 := by rw [← hO]; simp
  have hg1 : w1.heap[w.heap.size]? = some (.cells #[.int .i64 a0_0, .int .i64 a0_1, .int .i64 a0_2, .int .i64 a0_3, .string a0_4, .slice A0_5 l0_5.length c0_5, .slice A0_6 l0_6.length c0_6] 25 (0, 0)) := by rw [← hO]; exact heap_alloc_new w _
  generalize hW : w1.alloc (.cells #[.int .i64 a1_0, .int .i64 a1_1, .int .i64 a1_2, .int .i64 a1_3, .string a1_4, .slice A1_5 l1_5.length c1_5, .slice A1_6 l1_6.length c1_6] 25) = W
  have hbW : Below w1.heap.size w1 W := by rw [← hW]; exact (Below.refl _ w1).alloc (Nat.le_refl _) _
  have hgB : W.heap[w.heap.size + 1]? = some (.cells #[.int .i64 a1_0, .int .i64 a1_1, .int .i64 a1_2, .int .i64 a1_3, .string a1_4, .slice A1_5 l1_5.length c1_5, .slice A1_6 l1_6.length c1_6] 25 (0, 0)) := by rw [← hW, ← hz1]; exact heap_alloc_new w1 _
  have hgA := blk_below hg1 hbW
  have HBW := Lib.hid (hb1.trans (hbW.mono hb1.size))
  have x0 := ((blk_cell hgA 0).trans rfl : W.cell? ⟨w.heap.size, 0, none⟩ = some (.int .i64 a0_0))
  have y0 := ((blk_cell hgB 0).trans rfl : W.cell? ⟨w.heap.size + 1, 0, none⟩ = some (.int .i64 a1_0))
  have x1 := ((blk_cell hgA 1).trans rfl : W.cell? ⟨w.heap.size, 1, none⟩ = some (.int .i64 a0_1))
  have y1 := ((blk_cell hgB 1).trans rfl : W.cell? ⟨w.heap.size + 1, 1, none⟩ = some (.int .i64 a1_1))
  have x2 := ((blk_cell hgA 2).trans rfl : W.cell? ⟨w.heap.size, 2, none⟩ = some (.int .i64 a0_2))
  have y2 := ((blk_cell hgB 2).trans rfl : W.cell? ⟨w.heap.size + 1, 2, none⟩ = some (.int .i64 a1_2))
  have x3 := ((blk_cell hgA 3).trans rfl : W.cell? ⟨w.heap.size, 3, none⟩ = some (.int .i64 a0_3))
  have y3 := ((blk_cell hgB 3).trans rfl : W.cell? ⟨w.heap.size + 1, 3, none⟩ = some (.int .i64 a1_3))
  have x4 := ((blk_cell hgA 4).trans rfl : W.cell? ⟨w.heap.size, 4, none⟩ = some (.string a0_4))
  have y4 := ((blk_cell hgB 4).trans rfl : W.cell? ⟨w.heap.size + 1, 4, none⟩ = some (.string a1_4))
  have x5 := ((blk_cell hgA 5).trans rfl : W.cell? ⟨w.heap.size, 5, none⟩ = some (.slice A0_5 l0_5.length c0_5))
  have y5 := ((blk_cell hgB 5).trans rfl : W.cell? ⟨w.heap.size + 1, 5, none⟩ = some (.slice A1_5 l1_5.length c1_5))
  have x6 := ((blk_cell hgA 6).trans rfl : W.cell? ⟨w.heap.size, 6, none⟩ = some (.slice A0_6 l0_6.length c0_6))
  have y6 := ((blk_cell hgB 6).trans rfl : W.cell? ⟨w.heap.size + 1, 6, none⟩ = some (.slice A1_6 l1_6.length c1_6))
  have h05 := Kd.C_below hr0_5 HBW.out
  have h06 := Kd.C_below hr0_6 HBW.out
  have h15 := Kd.C_below hr1_5 HBW.out
  have h16 := Kd.C_below hr1_6 HBW.out
  have HI : Hid (Calls Try.prog 45 #[.slice A0_5 l0_5.length c0_5, .slice A1_5 l1_5.length c1_5] W fun e w' => e = .returned (.bool (samePs l0_5 l1_5)) ∧ Drawn0 W w') := Lib.hid (becketref12_SameProofs.calls A0_5 c0_5 l0_5 A1_5 c1_5 l1_5 _ W h05 hc0_5 h15 hc1_5 rfl)
  have HP0 := Lib.hid (fun W' (hW : Drawn0 W W') h => change_at (drawn_C hW h06) h)
  have HP1 := Lib.hid (fun W' (hW : Drawn0 W W') h => change_at (drawn_C hW h16) h)
  have HX6 := Lib.hid x6
  have HY6 := Lib.hid y6
  have HBig := Lib.hid hr0_6.2.1
  have HH1 := Lib.hid (And.intro hO hW)
  clear hgA hgB hg1 hbW hb1 hr0_5 hr0_6 hr1_5 hr1_6 h05 h06 h15 h16 hc0_5 hc0_6 hc1_5 hc1_6 hO hW
  by_cases e0 : a0_0 = a1_0
  rotate_left
  · have d0 : (a0_0 == a1_0) = false := beq_eq_false_iff_ne.2 e0
    have d0' : (a0_0 != a1_0) = true := bne_iff_ne.2 e0
    have HE : Hid ((a0_0 == a1_0) = false) := Lib.hid d0
    clear e0
    go_enter Try.func18, Try.ntmps18
    go_wp2_with fail
    rw [HH1.out.1]
    rw [HH1.out.2]
    go_wp2_with fail
    go_ret
    refine ⟨?_, HBW.out⟩
    rw [HM.out]
    simp only [HE.out, Bool.false_and, Bool.and_false]
    rfl
  have d0 : (a0_0 == a1_0) = true := beq_iff_eq.2 e0
  have d0' : (a0_0 != a1_0) = false := bne_eq_false_iff_eq.2 e0
  have HE0 := Lib.hid d0
  clear e0
  by_cases e1 : a0_1 = a1_1
  rotate_left
  · have d1 : (a0_1 == a1_1) = false := beq_eq_false_iff_ne.2 e1
    have d1' : (a0_1 != a1_1) = true := bne_iff_ne.2 e1
    have HE : Hid ((a0_1 == a1_1) = false) := Lib.hid d1
    clear e1
    go_enter Try.func18, Try.ntmps18
    go_wp2_with fail
    rw [HH1.out.1]
    rw [HH1.out.2]
    go_wp2_with fail
    go_ret
    refine ⟨?_, HBW.out⟩
    rw [HM.out]
    simp only [HE.out, Bool.false_and, Bool.and_false]
    rfl
  have d1 : (a0_1 == a1_1) = true := beq_iff_eq.2 e1
  have d1' : (a0_1 != a1_1) = false := bne_eq_false_iff_eq.2 e1
  have HE1 := Lib.hid d1
  clear e1
  by_cases e2 : a0_2 = a1_2
  rotate_left
  · have d2 : (a0_2 == a1_2) = false := beq_eq_false_iff_ne.2 e2
    have d2' : (a0_2 != a1_2) = true := bne_iff_ne.2 e2
    have HE : Hid ((a0_2 == a1_2) = false) := Lib.hid d2
    clear e2
    go_enter Try.func18, Try.ntmps18
    go_wp2_with fail
    rw [HH1.out.1]
    rw [HH1.out.2]
    go_wp2_with fail
    go_ret
    refine ⟨?_, HBW.out⟩
    rw [HM.out]
    simp only [HE.out, Bool.false_and, Bool.and_false]
    rfl
  have d2 : (a0_2 == a1_2) = true := beq_iff_eq.2 e2
  have d2' : (a0_2 != a1_2) = false := bne_eq_false_iff_eq.2 e2
  have HE2 := Lib.hid d2
  clear e2
  by_cases e3 : a0_3 = a1_3
  rotate_left
  · have d3 : (a0_3 == a1_3) = false := beq_eq_false_iff_ne.2 e3
    have d3' : (a0_3 != a1_3) = true := bne_iff_ne.2 e3
    have HE : Hid ((a0_3 == a1_3) = false) := Lib.hid d3
    clear e3
    go_enter Try.func18, Try.ntmps18
    go_wp2_with fail
    rw [HH1.out.1]
    rw [HH1.out.2]
    go_wp2_with fail
    go_ret
    refine ⟨?_, HBW.out⟩
    rw [HM.out]
    simp only [HE.out, Bool.false_and, Bool.and_false]
    rfl
  have d3 : (a0_3 == a1_3) = true := beq_iff_eq.2 e3
  have d3' : (a0_3 != a1_3) = false := bne_eq_false_iff_eq.2 e3
  have HE3 := Lib.hid d3
  clear e3
  by_cases e4 : a0_4.toList = a1_4.toList
  rotate_left
  · have d4 : (a0_4.toList == a1_4.toList) = false := beq_eq_false_iff_ne.2 e4
    have d4' : (a0_4.toList != a1_4.toList) = true := bne_iff_ne.2 e4
    have HE : Hid ((a0_4.toList == a1_4.toList) = false) := Lib.hid d4
    clear e4
    go_enter Try.func18, Try.ntmps18
    go_wp2_with fail
    rw [HH1.out.1]
    rw [HH1.out.2]
    go_wp2_with fail
    go_ret
    refine ⟨?_, HBW.out⟩
    rw [HM.out]
    simp only [HE.out, Bool.false_and, Bool.and_false]
    rfl
  have d4 : (a0_4.toList == a1_4.toList) = true := beq_iff_eq.2 e4
  have d4' : (a0_4.toList != a1_4.toList) = false := bne_eq_false_iff_eq.2 e4
  have HE4 := Lib.hid d4
  clear e4
  generalize hq : samePs l0_5 l1_5 = q at HI
  have HQ := Lib.hid hq
  clear hq
  cases q with
  | false =>
    go_enter Try.func18, Try.ntmps18
    go_wp2_with fail
    rw [HH1.out.1]
    rw [HH1.out.2]
    go_wp2_with fail
    refine HI.out.mono ?_
    rintro e w2 ⟨rfl, ⟨m1, rfl⟩⟩
    go_wp2
    go_ret
    refine ⟨?_, pw_below_drewN HBW.out _⟩
    rw [HM.out, HQ.out]
    simp only [Bool.false_and, Bool.and_false]
    rfl
  | true =>
    by_cases hl : l0_6.length = l1_6.length
    rotate_left
    · have dl : (((l0_6.length : Nat) : Int) == ((l1_6.length : Nat) : Int)) = false := beq_eq_false_iff_ne.2 (by omega)
      have dl' : (((l0_6.length : Nat) : Int) != ((l1_6.length : Nat) : Int)) = true := bne_iff_ne.2 (by omega)
      have HLL := Lib.hid hl
      clear hl
      go_enter Try.func18, Try.ntmps18
      go_wp2_with fail
      rw [HH1.out.1]
      rw [HH1.out.2]
      go_wp2_with fail
      refine HI.out.mono ?_
      rintro e w2 ⟨rfl, ⟨m1, rfl⟩⟩
      go_wp2
      go_ret
      refine ⟨?_, pw_below_drewN HBW.out _⟩
      rw [HM.out, sameCs_len HLL.out]
      simp only [Bool.false_and, Bool.and_false]
      rfl
    have dl : (((l0_6.length : Nat) : Int) == ((l1_6.length : Nat) : Int)) = true := beq_iff_eq.2 (by omega)
    have dl' : (((l0_6.length : Nat) : Int) != ((l1_6.length : Nat) : Int)) = false := bne_eq_false_iff_eq.2 (by omega)
    have HLL := Lib.hid hl
    clear hl
    go_enter Try.func18, Try.ntmps18
    go_wp2_with fail
    rw [HH1.out.1]
    rw [HH1.out.2]
    go_wp2_with fail
    refine HI.out.mono ?_
    rintro e w2 ⟨rfl, ⟨m1, rfl⟩⟩
    go_wp2
    have hn : ∃ n, n = l0_6.length := ⟨_, rfl⟩
    obtain ⟨n, hn⟩ := hn
    have HN := Lib.hid hn
    clear x0 x1 x2 x3 x4 x5 x6 y0 y1 y2 y3 y4 y5 y6 dl dl'
    rw [← HN.out] at HX6 HP0 HBig
    rw [← HLL.out, ← HN.out] at HY6 HP1
    have hbig := HBig.out
    clear hn
    go_loopg [5] n (fun gg s5 wr => ∃ kk : Nat, kk ≤ n ∧ n - kk ≤ gg ∧ s5 = .int .i64 kk ∧ Hid (Drawn0 W wr) ∧ Hid (∀ j x y, j < kk → l0_6[j]? = some x → l1_6[j]? = some y → sameC x y = true))
    case atStart => exact ⟨0, Nat.zero_le _, by omega, rfl, Lib.hid ⟨_, rfl⟩, Lib.hid (fun j x y hj => absurd hj (Nat.not_lt_zero _))⟩
    case round =>
      obtain ⟨kk, hkk, hg, rfl, BW, AL⟩ := hrel
      have x6 := (drawn_cell BW.out _).trans HX6.out
      have y6 := (drawn_cell BW.out _).trans HY6.out
      by_cases hlt : kk < n
      · have hltz : (kk : Int) < (n : Int) := by omega
        obtain ⟨b0, o0, rfl, hx0⟩ := HP0.out wr BW.out (by omega)
        obtain ⟨b1, o1, rfl, hx1⟩ := HP1.out wr BW.out (by omega)
        have hk0 : kk < l0_6.length := by rw [← HN.out]; exact hlt
        have hk1 : kk < l1_6.length := by rw [← HLL.out]; exact hk0
        obtain ⟨x, hx⟩ : ∃ x, l0_6[kk]? = some x := ⟨_, List.getElem?_eq_getElem hk0⟩
        obtain ⟨y, hy⟩ : ∃ y, l1_6[kk]? = some y := ⟨_, List.getElem?_eq_getElem hk1⟩
        obtain ⟨A3, c3, f0, f1, f2, f4, f5⟩ := hx0 kk x hx
        obtain ⟨A4, c4, g0, g1, g2, g4, g5⟩ := hx1 kk y hy
        have HJ : Hid (∀ m, Calls Try.prog 45 #[.slice A3 x.f2.length c3, .slice A4 y.f2.length c4] (wr.drewN m) fun e w' => e = .returned (.bool (samePs x.f2 y.f2)) ∧ Drawn0 (wr.drewN m) w') := Lib.hid (fun m => becketref12_SameProofs.calls A3 c3 x.f2 A4 c4 y.f2 _ (wr.drewN m) (Kd.C_drewN f5 m) f4 (Kd.C_drewN g5 m) g4 rfl)
        have HX := Lib.hid hx
        have HY := Lib.hid hy
        have HS : Hid (sameC x y = ((x.f0 == y.f0) && ((x.f1 == y.f1) && samePs x.f2 y.f2))) := Lib.hid rfl
        clear f4 f5 g4 g5 hx hy hx0 hx1 hk0 hk1
        obtain ⟨v0, v1, v2⟩ := x
        obtain ⟨u0, u1, u2⟩ := y
        dsimp only at *
        generalize hq : samePs v2 u2 = q at *
        clear hq
        by_cases e0 : v0 = u0
        rotate_left
        · have d0 : (v0 == u0) = false := beq_eq_false_iff_ne.2 e0
          have d0' : (v0 != u0) = true := bne_iff_ne.2 e0
          have HE : Hid ((v0 == u0) = false) := Lib.hid d0
          clear e0
          go_wp2_with fail
          repeat (go_quiet (fail); try go_wp2)
          go_ret
          refine ⟨?_, drawn_below HBW.out (drawn_step BW.out _)⟩
          rw [HM.out, sameCs_no HX.out HY.out (by rw [HS.out]; simp only [HE.out, Bool.false_and, Bool.and_false])]
          simp only [Bool.false_and, Bool.and_false]
          rfl
        have d0 : (v0 == u0) = true := beq_iff_eq.2 e0
        have d0' : (v0 != u0) = false := bne_eq_false_iff_eq.2 e0
        have HF0 := Lib.hid d0
        clear e0
        by_cases e1 : v1 = u1
        rotate_left
        · have d1 : (v1 == u1) = false := beq_eq_false_iff_ne.2 e1
          have d1' : (v1 != u1) = true := bne_iff_ne.2 e1
          have HE : Hid ((v1 == u1) = false) := Lib.hid d1
          clear e1
          go_wp2_with fail
          repeat (go_quiet (fail); try go_wp2)
          go_ret
          refine ⟨?_, drawn_below HBW.out (drawn_step BW.out _)⟩
          rw [HM.out, sameCs_no HX.out HY.out (by rw [HS.out]; simp only [HE.out, Bool.false_and, Bool.and_false])]
          simp only [Bool.false_and, Bool.and_false]
          rfl
        have d1 : (v1 == u1) = true := beq_iff_eq.2 e1
        have d1' : (v1 != u1) = false := bne_eq_false_iff_eq.2 e1
        have HF1 := Lib.hid d1
        clear e1
        cases q with
        | false =>
          go_wp2_with fail
          repeat (go_quiet ((go_at_call 45; exact quietD (HJ.out _))); try go_wp2)
          go_ret
          refine ⟨?_, drawn_below HBW.out (drawn_step BW.out _)⟩
          rw [HM.out, sameCs_no HX.out HY.out (by rw [HS.out]; simp only [Bool.false_and, Bool.and_false])]
          simp only [Bool.false_and, Bool.and_false]
          rfl
        | true =>
          go_wp2_with fail
          repeat (go_quiet ((go_at_call 45; exact quietD (HJ.out _))); try go_wp2)
          go_roundg (n - (kk + 1))
          case measure => omega
          case rel =>
            refine ⟨kk + 1, by omega, by omega, by go_num, Lib.hid (drawn_step BW.out _), Lib.hid (fun j x y hj hx hy => ?_)⟩
            by_cases e : j = kk
            · subst e
              rw [HX.out] at hx
              rw [HY.out] at hy
              cases hx
              cases hy
              rw [HS.out, HF0.out, HF1.out]
              rfl
            · exact AL.out j x y (by omega) hx hy
      · have hltz : ¬ (kk : Int) < (n : Int) := by omega
        have : kk = n := by omega
        subst this
        go_wp2
        go_ret
        refine ⟨?_, drawn_below HBW.out BW.out⟩
        rw [HM.out, HE0.out, HE1.out, HE2.out, HE3.out, HE4.out, HQ.out, sameCs_yes HLL.out (fun j x y hx hy => AL.out j x y (by rw [HN.out]; exact (List.getElem?_eq_some_iff.1 hx).1) hx hy)]
        rfl
end Go.Proofs.Ytpbbgbikebcnbaa.Ms
