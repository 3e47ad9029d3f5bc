-- Cut.
import Derived.Test.YtlcfcaokihoplaaGreatDoorMsgWCp
import Derived.Lib.Hide
import Derived.BigRegion
namespace Go.Proofs.YtlcfcaokihoplaaGreatDoor.MsgL
open Go.RowKit Go.Proofs.YtlcfcaokihoplaaGreatDoor.Mw Go.Proofs.YzW.PrintWords Go.Proofs.YzW.PrintLast Go.Proofs.YzW.PrintMore
set_option linter.unusedVariables false
set_option linter.unusedSimpArgs false
def RS (T : Nat) (w0 W : World) (g : Nat) (A : Option Addr) (n c : Nat) (at_ : Nat) (bad : Bool) : Prop :=
 W.heap[g]? = some (.cells #[.slice A n c, .int .i64 (at_ : Int), .bool bad] T (0, 0)) ∧ w0.heap.size ≤ g ∧ Below w0.heap.size w0 W
def numOf (l : List Int) (most : Int) (at_ : Nat) (bad : Bool) : Int × Nat × Bool :=
 if bad = true then (0, at_, true) else
 match gat (at_ : Int) (gn most 0 0 (l.drop at_)) with
 | (v, nx, none) => (v, nx.toNat, false)
 | (_, _, some _) => (0, at_, true)
theorem rs_set {T g : Nat} {W : World} {A : Option Addr} {n c at_ : Nat} {bad : Bool} (h : W.heap[g]? = some (.cells #[.slice A n c, .int .i64 (at_ : Int), .bool bad] T (0, 0))) (b : Bool) (at2 : Nat) :
  (W.setCell ⟨g, 2, none⟩ (.bool b)).heap[g]? = some (.cells #[.slice A n c, .int .i64 (at_ : Int), .bool b] T (0, 0)) ∧
  (W.setCell ⟨g, 1, none⟩ (.int .i64 (at2 : Int))).heap[g]? = some (.cells #[.slice A n c, .int .i64 (at2 : Int), .bool bad] T (0, 0)) := by
 constructor
 ·have := dc_ h 2 (.bool b)
  simpa using this
 ·have := dc_ h 1 (.int .i64 (at2 : Int))
  simpa using this
theorem rs_bad {T g : Nat} {w0 W W1 : World} {A : Option Addr} {n c at_ : Nat} {bad : Bool} (hg : W.heap[g]? = some (.cells #[.slice A n c, .int .i64 (at_ : Int), .bool bad] T (0, 0))) (hge : w0.heap.size ≤ g) (hB : Below w0.heap.size w0 W) (hb : Below W.heap.size W W1) (hk : bv_ W W1 (fun k => k = g)) (b : Bool) :
  RS T w0 (W1.setCell ⟨g, 2, none⟩ (.bool b)) g A n c at_ b ∧ bv_ W (W1.setCell ⟨g, 2, none⟩ (.bool b)) (fun k => k = g) ∧ Below w0.heap.size W (W1.setCell ⟨g, 2, none⟩ (.bool b)) := by
 have h1 := s_ hg hb
 have hbb : Below w0.heap.size W W1 := hb.mono hB.size
 exact ⟨⟨(rs_set h1 b 0).1, hge, hB.trans (hbb.setCell hge _)⟩, hk.setCell (.inl rfl) _, hbb.setCell hge _⟩
theorem rs_at {T g : Nat} {w0 W W1 : World} {A : Option Addr} {n c at_ : Nat} {bad : Bool} (h : RS T w0 W1 g A n c at_ bad ∧ bv_ W W1 (fun k => k = g) ∧ Below w0.heap.size W W1) (at2 : Nat) :
  RS T w0 (W1.setCell ⟨g, 1, none⟩ (.int .i64 (at2 : Int))) g A n c at2 bad ∧ bv_ W (W1.setCell ⟨g, 1, none⟩ (.int .i64 (at2 : Int))) (fun k => k = g) ∧ Below w0.heap.size W (W1.setCell ⟨g, 1, none⟩ (.int .i64 (at2 : Int))) := by
 obtain ⟨⟨h1, hge, h2⟩, h3, h4⟩ := h
 exact ⟨⟨(rs_set h1 false at2).2, hge, h2.setCell hge _⟩, h3.setCell (.inl rfl) _, h4.setCell hge _⟩
def big31 : Int := 2147483648
theorem wr_id {v : Int} (h0 : 0 ≤ v) (h1 : v ≤ big31) : wrap64 v = v := by unfold big31 at h1; unfold wrap64; omega
theorem gat_none {a : Int} {r : Int × Int × Option Int} {v nx : Int} (h : gat a r = (v, nx, none)) : r = (v, nx - a, none) := by
 obtain ⟨r1, r2, r3⟩ := r
 unfold gat at h
 cases r3 with
 | none =>
  simp at h
  obtain ⟨rfl, rfl⟩ := h
  simp; omega
 | some z => simp at h
theorem numOf_at {l : List Int} (hb : bytesOk l) (most : Int) (hm : 0 ≤ most) {at_ : Nat} (ha : at_ ≤ l.length) (bad : Bool) : (numOf l most at_ bad).2.1 ≤ l.length ∧ 0 ≤ (numOf l most at_ bad).1 ∧ (numOf l most at_ bad).1 ≤ most := by
 unfold numOf
 cases bad with
 | true => exact ⟨ha, Int.le_refl _, hm⟩
 | false =>
  simp only [Bool.false_eq_true, if_false]
  cases hg : gat (at_ : Int) (gn most 0 0 (l.drop at_)) with
  | mk v r =>
   obtain ⟨nx, er⟩ := r
   cases er with
   | none =>
    have hgn := gat_none hg
    have hb2 := gn_next most (l.drop at_) v (nx - at_) (fun x hx => hb x (List.drop_subset _ _ hx)) hgn
    rw [List.length_drop] at hb2
    refine ⟨?_, hb2.1, hb2.2.1⟩
    show nx.toNat ≤ l.length
    omega
   | some z => exact ⟨ha, Int.le_refl _, hm⟩
theorem RS.below {T g : Nat} {w0 W W' : World} {A : Option Addr} {n c at_ : Nat} {bad : Bool} (h : RS T w0 W g A n c at_ bad) (hb : Below W.heap.size W W') : RS T w0 W' g A n c at_ bad := ⟨s_ h.1 hb, h.2.1, h.2.2.trans (hb.mono h.2.2.size)⟩
def rdOk (l : List Int) (a : Int) : Bool := (l.all fun x => decide (0 ≤ x) && decide (x ≤ 255)) && (decide (l.length ≤ 100000000) && (decide (0 ≤ a) && decide (a ≤ (l.length : Int))))
theorem rdOk_iff {l : List Int} {a : Int} (h : rdOk l a = true) : bytesOk l ∧ l.length ≤ 100000000 ∧ ∃ n : Nat, a = (n : Int) ∧ n ≤ l.length := by
 unfold rdOk at h
 simp only [Bool.and_eq_true, decide_eq_true_eq, List.all_eq_true] at h
 obtain ⟨h1, h2, h3, h4⟩ := h
 exact ⟨fun x hx => h1 x hx, h2, a.toNat, by omega, by omega⟩
theorem rdOk_mk {l : List Int} (hb : bytesOk l) (hl : l.length ≤ 100000000) {n : Nat} (hn : n ≤ l.length) : rdOk l (n : Int) = true := by
 unfold rdOk
 simp only [Bool.and_eq_true, decide_eq_true_eq, List.all_eq_true]
 exact ⟨fun x hx => hb x hx, hl, by omega, by omega⟩
set_option maxHeartbeats 4000000 in
set_option maxRecDepth 100000 in
theorem great_calls (most : Int) (hm : 0 ≤ most ∧ most ≤ big31) (w0 W : World) (g : Nat) (A : Option Addr) (c : Nat) (l : List Int) (at_ : Nat) (bad : Bool) (h : RS 102 w0 W g A l.length c at_ bad) (hC : Kd.C (Kd.int .u8) w0 A l.length l) (hc : l.length ≤ c) (hb : bytesOk l) (hl : l.length ≤ 100000000) (ha : at_ ≤ l.length) :
  Calls Tryz.prog 39 #[.pointer (some ⟨g, 0, none⟩), .int .u64 most] W fun e w' => e = .returned (.int .i64 (numOf l most at_ bad).1) ∧ RS 102 w0 w' g A l.length c (numOf l most at_ bad).2.1 (numOf l most at_ bad).2.2 ∧ bv_ W w' (fun k => k = g) ∧ Below w0.heap.size W w' := by
 obtain ⟨hg, hge, hB⟩ := h
 have hf := getnum_f l at_ most hb ha (by omega) (2 * l.length + 4) (by omega)
 have hcw : ∀ n, Kd.C (Kd.int .u8) (W.drewN n) A l.length l := fun n => Kd.C_drewN (Kd.C_below hC hB) n
 have c0 : W.cell? ⟨g, 0, none⟩ = some (.slice A l.length c) := (b_ hg 0).trans rfl
 have c1 : W.cell? ⟨g, 1, none⟩ = some (.int .i64 (at_ : Int)) := (b_ hg 1).trans rfl
 have c2 : W.cell? ⟨g, 2, none⟩ = some (.bool bad) := (b_ hg 2).trans rfl
 have HG := Lib.hid hg
 have HM := Lib.hid hm
 clear hm
 have HGE := Lib.hid hge
 have HB := Lib.hid hB
 have HC := Lib.hid hcw
 have HF := Lib.hid hf
 clear hg hge hB hC hcw hf
 generalize hq : gat (at_ : Int) (gn most 0 0 (l.drop at_)) = q at HF
 obtain ⟨v, nx, er⟩ := q
 have f1 := a_ HG.out 1
 have f2 := a_ HG.out 2
 have hout : numOf l most at_ bad = if bad = true then (0, at_, true) else match er with | none => (v, nx.toNat, false) | some _ => (0, at_, true) := by
  unfold numOf
  rw [hq]
  cases er <;> rfl
 rw [hout]
 have HQ := Lib.hid hq
 clear hq hout
 cases bad with
 | true =>
  go_enter Tryz.func39, Tryz.ntmps39
  go_wp2
  go_ret
  exact ⟨rfl, rs_bad HG.out HGE.out HB.out (Below.refl _ _) (bv_.refl _ _) true⟩
 | false =>
  go_enter Tryz.func39, Tryz.ntmps39
  go_wp2_with fail
  go_region_with (go_at_call 51; refine (au_.calls (2 * l.length + 4) A c l at_ most v nx er _ (by first | exact HC.out 1 | exact HC.out 0) hc HF.out).mono ?_; rintro e w1 ⟨rfl, ⟨mz, rfl⟩⟩)
  all_goals
   cases er with
   | none =>
    have hgn := gat_none HQ.out
    have hb2 := gn_next most (l.drop at_) v (nx - at_) (fun x hx => hb x (List.drop_subset _ _ hx)) hgn
    obtain ⟨m, rfl⟩ : ∃ m : Nat, nx = m := ⟨nx.toNat, by omega⟩
    have hv : wrap64 v = v := wr_id hb2.1 (Int.le_trans hb2.2.1 HM.out.2)
    clear hb2 hgn
    rw [i_]
    go_wp2
    go_ret
    exact ⟨rfl, rs_at ⟨⟨s_ HG.out (d_ (Below.refl _ _) _), HGE.out, HB.out.trans ((d_ (Below.refl _ _) _).mono HB.out.size)⟩, bv_.drewN (bv_.refl _ _) _, (d_ (Below.refl _ _) _).mono HB.out.size⟩ m⟩
   | some z =>
    rw [g_]
    go_wp2
    go_ret
    exact ⟨rfl, rs_bad HG.out HGE.out HB.out (d_ (Below.refl _ _) _) (bv_.drewN (bv_.refl _ _) _) true⟩
def txtOf (l : List Int) (at_ : Nat) (bad : Bool) : ByteArray × Nat × Bool :=
 if bad = true then (⟨#[]⟩, at_, true) else
 match gn 4096 0 0 (l.drop at_) with
 | (v, c, none) => if (at_ : Int) + c + v > (l.length : Int) then (⟨#[]⟩, at_, true) else (strOfNums ((l.take ((at_ : Int) + c + v).toNat).drop ((at_ : Int) + c).toNat), ((at_ : Int) + c + v).toNat, false)
 | (_, _, some _) => (⟨#[]⟩, at_, true)
set_option maxHeartbeats 4000000 in
set_option maxRecDepth 100000 in
theorem text_calls (w0 W : World) (g : Nat) (A : Option Addr) (c : Nat) (l : List Int) (at_ : Nat) (bad : Bool) (h : RS 102 w0 W g A l.length c at_ bad) (hC : Kd.C (Kd.int .u8) w0 A l.length l) (hc : l.length ≤ c) (hb : bytesOk l) (hl : l.length ≤ 100000000) (ha : at_ ≤ l.length) :
  Calls Tryz.prog 41 #[.pointer (some ⟨g, 0, none⟩)] W fun e w' => e = .returned (.string (txtOf l at_ bad).1) ∧ RS 102 w0 w' g A l.length c (txtOf l at_ bad).2.1 (txtOf l at_ bad).2.2 ∧ bv_ W w' (fun k => k = g) ∧ Below w0.heap.size W w' := by
 obtain ⟨hg, hge, hB⟩ := h
 have hf := gettext_f l at_ 4096 (by omega) (by omega) hb ha (by omega) (2 * l.length + 5) (by omega)
 have hcw : ∀ n, Kd.C (Kd.int .u8) (W.drewN n) A l.length l := fun n => Kd.C_drewN (Kd.C_below hC hB) n
 have c0 : W.cell? ⟨g, 0, none⟩ = some (.slice A l.length c) := (b_ hg 0).trans rfl
 have c1 : W.cell? ⟨g, 1, none⟩ = some (.int .i64 (at_ : Int)) := (b_ hg 1).trans rfl
 have c2 : W.cell? ⟨g, 2, none⟩ = some (.bool bad) := (b_ hg 2).trans rfl
 have HG := Lib.hid hg
 have HGE := Lib.hid hge
 have HB := Lib.hid hB
 have HC := Lib.hid hcw
 clear hg hge hB hC hcw
 have f1 := a_ HG.out 1
 have f2 := a_ HG.out 2
 obtain ⟨s, m, er, hf', hout⟩ : ∃ (s : ByteArray) (m : Nat) (er : Option Int), bz_.f (2 * l.length + 5) l (at_ : Int) 4096 = some (s, (m : Int), er) ∧ txtOf l at_ bad = if bad = true then (⟨#[]⟩, at_, true) else match er with | none => (s, m, false) | some _ => (⟨#[]⟩, at_, true) := by
  rw [hf]
  unfold txtOf
  cases hg : gn 4096 0 0 (l.drop at_) with
  | mk v r =>
   obtain ⟨cc, er⟩ := r
   cases er with
   | none =>
    have hb2 := gn_next 4096 (l.drop at_) v cc (fun x hx => hb x (List.drop_subset _ _ hx)) hg
    simp only
    by_cases hh : (at_ : Int) + cc + v > (l.length : Int)
    ·rw [if_pos hh, if_pos hh]
     exact ⟨_, 0, some 2, rfl, rfl⟩
    ·rw [if_neg hh, if_neg hh]
     refine ⟨_, ((at_ : Int) + cc + v).toNat, none, ?_, rfl⟩
     rw [Int.toNat_of_nonneg (by omega)]
   | some z => exact ⟨_, 0, some z, rfl, rfl⟩
 rw [hout]
 have HF := Lib.hid hf'
 clear hf hf' hout
 cases bad with
 | true =>
  go_enter Tryz.func41, Tryz.ntmps41
  go_wp2
  go_ret
  exact ⟨rfl, rs_bad HG.out HGE.out HB.out (Below.refl _ _) (bv_.refl _ _) true⟩
 | false =>
  go_enter Tryz.func41, Tryz.ntmps41
  go_wp2_with fail
  go_region_with (go_at_call 52; refine (bz_.calls (2 * l.length + 5) A c l at_ 4096 s m er _ (by first | exact HC.out 1 | exact HC.out 0) hc HF.out).mono ?_; rintro e w1 ⟨rfl, ⟨mz, rfl⟩⟩)
  all_goals
   cases er with
   | none =>
    rw [i_]
    go_wp2
    go_ret
    exact ⟨rfl, rs_at ⟨⟨s_ HG.out (d_ (Below.refl _ _) _), HGE.out, HB.out.trans ((d_ (Below.refl _ _) _).mono HB.out.size)⟩, bv_.drewN (bv_.refl _ _) _, (d_ (Below.refl _ _) _).mono HB.out.size⟩ m⟩
   | some z =>
    rw [g_]
    go_wp2
    go_ret
    exact ⟨rfl, rs_bad HG.out HGE.out HB.out (d_ (Below.refl _ _) _) (bv_.drewN (bv_.refl _ _) _) true⟩
end Go.Proofs.YtlcfcaokihoplaaGreatDoor.MsgL
