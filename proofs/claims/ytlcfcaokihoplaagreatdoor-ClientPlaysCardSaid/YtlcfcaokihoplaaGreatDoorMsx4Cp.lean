-- Cut.
import Derived.Test.YtlcfcaokihoplaaGreatDoorMsx1Cp
namespace Go.Proofs.YtlcfcaokihoplaaGreatDoor.Ms
open Go.RowKit Go.Proofs.YzW.PrintWords Go.Proofs.YzW.PrintLast Go.Proofs.YzW.PrintMore
attribute [local go_sem] cg_ ce_ cw_ cv_ by_ bx_ cf_ cd_
set_option linter.unusedVariables false
set_option linter.unusedSimpArgs false
attribute [local go_sem] eqlErr neqErr eqlErrNil neqErrNil
open Go.Proofs.YtlcfcaokihoplaaGreatDoor.Mw
def bb_.l0 : Nat → List Int → Int → Int → Int → Option (Int)
 | 0, _, _, _, _ => none
 | k + 1, x0, x1, x7, x8 => if x8 < x7 then (if 0 ≤ x8 then (if x8 < (x0.length : Int) then (if x1 = (rd x0 x8) then (some x8) else (bb_.l0 k x0 x1 x7 (wrap64 (x8 + 1)))) else (none)) else (none)) else (some (-1))
def bb_.f (k : Nat) (l0 : List Int) (a1 : Int) : Option (Int) := bb_.l0 k l0 a1 (l0.length : Int) 0
set_option maxHeartbeats 8000000 in
set_option maxRecDepth 100000 in
theorem bb_.calls (k : Nat) (A0 : Option Addr) (c0 : Nat) (l0 : List Int) (a1 : Int) (r : Int) (w : World) (hr0 : Kd.C (Kd.int .i64) w A0 l0.length l0) (hc0 : l0.length ≤ c0) (h : bb_.f k l0 a1 = some r) :
  Calls Tryz.prog 63 #[.slice A0 l0.length c0, .int .i64 a1] w fun e w' => e = .returned (.int .i64 r) ∧ ax_ w w' := by
 have HR0 := c_.mk hr0
 have HC0 := c_.mk hc0
 clear hr0 hc0
 have H : (bb_.l0 k l0 a1 (l0.length : Int) 0) = some r := h
 clear h
 have H' := c_.mk H
 clear H
 go_enter Tryz.func63, Tryz.ntmps63
 go_wp2
 go_loopg [8] k (fun kq v8 w' => ∃ (x8_1 : Int), v8 = .int .i64 x8_1 ∧ c_ (bb_.l0 kq l0 a1 (l0.length : Int) x8_1 = some r) ∧ c_ (kq ≤ k) ∧ ax_ w w')
 case atStart => exact ⟨(0), (by first | rfl | (simp; done) | (simp [*]; done)), H', ⟨Nat.le_refl _⟩, by repeat (first | exact ax_.refl _ | apply ax_.step)⟩
 case round =>
  clear H'
  try clear p2
  obtain ⟨x8_1, rfl, HA, HK1, ⟨m1, rfl⟩⟩ := hrel
  cases gk with
  | zero => exact absurd HA.out (by simp [bb_.l0])
  | succ k1 =>
   have H := HA.out
   clear HA
   simp only [bb_.l0] at H
   by_cases c3 : x8_1 < (l0.length : Int)
   ·rw [if_pos c3] at H
    have c3b0 : decide (x8_1 < (l0.length : Int)) = true := decide_eq_true c3
    clear c3
    by_cases c4 : 0 ≤ x8_1
    ·rw [if_pos c4] at H
     have c4b0 : decide (0 ≤ x8_1) = true := decide_eq_true c4
     clear c4
     by_cases c5 : x8_1 < (l0.length : Int)
     ·rw [if_pos c5] at H
      have c5b0 : decide (x8_1 < (l0.length : Int)) = true := decide_eq_true c5
      clear c5
      by_cases c6 : a1 = (rd l0 x8_1)
      ·rw [if_pos c6] at H
       have c6b0 : (a1 == (rd l0 x8_1)) = true := beq_iff_eq.mpr c6
       have c6b1 : (a1 != (rd l0 x8_1)) = false := bne_eq_false_iff_eq.mpr c6
       clear c6
       obtain rfl := Option.some.inj H
       have p133 : 0 ≤ (x8_1 : Int) := of_decide_eq_true (by first | (with_reducible assumption) | assumption)
       have q133 : x8_1 < (l0.length : Int) := of_decide_eq_true (by first | (with_reducible assumption) | assumption)
       obtain ⟨ad133, e133, hx133_0⟩ := Kd.at_int HR0.out x8_1 p133 q133
       cases e133
       replace p133 := eq_true p133
       replace q133 := eq_true q133
       go_wp2
       go_ret
       exact eD_
      ·rw [if_neg c6] at H
       have c6b0 : (a1 == (rd l0 x8_1)) = false := beq_eq_false_iff_ne.mpr c6
       have c6b1 : (a1 != (rd l0 x8_1)) = true := bne_iff_ne.mpr c6
       have H' := c_.mk H
       clear H
       have p133 : 0 ≤ (x8_1 : Int) := of_decide_eq_true (by first | (with_reducible assumption) | assumption)
       have q133 : x8_1 < (l0.length : Int) := of_decide_eq_true (by first | (with_reducible assumption) | assumption)
       obtain ⟨ad133, e133, hx133_0⟩ := Kd.at_int HR0.out x8_1 p133 q133
       cases e133
       replace p133 := eq_true p133
       replace q133 := eq_true q133
       go_wp2
       go_roundg k1
       case measure => have := HK1.out; omega
       case rel => exact ⟨(wrap64 (x8_1 + 1)), (by first | rfl | (simp; done) | (simp [*]; done)), H', ⟨by have := HK1.out; omega⟩, by repeat (first | exact ax_.refl _ | apply ax_.step)⟩
     ·rw [if_neg c5] at H
      exact absurd H (by simp)
    ·rw [if_neg c4] at H
     exact absurd H (by simp)
   ·rw [if_neg c3] at H
    have c3b0 : decide (x8_1 < (l0.length : Int)) = false := decide_eq_false c3
    clear c3
    obtain rfl := Option.some.inj H
    go_wp2
    go_ret
    exact eD_
def bs_.f (k : Nat) (l0 : List Int) (a1 : Int) : Option (Bool) := (bb_.f k l0 a1).bind fun t134 => (some (decide (t134 ≥ 0)))
set_option maxHeartbeats 8000000 in
set_option maxRecDepth 100000 in
theorem bs_.calls (k : Nat) (A0 : Option Addr) (c0 : Nat) (l0 : List Int) (a1 : Int) (r : Bool) (w : World) (hr0 : Kd.C (Kd.int .i64) w A0 l0.length l0) (hc0 : l0.length ≤ c0) (h : bs_.f k l0 a1 = some r) :
  Calls Tryz.prog 53 #[.slice A0 l0.length c0, .int .i64 a1] w fun e w' => e = .returned (.bool r) ∧ ax_ w w' := by
 have HR0 := c_.mk hr0
 have HC0 := c_.mk hc0
 clear hr0 hc0
 have H : ((bb_.f k l0 a1).bind fun t134 => (some (decide (t134 ≥ 0)))) = some r := h
 clear h
 replace H := Option.bind_eq_some_iff.mp H
 obtain ⟨t134, A30, H⟩ := H
 replace H : (some (decide (t134 ≥ 0))) = some r := H
 have A3 := c_.mk A30
 clear A30
 obtain rfl := Option.some.inj H
 go_enter Tryz.func53, Tryz.ntmps53
 go_wp2_with (first | ((with_reducible refine ah_ (f := 63) rfl ?_); refine bm_ (some 7) rfl rfl Tryz.func63 (by kernel_rfl) rfl #[.slice A0 l0.length c0, .int .i64 a1] rfl (by (try simp only [List.map_toArray, List.map_cons, List.map_nil]); first | done | rfl | (simp only [List.length_drop, List.length_take]; rfl)) ?_; (with_reducible refine (bb_.calls k _ _ l0 a1 t134 _ ?side1 ?side2 A3.out).mono ?_); (case side1 => repeat (first | exact HR0.out | (with_reducible refine Kd.C_alloc ?_ _) | (with_reducible refine Kd.C_drewN ?_ _) | (with_reducible refine Kd.C_drew ?_))); (case side2 => exact HC0.out); rintro e w' ⟨rfl, ⟨nd, rfl⟩⟩; refine ⟨_, rfl, ?_⟩))
 go_ret
 exact eD_
def co_.f (l0 : List Int) : Option (List Int) := if l0.length < 4611686018427387904 then some (l0.mergeSort fun x y => decide (x ≤ y)) else none
theorem co_.calls (P0_ : Nat → Prop) (u9000_ : Value) (l0 : List Int) (r : List Int) (w0 w : World) (hB : Below w0.heap.size w0 w) (ho0 : Kd.R (Kd.int .i64) 3 w w0.heap.size P0_ u9000_ l0) (h : co_.f l0 = some r) :
  Calls Tryz.prog 54 #[u9000_] w fun e w' => e = .returned (.tuple #[]) ∧ Kd.R (Kd.int .i64) 3 w' w0.heap.size (fun k_ => (P0_ k_ ∨ w.heap.size ≤ k_)) u9000_ r ∧ Below w0.heap.size w0 w' ∧ bv_ w w' (fun k_ => P0_ k_) := by
 unfold co_.f at h
 split at h
 next hlen =>
  obtain rfl := Option.some.inj h
  rcases Nat.eq_zero_or_pos l0.length with h0 | h0
  ·obtain rfl : l0 = [] := List.length_eq_zero_iff.1 h0
   obtain ⟨A, c, rfl⟩ := Kd.R_slice ho0
   refine (Tryz.slices_Sort_int_none A c w).mono ?_
   rintro e w' ⟨rfl, rfl⟩
   exact ⟨rfl, Kd.R_mono (by simpa using ho0) (fun k hk => .inl hk), hB, bv_.refl _ _⟩
  ·obtain ⟨g, cap, rfl, hg, hgs, _⟩ := Kd.R_form ho0 h0
   have hok := ho0.1
   have hown : w.ownsRow w0.heap.size 3 1 (.slice (some ⟨g, 0, none⟩) l0.length cap) l0.length (l0.map (Value.int .i64)) := Kd.own_of_R ho0
   rcases hown.2 with ⟨h1, _⟩ | ⟨g', cap', cur, hv, hg', hb, hn, hcap, hsz, hcur⟩
   ·cases h1
   cases hv
   have hH : Go.Sort.Holds (Value.int .i64) w g 0 l0.toArray := holds_of_blockI hb (by simpa using hcur)
   refine (Tryz.slices_Sort_int g 0 cap l0 w hH hgs hlen).mono ?_
   rintro e w' ⟨rfl, n, os, rfl⟩
   have hl : (l0.mergeSort fun x y => decide (x ≤ y)).length = l0.length := List.length_mergeSort _
   have hgr := grownBy_sortedI (w := w) (g := g) (n := n) (os := os) (l0.mergeSort fun x y => decide (x ≤ y)).toArray
   have hown2 := ownsRow_sortedI (n := n) (os := os) (ts := l0.mergeSort fun x y => decide (x ≤ y)) hl hg' hb hn hcap (by simpa using hsz)
   refine ⟨rfl, ?_, hB.grown hgr hB.size (fun k hk => by cases hk; exact hg'), ?_⟩
   ·exact Kd.R_of_own (enc := Value.int .i64) (h1 := fun _ => rfl) (by rw [hl]; exact hown2) (fun k hk => Or.inl (hok k hk))
   ·exact bv_.of_grown hgr (bv_.refl w _) (fun k hk => .inl (hok k (by cases hk; rfl)))
 next => exact absurd h (by simp)
def ci_.l0 : Nat → ByteArray → List Int → List (S80) → Int → Int → Option (List Int)
 | 0, _, _, _, _, _ => none
 | k + 1, x1, x5, x8, x9, x10 => if x10 < x9 then (if 0 ≤ x10 then (if x10 < (x8.length : Int) then (if ((cx_ x8 x10).f1).toList = x1.toList then ((bs_.f k x5 ((cx_ x8 x10).f0)).bind fun t137 => (if t137 = true then (ci_.l0 k x1 x5 x8 x9 (wrap64 (x10 + 1))) else (if x5.length < 17592186044416 then (ci_.l0 k x1 (x5 ++ [(cx_ x8 x10).f0]) x8 x9 (wrap64 (x10 + 1))) else (none)))) else (ci_.l0 k x1 x5 x8 x9 (wrap64 (x10 + 1)))) else (none)) else (none)) else ((co_.f x5).bind fun t141 => (some t141))
def ci_.f (k : Nat) (l0 : List (S80)) (a1 : ByteArray) : Option (List Int) := ci_.l0 k a1 ([] : List Int) l0 (l0.length : Int) 0
set_option maxHeartbeats 8000000 in
set_option maxRecDepth 100000 in
theorem ci_.calls (k : Nat) (A0 : Option Addr) (c0 : Nat) (l0 : List (S80)) (a1 : ByteArray) (r : List Int) (w : World) (hr0 : Kd.C k80 w A0 l0.length l0) (hc0 : l0.length ≤ c0) (h : ci_.f k l0 a1 = some r) :
  Calls Tryz.prog 42 #[.slice A0 l0.length c0, .string a1] w fun e w' => ∃ v0_ : Value, e = .returned (v0_) ∧ Kd.R (Kd.int .i64) 3 w' w.heap.size (fun _ => True) v0_ r ∧ Below w.heap.size w w' := by
 have hu80 := Tryz.underlying80
 have HR0 := c_.mk hr0
 have HC0 := c_.mk hc0
 clear hr0 hc0
 have HB := c_.mk (Below.refl w.heap.size w)
 have H : (ci_.l0 k a1 ([] : List Int) l0 (l0.length : Int) 0) = some r := h
 clear h
 have H' := c_.mk H
 clear H
 go_enter Tryz.func42, Tryz.ntmps42
 go_wp2
 go_loopg [5, 10] k (fun kq v5 v10 w' => ∃ (x5_1 : List Int) (x10_1 : Int), v10 = .int .i64 x10_1 ∧ c_ (ci_.l0 kq a1 x5_1 l0 (l0.length : Int) x10_1 = some r) ∧ c_ (kq ≤ k) ∧ c_ (Kd.R (Kd.int .i64) 3 w' w.heap.size (fun _ => True) v5 x5_1) ∧ c_ (Below w.heap.size w w'))
 case atStart => exact ⟨(([] : List Int)), (0), (by first | rfl | (simp; done) | (simp [*]; done)), H', ⟨Nat.le_refl _⟩, ⟨by first | exact Kd.R_nil _ _ _ _ _ | exact Kd.N_nil _ _ _ _ _ | exact Kd.V_nil _ _ _ _ _ | exact Kd.Q_nil _ _ _ _ _ | exact Kd.S_nil _ _ _ _ _⟩, ⟨HB.out⟩⟩
 case round =>
  clear H'
  try clear p2
  obtain ⟨x5_1, x10_1, rfl, HA, HK1, HO_5, HB⟩ := hrel
  cases gk with
  | zero => exact absurd HA.out (by simp [ci_.l0])
  | succ k1 =>
   have H := HA.out
   clear HA
   simp only [ci_.l0] at H
   by_cases c3 : x10_1 < (l0.length : Int)
   ·rw [if_pos c3] at H
    have c3b0 : decide (x10_1 < (l0.length : Int)) = true := decide_eq_true c3
    clear c3
    by_cases c4 : 0 ≤ x10_1
    ·rw [if_pos c4] at H
     have c4b0 : decide (0 ≤ x10_1) = true := decide_eq_true c4
     clear c4
     by_cases c5 : x10_1 < (l0.length : Int)
     ·rw [if_pos c5] at H
      have c5b0 : decide (x10_1 < (l0.length : Int)) = true := decide_eq_true c5
      clear c5
      by_cases c6 : ((cx_ l0 x10_1).f1).toList = a1.toList
      ·rw [if_pos c6] at H
       have c6b0 : (((cx_ l0 x10_1).f1).toList == a1.toList) = true := beq_iff_eq.mpr c6
       have c6b1 : (((cx_ l0 x10_1).f1).toList != a1.toList) = false := bne_eq_false_iff_eq.mpr c6
       clear c6
       replace H := Option.bind_eq_some_iff.mp H
       obtain ⟨t137, A70, H⟩ := H
       replace H : (if t137 = true then (ci_.l0 k1 a1 x5_1 l0 (l0.length : Int) (wrap64 (x10_1 + 1))) else (if x5_1.length < 17592186044416 then (ci_.l0 k1 a1 (x5_1 ++ [(cx_ l0 x10_1).f0]) l0 (l0.length : Int) (wrap64 (x10_1 + 1))) else (none))) = some r := H
       have A7 := c_.mk A70
       clear A70
       by_cases c8 : t137 = true
       ·subst c8
        have H1 : (ci_.l0 k1 a1 x5_1 l0 (l0.length : Int) (wrap64 (x10_1 + 1))) = some r := by first | (rw [if_pos rfl] at H; with_reducible exact H) | exact (if_pos rfl).symm.trans H | (simp only [if_true, eq_self_iff_true] at H ⊢; exact H)
        clear H
        have H := H1
        clear H1
        have H' := c_.mk H
        clear H
        have p135 : 0 ≤ (x10_1 : Int) := of_decide_eq_true (by first | (with_reducible assumption) | assumption)
        have q135 : x10_1 < (l0.length : Int) := of_decide_eq_true (by first | (with_reducible assumption) | assumption)
        obtain ⟨ad135, e135, hx135_0, hx135_1⟩ := at_T80 HR0.out x10_1 p135 q135
        cases e135
        replace hx135_0 := (HB.out.cell (World.block_lt_of_cell? w _ hx135_0)).trans hx135_0
        replace hx135_1 := (HB.out.cell (World.block_lt_of_cell? w _ hx135_1)).trans hx135_1
        replace p135 := eq_true p135
        replace q135 := eq_true q135
        go_wp2_with (first | ((with_reducible refine be_ (N := 7) rfl ?_); refine bd_ ?hg (N := 7) ?hd (cs := #[.int .i64 0, .string (⟨#[]⟩ : ByteArray)]) (t := 80) ?hr ?_; (case hd => rfl); (case hg => rfl); (case hr => first | (go_simp; done) | (go_simp; rfl)); intro gb136 hg w9 hbox hb; have n0_ := c_.mk (Kd.R_below (HO_5.out) hb); have n1_ := c_.mk (ac_ (HB.out) hb); have n2_ := c_.mk (hbox); have n3_ := c_.mk ((by rw [hg]; exact (v_ (HB.out)) : w.heap.size ≤ gb136)); have n4_ := c_.mk ((by rw [hg]; exact (v_ (HB.out)) : w.heap.size ≤ gb136)); clear HO_5; clear HB; have HO_5 := n0_; have HB := n1_; have BK136 := n2_; have GW136 := n3_; have GE136 := n4_; clear n0_ n1_ n2_ n3_ n4_; clear hb hbox hg; have hcz10_0 : w9.cell? ⟨gb136, 0, none⟩ = some (.int .i64 0) := (b_ BK136.out 0).trans rfl; have hcz10_1 : w9.cell? ⟨gb136, 1, none⟩ = some (.string (⟨#[]⟩ : ByteArray)) := (b_ BK136.out 1).trans rfl; have hfz10_0 := a_ BK136.out 0; have hfz10_1 := a_ BK136.out 1; obtain ⟨Ao11, co11, eo11⟩ := Kd.R_slice HO_5.out; subst eo11) | (go_at_call 53; (with_reducible refine (bs_.calls k1 _ _ x5_1 ((cx_ l0 x10_1).f0) true _ ?side1 ?side2 A7.out).mono ?_); (case side1 => refine (Kd.R_reads' (e := 3) (base := w.heap.size) (ok := fun k_ => True) (n := x5_1.length) (c := co11) ?_).2.2; exact ((Kd.R_mono (Kd.R_far (p := ⟨gb136, 1, none⟩) (Kd.R_far (p := ⟨gb136, 0, none⟩) (Kd.R_types HO_5.out BK136.out (by decide)) (fun _ hk => hk.2) (.int .i64 ((cx_ l0 x10_1).f0))) (fun _ hk => hk.2) (.string ((cx_ l0 x10_1).f1))) (fun _ h_ => h_.1)))); (case side2 => exact (Kd.R_reads' HO_5.out).2.1); rintro e w' ⟨rfl, ⟨nd, rfl⟩⟩))
        go_roundg k1
        case measure => have := HK1.out; omega
        case rel => exact ⟨(x5_1), (wrap64 (x10_1 + 1)), (by first | rfl | (simp; done) | (simp [*]; done)), H', ⟨by have := HK1.out; omega⟩, ⟨by (with_reducible repeat (first | apply Kd.R_alloc | apply Kd.R_drewN | apply Kd.R_drew)); exact Kd.R_mono (Kd.R_far (p := ⟨gb136, 1, none⟩) (Kd.R_far (p := ⟨gb136, 0, none⟩) (Kd.R_types HO_5.out BK136.out (by decide)) (fun _ hk => hk.2) (.int .i64 ((cx_ l0 x10_1).f0))) (fun _ hk => hk.2) (.string ((cx_ l0 x10_1).f1))) (fun _ hk => trivial)⟩, ⟨by repeat (first | (with_reducible first | exact HB.out | apply l_ | apply d_ | apply m_ | refine f_ ?_ GE136.out) | exact HB.out)⟩⟩
       ·replace c8 := Bool.eq_false_iff.mpr c8
        subst c8
        have H1 : (if x5_1.length < 17592186044416 then (ci_.l0 k1 a1 (x5_1 ++ [(cx_ l0 x10_1).f0]) l0 (l0.length : Int) (wrap64 (x10_1 + 1))) else (none)) = some r := by rw [if_neg (show ¬ (false = true) by decide)] at H; exact H
        clear H
        have H := H1
        clear H1
        by_cases c12 : x5_1.length < 17592186044416
        ·rw [if_pos c12] at H
         have LMc12 := c_.mk c12
         clear c12
         obtain ⟨y138, hy138⟩ : ∃ y_ : List Int, y_ = (x5_1 ++ [(cx_ l0 x10_1).f0]) := ⟨_, rfl⟩
         replace H : (ci_.l0 k1 a1 y138 l0 (l0.length : Int) (wrap64 (x10_1 + 1))) = some r := by first | (rw [hy138]; with_reducible exact H) | (have H2_ := (Option.bind_some _ _).symm.trans H; rw [hy138]; with_reducible exact H2_) | (have H2_ := (Option.bind_some _ _).symm.trans H; with_reducible exact H2_) | with_reducible exact H | (rw [hy138]; exact H) | exact H
         have Ny138 := c_.mk hy138
         clear hy138
         have H' := c_.mk H
         clear H
         have p135 : 0 ≤ (x10_1 : Int) := of_decide_eq_true (by first | (with_reducible assumption) | assumption)
         have q135 : x10_1 < (l0.length : Int) := of_decide_eq_true (by first | (with_reducible assumption) | assumption)
         obtain ⟨ad135, e135, hx135_0, hx135_1⟩ := at_T80 HR0.out x10_1 p135 q135
         cases e135
         replace hx135_0 := (HB.out.cell (World.block_lt_of_cell? w _ hx135_0)).trans hx135_0
         replace hx135_1 := (HB.out.cell (World.block_lt_of_cell? w _ hx135_1)).trans hx135_1
         replace p135 := eq_true p135
         replace q135 := eq_true q135
         go_wp2_with (first | ((with_reducible refine be_ (N := 7) rfl ?_); refine bd_ ?hg (N := 7) ?hd (cs := #[.int .i64 0, .string (⟨#[]⟩ : ByteArray)]) (t := 80) ?hr ?_; (case hd => rfl); (case hg => rfl); (case hr => first | (go_simp; done) | (go_simp; rfl)); intro gb136 hg w13 hbox hb; have n0_ := c_.mk (Kd.R_below (by (with_reducible repeat (first | apply Kd.R_alloc | apply Kd.R_drewN | apply Kd.R_drew)); exact HO_5.out) hb); have n1_ := c_.mk (ac_ (by repeat (first | (with_reducible first | exact HB.out | apply l_ | apply d_ | apply m_) | exact HB.out)) hb); have n2_ := c_.mk (hbox); have n3_ := c_.mk ((by rw [hg]; exact (v_ (by repeat (first | (with_reducible first | exact HB.out | apply l_ | apply d_ | apply m_) | exact HB.out))) : w.heap.size ≤ gb136)); have n4_ := c_.mk ((by rw [hg]; exact (v_ (by repeat (first | (with_reducible first | exact HB.out | apply l_ | apply d_ | apply m_) | exact HB.out))) : w.heap.size ≤ gb136)); clear HO_5; clear HB; have HO_5 := n0_; have HB := n1_; have BK136 := n2_; have GW136 := n3_; have GE136 := n4_; clear n0_ n1_ n2_ n3_ n4_; clear hb hbox hg; have hcz14_0 : w13.cell? ⟨gb136, 0, none⟩ = some (.int .i64 0) := (b_ BK136.out 0).trans rfl; have hcz14_1 : w13.cell? ⟨gb136, 1, none⟩ = some (.string (⟨#[]⟩ : ByteArray)) := (b_ BK136.out 1).trans rfl; have hfz14_0 := a_ BK136.out 0; have hfz14_1 := a_ BK136.out 1; obtain ⟨Ao15, co15, eo15⟩ := Kd.R_slice HO_5.out; subst eo15) | (go_at_call 53; (with_reducible refine (bs_.calls k1 _ _ x5_1 ((cx_ l0 x10_1).f0) false _ ?side1 ?side2 A7.out).mono ?_); (case side1 => refine (Kd.R_reads' (e := 3) (base := w.heap.size) (ok := fun k_ => True) (n := x5_1.length) (c := co15) ?_).2.2; exact (by (with_reducible repeat (first | apply Kd.R_alloc | apply Kd.R_drewN | apply Kd.R_drew)); exact (Kd.R_mono (Kd.R_far (p := ⟨gb136, 1, none⟩) (Kd.R_far (p := ⟨gb136, 0, none⟩) (Kd.R_types HO_5.out BK136.out (by decide)) (fun _ hk => hk.2) (.int .i64 ((cx_ l0 x10_1).f0))) (fun _ hk => hk.2) (.string ((cx_ l0 x10_1).f1))) (fun _ h_ => h_.1)))); (case side2 => exact (Kd.R_reads' HO_5.out).2.1); rintro e w' ⟨rfl, ⟨nd, rfl⟩⟩) | ((with_reducible refine bw_ (b := .append) (xs := #[.tmp 25, .tmp 28]) rfl ?_); at_builtin; refine Kd.R_append (Kd.int .i64) (w0 := w) w.heap.size rfl (.tmp 25) (.tmp 28) 31 3 (.int .i64 0) 8 rfl Tryz.underlying31 info3 rfl (by decide) (by omega) (.slice Ao15 x5_1.length co15) x5_1 ((cx_ l0 x10_1).f0) [.int .i64 ((cx_ l0 x10_1).f0)] (fun _ => True) (fun _ => False) rfl (by first | (go_simp; done) | (go_simp; rfl)) ?aP (fun _ hk => hk.elim) ?aF ?aO ?aB ?aS ?aL ?_; (case aP => exact rfl); (case aB => exact (by repeat (first | (with_reducible first | exact HB.out | apply l_ | apply d_ | apply m_ | refine f_ ?_ GE136.out) | exact HB.out))); (case aF => exact (fun _ _ => trivial)); (case aO => exact (by (with_reducible repeat (first | apply Kd.R_alloc | apply Kd.R_drewN | apply Kd.R_drew)); exact Kd.R_mono (Kd.R_far (p := ⟨gb136, 1, none⟩) (Kd.R_far (p := ⟨gb136, 0, none⟩) (Kd.R_types HO_5.out BK136.out (by decide)) (fun _ hk => hk.2) (.int .i64 ((cx_ l0 x10_1).f0))) (fun _ hk => hk.2) (.string ((cx_ l0 x10_1).f1))) (fun _ hk => trivial))); (case aS => exact (v_ (by repeat (first | (with_reducible first | exact HB.out | apply l_ | apply d_ | apply m_ | refine f_ ?_ GE136.out) | exact HB.out)))); (case aL => have := LMc12.out; omega); intro v139 w16 ho hb hg hat; rw [← Ny138.out] at ho; have n0_ := c_.mk (bu_ (g := gb136) (o := .cells #[.int .i64 ((cx_ l0 x10_1).f0), .string ((cx_ l0 x10_1).f1)] 80 (0, 0)) (by (with_reducible repeat (first | refine u_ ?_ _ | refine o_ ?_ | refine x_ ?_ _)); refine bh_ (cs := #[.int .i64 ((cx_ l0 x10_1).f0), .string (⟨#[]⟩ : ByteArray)]) ?_ 1 _ rfl; (with_reducible repeat (first | refine u_ ?_ _ | refine o_ ?_ | refine x_ ?_ _)); refine bh_ (cs := #[.int .i64 0, .string (⟨#[]⟩ : ByteArray)]) ?_ 0 _ rfl; (with_reducible repeat (first | refine u_ ?_ _ | refine o_ ?_ | refine x_ ?_ _)); exact BK136.out) hg (Kd.R_ne HO_5.out BK136.out (by decide))); have n1_ := c_.mk (hb); have n2_ := c_.mk (ho); clear BK136; clear HB; clear HO_5; have BK136 := n0_; have HB := n1_; have HO140 := n2_; clear n0_ n1_ n2_; clear ho hb hg hat))
         go_roundg k1
         case measure => have := HK1.out; omega
         case rel => exact ⟨(y138), (wrap64 (x10_1 + 1)), (by first | rfl | (simp; done) | (simp [*]; done)), H', ⟨by have := HK1.out; omega⟩, ⟨HO140.out⟩, ⟨HB.out⟩⟩
        ·rw [if_neg c12] at H
         exact absurd H (by simp)
      ·rw [if_neg c6] at H
       have c6b0 : (((cx_ l0 x10_1).f1).toList == a1.toList) = false := beq_eq_false_iff_ne.mpr c6
       have c6b1 : (((cx_ l0 x10_1).f1).toList != a1.toList) = true := bne_iff_ne.mpr c6
       have H' := c_.mk H
       clear H
       have p135 : 0 ≤ (x10_1 : Int) := of_decide_eq_true (by first | (with_reducible assumption) | assumption)
       have q135 : x10_1 < (l0.length : Int) := of_decide_eq_true (by first | (with_reducible assumption) | assumption)
       obtain ⟨ad135, e135, hx135_0, hx135_1⟩ := at_T80 HR0.out x10_1 p135 q135
       cases e135
       replace hx135_0 := (HB.out.cell (World.block_lt_of_cell? w _ hx135_0)).trans hx135_0
       replace hx135_1 := (HB.out.cell (World.block_lt_of_cell? w _ hx135_1)).trans hx135_1
       replace p135 := eq_true p135
       replace q135 := eq_true q135
       go_wp2_with (first | ((with_reducible refine be_ (N := 7) rfl ?_); refine bd_ ?hg (N := 7) ?hd (cs := #[.int .i64 0, .string (⟨#[]⟩ : ByteArray)]) (t := 80) ?hr ?_; (case hd => rfl); (case hg => rfl); (case hr => first | (go_simp; done) | (go_simp; rfl)); intro gb136 hg w17 hbox hb; have n0_ := c_.mk (Kd.R_below (HO_5.out) hb); have n1_ := c_.mk (ac_ (HB.out) hb); have n2_ := c_.mk (hbox); have n3_ := c_.mk ((by rw [hg]; exact (v_ (HB.out)) : w.heap.size ≤ gb136)); have n4_ := c_.mk ((by rw [hg]; exact (v_ (HB.out)) : w.heap.size ≤ gb136)); clear HO_5; clear HB; have HO_5 := n0_; have HB := n1_; have BK136 := n2_; have GW136 := n3_; have GE136 := n4_; clear n0_ n1_ n2_ n3_ n4_; clear hb hbox hg; have hcz18_0 : w17.cell? ⟨gb136, 0, none⟩ = some (.int .i64 0) := (b_ BK136.out 0).trans rfl; have hcz18_1 : w17.cell? ⟨gb136, 1, none⟩ = some (.string (⟨#[]⟩ : ByteArray)) := (b_ BK136.out 1).trans rfl; have hfz18_0 := a_ BK136.out 0; have hfz18_1 := a_ BK136.out 1))
       go_roundg k1
       case measure => have := HK1.out; omega
       case rel => exact ⟨(x5_1), (wrap64 (x10_1 + 1)), (by first | rfl | (simp; done) | (simp [*]; done)), H', ⟨by have := HK1.out; omega⟩, ⟨by (with_reducible repeat (first | apply Kd.R_alloc | apply Kd.R_drewN | apply Kd.R_drew)); exact Kd.R_mono (Kd.R_far (p := ⟨gb136, 1, none⟩) (Kd.R_far (p := ⟨gb136, 0, none⟩) (Kd.R_types HO_5.out BK136.out (by decide)) (fun _ hk => hk.2) (.int .i64 ((cx_ l0 x10_1).f0))) (fun _ hk => hk.2) (.string ((cx_ l0 x10_1).f1))) (fun _ hk => trivial)⟩, ⟨by repeat (first | (with_reducible first | exact HB.out | apply l_ | apply d_ | apply m_ | refine f_ ?_ GE136.out) | exact HB.out)⟩⟩
     ·rw [if_neg c5] at H
      exact absurd H (by simp)
    ·rw [if_neg c4] at H
     exact absurd H (by simp)
   ·rw [if_neg c3] at H
    have c3b0 : decide (x10_1 < (l0.length : Int)) = false := decide_eq_false c3
    clear c3
    replace H := Option.bind_eq_some_iff.mp H
    obtain ⟨t141, A190, H⟩ := H
    replace H : (some t141) = some r := H
    have A19 := c_.mk A190
    clear A190
    obtain rfl := Option.some.inj H
    obtain ⟨Ao20, co20, eo20⟩ := Kd.R_slice HO_5.out
    subst eo20
    go_wp2_with (first | ((with_reducible refine ah_ (f := 54) rfl ?_); refine bm_ (some 32) rfl rfl Tryz.func54 (by kernel_rfl) rfl #[.slice Ao20 x5_1.length co20] rfl (by (try simp only [List.map_toArray, List.map_cons, List.map_nil]); first | done | rfl | (simp only [List.length_drop, List.length_take]; rfl)) ?_; (with_reducible refine (co_.calls (fun k_ => some k_ = (.slice Ao20 x5_1.length co20 : Value).ownBlock) (.slice Ao20 x5_1.length co20) x5_1 t141 w _ ?side1 ?side2 A19.out).mono ?_); (case side1 => repeat (first | (with_reducible first | exact HB.out | apply l_ | apply d_ | apply m_) | exact HB.out)); (case side2 => exact Kd.R_tight rfl HO_5.out); rintro e w21 ⟨rfl, hy0, hb, hkp⟩; refine ⟨_, rfl, ?_⟩; have n0_ := c_.mk (Kd.R_reok rfl hy0 (fun k_ e_ => HO_5.out.1 k_ e_)); have n1_ := c_.mk (hb); clear HO_5; clear HB; have HO_5 := n0_; have HB := n1_; clear n0_ n1_; (try clear hb); (try clear hkp); (try clear hy0)))
    go_ret
    exact ⟨_, by first | rfl | (simp [i_, g_] <;> rfl) | (simp [*, i_, g_] <;> rfl), HO_5.out, HB.out⟩
def vote_Count.f (k : Nat) (l0 : List (S80)) (a1 : ByteArray) : Option (Int) := (ci_.f k l0 a1).bind fun t142 => (some (t142.length : Int))
set_option maxHeartbeats 8000000 in
set_option maxRecDepth 100000 in
theorem vote_Count.calls (k : Nat) (A0 : Option Addr) (c0 : Nat) (l0 : List (S80)) (a1 : ByteArray) (r : Int) (w : World) (hr0 : Kd.C k80 w A0 l0.length l0) (hc0 : l0.length ≤ c0) (h : vote_Count.f k l0 a1 = some r) :
  Calls Tryz.prog 26 #[.slice A0 l0.length c0, .string a1] w fun e w' => e = .returned (.int .i64 r) ∧ Below w.heap.size w w' := by
 have HR0 := c_.mk hr0
 have HC0 := c_.mk hc0
 clear hr0 hc0
 have HB := c_.mk (Below.refl w.heap.size w)
 have H : ((ci_.f k l0 a1).bind fun t142 => (some (t142.length : Int))) = some r := h
 clear h
 replace H := Option.bind_eq_some_iff.mp H
 obtain ⟨t142, A30, H⟩ := H
 replace H : (some (t142.length : Int)) = some r := H
 have A3 := c_.mk A30
 clear A30
 obtain rfl := Option.some.inj H
 go_enter Tryz.func26, Tryz.ntmps26
 go_wp2_with (first | ((with_reducible refine ah_ (f := 42) rfl ?_); refine bm_ (some 7) rfl rfl Tryz.func42 (by kernel_rfl) rfl #[.slice A0 l0.length c0, .string a1] rfl (by (try simp only [List.map_toArray, List.map_cons, List.map_nil]); first | done | rfl | (simp only [List.length_drop, List.length_take]; rfl)) ?_; (with_reducible refine (ci_.calls k _ _ l0 a1 t142 _ ?side1 ?side2 A3.out).mono ?_); (case side1 => repeat (first | exact HR0.out | (with_reducible refine Kd.C_alloc ?_ _) | (with_reducible refine Kd.C_drewN ?_ _) | (with_reducible refine Kd.C_drew ?_))); (case side2 => exact HC0.out); rintro e w4 ⟨v143, rfl, ho0, hb⟩; refine ⟨_, rfl, ?_⟩; have n0_ := c_.mk (Kd.R_lower ho0 (v_ (HB.out))); have n1_ := c_.mk (ac_ (HB.out) hb); clear HB; have HO144 := n0_; have HB := n1_; clear n0_ n1_; (try clear hb); (try clear hb2); (try clear hk); (try clear hi); (try clear ho0); obtain ⟨Ao5, co5, eo5⟩ := Kd.R_slice HO144.out; subst eo5))
 go_ret
 exact ⟨by first | rfl | (simp [i_, g_] <;> rfl) | (simp [*, i_, g_] <;> rfl), HB.out⟩
end Go.Proofs.YtlcfcaokihoplaaGreatDoor.Ms
