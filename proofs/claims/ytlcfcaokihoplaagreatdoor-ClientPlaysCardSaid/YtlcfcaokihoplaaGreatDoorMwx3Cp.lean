-- Cut.
import Derived.Test.YtlcfcaokihoplaaGreatDoorMwx0Cp
import Derived.Test.YtlcfcaokihoplaaGreatDoorMwx1Cp
namespace Go.Proofs.YtlcfcaokihoplaaGreatDoor.Mw
open Go.RowKit Go.Proofs.YzW.PrintWords Go.Proofs.YzW.PrintLast Go.Proofs.YzW.PrintMore
attribute [local go_sem] cg_ ce_ cw_ cv_ by_ bx_ cf_ cd_
set_option linter.unusedVariables false
set_option linter.unusedSimpArgs false
attribute [local go_sem] eqlErr neqErr eqlErrNil neqErrNil
def bp_.f (l0 : List Int) : Option (List Int) := if l0.length < 140737488355328 then some l0 else none
set_option maxHeartbeats 400000 in
theorem bp_.calls (A0 : Option Addr) (c0 : Nat) (l0 : List Int) (r : List Int) (w : World) (hr0 : Kd.C (Kd.int .u8) w A0 l0.length l0) (_hc0 : l0.length ≤ c0) (h : bp_.f l0 = some r) :
  Calls Tryz.prog 48 #[.slice A0 l0.length c0] w fun e w' => ∃ v0_ : Value, e = .returned (v0_) ∧ Kd.R (Kd.int .u8) 5 w' w.heap.size (fun _ => True) v0_ r ∧ Below w.heap.size w w' := by
 have HL : Hid (l0.length < 140737488355328 ∧ l0 = r) := by
  unfold bp_.f at h
  split at h
  ·exact ⟨by assumption, Option.some.inj h⟩
  ·cases h
 clear h
 have HR := Lib.hid hr0
 clear hr0
 have heq := fun (w : World) => Lib.run_eql_slice_nil (P := Tryz.prog) w 70 5 A0 l0.length c0 0 0 Tryz.underlying70
 cases A0 with
 | none =>
  have hn : l0 = [] := by
   rcases Nat.eq_zero_or_pos l0.length with h0 | h0
   ·exact List.eq_nil_of_length_eq_zero h0
   ·obtain ⟨ad, he, _⟩ := HR.out.2.2 h0
    cases he
  obtain ⟨_, rfl⟩ := HL.out
  subst hn
  clear HL HR
  have heq0 : ∀ w : World, (binOp .eql 70 (.slice none 0 c0) (.slice none 0 0)).run Tryz.prog w = .ok (.bool true) w := fun w => heq w
  clear heq
  go_enter Tryz.func48, Tryz.ntmps48
  go_wp2
  go_ret
  exact ⟨_, rfl, Kd.R_nil _ _ _ _ _, Below.refl _ _⟩
 | some ad =>
  have hu := Tryz.underlying70
  go_enter Tryz.func48, Tryz.ntmps48
  go_wp2_with (at_builtin; refine Kd.R_append_row (w0 := w) (Value.int .u8) 0 (h1 := fun _ => rfl) w.heap.size rfl (.tmp 5) (.tmp 6) 70 5 (.int .u8 0) 1 rfl Tryz.underlying70 (by kernel_rfl) rfl (by decide) _ [] l0 (some ad) l0.length c0 (fun _ => True) rfl rfl (fun _ _ => trivial) ?own ?src ?bel ?base ?len ?go)
  case own => exact ⟨fun _ _ => trivial, [], World.ownsRow_made w #[] 0 (Nat.le_refl _) (by simp [maxLen]) rfl, dh_.none _ _⟩
  case src => exact Kd.C_below HR.out ((Below.refl _ _).alloc (Nat.le_refl _) _)
  case bel => exact (Below.refl _ _).alloc (Nat.le_refl _) _
  case base => simp
  case len => have := HL.out.1; simp; omega
  case go =>
   intro v1 w1 hown hb hg hat
   go_wp2
   go_ret
   obtain ⟨_, rfl⟩ := HL.out
   exact ⟨_, rfl, hown, hb⟩
def br_.l0 : Nat → Int → List Int → Option (List Int)
 | 0, _, _ => none
 | k + 1, x1, x5 => if x1 ≥ 128 then (if x5.length < 140737488355328 then (br_.l0 k (x1 / 128) (x5 ++ [Go.bits .or .u8 ((x1) % 256) 128])) else (none)) else (if x5.length < 140737488355328 then (some (x5 ++ [(x1) % 256])) else (none))
def br_.f (k : Nat) (l0 : List Int) (a1 : Int) : Option (List Int) := (bp_.f l0).bind fun t120 => (br_.l0 k a1 t120)
set_option maxHeartbeats 8000000 in
set_option maxRecDepth 100000 in
theorem br_.calls (k : Nat) (A0 : Option Addr) (c0 : Nat) (l0 : List Int) (a1 : Int) (r : List Int) (w : World) (hr0 : Kd.C (Kd.int .u8) w A0 l0.length l0) (hc0 : l0.length ≤ c0) (h : br_.f k l0 a1 = some r) :
  Calls Tryz.prog 31 #[.slice A0 l0.length c0, .int .u64 a1] w fun e w' => ∃ v0_ : Value, e = .returned (v0_) ∧ Kd.R (Kd.int .u8) 5 w' w.heap.size (fun _ => True) v0_ r ∧ Below w.heap.size w w' := by
 have HR0 := c_.mk hr0
 have HC0 := c_.mk hc0
 clear hr0 hc0
 have HB := c_.mk (Below.refl w.heap.size w)
 have H : ((bp_.f l0).bind fun t120 => (br_.l0 k a1 t120)) = some r := h
 clear h
 replace H := Option.bind_eq_some_iff.mp H
 obtain ⟨t120, A30, H⟩ := H
 replace H : (br_.l0 k a1 t120) = some r := H
 have A3 := c_.mk A30
 clear A30
 have H' := c_.mk H
 clear H
 go_enter Tryz.func31, Tryz.ntmps31
 go_wp2_with (first | ((with_reducible refine ah_ (f := 48) rfl ?_); refine bm_ (some 7) rfl rfl Tryz.func48 (by kernel_rfl) rfl #[.slice A0 l0.length c0] rfl (by (try simp only [List.map_toArray, List.map_cons, List.map_nil]); first | done | rfl | (simp only [List.length_drop, List.length_take]; rfl)) ?_; (with_reducible refine (bp_.calls _ _ l0 t120 _ ?side1 ?side2 A3.out).mono ?_); (case side1 => repeat (first | exact HR0.out | (with_reducible refine Kd.C_alloc ?_ _) | (with_reducible refine Kd.C_drewN ?_ _) | (with_reducible refine Kd.C_drew ?_))); (case side2 => exact HC0.out); rintro e w4 ⟨v121, rfl, ho0, hb⟩; refine ⟨_, rfl, ?_⟩; have n0_ := c_.mk (Kd.R_lower ho0 (v_ (by repeat (first | (with_reducible first | exact HB.out | apply l_ | apply d_ | apply m_) | exact HB.out)))); have n1_ := c_.mk (ac_ (by repeat (first | (with_reducible first | exact HB.out | apply l_ | apply d_ | apply m_) | exact HB.out)) hb); clear HB; have HO122 := n0_; have HB := n1_; clear n0_ n1_; (try clear hb); (try clear hb2); (try clear hk); (try clear hi); (try clear ho0)))
 go_loopg [1, 5] k (fun kq v1 v5 w' => ∃ (x1_1 : Int) (x5_1 : List Int), v1 = .int .u64 x1_1 ∧ c_ (br_.l0 kq x1_1 x5_1 = some r) ∧ c_ (kq ≤ k) ∧ c_ (Kd.R (Kd.int .u8) 5 w' w.heap.size (fun _ => True) v5 x5_1) ∧ c_ (Below w.heap.size w w'))
 case atStart => exact ⟨(a1), (t120), (by first | rfl | (simp; done) | (simp [*]; done)), H', ⟨Nat.le_refl _⟩, ⟨by (with_reducible repeat (first | apply Kd.R_alloc | apply Kd.R_drewN | apply Kd.R_drew)); exact HO122.out⟩, ⟨by repeat (first | (with_reducible first | exact HB.out | apply l_ | apply d_ | apply m_) | exact HB.out)⟩⟩
 case round =>
  clear H'
  try clear p2
  try clear c3
  try clear c4
  obtain ⟨x1_1, x5_1, rfl, HA, HK1, HO_5, HB⟩ := hrel
  cases gk with
  | zero => exact absurd HA.out (by simp [br_.l0])
  | succ k1 =>
   have H := HA.out
   clear HA
   simp only [br_.l0] at H
   by_cases c5 : x1_1 ≥ 128
   ·rw [if_pos c5] at H
    have c5b0 : decide (128 ≤ x1_1) = true := decide_eq_true c5
    clear c5
    by_cases c6 : x5_1.length < 140737488355328
    ·rw [if_pos c6] at H
     have LMc6 := c_.mk c6
     clear c6
     obtain ⟨y123, hy123⟩ : ∃ y_ : List Int, y_ = (x5_1 ++ [Go.bits .or .u8 ((x1_1) % 256) 128]) := ⟨_, rfl⟩
     replace H : (br_.l0 k1 (x1_1 / 128) y123) = some r := by first | (rw [hy123]; with_reducible exact H) | (have H2_ := (Option.bind_some _ _).symm.trans H; rw [hy123]; with_reducible exact H2_) | (have H2_ := (Option.bind_some _ _).symm.trans H; with_reducible exact H2_) | with_reducible exact H | (rw [hy123]; exact H) | exact H
     have Ny123 := c_.mk hy123
     clear hy123
     have H' := c_.mk H
     clear H
     go_wp2_with (first | ((with_reducible refine bw_ (b := .append) (xs := #[.tmp 10, .tmp 14]) rfl ?_); at_builtin; refine Kd.R_append (Kd.int .u8) (w0 := w) w.heap.size rfl (.tmp 10) (.tmp 14) 70 5 (.int .u8 0) 1 rfl Tryz.underlying70 info5 rfl (by decide) (by omega) u5 x5_1 (Go.bits .or .u8 ((x1_1) % 256) 128) [.int .u8 (Go.bits .or .u8 ((x1_1) % 256) 128)] (fun _ => True) (fun _ => False) rfl rfl ?aP (fun _ hk => hk.elim) ?aF ?aO ?aB ?aS ?aL ?_; (case aP => exact rfl); (case aB => exact (by repeat (first | (with_reducible first | exact HB.out | apply l_ | apply d_ | apply m_) | exact HB.out))); (case aF => exact (fun _ _ => trivial)); (case aO => exact (by (with_reducible repeat (first | apply Kd.R_alloc | apply Kd.R_drewN | apply Kd.R_drew)); exact HO_5.out)); (case aS => exact (v_ (by repeat (first | (with_reducible first | exact HB.out | apply l_ | apply d_ | apply m_) | exact HB.out)))); (case aL => have := LMc6.out; omega); intro v124 w7 ho hb hg hat; rw [← Ny123.out] at ho; have n0_ := c_.mk (hb); have n1_ := c_.mk (ho); clear HB; clear HO_5; have HB := n0_; have HO125 := n1_; clear n0_ n1_; clear ho hb hg hat))
     go_roundg k1
     case measure => have := HK1.out; omega
     case rel => exact ⟨(x1_1 / 128), (y123), (by first | rfl | (simp; done) | (simp [*]; done)), H', ⟨by have := HK1.out; omega⟩, ⟨by (with_reducible repeat (first | apply Kd.R_alloc | apply Kd.R_drewN | apply Kd.R_drew)); exact HO125.out⟩, ⟨by repeat (first | (with_reducible first | exact HB.out | apply l_ | apply d_ | apply m_) | exact HB.out)⟩⟩
    ·rw [if_neg c6] at H
     exact absurd H (by simp)
   ·rw [if_neg c5] at H
    have c5b0 : decide (128 ≤ x1_1) = false := decide_eq_false c5
    clear c5
    by_cases c8 : x5_1.length < 140737488355328
    ·rw [if_pos c8] at H
     have LMc8 := c_.mk c8
     clear c8
     obtain ⟨y126, hy126⟩ : ∃ y_ : List Int, y_ = (x5_1 ++ [(x1_1) % 256]) := ⟨_, rfl⟩
     replace H : (some y126) = some r := by first | (rw [hy126]; with_reducible exact H) | (have H2_ := (Option.bind_some _ _).symm.trans H; rw [hy126]; with_reducible exact H2_) | (have H2_ := (Option.bind_some _ _).symm.trans H; with_reducible exact H2_) | with_reducible exact H | (rw [hy126]; exact H) | exact H
     have Ny126 := c_.mk hy126
     clear hy126
     obtain rfl := Option.some.inj H
     go_wp2_with (first | ((with_reducible refine bw_ (b := .append) (xs := #[.tmp 18, .tmp 21]) rfl ?_); at_builtin; refine Kd.R_append (Kd.int .u8) (w0 := w) w.heap.size rfl (.tmp 18) (.tmp 21) 70 5 (.int .u8 0) 1 rfl Tryz.underlying70 info5 rfl (by decide) (by omega) u5 x5_1 ((x1_1) % 256) [.int .u8 ((x1_1) % 256)] (fun _ => True) (fun _ => False) rfl rfl ?aP (fun _ hk => hk.elim) ?aF ?aO ?aB ?aS ?aL ?_; (case aP => exact rfl); (case aB => exact (by repeat (first | (with_reducible first | exact HB.out | apply l_ | apply d_ | apply m_) | exact HB.out))); (case aF => exact (fun _ _ => trivial)); (case aO => exact (by (with_reducible repeat (first | apply Kd.R_alloc | apply Kd.R_drewN | apply Kd.R_drew)); exact HO_5.out)); (case aS => exact (v_ (by repeat (first | (with_reducible first | exact HB.out | apply l_ | apply d_ | apply m_) | exact HB.out)))); (case aL => have := LMc8.out; omega); intro v127 w9 ho hb hg hat; rw [← Ny126.out] at ho; have n0_ := c_.mk (hb); have n1_ := c_.mk (ho); clear HB; clear HO_5; have HB := n0_; have HO128 := n1_; clear n0_ n1_; clear ho hb hg hat))
     go_ret
     exact ⟨_, by first | rfl | (simp [i_, g_] <;> rfl) | (simp [*, i_, g_] <;> rfl), by (with_reducible repeat (first | apply Kd.R_alloc | apply Kd.R_drewN | apply Kd.R_drew)); exact HO128.out, by repeat (first | (with_reducible first | exact HB.out | apply l_ | apply d_ | apply m_) | exact HB.out)⟩
    ·rw [if_neg c8] at H
     exact absurd H (by simp)
def cy_.f (k : Nat) (l0 : List Int) (a1 : ByteArray) : Option (List Int) := (br_.f k l0 (IntKind.u64.wrap ((a1.size : Int)))).bind fun t129 => (if t129.length + a1.size < 140737488355328 then (some (t129 ++ bk_ a1)) else (none))
set_option maxHeartbeats 8000000 in
set_option maxRecDepth 100000 in
theorem cy_.calls (k : Nat) (A0 : Option Addr) (c0 : Nat) (l0 : List Int) (a1 : ByteArray) (r : List Int) (w : World) (hr0 : Kd.C (Kd.int .u8) w A0 l0.length l0) (hc0 : l0.length ≤ c0) (h : cy_.f k l0 a1 = some r) :
  Calls Tryz.prog 32 #[.slice A0 l0.length c0, .string a1] w fun e w' => ∃ v0_ : Value, e = .returned (v0_) ∧ Kd.R (Kd.int .u8) 5 w' w.heap.size (fun _ => True) v0_ r ∧ Below w.heap.size w w' := by
 have HR0 := c_.mk hr0
 have HC0 := c_.mk hc0
 clear hr0 hc0
 have HB := c_.mk (Below.refl w.heap.size w)
 have H : ((br_.f k l0 (IntKind.u64.wrap ((a1.size : Int)))).bind fun t129 => (if t129.length + a1.size < 140737488355328 then (some (t129 ++ bk_ a1)) else (none))) = some r := h
 clear h
 replace H := Option.bind_eq_some_iff.mp H
 obtain ⟨t129, A30, H⟩ := H
 replace H : (if t129.length + a1.size < 140737488355328 then (some (t129 ++ bk_ a1)) else (none)) = some r := H
 have A3 := c_.mk A30
 clear A30
 by_cases c4 : t129.length + a1.size < 140737488355328
 ·rw [if_pos c4] at H
  have LMc4 := c_.mk c4
  clear c4
  obtain ⟨y132, hy132⟩ : ∃ y_ : List Int, y_ = (t129 ++ bk_ a1) := ⟨_, rfl⟩
  replace H : (some y132) = some r := by first | (rw [hy132]; with_reducible exact H) | (have H2_ := (Option.bind_some _ _).symm.trans H; rw [hy132]; with_reducible exact H2_) | (have H2_ := (Option.bind_some _ _).symm.trans H; with_reducible exact H2_) | with_reducible exact H | (rw [hy132]; exact H) | exact H
  have Ny132 := c_.mk hy132
  clear hy132
  obtain rfl := Option.some.inj H
  go_enter Tryz.func32, Tryz.ntmps32
  go_wp2_with (first | ((with_reducible refine ah_ (f := 31) rfl ?_); refine bm_ (some 9) rfl rfl Tryz.func31 (by kernel_rfl) rfl #[.slice A0 l0.length c0, .int .u64 (IntKind.u64.wrap ((a1.size : Int)))] rfl (by (try simp only [List.map_toArray, List.map_cons, List.map_nil]); first | done | rfl | (simp only [List.length_drop, List.length_take]; rfl)) ?_; (with_reducible refine (br_.calls k _ _ l0 (IntKind.u64.wrap ((a1.size : Int))) t129 _ ?side1 ?side2 A3.out).mono ?_); (case side1 => repeat (first | exact HR0.out | (with_reducible refine Kd.C_alloc ?_ _) | (with_reducible refine Kd.C_drewN ?_ _) | (with_reducible refine Kd.C_drew ?_))); (case side2 => exact HC0.out); rintro e w5 ⟨v130, rfl, ho0, hb⟩; refine ⟨_, rfl, ?_⟩; have n0_ := c_.mk (Kd.R_lower ho0 (v_ (by repeat (first | (with_reducible first | exact HB.out | apply l_ | apply d_ | apply m_) | exact HB.out)))); have n1_ := c_.mk (ac_ (by repeat (first | (with_reducible first | exact HB.out | apply l_ | apply d_ | apply m_) | exact HB.out)) hb); clear HB; have HO131 := n0_; have HB := n1_; clear n0_ n1_; (try clear hb); (try clear hb2); (try clear hk); (try clear hi); (try clear ho0)) | (at_builtin; refine print_append_str (w0 := w) w.heap.size rfl (.tmp 9) _ 70 9 5 rfl Tryz.underlying70 Tryz.underlying9 info5 v130 t129 a1 rfl rfl ?aO ?aB ?aS ?aL ?_; (case aB => exact (by repeat (first | (with_reducible first | exact HB.out | apply l_ | apply d_ | apply m_) | exact HB.out))); (case aO => exact (Kd.own_of_R (by (with_reducible repeat (first | apply Kd.R_alloc | apply Kd.R_drewN | apply Kd.R_drew)); exact HO131.out))); (case aS => exact (v_ (by repeat (first | (with_reducible first | exact HB.out | apply l_ | apply d_ | apply m_) | exact HB.out)))); (case aL => have := LMc4.out; omega); intro v133 w6 ho0 hb hg; have ho := Kd.R_of_own (h1 := fun _ => rfl) (ok := fun _ => True) ho0 (fun _ _ => trivial); clear ho0; have hat := True.intro; rw [← Ny132.out] at ho; change Kd.R (Kd.int .u8) 5 w6 w.heap.size (fun _ => True) v133 y132 at ho; have n0_ := c_.mk (hb); have n1_ := c_.mk (ho); clear HB; clear HO131; have HB := n0_; have HO134 := n1_; clear n0_ n1_; clear ho hb hg hat))
  go_ret
  exact ⟨_, by first | rfl | (simp [i_, g_] <;> rfl) | (simp [*, i_, g_] <;> rfl), by (with_reducible repeat (first | apply Kd.R_alloc | apply Kd.R_drewN | apply Kd.R_drew)); exact HO134.out, by repeat (first | (with_reducible first | exact HB.out | apply l_ | apply d_ | apply m_) | exact HB.out)⟩
 ·rw [if_neg c4] at H
  exact absurd H (by simp)
def bo_.f (k : Nat) (a0 : ByteArray) : Option (List Int) := (av_.f k (IntKind.u64.wrap ((a0.size : Int)))).bind fun t135 => (if t135.length + a0.size < 140737488355328 then (some (t135 ++ bk_ a0)) else (none))
set_option maxHeartbeats 8000000 in
set_option maxRecDepth 100000 in
theorem bo_.calls (k : Nat) (a0 : ByteArray) (r : List Int) (w : World) (h : bo_.f k a0 = some r) :
  Calls Tryz.prog 35 #[.string a0] w fun e w' => ∃ v0_ : Value, e = .returned (v0_) ∧ Kd.R (Kd.int .u8) 5 w' w.heap.size (fun _ => True) v0_ r ∧ Below w.heap.size w w' := by
 have HB := c_.mk (Below.refl w.heap.size w)
 have H : ((av_.f k (IntKind.u64.wrap ((a0.size : Int)))).bind fun t135 => (if t135.length + a0.size < 140737488355328 then (some (t135 ++ bk_ a0)) else (none))) = some r := h
 clear h
 replace H := Option.bind_eq_some_iff.mp H
 obtain ⟨t135, A20, H⟩ := H
 replace H : (if t135.length + a0.size < 140737488355328 then (some (t135 ++ bk_ a0)) else (none)) = some r := H
 have A2 := c_.mk A20
 clear A20
 by_cases c3 : t135.length + a0.size < 140737488355328
 ·rw [if_pos c3] at H
  have LMc3 := c_.mk c3
  clear c3
  obtain ⟨y138, hy138⟩ : ∃ y_ : List Int, y_ = (t135 ++ bk_ a0) := ⟨_, rfl⟩
  replace H : (some y138) = some r := by first | (rw [hy138]; with_reducible exact H) | (have H2_ := (Option.bind_some _ _).symm.trans H; rw [hy138]; with_reducible exact H2_) | (have H2_ := (Option.bind_some _ _).symm.trans H; with_reducible exact H2_) | with_reducible exact H | (rw [hy138]; exact H) | exact H
  have Ny138 := c_.mk hy138
  clear hy138
  obtain rfl := Option.some.inj H
  go_enter Tryz.func35, Tryz.ntmps35
  go_wp2_with (first | ((with_reducible refine ah_ (f := 34) rfl ?_); refine bm_ (some 6) rfl rfl Tryz.func34 (by kernel_rfl) rfl #[.int .u64 (IntKind.u64.wrap ((a0.size : Int)))] rfl (by (try simp only [List.map_toArray, List.map_cons, List.map_nil]); first | done | rfl | (simp only [List.length_drop, List.length_take]; rfl)) ?_; (with_reducible refine (av_.calls k (IntKind.u64.wrap ((a0.size : Int))) t135 _ A2.out).mono ?_); rintro e w4 ⟨v136, rfl, ho0, hb⟩; refine ⟨_, rfl, ?_⟩; have n0_ := c_.mk (Kd.R_lower ho0 (v_ (by repeat (first | (with_reducible first | exact HB.out | apply l_ | apply d_ | apply m_) | exact HB.out)))); have n1_ := c_.mk (ac_ (by repeat (first | (with_reducible first | exact HB.out | apply l_ | apply d_ | apply m_) | exact HB.out)) hb); clear HB; have HO137 := n0_; have HB := n1_; clear n0_ n1_; (try clear hb); (try clear hb2); (try clear hk); (try clear hi); (try clear ho0)) | (at_builtin; refine print_append_str (w0 := w) w.heap.size rfl (.tmp 6) _ 70 9 5 rfl Tryz.underlying70 Tryz.underlying9 info5 v136 t135 a0 rfl rfl ?aO ?aB ?aS ?aL ?_; (case aB => exact (by repeat (first | (with_reducible first | exact HB.out | apply l_ | apply d_ | apply m_) | exact HB.out))); (case aO => exact (Kd.own_of_R (by (with_reducible repeat (first | apply Kd.R_alloc | apply Kd.R_drewN | apply Kd.R_drew)); exact HO137.out))); (case aS => exact (v_ (by repeat (first | (with_reducible first | exact HB.out | apply l_ | apply d_ | apply m_) | exact HB.out)))); (case aL => have := LMc3.out; omega); intro v139 w5 ho0 hb hg; have ho := Kd.R_of_own (h1 := fun _ => rfl) (ok := fun _ => True) ho0 (fun _ _ => trivial); clear ho0; have hat := True.intro; rw [← Ny138.out] at ho; change Kd.R (Kd.int .u8) 5 w5 w.heap.size (fun _ => True) v139 y138 at ho; have n0_ := c_.mk (hb); have n1_ := c_.mk (ho); clear HB; clear HO137; have HB := n0_; have HO140 := n1_; clear n0_ n1_; clear ho hb hg hat))
  go_ret
  exact ⟨_, by first | rfl | (simp [i_, g_] <;> rfl) | (simp [*, i_, g_] <;> rfl), by (with_reducible repeat (first | apply Kd.R_alloc | apply Kd.R_drewN | apply Kd.R_drew)); exact HO140.out, by repeat (first | (with_reducible first | exact HB.out | apply l_ | apply d_ | apply m_) | exact HB.out)⟩
 ·rw [if_neg c3] at H
  exact absurd H (by simp)
end Go.Proofs.YtlcfcaokihoplaaGreatDoor.Mw
