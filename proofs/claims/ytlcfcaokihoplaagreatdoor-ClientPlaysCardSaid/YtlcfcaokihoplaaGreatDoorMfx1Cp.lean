-- Cut.
import Derived.Test.YtlcfcaokihoplaaGreatDoorMsgCVCp
namespace Go.Proofs.YtlcfcaokihoplaaGreatDoor.Mf
open Go.RowKit Go.Proofs.YzW.PrintWords Go.Proofs.YzW.PrintLast Go.Proofs.YzW.PrintMore
attribute [local go_sem] cg_ ce_ cw_ cv_ by_ bx_ cf_ cd_
set_option linter.unusedVariables false
set_option linter.unusedSimpArgs false
attribute [local go_sem] eqlErr neqErr eqlErrNil neqErrNil
open Go.Proofs.YtlcfcaokihoplaaGreatDoor.Mw
def msg_long.f (a0 : ByteArray) : Option (Bool) := some (decide ((a0.size : Int) > 4096))
set_option maxHeartbeats 8000000 in
set_option maxRecDepth 100000 in
theorem msg_long.calls (a0 : ByteArray) (r : Bool) (w : World) (h : msg_long.f a0 = some r) :
  Calls Tryz.prog 38 #[.string a0] w fun e w' => e = .returned (.bool r) ∧ ax_ w w' := by
 have H : (some (decide ((a0.size : Int) > 4096))) = some r := h
 clear h
 obtain rfl := Option.some.inj H
 go_enter Tryz.func38, Tryz.ntmps38
 go_wp2
 go_ret
 exact eD_
def r_ (w0 W : World) (g : Nat) (f0 : List Int) (f1 : Int) (f2 : Bool) : Prop := ∃ A0 c0, W.heap[g]? = some (.cells #[.slice A0 f0.length c0, .int .i64 f1, .bool f2] 102 (0, 0)) ∧ w0.heap.size ≤ g ∧ (Kd.C (Kd.int .u8) w0 A0 f0.length f0 ∧ f0.length ≤ c0)
theorem r_.grown {w0 W : World} {g : Nat} {f0 : List Int} {f1 : Int} {f2 : Bool} {W1 : World} {row : Option Nat} (h : r_ w0 W g f0 f1 f2) (hw : W.grownBy W1 row) (hne : some g ≠ row) : r_ w0 W1 g f0 f1 f2 := by
 obtain ⟨A0, c0, hb, hg, hr0⟩ := h
 exact ⟨A0, c0, bu_ hb hw hne, hg, hr0⟩
theorem r_.kept {w0 W : World} {g : Nat} {f0 : List Int} {f1 : Int} {f2 : Bool} {W1 : World} {S : Nat → Prop} (h : r_ w0 W g f0 f1 f2) (hk : bv_ W W1 S) (hne : ¬ S g) : r_ w0 W1 g f0 f1 f2 := by
 obtain ⟨A0, c0, hb, hg, hr0⟩ := h
 exact ⟨A0, c0, dd_ hb hk hne, hg, hr0⟩
theorem r_.below {w0 W : World} {g : Nat} {f0 : List Int} {f1 : Int} {f2 : Bool} {W1 : World} (h : r_ w0 W g f0 f1 f2) (hw : Below W.heap.size W W1) : r_ w0 W1 g f0 f1 f2 := h.grown (grown_of_below hw none) (by simp)
theorem r_.alloc {w0 W : World} {g : Nat} {f0 : List Int} {f1 : Int} {f2 : Bool} (h : r_ w0 W g f0 f1 f2) (o : Obj) : r_ w0 (W.alloc o) g f0 f1 f2 := h.below (l_ (Below.refl _ _) o)
theorem r_.drewN {w0 W : World} {g : Nat} {f0 : List Int} {f1 : Int} {f2 : Bool} (h : r_ w0 W g f0 f1 f2) (m : Nat) : r_ w0 (W.drewN m) g f0 f1 f2 := h
theorem r_.drew {w0 W : World} {g : Nat} {f0 : List Int} {f1 : Int} {f2 : Bool} (h : r_ w0 W g f0 f1 f2) : r_ w0 W.drew g f0 f1 f2 := h
theorem r_.at_ {w0 W : World} {g : Nat} {f0 : List Int} {f1 : Int} {f2 : Bool} {w' : World} {m : Nat} (hq : W.drewN m = w') (h : r_ w0 W g f0 f1 f2) : r_ w0 w' g f0 f1 f2 := by subst hq; exact r_.drewN h m
theorem r_.apart {w0 W : World} {g : Nat} {f0 : List Int} {f1 : Int} {f2 : Bool} {α : Type} {d : Kd α} {e : Nat} {base : Nat} {ok : Nat → Prop} {v : Value} {xs : List α} (h : r_ w0 W g f0 f1 f2) (ho : d.R e W base ok v xs) (ht : ∀ q, q ∈ e :: d.E → q ≠ 102) : d.R e W base (fun k => ok k ∧ k ≠ g) v xs := by
 obtain ⟨A0, c0, hb, hg, hr0⟩ := h
 exact Kd.R_types ho hb ht
theorem r_.own_ne {w0 W : World} {g : Nat} {f0 : List Int} {f1 : Int} {f2 : Bool} {α : Type} {d : Kd α} {e : Nat} {base : Nat} {ok : Nat → Prop} {v : Value} {xs : List α} (h : r_ w0 W g f0 f1 f2) (ho : d.R e W base ok v xs) (ht : e ≠ 102) : some g ≠ v.ownBlock := by
 obtain ⟨A0, c0, hb, hg, hr0⟩ := h
 exact Kd.R_ne ho hb ht
theorem r_.apartS {w0 W : World} {g : Nat} {f0 : List Int} {f1 : Int} {f2 : Bool} {α : Type} {d : Kd α} {e : Nat} {base : Nat} {ok : Nat → Prop} {v : Value} {xs : List α} (h : r_ w0 W g f0 f1 f2) (ho : d.S e W base ok v xs) (ht : ∀ q, q ∈ e :: d.E → q ≠ 102) : d.S e W base (fun k => ok k ∧ k ≠ g) v xs := by
 obtain ⟨A0, c0, hb, hg, hr0⟩ := h
 exact Kd.S_types ho hb ht
theorem r_.own_neS {w0 W : World} {g : Nat} {f0 : List Int} {f1 : Int} {f2 : Bool} {α : Type} {d : Kd α} {e : Nat} {base : Nat} {ok : Nat → Prop} {v : Value} {xs : List α} (h : r_ w0 W g f0 f1 f2) (ho : d.S e W base ok v xs) (ht : e ≠ 102) : some g ≠ v.ownBlock := by
 obtain ⟨A0, c0, hb, hg, hr0⟩ := h
 exact Kd.S_ne ho hb ht
theorem r_.lt {w0 W : World} {g : Nat} {f0 : List Int} {f1 : Int} {f2 : Bool} (h : r_ w0 W g f0 f1 f2) : g < W.heap.size := by
 obtain ⟨A0, c0, hb, hg, hr0⟩ := h
 exact bj_ hb
theorem r_.ge {w0 W : World} {g : Nat} {f0 : List Int} {f1 : Int} {f2 : Bool} (h : r_ w0 W g f0 f1 f2) : w0.heap.size ≤ g := by
 obtain ⟨A0, c0, hb, hg, hr0⟩ := h
 exact hg
theorem r_.far {w0 W : World} {g : Nat} {f0 : List Int} {f1 : Int} {f2 : Bool} {p : Addr} (h : r_ w0 W g f0 f1 f2) (hne : g ≠ p.block) (u : Value) : r_ w0 (W.setCell p u) g f0 f1 f2 := by
 obtain ⟨A0, c0, hb, hg, hr0⟩ := h
 exact ⟨A0, c0, bl_ hb hne u, hg, hr0⟩
theorem cellS102_0 {W : World} {g : Nat} {A0 : Option Addr} {c0 : Nat} {f0 : List Int} {f1 : Int} {f2 : Bool} (h : W.heap[g]? = some (.cells #[.slice A0 f0.length c0, .int .i64 f1, .bool f2] 102 (0, 0))) : W.cell? ⟨g, 0, none⟩ = some (.slice A0 f0.length c0) := (b_ h 0).trans rfl
theorem cellS102_1 {W : World} {g : Nat} {A0 : Option Addr} {c0 : Nat} {f0 : List Int} {f1 : Int} {f2 : Bool} (h : W.heap[g]? = some (.cells #[.slice A0 f0.length c0, .int .i64 f1, .bool f2] 102 (0, 0))) : W.cell? ⟨g, 1, none⟩ = some (.int .i64 f1) := (b_ h 1).trans rfl
theorem r_.set_1 {w0 W : World} {g : Nat} {f0 : List Int} {f1 : Int} {f2 : Bool} (h : r_ w0 W g f0 f1 f2) (x : Int) : r_ w0 (W.setCell ⟨g, 1, none⟩ (.int .i64 x)) g f0 x f2 := by
 obtain ⟨A0, c0, hb, hg, hr0⟩ := h
 exact ⟨A0, c0, by simpa using dc_ hb 1 (.int .i64 x), hg, hr0⟩
theorem cellS102_2 {W : World} {g : Nat} {A0 : Option Addr} {c0 : Nat} {f0 : List Int} {f1 : Int} {f2 : Bool} (h : W.heap[g]? = some (.cells #[.slice A0 f0.length c0, .int .i64 f1, .bool f2] 102 (0, 0))) : W.cell? ⟨g, 2, none⟩ = some (.bool f2) := (b_ h 2).trans rfl
theorem r_.set_2 {w0 W : World} {g : Nat} {f0 : List Int} {f1 : Int} {f2 : Bool} (h : r_ w0 W g f0 f1 f2) (x : Bool) : r_ w0 (W.setCell ⟨g, 2, none⟩ (.bool x)) g f0 f1 x := by
 obtain ⟨A0, c0, hb, hg, hr0⟩ := h
 exact ⟨A0, c0, by simpa using dc_ hb 2 (.bool x), hg, hr0⟩
def ap_.f (s0_0 : List Int) (s0_1 : Int) (s0_2 : Bool) (a1 : Int) : Option (Int × Int × Bool) := if Go.Proofs.YtlcfcaokihoplaaGreatDoor.MsgL.rdOk s0_0 s0_1 = true ∧ 0 ≤ a1 ∧ a1 ≤ Go.Proofs.YtlcfcaokihoplaaGreatDoor.MsgL.big31 then some ((Go.Proofs.YtlcfcaokihoplaaGreatDoor.MsgL.numOf s0_0 a1 s0_1.toNat s0_2).1, (((Go.Proofs.YtlcfcaokihoplaaGreatDoor.MsgL.numOf s0_0 a1 s0_1.toNat s0_2).2.1 : Nat) : Int), (Go.Proofs.YtlcfcaokihoplaaGreatDoor.MsgL.numOf s0_0 a1 s0_1.toNat s0_2).2.2) else none
theorem ap_.calls (g : Nat) (s0_0 : List Int) (s0_1 : Int) (s0_2 : Bool) (a1 : Int) (r1 : Int) (r2 : Int) (r3 : Bool) (w0 w : World) (hI : r_ w0 w g s0_0 s0_1 s0_2) (hB : Below w0.heap.size w0 w) (h : ap_.f s0_0 s0_1 s0_2 a1 = some (r1, r2, r3)) :
  Calls Tryz.prog 39 #[.pointer (some ⟨g, 0, none⟩), .int .u64 a1] w fun e w' => e = .returned (.int .i64 r1) ∧ r_ w0 w' g s0_0 r2 r3 ∧ Below w0.heap.size w0 w' ∧ ar_ w w' g none := by
 unfold ap_.f at h
 split at h
 ·rename_i hc
  obtain ⟨A, c, hg, hge, hC, hcp⟩ := hI
  obtain ⟨hb, hl, at_, rfl, ha⟩ := Go.Proofs.YtlcfcaokihoplaaGreatDoor.MsgL.rdOk_iff hc.1
  rw [Int.toNat_natCast] at h
  have hc2 := Go.Proofs.YtlcfcaokihoplaaGreatDoor.MsgL.great_calls a1 hc.2 w0 w g A c s0_0 at_ s0_2 ⟨hg, hge, hB⟩ hC hcp hb hl ha
  simp only [Option.some.injEq, Prod.mk.injEq] at h
  obtain ⟨rfl, rfl, rfl⟩ := h
  refine hc2.mono ?_
  rintro e w' ⟨rfl, ⟨h1, h2, h3⟩, hk, hbl⟩
  exact ⟨rfl, ⟨A, c, h1, h2, hC, hcp⟩, h3, ⟨hk.1, fun i hi hn _ => hk.2 i hi hn⟩⟩
 ·cases h
def ca_.f (s0_0 : List Int) (s0_1 : Int) (s0_2 : Bool) : Option (ByteArray × Int × Bool) := if Go.Proofs.YtlcfcaokihoplaaGreatDoor.MsgL.rdOk s0_0 s0_1 = true then some ((Go.Proofs.YtlcfcaokihoplaaGreatDoor.MsgL.txtOf s0_0 s0_1.toNat s0_2).1, (((Go.Proofs.YtlcfcaokihoplaaGreatDoor.MsgL.txtOf s0_0 s0_1.toNat s0_2).2.1 : Nat) : Int), (Go.Proofs.YtlcfcaokihoplaaGreatDoor.MsgL.txtOf s0_0 s0_1.toNat s0_2).2.2) else none
theorem ca_.calls (g : Nat) (s0_0 : List Int) (s0_1 : Int) (s0_2 : Bool) (r1 : ByteArray) (r2 : Int) (r3 : Bool) (w0 w : World) (hI : r_ w0 w g s0_0 s0_1 s0_2) (hB : Below w0.heap.size w0 w) (h : ca_.f s0_0 s0_1 s0_2 = some (r1, r2, r3)) :
  Calls Tryz.prog 41 #[.pointer (some ⟨g, 0, none⟩)] w fun e w' => e = .returned (.string r1) ∧ r_ w0 w' g s0_0 r2 r3 ∧ Below w0.heap.size w0 w' ∧ ar_ w w' g none := by
 unfold ca_.f at h
 split at h
 ·rename_i hc
  obtain ⟨A, c, hg, hge, hC, hcp⟩ := hI
  obtain ⟨hb, hl, at_, rfl, ha⟩ := Go.Proofs.YtlcfcaokihoplaaGreatDoor.MsgL.rdOk_iff hc
  rw [Int.toNat_natCast] at h
  have hc2 := Go.Proofs.YtlcfcaokihoplaaGreatDoor.MsgL.text_calls w0 w g A c s0_0 at_ s0_2 ⟨hg, hge, hB⟩ hC hcp hb hl ha
  simp only [Option.some.injEq, Prod.mk.injEq] at h
  obtain ⟨rfl, rfl, rfl⟩ := h
  refine hc2.mono ?_
  rintro e w' ⟨rfl, ⟨h1, h2, h3⟩, hk, hbl⟩
  exact ⟨rfl, ⟨A, c, h1, h2, hC, hcp⟩, h3, ⟨hk.1, fun i hi hn _ => hk.2 i hi hn⟩⟩
 ·cases h
def an_.l0 : Nat → List ByteArray → Int → List Int → Int → Bool → Option (List ByteArray × Int × Bool)
 | 0, _, _, _, _, _ => none
 | k + 1, x3, x4, x1000, x1001, x1002 => if x4 > 0 then (if x1002 = true then (some (x3, x1001, x1002)) else ((ca_.f x1000 x1001 x1002).bind fun bt104 => (if x3.length < 8796093022208 then (an_.l0 k (x3 ++ [bt104.1]) (wrap64 (x4 - 1)) x1000 bt104.2.1 bt104.2.2) else (none)))) else (some (x3, x1001, x1002))
def an_.f (k : Nat) (s0_0 : List Int) (s0_1 : Int) (s0_2 : Bool) : Option (List ByteArray × Int × Bool) := (ap_.f s0_0 s0_1 s0_2 65536).bind fun bt101 => (an_.l0 k ([] : List ByteArray) bt101.1 s0_0 bt101.2.1 bt101.2.2)
set_option maxHeartbeats 8000000 in
set_option maxRecDepth 100000 in
theorem an_.calls (k : Nat) (g : Nat) (s0_0 : List Int) (s0_1 : Int) (s0_2 : Bool) (r1 : List ByteArray) (r2 : Int) (r3 : Bool) (w0 w : World) (hI : r_ w0 w g s0_0 s0_1 s0_2) (hB : Below w0.heap.size w0 w) (h : an_.f k s0_0 s0_1 s0_2 = some (r1, r2, r3)) :
  Calls Tryz.prog 40 #[.pointer (some ⟨g, 0, none⟩)] w fun e w' => ∃ v0_ : Value, e = .returned (v0_) ∧ Kd.R Kd.string 9 w' w.heap.size (fun _ => True) v0_ r1 ∧ r_ w0 w' g s0_0 r2 r3 ∧ Below w0.heap.size w0 w' ∧ ar_ w w' g none := by
 have HI0 := c_.mk hI
 have HK := c_.mk (ar_.refl w g none)
 have HL := c_.mk hB.size
 clear hI
 have HW0 := c_.mk hB.size
 have HB := c_.mk hB
 clear hB
 have H : ((ap_.f s0_0 s0_1 s0_2 65536).bind fun bt101 => (an_.l0 k ([] : List ByteArray) bt101.1 s0_0 bt101.2.1 bt101.2.2)) = some (r1, r2, r3) := h
 clear h
 replace H := Option.bind_eq_some_iff.mp H
 obtain ⟨⟨t101, t102, t103⟩, A20, H⟩ := H
 replace H : (an_.l0 k ([] : List ByteArray) t101 s0_0 t102 t103) = some (r1, r2, r3) := H
 have A2 := c_.mk A20
 clear A20
 have H' := c_.mk H
 clear H
 go_enter Tryz.func40, Tryz.ntmps40
 go_wp2_with (first | ((with_reducible refine ah_ (f := 39) rfl ?_); refine bm_ (some 6) rfl rfl Tryz.func39 (by kernel_rfl) rfl #[.pointer (some ⟨g, 0, none⟩), .int .u64 65536] rfl (by (try simp only [List.map_toArray, List.map_cons, List.map_nil]); first | done | rfl | (simp only [List.length_drop, List.length_take]; rfl)) ?_; (with_reducible refine (ap_.calls g s0_0 s0_1 s0_2 65536 t101 t102 t103 w0 _ ?side1 ?side2 A2.out).mono ?_); (case side1 => repeat (first | (with_reducible first | exact HI0.out | apply r_.alloc | apply r_.drewN | apply r_.drew | apply r_.set_1 | apply r_.set_2) | exact HI0.out)); (case side2 => repeat (first | (with_reducible first | exact HB.out | apply l_ | apply d_ | apply m_ | refine f_ ?_ (r_.ge HI0.out)) | exact HB.out)); rintro e w3 ⟨rfl, hi, hb, hk⟩; refine ⟨_, rfl, ?_⟩; have n0_ := c_.mk (ar_.trans (by repeat (first | (with_reducible first | exact HK.out | apply ar_.set_ | apply ck_ | apply cu_ | apply cl_) | exact HK.out)) hk (.inl rfl)); have n1_ := c_.mk (hb); have n2_ := c_.mk (hi); clear HK; clear HB; clear HI0; have HK := n0_; have HB := n1_; have HI0 := n2_; clear n0_ n1_ n2_; (try clear hb); (try clear hb2); (try clear hk); (try clear hi)))
 go_loopg [3, 4] k (fun kq v3 v4 w' => ∃ (x3_1 : List ByteArray) (x4_1 : Int) (x1001_1 : Int) (x1002_1 : Bool), v4 = .int .i64 x4_1 ∧ c_ (an_.l0 kq x3_1 x4_1 s0_0 x1001_1 x1002_1 = some (r1, r2, r3)) ∧ c_ (kq ≤ k) ∧ c_ (Kd.R Kd.string 9 w' w.heap.size (fun _ => True) v3 x3_1) ∧ c_ (r_ w0 w' g s0_0 x1001_1 x1002_1) ∧ c_ (ar_ w w' g none) ∧ c_ (Below w0.heap.size w0 w'))
 case atStart => exact ⟨(([] : List ByteArray)), (t101), (t102), (t103), (by first | rfl | (simp; done) | (simp [*]; done)), H', ⟨Nat.le_refl _⟩, ⟨by first | exact Kd.R_nil _ _ _ _ _ | exact Kd.N_nil _ _ _ _ _ | exact Kd.V_nil _ _ _ _ _ | exact Kd.Q_nil _ _ _ _ _ | exact Kd.S_nil _ _ _ _ _⟩, ⟨HI0.out⟩, ⟨by repeat (first | (with_reducible first | exact HK.out | apply ar_.set_ | apply ck_ | apply cu_ | apply cl_) | exact HK.out)⟩, ⟨HB.out⟩⟩
 case round =>
  clear H'
  try clear p2
  try clear c3
  obtain ⟨x3_1, x4_1, x1001_1, x1002_1, rfl, HA, HK1, HO_3, HI0, HK, HB⟩ := hrel
  cases gk with
  | zero => exact absurd HA.out (by simp [an_.l0])
  | succ k1 =>
   have H := HA.out
   clear HA
   simp only [an_.l0] at H
   by_cases c4 : x4_1 > 0
   ·rw [if_pos c4] at H
    have c4b0 : decide (0 < x4_1) = true := decide_eq_true c4
    clear c4
    by_cases c5 : x1002_1 = true
    ·subst c5
     have H1 : (some (x3_1, x1001_1, true)) = some (r1, r2, r3) := by first | (rw [if_pos rfl] at H; with_reducible exact H) | exact (if_pos rfl).symm.trans H | (simp only [if_true, eq_self_iff_true] at H ⊢; exact H)
     clear H
     have H := H1
     clear H1
     simp only [Option.some.injEq, Prod.mk.injEq] at H
     obtain ⟨rfl, rfl, rfl⟩ := H
     obtain ⟨ASz6_0, cSz6_0, HGz6, hgz6, HSz6_0⟩ := HI0.out
     have hcz6_0 := cellS102_0 HGz6
     have hcz6_1 := cellS102_1 HGz6
     have hcz6_2 := cellS102_2 HGz6
     have hfz6_1 := a_ HGz6 1
     have hfz6_2 := a_ HGz6 2
     clear HGz6 hgz6
     go_wp2
     go_ret
     exact ⟨_, by first | rfl | (simp [i_, g_] <;> rfl) | (simp [*, i_, g_] <;> rfl), HO_3.out, HI0.out, HB.out, by repeat (first | (with_reducible first | exact HK.out | apply ar_.set_ | apply ck_ | apply cu_ | apply cl_) | exact HK.out)⟩
    ·replace c5 := Bool.eq_false_iff.mpr c5
     subst c5
     have H1 : ((ca_.f s0_0 x1001_1 false).bind fun bt104 => (if x3_1.length < 8796093022208 then (an_.l0 k1 (x3_1 ++ [bt104.1]) (wrap64 (x4_1 - 1)) s0_0 bt104.2.1 bt104.2.2) else (none))) = some (r1, r2, r3) := by rw [if_neg (show ¬ (false = true) by decide)] at H; exact H
     clear H
     have H := H1
     clear H1
     replace H := Option.bind_eq_some_iff.mp H
     obtain ⟨⟨t104, t105, t106⟩, A70, H⟩ := H
     replace H : (if x3_1.length < 8796093022208 then (an_.l0 k1 (x3_1 ++ [t104]) (wrap64 (x4_1 - 1)) s0_0 t105 t106) else (none)) = some (r1, r2, r3) := H
     have A7 := c_.mk A70
     clear A70
     by_cases c8 : x3_1.length < 8796093022208
     ·rw [if_pos c8] at H
      have LMc8 := c_.mk c8
      clear c8
      obtain ⟨y107, hy107⟩ : ∃ y_ : List ByteArray, y_ = (x3_1 ++ [t104]) := ⟨_, rfl⟩
      replace H : (an_.l0 k1 y107 (wrap64 (x4_1 - 1)) s0_0 t105 t106) = some (r1, r2, r3) := by first | (rw [hy107]; with_reducible exact H) | (have H2_ := (Option.bind_some _ _).symm.trans H; rw [hy107]; with_reducible exact H2_) | (have H2_ := (Option.bind_some _ _).symm.trans H; with_reducible exact H2_) | with_reducible exact H | (rw [hy107]; exact H) | exact H
      have Ny107 := c_.mk hy107
      clear hy107
      have H' := c_.mk H
      clear H
      obtain ⟨ASz9_0, cSz9_0, HGz9, hgz9, HSz9_0⟩ := HI0.out
      have hcz9_0 := cellS102_0 HGz9
      have hcz9_1 := cellS102_1 HGz9
      have hcz9_2 := cellS102_2 HGz9
      have hfz9_1 := a_ HGz9 1
      have hfz9_2 := a_ HGz9 2
      clear HGz9 hgz9
      go_wp2_with (first | ((with_reducible refine ah_ (f := 41) rfl ?_); refine bm_ (some 20) rfl rfl Tryz.func41 (by kernel_rfl) rfl #[.pointer (some ⟨g, 0, none⟩)] rfl (by (try simp only [List.map_toArray, List.map_cons, List.map_nil]); first | done | rfl | (simp only [List.length_drop, List.length_take]; rfl)) ?_; (with_reducible refine (ca_.calls g s0_0 x1001_1 false t104 t105 t106 w0 _ ?side1 ?side2 A7.out).mono ?_); (case side1 => repeat (first | (with_reducible first | exact HI0.out | apply r_.alloc | apply r_.drewN | apply r_.drew | apply r_.set_1 | apply r_.set_2) | exact HI0.out)); (case side2 => repeat (first | (with_reducible first | exact HB.out | apply l_ | apply d_ | apply m_ | refine f_ ?_ (r_.ge HI0.out)) | exact HB.out)); rintro e w10 ⟨rfl, hi, hb, hk⟩; refine ⟨_, rfl, ?_⟩; have n0_ := c_.mk (Kd.R_mono (Kd.R_keep (r_.apart (show r_ w0 _ g s0_0 x1001_1 false from HI0.out) (HO_3.out) (by decide)) hk (fun _ h => h.2)) (fun _ h => h.1)); have n1_ := c_.mk (ar_.trans (by repeat (first | (with_reducible first | exact HK.out | apply ar_.set_ | apply ck_ | apply cu_ | apply cl_) | exact HK.out)) hk (.inl rfl)); have n2_ := c_.mk (hb); have n3_ := c_.mk (hi); clear HO_3; clear HK; clear HB; clear HI0; have HO_3 := n0_; have HK := n1_; have HB := n2_; have HI0 := n3_; clear n0_ n1_ n2_ n3_; (try clear hb); (try clear hb2); (try clear hk); (try clear hi)) | ((with_reducible refine bw_ (b := .append) (xs := #[.tmp 18, .tmp 21]) rfl ?_); at_builtin; refine Kd.R_append Kd.string w.heap.size rfl (.tmp 18) (.tmp 21) 32 9 (.string ⟨#[]⟩) 16 rfl Tryz.underlying32 info9 rfl (by decide) (by omega) u3 x3_1 t104 [.string t104] (fun _ => True) (fun _ => False) rfl rfl ?aP (fun _ hk => hk.elim) ?aF ?aO (Below.refl _ _) ?aS ?aL ?_; (case aP => exact rfl); (case aF => exact (fun _ _ => trivial)); (case aO => exact (HO_3.out)); (case aS => exact (keep_size (w := w) (g := g) (row := none) (by repeat (first | (with_reducible first | exact HK.out | apply ar_.set_ | apply ck_ | apply cu_ | apply cl_) | exact HK.out)))); (case aL => have := LMc8.out; omega); intro v108 w11 ho hb hg hat; rw [← Ny107.out] at ho; have n0_ := c_.mk (r_.grown (HI0.out) hg (r_.own_ne HI0.out HO_3.out (by decide))); have n1_ := c_.mk (below_weaken (HB.out) HL.out hb); have n2_ := c_.mk (ar_.trans (by repeat (first | (with_reducible first | exact HK.out | apply ar_.set_ | apply ck_ | apply cu_ | apply cl_) | exact HK.out)) (ar_.of_grown hg g) (Kd.R_base2 HO_3.out)); have n3_ := c_.mk (ho); clear HI0; clear HB; clear HK; clear HO_3; have HI0 := n0_; have HB := n1_; have HK := n2_; have HO109 := n3_; clear n0_ n1_ n2_ n3_; clear ho hb hg hat))
      go_roundg k1
      case measure => have := HK1.out; omega
      case rel => exact ⟨(y107), (wrap64 (x4_1 - 1)), (t105), (t106), (by first | rfl | (simp; done) | (simp [*]; done)), H', ⟨by have := HK1.out; omega⟩, ⟨HO109.out⟩, ⟨HI0.out⟩, ⟨by repeat (first | (with_reducible first | exact HK.out | apply ar_.set_ | apply ck_ | apply cu_ | apply cl_) | exact HK.out)⟩, ⟨HB.out⟩⟩
     ·rw [if_neg c8] at H
      exact absurd H (by simp)
   ·rw [if_neg c4] at H
    have c4b0 : decide (0 < x4_1) = false := decide_eq_false c4
    clear c4
    simp only [Option.some.injEq, Prod.mk.injEq] at H
    obtain ⟨rfl, rfl, rfl⟩ := H
    go_wp2
    go_ret
    exact ⟨_, by first | rfl | (simp [i_, g_] <;> rfl) | (simp [*, i_, g_] <;> rfl), HO_3.out, HI0.out, HB.out, by repeat (first | (with_reducible first | exact HK.out | apply ar_.set_ | apply ck_ | apply cu_ | apply cl_) | exact HK.out)⟩
mutual
def aq_.l0 : Nat → ByteArray → Int → List Int → Int → Bool → Int → Int → List ByteArray → List ByteArray → List (S107) → Option (Int × Int × List ByteArray × List ByteArray × (List (S107)) × Option Int)
 | 0, _, _, _, _, _, _, _, _, _, _ => none
 | k + 1, x0, x6, x113000, x113001, x113002, x120000, x120001, x120002, x120003, x120004 => if x6 > 0 then (aq_.j1 k x0 x6 (!x113002) x113000 x113001 x113002 x120000 x120001 x120002 x120003 x120004) else (aq_.j1 k x0 x6 false x113000 x113001 x113002 x120000 x120001 x120002 x120003 x120004)
def aq_.j1 : Nat → ByteArray → Int → Bool → List Int → Int → Bool → Int → Int → List ByteArray → List ByteArray → List (S107) → Option (Int × Int × List ByteArray × List ByteArray × (List (S107)) × Option Int)
 | 0, _, _, _, _, _, _, _, _, _, _, _ => none
 | k + 1, x0, x6, x35, x113000, x113001, x113002, x120000, x120001, x120002, x120003, x120004 => if x35 = true then ((ca_.f x113000 x113001 x113002).bind fun bt133 => ((ap_.f x113000 bt133.2.1 bt133.2.2 2147483647).bind fun bt136 => ((an_.f k x113000 bt136.2.1 bt136.2.2).bind fun bt140 => (if x120004.length < 2932031007402 then (aq_.l0 k x0 (wrap64 (x6 - 1)) x113000 bt140.2.1 bt140.2.2 x120000 x120001 x120002 x120003 (x120004 ++ [(⟨bt133.1, bt136.1, bt140.1⟩ : S107)])) else (none))))) else (if x113002 = true then (some (0, 0, ([] : List ByteArray), ([] : List ByteArray), ([] : List (S107)), some 2)) else (if x113001 < (x0.size : Int) then (some (0, 0, ([] : List ByteArray), ([] : List ByteArray), ([] : List (S107)), some 2)) else (some (x120000, x120001, x120002, x120003, x120004, none))))
end
def aq_.f (k : Nat) (a0 : ByteArray) (l1 : List Int) : Option (Int × Int × List ByteArray × List ByteArray × (List (S107)) × Option Int) := (msg_long.f a0).bind fun t111 => ((ap_.f l1 0 t111 2147483647).bind fun bt113 => ((ap_.f l1 bt113.2.1 bt113.2.2 2147483647).bind fun bt116 => ((an_.f k l1 bt116.2.1 bt116.2.2).bind fun bt120 => ((an_.f k l1 bt120.2.1 bt120.2.2).bind fun bt125 => ((ap_.f l1 bt125.2.1 bt125.2.2 65536).bind fun bt130 => (aq_.l0 k a0 bt130.1 l1 bt130.2.1 bt130.2.2 bt113.1 bt116.1 bt120.1 bt125.1 ([] : List (S107))))))))
set_option maxHeartbeats 8000000 in
set_option maxRecDepth 100000 in
theorem aq_.callsX (k : Nat) (a0 : ByteArray) (r1 : Int) (r2 : Int) (r3 : List ByteArray) (r4 : List ByteArray) (r5 : List (S107)) (r6 : Option Int) (w0_ : World) (hsz : a0.size ≤ 100000000) (h : aq_.f k a0 (bk_ a0) = some (r1, r2, r3, r4, r5, r6)) :
  Calls Tryz.prog 25 #[.string a0] w0_ fun e w' => ∃ w, Below w0_.heap.size w0_ w ∧ ∃ v2_ v3_ v4_ : Value, e = .returned (.tuple #[.agg #[.int .i64 r1, .int .i64 r2, v2_, v3_, v4_], errW r6]) ∧ Kd.R Kd.string 9 w' w.heap.size (fun k_ => some k_ ≠ (v3_ : Value).ownBlock) v2_ r3 ∧ Kd.R Kd.string 9 w' w.heap.size (fun k_ => some k_ ≠ (v2_ : Value).ownBlock) v3_ r4 ∧ Kd.S k107 107 w' w.heap.size (fun k_ => some k_ ≠ (v2_ : Value).ownBlock ∧ some k_ ≠ (v3_ : Value).ownBlock) v4_ r5 ∧ Below w0_.heap.size w0_ w' := by
 have hu57 := Tryz.underlying57
 have hu102 := Tryz.underlying102
 have hu107 := Tryz.underlying107
 have hu26 := Tryz.underlying26
 have hu29 := Tryz.underlying29
 obtain ⟨l1, hl1⟩ : ∃ l1, l1 = bk_ a0 := ⟨_, rfl⟩
 rw [← hl1] at h
 have HL1 := c_.mk hl1
 have HSZ := c_.mk hsz
 clear hl1 hsz
 have HBZ := c_.mk (Below.refl w0_.heap.size w0_)
 have H : ((msg_long.f a0).bind fun t111 => ((ap_.f l1 0 t111 2147483647).bind fun bt113 => ((ap_.f l1 bt113.2.1 bt113.2.2 2147483647).bind fun bt116 => ((an_.f k l1 bt116.2.1 bt116.2.2).bind fun bt120 => ((an_.f k l1 bt120.2.1 bt120.2.2).bind fun bt125 => ((ap_.f l1 bt125.2.1 bt125.2.2 65536).bind fun bt130 => (aq_.l0 k a0 bt130.1 l1 bt130.2.1 bt130.2.2 bt113.1 bt116.1 bt120.1 bt125.1 ([] : List (S107))))))))) = some (r1, r2, r3, r4, r5, r6) := h
 clear h
 replace H := Option.bind_eq_some_iff.mp H
 obtain ⟨t111, A30, H⟩ := H
 replace H : ((ap_.f l1 0 t111 2147483647).bind fun bt113 => ((ap_.f l1 bt113.2.1 bt113.2.2 2147483647).bind fun bt116 => ((an_.f k l1 bt116.2.1 bt116.2.2).bind fun bt120 => ((an_.f k l1 bt120.2.1 bt120.2.2).bind fun bt125 => ((ap_.f l1 bt125.2.1 bt125.2.2 65536).bind fun bt130 => (aq_.l0 k a0 bt130.1 l1 bt130.2.1 bt130.2.2 bt113.1 bt116.1 bt120.1 bt125.1 ([] : List (S107)))))))) = some (r1, r2, r3, r4, r5, r6) := H
 have A3 := c_.mk A30
 clear A30
 replace H := Option.bind_eq_some_iff.mp H
 obtain ⟨⟨t113, t114, t115⟩, A40, H⟩ := H
 replace H : ((ap_.f l1 t114 t115 2147483647).bind fun bt116 => ((an_.f k l1 bt116.2.1 bt116.2.2).bind fun bt120 => ((an_.f k l1 bt120.2.1 bt120.2.2).bind fun bt125 => ((ap_.f l1 bt125.2.1 bt125.2.2 65536).bind fun bt130 => (aq_.l0 k a0 bt130.1 l1 bt130.2.1 bt130.2.2 t113 bt116.1 bt120.1 bt125.1 ([] : List (S107))))))) = some (r1, r2, r3, r4, r5, r6) := H
 have A4 := c_.mk A40
 clear A40
 replace H := Option.bind_eq_some_iff.mp H
 obtain ⟨⟨t116, t117, t118⟩, A50, H⟩ := H
 replace H : ((an_.f k l1 t117 t118).bind fun bt120 => ((an_.f k l1 bt120.2.1 bt120.2.2).bind fun bt125 => ((ap_.f l1 bt125.2.1 bt125.2.2 65536).bind fun bt130 => (aq_.l0 k a0 bt130.1 l1 bt130.2.1 bt130.2.2 t113 t116 bt120.1 bt125.1 ([] : List (S107)))))) = some (r1, r2, r3, r4, r5, r6) := H
 have A5 := c_.mk A50
 clear A50
 replace H := Option.bind_eq_some_iff.mp H
 obtain ⟨⟨t120, t123, t124⟩, A60, H⟩ := H
 replace H : ((an_.f k l1 t123 t124).bind fun bt125 => ((ap_.f l1 bt125.2.1 bt125.2.2 65536).bind fun bt130 => (aq_.l0 k a0 bt130.1 l1 bt130.2.1 bt130.2.2 t113 t116 t120 bt125.1 ([] : List (S107))))) = some (r1, r2, r3, r4, r5, r6) := H
 have A6 := c_.mk A60
 clear A60
 replace H := Option.bind_eq_some_iff.mp H
 obtain ⟨⟨t125, t128, t129⟩, A70, H⟩ := H
 replace H : ((ap_.f l1 t128 t129 65536).bind fun bt130 => (aq_.l0 k a0 bt130.1 l1 bt130.2.1 bt130.2.2 t113 t116 t120 t125 ([] : List (S107)))) = some (r1, r2, r3, r4, r5, r6) := H
 have A7 := c_.mk A70
 clear A70
 replace H := Option.bind_eq_some_iff.mp H
 obtain ⟨⟨t130, t131, t132⟩, A80, H⟩ := H
 replace H : (aq_.l0 k a0 t130 l1 t131 t132 t113 t116 t120 t125 ([] : List (S107))) = some (r1, r2, r3, r4, r5, r6) := H
 have A8 := c_.mk A80
 clear A80
 have H' := c_.mk H
 clear H
 go_enter Tryz.func25, Tryz.ntmps25
 go_wp2_with (first | ((with_reducible refine be_ (N := 2) rfl ?_); (try (refine cm_ (by rfl) ?_; dsimp only)); refine bd_ ?hg (N := 2) ?hd (cs := #[.int .i64 0, .int .i64 0, .slice none 0 0, .slice none 0 0, .slice none 0 0]) (t := 57) ?hr ?_; (case hd => rfl); (case hg => rfl); (case hr => first | (go_simp; done) | (go_simp; rfl)); intro gb110 hg w9 hbox hb; have n0_ := c_.mk (ac_ (by repeat (first | (with_reducible first | exact HBZ.out | apply l_ | apply d_ | apply m_) | exact HBZ.out)) hb); have n1_ := c_.mk (hbox); have n2_ := c_.mk ((by rw [hg]; exact (v_ (by repeat (first | (with_reducible first | exact HBZ.out | apply l_ | apply d_ | apply m_) | exact HBZ.out))) : w0_.heap.size ≤ gb110)); have n3_ := c_.mk ((by rw [hg]; exact (v_ (by repeat (first | (with_reducible first | exact HBZ.out | apply l_ | apply d_ | apply m_) | exact HBZ.out))) : w0_.heap.size ≤ gb110)); clear HBZ; have HBZ := n0_; have BK110 := n1_; have GW110 := n2_; have GE110 := n3_; clear n0_ n1_ n2_ n3_; clear hb hbox hg) | ((with_reducible refine be_ (N := 9) rfl ?_); (try (refine cm_ (by rfl) ?_; dsimp only)); refine conv_event rfl HL1.out HSZ.out rfl rfl Tryz.underlying9 Tryz.underlying70 Tryz.underlying5 ?_; intro A1 c1 w hR hc hb; have n0_ := c_.mk (s_ (g := gb110) (o := .cells #[.int .i64 0, .int .i64 0, .slice none 0 0, .slice none 0 0, .slice none 0 0] 57 (0, 0)) BK110.out hb); have n1_ : c_ (Below w0_.heap.size w0_ w) := c_.mk (ac_ HBZ.out hb); clear BK110; clear HBZ; have BK110 := n0_; have HBC := n1_; have HR1 := c_.mk hR; have HC1 := c_.mk hc; have HB := c_.mk (Below.refl w.heap.size w); clear n0_ n1_; clear hb hR hc) | ((with_reducible refine ah_ (f := 38) rfl ?_); refine bm_ (some 11) rfl rfl Tryz.func38 (by kernel_rfl) rfl #[.string a0] rfl (by (try simp only [List.map_toArray, List.map_cons, List.map_nil]); first | done | rfl | (simp only [List.length_drop, List.length_take]; rfl)) ?_; (with_reducible refine (msg_long.calls a0 t111 _ A3.out).mono ?_); rintro e w' ⟨rfl, ⟨nd, rfl⟩⟩; refine ⟨_, rfl, ?_⟩; (try (rw [drewN_self w9]; generalize hq_ : World.drewN w9 _ = w9; have n0_ : c_ (w9.heap[gb110]? = some (.cells #[.int .i64 0, .int .i64 0, .slice none 0 0, .slice none 0 0, .slice none 0 0] 57 (0, 0))) := ⟨by rw [← hq_]; exact (by (with_reducible repeat (first | refine u_ ?_ _ | refine o_ ?_ | refine x_ ?_ _)); exact BK110.out)⟩; have n1_ : c_ (Below w.heap.size w w9) := ⟨by rw [← hq_]; exact (by repeat (first | (with_reducible first | exact HB.out | apply l_ | apply d_ | apply m_ | refine f_ ?_ GE110.out) | exact HB.out))⟩; clear BK110 HB hq_; have BK110 := n0_; have HB := n1_; clear n0_ n1_))) | ((with_reducible refine be_ (N := 13) rfl ?_); (try (refine cm_ (by rfl) ?_; dsimp only)); refine bd_ ?hg (N := 13) ?hd (cs := #[.slice A1 l1.length c1, .int .i64 0, .bool t111]) (t := 102) ?hr ?_; (case hd => rfl); (case hg => rfl); (case hr => first | (go_simp; done) | (go_simp; rfl)); intro gb112 hg w10 hbox hb; have n0_ := c_.mk (s_ (g := gb110) (o := .cells #[.int .i64 0, .int .i64 0, .slice none 0 0, .slice none 0 0, .slice none 0 0] 57 (0, 0)) (by (with_reducible repeat (first | refine u_ ?_ _ | refine o_ ?_ | refine x_ ?_ _)); exact BK110.out) hb); have n1_ := c_.mk (ac_ (by repeat (first | (with_reducible first | exact HB.out | apply l_ | apply d_ | apply m_ | refine f_ ?_ GE110.out) | exact HB.out)) hb); have n2_ := c_.mk ((⟨_, _, hbox, (by rw [hg]; exact (v_ (by repeat (first | (with_reducible first | exact HB.out | apply l_ | apply d_ | apply m_ | refine f_ ?_ GE110.out) | exact HB.out)))), ⟨HR1.out, HC1.out⟩⟩ : r_ w w10 gb112 l1 0 t111)); have n3_ := c_.mk ((by rw [hg]; exact (v_ (by repeat (first | (with_reducible first | exact HB.out | apply l_ | apply d_ | apply m_ | refine f_ ?_ GE110.out) | exact HB.out))) : w.heap.size ≤ gb112)); have n4_ := c_.mk ((by rw [hg]; exact (v_ (by repeat (first | (with_reducible first | exact HB.out | apply l_ | apply d_ | apply m_ | refine f_ ?_ GE110.out) | exact HB.out))) : w.heap.size ≤ gb112)); have n5_ := c_.mk ((by rw [hg]; exact Nat.ne_of_lt (bj_ (g := gb110) (o := .cells #[.int .i64 0, .int .i64 0, .slice none 0 0, .slice none 0 0, .slice none 0 0] 57 (0, 0)) (by (with_reducible repeat (first | refine u_ ?_ _ | refine o_ ?_ | refine x_ ?_ _)); exact BK110.out)) : gb110 ≠ gb112)); have n6_ := c_.mk ((by rw [hg]; exact Nat.ne_of_gt (bj_ (g := gb110) (o := .cells #[.int .i64 0, .int .i64 0, .slice none 0 0, .slice none 0 0, .slice none 0 0] 57 (0, 0)) (by (with_reducible repeat (first | refine u_ ?_ _ | refine o_ ?_ | refine x_ ?_ _)); exact BK110.out)) : gb112 ≠ gb110)); clear BK110; clear HB; have BK110 := n0_; have HB := n1_; have HI112 := n2_; have GW112 := n3_; have GE112 := n4_; have NB110_112 := n5_; have NB112_110 := n6_; clear n0_ n1_ n2_ n3_ n4_ n5_ n6_; clear hb hbox hg) | ((with_reducible refine ah_ (f := 39) rfl ?_); refine bm_ (some 15) rfl rfl Tryz.func39 (by kernel_rfl) rfl #[.pointer (some ⟨gb112, 0, none⟩), .int .u64 2147483647] rfl (by (try simp only [List.map_toArray, List.map_cons, List.map_nil]); first | done | rfl | (simp only [List.length_drop, List.length_take]; rfl)) ?_; (with_reducible refine (ap_.calls gb112 l1 0 t111 2147483647 t113 t114 t115 w _ ?side1 ?side2 A4.out).mono ?_); (case side1 => repeat (first | (with_reducible first | exact HI112.out | apply r_.alloc | apply r_.drewN | apply r_.drew | apply r_.set_1 | apply r_.set_2 | refine r_.far ?_ NB112_110.out _) | exact HI112.out)); (case side2 => repeat (first | (with_reducible first | exact HB.out | apply l_ | apply d_ | apply m_ | refine f_ ?_ (r_.ge HI112.out) | refine f_ ?_ GE110.out) | exact HB.out)); rintro e w11 ⟨rfl, hi, hb, hk⟩; refine ⟨_, rfl, ?_⟩; have n0_ := c_.mk (ar_.blk hk (g' := gb110) (o := .cells #[.int .i64 0, .int .i64 0, .slice none 0 0, .slice none 0 0, .slice none 0 0] 57 (0, 0)) (by (with_reducible repeat (first | refine u_ ?_ _ | refine o_ ?_ | refine x_ ?_ _)); exact BK110.out) NB110_112.out (by simp)); have n1_ := c_.mk (hb); have n2_ := c_.mk (hi); clear BK110; clear HB; clear HI112; have BK110 := n0_; have HB := n1_; have HI112 := n2_; clear n0_ n1_ n2_; (try clear hb); (try clear hb2); (try clear hk); (try clear hi)) | ((with_reducible refine ah_ (f := 39) rfl ?_); refine bm_ (some 17) rfl rfl Tryz.func39 (by kernel_rfl) rfl #[.pointer (some ⟨gb112, 0, none⟩), .int .u64 2147483647] rfl (by (try simp only [List.map_toArray, List.map_cons, List.map_nil]); first | done | rfl | (simp only [List.length_drop, List.length_take]; rfl)) ?_; (with_reducible refine (ap_.calls gb112 l1 t114 t115 2147483647 t116 t117 t118 w _ ?side1 ?side2 A5.out).mono ?_); (case side1 => repeat (first | (with_reducible first | exact HI112.out | apply r_.alloc | apply r_.drewN | apply r_.drew | apply r_.set_1 | apply r_.set_2 | refine r_.far ?_ NB112_110.out _) | exact HI112.out)); (case side2 => repeat (first | (with_reducible first | exact HB.out | apply l_ | apply d_ | apply m_ | refine f_ ?_ (r_.ge HI112.out) | refine f_ ?_ GE110.out) | exact HB.out)); rintro e w12 ⟨rfl, hi, hb, hk⟩; refine ⟨_, rfl, ?_⟩; have n0_ := c_.mk (ar_.blk hk (g' := gb110) (o := .cells #[.int .i64 0, .int .i64 0, .slice none 0 0, .slice none 0 0, .slice none 0 0] 57 (0, 0)) (by (with_reducible repeat (first | refine u_ ?_ _ | refine o_ ?_ | refine x_ ?_ _)); exact BK110.out) NB110_112.out (by simp)); have n1_ := c_.mk (hb); have n2_ := c_.mk (hi); clear BK110; clear HB; clear HI112; have BK110 := n0_; have HB := n1_; have HI112 := n2_; clear n0_ n1_ n2_; (try clear hb); (try clear hb2); (try clear hk); (try clear hi)) | ((with_reducible refine be_ (N := 5) rfl ?_); (try (refine cm_ (by rfl) ?_; dsimp only)); refine bd_ ?hg (N := 5) ?hd (cs := #[.int .i64 0, .int .i64 0, .slice none 0 0, .slice none 0 0, .slice none 0 0]) (t := 57) ?hr ?_; (case hd => rfl); (case hg => rfl); (case hr => first | (go_simp; done) | (go_simp; rfl)); intro gb119 hg w13 hbox hb; have n0_ := c_.mk (s_ (g := gb110) (o := .cells #[.int .i64 0, .int .i64 0, .slice none 0 0, .slice none 0 0, .slice none 0 0] 57 (0, 0)) (by (with_reducible repeat (first | refine u_ ?_ _ | refine o_ ?_ | refine x_ ?_ _)); exact BK110.out) hb); have n1_ := c_.mk (r_.below (by repeat (first | (with_reducible first | exact HI112.out | apply r_.alloc | apply r_.drewN | apply r_.drew | apply r_.set_1 | apply r_.set_2 | refine r_.far ?_ NB112_110.out _) | exact HI112.out)) hb); have n2_ := c_.mk (ac_ (by repeat (first | (with_reducible first | exact HB.out | apply l_ | apply d_ | apply m_ | refine f_ ?_ (r_.ge HI112.out) | refine f_ ?_ GE110.out) | exact HB.out)) hb); have n3_ := c_.mk (hbox); have n4_ := c_.mk ((by rw [hg]; exact (v_ (by repeat (first | (with_reducible first | exact HB.out | apply l_ | apply d_ | apply m_ | refine f_ ?_ (r_.ge HI112.out) | refine f_ ?_ GE110.out) | exact HB.out))) : w.heap.size ≤ gb119)); have n5_ := c_.mk ((by rw [hg]; exact (v_ (by repeat (first | (with_reducible first | exact HB.out | apply l_ | apply d_ | apply m_ | refine f_ ?_ (r_.ge HI112.out) | refine f_ ?_ GE110.out) | exact HB.out))) : w.heap.size ≤ gb119)); have n6_ := c_.mk ((by rw [hg]; exact Nat.ne_of_lt (bj_ (g := gb110) (o := .cells #[.int .i64 0, .int .i64 0, .slice none 0 0, .slice none 0 0, .slice none 0 0] 57 (0, 0)) (by (with_reducible repeat (first | refine u_ ?_ _ | refine o_ ?_ | refine x_ ?_ _)); exact BK110.out)) : gb110 ≠ gb119)); have n7_ := c_.mk ((by rw [hg]; exact Nat.ne_of_gt (bj_ (g := gb110) (o := .cells #[.int .i64 0, .int .i64 0, .slice none 0 0, .slice none 0 0, .slice none 0 0] 57 (0, 0)) (by (with_reducible repeat (first | refine u_ ?_ _ | refine o_ ?_ | refine x_ ?_ _)); exact BK110.out)) : gb119 ≠ gb110)); have n8_ := c_.mk ((by rw [hg]; exact Nat.ne_of_lt (r_.lt (show r_ w _ gb112 l1 t117 t118 from by repeat (first | (with_reducible first | exact HI112.out | apply r_.alloc | apply r_.drewN | apply r_.drew | apply r_.set_1 | apply r_.set_2 | refine r_.far ?_ NB112_110.out _) | exact HI112.out))) : gb112 ≠ gb119)); have n9_ := c_.mk ((by rw [hg]; exact Nat.ne_of_gt (r_.lt (show r_ w _ gb112 l1 t117 t118 from by repeat (first | (with_reducible first | exact HI112.out | apply r_.alloc | apply r_.drewN | apply r_.drew | apply r_.set_1 | apply r_.set_2 | refine r_.far ?_ NB112_110.out _) | exact HI112.out))) : gb119 ≠ gb112)); clear BK110; clear HI112; clear HB; have BK110 := n0_; have HI112 := n1_; have HB := n2_; have BK119 := n3_; have GW119 := n4_; have GE119 := n5_; have NB110_119 := n6_; have NB119_110 := n7_; have NB112_119 := n8_; have NB119_112 := n9_; clear n0_ n1_ n2_ n3_ n4_ n5_ n6_ n7_ n8_ n9_; clear hb hbox hg; have hnb14 := NB119_110.out; have hnc14 := NB110_119.out; have hnb15 := NB119_112.out; have hnc15 := NB112_119.out; have hcz16_0 : w13.cell? ⟨gb119, 0, none⟩ = some (.int .i64 0) := (b_ BK119.out 0).trans rfl; have hcz16_1 : w13.cell? ⟨gb119, 1, none⟩ = some (.int .i64 0) := (b_ BK119.out 1).trans rfl; have hcz16_2 : w13.cell? ⟨gb119, 2, none⟩ = some (.slice none 0 0) := (b_ BK119.out 2).trans rfl; have hcz16_3 : w13.cell? ⟨gb119, 3, none⟩ = some (.slice none 0 0) := (b_ BK119.out 3).trans rfl; have hcz16_4 : w13.cell? ⟨gb119, 4, none⟩ = some (.slice none 0 0) := (b_ BK119.out 4).trans rfl; have hfz16_0 := a_ BK119.out 0; have hfz16_1 := a_ BK119.out 1; have hfz16_2 := a_ BK119.out 2; have hfz16_3 := a_ BK119.out 3; have hfz16_4 := a_ BK119.out 4) | ((with_reducible refine ah_ (f := 40) rfl ?_); refine bm_ (some 20) rfl rfl Tryz.func40 (by kernel_rfl) rfl #[.pointer (some ⟨gb112, 0, none⟩)] rfl (by (try simp only [List.map_toArray, List.map_cons, List.map_nil]); first | done | rfl | (simp only [List.length_drop, List.length_take]; rfl)) ?_; (with_reducible refine (an_.calls k gb112 l1 t117 t118 t120 t123 t124 w _ ?side1 ?side2 A6.out).mono ?_); (case side1 => repeat (first | (with_reducible first | exact HI112.out | apply r_.alloc | apply r_.drewN | apply r_.drew | apply r_.set_1 | apply r_.set_2 | refine r_.far ?_ NB112_110.out _ | refine r_.far ?_ NB112_119.out _) | exact HI112.out)); (case side2 => repeat (first | (with_reducible first | exact HB.out | apply l_ | apply d_ | apply m_ | refine f_ ?_ (r_.ge HI112.out) | refine f_ ?_ GE110.out | refine f_ ?_ GE119.out) | exact HB.out)); rintro e w17 ⟨v121, rfl, ho0, hi, hb, hk⟩; refine ⟨_, rfl, ?_⟩; have n0_ := c_.mk (ar_.blk hk (g' := gb110) (o := .cells #[.int .i64 0, .int .i64 0, .slice none 0 0, .slice none 0 0, .slice none 0 0] 57 (0, 0)) (by (with_reducible repeat (first | refine u_ ?_ _ | refine o_ ?_ | refine x_ ?_ _)); refine bl_ ?_ NB110_119.out _; (with_reducible repeat (first | refine u_ ?_ _ | refine o_ ?_ | refine x_ ?_ _)); refine bl_ ?_ NB110_119.out _; (with_reducible repeat (first | refine u_ ?_ _ | refine o_ ?_ | refine x_ ?_ _)); refine bl_ ?_ NB110_119.out _; (with_reducible repeat (first | refine u_ ?_ _ | refine o_ ?_ | refine x_ ?_ _)); refine bl_ ?_ NB110_119.out _; (with_reducible repeat (first | refine u_ ?_ _ | refine o_ ?_ | refine x_ ?_ _)); refine bl_ ?_ NB110_119.out _; (with_reducible repeat (first | refine u_ ?_ _ | refine o_ ?_ | refine x_ ?_ _)); exact BK110.out) NB110_112.out (by simp)); have n1_ := c_.mk (ar_.blk hk (g' := gb119) (o := .cells #[.int .i64 t113, .int .i64 t116, .slice none 0 0, .slice none 0 0, .slice none 0 0] 57 (0, 0)) (by (with_reducible repeat (first | refine u_ ?_ _ | refine o_ ?_ | refine x_ ?_ _)); refine bh_ (cs := #[.int .i64 t113, .int .i64 t116, .slice none 0 0, .slice none 0 0, .slice none 0 0]) ?_ 4 _ rfl; (with_reducible repeat (first | refine u_ ?_ _ | refine o_ ?_ | refine x_ ?_ _)); refine bh_ (cs := #[.int .i64 t113, .int .i64 t116, .slice none 0 0, .slice none 0 0, .slice none 0 0]) ?_ 3 _ rfl; (with_reducible repeat (first | refine u_ ?_ _ | refine o_ ?_ | refine x_ ?_ _)); refine bh_ (cs := #[.int .i64 t113, .int .i64 t116, .slice none 0 0, .slice none 0 0, .slice none 0 0]) ?_ 2 _ rfl; (with_reducible repeat (first | refine u_ ?_ _ | refine o_ ?_ | refine x_ ?_ _)); refine bh_ (cs := #[.int .i64 t113, .int .i64 0, .slice none 0 0, .slice none 0 0, .slice none 0 0]) ?_ 1 _ rfl; (with_reducible repeat (first | refine u_ ?_ _ | refine o_ ?_ | refine x_ ?_ _)); refine bh_ (cs := #[.int .i64 0, .int .i64 0, .slice none 0 0, .slice none 0 0, .slice none 0 0]) ?_ 0 _ rfl; (with_reducible repeat (first | refine u_ ?_ _ | refine o_ ?_ | refine x_ ?_ _)); exact BK119.out) NB119_112.out (by simp)); have n2_ := c_.mk (Kd.R_lower ho0 (v_ (by repeat (first | (with_reducible first | exact HB.out | apply l_ | apply d_ | apply m_ | refine f_ ?_ (r_.ge HI112.out) | refine f_ ?_ GE110.out | refine f_ ?_ GE119.out) | exact HB.out)))); have n3_ := c_.mk (hb); have n4_ := c_.mk (hi); clear BK110; clear BK119; clear HB; clear HI112; have BK110 := n0_; have BK119 := n1_; have HO122 := n2_; have HB := n3_; have HI112 := n4_; clear n0_ n1_ n2_ n3_ n4_; (try clear hb); (try clear hb2); (try clear hk); (try clear hi); (try clear ho0)) | ((with_reducible refine ah_ (f := 40) rfl ?_); refine bm_ (some 22) rfl rfl Tryz.func40 (by kernel_rfl) rfl #[.pointer (some ⟨gb112, 0, none⟩)] rfl (by (try simp only [List.map_toArray, List.map_cons, List.map_nil]); first | done | rfl | (simp only [List.length_drop, List.length_take]; rfl)) ?_; (with_reducible refine (an_.calls k gb112 l1 t123 t124 t125 t128 t129 w _ ?side1 ?side2 A7.out).mono ?_); (case side1 => repeat (first | (with_reducible first | exact HI112.out | apply r_.alloc | apply r_.drewN | apply r_.drew | apply r_.set_1 | apply r_.set_2 | refine r_.far ?_ NB112_110.out _ | refine r_.far ?_ NB112_119.out _) | exact HI112.out)); (case side2 => repeat (first | (with_reducible first | exact HB.out | apply l_ | apply d_ | apply m_ | refine f_ ?_ (r_.ge HI112.out) | refine f_ ?_ GE110.out | refine f_ ?_ GE119.out) | exact HB.out)); rintro e w18 ⟨v126, rfl, ho0, hi, hb, hk⟩; refine ⟨_, rfl, ?_⟩; have n0_ := c_.mk (ar_.blk hk (g' := gb110) (o := .cells #[.int .i64 0, .int .i64 0, .slice none 0 0, .slice none 0 0, .slice none 0 0] 57 (0, 0)) (by (with_reducible repeat (first | refine u_ ?_ _ | refine o_ ?_ | refine x_ ?_ _)); exact BK110.out) NB110_112.out (by simp)); have n1_ := c_.mk (ar_.blk hk (g' := gb119) (o := .cells #[.int .i64 t113, .int .i64 t116, .slice none 0 0, .slice none 0 0, .slice none 0 0] 57 (0, 0)) (by (with_reducible repeat (first | refine u_ ?_ _ | refine o_ ?_ | refine x_ ?_ _)); exact BK119.out) NB119_112.out (by simp)); have n2_ := c_.mk (Kd.R_mono (Kd.R_told (Kd.R_oldK (r_.apart (show r_ w _ gb112 l1 t123 t124 from by repeat (first | (with_reducible first | exact HI112.out | apply r_.alloc | apply r_.drewN | apply r_.drew | apply r_.set_1 | apply r_.set_2 | refine r_.far ?_ NB112_110.out _ | refine r_.far ?_ NB112_119.out _) | exact HI112.out)) (by (with_reducible repeat (first | apply Kd.R_alloc | apply Kd.R_drewN | apply Kd.R_drew)); exact HO122.out) (by decide)) hk) (Kd.R_base ho0)) (fun _ h_ => h_.1)); have n3_ := c_.mk (Kd.R_lower (Kd.R_new' ho0 (Kd.R_lt (by (with_reducible repeat (first | apply Kd.R_alloc | apply Kd.R_drewN | apply Kd.R_drew)); exact HO122.out))) (v_ (by repeat (first | (with_reducible first | exact HB.out | apply l_ | apply d_ | apply m_ | refine f_ ?_ (r_.ge HI112.out) | refine f_ ?_ GE110.out | refine f_ ?_ GE119.out) | exact HB.out)))); have n4_ := c_.mk (hb); have n5_ := c_.mk (hi); clear BK110; clear BK119; clear HO122; clear HB; clear HI112; have BK110 := n0_; have BK119 := n1_; have HO122 := n2_; have HO127 := n3_; have HB := n4_; have HI112 := n5_; clear n0_ n1_ n2_ n3_ n4_ n5_; (try clear hb); (try clear hb2); (try clear hk); (try clear hi); (try clear ho0); obtain ⟨Ao19, co19, eo19⟩ := Kd.R_slice HO122.out; subst eo19; have hcz20_0 : w18.cell? ⟨gb119, 0, none⟩ = some (.int .i64 t113) := (b_ BK119.out 0).trans rfl; have hcz20_1 : w18.cell? ⟨gb119, 1, none⟩ = some (.int .i64 t116) := (b_ BK119.out 1).trans rfl; have hcz20_2 : w18.cell? ⟨gb119, 2, none⟩ = some (.slice none 0 0) := (b_ BK119.out 2).trans rfl; have hcz20_3 : w18.cell? ⟨gb119, 3, none⟩ = some (.slice none 0 0) := (b_ BK119.out 3).trans rfl; have hcz20_4 : w18.cell? ⟨gb119, 4, none⟩ = some (.slice none 0 0) := (b_ BK119.out 4).trans rfl; have hfz20_0 := a_ BK119.out 0; have hfz20_1 := a_ BK119.out 1; have hfz20_2 := a_ BK119.out 2; have hfz20_3 := a_ BK119.out 3; have hfz20_4 := a_ BK119.out 4; obtain ⟨Ao21, co21, eo21⟩ := Kd.R_slice HO127.out; subst eo21) | ((with_reducible refine ah_ (f := 39) rfl ?_); refine bm_ (some 26) rfl rfl Tryz.func39 (by kernel_rfl) rfl #[.pointer (some ⟨gb112, 0, none⟩), .int .u64 65536] rfl (by (try simp only [List.map_toArray, List.map_cons, List.map_nil]); first | done | rfl | (simp only [List.length_drop, List.length_take]; rfl)) ?_; (with_reducible refine (ap_.calls gb112 l1 t128 t129 65536 t130 t131 t132 w _ ?side1 ?side2 A8.out).mono ?_); (case side1 => repeat (first | (with_reducible first | exact HI112.out | apply r_.alloc | apply r_.drewN | apply r_.drew | apply r_.set_1 | apply r_.set_2 | refine r_.far ?_ NB112_110.out _ | refine r_.far ?_ NB112_119.out _) | exact HI112.out)); (case side2 => repeat (first | (with_reducible first | exact HB.out | apply l_ | apply d_ | apply m_ | refine f_ ?_ (r_.ge HI112.out) | refine f_ ?_ GE110.out | refine f_ ?_ GE119.out) | exact HB.out)); rintro e w22 ⟨rfl, hi, hb, hk⟩; refine ⟨_, rfl, ?_⟩; have n0_ := c_.mk (ar_.blk hk (g' := gb110) (o := .cells #[.int .i64 0, .int .i64 0, .slice none 0 0, .slice none 0 0, .slice none 0 0] 57 (0, 0)) (by (with_reducible repeat (first | refine u_ ?_ _ | refine o_ ?_ | refine x_ ?_ _)); refine bl_ ?_ NB110_119.out _; (with_reducible repeat (first | refine u_ ?_ _ | refine o_ ?_ | refine x_ ?_ _)); refine bl_ ?_ NB110_119.out _; (with_reducible repeat (first | refine u_ ?_ _ | refine o_ ?_ | refine x_ ?_ _)); exact BK110.out) NB110_112.out (by simp)); have n1_ := c_.mk (ar_.blk hk (g' := gb119) (o := .cells #[.int .i64 t113, .int .i64 t116, .slice Ao19 t120.length co19, .slice Ao21 t125.length co21, .slice none 0 0] 57 (0, 0)) (by (with_reducible repeat (first | refine u_ ?_ _ | refine o_ ?_ | refine x_ ?_ _)); refine bh_ (cs := #[.int .i64 t113, .int .i64 t116, .slice Ao19 t120.length co19, .slice none 0 0, .slice none 0 0]) ?_ 3 _ rfl; (with_reducible repeat (first | refine u_ ?_ _ | refine o_ ?_ | refine x_ ?_ _)); refine bh_ (cs := #[.int .i64 t113, .int .i64 t116, .slice none 0 0, .slice none 0 0, .slice none 0 0]) ?_ 2 _ rfl; (with_reducible repeat (first | refine u_ ?_ _ | refine o_ ?_ | refine x_ ?_ _)); exact BK119.out) NB119_112.out (by simp)); have n2_ := c_.mk (Kd.R_mono (Kd.R_keep (r_.apart (show r_ w _ gb112 l1 t128 t129 from by repeat (first | (with_reducible first | exact HI112.out | apply r_.alloc | apply r_.drewN | apply r_.drew | apply r_.set_1 | apply r_.set_2 | refine r_.far ?_ NB112_110.out _ | refine r_.far ?_ NB112_119.out _) | exact HI112.out)) (by (with_reducible repeat (first | apply Kd.R_alloc | apply Kd.R_drewN | apply Kd.R_drew)); exact (Kd.R_mono (Kd.R_far (p := ⟨gb119, 3, none⟩) (Kd.R_far (p := ⟨gb119, 2, none⟩) (Kd.R_types HO122.out BK119.out (by decide)) (fun _ hk => hk.2) (.slice Ao19 t120.length co19)) (fun _ hk => hk.2) (.slice Ao21 t125.length co21)) (fun _ h_ => h_.1))) (by decide)) hk (fun _ h => h.2)) (fun _ h => h.1)); have n3_ := c_.mk (Kd.R_mono (Kd.R_keep (r_.apart (show r_ w _ gb112 l1 t128 t129 from by repeat (first | (with_reducible first | exact HI112.out | apply r_.alloc | apply r_.drewN | apply r_.drew | apply r_.set_1 | apply r_.set_2 | refine r_.far ?_ NB112_110.out _ | refine r_.far ?_ NB112_119.out _) | exact HI112.out)) (by (with_reducible repeat (first | apply Kd.R_alloc | apply Kd.R_drewN | apply Kd.R_drew)); exact (Kd.R_mono (Kd.R_far (p := ⟨gb119, 3, none⟩) (Kd.R_far (p := ⟨gb119, 2, none⟩) (Kd.R_types HO127.out BK119.out (by decide)) (fun _ hk => hk.2) (.slice Ao19 t120.length co19)) (fun _ hk => hk.2) (.slice Ao21 t125.length co21)) (fun _ h_ => h_.1))) (by decide)) hk (fun _ h => h.2)) (fun _ h => h.1)); have n4_ := c_.mk (hb); have n5_ := c_.mk (hi); clear BK110; clear BK119; clear HO122; clear HO127; clear HB; clear HI112; have BK110 := n0_; have BK119 := n1_; have HO122 := n2_; have HO127 := n3_; have HB := n4_; have HI112 := n5_; clear n0_ n1_ n2_ n3_ n4_ n5_; (try clear hb); (try clear hb2); (try clear hk); (try clear hi)))
 go_loopg [6] k (fun kq v6 w' => ∃ (x6_1 : Int) (x113001_1 : Int) (x113002_1 : Bool) (x120004_1 : List (S107)) (u120004 : Value), v6 = .int .i64 x6_1 ∧ c_ (aq_.l0 kq a0 x6_1 l1 x113001_1 x113002_1 t113 t116 t120 t125 x120004_1 = some (r1, r2, r3, r4, r5, r6)) ∧ c_ (kq ≤ k) ∧ c_ (Kd.R Kd.string 9 w' w.heap.size (fun k_ => some k_ ≠ ((.slice Ao21 t125.length co21) : Value).ownBlock) (.slice Ao19 t120.length co19) t120) ∧ c_ (Kd.R Kd.string 9 w' w.heap.size (fun k_ => some k_ ≠ ((.slice Ao19 t120.length co19) : Value).ownBlock) (.slice Ao21 t125.length co21) t125) ∧ c_ (Kd.S k107 107 w' w.heap.size (fun k_ => some k_ ≠ ((.slice Ao19 t120.length co19) : Value).ownBlock ∧ some k_ ≠ ((.slice Ao21 t125.length co21) : Value).ownBlock) u120004 x120004_1) ∧ c_ (w'.heap[gb110]? = some (.cells #[.int .i64 0, .int .i64 0, (.slice none 0 0), (.slice none 0 0), (.slice none 0 0)] 57 (0, 0))) ∧ c_ (w'.heap[gb119]? = some (.cells #[.int .i64 t113, .int .i64 t116, (.slice Ao19 t120.length co19), (.slice Ao21 t125.length co21), u120004] 57 (0, 0))) ∧ c_ (r_ w w' gb112 l1 x113001_1 x113002_1) ∧ c_ (Below w.heap.size w w'))
 case atStart => exact ⟨(t130), (t131), (t132), (([] : List (S107))), (.slice none 0 0), (by first | rfl | (simp; done) | (simp [*]; done)), H', ⟨Nat.le_refl _⟩, ⟨Kd.R_mono HO122.out (fun _ hk => hk.2)⟩, ⟨Kd.R_mono HO127.out (fun _ hk => hk.2)⟩, ⟨by first | exact Kd.S_nil _ _ _ _ _ | exact Kd.N_nil _ _ _ _ _ | exact Kd.V_nil _ _ _ _ _ | exact Kd.Q_nil _ _ _ _ _ | exact Kd.R_nil _ _ _ _ _⟩, ⟨BK110.out⟩, ⟨BK119.out⟩, ⟨HI112.out⟩, ⟨HB.out⟩⟩
 case round =>
  clear H'
  try clear c1
  try clear c2
  try clear p2
  try clear c3
  try clear c4
  try clear c14
  try clear c15
  try clear hcz16_0
  try clear hcz16_1
  try clear hcz16_2
  try clear hcz16_3
  try clear hcz16_4
  try clear hcz20_0
  try clear hcz20_1
  try clear hcz20_2
  try clear hcz20_3
  try clear hcz20_4
  try clear hfz16_0
  try clear hfz16_1
  try clear hfz16_2
  try clear hfz16_3
  try clear hfz16_4
  try clear hfz20_0
  try clear hfz20_1
  try clear hfz20_2
  try clear hfz20_3
  try clear hfz20_4
  obtain ⟨x6_1, x113001_1, x113002_1, x120004_1, u120004, rfl, HA, HK1, HO_120002, HO_120003, HO_120004, BK110, BK119, HI112, HB⟩ := hrel
  cases gk with
  | zero => exact absurd HA.out (by simp [aq_.l0])
  | succ k1 =>
   have H := HA.out
   clear HA
   simp only [aq_.l0] at H
   have HC23 := c_.mk H
   clear H
   go_upto_region 5 with (fail)
   go_cut [35] (fun v35 wc => ∃ (kq : Nat) (x35_22 : Bool), v35 = .bool x35_22 ∧ c_ (aq_.j1 kq a0 x6_1 x35_22 l1 x113001_1 x113002_1 t113 t116 t120 t125 x120004_1 = some (r1, r2, r3, r4, r5, r6)) ∧ c_ (kq ≤ k1) ∧ c_ (Kd.R Kd.string 9 wc w.heap.size (fun k_ => some k_ ≠ ((.slice Ao21 t125.length co21) : Value).ownBlock) (.slice Ao19 t120.length co19) t120) ∧ c_ (Kd.R Kd.string 9 wc w.heap.size (fun k_ => some k_ ≠ ((.slice Ao19 t120.length co19) : Value).ownBlock) (.slice Ao21 t125.length co21) t125) ∧ c_ (Kd.S k107 107 wc w.heap.size (fun k_ => some k_ ≠ ((.slice Ao19 t120.length co19) : Value).ownBlock ∧ some k_ ≠ ((.slice Ao21 t125.length co21) : Value).ownBlock) u120004 x120004_1) ∧ c_ (wc.heap[gb110]? = some (.cells #[.int .i64 0, .int .i64 0, (.slice none 0 0), (.slice none 0 0), (.slice none 0 0)] 57 (0, 0))) ∧ c_ (wc.heap[gb119]? = some (.cells #[.int .i64 t113, .int .i64 t116, (.slice Ao19 t120.length co19), (.slice Ao21 t125.length co21), u120004] 57 (0, 0))) ∧ c_ (r_ w wc gb112 l1 x113001_1 x113002_1) ∧ c_ (Below w.heap.size w wc))
   case first =>
    have H := HC23.out
    clear HC23
    by_cases c24 : x6_1 > 0
    ·rw [if_pos c24] at H
     have c24b0 : decide (0 < x6_1) = true := decide_eq_true c24
     clear c24
     (first | rw [c24b0] | (simp only [af_, ag_]; rw [c24b0]) | skip)
     have H' := c_.mk H
     clear H
     obtain ⟨ASz25_0, cSz25_0, HGz25, hgz25, HSz25_0⟩ := HI112.out
     have hcz25_0 := cellS102_0 HGz25
     have hcz25_1 := cellS102_1 HGz25
     have hcz25_2 := cellS102_2 HGz25
     have hfz25_1 := a_ HGz25 1
     have hfz25_2 := a_ HGz25 2
     clear HGz25 hgz25
     go_wp2
     go_meet
     case rel => exact ⟨_, (!x113002_1), (by first | rfl | (simp; done) | (simp [*]; done)), H', ⟨by have := HK1.out; first | omega | exact Nat.le_refl _⟩, ⟨HO_120002.out⟩, ⟨HO_120003.out⟩, ⟨HO_120004.out⟩, ⟨BK110.out⟩, ⟨BK119.out⟩, ⟨HI112.out⟩, ⟨HB.out⟩⟩
    ·rw [if_neg c24] at H
     have c24b0 : decide (0 < x6_1) = false := decide_eq_false c24
     clear c24
     (first | rw [c24b0] | (simp only [af_, ag_]; rw [c24b0]) | skip)
     have H' := c_.mk H
     clear H
     go_wp2
     go_meet
     case rel => exact ⟨_, (false), (by first | rfl | (simp; done) | (simp [*]; done)), H', ⟨by have := HK1.out; first | omega | exact Nat.le_refl _⟩, ⟨HO_120002.out⟩, ⟨HO_120003.out⟩, ⟨HO_120004.out⟩, ⟨BK110.out⟩, ⟨BK119.out⟩, ⟨HI112.out⟩, ⟨HB.out⟩⟩
   case rest =>
    clear HC23
    try clear c1
    try clear c2
    try clear p2
    try clear c3
    try clear c4
    try clear c14
    try clear c15
    try clear c24
    try clear c24b0
    try clear c25
    try clear hcz16_0
    try clear hcz16_1
    try clear hcz16_2
    try clear hcz16_3
    try clear hcz16_4
    try clear hcz20_0
    try clear hcz20_1
    try clear hcz20_2
    try clear hcz20_3
    try clear hcz20_4
    try clear hcz25_0
    try clear hcz25_1
    try clear hcz25_2
    try clear hfz16_0
    try clear hfz16_1
    try clear hfz16_2
    try clear hfz16_3
    try clear hfz16_4
    try clear hfz20_0
    try clear hfz20_1
    try clear hfz20_2
    try clear hfz20_3
    try clear hfz20_4
    try clear hfz25_1
    try clear hfz25_2
    try clear p2
    obtain ⟨kq, x35_22, rfl, HA, HJ22, HO_120002, HO_120003, HO_120004, BK110, BK119, HI112, HB⟩ := hcut
    cases kq with
    | zero => exact absurd HA.out (by simp [aq_.j1])
    | succ kj22 =>
     have H := HA.out
     clear HA
     simp only [aq_.j1] at H
     by_cases c26 : x35_22 = true
     ·subst c26
      have H1 : ((ca_.f l1 x113001_1 x113002_1).bind fun bt133 => ((ap_.f l1 bt133.2.1 bt133.2.2 2147483647).bind fun bt136 => ((an_.f kj22 l1 bt136.2.1 bt136.2.2).bind fun bt140 => (if x120004_1.length < 2932031007402 then (aq_.l0 kj22 a0 (wrap64 (x6_1 - 1)) l1 bt140.2.1 bt140.2.2 t113 t116 t120 t125 (x120004_1 ++ [(⟨bt133.1, bt136.1, bt140.1⟩ : S107)])) else (none))))) = some (r1, r2, r3, r4, r5, r6) := by first | (rw [if_pos rfl] at H; with_reducible exact H) | exact (if_pos rfl).symm.trans H | (simp only [if_true, eq_self_iff_true] at H ⊢; exact H)
      clear H
      have H := H1
      clear H1
      replace H := Option.bind_eq_some_iff.mp H
      obtain ⟨⟨t133, t134, t135⟩, A270, H⟩ := H
      replace H : ((ap_.f l1 t134 t135 2147483647).bind fun bt136 => ((an_.f kj22 l1 bt136.2.1 bt136.2.2).bind fun bt140 => (if x120004_1.length < 2932031007402 then (aq_.l0 kj22 a0 (wrap64 (x6_1 - 1)) l1 bt140.2.1 bt140.2.2 t113 t116 t120 t125 (x120004_1 ++ [(⟨t133, bt136.1, bt140.1⟩ : S107)])) else (none)))) = some (r1, r2, r3, r4, r5, r6) := H
      have A27 := c_.mk A270
      clear A270
      replace H := Option.bind_eq_some_iff.mp H
      obtain ⟨⟨t136, t137, t138⟩, A280, H⟩ := H
      replace H : ((an_.f kj22 l1 t137 t138).bind fun bt140 => (if x120004_1.length < 2932031007402 then (aq_.l0 kj22 a0 (wrap64 (x6_1 - 1)) l1 bt140.2.1 bt140.2.2 t113 t116 t120 t125 (x120004_1 ++ [(⟨t133, t136, bt140.1⟩ : S107)])) else (none))) = some (r1, r2, r3, r4, r5, r6) := H
      have A28 := c_.mk A280
      clear A280
      replace H := Option.bind_eq_some_iff.mp H
      obtain ⟨⟨t140, t143, t144⟩, A290, H⟩ := H
      replace H : (if x120004_1.length < 2932031007402 then (aq_.l0 kj22 a0 (wrap64 (x6_1 - 1)) l1 t143 t144 t113 t116 t120 t125 (x120004_1 ++ [(⟨t133, t136, t140⟩ : S107)])) else (none)) = some (r1, r2, r3, r4, r5, r6) := H
      have A29 := c_.mk A290
      clear A290
      by_cases c30 : x120004_1.length < 2932031007402
      ·rw [if_pos c30] at H
       have LMc30 := c_.mk c30
       clear c30
       obtain ⟨y145, hy145⟩ : ∃ y_ : List (S107), y_ = (x120004_1 ++ [(⟨t133, t136, t140⟩ : S107)]) := ⟨_, rfl⟩
       replace H : (aq_.l0 kj22 a0 (wrap64 (x6_1 - 1)) l1 t143 t144 t113 t116 t120 t125 y145) = some (r1, r2, r3, r4, r5, r6) := by first | (rw [hy145]; with_reducible exact H) | (have H2_ := (Option.bind_some _ _).symm.trans H; rw [hy145]; with_reducible exact H2_) | (have H2_ := (Option.bind_some _ _).symm.trans H; with_reducible exact H2_) | with_reducible exact H | (rw [hy145]; exact H) | exact H
       have Ny145 := c_.mk hy145
       clear hy145
       have H' := c_.mk H
       clear H
       go_wp2_with (first | ((with_reducible refine ah_ (f := 41) rfl ?_); refine bm_ (some 39) rfl rfl Tryz.func41 (by kernel_rfl) rfl #[.pointer (some ⟨gb112, 0, none⟩)] rfl (by (try simp only [List.map_toArray, List.map_cons, List.map_nil]); first | done | rfl | (simp only [List.length_drop, List.length_take]; rfl)) ?_; (with_reducible refine (ca_.calls gb112 l1 x113001_1 x113002_1 t133 t134 t135 w _ ?side1 ?side2 A27.out).mono ?_); (case side1 => repeat (first | (with_reducible first | exact HI112.out | apply r_.alloc | apply r_.drewN | apply r_.drew | apply r_.set_1 | apply r_.set_2 | refine r_.far ?_ NB112_110.out _ | refine r_.far ?_ NB112_119.out _) | exact HI112.out)); (case side2 => repeat (first | (with_reducible first | exact HB.out | apply l_ | apply d_ | apply m_ | refine f_ ?_ (r_.ge HI112.out) | refine f_ ?_ GE110.out | refine f_ ?_ GE119.out) | exact HB.out)); rintro e w31 ⟨rfl, hi, hb, hk⟩; refine ⟨_, rfl, ?_⟩; have n0_ := c_.mk (Kd.R_mono (Kd.R_keep (r_.apart (show r_ w _ gb112 l1 x113001_1 x113002_1 from by repeat (first | (with_reducible first | exact HI112.out | apply r_.alloc | apply r_.drewN | apply r_.drew | apply r_.set_1 | apply r_.set_2 | refine r_.far ?_ NB112_110.out _ | refine r_.far ?_ NB112_119.out _) | exact HI112.out)) (by (with_reducible repeat (first | apply Kd.R_alloc | apply Kd.R_drewN | apply Kd.R_drew)); exact HO_120002.out) (by decide)) hk (fun _ h => h.2)) (fun _ h => h.1)); have n1_ := c_.mk (Kd.R_mono (Kd.R_keep (r_.apart (show r_ w _ gb112 l1 x113001_1 x113002_1 from by repeat (first | (with_reducible first | exact HI112.out | apply r_.alloc | apply r_.drewN | apply r_.drew | apply r_.set_1 | apply r_.set_2 | refine r_.far ?_ NB112_110.out _ | refine r_.far ?_ NB112_119.out _) | exact HI112.out)) (by (with_reducible repeat (first | apply Kd.R_alloc | apply Kd.R_drewN | apply Kd.R_drew)); exact HO_120003.out) (by decide)) hk (fun _ h => h.2)) (fun _ h => h.1)); have n2_ := c_.mk (Kd.S_mono (Kd.S_keep (r_.apartS (show r_ w _ gb112 l1 x113001_1 x113002_1 from by repeat (first | (with_reducible first | exact HI112.out | apply r_.alloc | apply r_.drewN | apply r_.drew | apply r_.set_1 | apply r_.set_2 | refine r_.far ?_ NB112_110.out _ | refine r_.far ?_ NB112_119.out _) | exact HI112.out)) (by (with_reducible repeat (first | apply Kd.S_alloc | apply Kd.S_drewN | apply Kd.S_drew)); exact HO_120004.out) (by decide)) hk (fun _ h => h.2)) (fun _ h => h.1)); have n3_ := c_.mk (ar_.blk hk (g' := gb110) (o := .cells #[.int .i64 0, .int .i64 0, .slice none 0 0, .slice none 0 0, .slice none 0 0] 57 (0, 0)) (by (with_reducible repeat (first | refine u_ ?_ _ | refine o_ ?_ | refine x_ ?_ _)); exact BK110.out) NB110_112.out (by simp)); have n4_ := c_.mk (ar_.blk hk (g' := gb119) (o := .cells #[.int .i64 t113, .int .i64 t116, .slice Ao19 t120.length co19, .slice Ao21 t125.length co21, u120004] 57 (0, 0)) (by (with_reducible repeat (first | refine u_ ?_ _ | refine o_ ?_ | refine x_ ?_ _)); exact BK119.out) NB119_112.out (by simp)); have n5_ := c_.mk (hb); have n6_ := c_.mk (hi); clear HO_120002; clear HO_120003; clear HO_120004; clear BK110; clear BK119; clear HB; clear HI112; have HO_120002 := n0_; have HO_120003 := n1_; have HO_120004 := n2_; have BK110 := n3_; have BK119 := n4_; have HB := n5_; have HI112 := n6_; clear n0_ n1_ n2_ n3_ n4_ n5_ n6_; (try clear hb); (try clear hb2); (try clear hk); (try clear hi)) | ((with_reducible refine ah_ (f := 39) rfl ?_); refine bm_ (some 41) rfl rfl Tryz.func39 (by kernel_rfl) rfl #[.pointer (some ⟨gb112, 0, none⟩), .int .u64 2147483647] rfl (by (try simp only [List.map_toArray, List.map_cons, List.map_nil]); first | done | rfl | (simp only [List.length_drop, List.length_take]; rfl)) ?_; (with_reducible refine (ap_.calls gb112 l1 t134 t135 2147483647 t136 t137 t138 w _ ?side1 ?side2 A28.out).mono ?_); (case side1 => repeat (first | (with_reducible first | exact HI112.out | apply r_.alloc | apply r_.drewN | apply r_.drew | apply r_.set_1 | apply r_.set_2 | refine r_.far ?_ NB112_110.out _ | refine r_.far ?_ NB112_119.out _) | exact HI112.out)); (case side2 => repeat (first | (with_reducible first | exact HB.out | apply l_ | apply d_ | apply m_ | refine f_ ?_ (r_.ge HI112.out) | refine f_ ?_ GE110.out | refine f_ ?_ GE119.out) | exact HB.out)); rintro e w32 ⟨rfl, hi, hb, hk⟩; refine ⟨_, rfl, ?_⟩; have n0_ := c_.mk (Kd.R_mono (Kd.R_keep (r_.apart (show r_ w _ gb112 l1 t134 t135 from by repeat (first | (with_reducible first | exact HI112.out | apply r_.alloc | apply r_.drewN | apply r_.drew | apply r_.set_1 | apply r_.set_2 | refine r_.far ?_ NB112_110.out _ | refine r_.far ?_ NB112_119.out _) | exact HI112.out)) (by (with_reducible repeat (first | apply Kd.R_alloc | apply Kd.R_drewN | apply Kd.R_drew)); exact HO_120002.out) (by decide)) hk (fun _ h => h.2)) (fun _ h => h.1)); have n1_ := c_.mk (Kd.R_mono (Kd.R_keep (r_.apart (show r_ w _ gb112 l1 t134 t135 from by repeat (first | (with_reducible first | exact HI112.out | apply r_.alloc | apply r_.drewN | apply r_.drew | apply r_.set_1 | apply r_.set_2 | refine r_.far ?_ NB112_110.out _ | refine r_.far ?_ NB112_119.out _) | exact HI112.out)) (by (with_reducible repeat (first | apply Kd.R_alloc | apply Kd.R_drewN | apply Kd.R_drew)); exact HO_120003.out) (by decide)) hk (fun _ h => h.2)) (fun _ h => h.1)); have n2_ := c_.mk (Kd.S_mono (Kd.S_keep (r_.apartS (show r_ w _ gb112 l1 t134 t135 from by repeat (first | (with_reducible first | exact HI112.out | apply r_.alloc | apply r_.drewN | apply r_.drew | apply r_.set_1 | apply r_.set_2 | refine r_.far ?_ NB112_110.out _ | refine r_.far ?_ NB112_119.out _) | exact HI112.out)) (by (with_reducible repeat (first | apply Kd.S_alloc | apply Kd.S_drewN | apply Kd.S_drew)); exact HO_120004.out) (by decide)) hk (fun _ h => h.2)) (fun _ h => h.1)); have n3_ := c_.mk (ar_.blk hk (g' := gb110) (o := .cells #[.int .i64 0, .int .i64 0, .slice none 0 0, .slice none 0 0, .slice none 0 0] 57 (0, 0)) (by (with_reducible repeat (first | refine u_ ?_ _ | refine o_ ?_ | refine x_ ?_ _)); exact BK110.out) NB110_112.out (by simp)); have n4_ := c_.mk (ar_.blk hk (g' := gb119) (o := .cells #[.int .i64 t113, .int .i64 t116, .slice Ao19 t120.length co19, .slice Ao21 t125.length co21, u120004] 57 (0, 0)) (by (with_reducible repeat (first | refine u_ ?_ _ | refine o_ ?_ | refine x_ ?_ _)); exact BK119.out) NB119_112.out (by simp)); have n5_ := c_.mk (hb); have n6_ := c_.mk (hi); clear HO_120002; clear HO_120003; clear HO_120004; clear BK110; clear BK119; clear HB; clear HI112; have HO_120002 := n0_; have HO_120003 := n1_; have HO_120004 := n2_; have BK110 := n3_; have BK119 := n4_; have HB := n5_; have HI112 := n6_; clear n0_ n1_ n2_ n3_ n4_ n5_ n6_; (try clear hb); (try clear hb2); (try clear hk); (try clear hi)) | ((with_reducible refine be_ (N := 7) rfl ?_); (try (refine cm_ (by rfl) ?_; dsimp only)); refine bd_ ?hg (N := 7) ?hd (cs := #[.string (⟨#[]⟩ : ByteArray), .int .i64 0, .slice none 0 0]) (t := 107) ?hr ?_; (case hd => rfl); (case hg => rfl); (case hr => first | (go_simp; done) | (go_simp; rfl)); intro gb139 hg w33 hbox hb; have n0_ := c_.mk (Kd.R_below (by (with_reducible repeat (first | apply Kd.R_alloc | apply Kd.R_drewN | apply Kd.R_drew)); exact HO_120002.out) hb); have n1_ := c_.mk (Kd.R_below (by (with_reducible repeat (first | apply Kd.R_alloc | apply Kd.R_drewN | apply Kd.R_drew)); exact HO_120003.out) hb); have n2_ := c_.mk (Kd.S_below (Kd.S_elderB (by (with_reducible repeat (first | apply Kd.S_alloc | apply Kd.S_drewN | apply Kd.S_drew)); exact HO_120004.out) gb139 (Nat.le_of_eq hg.symm)) hb); have n3_ := c_.mk (s_ (g := gb110) (o := .cells #[.int .i64 0, .int .i64 0, .slice none 0 0, .slice none 0 0, .slice none 0 0] 57 (0, 0)) (by (with_reducible repeat (first | refine u_ ?_ _ | refine o_ ?_ | refine x_ ?_ _)); exact BK110.out) hb); have n4_ := c_.mk (s_ (g := gb119) (o := .cells #[.int .i64 t113, .int .i64 t116, .slice Ao19 t120.length co19, .slice Ao21 t125.length co21, u120004] 57 (0, 0)) (by (with_reducible repeat (first | refine u_ ?_ _ | refine o_ ?_ | refine x_ ?_ _)); exact BK119.out) hb); have n5_ := c_.mk (r_.below (by repeat (first | (with_reducible first | exact HI112.out | apply r_.alloc | apply r_.drewN | apply r_.drew | apply r_.set_1 | apply r_.set_2 | refine r_.far ?_ NB112_110.out _ | refine r_.far ?_ NB112_119.out _) | exact HI112.out)) hb); have n6_ := c_.mk (ac_ (by repeat (first | (with_reducible first | exact HB.out | apply l_ | apply d_ | apply m_ | refine f_ ?_ (r_.ge HI112.out) | refine f_ ?_ GE110.out | refine f_ ?_ GE119.out) | exact HB.out)) hb); have n7_ := c_.mk (hbox); have n8_ := c_.mk ((by rw [hg]; exact (v_ (by repeat (first | (with_reducible first | exact HB.out | apply l_ | apply d_ | apply m_ | refine f_ ?_ (r_.ge HI112.out) | refine f_ ?_ GE110.out | refine f_ ?_ GE119.out) | exact HB.out))) : w.heap.size ≤ gb139)); have n9_ := c_.mk ((by rw [hg]; exact (v_ (by repeat (first | (with_reducible first | exact HB.out | apply l_ | apply d_ | apply m_ | refine f_ ?_ (r_.ge HI112.out) | refine f_ ?_ GE110.out | refine f_ ?_ GE119.out) | exact HB.out))) : w.heap.size ≤ gb139)); have n10_ := c_.mk ((by rw [hg]; exact Nat.ne_of_lt (bj_ (g := gb110) (o := .cells #[.int .i64 0, .int .i64 0, .slice none 0 0, .slice none 0 0, .slice none 0 0] 57 (0, 0)) (by (with_reducible repeat (first | refine u_ ?_ _ | refine o_ ?_ | refine x_ ?_ _)); exact BK110.out)) : gb110 ≠ gb139)); have n11_ := c_.mk ((by rw [hg]; exact Nat.ne_of_gt (bj_ (g := gb110) (o := .cells #[.int .i64 0, .int .i64 0, .slice none 0 0, .slice none 0 0, .slice none 0 0] 57 (0, 0)) (by (with_reducible repeat (first | refine u_ ?_ _ | refine o_ ?_ | refine x_ ?_ _)); exact BK110.out)) : gb139 ≠ gb110)); have n12_ := c_.mk ((by rw [hg]; exact Nat.ne_of_lt (bj_ (g := gb119) (o := .cells #[.int .i64 t113, .int .i64 t116, .slice Ao19 t120.length co19, .slice Ao21 t125.length co21, u120004] 57 (0, 0)) (by (with_reducible repeat (first | refine u_ ?_ _ | refine o_ ?_ | refine x_ ?_ _)); exact BK119.out)) : gb119 ≠ gb139)); have n13_ := c_.mk ((by rw [hg]; exact Nat.ne_of_gt (bj_ (g := gb119) (o := .cells #[.int .i64 t113, .int .i64 t116, .slice Ao19 t120.length co19, .slice Ao21 t125.length co21, u120004] 57 (0, 0)) (by (with_reducible repeat (first | refine u_ ?_ _ | refine o_ ?_ | refine x_ ?_ _)); exact BK119.out)) : gb139 ≠ gb119)); have n14_ := c_.mk ((by rw [hg]; exact Nat.ne_of_lt (r_.lt (show r_ w _ gb112 l1 t137 t138 from by repeat (first | (with_reducible first | exact HI112.out | apply r_.alloc | apply r_.drewN | apply r_.drew | apply r_.set_1 | apply r_.set_2 | refine r_.far ?_ NB112_110.out _ | refine r_.far ?_ NB112_119.out _) | exact HI112.out))) : gb112 ≠ gb139)); have n15_ := c_.mk ((by rw [hg]; exact Nat.ne_of_gt (r_.lt (show r_ w _ gb112 l1 t137 t138 from by repeat (first | (with_reducible first | exact HI112.out | apply r_.alloc | apply r_.drewN | apply r_.drew | apply r_.set_1 | apply r_.set_2 | refine r_.far ?_ NB112_110.out _ | refine r_.far ?_ NB112_119.out _) | exact HI112.out))) : gb139 ≠ gb112)); clear HO_120002; clear HO_120003; clear HO_120004; clear BK110; clear BK119; clear HI112; clear HB; have HO_120002 := n0_; have HO_120003 := n1_; have HO_120004 := n2_; have BK110 := n3_; have BK119 := n4_; have HI112 := n5_; have HB := n6_; have BK139 := n7_; have GW139 := n8_; have GE139 := n9_; have NB110_139 := n10_; have NB139_110 := n11_; have NB119_139 := n12_; have NB139_119 := n13_; have NB112_139 := n14_; have NB139_112 := n15_; clear n0_ n1_ n2_ n3_ n4_ n5_ n6_ n7_ n8_ n9_ n10_ n11_ n12_ n13_ n14_ n15_; clear hb hbox hg; have hnb34 := NB139_110.out; have hnc34 := NB110_139.out; have hnb35 := NB139_119.out; have hnc35 := NB119_139.out; have hnb36 := NB139_112.out; have hnc36 := NB112_139.out; have hcz37_0 : w33.cell? ⟨gb139, 0, none⟩ = some (.string (⟨#[]⟩ : ByteArray)) := (b_ BK139.out 0).trans rfl; have hcz37_1 : w33.cell? ⟨gb139, 1, none⟩ = some (.int .i64 0) := (b_ BK139.out 1).trans rfl; have hcz37_2 : w33.cell? ⟨gb139, 2, none⟩ = some (.slice none 0 0) := (b_ BK139.out 2).trans rfl; have hfz37_0 := a_ BK139.out 0; have hfz37_1 := a_ BK139.out 1; have hfz37_2 := a_ BK139.out 2) | ((with_reducible refine ah_ (f := 40) rfl ?_); refine bm_ (some 44) rfl rfl Tryz.func40 (by kernel_rfl) rfl #[.pointer (some ⟨gb112, 0, none⟩)] rfl (by (try simp only [List.map_toArray, List.map_cons, List.map_nil]); first | done | rfl | (simp only [List.length_drop, List.length_take]; rfl)) ?_; (with_reducible refine (an_.calls kj22 gb112 l1 t137 t138 t140 t143 t144 w _ ?side1 ?side2 A29.out).mono ?_); (case side1 => repeat (first | (with_reducible first | exact HI112.out | apply r_.alloc | apply r_.drewN | apply r_.drew | apply r_.set_1 | apply r_.set_2 | refine r_.far ?_ NB112_110.out _ | refine r_.far ?_ NB112_119.out _ | refine r_.far ?_ NB112_139.out _) | exact HI112.out)); (case side2 => repeat (first | (with_reducible first | exact HB.out | apply l_ | apply d_ | apply m_ | refine f_ ?_ (r_.ge HI112.out) | refine f_ ?_ GE110.out | refine f_ ?_ GE119.out | refine f_ ?_ GE139.out) | exact HB.out)); rintro e w38 ⟨v141, rfl, ho0, hi, hb, hk⟩; refine ⟨_, rfl, ?_⟩; have n0_ := c_.mk (Kd.R_mono (Kd.R_told (Kd.R_oldK (r_.apart (show r_ w _ gb112 l1 t137 t138 from by repeat (first | (with_reducible first | exact HI112.out | apply r_.alloc | apply r_.drewN | apply r_.drew | apply r_.set_1 | apply r_.set_2 | refine r_.far ?_ NB112_110.out _ | refine r_.far ?_ NB112_119.out _ | refine r_.far ?_ NB112_139.out _) | exact HI112.out)) (by (with_reducible repeat (first | apply Kd.R_alloc | apply Kd.R_drewN | apply Kd.R_drew)); exact (Kd.R_mono (Kd.R_far (p := ⟨gb139, 2, none⟩) (Kd.R_far (p := ⟨gb139, 1, none⟩) (Kd.R_far (p := ⟨gb139, 0, none⟩) (Kd.R_types HO_120002.out BK139.out (by decide)) (fun _ hk => hk.2) (.string t133)) (fun _ hk => hk.2) (.int .i64 t136)) (fun _ hk => hk.2) (.slice none 0 0)) (fun _ h_ => h_.1))) (by decide)) hk) (Kd.R_base ho0)) (fun _ h_ => h_.1)); have n1_ := c_.mk (Kd.R_mono (Kd.R_told (Kd.R_oldK (r_.apart (show r_ w _ gb112 l1 t137 t138 from by repeat (first | (with_reducible first | exact HI112.out | apply r_.alloc | apply r_.drewN | apply r_.drew | apply r_.set_1 | apply r_.set_2 | refine r_.far ?_ NB112_110.out _ | refine r_.far ?_ NB112_119.out _ | refine r_.far ?_ NB112_139.out _) | exact HI112.out)) (by (with_reducible repeat (first | apply Kd.R_alloc | apply Kd.R_drewN | apply Kd.R_drew)); exact (Kd.R_mono (Kd.R_far (p := ⟨gb139, 2, none⟩) (Kd.R_far (p := ⟨gb139, 1, none⟩) (Kd.R_far (p := ⟨gb139, 0, none⟩) (Kd.R_types HO_120003.out BK139.out (by decide)) (fun _ hk => hk.2) (.string t133)) (fun _ hk => hk.2) (.int .i64 t136)) (fun _ hk => hk.2) (.slice none 0 0)) (fun _ h_ => h_.1))) (by decide)) hk) (Kd.R_base ho0)) (fun _ h_ => h_.1)); have n2_ := c_.mk (Kd.S_mono (Kd.S_told (Kd.S_oldK (r_.apartS (show r_ w _ gb112 l1 t137 t138 from by repeat (first | (with_reducible first | exact HI112.out | apply r_.alloc | apply r_.drewN | apply r_.drew | apply r_.set_1 | apply r_.set_2 | refine r_.far ?_ NB112_110.out _ | refine r_.far ?_ NB112_119.out _ | refine r_.far ?_ NB112_139.out _) | exact HI112.out)) (by (with_reducible repeat (first | apply Kd.S_alloc | apply Kd.S_drewN | apply Kd.S_drew)); exact (Kd.S_mono (Kd.S_far (p := ⟨gb139, 2, none⟩) (Kd.S_far (p := ⟨gb139, 1, none⟩) (Kd.S_far (p := ⟨gb139, 0, none⟩) (Kd.S_mono HO_120004.out (fun k_ hk => (⟨hk, hk.2⟩ : _ ∧ k_ ≠ gb139))) (fun _ hk => hk.2) (.string t133)) (fun _ hk => hk.2) (.int .i64 t136)) (fun _ hk => hk.2) (.slice none 0 0)) (fun _ h_ => h_.1))) (by decide)) hk) (Kd.R_base ho0)) (fun _ h_ => h_.1)); have n3_ := c_.mk (ar_.blk hk (g' := gb110) (o := .cells #[.int .i64 0, .int .i64 0, .slice none 0 0, .slice none 0 0, .slice none 0 0] 57 (0, 0)) (by (with_reducible repeat (first | refine u_ ?_ _ | refine o_ ?_ | refine x_ ?_ _)); refine bl_ ?_ NB110_139.out _; (with_reducible repeat (first | refine u_ ?_ _ | refine o_ ?_ | refine x_ ?_ _)); refine bl_ ?_ NB110_139.out _; (with_reducible repeat (first | refine u_ ?_ _ | refine o_ ?_ | refine x_ ?_ _)); refine bl_ ?_ NB110_139.out _; (with_reducible repeat (first | refine u_ ?_ _ | refine o_ ?_ | refine x_ ?_ _)); exact BK110.out) NB110_112.out (by simp)); have n4_ := c_.mk (ar_.blk hk (g' := gb119) (o := .cells #[.int .i64 t113, .int .i64 t116, .slice Ao19 t120.length co19, .slice Ao21 t125.length co21, u120004] 57 (0, 0)) (by (with_reducible repeat (first | refine u_ ?_ _ | refine o_ ?_ | refine x_ ?_ _)); refine bl_ ?_ NB119_139.out _; (with_reducible repeat (first | refine u_ ?_ _ | refine o_ ?_ | refine x_ ?_ _)); refine bl_ ?_ NB119_139.out _; (with_reducible repeat (first | refine u_ ?_ _ | refine o_ ?_ | refine x_ ?_ _)); refine bl_ ?_ NB119_139.out _; (with_reducible repeat (first | refine u_ ?_ _ | refine o_ ?_ | refine x_ ?_ _)); exact BK119.out) NB119_112.out (by simp)); have n5_ := c_.mk (ar_.blk hk (g' := gb139) (o := .cells #[.string t133, .int .i64 t136, .slice none 0 0] 107 (0, 0)) (by (with_reducible repeat (first | refine u_ ?_ _ | refine o_ ?_ | refine x_ ?_ _)); refine bh_ (cs := #[.string t133, .int .i64 t136, .slice none 0 0]) ?_ 2 _ rfl; (with_reducible repeat (first | refine u_ ?_ _ | refine o_ ?_ | refine x_ ?_ _)); refine bh_ (cs := #[.string t133, .int .i64 0, .slice none 0 0]) ?_ 1 _ rfl; (with_reducible repeat (first | refine u_ ?_ _ | refine o_ ?_ | refine x_ ?_ _)); refine bh_ (cs := #[.string (⟨#[]⟩ : ByteArray), .int .i64 0, .slice none 0 0]) ?_ 0 _ rfl; (with_reducible repeat (first | refine u_ ?_ _ | refine o_ ?_ | refine x_ ?_ _)); exact BK139.out) NB139_112.out (by simp)); have n6_ := c_.mk (Kd.R_lower (Kd.R_new' (Kd.R_new' ho0 (Kd.R_lt (by (with_reducible repeat (first | apply Kd.R_alloc | apply Kd.R_drewN | apply Kd.R_drew)); exact (Kd.R_mono (Kd.R_far (p := ⟨gb139, 2, none⟩) (Kd.R_far (p := ⟨gb139, 1, none⟩) (Kd.R_far (p := ⟨gb139, 0, none⟩) (Kd.R_types HO_120002.out BK139.out (by decide)) (fun _ hk => hk.2) (.string t133)) (fun _ hk => hk.2) (.int .i64 t136)) (fun _ hk => hk.2) (.slice none 0 0)) (fun _ h_ => h_.1))))) (Kd.R_lt (by (with_reducible repeat (first | apply Kd.R_alloc | apply Kd.R_drewN | apply Kd.R_drew)); exact (Kd.R_mono (Kd.R_far (p := ⟨gb139, 2, none⟩) (Kd.R_far (p := ⟨gb139, 1, none⟩) (Kd.R_far (p := ⟨gb139, 0, none⟩) (Kd.R_types HO_120003.out BK139.out (by decide)) (fun _ hk => hk.2) (.string t133)) (fun _ hk => hk.2) (.int .i64 t136)) (fun _ hk => hk.2) (.slice none 0 0)) (fun _ h_ => h_.1))))) (v_ (by repeat (first | (with_reducible first | exact HB.out | apply l_ | apply d_ | apply m_ | refine f_ ?_ (r_.ge HI112.out) | refine f_ ?_ GE110.out | refine f_ ?_ GE119.out | refine f_ ?_ GE139.out) | exact HB.out)))); have n7_ := c_.mk (hb); have n8_ := c_.mk (hi); clear HO_120002; clear HO_120003; clear HO_120004; clear BK110; clear BK119; clear BK139; clear HB; clear HI112; have HO_120002 := n0_; have HO_120003 := n1_; have HO_120004 := n2_; have BK110 := n3_; have BK119 := n4_; have BK139 := n5_; have HO142 := n6_; have HB := n7_; have HI112 := n8_; clear n0_ n1_ n2_ n3_ n4_ n5_ n6_ n7_ n8_; (try clear hb); (try clear hb2); (try clear hk); (try clear hi); (try clear ho0); obtain ⟨Ao39, co39, eo39⟩ := Kd.R_slice HO142.out; subst eo39; have hcz40_0 : w38.cell? ⟨gb139, 0, none⟩ = some (.string t133) := (b_ BK139.out 0).trans rfl; have hcz40_1 : w38.cell? ⟨gb139, 1, none⟩ = some (.int .i64 t136) := (b_ BK139.out 1).trans rfl; have hcz40_2 : w38.cell? ⟨gb139, 2, none⟩ = some (.slice none 0 0) := (b_ BK139.out 2).trans rfl; have hfz40_0 := a_ BK139.out 0; have hfz40_1 := a_ BK139.out 1; have hfz40_2 := a_ BK139.out 2) | ((with_reducible refine gate_store (t := 32) (p := 45) rfl ?_); refine store_event (t := 32) (p := 45) (v := ?vo_w41) (w1 := (w38.setCell ⟨gb139, 2, none⟩ (.slice Ao39 t140.length co39))) ?hg ?ho ?hn ?hr ?_; (case ho => rfl); (case hg => rfl); (case hn => rfl); (case hr => first | (go_simp; done) | (go_simp; rfl)); intro w41 hw; have n0_ : c_ (Kd.R Kd.string 9 w41 w.heap.size (fun k_ => some k_ ≠ (.slice Ao21 t125.length co21 : Value).ownBlock ∧ some k_ ≠ (.slice Ao39 t140.length co39 : Value).ownBlock) (.slice Ao19 t120.length co19) t120) := ⟨(by rw [hw]; exact (by (with_reducible repeat (first | apply Kd.R_alloc | apply Kd.R_drewN | apply Kd.R_drew)); exact Kd.R_mono (Kd.R_far (p := ⟨gb139, 2, none⟩) (Kd.R_types HO_120002.out BK139.out (by decide)) (fun _ hk => hk.2) (.slice Ao39 t140.length co39)) (fun _ hk => ⟨hk.1.1, hk.1.2⟩)))⟩; have n1_ : c_ (Kd.R Kd.string 9 w41 w.heap.size (fun k_ => some k_ ≠ (.slice Ao19 t120.length co19 : Value).ownBlock ∧ some k_ ≠ (.slice Ao39 t140.length co39 : Value).ownBlock) (.slice Ao21 t125.length co21) t125) := ⟨(by rw [hw]; exact (by (with_reducible repeat (first | apply Kd.R_alloc | apply Kd.R_drewN | apply Kd.R_drew)); exact Kd.R_mono (Kd.R_far (p := ⟨gb139, 2, none⟩) (Kd.R_types HO_120003.out BK139.out (by decide)) (fun _ hk => hk.2) (.slice Ao39 t140.length co39)) (fun _ hk => ⟨hk.1.1, hk.1.2⟩)))⟩; have n2_ : c_ (Kd.S k107 107 w41 w.heap.size (fun k_ => some k_ ≠ (.slice Ao19 t120.length co19 : Value).ownBlock ∧ some k_ ≠ (.slice Ao21 t125.length co21 : Value).ownBlock ∧ some k_ ≠ (.slice Ao39 t140.length co39 : Value).ownBlock ∧ k_ ≠ gb139) u120004 x120004_1) := ⟨(by rw [hw]; exact (by (with_reducible repeat (first | apply Kd.S_alloc | apply Kd.S_drewN | apply Kd.S_drew)); exact Kd.S_mono (Kd.S_far (p := ⟨gb139, 2, none⟩) (Kd.S_mono HO_120004.out (fun k_ hk => (⟨hk, hk.1.2⟩ : _ ∧ k_ ≠ gb139))) (fun _ hk => hk.2) (.slice Ao39 t140.length co39)) (fun _ hk => ⟨hk.1.1.1.1, ⟨hk.1.1.1.2, ⟨hk.1.2, hk.1.1.2⟩⟩⟩)))⟩; have n3_ : c_ (Kd.R Kd.string 9 w41 w.heap.size (fun k_ => some k_ ≠ (.slice Ao19 t120.length co19 : Value).ownBlock ∧ some k_ ≠ (.slice Ao21 t125.length co21 : Value).ownBlock) (.slice Ao39 t140.length co39) t140) := ⟨(by rw [hw]; exact (by (with_reducible repeat (first | apply Kd.R_alloc | apply Kd.R_drewN | apply Kd.R_drew)); exact Kd.R_mono (Kd.R_far (p := ⟨gb139, 2, none⟩) (Kd.R_types HO142.out BK139.out (by decide)) (fun _ hk => hk.2) (.slice Ao39 t140.length co39)) (fun _ hk => ⟨hk.1.1.2, hk.1.2⟩)))⟩; have n4_ : c_ (w41.heap[gb110]? = some (.cells #[.int .i64 0, .int .i64 0, .slice none 0 0, .slice none 0 0, .slice none 0 0] 57 (0, 0))) := ⟨(by rw [hw]; exact (by (with_reducible repeat (first | refine u_ ?_ _ | refine o_ ?_ | refine x_ ?_ _)); refine bl_ ?_ NB110_139.out _; (with_reducible repeat (first | refine u_ ?_ _ | refine o_ ?_ | refine x_ ?_ _)); exact BK110.out))⟩; have n5_ : c_ (w41.heap[gb119]? = some (.cells #[.int .i64 t113, .int .i64 t116, .slice Ao19 t120.length co19, .slice Ao21 t125.length co21, u120004] 57 (0, 0))) := ⟨(by rw [hw]; exact (by (with_reducible repeat (first | refine u_ ?_ _ | refine o_ ?_ | refine x_ ?_ _)); refine bl_ ?_ NB119_139.out _; (with_reducible repeat (first | refine u_ ?_ _ | refine o_ ?_ | refine x_ ?_ _)); exact BK119.out))⟩; have n6_ : c_ (w41.heap[gb139]? = some (.cells #[.string t133, .int .i64 t136, .slice Ao39 t140.length co39] 107 (0, 0))) := ⟨(by rw [hw]; exact (by (with_reducible repeat (first | refine u_ ?_ _ | refine o_ ?_ | refine x_ ?_ _)); refine bh_ (cs := #[.string t133, .int .i64 t136, .slice none 0 0]) ?_ 2 _ rfl; (with_reducible repeat (first | refine u_ ?_ _ | refine o_ ?_ | refine x_ ?_ _)); exact BK139.out))⟩; have n7_ : c_ (r_ w w41 gb112 l1 t143 t144) := ⟨(by rw [hw]; exact (by repeat (first | (with_reducible first | exact HI112.out | apply r_.alloc | apply r_.drewN | apply r_.drew | apply r_.set_1 | apply r_.set_2 | refine r_.far ?_ NB112_110.out _ | refine r_.far ?_ NB112_119.out _ | refine r_.far ?_ NB112_139.out _) | exact HI112.out)))⟩; have n8_ : c_ (Below w.heap.size w w41) := ⟨(by rw [hw]; exact (by repeat (first | (with_reducible first | exact HB.out | apply l_ | apply d_ | apply m_ | refine f_ ?_ (r_.ge HI112.out) | refine f_ ?_ GE110.out | refine f_ ?_ GE119.out | refine f_ ?_ GE139.out) | exact HB.out)))⟩; clear hw; clear HO_120002; clear HO_120003; clear HO_120004; clear HO142; clear BK110; clear BK119; clear BK139; clear HI112; clear HB; have HO_120002 := n0_; have HO_120003 := n1_; have HO_120004 := n2_; have HO142 := n3_; have BK110 := n4_; have BK119 := n5_; have BK139 := n6_; have HI112 := n7_; have HB := n8_; clear n0_ n1_ n2_ n3_ n4_ n5_ n6_ n7_ n8_; have hnb42 := NB119_110.out; have hnc42 := NB110_119.out; have hnb43 := NB119_112.out; have hnc43 := NB112_119.out; have hcz44_0 : w41.cell? ⟨gb119, 0, none⟩ = some (.int .i64 t113) := (b_ BK119.out 0).trans rfl; have hcz44_1 : w41.cell? ⟨gb119, 1, none⟩ = some (.int .i64 t116) := (b_ BK119.out 1).trans rfl; have hcz44_2 : w41.cell? ⟨gb119, 2, none⟩ = some (.slice Ao19 t120.length co19) := (b_ BK119.out 2).trans rfl; have hcz44_3 : w41.cell? ⟨gb119, 3, none⟩ = some (.slice Ao21 t125.length co21) := (b_ BK119.out 3).trans rfl; have hcz44_4 : w41.cell? ⟨gb119, 4, none⟩ = some (u120004) := (b_ BK119.out 4).trans rfl; have hfz44_0 := a_ BK119.out 0; have hfz44_1 := a_ BK119.out 1; have hfz44_2 := a_ BK119.out 2; have hfz44_3 := a_ BK119.out 3; have hfz44_4 := a_ BK119.out 4; have hcz45_0 : w41.cell? ⟨gb139, 0, none⟩ = some (.string t133) := (b_ BK139.out 0).trans rfl; have hcz45_1 : w41.cell? ⟨gb139, 1, none⟩ = some (.int .i64 t136) := (b_ BK139.out 1).trans rfl; have hcz45_2 : w41.cell? ⟨gb139, 2, none⟩ = some (.slice Ao39 t140.length co39) := (b_ BK139.out 2).trans rfl; have hfz45_0 := a_ BK139.out 0; have hfz45_1 := a_ BK139.out 1; have hfz45_2 := a_ BK139.out 2) | ((with_reducible refine bw_ (b := .append) (xs := #[.tmp 47, .tmp 49]) rfl ?_); (try (refine cm_ (by rfl) ?_; dsimp only)); at_builtin; refine Kd.S_append k107 (w0 := w) w.heap.size rfl (.tmp 47) (.tmp 49) 55 107 (.agg #[(.string ⟨#[]⟩), (.int .i64 0), (.slice none 0 0)]) 48 rfl Tryz.underlying55 info107 rfl (by decide) (by omega) u120004 x120004_1 (⟨t133, t136, t140⟩ : S107) [.string t133, .int .i64 t136, .slice Ao39 t140.length co39] (fun k_ => some k_ ≠ (.slice Ao19 t120.length co19 : Value).ownBlock ∧ some k_ ≠ (.slice Ao21 t125.length co21 : Value).ownBlock ∧ k_ ≠ gb139) (fun k_ => some k_ = (.slice Ao39 t140.length co39 : Value).ownBlock) rfl rfl ?aP (fun k_ hk_ => ((Kd.R_mono (ok' := fun k_ => ((fun k_ => some k_ ≠ (.slice Ao19 t120.length co19 : Value).ownBlock ∧ some k_ ≠ (.slice Ao21 t125.length co21 : Value).ownBlock ∧ k_ ≠ gb139)) k_ ∧ some k_ ≠ (u120004 : Value).ownBlock) (Kd.R_types (Kd.R_apart' (HO142.out) (Kd.S_typed HO_120004.out) (by decide)) BK139.out (by decide)) (fun k_ hk => ⟨⟨hk.1.1.1, ⟨hk.1.1.2, hk.2⟩⟩, hk.1.2⟩))).1 k_ hk_.symm) ?aF ?aO ?aB ?aS ?aL ?_; (case aP => exact k107_mkM _ _ _ (⟨t133, t136, t140⟩ : S107) (Kd.R_mono (Kd.R_tight rfl (Kd.R_mono (ok' := fun k_ => ((fun k_ => some k_ ≠ (.slice Ao19 t120.length co19 : Value).ownBlock ∧ some k_ ≠ (.slice Ao21 t125.length co21 : Value).ownBlock ∧ k_ ≠ gb139)) k_ ∧ some k_ ≠ (u120004 : Value).ownBlock) (Kd.R_types (Kd.R_apart' (HO142.out) (Kd.S_typed HO_120004.out) (by decide)) BK139.out (by decide)) (fun k_ hk => ⟨⟨hk.1.1.1, ⟨hk.1.1.2, hk.2⟩⟩, hk.1.2⟩))) (fun _ h_ => h_))); (case aB => exact (by repeat (first | (with_reducible first | exact HB.out | apply l_ | apply d_ | apply m_ | refine f_ ?_ (r_.ge HI112.out) | refine f_ ?_ GE110.out | refine f_ ?_ GE119.out | refine f_ ?_ GE139.out) | exact HB.out))); (case aF => exact (fun k_ hk => ⟨Kd.fresh' (Kd.R_lt (by (with_reducible repeat (first | apply Kd.R_alloc | apply Kd.R_drewN | apply Kd.R_drew)); exact HO_120002.out)) k_ hk, Kd.fresh' (Kd.R_lt (by (with_reducible repeat (first | apply Kd.R_alloc | apply Kd.R_drewN | apply Kd.R_drew)); exact HO_120003.out)) k_ hk, Kd.freshB (g := gb139) (o := .cells #[.string t133, .int .i64 t136, .slice Ao39 t140.length co39] 107 (0, 0)) (by (with_reducible repeat (first | refine u_ ?_ _ | refine o_ ?_ | refine x_ ?_ _)); exact BK139.out) k_ hk⟩)); (case aO => exact (by (with_reducible repeat (first | apply Kd.S_alloc | apply Kd.S_drewN | apply Kd.S_drew)); exact Kd.S_mono HO_120004.out (fun k_ hk => ⟨⟨hk.1, ⟨hk.2.1, hk.2.2.2⟩⟩, fun e_ => hk.2.2.1 e_⟩))); (case aS => exact (v_ (by repeat (first | (with_reducible first | exact HB.out | apply l_ | apply d_ | apply m_ | refine f_ ?_ (r_.ge HI112.out) | refine f_ ?_ GE110.out | refine f_ ?_ GE119.out | refine f_ ?_ GE139.out) | exact HB.out)))); (case aL => have := LMc30.out; omega); intro v146 w46 ho hb hg hat; rw [← Ny145.out] at ho; have n0_ := c_.mk (Kd.R_over' (by (with_reducible repeat (first | apply Kd.R_alloc | apply Kd.R_drewN | apply Kd.R_drew)); exact HO_120002.out) (Kd.S_typed (by (with_reducible repeat (first | apply Kd.S_alloc | apply Kd.S_drewN | apply Kd.S_drew)); exact HO_120004.out)) (by decide) hg); have n1_ := c_.mk (Kd.R_over' (by (with_reducible repeat (first | apply Kd.R_alloc | apply Kd.R_drewN | apply Kd.R_drew)); exact HO_120003.out) (Kd.S_typed (by (with_reducible repeat (first | apply Kd.S_alloc | apply Kd.S_drewN | apply Kd.S_drew)); exact HO_120004.out)) (by decide) hg); have n2_ := c_.mk (bu_ (g := gb110) (o := .cells #[.int .i64 0, .int .i64 0, .slice none 0 0, .slice none 0 0, .slice none 0 0] 57 (0, 0)) (by (with_reducible repeat (first | refine u_ ?_ _ | refine o_ ?_ | refine x_ ?_ _)); exact BK110.out) hg (Kd.S_ne HO_120004.out BK110.out (by decide))); have n3_ := c_.mk (bu_ (g := gb119) (o := .cells #[.int .i64 t113, .int .i64 t116, .slice Ao19 t120.length co19, .slice Ao21 t125.length co21, u120004] 57 (0, 0)) (by (with_reducible repeat (first | refine u_ ?_ _ | refine o_ ?_ | refine x_ ?_ _)); exact BK119.out) hg (Kd.S_ne HO_120004.out BK119.out (by decide))); have n4_ := c_.mk (r_.grown (by repeat (first | (with_reducible first | exact HI112.out | apply r_.alloc | apply r_.drewN | apply r_.drew | apply r_.set_1 | apply r_.set_2 | refine r_.far ?_ NB112_110.out _ | refine r_.far ?_ NB112_119.out _ | refine r_.far ?_ NB112_139.out _) | exact HI112.out)) hg (r_.own_neS HI112.out HO_120004.out (by decide))); have n5_ := c_.mk (bu_ (g := gb139) (o := .cells #[.string t133, .int .i64 t136, .slice Ao39 t140.length co39] 107 (0, 0)) (by (with_reducible repeat (first | refine u_ ?_ _ | refine o_ ?_ | refine x_ ?_ _)); exact BK139.out) hg (Kd.S_away HO_120004.out (fun _ hk => hk.2.2.2))); have n6_ := c_.mk (hb); have n7_ := c_.mk (ho); clear HO_120002; clear HO_120003; clear BK110; clear BK119; clear HI112; clear BK139; clear HB; clear HO_120004; clear HO142; have HO_120002 := n0_; have HO_120003 := n1_; have BK110 := n2_; have BK119 := n3_; have HI112 := n4_; have BK139 := n5_; have HB := n6_; have HO147 := n7_; clear n0_ n1_ n2_ n3_ n4_ n5_ n6_ n7_; clear ho hb hg hat; obtain ⟨Ao47, co47, eo47⟩ := Kd.S_slice HO147.out; subst eo47; have hcz48_0 : w46.cell? ⟨gb119, 0, none⟩ = some (.int .i64 t113) := (b_ BK119.out 0).trans rfl; have hcz48_1 : w46.cell? ⟨gb119, 1, none⟩ = some (.int .i64 t116) := (b_ BK119.out 1).trans rfl; have hcz48_2 : w46.cell? ⟨gb119, 2, none⟩ = some (.slice Ao19 t120.length co19) := (b_ BK119.out 2).trans rfl; have hcz48_3 : w46.cell? ⟨gb119, 3, none⟩ = some (.slice Ao21 t125.length co21) := (b_ BK119.out 3).trans rfl; have hcz48_4 : w46.cell? ⟨gb119, 4, none⟩ = some (u120004) := (b_ BK119.out 4).trans rfl; have hfz48_0 := a_ BK119.out 0; have hfz48_1 := a_ BK119.out 1; have hfz48_2 := a_ BK119.out 2; have hfz48_3 := a_ BK119.out 3; have hfz48_4 := a_ BK119.out 4))
       go_roundg kj22
       case measure => have := HK1.out; have := HJ22.out; omega
       case rel => exact ⟨(wrap64 (x6_1 - 1)), (t143), (t144), (y145), (.slice Ao47 y145.length co47), (by first | rfl | (simp; done) | (simp [*]; done)), H', ⟨by have := HK1.out; have := HJ22.out; omega⟩, ⟨by (with_reducible repeat (first | apply Kd.R_alloc | apply Kd.R_drewN | apply Kd.R_drew)); exact Kd.R_mono (Kd.R_far (p := ⟨gb119, 4, none⟩) (Kd.R_types HO_120002.out BK119.out (by decide)) (fun _ hk => hk.2) (.slice Ao47 y145.length co47)) (fun _ hk => hk.1.1)⟩, ⟨by (with_reducible repeat (first | apply Kd.R_alloc | apply Kd.R_drewN | apply Kd.R_drew)); exact Kd.R_mono (Kd.R_far (p := ⟨gb119, 4, none⟩) (Kd.R_types HO_120003.out BK119.out (by decide)) (fun _ hk => hk.2) (.slice Ao47 y145.length co47)) (fun _ hk => hk.1.1)⟩, ⟨by (with_reducible repeat (first | apply Kd.S_alloc | apply Kd.S_drewN | apply Kd.S_drew)); exact Kd.S_mono (Kd.S_far (p := ⟨gb119, 4, none⟩) (Kd.S_types HO147.out BK119.out (by decide)) (fun _ hk => hk.2) (.slice Ao47 y145.length co47)) (fun _ hk => ⟨hk.1.1, hk.1.2.1⟩)⟩, ⟨by (with_reducible repeat (first | refine u_ ?_ _ | refine o_ ?_ | refine x_ ?_ _)); refine bl_ ?_ NB110_119.out _; (with_reducible repeat (first | refine u_ ?_ _ | refine o_ ?_ | refine x_ ?_ _)); exact BK110.out⟩, ⟨by (with_reducible repeat (first | refine u_ ?_ _ | refine o_ ?_ | refine x_ ?_ _)); refine bh_ (cs := #[.int .i64 t113, .int .i64 t116, .slice Ao19 t120.length co19, .slice Ao21 t125.length co21, u120004]) ?_ 4 _ rfl; (with_reducible repeat (first | refine u_ ?_ _ | refine o_ ?_ | refine x_ ?_ _)); exact BK119.out⟩, ⟨by repeat (first | (with_reducible first | exact HI112.out | apply r_.alloc | apply r_.drewN | apply r_.drew | apply r_.set_1 | apply r_.set_2 | refine r_.far ?_ NB112_110.out _ | refine r_.far ?_ NB112_119.out _ | refine r_.far ?_ NB112_139.out _) | exact HI112.out)⟩, ⟨by repeat (first | (with_reducible first | exact HB.out | apply l_ | apply d_ | apply m_ | refine f_ ?_ (r_.ge HI112.out) | refine f_ ?_ GE110.out | refine f_ ?_ GE119.out | refine f_ ?_ GE139.out) | exact HB.out)⟩⟩
      ·rw [if_neg c30] at H
       exact absurd H (by simp)
     ·replace c26 := Bool.eq_false_iff.mpr c26
      subst c26
      have H1 : (if x113002_1 = true then (some (0, 0, ([] : List ByteArray), ([] : List ByteArray), ([] : List (S107)), some 2)) else (if x113001_1 < (a0.size : Int) then (some (0, 0, ([] : List ByteArray), ([] : List ByteArray), ([] : List (S107)), some 2)) else (some (t113, t116, t120, t125, x120004_1, none)))) = some (r1, r2, r3, r4, r5, r6) := by rw [if_neg (show ¬ (false = true) by decide)] at H; exact H
      clear H
      have H := H1
      clear H1
      by_cases c49 : x113002_1 = true
      ·subst c49
       have H1 : (some (0, 0, ([] : List ByteArray), ([] : List ByteArray), ([] : List (S107)), some 2)) = some (r1, r2, r3, r4, r5, r6) := by first | (rw [if_pos rfl] at H; with_reducible exact H) | exact (if_pos rfl).symm.trans H | (simp only [if_true, eq_self_iff_true] at H ⊢; exact H)
       clear H
       have H := H1
       clear H1
       simp only [Option.some.injEq, Prod.mk.injEq] at H
       obtain ⟨rfl, rfl, rfl, rfl, rfl, rfl⟩ := H
       obtain ⟨ASz50_0, cSz50_0, HGz50, hgz50, HSz50_0⟩ := HI112.out
       have hcz50_0 := cellS102_0 HGz50
       have hcz50_1 := cellS102_1 HGz50
       have hcz50_2 := cellS102_2 HGz50
       have hfz50_1 := a_ HGz50 1
       have hfz50_2 := a_ HGz50 2
       clear HGz50 hgz50
       have hnb51 := NB110_119.out
       have hnc51 := NB119_110.out
       have hnb52 := NB110_112.out
       have hnc52 := NB112_110.out
       have hcz53_0 : wc.cell? ⟨gb110, 0, none⟩ = some (.int .i64 0) := (b_ BK110.out 0).trans rfl
       have hcz53_1 : wc.cell? ⟨gb110, 1, none⟩ = some (.int .i64 0) := (b_ BK110.out 1).trans rfl
       have hcz53_2 : wc.cell? ⟨gb110, 2, none⟩ = some (.slice none 0 0) := (b_ BK110.out 2).trans rfl
       have hcz53_3 : wc.cell? ⟨gb110, 3, none⟩ = some (.slice none 0 0) := (b_ BK110.out 3).trans rfl
       have hcz53_4 : wc.cell? ⟨gb110, 4, none⟩ = some (.slice none 0 0) := (b_ BK110.out 4).trans rfl
       have hfz53_0 := a_ BK110.out 0
       have hfz53_1 := a_ BK110.out 1
       have hfz53_2 := a_ BK110.out 2
       have hfz53_3 := a_ BK110.out 3
       have hfz53_4 := a_ BK110.out 4
       go_wp2
       refine bodyPost_ret (results_ct rfl _ _ gb110 57 #[.int .i64 0, .int .i64 0, .slice none 0 0, .slice none 0 0, .slice none 0 0] (0, 0) _ rfl (by refine bh_ (cs := #[.int .i64 0, .int .i64 0, .slice none 0 0, .slice none 0 0, .slice none 0 0]) ?_ 4 _ rfl; refine bh_ (cs := #[.int .i64 0, .int .i64 0, .slice none 0 0, .slice none 0 0, .slice none 0 0]) ?_ 3 _ rfl; refine bh_ (cs := #[.int .i64 0, .int .i64 0, .slice none 0 0, .slice none 0 0, .slice none 0 0]) ?_ 2 _ rfl; refine bh_ (cs := #[.int .i64 0, .int .i64 0, .slice none 0 0, .slice none 0 0, .slice none 0 0]) ?_ 1 _ rfl; refine bh_ (cs := #[.int .i64 0, .int .i64 0, .slice none 0 0, .slice none 0 0, .slice none 0 0]) ?_ 0 _ rfl; exact BK110.out) Tryz.underlying57 rfl (by kernel_rfl)) rfl ?_
       exact ⟨w, HBC.out, _, _, _, by first | rfl | (simp [i_, g_] <;> rfl) | (simp [*, i_, g_] <;> rfl), by first | exact Kd.R_nil _ _ _ _ _ | exact Kd.N_nil _ _ _ _ _ | exact Kd.V_nil _ _ _ _ _ | exact Kd.Q_nil _ _ _ _ _ | exact Kd.S_nil _ _ _ _ _, by first | exact Kd.R_nil _ _ _ _ _ | exact Kd.N_nil _ _ _ _ _ | exact Kd.V_nil _ _ _ _ _ | exact Kd.Q_nil _ _ _ _ _ | exact Kd.S_nil _ _ _ _ _, by first | exact Kd.S_nil _ _ _ _ _ | exact Kd.N_nil _ _ _ _ _ | exact Kd.V_nil _ _ _ _ _ | exact Kd.Q_nil _ _ _ _ _ | exact Kd.R_nil _ _ _ _ _, by repeat (first | (with_reducible first | exact (cr_ HBC.out HB.out) | apply l_ | apply d_ | apply m_ | refine f_ ?_ (r_.ge HI112.out) | refine f_ ?_ GE110.out | refine f_ ?_ GE119.out) | exact (cr_ HBC.out HB.out))⟩
      ·replace c49 := Bool.eq_false_iff.mpr c49
       subst c49
       have H1 : (if x113001_1 < (a0.size : Int) then (some (0, 0, ([] : List ByteArray), ([] : List ByteArray), ([] : List (S107)), some 2)) else (some (t113, t116, t120, t125, x120004_1, none))) = some (r1, r2, r3, r4, r5, r6) := by rw [if_neg (show ¬ (false = true) by decide)] at H; exact H
       clear H
       have H := H1
       clear H1
       by_cases c54 : x113001_1 < (a0.size : Int)
       ·rw [if_pos c54] at H
        have c54b0 : decide (x113001_1 < (a0.size : Int)) = true := decide_eq_true c54
        clear c54
        simp only [Option.some.injEq, Prod.mk.injEq] at H
        obtain ⟨rfl, rfl, rfl, rfl, rfl, rfl⟩ := H
        obtain ⟨ASz55_0, cSz55_0, HGz55, hgz55, HSz55_0⟩ := HI112.out
        have hcz55_0 := cellS102_0 HGz55
        have hcz55_1 := cellS102_1 HGz55
        have hcz55_2 := cellS102_2 HGz55
        have hfz55_1 := a_ HGz55 1
        have hfz55_2 := a_ HGz55 2
        clear HGz55 hgz55
        have hnb56 := NB110_119.out
        have hnc56 := NB119_110.out
        have hnb57 := NB110_112.out
        have hnc57 := NB112_110.out
        have hcz58_0 : wc.cell? ⟨gb110, 0, none⟩ = some (.int .i64 0) := (b_ BK110.out 0).trans rfl
        have hcz58_1 : wc.cell? ⟨gb110, 1, none⟩ = some (.int .i64 0) := (b_ BK110.out 1).trans rfl
        have hcz58_2 : wc.cell? ⟨gb110, 2, none⟩ = some (.slice none 0 0) := (b_ BK110.out 2).trans rfl
        have hcz58_3 : wc.cell? ⟨gb110, 3, none⟩ = some (.slice none 0 0) := (b_ BK110.out 3).trans rfl
        have hcz58_4 : wc.cell? ⟨gb110, 4, none⟩ = some (.slice none 0 0) := (b_ BK110.out 4).trans rfl
        have hfz58_0 := a_ BK110.out 0
        have hfz58_1 := a_ BK110.out 1
        have hfz58_2 := a_ BK110.out 2
        have hfz58_3 := a_ BK110.out 3
        have hfz58_4 := a_ BK110.out 4
        go_wp2
        refine bodyPost_ret (results_ct rfl _ _ gb110 57 #[.int .i64 0, .int .i64 0, .slice none 0 0, .slice none 0 0, .slice none 0 0] (0, 0) _ rfl (by refine bh_ (cs := #[.int .i64 0, .int .i64 0, .slice none 0 0, .slice none 0 0, .slice none 0 0]) ?_ 4 _ rfl; refine bh_ (cs := #[.int .i64 0, .int .i64 0, .slice none 0 0, .slice none 0 0, .slice none 0 0]) ?_ 3 _ rfl; refine bh_ (cs := #[.int .i64 0, .int .i64 0, .slice none 0 0, .slice none 0 0, .slice none 0 0]) ?_ 2 _ rfl; refine bh_ (cs := #[.int .i64 0, .int .i64 0, .slice none 0 0, .slice none 0 0, .slice none 0 0]) ?_ 1 _ rfl; refine bh_ (cs := #[.int .i64 0, .int .i64 0, .slice none 0 0, .slice none 0 0, .slice none 0 0]) ?_ 0 _ rfl; exact BK110.out) Tryz.underlying57 rfl (by kernel_rfl)) rfl ?_
        exact ⟨w, HBC.out, _, _, _, by first | rfl | (simp [i_, g_] <;> rfl) | (simp [*, i_, g_] <;> rfl), by first | exact Kd.R_nil _ _ _ _ _ | exact Kd.N_nil _ _ _ _ _ | exact Kd.V_nil _ _ _ _ _ | exact Kd.Q_nil _ _ _ _ _ | exact Kd.S_nil _ _ _ _ _, by first | exact Kd.R_nil _ _ _ _ _ | exact Kd.N_nil _ _ _ _ _ | exact Kd.V_nil _ _ _ _ _ | exact Kd.Q_nil _ _ _ _ _ | exact Kd.S_nil _ _ _ _ _, by first | exact Kd.S_nil _ _ _ _ _ | exact Kd.N_nil _ _ _ _ _ | exact Kd.V_nil _ _ _ _ _ | exact Kd.Q_nil _ _ _ _ _ | exact Kd.R_nil _ _ _ _ _, by repeat (first | (with_reducible first | exact (cr_ HBC.out HB.out) | apply l_ | apply d_ | apply m_ | refine f_ ?_ (r_.ge HI112.out) | refine f_ ?_ GE110.out | refine f_ ?_ GE119.out) | exact (cr_ HBC.out HB.out))⟩
       ·rw [if_neg c54] at H
        have c54b0 : decide (x113001_1 < (a0.size : Int)) = false := decide_eq_false c54
        clear c54
        simp only [Option.some.injEq, Prod.mk.injEq] at H
        obtain ⟨rfl, rfl, rfl, rfl, rfl, rfl⟩ := H
        obtain ⟨ASz59_0, cSz59_0, HGz59, hgz59, HSz59_0⟩ := HI112.out
        have hcz59_0 := cellS102_0 HGz59
        have hcz59_1 := cellS102_1 HGz59
        have hcz59_2 := cellS102_2 HGz59
        have hfz59_1 := a_ HGz59 1
        have hfz59_2 := a_ HGz59 2
        clear HGz59 hgz59
        have hnb60 := NB119_110.out
        have hnc60 := NB110_119.out
        have hnb61 := NB119_112.out
        have hnc61 := NB112_119.out
        have hcz62_0 : wc.cell? ⟨gb119, 0, none⟩ = some (.int .i64 t113) := (b_ BK119.out 0).trans rfl
        have hcz62_1 : wc.cell? ⟨gb119, 1, none⟩ = some (.int .i64 t116) := (b_ BK119.out 1).trans rfl
        have hcz62_2 : wc.cell? ⟨gb119, 2, none⟩ = some (.slice Ao19 t120.length co19) := (b_ BK119.out 2).trans rfl
        have hcz62_3 : wc.cell? ⟨gb119, 3, none⟩ = some (.slice Ao21 t125.length co21) := (b_ BK119.out 3).trans rfl
        have hcz62_4 : wc.cell? ⟨gb119, 4, none⟩ = some (u120004) := (b_ BK119.out 4).trans rfl
        have hfz62_0 := a_ BK119.out 0
        have hfz62_1 := a_ BK119.out 1
        have hfz62_2 := a_ BK119.out 2
        have hfz62_3 := a_ BK119.out 3
        have hfz62_4 := a_ BK119.out 4
        have hnb63 := NB110_112.out
        have hnc63 := NB112_110.out
        have hcz64_0 : wc.cell? ⟨gb110, 0, none⟩ = some (.int .i64 0) := (b_ BK110.out 0).trans rfl
        have hcz64_1 : wc.cell? ⟨gb110, 1, none⟩ = some (.int .i64 0) := (b_ BK110.out 1).trans rfl
        have hcz64_2 : wc.cell? ⟨gb110, 2, none⟩ = some (.slice none 0 0) := (b_ BK110.out 2).trans rfl
        have hcz64_3 : wc.cell? ⟨gb110, 3, none⟩ = some (.slice none 0 0) := (b_ BK110.out 3).trans rfl
        have hcz64_4 : wc.cell? ⟨gb110, 4, none⟩ = some (.slice none 0 0) := (b_ BK110.out 4).trans rfl
        have hfz64_0 := a_ BK110.out 0
        have hfz64_1 := a_ BK110.out 1
        have hfz64_2 := a_ BK110.out 2
        have hfz64_3 := a_ BK110.out 3
        have hfz64_4 := a_ BK110.out 4
        obtain ⟨Ao65, co65, eo65⟩ := Kd.S_slice HO_120004.out
        subst eo65
        go_wp2
        refine bodyPost_ret (results_ct rfl _ _ gb110 57 #[.int .i64 t113, .int .i64 t116, .slice Ao19 t120.length co19, .slice Ao21 t125.length co21, .slice Ao65 x120004_1.length co65] (0, 0) _ rfl (by refine bh_ (cs := #[.int .i64 t113, .int .i64 t116, .slice Ao19 t120.length co19, .slice Ao21 t125.length co21, .slice none 0 0]) ?_ 4 _ rfl; refine bh_ (cs := #[.int .i64 t113, .int .i64 t116, .slice Ao19 t120.length co19, .slice none 0 0, .slice none 0 0]) ?_ 3 _ rfl; refine bh_ (cs := #[.int .i64 t113, .int .i64 t116, .slice none 0 0, .slice none 0 0, .slice none 0 0]) ?_ 2 _ rfl; refine bh_ (cs := #[.int .i64 t113, .int .i64 0, .slice none 0 0, .slice none 0 0, .slice none 0 0]) ?_ 1 _ rfl; refine bh_ (cs := #[.int .i64 0, .int .i64 0, .slice none 0 0, .slice none 0 0, .slice none 0 0]) ?_ 0 _ rfl; exact BK110.out) Tryz.underlying57 rfl (by kernel_rfl)) rfl ?_
        exact ⟨w, HBC.out, _, _, _, by first | rfl | (simp [i_, g_] <;> rfl) | (simp [*, i_, g_] <;> rfl), Kd.R_mono (Kd.R_far (p := ⟨gb110, 4, none⟩) (Kd.R_far (p := ⟨gb110, 3, none⟩) (Kd.R_far (p := ⟨gb110, 2, none⟩) (Kd.R_far (p := ⟨gb110, 1, none⟩) (Kd.R_far (p := ⟨gb110, 0, none⟩) (Kd.R_types HO_120002.out BK110.out (by decide)) (fun _ hk => hk.2) (.int .i64 t113)) (fun _ hk => hk.2) (.int .i64 t116)) (fun _ hk => hk.2) (.slice Ao19 t120.length co19)) (fun _ hk => hk.2) (.slice Ao21 t125.length co21)) (fun _ hk => hk.2) (.slice Ao65 x120004_1.length co65)) (fun _ hk => hk.1), Kd.R_mono (Kd.R_far (p := ⟨gb110, 4, none⟩) (Kd.R_far (p := ⟨gb110, 3, none⟩) (Kd.R_far (p := ⟨gb110, 2, none⟩) (Kd.R_far (p := ⟨gb110, 1, none⟩) (Kd.R_far (p := ⟨gb110, 0, none⟩) (Kd.R_types HO_120003.out BK110.out (by decide)) (fun _ hk => hk.2) (.int .i64 t113)) (fun _ hk => hk.2) (.int .i64 t116)) (fun _ hk => hk.2) (.slice Ao19 t120.length co19)) (fun _ hk => hk.2) (.slice Ao21 t125.length co21)) (fun _ hk => hk.2) (.slice Ao65 x120004_1.length co65)) (fun _ hk => hk.1), Kd.S_mono (Kd.S_far (p := ⟨gb110, 4, none⟩) (Kd.S_far (p := ⟨gb110, 3, none⟩) (Kd.S_far (p := ⟨gb110, 2, none⟩) (Kd.S_far (p := ⟨gb110, 1, none⟩) (Kd.S_far (p := ⟨gb110, 0, none⟩) (Kd.S_types HO_120004.out BK110.out (by decide)) (fun _ hk => hk.2) (.int .i64 t113)) (fun _ hk => hk.2) (.int .i64 t116)) (fun _ hk => hk.2) (.slice Ao19 t120.length co19)) (fun _ hk => hk.2) (.slice Ao21 t125.length co21)) (fun _ hk => hk.2) (.slice Ao65 x120004_1.length co65)) (fun _ hk => ⟨hk.1.1, hk.1.2⟩), by repeat (first | (with_reducible first | exact (cr_ HBC.out HB.out) | apply l_ | apply d_ | apply m_ | refine f_ ?_ (r_.ge HI112.out) | refine f_ ?_ GE110.out | refine f_ ?_ GE119.out) | exact (cr_ HBC.out HB.out))⟩
def msg_GetAnswer.f (k : Nat) (a0 : ByteArray) : Option (Int × Int × List ByteArray × List ByteArray × (List (S107)) × Option Int) := if a0.size ≤ 100000000 then aq_.f k a0 (bk_ a0) else none
theorem msg_GetAnswer.calls (k : Nat) (a0 : ByteArray) (r1 : Int) (r2 : Int) (r3 : List ByteArray) (r4 : List ByteArray) (r5 : List (S107)) (r6 : Option Int) (w : World) (h : msg_GetAnswer.f k a0 = some (r1, r2, r3, r4, r5, r6)) :
  Calls Tryz.prog 25 #[.string a0] w fun e w' => ∃ v2_ v3_ v4_ : Value, e = .returned (.tuple #[.agg #[.int .i64 r1, .int .i64 r2, v2_, v3_, v4_], errW r6]) ∧ Kd.R Kd.string 9 w' w.heap.size (fun k_ => some k_ ≠ (v3_ : Value).ownBlock) v2_ r3 ∧ Kd.R Kd.string 9 w' w.heap.size (fun k_ => some k_ ≠ (v2_ : Value).ownBlock) v3_ r4 ∧ Kd.S k107 107 w' w.heap.size (fun k_ => some k_ ≠ (v2_ : Value).ownBlock ∧ some k_ ≠ (v3_ : Value).ownBlock) v4_ r5 ∧ Below w.heap.size w w' := by
 unfold msg_GetAnswer.f at h
 split at h
 ·rename_i hz
  refine (aq_.callsX k a0 r1 r2 r3 r4 r5 r6 w hz h).mono ?_
  rintro e w' ⟨w2, hb, v2, v3, v4, he, h2, h3, h4, h5⟩
  exact ⟨v2, v3, v4, he, Kd.R_lower h2 hb.size, Kd.R_lower h3 hb.size, Kd.S_lower h4 hb.size, h5⟩
 ·cases h
def p_ (w0 W : World) (g : Nat) (f0 : List Int) (f1 : Int) (f2 : Bool) : Prop := ∃ A0 c0, W.heap[g]? = some (.cells #[.slice A0 f0.length c0, .int .i64 f1, .bool f2] 111 (0, 0)) ∧ w0.heap.size ≤ g ∧ (Kd.C (Kd.int .u8) w0 A0 f0.length f0 ∧ f0.length ≤ c0)
theorem p_.grown {w0 W : World} {g : Nat} {f0 : List Int} {f1 : Int} {f2 : Bool} {W1 : World} {row : Option Nat} (h : p_ w0 W g f0 f1 f2) (hw : W.grownBy W1 row) (hne : some g ≠ row) : p_ w0 W1 g f0 f1 f2 := by
 obtain ⟨A0, c0, hb, hg, hr0⟩ := h
 exact ⟨A0, c0, bu_ hb hw hne, hg, hr0⟩
theorem p_.kept {w0 W : World} {g : Nat} {f0 : List Int} {f1 : Int} {f2 : Bool} {W1 : World} {S : Nat → Prop} (h : p_ w0 W g f0 f1 f2) (hk : bv_ W W1 S) (hne : ¬ S g) : p_ w0 W1 g f0 f1 f2 := by
 obtain ⟨A0, c0, hb, hg, hr0⟩ := h
 exact ⟨A0, c0, dd_ hb hk hne, hg, hr0⟩
theorem p_.below {w0 W : World} {g : Nat} {f0 : List Int} {f1 : Int} {f2 : Bool} {W1 : World} (h : p_ w0 W g f0 f1 f2) (hw : Below W.heap.size W W1) : p_ w0 W1 g f0 f1 f2 := h.grown (grown_of_below hw none) (by simp)
theorem p_.alloc {w0 W : World} {g : Nat} {f0 : List Int} {f1 : Int} {f2 : Bool} (h : p_ w0 W g f0 f1 f2) (o : Obj) : p_ w0 (W.alloc o) g f0 f1 f2 := h.below (l_ (Below.refl _ _) o)
theorem p_.drewN {w0 W : World} {g : Nat} {f0 : List Int} {f1 : Int} {f2 : Bool} (h : p_ w0 W g f0 f1 f2) (m : Nat) : p_ w0 (W.drewN m) g f0 f1 f2 := h
theorem p_.drew {w0 W : World} {g : Nat} {f0 : List Int} {f1 : Int} {f2 : Bool} (h : p_ w0 W g f0 f1 f2) : p_ w0 W.drew g f0 f1 f2 := h
theorem p_.at_ {w0 W : World} {g : Nat} {f0 : List Int} {f1 : Int} {f2 : Bool} {w' : World} {m : Nat} (hq : W.drewN m = w') (h : p_ w0 W g f0 f1 f2) : p_ w0 w' g f0 f1 f2 := by subst hq; exact p_.drewN h m
theorem p_.apart {w0 W : World} {g : Nat} {f0 : List Int} {f1 : Int} {f2 : Bool} {α : Type} {d : Kd α} {e : Nat} {base : Nat} {ok : Nat → Prop} {v : Value} {xs : List α} (h : p_ w0 W g f0 f1 f2) (ho : d.R e W base ok v xs) (ht : ∀ q, q ∈ e :: d.E → q ≠ 111) : d.R e W base (fun k => ok k ∧ k ≠ g) v xs := by
 obtain ⟨A0, c0, hb, hg, hr0⟩ := h
 exact Kd.R_types ho hb ht
theorem p_.own_ne {w0 W : World} {g : Nat} {f0 : List Int} {f1 : Int} {f2 : Bool} {α : Type} {d : Kd α} {e : Nat} {base : Nat} {ok : Nat → Prop} {v : Value} {xs : List α} (h : p_ w0 W g f0 f1 f2) (ho : d.R e W base ok v xs) (ht : e ≠ 111) : some g ≠ v.ownBlock := by
 obtain ⟨A0, c0, hb, hg, hr0⟩ := h
 exact Kd.R_ne ho hb ht
theorem p_.apartS {w0 W : World} {g : Nat} {f0 : List Int} {f1 : Int} {f2 : Bool} {α : Type} {d : Kd α} {e : Nat} {base : Nat} {ok : Nat → Prop} {v : Value} {xs : List α} (h : p_ w0 W g f0 f1 f2) (ho : d.S e W base ok v xs) (ht : ∀ q, q ∈ e :: d.E → q ≠ 111) : d.S e W base (fun k => ok k ∧ k ≠ g) v xs := by
 obtain ⟨A0, c0, hb, hg, hr0⟩ := h
 exact Kd.S_types ho hb ht
theorem p_.own_neS {w0 W : World} {g : Nat} {f0 : List Int} {f1 : Int} {f2 : Bool} {α : Type} {d : Kd α} {e : Nat} {base : Nat} {ok : Nat → Prop} {v : Value} {xs : List α} (h : p_ w0 W g f0 f1 f2) (ho : d.S e W base ok v xs) (ht : e ≠ 111) : some g ≠ v.ownBlock := by
 obtain ⟨A0, c0, hb, hg, hr0⟩ := h
 exact Kd.S_ne ho hb ht
theorem p_.lt {w0 W : World} {g : Nat} {f0 : List Int} {f1 : Int} {f2 : Bool} (h : p_ w0 W g f0 f1 f2) : g < W.heap.size := by
 obtain ⟨A0, c0, hb, hg, hr0⟩ := h
 exact bj_ hb
theorem p_.ge {w0 W : World} {g : Nat} {f0 : List Int} {f1 : Int} {f2 : Bool} (h : p_ w0 W g f0 f1 f2) : w0.heap.size ≤ g := by
 obtain ⟨A0, c0, hb, hg, hr0⟩ := h
 exact hg
theorem p_.far {w0 W : World} {g : Nat} {f0 : List Int} {f1 : Int} {f2 : Bool} {p : Addr} (h : p_ w0 W g f0 f1 f2) (hne : g ≠ p.block) (u : Value) : p_ w0 (W.setCell p u) g f0 f1 f2 := by
 obtain ⟨A0, c0, hb, hg, hr0⟩ := h
 exact ⟨A0, c0, bl_ hb hne u, hg, hr0⟩
theorem cellS111_0 {W : World} {g : Nat} {A0 : Option Addr} {c0 : Nat} {f0 : List Int} {f1 : Int} {f2 : Bool} (h : W.heap[g]? = some (.cells #[.slice A0 f0.length c0, .int .i64 f1, .bool f2] 111 (0, 0))) : W.cell? ⟨g, 0, none⟩ = some (.slice A0 f0.length c0) := (b_ h 0).trans rfl
theorem cellS111_1 {W : World} {g : Nat} {A0 : Option Addr} {c0 : Nat} {f0 : List Int} {f1 : Int} {f2 : Bool} (h : W.heap[g]? = some (.cells #[.slice A0 f0.length c0, .int .i64 f1, .bool f2] 111 (0, 0))) : W.cell? ⟨g, 1, none⟩ = some (.int .i64 f1) := (b_ h 1).trans rfl
theorem p_.set_1 {w0 W : World} {g : Nat} {f0 : List Int} {f1 : Int} {f2 : Bool} (h : p_ w0 W g f0 f1 f2) (x : Int) : p_ w0 (W.setCell ⟨g, 1, none⟩ (.int .i64 x)) g f0 x f2 := by
 obtain ⟨A0, c0, hb, hg, hr0⟩ := h
 exact ⟨A0, c0, by simpa using dc_ hb 1 (.int .i64 x), hg, hr0⟩
theorem cellS111_2 {W : World} {g : Nat} {A0 : Option Addr} {c0 : Nat} {f0 : List Int} {f1 : Int} {f2 : Bool} (h : W.heap[g]? = some (.cells #[.slice A0 f0.length c0, .int .i64 f1, .bool f2] 111 (0, 0))) : W.cell? ⟨g, 2, none⟩ = some (.bool f2) := (b_ h 2).trans rfl
theorem p_.set_2 {w0 W : World} {g : Nat} {f0 : List Int} {f1 : Int} {f2 : Bool} (h : p_ w0 W g f0 f1 f2) (x : Bool) : p_ w0 (W.setCell ⟨g, 2, none⟩ (.bool x)) g f0 f1 x := by
 obtain ⟨A0, c0, hb, hg, hr0⟩ := h
 exact ⟨A0, c0, by simpa using dc_ hb 2 (.bool x), hg, hr0⟩
end Go.Proofs.YtlcfcaokihoplaaGreatDoor.Mf
