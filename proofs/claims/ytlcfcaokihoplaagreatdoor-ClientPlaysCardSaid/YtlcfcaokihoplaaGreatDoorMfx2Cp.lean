-- Cut.
import Derived.Test.YtlcfcaokihoplaaGreatDoorMsgCVCp
import Derived.Test.YtlcfcaokihoplaaGreatDoorMfx1Cp
namespace Go.Proofs.YtlcfcaokihoplaaGreatDoor.Mf
open Go.RowKit Go.Proofs.YzW.PrintWords Go.Proofs.YzW.PrintLast Go.Proofs.YzW.PrintMore
attribute [local go_sem] cg_ ce_ cw_ cv_ by_ bx_ cf_ cd_
set_option linter.unusedVariables false
set_option linter.unusedSimpArgs false
attribute [local go_sem] eqlErr neqErr eqlErrNil neqErrNil
open Go.Proofs.YtlcfcaokihoplaaGreatDoor.Mw
def ae_.f (s0_0 : List Int) (s0_1 : Int) (s0_2 : Bool) (a1 : Int) : Option (Int × Int × Bool) := if Go.Proofs.YtlcfcaokihoplaaGreatDoor.MsgL.rdOk s0_0 s0_1 = true ∧ 0 ≤ a1 ∧ a1 ≤ Go.Proofs.YtlcfcaokihoplaaGreatDoor.MsgL.big31 then some ((Go.Proofs.YtlcfcaokihoplaaGreatDoor.MsgL.numOf s0_0 a1 s0_1.toNat s0_2).1, (((Go.Proofs.YtlcfcaokihoplaaGreatDoor.MsgL.numOf s0_0 a1 s0_1.toNat s0_2).2.1 : Nat) : Int), (Go.Proofs.YtlcfcaokihoplaaGreatDoor.MsgL.numOf s0_0 a1 s0_1.toNat s0_2).2.2) else none
theorem ae_.calls (g : Nat) (s0_0 : List Int) (s0_1 : Int) (s0_2 : Bool) (a1 : Int) (r1 : Int) (r2 : Int) (r3 : Bool) (w0 w : World) (hI : p_ w0 w g s0_0 s0_1 s0_2) (hB : Below w0.heap.size w0 w) (h : ae_.f s0_0 s0_1 s0_2 a1 = some (r1, r2, r3)) :
  Calls Tryz.prog 43 #[.pointer (some ⟨g, 0, none⟩), .int .u64 a1] w fun e w' => e = .returned (.int .i64 r1) ∧ p_ w0 w' g s0_0 r2 r3 ∧ Below w0.heap.size w0 w' ∧ ar_ w w' g none := by
 unfold ae_.f at h
 split at h
 ·rename_i hc
  obtain ⟨A, c, hg, hge, hC, hcp⟩ := hI
  obtain ⟨hb, hl, at_, rfl, ha⟩ := Go.Proofs.YtlcfcaokihoplaaGreatDoor.MsgL.rdOk_iff hc.1
  rw [Int.toNat_natCast] at h
  have hc2 := Go.Proofs.YtlcfcaokihoplaaGreatDoor.MsgL.rnum_calls w0 w g A c s0_0 at_ s0_2 a1 hc.2 ⟨hg, hge, hB⟩ hC hcp hb hl ha
  simp only [Option.some.injEq, Prod.mk.injEq] at h
  obtain ⟨rfl, rfl, rfl⟩ := h
  refine hc2.mono ?_
  rintro e w' ⟨rfl, ⟨h1, h2, h3⟩, hk, hbl⟩
  exact ⟨rfl, ⟨A, c, h1, h2, hC, hcp⟩, h3, ⟨hk.1, fun i hi hn _ => hk.2 i hi hn⟩⟩
 ·cases h
def bf_.f (s0_0 : List Int) (s0_1 : Int) (s0_2 : Bool) : Option (ByteArray × Int × Bool) := if Go.Proofs.YtlcfcaokihoplaaGreatDoor.MsgL.rdOk s0_0 s0_1 = true then some ((Go.Proofs.YtlcfcaokihoplaaGreatDoor.MsgL.rtxt s0_0 s0_1.toNat s0_2).1, (((Go.Proofs.YtlcfcaokihoplaaGreatDoor.MsgL.rtxt s0_0 s0_1.toNat s0_2).2.1 : Nat) : Int), (Go.Proofs.YtlcfcaokihoplaaGreatDoor.MsgL.rtxt s0_0 s0_1.toNat s0_2).2.2) else none
theorem bf_.calls (g : Nat) (s0_0 : List Int) (s0_1 : Int) (s0_2 : Bool) (r1 : ByteArray) (r2 : Int) (r3 : Bool) (w0 w : World) (hI : p_ w0 w g s0_0 s0_1 s0_2) (hB : Below w0.heap.size w0 w) (h : bf_.f s0_0 s0_1 s0_2 = some (r1, r2, r3)) :
  Calls Tryz.prog 45 #[.pointer (some ⟨g, 0, none⟩)] w fun e w' => e = .returned (.string r1) ∧ p_ w0 w' g s0_0 r2 r3 ∧ Below w0.heap.size w0 w' ∧ ar_ w w' g none := by
 unfold bf_.f at h
 split at h
 ·rename_i hc
  obtain ⟨A, c, hg, hge, hC, hcp⟩ := hI
  obtain ⟨hb, hl, at_, rfl, ha⟩ := Go.Proofs.YtlcfcaokihoplaaGreatDoor.MsgL.rdOk_iff hc
  rw [Int.toNat_natCast] at h
  have hc2 := Go.Proofs.YtlcfcaokihoplaaGreatDoor.MsgL.rtext_calls w0 w g A c s0_0 at_ s0_2 ⟨hg, hge, hB⟩ hC hcp hb hl ha
  simp only [Option.some.injEq, Prod.mk.injEq] at h
  obtain ⟨rfl, rfl, rfl⟩ := h
  refine hc2.mono ?_
  rintro e w' ⟨rfl, ⟨h1, h2, h3⟩, hk, hbl⟩
  exact ⟨rfl, ⟨A, c, h1, h2, hC, hcp⟩, h3, ⟨hk.1, fun i hi hn _ => hk.2 i hi hn⟩⟩
 ·cases h
def al_.l0 : Nat → List ByteArray → Int → Int → List Int → Int → Bool → Option (List ByteArray × Int × Bool)
 | 0, _, _, _, _, _, _ => none
 | k + 1, x3, x4, x5, x1000, x1001, x1002 => if x5 < x4 then (if x1002 = true then (some (x3, x1001, x1002)) else ((bf_.f x1000 x1001 x1002).bind fun bt151 => (if x3.length < 8796093022208 then (al_.l0 k (x3 ++ [bt151.1]) x4 (wrap64 (x5 + 1)) x1000 bt151.2.1 bt151.2.2) else (none)))) else (some (x3, x1001, x1002))
def al_.f (k : Nat) (s0_0 : List Int) (s0_1 : Int) (s0_2 : Bool) : Option (List ByteArray × Int × Bool) := (ae_.f s0_0 s0_1 s0_2 65536).bind fun bt148 => (al_.l0 k ([] : List ByteArray) bt148.1 0 s0_0 bt148.2.1 bt148.2.2)
set_option maxHeartbeats 8000000 in
set_option maxRecDepth 100000 in
theorem al_.calls (k : Nat) (g : Nat) (s0_0 : List Int) (s0_1 : Int) (s0_2 : Bool) (r1 : List ByteArray) (r2 : Int) (r3 : Bool) (w0 w : World) (hI : p_ w0 w g s0_0 s0_1 s0_2) (hB : Below w0.heap.size w0 w) (h : al_.f k s0_0 s0_1 s0_2 = some (r1, r2, r3)) :
  Calls Tryz.prog 44 #[.pointer (some ⟨g, 0, none⟩)] w fun e w' => ∃ v0_ : Value, e = .returned (v0_) ∧ Kd.R Kd.string 9 w' w.heap.size (fun _ => True) v0_ r1 ∧ p_ w0 w' g s0_0 r2 r3 ∧ Below w0.heap.size w0 w' ∧ ar_ w w' g none := by
 have HI0 := c_.mk hI
 have HK := c_.mk (ar_.refl w g none)
 have HL := c_.mk hB.size
 clear hI
 have HW0 := c_.mk hB.size
 have HB := c_.mk hB
 clear hB
 have H : ((ae_.f s0_0 s0_1 s0_2 65536).bind fun bt148 => (al_.l0 k ([] : List ByteArray) bt148.1 0 s0_0 bt148.2.1 bt148.2.2)) = some (r1, r2, r3) := h
 clear h
 replace H := Option.bind_eq_some_iff.mp H
 obtain ⟨⟨t148, t149, t150⟩, A20, H⟩ := H
 replace H : (al_.l0 k ([] : List ByteArray) t148 0 s0_0 t149 t150) = some (r1, r2, r3) := H
 have A2 := c_.mk A20
 clear A20
 have H' := c_.mk H
 clear H
 go_enter Tryz.func44, Tryz.ntmps44
 go_wp2_with (first | ((with_reducible refine ah_ (f := 43) rfl ?_); refine bm_ (some 7) rfl rfl Tryz.func43 (by kernel_rfl) rfl #[.pointer (some ⟨g, 0, none⟩), .int .u64 65536] rfl (by (try simp only [List.map_toArray, List.map_cons, List.map_nil]); first | done | rfl | (simp only [List.length_drop, List.length_take]; rfl)) ?_; (with_reducible refine (ae_.calls g s0_0 s0_1 s0_2 65536 t148 t149 t150 w0 _ ?side1 ?side2 A2.out).mono ?_); (case side1 => repeat (first | (with_reducible first | exact HI0.out | apply p_.alloc | apply p_.drewN | apply p_.drew | apply p_.set_1 | apply p_.set_2) | exact HI0.out)); (case side2 => repeat (first | (with_reducible first | exact HB.out | apply l_ | apply d_ | apply m_ | refine f_ ?_ (p_.ge HI0.out)) | exact HB.out)); rintro e w3 ⟨rfl, hi, hb, hk⟩; refine ⟨_, rfl, ?_⟩; have n0_ := c_.mk (ar_.trans (by repeat (first | (with_reducible first | exact HK.out | apply ar_.set_ | apply ck_ | apply cu_ | apply cl_) | exact HK.out)) hk (.inl rfl)); have n1_ := c_.mk (hb); have n2_ := c_.mk (hi); clear HK; clear HB; clear HI0; have HK := n0_; have HB := n1_; have HI0 := n2_; clear n0_ n1_ n2_; (try clear hb); (try clear hb2); (try clear hk); (try clear hi)))
 go_loopg [3, 5] k (fun kq v3 v5 w' => ∃ (x3_1 : List ByteArray) (x5_1 : Int) (x1001_1 : Int) (x1002_1 : Bool), v5 = .int .i64 x5_1 ∧ c_ (al_.l0 kq x3_1 t148 x5_1 s0_0 x1001_1 x1002_1 = some (r1, r2, r3)) ∧ c_ (kq ≤ k) ∧ c_ (Kd.R Kd.string 9 w' w.heap.size (fun _ => True) v3 x3_1) ∧ c_ (p_ w0 w' g s0_0 x1001_1 x1002_1) ∧ c_ (ar_ w w' g none) ∧ c_ (Below w0.heap.size w0 w'))
 case atStart => exact ⟨(([] : List ByteArray)), (0), (t149), (t150), (by first | rfl | (simp; done) | (simp [*]; done)), H', ⟨Nat.le_refl _⟩, ⟨by first | exact Kd.R_nil _ _ _ _ _ | exact Kd.N_nil _ _ _ _ _ | exact Kd.V_nil _ _ _ _ _ | exact Kd.Q_nil _ _ _ _ _ | exact Kd.S_nil _ _ _ _ _⟩, ⟨HI0.out⟩, ⟨by repeat (first | (with_reducible first | exact HK.out | apply ar_.set_ | apply ck_ | apply cu_ | apply cl_) | exact HK.out)⟩, ⟨HB.out⟩⟩
 case round =>
  clear H'
  try clear p2
  obtain ⟨x3_1, x5_1, x1001_1, x1002_1, rfl, HA, HK1, HO_3, HI0, HK, HB⟩ := hrel
  cases gk with
  | zero => exact absurd HA.out (by simp [al_.l0])
  | succ k1 =>
   have H := HA.out
   clear HA
   simp only [al_.l0] at H
   by_cases c4 : x5_1 < t148
   ·rw [if_pos c4] at H
    have c4b0 : decide (x5_1 < t148) = true := decide_eq_true c4
    clear c4
    by_cases c5 : x1002_1 = true
    ·subst c5
     have H1 : (some (x3_1, x1001_1, true)) = some (r1, r2, r3) := by first | (rw [if_pos rfl] at H; with_reducible exact H) | exact (if_pos rfl).symm.trans H | (simp only [if_true, eq_self_iff_true] at H ⊢; exact H)
     clear H
     have H := H1
     clear H1
     simp only [Option.some.injEq, Prod.mk.injEq] at H
     obtain ⟨rfl, rfl, rfl⟩ := H
     obtain ⟨ASz6_0, cSz6_0, HGz6, hgz6, HSz6_0⟩ := HI0.out
     have hcz6_0 := cellS111_0 HGz6
     have hcz6_1 := cellS111_1 HGz6
     have hcz6_2 := cellS111_2 HGz6
     have hfz6_1 := a_ HGz6 1
     have hfz6_2 := a_ HGz6 2
     clear HGz6 hgz6
     go_wp2
     go_ret
     exact ⟨_, by first | rfl | (simp [i_, g_] <;> rfl) | (simp [*, i_, g_] <;> rfl), HO_3.out, HI0.out, HB.out, by repeat (first | (with_reducible first | exact HK.out | apply ar_.set_ | apply ck_ | apply cu_ | apply cl_) | exact HK.out)⟩
    ·replace c5 := Bool.eq_false_iff.mpr c5
     subst c5
     have H1 : ((bf_.f s0_0 x1001_1 false).bind fun bt151 => (if x3_1.length < 8796093022208 then (al_.l0 k1 (x3_1 ++ [bt151.1]) t148 (wrap64 (x5_1 + 1)) s0_0 bt151.2.1 bt151.2.2) else (none))) = some (r1, r2, r3) := by rw [if_neg (show ¬ (false = true) by decide)] at H; exact H
     clear H
     have H := H1
     clear H1
     replace H := Option.bind_eq_some_iff.mp H
     obtain ⟨⟨t151, t152, t153⟩, A70, H⟩ := H
     replace H : (if x3_1.length < 8796093022208 then (al_.l0 k1 (x3_1 ++ [t151]) t148 (wrap64 (x5_1 + 1)) s0_0 t152 t153) else (none)) = some (r1, r2, r3) := H
     have A7 := c_.mk A70
     clear A70
     by_cases c8 : x3_1.length < 8796093022208
     ·rw [if_pos c8] at H
      have LMc8 := c_.mk c8
      clear c8
      obtain ⟨y154, hy154⟩ : ∃ y_ : List ByteArray, y_ = (x3_1 ++ [t151]) := ⟨_, rfl⟩
      replace H : (al_.l0 k1 y154 t148 (wrap64 (x5_1 + 1)) s0_0 t152 t153) = some (r1, r2, r3) := by first | (rw [hy154]; with_reducible exact H) | (have H2_ := (Option.bind_some _ _).symm.trans H; rw [hy154]; with_reducible exact H2_) | (have H2_ := (Option.bind_some _ _).symm.trans H; with_reducible exact H2_) | with_reducible exact H | (rw [hy154]; exact H) | exact H
      have Ny154 := c_.mk hy154
      clear hy154
      have H' := c_.mk H
      clear H
      obtain ⟨ASz9_0, cSz9_0, HGz9, hgz9, HSz9_0⟩ := HI0.out
      have hcz9_0 := cellS111_0 HGz9
      have hcz9_1 := cellS111_1 HGz9
      have hcz9_2 := cellS111_2 HGz9
      have hfz9_1 := a_ HGz9 1
      have hfz9_2 := a_ HGz9 2
      clear HGz9 hgz9
      go_wp2_with (first | ((with_reducible refine ah_ (f := 45) rfl ?_); refine bm_ (some 22) rfl rfl Tryz.func45 (by kernel_rfl) rfl #[.pointer (some ⟨g, 0, none⟩)] rfl (by (try simp only [List.map_toArray, List.map_cons, List.map_nil]); first | done | rfl | (simp only [List.length_drop, List.length_take]; rfl)) ?_; (with_reducible refine (bf_.calls g s0_0 x1001_1 false t151 t152 t153 w0 _ ?side1 ?side2 A7.out).mono ?_); (case side1 => repeat (first | (with_reducible first | exact HI0.out | apply p_.alloc | apply p_.drewN | apply p_.drew | apply p_.set_1 | apply p_.set_2) | exact HI0.out)); (case side2 => repeat (first | (with_reducible first | exact HB.out | apply l_ | apply d_ | apply m_ | refine f_ ?_ (p_.ge HI0.out)) | exact HB.out)); rintro e w10 ⟨rfl, hi, hb, hk⟩; refine ⟨_, rfl, ?_⟩; have n0_ := c_.mk (Kd.R_mono (Kd.R_keep (p_.apart (show p_ w0 _ g s0_0 x1001_1 false from HI0.out) (HO_3.out) (by decide)) hk (fun _ h => h.2)) (fun _ h => h.1)); have n1_ := c_.mk (ar_.trans (by repeat (first | (with_reducible first | exact HK.out | apply ar_.set_ | apply ck_ | apply cu_ | apply cl_) | exact HK.out)) hk (.inl rfl)); have n2_ := c_.mk (hb); have n3_ := c_.mk (hi); clear HO_3; clear HK; clear HB; clear HI0; have HO_3 := n0_; have HK := n1_; have HB := n2_; have HI0 := n3_; clear n0_ n1_ n2_ n3_; (try clear hb); (try clear hb2); (try clear hk); (try clear hi)) | ((with_reducible refine bw_ (b := .append) (xs := #[.tmp 20, .tmp 23]) rfl ?_); at_builtin; refine Kd.R_append Kd.string w.heap.size rfl (.tmp 20) (.tmp 23) 32 9 (.string ⟨#[]⟩) 16 rfl Tryz.underlying32 info9 rfl (by decide) (by omega) u3 x3_1 t151 [.string t151] (fun _ => True) (fun _ => False) rfl rfl ?aP (fun _ hk => hk.elim) ?aF ?aO (Below.refl _ _) ?aS ?aL ?_; (case aP => exact rfl); (case aF => exact (fun _ _ => trivial)); (case aO => exact (HO_3.out)); (case aS => exact (keep_size (w := w) (g := g) (row := none) (by repeat (first | (with_reducible first | exact HK.out | apply ar_.set_ | apply ck_ | apply cu_ | apply cl_) | exact HK.out)))); (case aL => have := LMc8.out; omega); intro v155 w11 ho hb hg hat; rw [← Ny154.out] at ho; have n0_ := c_.mk (p_.grown (HI0.out) hg (p_.own_ne HI0.out HO_3.out (by decide))); have n1_ := c_.mk (below_weaken (HB.out) HL.out hb); have n2_ := c_.mk (ar_.trans (by repeat (first | (with_reducible first | exact HK.out | apply ar_.set_ | apply ck_ | apply cu_ | apply cl_) | exact HK.out)) (ar_.of_grown hg g) (Kd.R_base2 HO_3.out)); have n3_ := c_.mk (ho); clear HI0; clear HB; clear HK; clear HO_3; have HI0 := n0_; have HB := n1_; have HK := n2_; have HO156 := n3_; clear n0_ n1_ n2_ n3_; clear ho hb hg hat))
      go_roundg k1
      case measure => have := HK1.out; omega
      case rel => exact ⟨(y154), (wrap64 (x5_1 + 1)), (t152), (t153), (by first | rfl | (simp; done) | (simp [*]; done)), H', ⟨by have := HK1.out; omega⟩, ⟨HO156.out⟩, ⟨HI0.out⟩, ⟨by repeat (first | (with_reducible first | exact HK.out | apply ar_.set_ | apply ck_ | apply cu_ | apply cl_) | exact HK.out)⟩, ⟨HB.out⟩⟩
     ·rw [if_neg c8] at H
      exact absurd H (by simp)
   ·rw [if_neg c4] at H
    have c4b0 : decide (x5_1 < t148) = false := decide_eq_false c4
    clear c4
    simp only [Option.some.injEq, Prod.mk.injEq] at H
    obtain ⟨rfl, rfl, rfl⟩ := H
    go_wp2
    go_ret
    exact ⟨_, by first | rfl | (simp [i_, g_] <;> rfl) | (simp [*, i_, g_] <;> rfl), HO_3.out, HI0.out, HB.out, by repeat (first | (with_reducible first | exact HK.out | apply ar_.set_ | apply ck_ | apply cu_ | apply cl_) | exact HK.out)⟩
mutual
def ab_.l0 : Nat → ByteArray → Int → Int → List Int → Int → Bool → Int → Int → List ByteArray → List ByteArray → List (S107) → Option (Int × Int × List ByteArray × List ByteArray × (List (S107)) × Bool)
 | 0, _, _, _, _, _, _, _, _, _, _, _ => none
 | k + 1, x0, x6, x7, x159000, x159001, x159002, x160000, x160001, x160002, x160003, x160004 => if x7 < x6 then (ab_.j1 k x0 x6 x7 (!x159002) x159000 x159001 x159002 x160000 x160001 x160002 x160003 x160004) else (ab_.j1 k x0 x6 x7 false x159000 x159001 x159002 x160000 x160001 x160002 x160003 x160004)
def ab_.j1 : Nat → ByteArray → Int → Int → Bool → List Int → Int → Bool → Int → Int → List ByteArray → List ByteArray → List (S107) → Option (Int × Int × List ByteArray × List ByteArray × (List (S107)) × Bool)
 | 0, _, _, _, _, _, _, _, _, _, _, _, _ => none
 | k + 1, x0, x6, x7, x36, x159000, x159001, x159002, x160000, x160001, x160002, x160003, x160004 => if x36 = true then ((bf_.f x159000 x159001 x159002).bind fun bt180 => ((ae_.f x159000 bt180.2.1 bt180.2.2 2147483647).bind fun bt183 => ((al_.f k x159000 bt183.2.1 bt183.2.2).bind fun bt186 => (if x160004.length < 2932031007402 then (ab_.l0 k x0 x6 (wrap64 (x7 + 1)) x159000 bt186.2.1 bt186.2.2 x160000 x160001 x160002 x160003 (x160004 ++ [(⟨bt180.1, bt183.1, bt186.1⟩ : S107)])) else (none))))) else (if x159002 = true then (some (0, 0, ([] : List ByteArray), ([] : List ByteArray), ([] : List (S107)), false)) else (if x159001 < (x0.size : Int) then (some (0, 0, ([] : List ByteArray), ([] : List ByteArray), ([] : List (S107)), false)) else (if (x0.size : Int) > 4096 then (some (0, 0, ([] : List ByteArray), ([] : List ByteArray), ([] : List (S107)), false)) else (some (x160000, x160001, x160002, x160003, x160004, true)))))
end
def ab_.f (k : Nat) (a0 : ByteArray) (l1 : List Int) : Option (Int × Int × List ByteArray × List ByteArray × (List (S107)) × Bool) := (ae_.f l1 0 false 2147483647).bind fun bt160 => ((ae_.f l1 bt160.2.1 bt160.2.2 2147483647).bind fun bt163 => ((al_.f k l1 bt163.2.1 bt163.2.2).bind fun bt166 => ((al_.f k l1 bt166.2.1 bt166.2.2).bind fun bt171 => ((ae_.f l1 bt171.2.1 bt171.2.2 65536).bind fun bt176 => (ab_.l0 k a0 bt176.1 0 l1 bt176.2.1 bt176.2.2 bt160.1 bt163.1 bt166.1 bt171.1 ([] : List (S107)))))))
set_option maxHeartbeats 8000000 in
set_option maxRecDepth 100000 in
theorem ab_.callsX (k : Nat) (a0 : ByteArray) (r1 : Int) (r2 : Int) (r3 : List ByteArray) (r4 : List ByteArray) (r5 : List (S107)) (r6 : Bool) (w0_ : World) (hsz : a0.size ≤ 100000000) (h : ab_.f k a0 (bk_ a0) = some (r1, r2, r3, r4, r5, r6)) :
  Calls Tryz.prog 27 #[.string a0] w0_ fun e w' => ∃ w, Below w0_.heap.size w0_ w ∧ ∃ v2_ v3_ v4_ : Value, e = .returned (.tuple #[.agg #[.int .i64 r1, .int .i64 r2, v2_, v3_, v4_], .bool r6]) ∧ Kd.R Kd.string 9 w' w.heap.size (fun k_ => some k_ ≠ (v3_ : Value).ownBlock) v2_ r3 ∧ Kd.R Kd.string 9 w' w.heap.size (fun k_ => some k_ ≠ (v2_ : Value).ownBlock) v3_ r4 ∧ Kd.S k107 107 w' w.heap.size (fun k_ => some k_ ≠ (v2_ : Value).ownBlock ∧ some k_ ≠ (v3_ : Value).ownBlock) v4_ r5 ∧ Below w0_.heap.size w0_ w' := by
 have hu57 := Tryz.underlying57
 have hu111 := Tryz.underlying111
 have hu107 := Tryz.underlying107
 obtain ⟨l1, hl1⟩ : ∃ l1, l1 = bk_ a0 := ⟨_, rfl⟩
 rw [← hl1] at h
 have HL1 := c_.mk hl1
 have HSZ := c_.mk hsz
 clear hl1 hsz
 have HBZ := c_.mk (Below.refl w0_.heap.size w0_)
 have H : ((ae_.f l1 0 false 2147483647).bind fun bt160 => ((ae_.f l1 bt160.2.1 bt160.2.2 2147483647).bind fun bt163 => ((al_.f k l1 bt163.2.1 bt163.2.2).bind fun bt166 => ((al_.f k l1 bt166.2.1 bt166.2.2).bind fun bt171 => ((ae_.f l1 bt171.2.1 bt171.2.2 65536).bind fun bt176 => (ab_.l0 k a0 bt176.1 0 l1 bt176.2.1 bt176.2.2 bt160.1 bt163.1 bt166.1 bt171.1 ([] : List (S107)))))))) = some (r1, r2, r3, r4, r5, r6) := h
 clear h
 replace H := Option.bind_eq_some_iff.mp H
 obtain ⟨⟨t160, t161, t162⟩, A30, H⟩ := H
 replace H : ((ae_.f l1 t161 t162 2147483647).bind fun bt163 => ((al_.f k l1 bt163.2.1 bt163.2.2).bind fun bt166 => ((al_.f k l1 bt166.2.1 bt166.2.2).bind fun bt171 => ((ae_.f l1 bt171.2.1 bt171.2.2 65536).bind fun bt176 => (ab_.l0 k a0 bt176.1 0 l1 bt176.2.1 bt176.2.2 t160 bt163.1 bt166.1 bt171.1 ([] : List (S107))))))) = some (r1, r2, r3, r4, r5, r6) := H
 have A3 := c_.mk A30
 clear A30
 replace H := Option.bind_eq_some_iff.mp H
 obtain ⟨⟨t163, t164, t165⟩, A40, H⟩ := H
 replace H : ((al_.f k l1 t164 t165).bind fun bt166 => ((al_.f k l1 bt166.2.1 bt166.2.2).bind fun bt171 => ((ae_.f l1 bt171.2.1 bt171.2.2 65536).bind fun bt176 => (ab_.l0 k a0 bt176.1 0 l1 bt176.2.1 bt176.2.2 t160 t163 bt166.1 bt171.1 ([] : List (S107)))))) = some (r1, r2, r3, r4, r5, r6) := H
 have A4 := c_.mk A40
 clear A40
 replace H := Option.bind_eq_some_iff.mp H
 obtain ⟨⟨t166, t169, t170⟩, A50, H⟩ := H
 replace H : ((al_.f k l1 t169 t170).bind fun bt171 => ((ae_.f l1 bt171.2.1 bt171.2.2 65536).bind fun bt176 => (ab_.l0 k a0 bt176.1 0 l1 bt176.2.1 bt176.2.2 t160 t163 t166 bt171.1 ([] : List (S107))))) = some (r1, r2, r3, r4, r5, r6) := H
 have A5 := c_.mk A50
 clear A50
 replace H := Option.bind_eq_some_iff.mp H
 obtain ⟨⟨t171, t174, t175⟩, A60, H⟩ := H
 replace H : ((ae_.f l1 t174 t175 65536).bind fun bt176 => (ab_.l0 k a0 bt176.1 0 l1 bt176.2.1 bt176.2.2 t160 t163 t166 t171 ([] : List (S107)))) = some (r1, r2, r3, r4, r5, r6) := H
 have A6 := c_.mk A60
 clear A60
 replace H := Option.bind_eq_some_iff.mp H
 obtain ⟨⟨t176, t177, t178⟩, A70, H⟩ := H
 replace H : (ab_.l0 k a0 t176 0 l1 t177 t178 t160 t163 t166 t171 ([] : List (S107))) = some (r1, r2, r3, r4, r5, r6) := H
 have A7 := c_.mk A70
 clear A70
 have H' := c_.mk H
 clear H
 go_enter Tryz.func27, Tryz.ntmps27
 go_wp2_with (first | ((with_reducible refine be_ (N := 2) rfl ?_); (try (refine cm_ (by rfl) ?_; dsimp only)); refine bd_ ?hg (N := 2) ?hd (cs := #[.int .i64 0, .int .i64 0, .slice none 0 0, .slice none 0 0, .slice none 0 0]) (t := 57) ?hr ?_; (case hd => rfl); (case hg => rfl); (case hr => first | (go_simp; done) | (go_simp; rfl)); intro gb157 hg w8 hbox hb; have n0_ := c_.mk (ac_ (by repeat (first | (with_reducible first | exact HBZ.out | apply l_ | apply d_ | apply m_) | exact HBZ.out)) hb); have n1_ := c_.mk (hbox); have n2_ := c_.mk ((by rw [hg]; exact (v_ (by repeat (first | (with_reducible first | exact HBZ.out | apply l_ | apply d_ | apply m_) | exact HBZ.out))) : w0_.heap.size ≤ gb157)); have n3_ := c_.mk ((by rw [hg]; exact (v_ (by repeat (first | (with_reducible first | exact HBZ.out | apply l_ | apply d_ | apply m_) | exact HBZ.out))) : w0_.heap.size ≤ gb157)); clear HBZ; have HBZ := n0_; have BK157 := n1_; have GW157 := n2_; have GE157 := n3_; clear n0_ n1_ n2_ n3_; clear hb hbox hg) | ((with_reducible refine be_ (N := 10) rfl ?_); (try (refine cm_ (by rfl) ?_; dsimp only)); refine conv_event rfl HL1.out HSZ.out rfl rfl Tryz.underlying9 Tryz.underlying70 Tryz.underlying5 ?_; intro A1 c1 w hR hc hb; have n0_ := c_.mk (s_ (g := gb157) (o := .cells #[.int .i64 0, .int .i64 0, .slice none 0 0, .slice none 0 0, .slice none 0 0] 57 (0, 0)) BK157.out hb); have n1_ : c_ (Below w0_.heap.size w0_ w) := c_.mk (ac_ HBZ.out hb); clear BK157; clear HBZ; have BK157 := n0_; have HBC := n1_; have HR1 := c_.mk hR; have HC1 := c_.mk hc; have HB := c_.mk (Below.refl w.heap.size w); clear n0_ n1_; clear hb hR hc) | ((with_reducible refine be_ (N := 12) rfl ?_); (try (refine cm_ (by rfl) ?_; dsimp only)); refine bd_ ?hg (N := 12) ?hd (cs := #[.slice A1 l1.length c1, .int .i64 0, .bool false]) (t := 111) ?hr ?_; (case hd => rfl); (case hg => rfl); (case hr => first | (go_simp; done) | (go_simp; rfl)); intro gb158 hg w9 hbox hb; have n0_ := c_.mk (s_ (g := gb157) (o := .cells #[.int .i64 0, .int .i64 0, .slice none 0 0, .slice none 0 0, .slice none 0 0] 57 (0, 0)) (by (with_reducible repeat (first | refine u_ ?_ _ | refine o_ ?_ | refine x_ ?_ _)); exact BK157.out) hb); have n1_ := c_.mk (ac_ (by repeat (first | (with_reducible first | exact HB.out | apply l_ | apply d_ | apply m_ | refine f_ ?_ GE157.out) | exact HB.out)) hb); have n2_ := c_.mk ((⟨_, _, hbox, (by rw [hg]; exact (v_ (by repeat (first | (with_reducible first | exact HB.out | apply l_ | apply d_ | apply m_ | refine f_ ?_ GE157.out) | exact HB.out)))), ⟨HR1.out, HC1.out⟩⟩ : p_ w w9 gb158 l1 0 false)); have n3_ := c_.mk ((by rw [hg]; exact (v_ (by repeat (first | (with_reducible first | exact HB.out | apply l_ | apply d_ | apply m_ | refine f_ ?_ GE157.out) | exact HB.out))) : w.heap.size ≤ gb158)); have n4_ := c_.mk ((by rw [hg]; exact (v_ (by repeat (first | (with_reducible first | exact HB.out | apply l_ | apply d_ | apply m_ | refine f_ ?_ GE157.out) | exact HB.out))) : w.heap.size ≤ gb158)); have n5_ := c_.mk ((by rw [hg]; exact Nat.ne_of_lt (bj_ (g := gb157) (o := .cells #[.int .i64 0, .int .i64 0, .slice none 0 0, .slice none 0 0, .slice none 0 0] 57 (0, 0)) (by (with_reducible repeat (first | refine u_ ?_ _ | refine o_ ?_ | refine x_ ?_ _)); exact BK157.out)) : gb157 ≠ gb158)); have n6_ := c_.mk ((by rw [hg]; exact Nat.ne_of_gt (bj_ (g := gb157) (o := .cells #[.int .i64 0, .int .i64 0, .slice none 0 0, .slice none 0 0, .slice none 0 0] 57 (0, 0)) (by (with_reducible repeat (first | refine u_ ?_ _ | refine o_ ?_ | refine x_ ?_ _)); exact BK157.out)) : gb158 ≠ gb157)); clear BK157; clear HB; have BK157 := n0_; have HB := n1_; have HI158 := n2_; have GW158 := n3_; have GE158 := n4_; have NB157_158 := n5_; have NB158_157 := n6_; clear n0_ n1_ n2_ n3_ n4_ n5_ n6_; clear hb hbox hg) | ((with_reducible refine be_ (N := 5) rfl ?_); (try (refine cm_ (by rfl) ?_; dsimp only)); refine bd_ ?hg (N := 5) ?hd (cs := #[.int .i64 0, .int .i64 0, .slice none 0 0, .slice none 0 0, .slice none 0 0]) (t := 57) ?hr ?_; (case hd => rfl); (case hg => rfl); (case hr => first | (go_simp; done) | (go_simp; rfl)); intro gb159 hg w10 hbox hb; have n0_ := c_.mk (s_ (g := gb157) (o := .cells #[.int .i64 0, .int .i64 0, .slice none 0 0, .slice none 0 0, .slice none 0 0] 57 (0, 0)) (by (with_reducible repeat (first | refine u_ ?_ _ | refine o_ ?_ | refine x_ ?_ _)); exact BK157.out) hb); have n1_ := c_.mk (p_.below (by repeat (first | (with_reducible first | exact HI158.out | apply p_.alloc | apply p_.drewN | apply p_.drew | apply p_.set_1 | apply p_.set_2 | refine p_.far ?_ NB158_157.out _) | exact HI158.out)) hb); have n2_ := c_.mk (ac_ (by repeat (first | (with_reducible first | exact HB.out | apply l_ | apply d_ | apply m_ | refine f_ ?_ (p_.ge HI158.out) | refine f_ ?_ GE157.out) | exact HB.out)) hb); have n3_ := c_.mk (hbox); have n4_ := c_.mk ((by rw [hg]; exact (v_ (by repeat (first | (with_reducible first | exact HB.out | apply l_ | apply d_ | apply m_ | refine f_ ?_ (p_.ge HI158.out) | refine f_ ?_ GE157.out) | exact HB.out))) : w.heap.size ≤ gb159)); have n5_ := c_.mk ((by rw [hg]; exact (v_ (by repeat (first | (with_reducible first | exact HB.out | apply l_ | apply d_ | apply m_ | refine f_ ?_ (p_.ge HI158.out) | refine f_ ?_ GE157.out) | exact HB.out))) : w.heap.size ≤ gb159)); have n6_ := c_.mk ((by rw [hg]; exact Nat.ne_of_lt (bj_ (g := gb157) (o := .cells #[.int .i64 0, .int .i64 0, .slice none 0 0, .slice none 0 0, .slice none 0 0] 57 (0, 0)) (by (with_reducible repeat (first | refine u_ ?_ _ | refine o_ ?_ | refine x_ ?_ _)); exact BK157.out)) : gb157 ≠ gb159)); have n7_ := c_.mk ((by rw [hg]; exact Nat.ne_of_gt (bj_ (g := gb157) (o := .cells #[.int .i64 0, .int .i64 0, .slice none 0 0, .slice none 0 0, .slice none 0 0] 57 (0, 0)) (by (with_reducible repeat (first | refine u_ ?_ _ | refine o_ ?_ | refine x_ ?_ _)); exact BK157.out)) : gb159 ≠ gb157)); have n8_ := c_.mk ((by rw [hg]; exact Nat.ne_of_lt (p_.lt (show p_ w _ gb158 l1 0 false from by repeat (first | (with_reducible first | exact HI158.out | apply p_.alloc | apply p_.drewN | apply p_.drew | apply p_.set_1 | apply p_.set_2 | refine p_.far ?_ NB158_157.out _) | exact HI158.out))) : gb158 ≠ gb159)); have n9_ := c_.mk ((by rw [hg]; exact Nat.ne_of_gt (p_.lt (show p_ w _ gb158 l1 0 false from by repeat (first | (with_reducible first | exact HI158.out | apply p_.alloc | apply p_.drewN | apply p_.drew | apply p_.set_1 | apply p_.set_2 | refine p_.far ?_ NB158_157.out _) | exact HI158.out))) : gb159 ≠ gb158)); clear BK157; clear HI158; clear HB; have BK157 := n0_; have HI158 := n1_; have HB := n2_; have BK159 := n3_; have GW159 := n4_; have GE159 := n5_; have NB157_159 := n6_; have NB159_157 := n7_; have NB158_159 := n8_; have NB159_158 := n9_; clear n0_ n1_ n2_ n3_ n4_ n5_ n6_ n7_ n8_ n9_; clear hb hbox hg) | ((with_reducible refine ah_ (f := 43) rfl ?_); refine bm_ (some 14) rfl rfl Tryz.func43 (by kernel_rfl) rfl #[.pointer (some ⟨gb158, 0, none⟩), .int .u64 2147483647] rfl (by (try simp only [List.map_toArray, List.map_cons, List.map_nil]); first | done | rfl | (simp only [List.length_drop, List.length_take]; rfl)) ?_; (with_reducible refine (ae_.calls gb158 l1 0 false 2147483647 t160 t161 t162 w _ ?side1 ?side2 A3.out).mono ?_); (case side1 => repeat (first | (with_reducible first | exact HI158.out | apply p_.alloc | apply p_.drewN | apply p_.drew | apply p_.set_1 | apply p_.set_2 | refine p_.far ?_ NB158_157.out _ | refine p_.far ?_ NB158_159.out _) | exact HI158.out)); (case side2 => repeat (first | (with_reducible first | exact HB.out | apply l_ | apply d_ | apply m_ | refine f_ ?_ (p_.ge HI158.out) | refine f_ ?_ GE157.out | refine f_ ?_ GE159.out) | exact HB.out)); rintro e w11 ⟨rfl, hi, hb, hk⟩; refine ⟨_, rfl, ?_⟩; have n0_ := c_.mk (ar_.blk hk (g' := gb157) (o := .cells #[.int .i64 0, .int .i64 0, .slice none 0 0, .slice none 0 0, .slice none 0 0] 57 (0, 0)) (by (with_reducible repeat (first | refine u_ ?_ _ | refine o_ ?_ | refine x_ ?_ _)); exact BK157.out) NB157_158.out (by simp)); have n1_ := c_.mk (ar_.blk hk (g' := gb159) (o := .cells #[.int .i64 0, .int .i64 0, .slice none 0 0, .slice none 0 0, .slice none 0 0] 57 (0, 0)) (by (with_reducible repeat (first | refine u_ ?_ _ | refine o_ ?_ | refine x_ ?_ _)); exact BK159.out) NB159_158.out (by simp)); have n2_ := c_.mk (hb); have n3_ := c_.mk (hi); clear BK157; clear BK159; clear HB; clear HI158; have BK157 := n0_; have BK159 := n1_; have HB := n2_; have HI158 := n3_; clear n0_ n1_ n2_ n3_; (try clear hb); (try clear hb2); (try clear hk); (try clear hi); have hnb12 := NB159_157.out; have hnc12 := NB157_159.out; have hnb13 := NB159_158.out; have hnc13 := NB158_159.out; have hcz14_0 : w11.cell? ⟨gb159, 0, none⟩ = some (.int .i64 0) := (b_ BK159.out 0).trans rfl; have hcz14_1 : w11.cell? ⟨gb159, 1, none⟩ = some (.int .i64 0) := (b_ BK159.out 1).trans rfl; have hcz14_2 : w11.cell? ⟨gb159, 2, none⟩ = some (.slice none 0 0) := (b_ BK159.out 2).trans rfl; have hcz14_3 : w11.cell? ⟨gb159, 3, none⟩ = some (.slice none 0 0) := (b_ BK159.out 3).trans rfl; have hcz14_4 : w11.cell? ⟨gb159, 4, none⟩ = some (.slice none 0 0) := (b_ BK159.out 4).trans rfl; have hfz14_0 := a_ BK159.out 0; have hfz14_1 := a_ BK159.out 1; have hfz14_2 := a_ BK159.out 2; have hfz14_3 := a_ BK159.out 3; have hfz14_4 := a_ BK159.out 4) | ((with_reducible refine ah_ (f := 43) rfl ?_); refine bm_ (some 17) rfl rfl Tryz.func43 (by kernel_rfl) rfl #[.pointer (some ⟨gb158, 0, none⟩), .int .u64 2147483647] rfl (by (try simp only [List.map_toArray, List.map_cons, List.map_nil]); first | done | rfl | (simp only [List.length_drop, List.length_take]; rfl)) ?_; (with_reducible refine (ae_.calls gb158 l1 t161 t162 2147483647 t163 t164 t165 w _ ?side1 ?side2 A4.out).mono ?_); (case side1 => repeat (first | (with_reducible first | exact HI158.out | apply p_.alloc | apply p_.drewN | apply p_.drew | apply p_.set_1 | apply p_.set_2 | refine p_.far ?_ NB158_157.out _ | refine p_.far ?_ NB158_159.out _) | exact HI158.out)); (case side2 => repeat (first | (with_reducible first | exact HB.out | apply l_ | apply d_ | apply m_ | refine f_ ?_ (p_.ge HI158.out) | refine f_ ?_ GE157.out | refine f_ ?_ GE159.out) | exact HB.out)); rintro e w15 ⟨rfl, hi, hb, hk⟩; refine ⟨_, rfl, ?_⟩; have n0_ := c_.mk (ar_.blk hk (g' := gb157) (o := .cells #[.int .i64 0, .int .i64 0, .slice none 0 0, .slice none 0 0, .slice none 0 0] 57 (0, 0)) (by (with_reducible repeat (first | refine u_ ?_ _ | refine o_ ?_ | refine x_ ?_ _)); refine bl_ ?_ NB157_159.out _; (with_reducible repeat (first | refine u_ ?_ _ | refine o_ ?_ | refine x_ ?_ _)); exact BK157.out) NB157_158.out (by simp)); have n1_ := c_.mk (ar_.blk hk (g' := gb159) (o := .cells #[.int .i64 t160, .int .i64 0, .slice none 0 0, .slice none 0 0, .slice none 0 0] 57 (0, 0)) (by (with_reducible repeat (first | refine u_ ?_ _ | refine o_ ?_ | refine x_ ?_ _)); refine bh_ (cs := #[.int .i64 0, .int .i64 0, .slice none 0 0, .slice none 0 0, .slice none 0 0]) ?_ 0 _ rfl; (with_reducible repeat (first | refine u_ ?_ _ | refine o_ ?_ | refine x_ ?_ _)); exact BK159.out) NB159_158.out (by simp)); have n2_ := c_.mk (hb); have n3_ := c_.mk (hi); clear BK157; clear BK159; clear HB; clear HI158; have BK157 := n0_; have BK159 := n1_; have HB := n2_; have HI158 := n3_; clear n0_ n1_ n2_ n3_; (try clear hb); (try clear hb2); (try clear hk); (try clear hi); have hcz16_0 : w15.cell? ⟨gb159, 0, none⟩ = some (.int .i64 t160) := (b_ BK159.out 0).trans rfl; have hcz16_1 : w15.cell? ⟨gb159, 1, none⟩ = some (.int .i64 0) := (b_ BK159.out 1).trans rfl; have hcz16_2 : w15.cell? ⟨gb159, 2, none⟩ = some (.slice none 0 0) := (b_ BK159.out 2).trans rfl; have hcz16_3 : w15.cell? ⟨gb159, 3, none⟩ = some (.slice none 0 0) := (b_ BK159.out 3).trans rfl; have hcz16_4 : w15.cell? ⟨gb159, 4, none⟩ = some (.slice none 0 0) := (b_ BK159.out 4).trans rfl; have hfz16_0 := a_ BK159.out 0; have hfz16_1 := a_ BK159.out 1; have hfz16_2 := a_ BK159.out 2; have hfz16_3 := a_ BK159.out 3; have hfz16_4 := a_ BK159.out 4) | ((with_reducible refine ah_ (f := 44) rfl ?_); refine bm_ (some 20) rfl rfl Tryz.func44 (by kernel_rfl) rfl #[.pointer (some ⟨gb158, 0, none⟩)] rfl (by (try simp only [List.map_toArray, List.map_cons, List.map_nil]); first | done | rfl | (simp only [List.length_drop, List.length_take]; rfl)) ?_; (with_reducible refine (al_.calls k gb158 l1 t164 t165 t166 t169 t170 w _ ?side1 ?side2 A5.out).mono ?_); (case side1 => repeat (first | (with_reducible first | exact HI158.out | apply p_.alloc | apply p_.drewN | apply p_.drew | apply p_.set_1 | apply p_.set_2 | refine p_.far ?_ NB158_157.out _ | refine p_.far ?_ NB158_159.out _) | exact HI158.out)); (case side2 => repeat (first | (with_reducible first | exact HB.out | apply l_ | apply d_ | apply m_ | refine f_ ?_ (p_.ge HI158.out) | refine f_ ?_ GE157.out | refine f_ ?_ GE159.out) | exact HB.out)); rintro e w17 ⟨v167, rfl, ho0, hi, hb, hk⟩; refine ⟨_, rfl, ?_⟩; have n0_ := c_.mk (ar_.blk hk (g' := gb157) (o := .cells #[.int .i64 0, .int .i64 0, .slice none 0 0, .slice none 0 0, .slice none 0 0] 57 (0, 0)) (by (with_reducible repeat (first | refine u_ ?_ _ | refine o_ ?_ | refine x_ ?_ _)); refine bl_ ?_ NB157_159.out _; (with_reducible repeat (first | refine u_ ?_ _ | refine o_ ?_ | refine x_ ?_ _)); exact BK157.out) NB157_158.out (by simp)); have n1_ := c_.mk (ar_.blk hk (g' := gb159) (o := .cells #[.int .i64 t160, .int .i64 t163, .slice none 0 0, .slice none 0 0, .slice none 0 0] 57 (0, 0)) (by (with_reducible repeat (first | refine u_ ?_ _ | refine o_ ?_ | refine x_ ?_ _)); refine bh_ (cs := #[.int .i64 t160, .int .i64 0, .slice none 0 0, .slice none 0 0, .slice none 0 0]) ?_ 1 _ rfl; (with_reducible repeat (first | refine u_ ?_ _ | refine o_ ?_ | refine x_ ?_ _)); exact BK159.out) NB159_158.out (by simp)); have n2_ := c_.mk (Kd.R_lower ho0 (v_ (by repeat (first | (with_reducible first | exact HB.out | apply l_ | apply d_ | apply m_ | refine f_ ?_ (p_.ge HI158.out) | refine f_ ?_ GE157.out | refine f_ ?_ GE159.out) | exact HB.out)))); have n3_ := c_.mk (hb); have n4_ := c_.mk (hi); clear BK157; clear BK159; clear HB; clear HI158; have BK157 := n0_; have BK159 := n1_; have HO168 := n2_; have HB := n3_; have HI158 := n4_; clear n0_ n1_ n2_ n3_ n4_; (try clear hb); (try clear hb2); (try clear hk); (try clear hi); (try clear ho0); obtain ⟨Ao18, co18, eo18⟩ := Kd.R_slice HO168.out; subst eo18; have hcz19_0 : w17.cell? ⟨gb159, 0, none⟩ = some (.int .i64 t160) := (b_ BK159.out 0).trans rfl; have hcz19_1 : w17.cell? ⟨gb159, 1, none⟩ = some (.int .i64 t163) := (b_ BK159.out 1).trans rfl; have hcz19_2 : w17.cell? ⟨gb159, 2, none⟩ = some (.slice none 0 0) := (b_ BK159.out 2).trans rfl; have hcz19_3 : w17.cell? ⟨gb159, 3, none⟩ = some (.slice none 0 0) := (b_ BK159.out 3).trans rfl; have hcz19_4 : w17.cell? ⟨gb159, 4, none⟩ = some (.slice none 0 0) := (b_ BK159.out 4).trans rfl; have hfz19_0 := a_ BK159.out 0; have hfz19_1 := a_ BK159.out 1; have hfz19_2 := a_ BK159.out 2; have hfz19_3 := a_ BK159.out 3; have hfz19_4 := a_ BK159.out 4) | ((with_reducible refine ah_ (f := 44) rfl ?_); refine bm_ (some 23) rfl rfl Tryz.func44 (by kernel_rfl) rfl #[.pointer (some ⟨gb158, 0, none⟩)] rfl (by (try simp only [List.map_toArray, List.map_cons, List.map_nil]); first | done | rfl | (simp only [List.length_drop, List.length_take]; rfl)) ?_; (with_reducible refine (al_.calls k gb158 l1 t169 t170 t171 t174 t175 w _ ?side1 ?side2 A6.out).mono ?_); (case side1 => repeat (first | (with_reducible first | exact HI158.out | apply p_.alloc | apply p_.drewN | apply p_.drew | apply p_.set_1 | apply p_.set_2 | refine p_.far ?_ NB158_157.out _ | refine p_.far ?_ NB158_159.out _) | exact HI158.out)); (case side2 => repeat (first | (with_reducible first | exact HB.out | apply l_ | apply d_ | apply m_ | refine f_ ?_ (p_.ge HI158.out) | refine f_ ?_ GE157.out | refine f_ ?_ GE159.out) | exact HB.out)); rintro e w20 ⟨v172, rfl, ho0, hi, hb, hk⟩; refine ⟨_, rfl, ?_⟩; have n0_ := c_.mk (ar_.blk hk (g' := gb157) (o := .cells #[.int .i64 0, .int .i64 0, .slice none 0 0, .slice none 0 0, .slice none 0 0] 57 (0, 0)) (by (with_reducible repeat (first | refine u_ ?_ _ | refine o_ ?_ | refine x_ ?_ _)); refine bl_ ?_ NB157_159.out _; (with_reducible repeat (first | refine u_ ?_ _ | refine o_ ?_ | refine x_ ?_ _)); exact BK157.out) NB157_158.out (by simp)); have n1_ := c_.mk (ar_.blk hk (g' := gb159) (o := .cells #[.int .i64 t160, .int .i64 t163, .slice Ao18 t166.length co18, .slice none 0 0, .slice none 0 0] 57 (0, 0)) (by (with_reducible repeat (first | refine u_ ?_ _ | refine o_ ?_ | refine x_ ?_ _)); refine bh_ (cs := #[.int .i64 t160, .int .i64 t163, .slice none 0 0, .slice none 0 0, .slice none 0 0]) ?_ 2 _ rfl; (with_reducible repeat (first | refine u_ ?_ _ | refine o_ ?_ | refine x_ ?_ _)); exact BK159.out) NB159_158.out (by simp)); have n2_ := c_.mk (Kd.R_mono (Kd.R_told (Kd.R_oldK (p_.apart (show p_ w _ gb158 l1 t169 t170 from by repeat (first | (with_reducible first | exact HI158.out | apply p_.alloc | apply p_.drewN | apply p_.drew | apply p_.set_1 | apply p_.set_2 | refine p_.far ?_ NB158_157.out _ | refine p_.far ?_ NB158_159.out _) | exact HI158.out)) (by (with_reducible repeat (first | apply Kd.R_alloc | apply Kd.R_drewN | apply Kd.R_drew)); exact (Kd.R_mono (Kd.R_far (p := ⟨gb159, 2, none⟩) (Kd.R_types HO168.out BK159.out (by decide)) (fun _ hk => hk.2) (.slice Ao18 t166.length co18)) (fun _ h_ => h_.1))) (by decide)) hk) (Kd.R_base ho0)) (fun _ h_ => h_.1)); have n3_ := c_.mk (Kd.R_lower (Kd.R_new' ho0 (Kd.R_lt (by (with_reducible repeat (first | apply Kd.R_alloc | apply Kd.R_drewN | apply Kd.R_drew)); exact (Kd.R_mono (Kd.R_far (p := ⟨gb159, 2, none⟩) (Kd.R_types HO168.out BK159.out (by decide)) (fun _ hk => hk.2) (.slice Ao18 t166.length co18)) (fun _ h_ => h_.1))))) (v_ (by repeat (first | (with_reducible first | exact HB.out | apply l_ | apply d_ | apply m_ | refine f_ ?_ (p_.ge HI158.out) | refine f_ ?_ GE157.out | refine f_ ?_ GE159.out) | exact HB.out)))); have n4_ := c_.mk (hb); have n5_ := c_.mk (hi); clear BK157; clear BK159; clear HO168; clear HB; clear HI158; have BK157 := n0_; have BK159 := n1_; have HO168 := n2_; have HO173 := n3_; have HB := n4_; have HI158 := n5_; clear n0_ n1_ n2_ n3_ n4_ n5_; (try clear hb); (try clear hb2); (try clear hk); (try clear hi); (try clear ho0); obtain ⟨Ao21, co21, eo21⟩ := Kd.R_slice HO173.out; subst eo21; have hcz22_0 : w20.cell? ⟨gb159, 0, none⟩ = some (.int .i64 t160) := (b_ BK159.out 0).trans rfl; have hcz22_1 : w20.cell? ⟨gb159, 1, none⟩ = some (.int .i64 t163) := (b_ BK159.out 1).trans rfl; have hcz22_2 : w20.cell? ⟨gb159, 2, none⟩ = some (.slice Ao18 t166.length co18) := (b_ BK159.out 2).trans rfl; have hcz22_3 : w20.cell? ⟨gb159, 3, none⟩ = some (.slice none 0 0) := (b_ BK159.out 3).trans rfl; have hcz22_4 : w20.cell? ⟨gb159, 4, none⟩ = some (.slice none 0 0) := (b_ BK159.out 4).trans rfl; have hfz22_0 := a_ BK159.out 0; have hfz22_1 := a_ BK159.out 1; have hfz22_2 := a_ BK159.out 2; have hfz22_3 := a_ BK159.out 3; have hfz22_4 := a_ BK159.out 4) | ((with_reducible refine ah_ (f := 43) rfl ?_); refine bm_ (some 26) rfl rfl Tryz.func43 (by kernel_rfl) rfl #[.pointer (some ⟨gb158, 0, none⟩), .int .u64 65536] rfl (by (try simp only [List.map_toArray, List.map_cons, List.map_nil]); first | done | rfl | (simp only [List.length_drop, List.length_take]; rfl)) ?_; (with_reducible refine (ae_.calls gb158 l1 t174 t175 65536 t176 t177 t178 w _ ?side1 ?side2 A7.out).mono ?_); (case side1 => repeat (first | (with_reducible first | exact HI158.out | apply p_.alloc | apply p_.drewN | apply p_.drew | apply p_.set_1 | apply p_.set_2 | refine p_.far ?_ NB158_157.out _ | refine p_.far ?_ NB158_159.out _) | exact HI158.out)); (case side2 => repeat (first | (with_reducible first | exact HB.out | apply l_ | apply d_ | apply m_ | refine f_ ?_ (p_.ge HI158.out) | refine f_ ?_ GE157.out | refine f_ ?_ GE159.out) | exact HB.out)); rintro e w23 ⟨rfl, hi, hb, hk⟩; refine ⟨_, rfl, ?_⟩; have n0_ := c_.mk (ar_.blk hk (g' := gb157) (o := .cells #[.int .i64 0, .int .i64 0, .slice none 0 0, .slice none 0 0, .slice none 0 0] 57 (0, 0)) (by (with_reducible repeat (first | refine u_ ?_ _ | refine o_ ?_ | refine x_ ?_ _)); refine bl_ ?_ NB157_159.out _; (with_reducible repeat (first | refine u_ ?_ _ | refine o_ ?_ | refine x_ ?_ _)); exact BK157.out) NB157_158.out (by simp)); have n1_ := c_.mk (ar_.blk hk (g' := gb159) (o := .cells #[.int .i64 t160, .int .i64 t163, .slice Ao18 t166.length co18, .slice Ao21 t171.length co21, .slice none 0 0] 57 (0, 0)) (by (with_reducible repeat (first | refine u_ ?_ _ | refine o_ ?_ | refine x_ ?_ _)); refine bh_ (cs := #[.int .i64 t160, .int .i64 t163, .slice Ao18 t166.length co18, .slice none 0 0, .slice none 0 0]) ?_ 3 _ rfl; (with_reducible repeat (first | refine u_ ?_ _ | refine o_ ?_ | refine x_ ?_ _)); exact BK159.out) NB159_158.out (by simp)); have n2_ := c_.mk (Kd.R_mono (Kd.R_keep (p_.apart (show p_ w _ gb158 l1 t174 t175 from by repeat (first | (with_reducible first | exact HI158.out | apply p_.alloc | apply p_.drewN | apply p_.drew | apply p_.set_1 | apply p_.set_2 | refine p_.far ?_ NB158_157.out _ | refine p_.far ?_ NB158_159.out _) | exact HI158.out)) (by (with_reducible repeat (first | apply Kd.R_alloc | apply Kd.R_drewN | apply Kd.R_drew)); exact (Kd.R_mono (Kd.R_far (p := ⟨gb159, 3, none⟩) (Kd.R_types HO168.out BK159.out (by decide)) (fun _ hk => hk.2) (.slice Ao21 t171.length co21)) (fun _ h_ => h_.1))) (by decide)) hk (fun _ h => h.2)) (fun _ h => h.1)); have n3_ := c_.mk (Kd.R_mono (Kd.R_keep (p_.apart (show p_ w _ gb158 l1 t174 t175 from by repeat (first | (with_reducible first | exact HI158.out | apply p_.alloc | apply p_.drewN | apply p_.drew | apply p_.set_1 | apply p_.set_2 | refine p_.far ?_ NB158_157.out _ | refine p_.far ?_ NB158_159.out _) | exact HI158.out)) (by (with_reducible repeat (first | apply Kd.R_alloc | apply Kd.R_drewN | apply Kd.R_drew)); exact (Kd.R_mono (Kd.R_far (p := ⟨gb159, 3, none⟩) (Kd.R_types HO173.out BK159.out (by decide)) (fun _ hk => hk.2) (.slice Ao21 t171.length co21)) (fun _ h_ => h_.1))) (by decide)) hk (fun _ h => h.2)) (fun _ h => h.1)); have n4_ := c_.mk (hb); have n5_ := c_.mk (hi); clear BK157; clear BK159; clear HO168; clear HO173; clear HB; clear HI158; have BK157 := n0_; have BK159 := n1_; have HO168 := n2_; have HO173 := n3_; have HB := n4_; have HI158 := n5_; clear n0_ n1_ n2_ n3_ n4_ n5_; (try clear hb); (try clear hb2); (try clear hk); (try clear hi)))
 go_loopg [7] k (fun kq v7 w' => ∃ (x7_1 : Int) (x159001_1 : Int) (x159002_1 : Bool) (x160004_1 : List (S107)) (u160004 : Value), v7 = .int .i64 x7_1 ∧ c_ (ab_.l0 kq a0 t176 x7_1 l1 x159001_1 x159002_1 t160 t163 t166 t171 x160004_1 = some (r1, r2, r3, r4, r5, r6)) ∧ c_ (kq ≤ k) ∧ c_ (Kd.R Kd.string 9 w' w.heap.size (fun k_ => some k_ ≠ ((.slice Ao21 t171.length co21) : Value).ownBlock) (.slice Ao18 t166.length co18) t166) ∧ c_ (Kd.R Kd.string 9 w' w.heap.size (fun k_ => some k_ ≠ ((.slice Ao18 t166.length co18) : Value).ownBlock) (.slice Ao21 t171.length co21) t171) ∧ c_ (Kd.S k107 107 w' w.heap.size (fun k_ => some k_ ≠ ((.slice Ao18 t166.length co18) : Value).ownBlock ∧ some k_ ≠ ((.slice Ao21 t171.length co21) : Value).ownBlock) u160004 x160004_1) ∧ c_ (w'.heap[gb157]? = some (.cells #[.int .i64 0, .int .i64 0, (.slice none 0 0), (.slice none 0 0), (.slice none 0 0)] 57 (0, 0))) ∧ c_ (w'.heap[gb159]? = some (.cells #[.int .i64 t160, .int .i64 t163, (.slice Ao18 t166.length co18), (.slice Ao21 t171.length co21), u160004] 57 (0, 0))) ∧ c_ (p_ w w' gb158 l1 x159001_1 x159002_1) ∧ c_ (Below w.heap.size w w'))
 case atStart => exact ⟨(0), (t177), (t178), (([] : List (S107))), (.slice none 0 0), (by first | rfl | (simp; done) | (simp [*]; done)), H', ⟨Nat.le_refl _⟩, ⟨Kd.R_mono HO168.out (fun _ hk => hk.2)⟩, ⟨Kd.R_mono HO173.out (fun _ hk => hk.2)⟩, ⟨by first | exact Kd.S_nil _ _ _ _ _ | exact Kd.N_nil _ _ _ _ _ | exact Kd.V_nil _ _ _ _ _ | exact Kd.Q_nil _ _ _ _ _ | exact Kd.R_nil _ _ _ _ _⟩, ⟨BK157.out⟩, ⟨BK159.out⟩, ⟨HI158.out⟩, ⟨HB.out⟩⟩
 case round =>
  clear H'
  try clear c1
  try clear c2
  try clear p2
  try clear c4
  try clear c12
  try clear c13
  try clear hcz14_0
  try clear hcz14_1
  try clear hcz14_2
  try clear hcz14_3
  try clear hcz14_4
  try clear hcz16_0
  try clear hcz16_1
  try clear hcz16_2
  try clear hcz16_3
  try clear hcz16_4
  try clear hcz19_0
  try clear hcz19_1
  try clear hcz19_2
  try clear hcz19_3
  try clear hcz19_4
  try clear hcz22_0
  try clear hcz22_1
  try clear hcz22_2
  try clear hcz22_3
  try clear hcz22_4
  try clear hfz14_0
  try clear hfz14_1
  try clear hfz14_2
  try clear hfz14_3
  try clear hfz14_4
  try clear hfz16_0
  try clear hfz16_1
  try clear hfz16_2
  try clear hfz16_3
  try clear hfz16_4
  try clear hfz19_0
  try clear hfz19_1
  try clear hfz19_2
  try clear hfz19_3
  try clear hfz19_4
  try clear hfz22_0
  try clear hfz22_1
  try clear hfz22_2
  try clear hfz22_3
  try clear hfz22_4
  obtain ⟨x7_1, x159001_1, x159002_1, x160004_1, u160004, rfl, HA, HK1, HO_160002, HO_160003, HO_160004, BK157, BK159, HI158, HB⟩ := hrel
  cases gk with
  | zero => exact absurd HA.out (by simp [ab_.l0])
  | succ k1 =>
   have H := HA.out
   clear HA
   simp only [ab_.l0] at H
   have HC24 := c_.mk H
   clear H
   go_upto_region 9 with (fail)
   go_cut [36] (fun v36 wc => ∃ (kq : Nat) (x36_23 : Bool), v36 = .bool x36_23 ∧ c_ (ab_.j1 kq a0 t176 x7_1 x36_23 l1 x159001_1 x159002_1 t160 t163 t166 t171 x160004_1 = some (r1, r2, r3, r4, r5, r6)) ∧ c_ (kq ≤ k1) ∧ c_ (Kd.R Kd.string 9 wc w.heap.size (fun k_ => some k_ ≠ ((.slice Ao21 t171.length co21) : Value).ownBlock) (.slice Ao18 t166.length co18) t166) ∧ c_ (Kd.R Kd.string 9 wc w.heap.size (fun k_ => some k_ ≠ ((.slice Ao18 t166.length co18) : Value).ownBlock) (.slice Ao21 t171.length co21) t171) ∧ c_ (Kd.S k107 107 wc w.heap.size (fun k_ => some k_ ≠ ((.slice Ao18 t166.length co18) : Value).ownBlock ∧ some k_ ≠ ((.slice Ao21 t171.length co21) : Value).ownBlock) u160004 x160004_1) ∧ c_ (wc.heap[gb157]? = some (.cells #[.int .i64 0, .int .i64 0, (.slice none 0 0), (.slice none 0 0), (.slice none 0 0)] 57 (0, 0))) ∧ c_ (wc.heap[gb159]? = some (.cells #[.int .i64 t160, .int .i64 t163, (.slice Ao18 t166.length co18), (.slice Ao21 t171.length co21), u160004] 57 (0, 0))) ∧ c_ (p_ w wc gb158 l1 x159001_1 x159002_1) ∧ c_ (Below w.heap.size w wc))
   case first =>
    have H := HC24.out
    clear HC24
    by_cases c25 : x7_1 < t176
    ·rw [if_pos c25] at H
     have c25b0 : decide (x7_1 < t176) = true := decide_eq_true c25
     clear c25
     (first | rw [c25b0] | (simp only [af_, ag_]; rw [c25b0]) | skip)
     have H' := c_.mk H
     clear H
     obtain ⟨ASz26_0, cSz26_0, HGz26, hgz26, HSz26_0⟩ := HI158.out
     have hcz26_0 := cellS111_0 HGz26
     have hcz26_1 := cellS111_1 HGz26
     have hcz26_2 := cellS111_2 HGz26
     have hfz26_1 := a_ HGz26 1
     have hfz26_2 := a_ HGz26 2
     clear HGz26 hgz26
     go_wp2
     go_meet
     case rel => exact ⟨_, (!x159002_1), (by first | rfl | (simp; done) | (simp [*]; done)), H', ⟨by have := HK1.out; first | omega | exact Nat.le_refl _⟩, ⟨HO_160002.out⟩, ⟨HO_160003.out⟩, ⟨HO_160004.out⟩, ⟨BK157.out⟩, ⟨BK159.out⟩, ⟨HI158.out⟩, ⟨HB.out⟩⟩
    ·rw [if_neg c25] at H
     have c25b0 : decide (x7_1 < t176) = false := decide_eq_false c25
     clear c25
     (first | rw [c25b0] | (simp only [af_, ag_]; rw [c25b0]) | skip)
     have H' := c_.mk H
     clear H
     go_wp2
     go_meet
     case rel => exact ⟨_, (false), (by first | rfl | (simp; done) | (simp [*]; done)), H', ⟨by have := HK1.out; first | omega | exact Nat.le_refl _⟩, ⟨HO_160002.out⟩, ⟨HO_160003.out⟩, ⟨HO_160004.out⟩, ⟨BK157.out⟩, ⟨BK159.out⟩, ⟨HI158.out⟩, ⟨HB.out⟩⟩
   case rest =>
    clear HC24
    try clear c1
    try clear c2
    try clear p2
    try clear c4
    try clear c12
    try clear c13
    try clear c25
    try clear c25b0
    try clear hcz14_0
    try clear hcz14_1
    try clear hcz14_2
    try clear hcz14_3
    try clear hcz14_4
    try clear hcz16_0
    try clear hcz16_1
    try clear hcz16_2
    try clear hcz16_3
    try clear hcz16_4
    try clear hcz19_0
    try clear hcz19_1
    try clear hcz19_2
    try clear hcz19_3
    try clear hcz19_4
    try clear hcz22_0
    try clear hcz22_1
    try clear hcz22_2
    try clear hcz22_3
    try clear hcz22_4
    try clear hcz26_0
    try clear hcz26_1
    try clear hcz26_2
    try clear hfz14_0
    try clear hfz14_1
    try clear hfz14_2
    try clear hfz14_3
    try clear hfz14_4
    try clear hfz16_0
    try clear hfz16_1
    try clear hfz16_2
    try clear hfz16_3
    try clear hfz16_4
    try clear hfz19_0
    try clear hfz19_1
    try clear hfz19_2
    try clear hfz19_3
    try clear hfz19_4
    try clear hfz22_0
    try clear hfz22_1
    try clear hfz22_2
    try clear hfz22_3
    try clear hfz22_4
    try clear hfz26_1
    try clear hfz26_2
    try clear p2
    obtain ⟨kq, x36_23, rfl, HA, HJ23, HO_160002, HO_160003, HO_160004, BK157, BK159, HI158, HB⟩ := hcut
    cases kq with
    | zero => exact absurd HA.out (by simp [ab_.j1])
    | succ kj23 =>
     have H := HA.out
     clear HA
     simp only [ab_.j1] at H
     by_cases c27 : x36_23 = true
     ·subst c27
      have H1 : ((bf_.f l1 x159001_1 x159002_1).bind fun bt180 => ((ae_.f l1 bt180.2.1 bt180.2.2 2147483647).bind fun bt183 => ((al_.f kj23 l1 bt183.2.1 bt183.2.2).bind fun bt186 => (if x160004_1.length < 2932031007402 then (ab_.l0 kj23 a0 t176 (wrap64 (x7_1 + 1)) l1 bt186.2.1 bt186.2.2 t160 t163 t166 t171 (x160004_1 ++ [(⟨bt180.1, bt183.1, bt186.1⟩ : S107)])) else (none))))) = some (r1, r2, r3, r4, r5, r6) := by first | (rw [if_pos rfl] at H; with_reducible exact H) | exact (if_pos rfl).symm.trans H | (simp only [if_true, eq_self_iff_true] at H ⊢; exact H)
      clear H
      have H := H1
      clear H1
      replace H := Option.bind_eq_some_iff.mp H
      obtain ⟨⟨t180, t181, t182⟩, A280, H⟩ := H
      replace H : ((ae_.f l1 t181 t182 2147483647).bind fun bt183 => ((al_.f kj23 l1 bt183.2.1 bt183.2.2).bind fun bt186 => (if x160004_1.length < 2932031007402 then (ab_.l0 kj23 a0 t176 (wrap64 (x7_1 + 1)) l1 bt186.2.1 bt186.2.2 t160 t163 t166 t171 (x160004_1 ++ [(⟨t180, bt183.1, bt186.1⟩ : S107)])) else (none)))) = some (r1, r2, r3, r4, r5, r6) := H
      have A28 := c_.mk A280
      clear A280
      replace H := Option.bind_eq_some_iff.mp H
      obtain ⟨⟨t183, t184, t185⟩, A290, H⟩ := H
      replace H : ((al_.f kj23 l1 t184 t185).bind fun bt186 => (if x160004_1.length < 2932031007402 then (ab_.l0 kj23 a0 t176 (wrap64 (x7_1 + 1)) l1 bt186.2.1 bt186.2.2 t160 t163 t166 t171 (x160004_1 ++ [(⟨t180, t183, bt186.1⟩ : S107)])) else (none))) = some (r1, r2, r3, r4, r5, r6) := H
      have A29 := c_.mk A290
      clear A290
      replace H := Option.bind_eq_some_iff.mp H
      obtain ⟨⟨t186, t189, t190⟩, A300, H⟩ := H
      replace H : (if x160004_1.length < 2932031007402 then (ab_.l0 kj23 a0 t176 (wrap64 (x7_1 + 1)) l1 t189 t190 t160 t163 t166 t171 (x160004_1 ++ [(⟨t180, t183, t186⟩ : S107)])) else (none)) = some (r1, r2, r3, r4, r5, r6) := H
      have A30 := c_.mk A300
      clear A300
      by_cases c31 : x160004_1.length < 2932031007402
      ·rw [if_pos c31] at H
       have LMc31 := c_.mk c31
       clear c31
       obtain ⟨y191, hy191⟩ : ∃ y_ : List (S107), y_ = (x160004_1 ++ [(⟨t180, t183, t186⟩ : S107)]) := ⟨_, rfl⟩
       replace H : (ab_.l0 kj23 a0 t176 (wrap64 (x7_1 + 1)) l1 t189 t190 t160 t163 t166 t171 y191) = some (r1, r2, r3, r4, r5, r6) := by first | (rw [hy191]; with_reducible exact H) | (have H2_ := (Option.bind_some _ _).symm.trans H; rw [hy191]; with_reducible exact H2_) | (have H2_ := (Option.bind_some _ _).symm.trans H; with_reducible exact H2_) | with_reducible exact H | (rw [hy191]; exact H) | exact H
       have Ny191 := c_.mk hy191
       clear hy191
       have H' := c_.mk H
       clear H
       go_wp2_with (first | ((with_reducible refine be_ (N := 8) rfl ?_); (try (refine cm_ (by rfl) ?_; dsimp only)); refine bd_ ?hg (N := 8) ?hd (cs := #[.string (⟨#[]⟩ : ByteArray), .int .i64 0, .slice none 0 0]) (t := 107) ?hr ?_; (case hd => rfl); (case hg => rfl); (case hr => first | (go_simp; done) | (go_simp; rfl)); intro gb179 hg w32 hbox hb; have n0_ := c_.mk (Kd.R_below (by (with_reducible repeat (first | apply Kd.R_alloc | apply Kd.R_drewN | apply Kd.R_drew)); exact HO_160002.out) hb); have n1_ := c_.mk (Kd.R_below (by (with_reducible repeat (first | apply Kd.R_alloc | apply Kd.R_drewN | apply Kd.R_drew)); exact HO_160003.out) hb); have n2_ := c_.mk (Kd.S_below (Kd.S_elderB (by (with_reducible repeat (first | apply Kd.S_alloc | apply Kd.S_drewN | apply Kd.S_drew)); exact HO_160004.out) gb179 (Nat.le_of_eq hg.symm)) hb); have n3_ := c_.mk (s_ (g := gb157) (o := .cells #[.int .i64 0, .int .i64 0, .slice none 0 0, .slice none 0 0, .slice none 0 0] 57 (0, 0)) (by (with_reducible repeat (first | refine u_ ?_ _ | refine o_ ?_ | refine x_ ?_ _)); exact BK157.out) hb); have n4_ := c_.mk (s_ (g := gb159) (o := .cells #[.int .i64 t160, .int .i64 t163, .slice Ao18 t166.length co18, .slice Ao21 t171.length co21, u160004] 57 (0, 0)) (by (with_reducible repeat (first | refine u_ ?_ _ | refine o_ ?_ | refine x_ ?_ _)); exact BK159.out) hb); have n5_ := c_.mk (p_.below (by repeat (first | (with_reducible first | exact HI158.out | apply p_.alloc | apply p_.drewN | apply p_.drew | apply p_.set_1 | apply p_.set_2 | refine p_.far ?_ NB158_157.out _ | refine p_.far ?_ NB158_159.out _) | exact HI158.out)) hb); have n6_ := c_.mk (ac_ (by repeat (first | (with_reducible first | exact HB.out | apply l_ | apply d_ | apply m_ | refine f_ ?_ (p_.ge HI158.out) | refine f_ ?_ GE157.out | refine f_ ?_ GE159.out) | exact HB.out)) hb); have n7_ := c_.mk (hbox); have n8_ := c_.mk ((by rw [hg]; exact (v_ (by repeat (first | (with_reducible first | exact HB.out | apply l_ | apply d_ | apply m_ | refine f_ ?_ (p_.ge HI158.out) | refine f_ ?_ GE157.out | refine f_ ?_ GE159.out) | exact HB.out))) : w.heap.size ≤ gb179)); have n9_ := c_.mk ((by rw [hg]; exact (v_ (by repeat (first | (with_reducible first | exact HB.out | apply l_ | apply d_ | apply m_ | refine f_ ?_ (p_.ge HI158.out) | refine f_ ?_ GE157.out | refine f_ ?_ GE159.out) | exact HB.out))) : w.heap.size ≤ gb179)); have n10_ := c_.mk ((by rw [hg]; exact Nat.ne_of_lt (bj_ (g := gb157) (o := .cells #[.int .i64 0, .int .i64 0, .slice none 0 0, .slice none 0 0, .slice none 0 0] 57 (0, 0)) (by (with_reducible repeat (first | refine u_ ?_ _ | refine o_ ?_ | refine x_ ?_ _)); exact BK157.out)) : gb157 ≠ gb179)); have n11_ := c_.mk ((by rw [hg]; exact Nat.ne_of_gt (bj_ (g := gb157) (o := .cells #[.int .i64 0, .int .i64 0, .slice none 0 0, .slice none 0 0, .slice none 0 0] 57 (0, 0)) (by (with_reducible repeat (first | refine u_ ?_ _ | refine o_ ?_ | refine x_ ?_ _)); exact BK157.out)) : gb179 ≠ gb157)); have n12_ := c_.mk ((by rw [hg]; exact Nat.ne_of_lt (bj_ (g := gb159) (o := .cells #[.int .i64 t160, .int .i64 t163, .slice Ao18 t166.length co18, .slice Ao21 t171.length co21, u160004] 57 (0, 0)) (by (with_reducible repeat (first | refine u_ ?_ _ | refine o_ ?_ | refine x_ ?_ _)); exact BK159.out)) : gb159 ≠ gb179)); have n13_ := c_.mk ((by rw [hg]; exact Nat.ne_of_gt (bj_ (g := gb159) (o := .cells #[.int .i64 t160, .int .i64 t163, .slice Ao18 t166.length co18, .slice Ao21 t171.length co21, u160004] 57 (0, 0)) (by (with_reducible repeat (first | refine u_ ?_ _ | refine o_ ?_ | refine x_ ?_ _)); exact BK159.out)) : gb179 ≠ gb159)); have n14_ := c_.mk ((by rw [hg]; exact Nat.ne_of_lt (p_.lt (show p_ w _ gb158 l1 x159001_1 x159002_1 from by repeat (first | (with_reducible first | exact HI158.out | apply p_.alloc | apply p_.drewN | apply p_.drew | apply p_.set_1 | apply p_.set_2 | refine p_.far ?_ NB158_157.out _ | refine p_.far ?_ NB158_159.out _) | exact HI158.out))) : gb158 ≠ gb179)); have n15_ := c_.mk ((by rw [hg]; exact Nat.ne_of_gt (p_.lt (show p_ w _ gb158 l1 x159001_1 x159002_1 from by repeat (first | (with_reducible first | exact HI158.out | apply p_.alloc | apply p_.drewN | apply p_.drew | apply p_.set_1 | apply p_.set_2 | refine p_.far ?_ NB158_157.out _ | refine p_.far ?_ NB158_159.out _) | exact HI158.out))) : gb179 ≠ gb158)); clear HO_160002; clear HO_160003; clear HO_160004; clear BK157; clear BK159; clear HI158; clear HB; have HO_160002 := n0_; have HO_160003 := n1_; have HO_160004 := n2_; have BK157 := n3_; have BK159 := n4_; have HI158 := n5_; have HB := n6_; have BK179 := n7_; have GW179 := n8_; have GE179 := n9_; have NB157_179 := n10_; have NB179_157 := n11_; have NB159_179 := n12_; have NB179_159 := n13_; have NB158_179 := n14_; have NB179_158 := n15_; clear n0_ n1_ n2_ n3_ n4_ n5_ n6_ n7_ n8_ n9_ n10_ n11_ n12_ n13_ n14_ n15_; clear hb hbox hg) | ((with_reducible refine ah_ (f := 45) rfl ?_); refine bm_ (some 40) rfl rfl Tryz.func45 (by kernel_rfl) rfl #[.pointer (some ⟨gb158, 0, none⟩)] rfl (by (try simp only [List.map_toArray, List.map_cons, List.map_nil]); first | done | rfl | (simp only [List.length_drop, List.length_take]; rfl)) ?_; (with_reducible refine (bf_.calls gb158 l1 x159001_1 x159002_1 t180 t181 t182 w _ ?side1 ?side2 A28.out).mono ?_); (case side1 => repeat (first | (with_reducible first | exact HI158.out | apply p_.alloc | apply p_.drewN | apply p_.drew | apply p_.set_1 | apply p_.set_2 | refine p_.far ?_ NB158_157.out _ | refine p_.far ?_ NB158_159.out _ | refine p_.far ?_ NB158_179.out _) | exact HI158.out)); (case side2 => repeat (first | (with_reducible first | exact HB.out | apply l_ | apply d_ | apply m_ | refine f_ ?_ (p_.ge HI158.out) | refine f_ ?_ GE157.out | refine f_ ?_ GE159.out | refine f_ ?_ GE179.out) | exact HB.out)); rintro e w33 ⟨rfl, hi, hb, hk⟩; refine ⟨_, rfl, ?_⟩; have n0_ := c_.mk (Kd.R_mono (Kd.R_keep (p_.apart (show p_ w _ gb158 l1 x159001_1 x159002_1 from by repeat (first | (with_reducible first | exact HI158.out | apply p_.alloc | apply p_.drewN | apply p_.drew | apply p_.set_1 | apply p_.set_2 | refine p_.far ?_ NB158_157.out _ | refine p_.far ?_ NB158_159.out _ | refine p_.far ?_ NB158_179.out _) | exact HI158.out)) (by (with_reducible repeat (first | apply Kd.R_alloc | apply Kd.R_drewN | apply Kd.R_drew)); exact HO_160002.out) (by decide)) hk (fun _ h => h.2)) (fun _ h => h.1)); have n1_ := c_.mk (Kd.R_mono (Kd.R_keep (p_.apart (show p_ w _ gb158 l1 x159001_1 x159002_1 from by repeat (first | (with_reducible first | exact HI158.out | apply p_.alloc | apply p_.drewN | apply p_.drew | apply p_.set_1 | apply p_.set_2 | refine p_.far ?_ NB158_157.out _ | refine p_.far ?_ NB158_159.out _ | refine p_.far ?_ NB158_179.out _) | exact HI158.out)) (by (with_reducible repeat (first | apply Kd.R_alloc | apply Kd.R_drewN | apply Kd.R_drew)); exact HO_160003.out) (by decide)) hk (fun _ h => h.2)) (fun _ h => h.1)); have n2_ := c_.mk (Kd.S_mono (Kd.S_keep (p_.apartS (show p_ w _ gb158 l1 x159001_1 x159002_1 from by repeat (first | (with_reducible first | exact HI158.out | apply p_.alloc | apply p_.drewN | apply p_.drew | apply p_.set_1 | apply p_.set_2 | refine p_.far ?_ NB158_157.out _ | refine p_.far ?_ NB158_159.out _ | refine p_.far ?_ NB158_179.out _) | exact HI158.out)) (by (with_reducible repeat (first | apply Kd.S_alloc | apply Kd.S_drewN | apply Kd.S_drew)); exact HO_160004.out) (by decide)) hk (fun _ h => h.2)) (fun _ h => h.1)); have n3_ := c_.mk (ar_.blk hk (g' := gb157) (o := .cells #[.int .i64 0, .int .i64 0, .slice none 0 0, .slice none 0 0, .slice none 0 0] 57 (0, 0)) (by (with_reducible repeat (first | refine u_ ?_ _ | refine o_ ?_ | refine x_ ?_ _)); exact BK157.out) NB157_158.out (by simp)); have n4_ := c_.mk (ar_.blk hk (g' := gb159) (o := .cells #[.int .i64 t160, .int .i64 t163, .slice Ao18 t166.length co18, .slice Ao21 t171.length co21, u160004] 57 (0, 0)) (by (with_reducible repeat (first | refine u_ ?_ _ | refine o_ ?_ | refine x_ ?_ _)); exact BK159.out) NB159_158.out (by simp)); have n5_ := c_.mk (ar_.blk hk (g' := gb179) (o := .cells #[.string (⟨#[]⟩ : ByteArray), .int .i64 0, .slice none 0 0] 107 (0, 0)) (by (with_reducible repeat (first | refine u_ ?_ _ | refine o_ ?_ | refine x_ ?_ _)); exact BK179.out) NB179_158.out (by simp)); have n6_ := c_.mk (hb); have n7_ := c_.mk (hi); clear HO_160002; clear HO_160003; clear HO_160004; clear BK157; clear BK159; clear BK179; clear HB; clear HI158; have HO_160002 := n0_; have HO_160003 := n1_; have HO_160004 := n2_; have BK157 := n3_; have BK159 := n4_; have BK179 := n5_; have HB := n6_; have HI158 := n7_; clear n0_ n1_ n2_ n3_ n4_ n5_ n6_ n7_; (try clear hb); (try clear hb2); (try clear hk); (try clear hi); have hnb34 := NB179_157.out; have hnc34 := NB157_179.out; have hnb35 := NB179_159.out; have hnc35 := NB159_179.out; have hnb36 := NB179_158.out; have hnc36 := NB158_179.out; have hcz37_0 : w33.cell? ⟨gb179, 0, none⟩ = some (.string (⟨#[]⟩ : ByteArray)) := (b_ BK179.out 0).trans rfl; have hcz37_1 : w33.cell? ⟨gb179, 1, none⟩ = some (.int .i64 0) := (b_ BK179.out 1).trans rfl; have hcz37_2 : w33.cell? ⟨gb179, 2, none⟩ = some (.slice none 0 0) := (b_ BK179.out 2).trans rfl; have hfz37_0 := a_ BK179.out 0; have hfz37_1 := a_ BK179.out 1; have hfz37_2 := a_ BK179.out 2) | ((with_reducible refine ah_ (f := 43) rfl ?_); refine bm_ (some 43) rfl rfl Tryz.func43 (by kernel_rfl) rfl #[.pointer (some ⟨gb158, 0, none⟩), .int .u64 2147483647] rfl (by (try simp only [List.map_toArray, List.map_cons, List.map_nil]); first | done | rfl | (simp only [List.length_drop, List.length_take]; rfl)) ?_; (with_reducible refine (ae_.calls gb158 l1 t181 t182 2147483647 t183 t184 t185 w _ ?side1 ?side2 A29.out).mono ?_); (case side1 => repeat (first | (with_reducible first | exact HI158.out | apply p_.alloc | apply p_.drewN | apply p_.drew | apply p_.set_1 | apply p_.set_2 | refine p_.far ?_ NB158_157.out _ | refine p_.far ?_ NB158_159.out _ | refine p_.far ?_ NB158_179.out _) | exact HI158.out)); (case side2 => repeat (first | (with_reducible first | exact HB.out | apply l_ | apply d_ | apply m_ | refine f_ ?_ (p_.ge HI158.out) | refine f_ ?_ GE157.out | refine f_ ?_ GE159.out | refine f_ ?_ GE179.out) | exact HB.out)); rintro e w38 ⟨rfl, hi, hb, hk⟩; refine ⟨_, rfl, ?_⟩; have n0_ := c_.mk (Kd.R_mono (Kd.R_keep (p_.apart (show p_ w _ gb158 l1 t181 t182 from by repeat (first | (with_reducible first | exact HI158.out | apply p_.alloc | apply p_.drewN | apply p_.drew | apply p_.set_1 | apply p_.set_2 | refine p_.far ?_ NB158_157.out _ | refine p_.far ?_ NB158_159.out _ | refine p_.far ?_ NB158_179.out _) | exact HI158.out)) (by (with_reducible repeat (first | apply Kd.R_alloc | apply Kd.R_drewN | apply Kd.R_drew)); exact (Kd.R_mono (Kd.R_far (p := ⟨gb179, 0, none⟩) (Kd.R_types HO_160002.out BK179.out (by decide)) (fun _ hk => hk.2) (.string t180)) (fun _ h_ => h_.1))) (by decide)) hk (fun _ h => h.2)) (fun _ h => h.1)); have n1_ := c_.mk (Kd.R_mono (Kd.R_keep (p_.apart (show p_ w _ gb158 l1 t181 t182 from by repeat (first | (with_reducible first | exact HI158.out | apply p_.alloc | apply p_.drewN | apply p_.drew | apply p_.set_1 | apply p_.set_2 | refine p_.far ?_ NB158_157.out _ | refine p_.far ?_ NB158_159.out _ | refine p_.far ?_ NB158_179.out _) | exact HI158.out)) (by (with_reducible repeat (first | apply Kd.R_alloc | apply Kd.R_drewN | apply Kd.R_drew)); exact (Kd.R_mono (Kd.R_far (p := ⟨gb179, 0, none⟩) (Kd.R_types HO_160003.out BK179.out (by decide)) (fun _ hk => hk.2) (.string t180)) (fun _ h_ => h_.1))) (by decide)) hk (fun _ h => h.2)) (fun _ h => h.1)); have n2_ := c_.mk (Kd.S_mono (Kd.S_keep (p_.apartS (show p_ w _ gb158 l1 t181 t182 from by repeat (first | (with_reducible first | exact HI158.out | apply p_.alloc | apply p_.drewN | apply p_.drew | apply p_.set_1 | apply p_.set_2 | refine p_.far ?_ NB158_157.out _ | refine p_.far ?_ NB158_159.out _ | refine p_.far ?_ NB158_179.out _) | exact HI158.out)) (by (with_reducible repeat (first | apply Kd.S_alloc | apply Kd.S_drewN | apply Kd.S_drew)); exact (Kd.S_mono (Kd.S_far (p := ⟨gb179, 0, none⟩) (Kd.S_mono HO_160004.out (fun k_ hk => (⟨hk, hk.2⟩ : _ ∧ k_ ≠ gb179))) (fun _ hk => hk.2) (.string t180)) (fun _ h_ => h_.1))) (by decide)) hk (fun _ h => h.2)) (fun _ h => h.1)); have n3_ := c_.mk (ar_.blk hk (g' := gb157) (o := .cells #[.int .i64 0, .int .i64 0, .slice none 0 0, .slice none 0 0, .slice none 0 0] 57 (0, 0)) (by (with_reducible repeat (first | refine u_ ?_ _ | refine o_ ?_ | refine x_ ?_ _)); refine bl_ ?_ NB157_179.out _; (with_reducible repeat (first | refine u_ ?_ _ | refine o_ ?_ | refine x_ ?_ _)); exact BK157.out) NB157_158.out (by simp)); have n4_ := c_.mk (ar_.blk hk (g' := gb159) (o := .cells #[.int .i64 t160, .int .i64 t163, .slice Ao18 t166.length co18, .slice Ao21 t171.length co21, u160004] 57 (0, 0)) (by (with_reducible repeat (first | refine u_ ?_ _ | refine o_ ?_ | refine x_ ?_ _)); refine bl_ ?_ NB159_179.out _; (with_reducible repeat (first | refine u_ ?_ _ | refine o_ ?_ | refine x_ ?_ _)); exact BK159.out) NB159_158.out (by simp)); have n5_ := c_.mk (ar_.blk hk (g' := gb179) (o := .cells #[.string t180, .int .i64 0, .slice none 0 0] 107 (0, 0)) (by (with_reducible repeat (first | refine u_ ?_ _ | refine o_ ?_ | refine x_ ?_ _)); refine bh_ (cs := #[.string (⟨#[]⟩ : ByteArray), .int .i64 0, .slice none 0 0]) ?_ 0 _ rfl; (with_reducible repeat (first | refine u_ ?_ _ | refine o_ ?_ | refine x_ ?_ _)); exact BK179.out) NB179_158.out (by simp)); have n6_ := c_.mk (hb); have n7_ := c_.mk (hi); clear HO_160002; clear HO_160003; clear HO_160004; clear BK157; clear BK159; clear BK179; clear HB; clear HI158; have HO_160002 := n0_; have HO_160003 := n1_; have HO_160004 := n2_; have BK157 := n3_; have BK159 := n4_; have BK179 := n5_; have HB := n6_; have HI158 := n7_; clear n0_ n1_ n2_ n3_ n4_ n5_ n6_ n7_; (try clear hb); (try clear hb2); (try clear hk); (try clear hi); have hcz39_0 : w38.cell? ⟨gb179, 0, none⟩ = some (.string t180) := (b_ BK179.out 0).trans rfl; have hcz39_1 : w38.cell? ⟨gb179, 1, none⟩ = some (.int .i64 0) := (b_ BK179.out 1).trans rfl; have hcz39_2 : w38.cell? ⟨gb179, 2, none⟩ = some (.slice none 0 0) := (b_ BK179.out 2).trans rfl; have hfz39_0 := a_ BK179.out 0; have hfz39_1 := a_ BK179.out 1; have hfz39_2 := a_ BK179.out 2) | ((with_reducible refine ah_ (f := 44) rfl ?_); refine bm_ (some 46) rfl rfl Tryz.func44 (by kernel_rfl) rfl #[.pointer (some ⟨gb158, 0, none⟩)] rfl (by (try simp only [List.map_toArray, List.map_cons, List.map_nil]); first | done | rfl | (simp only [List.length_drop, List.length_take]; rfl)) ?_; (with_reducible refine (al_.calls kj23 gb158 l1 t184 t185 t186 t189 t190 w _ ?side1 ?side2 A30.out).mono ?_); (case side1 => repeat (first | (with_reducible first | exact HI158.out | apply p_.alloc | apply p_.drewN | apply p_.drew | apply p_.set_1 | apply p_.set_2 | refine p_.far ?_ NB158_157.out _ | refine p_.far ?_ NB158_159.out _ | refine p_.far ?_ NB158_179.out _) | exact HI158.out)); (case side2 => repeat (first | (with_reducible first | exact HB.out | apply l_ | apply d_ | apply m_ | refine f_ ?_ (p_.ge HI158.out) | refine f_ ?_ GE157.out | refine f_ ?_ GE159.out | refine f_ ?_ GE179.out) | exact HB.out)); rintro e w40 ⟨v187, rfl, ho0, hi, hb, hk⟩; refine ⟨_, rfl, ?_⟩; have n0_ := c_.mk (Kd.R_mono (Kd.R_told (Kd.R_oldK (p_.apart (show p_ w _ gb158 l1 t184 t185 from by repeat (first | (with_reducible first | exact HI158.out | apply p_.alloc | apply p_.drewN | apply p_.drew | apply p_.set_1 | apply p_.set_2 | refine p_.far ?_ NB158_157.out _ | refine p_.far ?_ NB158_159.out _ | refine p_.far ?_ NB158_179.out _) | exact HI158.out)) (by (with_reducible repeat (first | apply Kd.R_alloc | apply Kd.R_drewN | apply Kd.R_drew)); exact (Kd.R_mono (Kd.R_far (p := ⟨gb179, 1, none⟩) (Kd.R_types HO_160002.out BK179.out (by decide)) (fun _ hk => hk.2) (.int .i64 t183)) (fun _ h_ => h_.1))) (by decide)) hk) (Kd.R_base ho0)) (fun _ h_ => h_.1)); have n1_ := c_.mk (Kd.R_mono (Kd.R_told (Kd.R_oldK (p_.apart (show p_ w _ gb158 l1 t184 t185 from by repeat (first | (with_reducible first | exact HI158.out | apply p_.alloc | apply p_.drewN | apply p_.drew | apply p_.set_1 | apply p_.set_2 | refine p_.far ?_ NB158_157.out _ | refine p_.far ?_ NB158_159.out _ | refine p_.far ?_ NB158_179.out _) | exact HI158.out)) (by (with_reducible repeat (first | apply Kd.R_alloc | apply Kd.R_drewN | apply Kd.R_drew)); exact (Kd.R_mono (Kd.R_far (p := ⟨gb179, 1, none⟩) (Kd.R_types HO_160003.out BK179.out (by decide)) (fun _ hk => hk.2) (.int .i64 t183)) (fun _ h_ => h_.1))) (by decide)) hk) (Kd.R_base ho0)) (fun _ h_ => h_.1)); have n2_ := c_.mk (Kd.S_mono (Kd.S_told (Kd.S_oldK (p_.apartS (show p_ w _ gb158 l1 t184 t185 from by repeat (first | (with_reducible first | exact HI158.out | apply p_.alloc | apply p_.drewN | apply p_.drew | apply p_.set_1 | apply p_.set_2 | refine p_.far ?_ NB158_157.out _ | refine p_.far ?_ NB158_159.out _ | refine p_.far ?_ NB158_179.out _) | exact HI158.out)) (by (with_reducible repeat (first | apply Kd.S_alloc | apply Kd.S_drewN | apply Kd.S_drew)); exact (Kd.S_mono (Kd.S_far (p := ⟨gb179, 1, none⟩) (Kd.S_mono HO_160004.out (fun k_ hk => (⟨hk, hk.2⟩ : _ ∧ k_ ≠ gb179))) (fun _ hk => hk.2) (.int .i64 t183)) (fun _ h_ => h_.1))) (by decide)) hk) (Kd.R_base ho0)) (fun _ h_ => h_.1)); have n3_ := c_.mk (ar_.blk hk (g' := gb157) (o := .cells #[.int .i64 0, .int .i64 0, .slice none 0 0, .slice none 0 0, .slice none 0 0] 57 (0, 0)) (by (with_reducible repeat (first | refine u_ ?_ _ | refine o_ ?_ | refine x_ ?_ _)); refine bl_ ?_ NB157_179.out _; (with_reducible repeat (first | refine u_ ?_ _ | refine o_ ?_ | refine x_ ?_ _)); exact BK157.out) NB157_158.out (by simp)); have n4_ := c_.mk (ar_.blk hk (g' := gb159) (o := .cells #[.int .i64 t160, .int .i64 t163, .slice Ao18 t166.length co18, .slice Ao21 t171.length co21, u160004] 57 (0, 0)) (by (with_reducible repeat (first | refine u_ ?_ _ | refine o_ ?_ | refine x_ ?_ _)); refine bl_ ?_ NB159_179.out _; (with_reducible repeat (first | refine u_ ?_ _ | refine o_ ?_ | refine x_ ?_ _)); exact BK159.out) NB159_158.out (by simp)); have n5_ := c_.mk (ar_.blk hk (g' := gb179) (o := .cells #[.string t180, .int .i64 t183, .slice none 0 0] 107 (0, 0)) (by (with_reducible repeat (first | refine u_ ?_ _ | refine o_ ?_ | refine x_ ?_ _)); refine bh_ (cs := #[.string t180, .int .i64 0, .slice none 0 0]) ?_ 1 _ rfl; (with_reducible repeat (first | refine u_ ?_ _ | refine o_ ?_ | refine x_ ?_ _)); exact BK179.out) NB179_158.out (by simp)); have n6_ := c_.mk (Kd.R_lower (Kd.R_new' (Kd.R_new' ho0 (Kd.R_lt (by (with_reducible repeat (first | apply Kd.R_alloc | apply Kd.R_drewN | apply Kd.R_drew)); exact (Kd.R_mono (Kd.R_far (p := ⟨gb179, 1, none⟩) (Kd.R_types HO_160002.out BK179.out (by decide)) (fun _ hk => hk.2) (.int .i64 t183)) (fun _ h_ => h_.1))))) (Kd.R_lt (by (with_reducible repeat (first | apply Kd.R_alloc | apply Kd.R_drewN | apply Kd.R_drew)); exact (Kd.R_mono (Kd.R_far (p := ⟨gb179, 1, none⟩) (Kd.R_types HO_160003.out BK179.out (by decide)) (fun _ hk => hk.2) (.int .i64 t183)) (fun _ h_ => h_.1))))) (v_ (by repeat (first | (with_reducible first | exact HB.out | apply l_ | apply d_ | apply m_ | refine f_ ?_ (p_.ge HI158.out) | refine f_ ?_ GE157.out | refine f_ ?_ GE159.out | refine f_ ?_ GE179.out) | exact HB.out)))); have n7_ := c_.mk (hb); have n8_ := c_.mk (hi); clear HO_160002; clear HO_160003; clear HO_160004; clear BK157; clear BK159; clear BK179; clear HB; clear HI158; have HO_160002 := n0_; have HO_160003 := n1_; have HO_160004 := n2_; have BK157 := n3_; have BK159 := n4_; have BK179 := n5_; have HO188 := n6_; have HB := n7_; have HI158 := n8_; clear n0_ n1_ n2_ n3_ n4_ n5_ n6_ n7_ n8_; (try clear hb); (try clear hb2); (try clear hk); (try clear hi); (try clear ho0); obtain ⟨Ao41, co41, eo41⟩ := Kd.R_slice HO188.out; subst eo41; have hcz42_0 : w40.cell? ⟨gb179, 0, none⟩ = some (.string t180) := (b_ BK179.out 0).trans rfl; have hcz42_1 : w40.cell? ⟨gb179, 1, none⟩ = some (.int .i64 t183) := (b_ BK179.out 1).trans rfl; have hcz42_2 : w40.cell? ⟨gb179, 2, none⟩ = some (.slice none 0 0) := (b_ BK179.out 2).trans rfl; have hfz42_0 := a_ BK179.out 0; have hfz42_1 := a_ BK179.out 1; have hfz42_2 := a_ BK179.out 2) | ((with_reducible refine gate_store (t := 32) (p := 47) rfl ?_); refine store_event (t := 32) (p := 47) (v := ?vo_w43) (w1 := (w40.setCell ⟨gb179, 2, none⟩ (.slice Ao41 t186.length co41))) ?hg ?ho ?hn ?hr ?_; (case ho => rfl); (case hg => rfl); (case hn => rfl); (case hr => first | (go_simp; done) | (go_simp; rfl)); intro w43 hw; have n0_ : c_ (Kd.R Kd.string 9 w43 w.heap.size (fun k_ => some k_ ≠ (.slice Ao21 t171.length co21 : Value).ownBlock ∧ some k_ ≠ (.slice Ao41 t186.length co41 : Value).ownBlock) (.slice Ao18 t166.length co18) t166) := ⟨(by rw [hw]; exact (by (with_reducible repeat (first | apply Kd.R_alloc | apply Kd.R_drewN | apply Kd.R_drew)); exact Kd.R_mono (Kd.R_far (p := ⟨gb179, 2, none⟩) (Kd.R_types HO_160002.out BK179.out (by decide)) (fun _ hk => hk.2) (.slice Ao41 t186.length co41)) (fun _ hk => ⟨hk.1.1, hk.1.2⟩)))⟩; have n1_ : c_ (Kd.R Kd.string 9 w43 w.heap.size (fun k_ => some k_ ≠ (.slice Ao18 t166.length co18 : Value).ownBlock ∧ some k_ ≠ (.slice Ao41 t186.length co41 : Value).ownBlock) (.slice Ao21 t171.length co21) t171) := ⟨(by rw [hw]; exact (by (with_reducible repeat (first | apply Kd.R_alloc | apply Kd.R_drewN | apply Kd.R_drew)); exact Kd.R_mono (Kd.R_far (p := ⟨gb179, 2, none⟩) (Kd.R_types HO_160003.out BK179.out (by decide)) (fun _ hk => hk.2) (.slice Ao41 t186.length co41)) (fun _ hk => ⟨hk.1.1, hk.1.2⟩)))⟩; have n2_ : c_ (Kd.S k107 107 w43 w.heap.size (fun k_ => some k_ ≠ (.slice Ao18 t166.length co18 : Value).ownBlock ∧ some k_ ≠ (.slice Ao21 t171.length co21 : Value).ownBlock ∧ some k_ ≠ (.slice Ao41 t186.length co41 : Value).ownBlock ∧ k_ ≠ gb179) u160004 x160004_1) := ⟨(by rw [hw]; exact (by (with_reducible repeat (first | apply Kd.S_alloc | apply Kd.S_drewN | apply Kd.S_drew)); exact Kd.S_mono (Kd.S_far (p := ⟨gb179, 2, none⟩) (Kd.S_mono HO_160004.out (fun k_ hk => (⟨hk, hk.1.2⟩ : _ ∧ k_ ≠ gb179))) (fun _ hk => hk.2) (.slice Ao41 t186.length co41)) (fun _ hk => ⟨hk.1.1.1.1, ⟨hk.1.1.1.2, ⟨hk.1.2, hk.1.1.2⟩⟩⟩)))⟩; have n3_ : c_ (Kd.R Kd.string 9 w43 w.heap.size (fun k_ => some k_ ≠ (.slice Ao18 t166.length co18 : Value).ownBlock ∧ some k_ ≠ (.slice Ao21 t171.length co21 : Value).ownBlock) (.slice Ao41 t186.length co41) t186) := ⟨(by rw [hw]; exact (by (with_reducible repeat (first | apply Kd.R_alloc | apply Kd.R_drewN | apply Kd.R_drew)); exact Kd.R_mono (Kd.R_far (p := ⟨gb179, 2, none⟩) (Kd.R_types HO188.out BK179.out (by decide)) (fun _ hk => hk.2) (.slice Ao41 t186.length co41)) (fun _ hk => ⟨hk.1.1.2, hk.1.2⟩)))⟩; have n4_ : c_ (w43.heap[gb157]? = some (.cells #[.int .i64 0, .int .i64 0, .slice none 0 0, .slice none 0 0, .slice none 0 0] 57 (0, 0))) := ⟨(by rw [hw]; exact (by (with_reducible repeat (first | refine u_ ?_ _ | refine o_ ?_ | refine x_ ?_ _)); refine bl_ ?_ NB157_179.out _; (with_reducible repeat (first | refine u_ ?_ _ | refine o_ ?_ | refine x_ ?_ _)); exact BK157.out))⟩; have n5_ : c_ (w43.heap[gb159]? = some (.cells #[.int .i64 t160, .int .i64 t163, .slice Ao18 t166.length co18, .slice Ao21 t171.length co21, u160004] 57 (0, 0))) := ⟨(by rw [hw]; exact (by (with_reducible repeat (first | refine u_ ?_ _ | refine o_ ?_ | refine x_ ?_ _)); refine bl_ ?_ NB159_179.out _; (with_reducible repeat (first | refine u_ ?_ _ | refine o_ ?_ | refine x_ ?_ _)); exact BK159.out))⟩; have n6_ : c_ (w43.heap[gb179]? = some (.cells #[.string t180, .int .i64 t183, .slice Ao41 t186.length co41] 107 (0, 0))) := ⟨(by rw [hw]; exact (by (with_reducible repeat (first | refine u_ ?_ _ | refine o_ ?_ | refine x_ ?_ _)); refine bh_ (cs := #[.string t180, .int .i64 t183, .slice none 0 0]) ?_ 2 _ rfl; (with_reducible repeat (first | refine u_ ?_ _ | refine o_ ?_ | refine x_ ?_ _)); exact BK179.out))⟩; have n7_ : c_ (p_ w w43 gb158 l1 t189 t190) := ⟨(by rw [hw]; exact (by repeat (first | (with_reducible first | exact HI158.out | apply p_.alloc | apply p_.drewN | apply p_.drew | apply p_.set_1 | apply p_.set_2 | refine p_.far ?_ NB158_157.out _ | refine p_.far ?_ NB158_159.out _ | refine p_.far ?_ NB158_179.out _) | exact HI158.out)))⟩; have n8_ : c_ (Below w.heap.size w w43) := ⟨(by rw [hw]; exact (by repeat (first | (with_reducible first | exact HB.out | apply l_ | apply d_ | apply m_ | refine f_ ?_ (p_.ge HI158.out) | refine f_ ?_ GE157.out | refine f_ ?_ GE159.out | refine f_ ?_ GE179.out) | exact HB.out)))⟩; clear hw; clear HO_160002; clear HO_160003; clear HO_160004; clear HO188; clear BK157; clear BK159; clear BK179; clear HI158; clear HB; have HO_160002 := n0_; have HO_160003 := n1_; have HO_160004 := n2_; have HO188 := n3_; have BK157 := n4_; have BK159 := n5_; have BK179 := n6_; have HI158 := n7_; have HB := n8_; clear n0_ n1_ n2_ n3_ n4_ n5_ n6_ n7_ n8_; have hnb44 := NB159_157.out; have hnc44 := NB157_159.out; have hnb45 := NB159_158.out; have hnc45 := NB158_159.out; have hcz46_0 : w43.cell? ⟨gb159, 0, none⟩ = some (.int .i64 t160) := (b_ BK159.out 0).trans rfl; have hcz46_1 : w43.cell? ⟨gb159, 1, none⟩ = some (.int .i64 t163) := (b_ BK159.out 1).trans rfl; have hcz46_2 : w43.cell? ⟨gb159, 2, none⟩ = some (.slice Ao18 t166.length co18) := (b_ BK159.out 2).trans rfl; have hcz46_3 : w43.cell? ⟨gb159, 3, none⟩ = some (.slice Ao21 t171.length co21) := (b_ BK159.out 3).trans rfl; have hcz46_4 : w43.cell? ⟨gb159, 4, none⟩ = some (u160004) := (b_ BK159.out 4).trans rfl; have hfz46_0 := a_ BK159.out 0; have hfz46_1 := a_ BK159.out 1; have hfz46_2 := a_ BK159.out 2; have hfz46_3 := a_ BK159.out 3; have hfz46_4 := a_ BK159.out 4; have hcz47_0 : w43.cell? ⟨gb179, 0, none⟩ = some (.string t180) := (b_ BK179.out 0).trans rfl; have hcz47_1 : w43.cell? ⟨gb179, 1, none⟩ = some (.int .i64 t183) := (b_ BK179.out 1).trans rfl; have hcz47_2 : w43.cell? ⟨gb179, 2, none⟩ = some (.slice Ao41 t186.length co41) := (b_ BK179.out 2).trans rfl; have hfz47_0 := a_ BK179.out 0; have hfz47_1 := a_ BK179.out 1; have hfz47_2 := a_ BK179.out 2) | ((with_reducible refine bw_ (b := .append) (xs := #[.tmp 49, .tmp 51]) rfl ?_); (try (refine cm_ (by rfl) ?_; dsimp only)); at_builtin; refine Kd.S_append k107 (w0 := w) w.heap.size rfl (.tmp 49) (.tmp 51) 55 107 (.agg #[(.string ⟨#[]⟩), (.int .i64 0), (.slice none 0 0)]) 48 rfl Tryz.underlying55 info107 rfl (by decide) (by omega) u160004 x160004_1 (⟨t180, t183, t186⟩ : S107) [.string t180, .int .i64 t183, .slice Ao41 t186.length co41] (fun k_ => some k_ ≠ (.slice Ao18 t166.length co18 : Value).ownBlock ∧ some k_ ≠ (.slice Ao21 t171.length co21 : Value).ownBlock ∧ k_ ≠ gb179) (fun k_ => some k_ = (.slice Ao41 t186.length co41 : Value).ownBlock) rfl rfl ?aP (fun k_ hk_ => ((Kd.R_mono (ok' := fun k_ => ((fun k_ => some k_ ≠ (.slice Ao18 t166.length co18 : Value).ownBlock ∧ some k_ ≠ (.slice Ao21 t171.length co21 : Value).ownBlock ∧ k_ ≠ gb179)) k_ ∧ some k_ ≠ (u160004 : Value).ownBlock) (Kd.R_types (Kd.R_apart' (HO188.out) (Kd.S_typed HO_160004.out) (by decide)) BK179.out (by decide)) (fun k_ hk => ⟨⟨hk.1.1.1, ⟨hk.1.1.2, hk.2⟩⟩, hk.1.2⟩))).1 k_ hk_.symm) ?aF ?aO ?aB ?aS ?aL ?_; (case aP => exact k107_mkM _ _ _ (⟨t180, t183, t186⟩ : S107) (Kd.R_mono (Kd.R_tight rfl (Kd.R_mono (ok' := fun k_ => ((fun k_ => some k_ ≠ (.slice Ao18 t166.length co18 : Value).ownBlock ∧ some k_ ≠ (.slice Ao21 t171.length co21 : Value).ownBlock ∧ k_ ≠ gb179)) k_ ∧ some k_ ≠ (u160004 : Value).ownBlock) (Kd.R_types (Kd.R_apart' (HO188.out) (Kd.S_typed HO_160004.out) (by decide)) BK179.out (by decide)) (fun k_ hk => ⟨⟨hk.1.1.1, ⟨hk.1.1.2, hk.2⟩⟩, hk.1.2⟩))) (fun _ h_ => h_))); (case aB => exact (by repeat (first | (with_reducible first | exact HB.out | apply l_ | apply d_ | apply m_ | refine f_ ?_ (p_.ge HI158.out) | refine f_ ?_ GE157.out | refine f_ ?_ GE159.out | refine f_ ?_ GE179.out) | exact HB.out))); (case aF => exact (fun k_ hk => ⟨Kd.fresh' (Kd.R_lt (by (with_reducible repeat (first | apply Kd.R_alloc | apply Kd.R_drewN | apply Kd.R_drew)); exact HO_160002.out)) k_ hk, Kd.fresh' (Kd.R_lt (by (with_reducible repeat (first | apply Kd.R_alloc | apply Kd.R_drewN | apply Kd.R_drew)); exact HO_160003.out)) k_ hk, Kd.freshB (g := gb179) (o := .cells #[.string t180, .int .i64 t183, .slice Ao41 t186.length co41] 107 (0, 0)) (by (with_reducible repeat (first | refine u_ ?_ _ | refine o_ ?_ | refine x_ ?_ _)); exact BK179.out) k_ hk⟩)); (case aO => exact (by (with_reducible repeat (first | apply Kd.S_alloc | apply Kd.S_drewN | apply Kd.S_drew)); exact Kd.S_mono HO_160004.out (fun k_ hk => ⟨⟨hk.1, ⟨hk.2.1, hk.2.2.2⟩⟩, fun e_ => hk.2.2.1 e_⟩))); (case aS => exact (v_ (by repeat (first | (with_reducible first | exact HB.out | apply l_ | apply d_ | apply m_ | refine f_ ?_ (p_.ge HI158.out) | refine f_ ?_ GE157.out | refine f_ ?_ GE159.out | refine f_ ?_ GE179.out) | exact HB.out)))); (case aL => have := LMc31.out; omega); intro v192 w48 ho hb hg hat; rw [← Ny191.out] at ho; have n0_ := c_.mk (Kd.R_over' (by (with_reducible repeat (first | apply Kd.R_alloc | apply Kd.R_drewN | apply Kd.R_drew)); exact HO_160002.out) (Kd.S_typed (by (with_reducible repeat (first | apply Kd.S_alloc | apply Kd.S_drewN | apply Kd.S_drew)); exact HO_160004.out)) (by decide) hg); have n1_ := c_.mk (Kd.R_over' (by (with_reducible repeat (first | apply Kd.R_alloc | apply Kd.R_drewN | apply Kd.R_drew)); exact HO_160003.out) (Kd.S_typed (by (with_reducible repeat (first | apply Kd.S_alloc | apply Kd.S_drewN | apply Kd.S_drew)); exact HO_160004.out)) (by decide) hg); have n2_ := c_.mk (bu_ (g := gb157) (o := .cells #[.int .i64 0, .int .i64 0, .slice none 0 0, .slice none 0 0, .slice none 0 0] 57 (0, 0)) (by (with_reducible repeat (first | refine u_ ?_ _ | refine o_ ?_ | refine x_ ?_ _)); exact BK157.out) hg (Kd.S_ne HO_160004.out BK157.out (by decide))); have n3_ := c_.mk (bu_ (g := gb159) (o := .cells #[.int .i64 t160, .int .i64 t163, .slice Ao18 t166.length co18, .slice Ao21 t171.length co21, u160004] 57 (0, 0)) (by (with_reducible repeat (first | refine u_ ?_ _ | refine o_ ?_ | refine x_ ?_ _)); exact BK159.out) hg (Kd.S_ne HO_160004.out BK159.out (by decide))); have n4_ := c_.mk (p_.grown (by repeat (first | (with_reducible first | exact HI158.out | apply p_.alloc | apply p_.drewN | apply p_.drew | apply p_.set_1 | apply p_.set_2 | refine p_.far ?_ NB158_157.out _ | refine p_.far ?_ NB158_159.out _ | refine p_.far ?_ NB158_179.out _) | exact HI158.out)) hg (p_.own_neS HI158.out HO_160004.out (by decide))); have n5_ := c_.mk (bu_ (g := gb179) (o := .cells #[.string t180, .int .i64 t183, .slice Ao41 t186.length co41] 107 (0, 0)) (by (with_reducible repeat (first | refine u_ ?_ _ | refine o_ ?_ | refine x_ ?_ _)); exact BK179.out) hg (Kd.S_away HO_160004.out (fun _ hk => hk.2.2.2))); have n6_ := c_.mk (hb); have n7_ := c_.mk (ho); clear HO_160002; clear HO_160003; clear BK157; clear BK159; clear HI158; clear BK179; clear HB; clear HO_160004; clear HO188; have HO_160002 := n0_; have HO_160003 := n1_; have BK157 := n2_; have BK159 := n3_; have HI158 := n4_; have BK179 := n5_; have HB := n6_; have HO193 := n7_; clear n0_ n1_ n2_ n3_ n4_ n5_ n6_ n7_; clear ho hb hg hat; obtain ⟨Ao49, co49, eo49⟩ := Kd.S_slice HO193.out; subst eo49; have hcz50_0 : w48.cell? ⟨gb159, 0, none⟩ = some (.int .i64 t160) := (b_ BK159.out 0).trans rfl; have hcz50_1 : w48.cell? ⟨gb159, 1, none⟩ = some (.int .i64 t163) := (b_ BK159.out 1).trans rfl; have hcz50_2 : w48.cell? ⟨gb159, 2, none⟩ = some (.slice Ao18 t166.length co18) := (b_ BK159.out 2).trans rfl; have hcz50_3 : w48.cell? ⟨gb159, 3, none⟩ = some (.slice Ao21 t171.length co21) := (b_ BK159.out 3).trans rfl; have hcz50_4 : w48.cell? ⟨gb159, 4, none⟩ = some (u160004) := (b_ BK159.out 4).trans rfl; have hfz50_0 := a_ BK159.out 0; have hfz50_1 := a_ BK159.out 1; have hfz50_2 := a_ BK159.out 2; have hfz50_3 := a_ BK159.out 3; have hfz50_4 := a_ BK159.out 4))
       go_roundg kj23
       case measure => have := HK1.out; have := HJ23.out; omega
       case rel => exact ⟨(wrap64 (x7_1 + 1)), (t189), (t190), (y191), (.slice Ao49 y191.length co49), (by first | rfl | (simp; done) | (simp [*]; done)), H', ⟨by have := HK1.out; have := HJ23.out; omega⟩, ⟨by (with_reducible repeat (first | apply Kd.R_alloc | apply Kd.R_drewN | apply Kd.R_drew)); exact Kd.R_mono (Kd.R_far (p := ⟨gb159, 4, none⟩) (Kd.R_types HO_160002.out BK159.out (by decide)) (fun _ hk => hk.2) (.slice Ao49 y191.length co49)) (fun _ hk => hk.1.1)⟩, ⟨by (with_reducible repeat (first | apply Kd.R_alloc | apply Kd.R_drewN | apply Kd.R_drew)); exact Kd.R_mono (Kd.R_far (p := ⟨gb159, 4, none⟩) (Kd.R_types HO_160003.out BK159.out (by decide)) (fun _ hk => hk.2) (.slice Ao49 y191.length co49)) (fun _ hk => hk.1.1)⟩, ⟨by (with_reducible repeat (first | apply Kd.S_alloc | apply Kd.S_drewN | apply Kd.S_drew)); exact Kd.S_mono (Kd.S_far (p := ⟨gb159, 4, none⟩) (Kd.S_types HO193.out BK159.out (by decide)) (fun _ hk => hk.2) (.slice Ao49 y191.length co49)) (fun _ hk => ⟨hk.1.1, hk.1.2.1⟩)⟩, ⟨by (with_reducible repeat (first | refine u_ ?_ _ | refine o_ ?_ | refine x_ ?_ _)); refine bl_ ?_ NB157_159.out _; (with_reducible repeat (first | refine u_ ?_ _ | refine o_ ?_ | refine x_ ?_ _)); exact BK157.out⟩, ⟨by (with_reducible repeat (first | refine u_ ?_ _ | refine o_ ?_ | refine x_ ?_ _)); refine bh_ (cs := #[.int .i64 t160, .int .i64 t163, .slice Ao18 t166.length co18, .slice Ao21 t171.length co21, u160004]) ?_ 4 _ rfl; (with_reducible repeat (first | refine u_ ?_ _ | refine o_ ?_ | refine x_ ?_ _)); exact BK159.out⟩, ⟨by repeat (first | (with_reducible first | exact HI158.out | apply p_.alloc | apply p_.drewN | apply p_.drew | apply p_.set_1 | apply p_.set_2 | refine p_.far ?_ NB158_157.out _ | refine p_.far ?_ NB158_159.out _ | refine p_.far ?_ NB158_179.out _) | exact HI158.out)⟩, ⟨by repeat (first | (with_reducible first | exact HB.out | apply l_ | apply d_ | apply m_ | refine f_ ?_ (p_.ge HI158.out) | refine f_ ?_ GE157.out | refine f_ ?_ GE159.out | refine f_ ?_ GE179.out) | exact HB.out)⟩⟩
      ·rw [if_neg c31] at H
       exact absurd H (by simp)
     ·replace c27 := Bool.eq_false_iff.mpr c27
      subst c27
      have H1 : (if x159002_1 = true then (some (0, 0, ([] : List ByteArray), ([] : List ByteArray), ([] : List (S107)), false)) else (if x159001_1 < (a0.size : Int) then (some (0, 0, ([] : List ByteArray), ([] : List ByteArray), ([] : List (S107)), false)) else (if (a0.size : Int) > 4096 then (some (0, 0, ([] : List ByteArray), ([] : List ByteArray), ([] : List (S107)), false)) else (some (t160, t163, t166, t171, x160004_1, true))))) = some (r1, r2, r3, r4, r5, r6) := by rw [if_neg (show ¬ (false = true) by decide)] at H; exact H
      clear H
      have H := H1
      clear H1
      by_cases c51 : x159002_1 = true
      ·subst c51
       have H1 : (some (0, 0, ([] : List ByteArray), ([] : List ByteArray), ([] : List (S107)), false)) = some (r1, r2, r3, r4, r5, r6) := by first | (rw [if_pos rfl] at H; with_reducible exact H) | exact (if_pos rfl).symm.trans H | (simp only [if_true, eq_self_iff_true] at H ⊢; exact H)
       clear H
       have H := H1
       clear H1
       simp only [Option.some.injEq, Prod.mk.injEq] at H
       obtain ⟨rfl, rfl, rfl, rfl, rfl, rfl⟩ := H
       obtain ⟨ASz52_0, cSz52_0, HGz52, hgz52, HSz52_0⟩ := HI158.out
       have hcz52_0 := cellS111_0 HGz52
       have hcz52_1 := cellS111_1 HGz52
       have hcz52_2 := cellS111_2 HGz52
       have hfz52_1 := a_ HGz52 1
       have hfz52_2 := a_ HGz52 2
       clear HGz52 hgz52
       have hnb53 := NB157_159.out
       have hnc53 := NB159_157.out
       have hnb54 := NB157_158.out
       have hnc54 := NB158_157.out
       have hcz55_0 : wc.cell? ⟨gb157, 0, none⟩ = some (.int .i64 0) := (b_ BK157.out 0).trans rfl
       have hcz55_1 : wc.cell? ⟨gb157, 1, none⟩ = some (.int .i64 0) := (b_ BK157.out 1).trans rfl
       have hcz55_2 : wc.cell? ⟨gb157, 2, none⟩ = some (.slice none 0 0) := (b_ BK157.out 2).trans rfl
       have hcz55_3 : wc.cell? ⟨gb157, 3, none⟩ = some (.slice none 0 0) := (b_ BK157.out 3).trans rfl
       have hcz55_4 : wc.cell? ⟨gb157, 4, none⟩ = some (.slice none 0 0) := (b_ BK157.out 4).trans rfl
       have hfz55_0 := a_ BK157.out 0
       have hfz55_1 := a_ BK157.out 1
       have hfz55_2 := a_ BK157.out 2
       have hfz55_3 := a_ BK157.out 3
       have hfz55_4 := a_ BK157.out 4
       go_wp2
       refine bodyPost_ret (results_ct rfl _ _ gb157 57 #[.int .i64 0, .int .i64 0, .slice none 0 0, .slice none 0 0, .slice none 0 0] (0, 0) _ rfl (by refine bh_ (cs := #[.int .i64 0, .int .i64 0, .slice none 0 0, .slice none 0 0, .slice none 0 0]) ?_ 4 _ rfl; refine bh_ (cs := #[.int .i64 0, .int .i64 0, .slice none 0 0, .slice none 0 0, .slice none 0 0]) ?_ 3 _ rfl; refine bh_ (cs := #[.int .i64 0, .int .i64 0, .slice none 0 0, .slice none 0 0, .slice none 0 0]) ?_ 2 _ rfl; refine bh_ (cs := #[.int .i64 0, .int .i64 0, .slice none 0 0, .slice none 0 0, .slice none 0 0]) ?_ 1 _ rfl; refine bh_ (cs := #[.int .i64 0, .int .i64 0, .slice none 0 0, .slice none 0 0, .slice none 0 0]) ?_ 0 _ rfl; exact BK157.out) Tryz.underlying57 rfl (by kernel_rfl)) rfl ?_
       exact ⟨w, HBC.out, _, _, _, by first | rfl | (simp [i_, g_] <;> rfl) | (simp [*, i_, g_] <;> rfl), by first | exact Kd.R_nil _ _ _ _ _ | exact Kd.N_nil _ _ _ _ _ | exact Kd.V_nil _ _ _ _ _ | exact Kd.Q_nil _ _ _ _ _ | exact Kd.S_nil _ _ _ _ _, by first | exact Kd.R_nil _ _ _ _ _ | exact Kd.N_nil _ _ _ _ _ | exact Kd.V_nil _ _ _ _ _ | exact Kd.Q_nil _ _ _ _ _ | exact Kd.S_nil _ _ _ _ _, by first | exact Kd.S_nil _ _ _ _ _ | exact Kd.N_nil _ _ _ _ _ | exact Kd.V_nil _ _ _ _ _ | exact Kd.Q_nil _ _ _ _ _ | exact Kd.R_nil _ _ _ _ _, by repeat (first | (with_reducible first | exact (cr_ HBC.out HB.out) | apply l_ | apply d_ | apply m_ | refine f_ ?_ (p_.ge HI158.out) | refine f_ ?_ GE157.out | refine f_ ?_ GE159.out) | exact (cr_ HBC.out HB.out))⟩
      ·replace c51 := Bool.eq_false_iff.mpr c51
       subst c51
       have H1 : (if x159001_1 < (a0.size : Int) then (some (0, 0, ([] : List ByteArray), ([] : List ByteArray), ([] : List (S107)), false)) else (if (a0.size : Int) > 4096 then (some (0, 0, ([] : List ByteArray), ([] : List ByteArray), ([] : List (S107)), false)) else (some (t160, t163, t166, t171, x160004_1, true)))) = some (r1, r2, r3, r4, r5, r6) := by rw [if_neg (show ¬ (false = true) by decide)] at H; exact H
       clear H
       have H := H1
       clear H1
       by_cases c56 : x159001_1 < (a0.size : Int)
       ·rw [if_pos c56] at H
        have c56b0 : decide (x159001_1 < (a0.size : Int)) = true := decide_eq_true c56
        clear c56
        simp only [Option.some.injEq, Prod.mk.injEq] at H
        obtain ⟨rfl, rfl, rfl, rfl, rfl, rfl⟩ := H
        obtain ⟨ASz57_0, cSz57_0, HGz57, hgz57, HSz57_0⟩ := HI158.out
        have hcz57_0 := cellS111_0 HGz57
        have hcz57_1 := cellS111_1 HGz57
        have hcz57_2 := cellS111_2 HGz57
        have hfz57_1 := a_ HGz57 1
        have hfz57_2 := a_ HGz57 2
        clear HGz57 hgz57
        have hnb58 := NB157_159.out
        have hnc58 := NB159_157.out
        have hnb59 := NB157_158.out
        have hnc59 := NB158_157.out
        have hcz60_0 : wc.cell? ⟨gb157, 0, none⟩ = some (.int .i64 0) := (b_ BK157.out 0).trans rfl
        have hcz60_1 : wc.cell? ⟨gb157, 1, none⟩ = some (.int .i64 0) := (b_ BK157.out 1).trans rfl
        have hcz60_2 : wc.cell? ⟨gb157, 2, none⟩ = some (.slice none 0 0) := (b_ BK157.out 2).trans rfl
        have hcz60_3 : wc.cell? ⟨gb157, 3, none⟩ = some (.slice none 0 0) := (b_ BK157.out 3).trans rfl
        have hcz60_4 : wc.cell? ⟨gb157, 4, none⟩ = some (.slice none 0 0) := (b_ BK157.out 4).trans rfl
        have hfz60_0 := a_ BK157.out 0
        have hfz60_1 := a_ BK157.out 1
        have hfz60_2 := a_ BK157.out 2
        have hfz60_3 := a_ BK157.out 3
        have hfz60_4 := a_ BK157.out 4
        go_wp2
        refine bodyPost_ret (results_ct rfl _ _ gb157 57 #[.int .i64 0, .int .i64 0, .slice none 0 0, .slice none 0 0, .slice none 0 0] (0, 0) _ rfl (by refine bh_ (cs := #[.int .i64 0, .int .i64 0, .slice none 0 0, .slice none 0 0, .slice none 0 0]) ?_ 4 _ rfl; refine bh_ (cs := #[.int .i64 0, .int .i64 0, .slice none 0 0, .slice none 0 0, .slice none 0 0]) ?_ 3 _ rfl; refine bh_ (cs := #[.int .i64 0, .int .i64 0, .slice none 0 0, .slice none 0 0, .slice none 0 0]) ?_ 2 _ rfl; refine bh_ (cs := #[.int .i64 0, .int .i64 0, .slice none 0 0, .slice none 0 0, .slice none 0 0]) ?_ 1 _ rfl; refine bh_ (cs := #[.int .i64 0, .int .i64 0, .slice none 0 0, .slice none 0 0, .slice none 0 0]) ?_ 0 _ rfl; exact BK157.out) Tryz.underlying57 rfl (by kernel_rfl)) rfl ?_
        exact ⟨w, HBC.out, _, _, _, by first | rfl | (simp [i_, g_] <;> rfl) | (simp [*, i_, g_] <;> rfl), by first | exact Kd.R_nil _ _ _ _ _ | exact Kd.N_nil _ _ _ _ _ | exact Kd.V_nil _ _ _ _ _ | exact Kd.Q_nil _ _ _ _ _ | exact Kd.S_nil _ _ _ _ _, by first | exact Kd.R_nil _ _ _ _ _ | exact Kd.N_nil _ _ _ _ _ | exact Kd.V_nil _ _ _ _ _ | exact Kd.Q_nil _ _ _ _ _ | exact Kd.S_nil _ _ _ _ _, by first | exact Kd.S_nil _ _ _ _ _ | exact Kd.N_nil _ _ _ _ _ | exact Kd.V_nil _ _ _ _ _ | exact Kd.Q_nil _ _ _ _ _ | exact Kd.R_nil _ _ _ _ _, by repeat (first | (with_reducible first | exact (cr_ HBC.out HB.out) | apply l_ | apply d_ | apply m_ | refine f_ ?_ (p_.ge HI158.out) | refine f_ ?_ GE157.out | refine f_ ?_ GE159.out) | exact (cr_ HBC.out HB.out))⟩
       ·rw [if_neg c56] at H
        have c56b0 : decide (x159001_1 < (a0.size : Int)) = false := decide_eq_false c56
        clear c56
        by_cases c61 : (a0.size : Int) > 4096
        ·rw [if_pos c61] at H
         have c61b0 : decide (4096 < (a0.size : Int)) = true := decide_eq_true c61
         have c61b1 : decide (4096 < a0.size) = true := decide_eq_true (by omega)
         clear c61
         simp only [Option.some.injEq, Prod.mk.injEq] at H
         obtain ⟨rfl, rfl, rfl, rfl, rfl, rfl⟩ := H
         obtain ⟨ASz62_0, cSz62_0, HGz62, hgz62, HSz62_0⟩ := HI158.out
         have hcz62_0 := cellS111_0 HGz62
         have hcz62_1 := cellS111_1 HGz62
         have hcz62_2 := cellS111_2 HGz62
         have hfz62_1 := a_ HGz62 1
         have hfz62_2 := a_ HGz62 2
         clear HGz62 hgz62
         have hnb63 := NB157_159.out
         have hnc63 := NB159_157.out
         have hnb64 := NB157_158.out
         have hnc64 := NB158_157.out
         have hcz65_0 : wc.cell? ⟨gb157, 0, none⟩ = some (.int .i64 0) := (b_ BK157.out 0).trans rfl
         have hcz65_1 : wc.cell? ⟨gb157, 1, none⟩ = some (.int .i64 0) := (b_ BK157.out 1).trans rfl
         have hcz65_2 : wc.cell? ⟨gb157, 2, none⟩ = some (.slice none 0 0) := (b_ BK157.out 2).trans rfl
         have hcz65_3 : wc.cell? ⟨gb157, 3, none⟩ = some (.slice none 0 0) := (b_ BK157.out 3).trans rfl
         have hcz65_4 : wc.cell? ⟨gb157, 4, none⟩ = some (.slice none 0 0) := (b_ BK157.out 4).trans rfl
         have hfz65_0 := a_ BK157.out 0
         have hfz65_1 := a_ BK157.out 1
         have hfz65_2 := a_ BK157.out 2
         have hfz65_3 := a_ BK157.out 3
         have hfz65_4 := a_ BK157.out 4
         go_wp2
         refine bodyPost_ret (results_ct rfl _ _ gb157 57 #[.int .i64 0, .int .i64 0, .slice none 0 0, .slice none 0 0, .slice none 0 0] (0, 0) _ rfl (by refine bh_ (cs := #[.int .i64 0, .int .i64 0, .slice none 0 0, .slice none 0 0, .slice none 0 0]) ?_ 4 _ rfl; refine bh_ (cs := #[.int .i64 0, .int .i64 0, .slice none 0 0, .slice none 0 0, .slice none 0 0]) ?_ 3 _ rfl; refine bh_ (cs := #[.int .i64 0, .int .i64 0, .slice none 0 0, .slice none 0 0, .slice none 0 0]) ?_ 2 _ rfl; refine bh_ (cs := #[.int .i64 0, .int .i64 0, .slice none 0 0, .slice none 0 0, .slice none 0 0]) ?_ 1 _ rfl; refine bh_ (cs := #[.int .i64 0, .int .i64 0, .slice none 0 0, .slice none 0 0, .slice none 0 0]) ?_ 0 _ rfl; exact BK157.out) Tryz.underlying57 rfl (by kernel_rfl)) rfl ?_
         exact ⟨w, HBC.out, _, _, _, by first | rfl | (simp [i_, g_] <;> rfl) | (simp [*, i_, g_] <;> rfl), by first | exact Kd.R_nil _ _ _ _ _ | exact Kd.N_nil _ _ _ _ _ | exact Kd.V_nil _ _ _ _ _ | exact Kd.Q_nil _ _ _ _ _ | exact Kd.S_nil _ _ _ _ _, by first | exact Kd.R_nil _ _ _ _ _ | exact Kd.N_nil _ _ _ _ _ | exact Kd.V_nil _ _ _ _ _ | exact Kd.Q_nil _ _ _ _ _ | exact Kd.S_nil _ _ _ _ _, by first | exact Kd.S_nil _ _ _ _ _ | exact Kd.N_nil _ _ _ _ _ | exact Kd.V_nil _ _ _ _ _ | exact Kd.Q_nil _ _ _ _ _ | exact Kd.R_nil _ _ _ _ _, by repeat (first | (with_reducible first | exact (cr_ HBC.out HB.out) | apply l_ | apply d_ | apply m_ | refine f_ ?_ (p_.ge HI158.out) | refine f_ ?_ GE157.out | refine f_ ?_ GE159.out) | exact (cr_ HBC.out HB.out))⟩
        ·rw [if_neg c61] at H
         have c61b0 : decide (4096 < (a0.size : Int)) = false := decide_eq_false c61
         have c61b1 : decide (4096 < a0.size) = false := decide_eq_false (by omega)
         clear c61
         simp only [Option.some.injEq, Prod.mk.injEq] at H
         obtain ⟨rfl, rfl, rfl, rfl, rfl, rfl⟩ := H
         obtain ⟨ASz66_0, cSz66_0, HGz66, hgz66, HSz66_0⟩ := HI158.out
         have hcz66_0 := cellS111_0 HGz66
         have hcz66_1 := cellS111_1 HGz66
         have hcz66_2 := cellS111_2 HGz66
         have hfz66_1 := a_ HGz66 1
         have hfz66_2 := a_ HGz66 2
         clear HGz66 hgz66
         have hnb67 := NB159_157.out
         have hnc67 := NB157_159.out
         have hnb68 := NB159_158.out
         have hnc68 := NB158_159.out
         have hcz69_0 : wc.cell? ⟨gb159, 0, none⟩ = some (.int .i64 t160) := (b_ BK159.out 0).trans rfl
         have hcz69_1 : wc.cell? ⟨gb159, 1, none⟩ = some (.int .i64 t163) := (b_ BK159.out 1).trans rfl
         have hcz69_2 : wc.cell? ⟨gb159, 2, none⟩ = some (.slice Ao18 t166.length co18) := (b_ BK159.out 2).trans rfl
         have hcz69_3 : wc.cell? ⟨gb159, 3, none⟩ = some (.slice Ao21 t171.length co21) := (b_ BK159.out 3).trans rfl
         have hcz69_4 : wc.cell? ⟨gb159, 4, none⟩ = some (u160004) := (b_ BK159.out 4).trans rfl
         have hfz69_0 := a_ BK159.out 0
         have hfz69_1 := a_ BK159.out 1
         have hfz69_2 := a_ BK159.out 2
         have hfz69_3 := a_ BK159.out 3
         have hfz69_4 := a_ BK159.out 4
         have hnb70 := NB157_158.out
         have hnc70 := NB158_157.out
         have hcz71_0 : wc.cell? ⟨gb157, 0, none⟩ = some (.int .i64 0) := (b_ BK157.out 0).trans rfl
         have hcz71_1 : wc.cell? ⟨gb157, 1, none⟩ = some (.int .i64 0) := (b_ BK157.out 1).trans rfl
         have hcz71_2 : wc.cell? ⟨gb157, 2, none⟩ = some (.slice none 0 0) := (b_ BK157.out 2).trans rfl
         have hcz71_3 : wc.cell? ⟨gb157, 3, none⟩ = some (.slice none 0 0) := (b_ BK157.out 3).trans rfl
         have hcz71_4 : wc.cell? ⟨gb157, 4, none⟩ = some (.slice none 0 0) := (b_ BK157.out 4).trans rfl
         have hfz71_0 := a_ BK157.out 0
         have hfz71_1 := a_ BK157.out 1
         have hfz71_2 := a_ BK157.out 2
         have hfz71_3 := a_ BK157.out 3
         have hfz71_4 := a_ BK157.out 4
         obtain ⟨Ao72, co72, eo72⟩ := Kd.S_slice HO_160004.out
         subst eo72
         go_wp2
         refine bodyPost_ret (results_ct rfl _ _ gb157 57 #[.int .i64 t160, .int .i64 t163, .slice Ao18 t166.length co18, .slice Ao21 t171.length co21, .slice Ao72 x160004_1.length co72] (0, 0) _ rfl (by refine bh_ (cs := #[.int .i64 t160, .int .i64 t163, .slice Ao18 t166.length co18, .slice Ao21 t171.length co21, .slice none 0 0]) ?_ 4 _ rfl; refine bh_ (cs := #[.int .i64 t160, .int .i64 t163, .slice Ao18 t166.length co18, .slice none 0 0, .slice none 0 0]) ?_ 3 _ rfl; refine bh_ (cs := #[.int .i64 t160, .int .i64 t163, .slice none 0 0, .slice none 0 0, .slice none 0 0]) ?_ 2 _ rfl; refine bh_ (cs := #[.int .i64 t160, .int .i64 0, .slice none 0 0, .slice none 0 0, .slice none 0 0]) ?_ 1 _ rfl; refine bh_ (cs := #[.int .i64 0, .int .i64 0, .slice none 0 0, .slice none 0 0, .slice none 0 0]) ?_ 0 _ rfl; exact BK157.out) Tryz.underlying57 rfl (by kernel_rfl)) rfl ?_
         exact ⟨w, HBC.out, _, _, _, by first | rfl | (simp [i_, g_] <;> rfl) | (simp [*, i_, g_] <;> rfl), Kd.R_mono (Kd.R_far (p := ⟨gb157, 4, none⟩) (Kd.R_far (p := ⟨gb157, 3, none⟩) (Kd.R_far (p := ⟨gb157, 2, none⟩) (Kd.R_far (p := ⟨gb157, 1, none⟩) (Kd.R_far (p := ⟨gb157, 0, none⟩) (Kd.R_types HO_160002.out BK157.out (by decide)) (fun _ hk => hk.2) (.int .i64 t160)) (fun _ hk => hk.2) (.int .i64 t163)) (fun _ hk => hk.2) (.slice Ao18 t166.length co18)) (fun _ hk => hk.2) (.slice Ao21 t171.length co21)) (fun _ hk => hk.2) (.slice Ao72 x160004_1.length co72)) (fun _ hk => hk.1), Kd.R_mono (Kd.R_far (p := ⟨gb157, 4, none⟩) (Kd.R_far (p := ⟨gb157, 3, none⟩) (Kd.R_far (p := ⟨gb157, 2, none⟩) (Kd.R_far (p := ⟨gb157, 1, none⟩) (Kd.R_far (p := ⟨gb157, 0, none⟩) (Kd.R_types HO_160003.out BK157.out (by decide)) (fun _ hk => hk.2) (.int .i64 t160)) (fun _ hk => hk.2) (.int .i64 t163)) (fun _ hk => hk.2) (.slice Ao18 t166.length co18)) (fun _ hk => hk.2) (.slice Ao21 t171.length co21)) (fun _ hk => hk.2) (.slice Ao72 x160004_1.length co72)) (fun _ hk => hk.1), Kd.S_mono (Kd.S_far (p := ⟨gb157, 4, none⟩) (Kd.S_far (p := ⟨gb157, 3, none⟩) (Kd.S_far (p := ⟨gb157, 2, none⟩) (Kd.S_far (p := ⟨gb157, 1, none⟩) (Kd.S_far (p := ⟨gb157, 0, none⟩) (Kd.S_types HO_160004.out BK157.out (by decide)) (fun _ hk => hk.2) (.int .i64 t160)) (fun _ hk => hk.2) (.int .i64 t163)) (fun _ hk => hk.2) (.slice Ao18 t166.length co18)) (fun _ hk => hk.2) (.slice Ao21 t171.length co21)) (fun _ hk => hk.2) (.slice Ao72 x160004_1.length co72)) (fun _ hk => ⟨hk.1.1, hk.1.2⟩), by repeat (first | (with_reducible first | exact (cr_ HBC.out HB.out) | apply l_ | apply d_ | apply m_ | refine f_ ?_ (p_.ge HI158.out) | refine f_ ?_ GE157.out | refine f_ ?_ GE159.out) | exact (cr_ HBC.out HB.out))⟩
def becketref12_GetAnswer.f (k : Nat) (a0 : ByteArray) : Option (Int × Int × List ByteArray × List ByteArray × (List (S107)) × Bool) := if a0.size ≤ 100000000 then ab_.f k a0 (bk_ a0) else none
theorem becketref12_GetAnswer.calls (k : Nat) (a0 : ByteArray) (r1 : Int) (r2 : Int) (r3 : List ByteArray) (r4 : List ByteArray) (r5 : List (S107)) (r6 : Bool) (w : World) (h : becketref12_GetAnswer.f k a0 = some (r1, r2, r3, r4, r5, r6)) :
  Calls Tryz.prog 27 #[.string a0] w fun e w' => ∃ v2_ v3_ v4_ : Value, e = .returned (.tuple #[.agg #[.int .i64 r1, .int .i64 r2, v2_, v3_, v4_], .bool r6]) ∧ Kd.R Kd.string 9 w' w.heap.size (fun k_ => some k_ ≠ (v3_ : Value).ownBlock) v2_ r3 ∧ Kd.R Kd.string 9 w' w.heap.size (fun k_ => some k_ ≠ (v2_ : Value).ownBlock) v3_ r4 ∧ Kd.S k107 107 w' w.heap.size (fun k_ => some k_ ≠ (v2_ : Value).ownBlock ∧ some k_ ≠ (v3_ : Value).ownBlock) v4_ r5 ∧ Below w.heap.size w w' := by
 unfold becketref12_GetAnswer.f at h
 split at h
 ·rename_i hz
  refine (ab_.callsX k a0 r1 r2 r3 r4 r5 r6 w hz h).mono ?_
  rintro e w' ⟨w2, hb, v2, v3, v4, he, h2, h3, h4, h5⟩
  exact ⟨v2, v3, v4, he, Kd.R_lower h2 hb.size, Kd.R_lower h3 hb.size, Kd.S_lower h4 hb.size, h5⟩
 ·cases h
end Go.Proofs.YtlcfcaokihoplaaGreatDoor.Mf
