/-
  The log's functions, each by its contract: put, Append, Torn. No condition is added.
-/
import Derived.Test.YtbnhoacchibbnaaLog2
import Derived.Lib.Hide
import Derived.BigRegion
namespace Go.Proofs.Ytbnhoacchibbnaa.Log
open Go.RowKit Go.Proofs.Ytbnhoacchibbnaa.Lw Go.Proofs.Ytbnhoacchibbnaa.Tape Go.Proofs.YtbnhoacchibbnaaW.PrintWords Go.Proofs.YtbnhoacchibbnaaW.PrintLast Go.Proofs.YtbnhoacchibbnaaW.PrintMore
attribute [local go_sem] eqlErr neqErr eqlErrNil neqErrNil
set_option linter.unusedVariables false
set_option linter.unusedSimpArgs false
theorem TapeTo.after {w w1 w' : World} {B : Nat} {ok : Nat → Prop} {g : Nat} {l : List Int} {s : Nat} (hB : B ≤ w.heap.size) (hb : Below w.heap.size w w1) (h : TapeTo w1 w' B ok g l s) : TapeTo w w' B ok g l s :=
  ⟨h.1.mono (fun k hk => hk.elim .inl (fun h2 => .inr (Nat.le_trans hb.size h2))), (Kept.of_below hb ok).then_ h.2.1 (fun k hk => .inl hk), (hb.mono hB).trans h.2.2⟩

theorem num_calls0 (x : Int) (r : List Int) (w : World) (h : wire_Num.f 20 [] x = some r) :
    Calls Try.prog 62 #[.slice none 0 0, .int .u64 x] w fun e w' => ∃ v0_ : Value, e = .returned (v0_) ∧ Kd.R (Kd.int .u8) 5 w' w.heap.size (fun _ => True) v0_ r ∧ Below w.heap.size w w' :=
  wire_Num.calls 20 none 0 [] x r w (Kd.C_nil _ _) (Nat.le_refl _) h
theorem log_put_torn (w : World) (B q g : Nat) (okL : Nat → Prop) (rs : List (List Int)) (hL : LogAt w B okL q g rs true) (A0 : Option Addr) (n0 c0 : Nat) :
    Calls Try.prog 49 #[.pointer (some ⟨q, 0, none⟩), .slice A0 n0 c0] w fun e w' => e = .returned (errW (some 6)) ∧ w = w' := by
  obtain ⟨Ar, cr, hbk, _⟩ := hL.open_
  have k2 : w.cell? ⟨q, 2, none⟩ = some (.bool true) := (blk_cell hbk 2).trans rfl
  clear hbk hL
  go_enter Try.func49, Try.ntmps49
  go_wp2
  go_ret
  exact ⟨rfl, rfl⟩

theorem log_put_bad (w : World) (B q g : Nat) (okL : Nat → Prop) (rs : List (List Int)) (hL : LogAt w B okL q g rs false) (A0 : Option Addr) (n0 c0 : Nat) (hbad : n0 < 1 ∨ 65536 < n0) :
    Calls Try.prog 49 #[.pointer (some ⟨q, 0, none⟩), .slice A0 n0 c0] w fun e w' => e = .returned (errW (some 1)) ∧ w = w' := by
  obtain ⟨Ar, cr, hbk, _⟩ := hL.open_
  have k2 : w.cell? ⟨q, 2, none⟩ = some (.bool false) := (blk_cell hbk 2).trans rfl
  clear hbk hL
  by_cases h1 : (n0 : Int) < 1
  · have hd : decide ((n0 : Int) < 1) = true := decide_eq_true h1
    clear hbad h1
    go_enter Try.func49, Try.ntmps49
    go_wp2
    go_ret
    exact ⟨rfl, rfl⟩
  · have h2 : (65536 : Int) < (n0 : Int) := by omega
    have hd : decide ((n0 : Int) < 1) = false := decide_eq_false h1
    have hd2 : decide ((65536 : Int) < (n0 : Int)) = true := decide_eq_true h2
    clear hbad h1 h2
    go_enter Try.func49, Try.ntmps49
    go_wp2
    go_ret
    exact ⟨rfl, rfl⟩

set_option maxHeartbeats 4000000 in
set_option maxRecDepth 100000 in
theorem log_put (w : World) (B q g : Nat) (okL okT : Nat → Prop) (rs : List (List Int)) (l : List Int) (s : Nat) (hL : LogAt w B okL q g rs false) (hT : TapeAt w B okT g l s) (hne : ∀ k, okL k → ¬ okT k) (hBw : B ≤ w.heap.size)
    (A0 : Option Addr) (c0 : Nat) (m : List Int) (hm : Kd.C (Kd.int .u8) w A0 m.length m) (h1 : 1 ≤ m.length) (h2 : m.length ≤ 65536) (hfit : l.length + (enc m.length ++ m).length ≤ 1048576) :
    Calls Try.prog 49 #[.pointer (some ⟨q, 0, none⟩), .slice A0 m.length c0] w fun e w' => e = .returned (errW none) ∧ TapeTo w w' B okT g (l ++ (enc m.length ++ m)) s := by
  obtain ⟨Ar, cr, hbk, hrs, hBq, hq⟩ := hL.open_
  have k2 : w.cell? ⟨q, 2, none⟩ = some (.bool false) := (blk_cell hbk 2).trans rfl
  have k0 : w.cell? ⟨q, 0, none⟩ = some (.pointer (some ⟨g, 0, none⟩)) := (blk_cell hbk 0).trans rfl
  have HQ : Hid (q < w.heap.size) := Lib.hid (blk_lt hbk)
  have hnum : wire_Num.f 20 [] (IntKind.u64.wrap (m.length : Int)) = some (enc m.length) := by
    rw [wu64 (by omega) (by omega), num_f [] m.length (by omega) (by simp) 20 (by omega), List.nil_append]
  have HN := Lib.hid hnum
  have HM := Lib.hid hm
  have HT := Lib.hid hT
  have HBw := Lib.hid hBw
  have HF := Lib.hid hfit
  have HNE := Lib.hid (hne q hq)
  have HLen : Hid ((enc m.length).length + m.length ≤ 140737488355328) := Lib.hid (by rw [List.length_append] at hfit; omega)
  have hd : decide ((m.length : Int) < 1) = false := decide_eq_false (by omega)
  have hd2 : decide ((65536 : Int) < (m.length : Int)) = false := decide_eq_false (by omega)
  clear hbk hrs hL hT hm hne hfit hnum h1 h2 hBq hBw
  go_enter Try.func49, Try.ntmps49
  go_wp2_with fail
  refine start_ (n := 12) (S := fun w' => w'.cell? ⟨q, 0, none⟩ = some (.pointer (some ⟨g, 0, none⟩))) (ds := []) #[false, false, false, false, false, false, false, false, false, false, false, false] (by kernel_rfl) rfl rfl (k0) (fun hHeld => ?_)
  refine pure_ (i := 0) (N := some 21) (v := ?_) (a' := ?_) #[true, false, false, false, false, false, false, false, false, false, false, false] rfl rfl (by kernel_rfl) (fun _ _ _ h => h) (Or.inl ⟨by rfl, ?_⟩) ?_ ?_
  rotate_left
  · intro w'
    go_simp
    with_reducible rfl
  rotate_left
  · simp only [Act.put, List.setIfInBounds_toArray, List.set_cons_zero, List.set_cons_succ, i64_w, i32_w]
    rfl
  refine pure_ (i := 1) (N := some 22) (v := ?_) (a' := ?_) #[true, true, false, false, false, false, false, false, false, false, false, false] rfl rfl (by kernel_rfl) (fun _ _ _ h => h) (Or.inl ⟨by rfl, ?_⟩) ?_ ?_
  rotate_left
  · intro w'
    go_simp
    with_reducible rfl
  rotate_left
  · simp only [Act.put, List.setIfInBounds_toArray, List.set_cons_zero, List.set_cons_succ, i64_w, i32_w]
    rfl
  refine pure_ (i := 2) (N := some 23) (v := ?_) (a' := ?_) #[true, true, true, false, false, false, false, false, false, false, false, false] rfl rfl (by kernel_rfl) (fun _ _ _ h => h) (Or.inl ⟨by rfl, ?_⟩) ?_ ?_
  rotate_left
  · intro w'
    go_simp
    with_reducible rfl
  rotate_left
  · simp only [Act.put, List.setIfInBounds_toArray, List.set_cons_zero, List.set_cons_succ, i64_w, i32_w]
    rfl
  refine pure_ (i := 4) (N := some 25) (v := ?_) (a' := ?_) #[true, true, true, false, true, false, false, false, false, false, false, false] rfl rfl (by kernel_rfl) (fun _ _ _ h => h) (Or.inl ⟨by rfl, ?_⟩) ?_ ?_
  rotate_left
  · intro w'
    go_simp
    with_reducible rfl
  rotate_left
  · simp only [Act.put, List.setIfInBounds_toArray, List.set_cons_zero, List.set_cons_succ, i64_w, i32_w]
    rfl
  refine pure_ (i := 5) (N := some 26) (v := ?_) (a' := ?_) #[true, true, true, false, true, true, false, false, false, false, false, false] rfl rfl (by kernel_rfl) (fun _ _ _ h => h) (Or.inl ⟨by rfl, ?_⟩) ?_ ?_
  rotate_left
  · intro w'
    go_simp
    with_reducible rfl
  rotate_left
  · simp only [Act.put, List.setIfInBounds_toArray, List.set_cons_zero, List.set_cons_succ, i64_w, i32_w]
    rfl
  refine pure_ (i := 6) (N := some 27) (v := ?_) (a' := ?_) #[true, true, true, false, true, true, true, false, false, false, false, false] rfl rfl (by kernel_rfl) (fun _ _ _ h => h) (Or.inl ⟨by rfl, ?_⟩) ?_ ?_
  rotate_left
  · intro w'
    go_simp
    with_reducible rfl
  rotate_left
  · simp only [Act.put, List.setIfInBounds_toArray, List.set_cons_zero, List.set_cons_succ, i64_w, i32_w]
    rfl
  refine pure_ (i := 8) (N := some 29) (v := ?_) (a' := ?_) #[true, true, true, false, true, true, true, false, true, false, false, false] rfl rfl (by kernel_rfl) (fun _ _ _ h => h) (Or.inl ⟨by rfl, ?_⟩) ?_ ?_
  rotate_left
  · intro w'
    go_simp
    with_reducible rfl
  rotate_left
  · simp only [Act.put, List.setIfInBounds_toArray, List.set_cons_zero, List.set_cons_succ, i64_w, i32_w]
    rfl
  refine take_ (i := 3) (N := some 24) (v := ?_) (a' := ?_) #[true, true, true, true, true, true, true, false, true, false, false, false] rfl rfl (by kernel_rfl) (fun _ _ _ h => h) (Or.inl ⟨by rfl, ?_⟩) hHeld ?_ ?_
  rotate_left
  · intro w' s0
    go_simp
    with_reducible rfl
  rotate_left
  · simp only [Act.put, List.setIfInBounds_toArray, List.set_cons_zero, List.set_cons_succ, i64_w, i32_w]
    rfl
  refine one_ (i := 7) (N := some 28) #[true, true, true, true, true, true, true, true, true, false, false, false] rfl rfl (by kernel_rfl) (by decide) (fun K hK => ?_)
  refine goes_ Try.func62 (by kernel_rfl) rfl #[.slice none 0 0, .int .u64 (IntKind.u64.wrap (m.length : Int))] (by rfl) rfl rfl (by simp only [List.map_toArray, List.map_cons, List.map_nil]; rfl) ?_
  with_reducible refine (num_calls0 _ (enc m.length) _ HN.out).mono ?_
  rintro e w3 ⟨v3, rfl, hr, hb⟩
  refine ⟨_, rfl, ?_⟩
  replace hr : Kd.R (Kd.int .u8) 5 w3 w.heap.size (fun _ => True) v3 (enc m.length) := hr
  replace hb : Below w.heap.size w w3 := ((Below.refl w.heap.size w).drew).trans hb
  have HO3 := Lib.hid hr
  have HB3 := Lib.hid hb
  clear hr hb
  refine hK.out _ _ ((HB3.out.cell (p := ⟨q, 0, none⟩) HQ.out |>.trans k0)) (fun hHeld => ?_)
  clear hK K
  refine norm_ (a' := ?_) ?_ ?_
  rotate_left
  · show Act.put _ (some 28) _ = _
    simp only [Act.put, List.setIfInBounds_toArray, List.set_cons_zero, List.set_cons_succ, i64_w, i32_w]
    rfl
  refine one_ (i := 9) (N := some 30) #[true, true, true, true, true, true, true, true, true, true, false, false] rfl rfl (by kernel_rfl) (by decide) (fun K hK => ?_)
  refine Kd.R_append_rows_step (Kd.int .u8) (w0 := w) w.heap.size (by rfl) (.tmp 28) (.tmp 29) 22 5 (.int .u8 0) 1 (by rfl) Try.underlying22 (by kernel_rfl) rfl (by decide) (by omega) v3 (enc m.length) m A0 m.length c0 (fun k => w.heap.size ≤ k) (fun _ => False) rfl rfl ?own9 ?src9 (fun _ _ h => h) (fun _ h => h.elim) ?fresh9 HB3.out HB3.out.size ?len9 ?_
  case own9 => exact Kd.R_mono (Kd.R_bound HO3.out) (fun k hk => hk.2.1)
  case src9 => exact Kd.C_below HM.out HB3.out
  case fresh9 => exact fun k hk => Nat.le_trans HB3.out.size hk
  case len9 => have := HLen.out; omega
  intro v4 w4 hown hbel hgr hat
  have HO4 := Lib.hid hown
  have HB4 := Lib.hid hbel
  clear hown hbel hgr hat
  refine hK.out _ _ ((HB4.out.cell (p := ⟨q, 0, none⟩) HQ.out |>.trans k0)) (fun hHeld => ?_)
  clear hK K
  refine norm_ (a' := ?_) ?_ ?_
  rotate_left
  · show Act.put _ (some 30) _ = _
    simp only [Act.put, List.setIfInBounds_toArray, List.set_cons_zero, List.set_cons_succ, i64_w, i32_w]
    rfl
  refine one_ (i := 10) (N := some 31) #[true, true, true, true, true, true, true, true, true, true, true, false] rfl rfl (by kernel_rfl) (by decide) (fun K hK => ?_)
  obtain ⟨A4, c4, rfl⟩ := Kd.R_slice HO4.out
  refine goes_ Try.func16 (by kernel_rfl) rfl #[.pointer (some ⟨g, 0, none⟩), .slice A4 (enc m.length ++ m).length c4] (by rfl) rfl rfl (by simp only [List.map_toArray, List.map_cons, List.map_nil]; rfl) ?_
  with_reducible refine (tape_Append _ B okT g l s (HT.out.below HB4.out) (Nat.le_trans HBw.out HB4.out.size) A4 c4 (enc m.length ++ m) (Kd.R_reads' HO4.out).2.2 HF.out).mono ?_
  rintro e w5 ⟨rfl, ht⟩
  refine ⟨_, rfl, ?_⟩
  have HT5 := Lib.hid ht
  clear ht
  refine hK.out _ _ ((cell_kept (HB4.out.cell (p := ⟨q, 0, none⟩) HQ.out |>.trans k0) HT5.out.2.1 HNE.out)) (fun hHeld => ?_)
  clear hK K
  refine norm_ (a' := ?_) ?_ ?_
  rotate_left
  · show Act.put _ (some 31) _ = _
    simp only [Act.put, List.setIfInBounds_toArray, List.set_cons_zero, List.set_cons_succ, i64_w, i32_w]
    rfl
  refine pure_ (i := 11) (N := some 4) (v := ?_) (a' := ?_) #[true, true, true, true, true, true, true, true, true, true, true, true] rfl rfl (by kernel_rfl) (fun _ _ _ h => h) (Or.inl ⟨by rfl, ?_⟩) ?_ ?_
  rotate_left
  · intro w'
    go_simp
    with_reducible rfl
  rotate_left
  · simp only [Act.put, List.setIfInBounds_toArray, List.set_cons_zero, List.set_cons_succ, i64_w, i32_w]
    rfl
  refine done_ (by kernel_rfl) ?_

  go_wp2_with fail
  go_ret
  exact ⟨rfl, TapeTo.after HBw.out HB4.out HT5.out⟩

/-- What an operation on a log and its tape leaves. -/
def LogTo (w w' : World) (B q g : Nat) (okL okT : Nat → Prop) (rs : List (List Int)) (torn : Bool) (l : List Int) (s : Nat) : Prop :=
  ∃ okL' okT' : Nat → Prop, LogAt w' B okL' q g rs torn ∧ TapeAt w' B okT' g l s ∧ (∀ k, okL' k → ¬ okT' k) ∧ (∀ k, okL' k → okL k ∨ w.heap.size ≤ k) ∧ (∀ k, okT' k → okT k ∨ w.heap.size ≤ k) ∧ Kept w w' (fun k => okL k ∨ okT k) ∧ Below B w w'

set_option maxHeartbeats 4000000 in
set_option maxRecDepth 100000 in
theorem log_Append (w : World) (B q g : Nat) (okL okT : Nat → Prop) (rs : List (List Int)) (l : List Int) (s : Nat) (hL : LogAt w B okL q g rs false) (hT : TapeAt w B okT g l s) (hne : ∀ k, okL k → ¬ okT k) (hBw : B ≤ w.heap.size) (hrl : rs.length ≤ 2000000)
    (A0 : Option Addr) (c0 : Nat) (m : List Int) (hm : ∀ w', Kept w w' okT → Below B w w' → Kd.C (Kd.int .u8) w' A0 m.length m) (hmc : m.length ≤ c0) (h1 : 1 ≤ m.length) (h2 : m.length ≤ 65536) (hfit : l.length + (enc m.length ++ m).length ≤ 1048576) :
    Calls Try.prog 21 #[.pointer (some ⟨q, 0, none⟩), .slice A0 m.length c0] w fun e w' => e = .returned .nilIface ∧ LogTo w w' B q g okL okT (rs ++ [m]) false (l ++ (enc m.length ++ m)) (l ++ (enc m.length ++ m)).length := by
  have HL := Lib.hid hL.bound
  have HT := Lib.hid hT.bound
  have HBw0 := Lib.hid hBw
  have HM0 := Lib.hid hm
  have HNE := Lib.hid hne
  have HRL := Lib.hid hrl
  have HMc := Lib.hid hmc
  have HPUT := Lib.hid (log_put w B q g okL okT rs l s hL hT hne hBw A0 c0 m (hm w (Kept.refl _ _) (Below.refl _ _)) h1 h2 hfit)
  have HH2 := Lib.hid h2
  clear hL hT hne hm hrl hBw hmc h1 h2 hfit
  go_enter Try.func21, Try.ntmps21
  go_wp2_with fail
  refine HPUT.out.mono ?_
  rintro e w1 ⟨rfl, ht⟩
  rw [errW_none]
  have HT1 := Lib.hid ht
  have HL1 := Lib.hid (HL.out.kept ht.2.1 (fun k hk h2 => HNE.out k hk.1 h2))
  clear ht HPUT
  obtain ⟨Ar, cr, hbk, hrs, hBq, hq⟩ := HL1.out.open_
  have k0 : w1.cell? ⟨q, 0, none⟩ = some (.pointer (some ⟨g, 0, none⟩)) := (blk_cell hbk 0).trans rfl
  clear hbk hrs hBq hq
  go_wp2_with fail
  refine (tape_Sync w1 B _ g _ s HT1.out.1).mono ?_
  rintro e w2 ⟨rfl, ht⟩
  have hb2 : w.heap.size ≤ w2.heap.size := Nat.le_trans HT1.out.2.1.1 ht.2.1.1
  have hL2 : LogAt w2 B (fun k => okL k ∧ B ≤ k ∧ k < w.heap.size) q g rs false := HL1.out.kept ht.2.1 (fun k hk h2 => h2.elim (HNE.out k hk.1) (fun h3 => by have := hk.2.2; omega))
  have hM2 : Kd.C (Kd.int .u8) w2 A0 m.length m := HM0.out w2 (HT1.out.2.1.then_ ht.2.1 (fun k hk => hk)) (HT1.out.2.2.trans ht.2.2)
  have HT2 := Lib.hid ht
  have HS2 := Lib.hid hb2
  clear ht HL1 k0 hb2
  obtain ⟨Ar, cr, hbk, hrs, hBq, hq⟩ := hL2.open_
  have k1 : w2.cell? ⟨q, 1, none⟩ = some (.slice Ar rs.length cr) := (blk_cell hbk 1).trans rfl
  have HQ : Hid (q < w2.heap.size) := Lib.hid (blk_lt hbk)
  have HBw : Hid (B ≤ w2.heap.size) := Lib.hid (Nat.le_trans HBw0.out HS2.out)
  have HM := Lib.hid hM2
  have HBK := Lib.hid hbk
  have HR := Lib.hid hrs
  have HNo : Hid (some q ≠ (Value.slice Ar rs.length cr).ownBlock) := Lib.hid (fun e => (hrs.1 q e.symm).2 rfl)
  have HLen : Hid ((rs.length + 1) * 24 ≤ 140737488355328) := Lib.hid (by have := HRL.out; omega)
  have HCl : Hid (slices_Clone_byte_byte.f m = some m) := Lib.hid (by unfold slices_Clone_byte_byte.f; rw [if_pos (by have := HH2.out; omega)])
  clear hbk hrs hL2 hM2 hBq hq
  go_wp2_with fail
  refine start_ (n := 12) (S := fun w' => w'.cell? ⟨q, 1, none⟩ = some (.slice Ar rs.length cr)) (ds := [11]) #[false, false, false, false, false, false, false, false, false, false, false, false] (by kernel_rfl) rfl rfl (k1) (fun hHeld => ?_)
  refine pure_ (i := 0) (N := some 17) (v := ?_) (a' := ?_) #[true, false, false, false, false, false, false, false, false, false, false, false] rfl rfl (by kernel_rfl) (fun _ _ _ h => h) (Or.inl ⟨by rfl, ?_⟩) ?_ ?_
  rotate_left
  · intro w'
    go_simp
    with_reducible rfl
  rotate_left
  · simp only [Act.put, List.setIfInBounds_toArray, List.set_cons_zero, List.set_cons_succ, i64_w, i32_w]
    rfl
  refine pure_ (i := 1) (N := some 18) (v := ?_) (a' := ?_) #[true, true, false, false, false, false, false, false, false, false, false, false] rfl rfl (by kernel_rfl) (fun _ _ _ h => h) (Or.inl ⟨by rfl, ?_⟩) ?_ ?_
  rotate_left
  · intro w'
    go_simp
    with_reducible rfl
  rotate_left
  · simp only [Act.put, List.setIfInBounds_toArray, List.set_cons_zero, List.set_cons_succ, i64_w, i32_w]
    rfl
  refine pure_ (i := 2) (N := some 19) (v := ?_) (a' := ?_) #[true, true, true, false, false, false, false, false, false, false, false, false] rfl rfl (by kernel_rfl) (fun _ _ _ h => h) (Or.inl ⟨by rfl, ?_⟩) ?_ ?_
  rotate_left
  · intro w'
    go_simp
    with_reducible rfl
  rotate_left
  · simp only [Act.put, List.setIfInBounds_toArray, List.set_cons_zero, List.set_cons_succ, i64_w, i32_w]
    rfl
  refine pure_ (i := 3) (N := some 20) (v := ?_) (a' := ?_) #[true, true, true, true, false, false, false, false, false, false, false, false] rfl rfl (by kernel_rfl) (fun _ _ _ h => h) (Or.inl ⟨by rfl, ?_⟩) ?_ ?_
  rotate_left
  · intro w'
    go_simp
    with_reducible rfl
  rotate_left
  · simp only [Act.put, List.setIfInBounds_toArray, List.set_cons_zero, List.set_cons_succ, i64_w, i32_w]
    rfl
  refine pure_ (i := 5) (N := some 22) (v := ?_) (a' := ?_) #[true, true, true, true, false, true, false, false, false, false, false, false] rfl rfl (by kernel_rfl) (fun _ _ _ h => h) (Or.inl ⟨by rfl, ?_⟩) ?_ ?_
  rotate_left
  · intro w'
    go_simp
    with_reducible rfl
  rotate_left
  · simp only [Act.put, List.setIfInBounds_toArray, List.set_cons_zero, List.set_cons_succ, i64_w, i32_w]
    rfl
  refine take_ (i := 4) (N := some 21) (v := ?_) (a' := ?_) #[true, true, true, true, true, true, false, false, false, false, false, false] rfl rfl (by kernel_rfl) (fun _ _ _ h => h) (Or.inl ⟨by rfl, ?_⟩) hHeld ?_ ?_
  rotate_left
  · intro w' s0
    go_simp
    with_reducible rfl
  rotate_left
  · simp only [Act.put, List.setIfInBounds_toArray, List.set_cons_zero, List.set_cons_succ, i64_w, i32_w]
    rfl
  refine one_ (i := 6) (N := some 23) #[true, true, true, true, true, true, true, false, false, false, false, false] rfl rfl (by kernel_rfl) (by decide) (fun K hK => ?_)
  refine goes_ Try.func48 (by kernel_rfl) rfl #[.slice A0 m.length c0] (by rfl) rfl rfl (by simp only [List.map_toArray, List.map_cons, List.map_nil]; rfl) ?_
  with_reducible refine (slices_Clone_byte_byte.calls A0 c0 m m _ (Kd.C_drew HM.out) HMc.out HCl.out).mono ?_
  rintro e w3 ⟨v3, rfl, hr, hb⟩
  refine ⟨_, rfl, ?_⟩
  replace hr : Kd.R (Kd.int .u8) 5 w3 w2.heap.size (fun _ => True) v3 m := hr
  replace hb : Below w2.heap.size w2 w3 := ((Below.refl w2.heap.size w2).drew).trans hb
  obtain ⟨A3, c3, rfl⟩ := Kd.R_slice hr
  have HO3 := Lib.hid hr
  have HB3 := Lib.hid hb
  clear hr hb
  refine hK.out _ _ ((HB3.out.cell (p := ⟨q, 1, none⟩) HQ.out |>.trans k1)) (fun hHeld => ?_)
  clear hK K
  refine norm_ (a' := ?_) ?_ ?_
  rotate_left
  · show Act.put _ (some 23) _ = _
    simp only [Act.put, List.setIfInBounds_toArray, List.set_cons_zero, List.set_cons_succ, i64_w, i32_w]
    rfl
  refine one_ (i := 7) (N := some 24) #[true, true, true, true, true, true, true, true, false, false, false, false] rfl rfl (by kernel_rfl) (by decide) (fun K hK => ?_)
  refine value_ (w1 := ?_) (v := ?_) (by rfl) rfl ?_ ?_
  rotate_left 2
  · go_simp
    constructor
    · rfl
    · rfl
  refine hK.out _ _ ((((HB3.out.alloc HB3.out.size _)).cell (p := ⟨q, 1, none⟩) HQ.out |>.trans k1)) (fun hHeld => ?_)
  clear hK K
  refine norm_ (a' := ?_) ?_ ?_
  rotate_left
  · show Act.put _ (some 24) _ = _
    simp only [Act.put, List.setIfInBounds_toArray, List.set_cons_zero, List.set_cons_succ, i64_w, i32_w]
    rfl
  refine one_ (i := 8) (N := some 25) #[true, true, true, true, true, true, true, true, true, false, false, false] rfl rfl (by kernel_rfl) (by decide) (fun K hK => ?_)
  refine Kd.R_append_step recK (w0 := w2) B (by rfl) (.tmp 21) (.tmp 24) 34 22 (.slice none 0 0) 24 (by rfl) Try.underlying34 (by kernel_rfl) rfl (by decide) (by omega) (.slice Ar rs.length cr) rs m [.slice A3 m.length c3] (fun k => ((okL k ∧ k < w.heap.size) ∨ w2.heap.size ≤ k) ∧ k ≠ q) (fun k => w2.heap.size ≤ k) rfl rfl ?aP ?aK ?aF ?aO ?aB ?aS ?aL ?_
  case aP => exact ⟨_, rfl, Kd.Q_of_R (Kd.R_lower (Kd.R_mono (Kd.R_bound HO3.out) (fun k hk => hk.2.1)) HBw.out)⟩
  case aK => exact fun k hk => ⟨⟨.inr hk, by have := HQ.out; have hk' : w2.heap.size ≤ k := hk; show k ≠ q; omega⟩, fun e => by have h1 := Kd.R_lt HR.out k e.symm; have hk' : w2.heap.size ≤ k := hk; omega⟩
  case aF => exact fun k hk => ⟨.inr (Nat.le_trans HB3.out.size hk), by have := HQ.out; have := HB3.out.size; have h3 : w2.heap.size ≤ w3.heap.size := this; omega⟩
  case aO => exact Kd.R_below (Kd.R_mono HR.out (fun k hk => ⟨.inl ⟨hk.1.1, hk.1.2.2⟩, hk.2⟩)) HB3.out
  case aB => exact HB3.out.mono HBw.out
  case aS => exact Nat.le_trans HBw.out HB3.out.size
  case aL => have := HLen.out; omega
  intro v4 w4 hown hbel hgr hat
  obtain ⟨A4, c4, rfl⟩ := Kd.R_slice hown
  rw [List.length_append, List.length_singleton] at hown
  rw [List.length_append, List.length_singleton]
  have HO4 := Lib.hid hown
  have HB4 := Lib.hid hbel
  have HG4 := Lib.hid hgr
  have HQ4 := Lib.hid (blk_grown (blk_below HBK.out HB3.out) hgr HNo.out)
  clear hown hbel hgr hat
  refine hK.out _ _ (((blk_cell HQ4.out 1).trans rfl)) (fun hHeld => ?_)
  clear hK K
  refine norm_ (a' := ?_) ?_ ?_
  rotate_left
  · show Act.put _ (some 25) _ = _
    simp only [Act.put, List.setIfInBounds_toArray, List.set_cons_zero, List.set_cons_succ, i64_w, i32_w]
    rfl
  refine pure_ (i := 9) (N := some 26) (v := ?_) (a' := ?_) #[true, true, true, true, true, true, true, true, true, true, false, false] rfl rfl (by kernel_rfl) (fun _ _ _ h => h) (Or.inl ⟨by rfl, ?_⟩) ?_ ?_
  rotate_left
  · intro w'
    go_simp
    with_reducible rfl
  rotate_left
  · simp only [Act.put, List.setIfInBounds_toArray, List.set_cons_zero, List.set_cons_succ, i64_w, i32_w]
    rfl
  refine pure_ (i := 10) (N := some 27) (v := ?_) (a' := ?_) #[true, true, true, true, true, true, true, true, true, true, true, false] rfl rfl (by kernel_rfl) (fun _ _ _ h => h) (Or.inl ⟨by rfl, ?_⟩) ?_ ?_
  rotate_left
  · intro w'
    go_simp
    with_reducible rfl
  rotate_left
  · simp only [Act.put, List.setIfInBounds_toArray, List.set_cons_zero, List.set_cons_succ, i64_w, i32_w]
    rfl
  refine last_ (i := 11) (N := none) #[true, true, true, true, true, true, true, true, true, true, true, true] rfl rfl (by kernel_rfl) (by decide) (fun K hK => ?_)
  have k4 := ((blk_cell HQ4.out 1).trans rfl : w4.cell? ⟨q, 1, none⟩ = some (.slice Ar rs.length cr))
  have f4 := blk_frozen HQ4.out 1
  refine skip_ (w1 := ?_) (by rfl) rfl ?_ ?_
  rotate_left
  · go_simp
    rfl
  refine hK.out _ _ ?_
  clear hK K
  refine done_ (by kernel_rfl) ?_

  have hfin : LogTo w (w4.setCell ⟨q, 1, none⟩ (.slice A4 (rs.length + 1) c4)) B q g okL okT (rs ++ [m]) false (l ++ (enc m.length ++ m)) (l ++ (enc m.length ++ m)).length := by
      have hBq := HL.out.1
      have hq := HL.out.2.1
      have hK : Kept w2 (w4.setCell ⟨q, 1, none⟩ (.slice A4 (rs.length + 1) c4)) (fun k => okL k ∧ B ≤ k ∧ k < w.heap.size) :=
        (Kept.of_grown HG4.out (Kept.of_below HB3.out _) (fun k hk => .inl (HR.out.1 k hk).1)).setCell (.inl hq) _
      refine ⟨fun k => (okL k ∧ k < w.heap.size) ∨ w2.heap.size ≤ k, fun k => (okT k ∨ w.heap.size ≤ k) ∧ k < w2.heap.size, ⟨hBq, .inl ⟨hq.1, hq.2.2⟩, .slice A4 (rs.length + 1) c4, ?_, ?_⟩, ?_, ?_, ?_, ?_, ?_, ?_⟩
      · have := blk_set HQ4.out 1 (.slice A4 (rs.length + 1) c4)
        simpa using this
      · exact Kd.R_far (p := ⟨q, 1, none⟩) HO4.out (fun k hk => hk.2) _
      · refine ((HT2.out.1.bound).mono (fun k hk => ⟨?_, hk.2.2⟩)).kept hK (fun k hk h2 => ?_)
        · rcases hk.1 with h | h
          · exact HNE.out k h2.1 h
          · have := h2.2.2; omega
        · rcases hk.1 with (h | h) | h
          · exact .inl h
          · exact .inr h
          · exact .inr (Nat.le_trans HT1.out.2.1.1 h)
      · intro k hk h2
        rcases hk with hk | hk
        · rcases h2.1 with h | h
          · exact HNE.out k hk.1 h
          · have := hk.2; omega
        · have := h2.2; omega
      · intro k hk
        rcases hk with hk | hk
        · exact .inl hk.1
        · exact .inr (Nat.le_trans HS2.out hk)
      · intro k hk
        exact hk.1
      · refine ((HT1.out.2.1.mono (S' := fun k => okL k ∨ okT k) (fun k hk => .inr hk)).then_ HT2.out.2.1 (fun k hk => ?_)).then_ hK (fun k hk => .inl (.inl hk.1))
        rcases hk with h | h
        · exact .inl (.inr h)
        · exact .inr h
      · exact (HT1.out.2.2.trans HT2.out.2.2).trans (HB4.out.setCell hBq _)
  have HFin := Lib.hid hfin
  clear hfin
  go_wp2_with fail
  go_ret
  exact ⟨rfl, HFin.out⟩

set_option maxHeartbeats 4000000 in
set_option maxRecDepth 100000 in
theorem log_Torn (w : World) (B q g : Nat) (okL okT : Nat → Prop) (rs : List (List Int)) (l : List Int) (s : Nat) (hL : LogAt w B okL q g rs false) (hT : TapeAt w B okT g l s) (hne : ∀ k, okL k → ¬ okT k) (hBw : B ≤ w.heap.size)
    (A0 : Option Addr) (c0 : Nat) (m : List Int) (hm : Kd.C (Kd.int .u8) w A0 m.length m) (h1 : 1 ≤ m.length) (h2 : m.length ≤ 65536) (hfit : l.length + (enc m.length ++ m).length ≤ 1048576) (n : Int) (hn : n ≤ 9223372036854775807) :
    Calls Try.prog 22 #[.pointer (some ⟨q, 0, none⟩), .slice A0 m.length c0, .int .i64 n] w fun e w' => e = .returned .nilIface ∧ LogTo w w' B q g okL okT rs true ((l ++ (enc m.length ++ m)).take (crashLeft (l ++ (enc m.length ++ m)).length s n)) (crashLeft (l ++ (enc m.length ++ m)).length s n) := by
  have HL := Lib.hid hL.bound
  have HBw0 := Lib.hid hBw
  have HNE := Lib.hid hne
  have HN := Lib.hid hn
  have HPUT := Lib.hid (log_put w B q g okL okT rs l s hL hT hne hBw A0 c0 m hm h1 h2 hfit)
  clear hL hT hne hm hBw h1 h2 hfit hn
  go_enter Try.func22, Try.ntmps22
  go_wp2_with fail
  refine HPUT.out.mono ?_
  rintro e w1 ⟨rfl, ht⟩
  rw [errW_none]
  have HT1 := Lib.hid ht
  have HL1 := Lib.hid (HL.out.kept ht.2.1 (fun k hk h2 => HNE.out k hk.1 h2))
  clear ht HPUT
  obtain ⟨Ar, cr, hbk, hrs, hBq, hq⟩ := HL1.out.open_
  have k0 : w1.cell? ⟨q, 0, none⟩ = some (.pointer (some ⟨g, 0, none⟩)) := (blk_cell hbk 0).trans rfl
  clear hbk hrs hBq hq
  go_wp2_with fail
  refine (tape_Crash w1 B _ g _ s HT1.out.1 n HN.out).mono ?_
  rintro e w2 ⟨rfl, ht⟩
  have hb2 : w.heap.size ≤ w2.heap.size := Nat.le_trans HT1.out.2.1.1 ht.2.1.1
  have hL2 : LogAt w2 B (fun k => okL k ∧ B ≤ k ∧ k < w.heap.size) q g rs false := HL1.out.kept ht.2.1 (fun k hk h2 => h2.elim (HNE.out k hk.1) (fun h3 => by have := hk.2.2; omega))
  have HT2 := Lib.hid ht
  have HS2 := Lib.hid hb2
  clear ht HL1 k0 hb2
  obtain ⟨Ar, cr, hbk, hrs, hBq, hq⟩ := hL2.open_
  have k2 : w2.cell? ⟨q, 2, none⟩ = some (.bool false) := (blk_cell hbk 2).trans rfl
  have f2 := blk_frozen hbk 2
  have HBK := Lib.hid hbk
  have HR := Lib.hid hrs
  clear hbk hrs hL2 hBq hq
  have hfin : LogTo w (w2.setCell ⟨q, 2, none⟩ (.bool true)) B q g okL okT rs true ((l ++ (enc m.length ++ m)).take (crashLeft (l ++ (enc m.length ++ m)).length s n)) (crashLeft (l ++ (enc m.length ++ m)).length s n) := by
      have hBq := HL.out.1
      have hq := HL.out.2.1
      have hK : Kept w2 (w2.setCell ⟨q, 2, none⟩ (.bool true)) (fun k => okL k ∧ B ≤ k ∧ k < w.heap.size) := (Kept.refl _ _).setCell (.inl hq) _
      refine ⟨fun k => okL k ∧ k < w.heap.size, fun k => okT k ∨ w.heap.size ≤ k, ⟨hBq, ⟨hq.1, hq.2.2⟩, .slice Ar rs.length cr, ?_, ?_⟩, ?_, ?_, ?_, ?_, ?_, ?_⟩
      · have := blk_set HBK.out 2 (.bool true)
        simpa using this
      · exact Kd.R_far (p := ⟨q, 2, none⟩) (Kd.R_mono HR.out (fun k hk => ⟨⟨hk.1.1, hk.1.2.2⟩, hk.2⟩)) (fun k hk => hk.2) _
      · refine (HT2.out.1.mono (fun k hk => ?_)).kept hK (fun k hk h2 => ?_)
        · rcases hk with (h | h) | h
          · exact .inl h
          · exact .inr h
          · exact .inr (Nat.le_trans HT1.out.2.1.1 h)
        · rcases hk with h | h
          · exact HNE.out k h2.1 h
          · have := h2.2.2; omega
      · intro k hk h2
        rcases h2 with h | h
        · exact HNE.out k hk.1 h
        · have := hk.2; omega
      · intro k hk
        exact .inl hk.1
      · intro k hk
        exact hk
      · refine ((HT1.out.2.1.mono (S' := fun k => okL k ∨ okT k) (fun k hk => .inr hk)).then_ HT2.out.2.1 (fun k hk => ?_)).then_ hK (fun k hk => .inl (.inl hk.1))
        rcases hk with h | h
        · exact .inl (.inr h)
        · exact .inr h
      · exact (HT1.out.2.2.trans HT2.out.2.2).trans ((Below.refl _ _).setCell hBq _)
  have HFin := Lib.hid hfin
  clear hfin
  go_wp2_with fail
  go_ret
  exact ⟨rfl, HFin.out⟩

theorem log_Append_no (w : World) (B q g : Nat) (okL : Nat → Prop) (rs : List (List Int)) (torn : Bool) (hL : LogAt w B okL q g rs torn) (A0 : Option Addr) (n0 c0 : Nat) (r : Int) (h : (torn = true ∧ r = 6) ∨ (torn = false ∧ (n0 < 1 ∨ 65536 < n0) ∧ r = 1)) :
    Calls Try.prog 21 #[.pointer (some ⟨q, 0, none⟩), .slice A0 n0 c0] w fun e w' => e = .returned (errW (some r)) ∧ w = w' := by
  have hp : Calls Try.prog 49 #[.pointer (some ⟨q, 0, none⟩), .slice A0 n0 c0] w fun e w' => e = .returned (errW (some r)) ∧ w = w' := by
    rcases h with ⟨rfl, rfl⟩ | ⟨rfl, h, rfl⟩
    · exact log_put_torn w B q g okL rs hL A0 n0 c0
    · exact log_put_bad w B q g okL rs hL A0 n0 c0 h
  have HP := Lib.hid hp
  clear hp hL h
  go_enter Try.func21, Try.ntmps21
  go_wp2_with fail
  refine HP.out.mono ?_
  rintro e w1 ⟨rfl, rfl⟩
  rw [errW_some]
  go_wp2
  go_ret
  exact ⟨rfl, rfl⟩

theorem log_Torn_no (w : World) (B q g : Nat) (okL : Nat → Prop) (rs : List (List Int)) (torn : Bool) (hL : LogAt w B okL q g rs torn) (A0 : Option Addr) (n0 c0 : Nat) (n r : Int) (h : (torn = true ∧ r = 6) ∨ (torn = false ∧ (n0 < 1 ∨ 65536 < n0) ∧ r = 1)) :
    Calls Try.prog 22 #[.pointer (some ⟨q, 0, none⟩), .slice A0 n0 c0, .int .i64 n] w fun e w' => e = .returned (errW (some r)) ∧ w = w' := by
  have hp : Calls Try.prog 49 #[.pointer (some ⟨q, 0, none⟩), .slice A0 n0 c0] w fun e w' => e = .returned (errW (some r)) ∧ w = w' := by
    rcases h with ⟨rfl, rfl⟩ | ⟨rfl, h, rfl⟩
    · exact log_put_torn w B q g okL rs hL A0 n0 c0
    · exact log_put_bad w B q g okL rs hL A0 n0 c0 h
  have HP := Lib.hid hp
  clear hp hL h
  go_enter Try.func22, Try.ntmps22
  go_wp2_with fail
  refine HP.out.mono ?_
  rintro e w1 ⟨rfl, rfl⟩
  rw [errW_some]
  go_wp2
  go_ret
  exact ⟨rfl, rfl⟩
end Go.Proofs.Ytbnhoacchibbnaa.Log
