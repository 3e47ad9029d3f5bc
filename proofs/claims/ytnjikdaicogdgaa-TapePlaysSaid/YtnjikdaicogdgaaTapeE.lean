import Derived.Test.YtnjikdaicogdgaaTapeC
namespace Go.Proofs.Ytnjikdaicogdgaa.Tape
open Go.RowKit Go.Proofs.Ytnjikdaicogdgaa.La Go.Proofs.YtnjikdaicogdgaaW.PrintWords Go.Proofs.YtnjikdaicogdgaaW.PrintLast Go.Proofs.YtnjikdaicogdgaaW.PrintMore
attribute [local go_sem] eqlErr neqErr eqlErrNil neqErrNil
set_option linter.unusedVariables false
theorem nil_R (W : World) : Kd.R (Kd.int .u8) 5 (W.alloc (.cells #[] 5)) W.heap.size (fun k => k = W.heap.size) (.slice (some ⟨W.heap.size, 0, none⟩) 0 0) [] := by
  refine ⟨fun k hk => ?_, [], ?_, Reps.none _ _⟩
  · have : W.heap.size = k := by simpa [Value.ownBlock] using hk
    exact this.symm
  · exact World.ownsRow_lit (base := W.heap.size) (e := 5) (size := 1) W #[] 0 (Nat.le_refl _) (by simp [maxLen]) (by simp)

set_option maxHeartbeats 8000000 in
set_option maxRecDepth 100000 in
theorem keeps_calls (A0 : Option Addr) (c0 : Nat) (l0 : List Int) (A1 : Option Addr) (c1 : Nat) (l1 : List Int) (n : Int) (w : World) (h0 : Kd.C (Kd.int .u8) w A0 l0.length l0) (h1 : Kd.C (Kd.int .u8) w A1 l1.length l1) (k0 : l0.length ≤ c0) (k1 : l1.length ≤ c1) (hn2 : n ≤ 9223372036854775807) :
    Calls Try.prog 4 #[.slice A0 l0.length c0, .slice A1 l1.length c1, .int .i64 n] w fun e w' => e = .returned (.bool true) ∧ Below w.heap.size w w' := by
  have H0 := Lib.hid h0
  have H1 := Lib.hid h1
  clear h0 h1
  by_cases g0 : 2000 < l0.length
  · have g0' : (2000 : Int) < (l0.length : Int) := by omega
    clear g0
    go_enter Try.func4, Try.ntmps4
    go_wp2_with fail
    refine (up_calls _).mono ?_
    rintro e w1 ⟨rfl, hb⟩
    have HB := Lib.hid hb
    clear hb
    go_wp2_with fail
    refine (ts_New _).mono ?_
    rintro e w2 ⟨rfl, ht⟩
    have HT := Lib.hid ht
    clear ht
    go_wp2
    go_ret
    exact ⟨rfl, HB.out.trans (HT.out.2.mono HB.out.size)⟩
  have g0' : ¬ ((2000 : Int) < (l0.length : Int)) := by omega
  by_cases g1 : 2000 < l1.length
  · have g1' : (2000 : Int) < (l1.length : Int) := by omega
    clear g0 g1
    go_enter Try.func4, Try.ntmps4
    go_wp2_with fail
    refine (up_calls _).mono ?_
    rintro e w1 ⟨rfl, hb⟩
    have HB := Lib.hid hb
    clear hb
    go_wp2_with fail
    refine (ts_New _).mono ?_
    rintro e w2 ⟨rfl, ht⟩
    have HT := Lib.hid ht
    clear ht
    go_wp2
    go_ret
    exact ⟨rfl, HB.out.trans (HT.out.2.mono HB.out.size)⟩
  have g1' : ¬ ((2000 : Int) < (l1.length : Int)) := by omega
  have G0 := Lib.hid g0
  have G1 := Lib.hid g1
  clear g0 g1
  go_enter Try.func4, Try.ntmps4
  go_wp2_with fail
  refine (up_calls _).mono ?_
  rintro e w1 ⟨rfl, hb⟩
  have HB := Lib.hid hb
  have H0' := Lib.hid (Kd.C_below H0.out hb)
  have H1' := Lib.hid (Kd.C_below H1.out hb)
  clear hb H0 H1
  go_wp2_with fail
  refine (ts_New _).mono ?_
  rintro e w2 ⟨rfl, ht⟩
  have HT := Lib.hid ht
  clear ht
  go_wp2_with (at_builtin; refine Kd.R_append_row (w0 := w2) (Value.int .u8) 0 (h1 := fun _ => rfl) w2.heap.size rfl (.tmp 35) (.tmp 36) 29 5 (.int .u8 0) 1 rfl Try.underlying29 (by kernel_rfl) rfl (by decide) (.slice (some ⟨w2.heap.size, 0, none⟩) 0 0) [] l0 A0 l0.length c0 (fun k => w2.heap.size ≤ k) rfl rfl ?fresh ?own ?src ((Below.refl _ _).alloc (Nat.le_refl _) _) (by simp) ?len ?go)
  case fresh => intro k hk; simp at hk; omega
  case own => exact Kd.R_mono (nil_R w2) (fun k hk => by omega)
  case src => exact Kd.C_alloc (Kd.C_below H0'.out HT.out.2) _
  case len => have := G0.out; simp; omega
  case go =>
    intro v1 w3 hown hbel hgr hat
    replace hown : Kd.R (Kd.int .u8) 5 w3 w2.heap.size (fun k => w2.heap.size ≤ k) v1 l0 := hown
    obtain ⟨Ao, co, rfl⟩ := Kd.R_slice hown
    have hT3 : TapeAt w3 w1.heap.size (fun k => k < w2.heap.size) w1.heap.size [] 0 := (HT.out.1.bound.mono (fun k h => h.2.2)).below hbel
    have hB3 : Below w1.heap.size w1 w3 := HT.out.2.trans (hbel.mono HT.out.2.size)
    have hO3 : Kd.R (Kd.int .u8) 5 w3 w2.heap.size (fun k => w2.heap.size ≤ k ∧ k < w3.heap.size) (.slice Ao l0.length co) l0 := Kd.R_mono (Kd.R_bound hown) (fun k h => ⟨h.1, h.2.2.1⟩)
    have HO3 := Lib.hid hO3
    have HT3 := Lib.hid hT3
    have HB3 := Lib.hid hB3
    have HX := Lib.hid (show w2.heap.size ≤ w3.heap.size from hbel.size)
    clear hown hbel hgr hat hT3 hB3 hO3
    go_wp2_with fail
    refine (tape_Append w3 _ _ _ _ _ HT3.out HB3.out.size Ao co l0 (Kd.R_reads' HO3.out).2.2 (by have := G0.out; simp; omega)).mono ?_
    rintro e w4 ⟨rfl, ht⟩
    rw [List.nil_append] at ht
    rw [errW_none]
    have HT4 := Lib.hid ht.1
    have HO4 := Lib.hid (Kd.R_kept HO3.out ht.2.1 (fun k h => by omega))
    have HB4 := Lib.hid (HB3.out.trans ht.2.2)
    clear ht HT3 HO3 HB3
    go_wp2_with fail
    have HG0 := Lib.hid g0'
    have HG1 := Lib.hid g1'
    go_loopg [11] l0.length (fun kq v11 w' => ∃ (xs : List Int) (i : Int), v11 = .int .i64 i ∧ Hid (i = l0.length - kq ∧ kq ≤ l0.length ∧ xs.length = l0.length) ∧ Hid (Kd.R (Kd.int .u8) 5 w' w2.heap.size (fun k => w2.heap.size ≤ k ∧ k < w3.heap.size) (.slice Ao l0.length co) xs) ∧ Hid (TapeAt w' w1.heap.size (fun k => k < w2.heap.size ∨ w3.heap.size ≤ k) w1.heap.size l0 0) ∧ Hid (Below w1.heap.size w1 w'))
    case atStart => exact ⟨l0, 0, rfl, Lib.hid ⟨by omega, by omega, rfl⟩, HO4, HT4, HB4⟩
    case round =>
      clear HO4 HT4 HB4 
      obtain ⟨xs, i, rfl, HI, HO, HT5, HB5⟩ := hrel
      cases gk with
      | zero =>
        have hi : i = (l0.length : Int) := by have := HI.out; omega
        subst hi
        have HT6 : Hid (TS w1 wr l0 0) := Lib.hid ⟨HT5.out.mono (fun _ _ => trivial), HB5.out⟩
        clear HO HT5 HB5 HI
        have HB6 := Lib.hid (HB.out.trans (HT6.out.2.mono HB.out.size))
        go_wp2_with fail
        refine (ts_Sync w1 _ _ _ HT6.out).mono ?_
        rintro e w5 ⟨rfl, ht⟩
        have HT7 := Lib.hid ht
        clear ht HT6
        go_wp2_with fail
        refine (ts_Append w1 _ _ _ HT7.out _ _ _ l1 rfl (Kd.C_below H1'.out HT7.out.2) (by have := G0.out; have := G1.out; omega)).mono ?_
        rintro e w6 ⟨rfl, ht⟩
        have HT8 := Lib.hid ht
        clear ht HT7
        go_wp2_with fail
        refine (ts_Crash w1 _ _ _ HT8.out n hn2).mono ?_
        rintro e w7 ⟨rfl, ht⟩
        generalize hx : (l0 ++ l1).take (crashLeft (l0 ++ l1).length l0.length n) = x at ht
        have hxl : crashLeft (l0 ++ l1).length l0.length n = x.length := by
          rw [← hx, List.length_take]; unfold crashLeft; simp; omega
        have hge : l0.length ≤ x.length := by rw [← hxl]; unfold crashLeft; simp; omega
        have hle : x.length ≤ l0.length + l1.length := by rw [← hxl]; unfold crashLeft; simp; omega
        have hx1 : x.take l0.length = l0 := by
          rw [← hx, List.take_take, hxl, Nat.min_eq_left hge, List.take_left']; rfl
        have hx2 : x.drop l0.length = l1.take (x.length - l0.length) := by
          conv => lhs; rw [← hx, List.drop_take, hxl, List.drop_left' rfl]
        rw [hxl] at ht
        have HT9 := Lib.hid ht
        have HX1 := Lib.hid hx1
        have HX2 := Lib.hid hx2
        clear ht HT8 hx hxl hx1 hx2
        go_wp2_with fail
        refine (ts_Bytes w1 _ _ _ HT9.out).mono ?_
        rintro e w8 ⟨Ax, cx, rfl, hr, ht, hb⟩
        have HT10 := Lib.hid ht
        have HXR := Lib.hid (Kd.R_bound hr)
        have HBx := Lib.hid hb
        have HX7 := Lib.hid HT9.out.2.size
        have HT10a : Hid (TapeAt w8 w1.heap.size (fun k => k < w7.heap.size) w1.heap.size x x.length) := Lib.hid ((HT9.out.1.bound.mono (fun k h => h.2.2)).below hb)
        have hlx : (l0.length : Int) ≤ (x.length : Int) := by omega
        have hly : (x.length : Int) ≤ (l0.length : Int) + (l1.length : Int) := by omega
        have hxc := (Kd.R_reads' hr).2.1
        have hci : ∃ i0, (Try.prog.info? 5) = some i0 ∧ i0.size = 1 := by obtain ⟨i0, h1, h2⟩ := Option.map_eq_some_iff.1 info5; exact ⟨i0, h1, by simp only [Prod.mk.injEq] at h2; exact h2.2.1⟩
        obtain ⟨i0, hi0, hsz0⟩ := hci
        have cut1 := cut_to (P := Try.prog) 29 5 .i64 Try.underlying29 hi0 Ax x.length cx (l0.length : Int) (by omega) hlx hxc
        have cut2 := cut_from (P := Try.prog) 29 5 .i64 Try.underlying29 hi0 1 hsz0 Ax x.length cx (l0.length : Int) (by omega) hlx
        have cut3 := cut_to (P := Try.prog) 29 5 .i64 Try.underlying29 hi0 A1 l1.length c1 ((x.length : Int) - (l0.length : Int)) (by omega) (by omega) k1
        rw [Int.toNat_natCast] at cut1 cut2
        rw [show ((x.length : Int) - (l0.length : Int)).toNat = x.length - l0.length from by omega] at cut3
        have hC := (Kd.R_reads' hr).2.2
        have hs1 := Kd.C_take (m := l0.length) hC hge
        have hs2 : Kd.C (Kd.int .u8) w8 (if cx = l0.length then Ax else Ax.map (·.add (l0.length * 1))) (x.drop l0.length).length (x.drop l0.length) := Kd.C_drop (m := l0.length) hC hge hxc
        generalize (if cx = l0.length then Ax else Ax.map (·.add (l0.length * 1))) = Z at hs2 cut2
        have hs3 := Kd.C_take (m := x.length - l0.length) (Kd.C_below H1'.out ht.2) (by omega)
        have hs5 := Kd.C_below H0'.out ht.2
        rw [HX1.out] at hs1
        rw [HX2.out] at hs2
        have hc1 := fun n_ : Nat => Kd.C_string (P := Try.prog) (c := cx) Try.underlying29 Try.underlying5 Try.underlying9 (Kd.C_drewN hs1 n_)
        have hc2 := fun n_ : Nat => Kd.C_string (P := Try.prog) (c := cx - l0.length) Try.underlying29 Try.underlying5 Try.underlying9 (Kd.C_drewN hs2 n_)
        have hc3 := fun n_ : Nat => Kd.C_string (P := Try.prog) (c := c1) Try.underlying29 Try.underlying5 Try.underlying9 (Kd.C_drewN hs3 n_)
        have hc4 := fun n_ : Nat => Kd.C_string (P := Try.prog) (c := cx) Try.underlying29 Try.underlying5 Try.underlying9 (Kd.C_drewN hC n_)
        have hc5 := fun n_ : Nat => Kd.C_string (P := Try.prog) (c := c0) Try.underlying29 Try.underlying5 Try.underlying9 (Kd.C_drewN hs5 n_)
        rw [List.length_take, Nat.min_eq_left (by omega)] at hc2 hc3
        have hwx : wrap64 ((x.length : Int) - (l0.length : Int)) = (x.length : Int) - (l0.length : Int) := by have := HG0.out; have := HG1.out; unfold wrap64; omega
        have hws : wrap64 ((l0.length : Int) + (l1.length : Int)) = (l0.length : Int) + (l1.length : Int) := by have := HG0.out; have := HG1.out; unfold wrap64; omega
        have hwx' : IntKind.i64.wrap ((x.length : Int) - (l0.length : Int)) = (x.length : Int) - (l0.length : Int) := by rw [i64_w]; exact hwx
        have hws' : IntKind.i64.wrap ((l0.length : Int) + (l1.length : Int)) = (l0.length : Int) + (l1.length : Int) := by rw [i64_w]; exact hws
        clear hr ht hb HT9 hC hi0 hsz0 hs1 hs2 hs3 hs5
        have := HG0.out
        have := HG1.out
        have hnl : decide (x.length < l0.length) = false := by simp; omega
        have hns : decide ((l0.length : Int) + (l1.length : Int) < (x.length : Int)) = false := by simp; omega
        go_wp2_with fail
        go_quiet (fail)
        have hbd : Below w8.heap.size w8 (w8.drewN nq) := pw_below_drewN (Below.refl _ _) nq
        have hcw := hc4 nq
        have HT11 := Lib.hid (HT10a.out.below hbd)
        have HX11 : Hid (Kd.R (Kd.int .u8) 5 (w8.drewN nq) w7.heap.size (fun k => w7.heap.size ≤ k) (.slice Ax x.length cx) x) := Lib.hid (Kd.R_drewN (Kd.R_mono HXR.out (fun k h => h.2.1)) nq)
        have HB11 : Hid (Below w1.heap.size w1 (w8.drewN nq)) := Lib.hid (HT10.out.2.trans (hbd.mono HT10.out.2.size))
        generalize w8.drewN nq = w9 at *
        clear hbd hc1 hc2 hc3 hc4 hc5 cut1 cut2 cut3 HT10a HXR HBx HT10 HX1 HX2
        have HXC := Lib.hid hxc
        have HGE := Lib.hid hge
        have HLE := Lib.hid hle
        have HLY := Lib.hid hly
        go_wp2_with fail
        clear hxc hge hle hlx hly hws hws' hwx hwx' hnl hns
        clear hcw
        have hxb : x.length ≤ 4000 := by have := HLE.out; have := HG0.out; have := HG1.out; omega
        have HXB := Lib.hid hxb
        clear hxb
        go_loopg [15] x.length (fun kq v15 w' => ∃ (xs : List Int) (i : Int), v15 = .int .i64 i ∧ Hid (i = x.length - kq ∧ kq ≤ x.length ∧ xs.length = x.length) ∧ Hid (Kd.R (Kd.int .u8) 5 w' w7.heap.size (fun k => w7.heap.size ≤ k) (.slice Ax x.length cx) xs) ∧ Hid (TapeAt w' w1.heap.size (fun k => k < w7.heap.size) w1.heap.size x x.length) ∧ Hid (Below w1.heap.size w1 w'))
        case atStart => exact ⟨x, 0, rfl, Lib.hid ⟨by omega, by omega, rfl⟩, HX11, HT11, HB11⟩
        case round =>
          clear HX11 HT11 HB11
          obtain ⟨xs2, i, rfl, HI, HO, HT5, HB5⟩ := hrel
          have := HXB.out
          cases gk with
          | zero =>
            have hi : i = (x.length : Int) := by have := HI.out; omega
            subst hi
            have HT6 : Hid (TS w1 _ x x.length) := Lib.hid ⟨HT5.out.mono (fun _ _ => trivial), HB5.out⟩
            clear HO HT5 HB5 HI
            go_wp2_with fail
            refine (ts_Bytes w1 _ _ _ HT6.out).mono ?_
            rintro e w11 ⟨A11, c11, rfl, hr, ht, hb⟩
            have HT11 := Lib.hid ht
            have hcv := own_string (P := Try.prog) Try.underlying29 Try.underlying5 Try.underlying9 (Kd.own_of_R hr)
            have hsz : (strOfNums x).size = x.length := strOfNums_size x
            clear hr ht hb HT6
            go_wp2_with fail
            refine (ts_Synced w1 _ _ _ HT11.out).mono ?_
            rintro e w12 ⟨rfl, rfl⟩
            go_wp2
            go_ret
            exact ⟨rfl, HB.out.trans (HT11.out.2.mono HB.out.size)⟩
          | succ k1 =>
            have hi0 : 0 ≤ i := by have := HI.out; omega
            have hi1 : i < (x.length : Int) := by have := HI.out; omega
            have hxl : xs2.length = x.length := HI.out.2.2
            obtain ⟨go, co', e1, _, _, _⟩ := Kd.R_form HO.out (by have := HI.out; omega)
            have e2 : Ax = some ⟨go, 0, none⟩ ∧ cx = co' := by injection e1 with a b c; exact ⟨a, c⟩
            obtain ⟨rfl, rfl⟩ := e2
            obtain ⟨hx, hf⟩ := Kd.R_celln 0 HO.out i hi0 hi1
            have hgo := HO.out.1 go rfl
            have HGO := Lib.hid hgo
            have hww : wrap64 (i + 1) = i + 1 := by unfold wrap64; omega
            clear e1 hxl hgo
            go_wp2_with fail
            go_roundg k1
            case measure => omega
            case rel =>
              have h12 := HX7.out
              have h2g := HGO.out
              refine ⟨xs2.set i.toNat ((rdOf 0 xs2 i + 1) % 256), i + 1, rfl, Lib.hid ⟨?_, ?_, ?_⟩, Lib.hid (Kd.R_putg HO.out i _).1, Lib.hid (HT5.out.kept (set_kept (ok := fun k => w7.heap.size ≤ k) HGO.out) (fun k h => by omega)), Lib.hid (HB5.out.setCell (by show w1.heap.size ≤ go; omega) _)⟩
              · have := HI.out; omega
              · have := HI.out; omega
              · have := HI.out; simp; omega
      | succ k1 =>
        have hi0 : 0 ≤ i := by have := HI.out; omega
        have hi1 : i < (l0.length : Int) := by have := HI.out; omega
        have hxl : xs.length = l0.length := HI.out.2.2
        obtain ⟨go, co', e1, _, _, _⟩ := Kd.R_form HO.out (by have := HI.out; omega)
        have e2 : Ao = some ⟨go, 0, none⟩ ∧ co = co' := by injection e1 with a b c; exact ⟨a, c⟩
        obtain ⟨rfl, rfl⟩ := e2
        obtain ⟨hx, hf⟩ := Kd.R_celln 0 HO.out i hi0 hi1
        have hgo := HO.out.1 go rfl
        have HGO := Lib.hid hgo
        have hww : wrap64 (i + 1) = i + 1 := by unfold wrap64; omega
        clear e1 hxl hgo
        go_wp2_with fail
        go_roundg k1
        case measure => omega
        case rel =>
          have h12 := HT.out.2.size
          have h2g := HGO.out
          refine ⟨xs.set i.toNat ((rdOf 0 xs i + 1) % 256), i + 1, rfl, Lib.hid ⟨?_, ?_, ?_⟩, Lib.hid (Kd.R_putg HO.out i _).1, Lib.hid (HT5.out.kept (set_kept (ok := fun k => w2.heap.size ≤ k ∧ k < w3.heap.size) HGO.out) (fun k h => by omega)), Lib.hid (HB5.out.setCell (by show w1.heap.size ≤ go; omega) _)⟩
          · have := HI.out; omega
          · have := HI.out; omega
          · have := HI.out; simp; omega
end Go.Proofs.Ytnjikdaicogdgaa.Tape
