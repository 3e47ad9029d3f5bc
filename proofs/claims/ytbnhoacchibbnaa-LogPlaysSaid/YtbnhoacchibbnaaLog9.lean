/-
  LogPlays tells true, whatever comes in. No condition is added.
-/
import Derived.Test.YtbnhoacchibbnaaLogS
import Derived.Test.YtbnhoacchibbnaaLog8
import Derived.Deep.CutBlock
namespace Go.Proofs.Ytbnhoacchibbnaa.Log
open Go.RowKit Go.Proofs.Ytbnhoacchibbnaa.Lw Go.Proofs.Ytbnhoacchibbnaa.Tape Go.Proofs.YtbnhoacchibbnaaW.PrintWords Go.Proofs.YtbnhoacchibbnaaW.PrintLast Go.Proofs.YtbnhoacchibbnaaW.PrintMore
attribute [local go_sem] eqlErr neqErr eqlErrNil neqErrNil
set_option linter.unusedVariables false
set_option linter.unusedSimpArgs false
theorem pick_calls (c n : Int) (w : World) (h1 : -9223372036854775808 ≤ c) (h2 : c ≤ 9223372036854775807) (hn : 0 < n) (hn' : n ≤ 1000) : Calls Try.prog 23 #[.int .i64 c, .int .i64 n] w fun e w' => ∃ r : Int, e = .returned (.int .i64 r) ∧ 0 ≤ r ∧ r < n ∧ w = w' := by
  have hz : (n == 0) = false := by simp; omega
  by_cases hc : c < 0
  · have e1 : wrap64 (c + 1) = c + 1 := by unfold wrap64; omega
    have e2 : wrap64 (-(c + 1)) = -(c + 1) := by unfold wrap64; omega
    have HC := Lib.hid hc
    have hd : decide (c < 0) = true := by simpa using hc
    clear hc
    go_enter Try.func23, Try.ntmps23
    go_wp2
    go_ret
    have := HC.out
    refine ⟨_, rfl, ?_, ?_, rfl⟩
    · rw [← Int.neg_tmod]; exact Int.tmod_nonneg _ (by omega)
    · rw [← Int.neg_tmod]; exact Int.tmod_lt_of_pos _ hn
  · have HC := Lib.hid hc
    have hd : decide (c < 0) = false := by simpa using hc
    clear hc
    go_enter Try.func23, Try.ntmps23
    go_wp2
    go_ret
    have := HC.out
    exact ⟨_, rfl, Int.tmod_nonneg _ (by omega), Int.tmod_lt_of_pos _ hn, rfl⟩

theorem code_nil (w : World) : Calls Try.prog 25 #[.nilIface] w fun e w' => e = .returned (.int .i64 0) ∧ w = w' := by
  go_enter Try.func25, Try.ntmps25
  go_wp2
  go_ret
  exact ⟨rfl, rfl⟩
theorem code_some (w : World) (r : Int) (h1 : 1 ≤ r) (h2 : r ≤ 8) : Calls Try.prog 25 #[errW (some r)] w fun e w' => e = .returned (.int .i64 r) ∧ w = w' := by
  rw [errW_some]
  go_enter Try.func25, Try.ntmps25
  go_wp2_with fail
  go_loopg [3] 8 (fun kq v3 w' => ∃ c : Int, v3 = .int .i64 c ∧ w' = w ∧ Hid (c = 9 - kq ∧ kq ≤ 8 ∧ c ≤ r))
  case atStart => exact ⟨1, rfl, rfl, Lib.hid ⟨by omega, by omega, h1⟩⟩
  case round =>
    obtain ⟨c, rfl, rfl, HI⟩ := hrel
    have h8 : decide (c ≤ 8) = true := decide_eq_true (by have := HI.out; omega)
    have hwc : wrap64 (c + 1) = c + 1 := by have := HI.out; unfold wrap64; omega
    by_cases hc : r = c
    · subst hc
      clear hwc
      go_wp2
      go_ret
      exact ⟨rfl, rfl⟩
    · cases gk with
      | zero => have := HI.out; omega
      | succ k1 =>
      have hb : (r == c) = false := by simpa using hc
      have HC := Lib.hid hc
      clear hc
      go_wp2_with fail
      go_roundg k1
      case measure => omega
      case rel => exact ⟨c + 1, by rw [hwc], rfl, Lib.hid (by have := HI.out; have := HC.out; omega)⟩

theorem lit_RH (W : World) (x : Option Addr × Nat × List Int) : Kd.R hdrK 22 (W.alloc (.cells #[henc x] 22)) W.heap.size (fun k => k = W.heap.size) (.slice (some ⟨W.heap.size, 0, none⟩) 1 1) [x] := by
  refine ⟨fun k hk => ?_, [henc x], ?_, ⟨rfl, fun j p hj => ?_⟩⟩
  · have : W.heap.size = k := by simpa [Value.ownBlock] using hk
    exact this.symm
  · exact World.ownsRow_lit (base := W.heap.size) (e := 22) (size := 1) W #[henc x] 1 (Nat.le_refl _) (by simp [maxLen]) (by simp)
  · have hj0 : j = 0 := by
      have := (List.getElem?_eq_some_iff.1 hj).1
      simpa using this
    subst hj0
    have hp : x = p := by simpa using hj
    subst hp
    rfl

theorem lit_RH' (W : World) (x : Option Addr × Nat × List Int) (n : Nat) (hn : W.heap.size = n) : Kd.R hdrK 22 (W.alloc (.cells #[henc x] 22)) n (fun k => k = n) (.slice (some ⟨n, 0, none⟩) 1 1) [x] := by
  subst hn
  exact lit_RH W x
theorem nil_RH' (W : World) (n : Nat) (hn : W.heap.size = n) : Kd.R hdrK 22 (W.alloc (.cells #[] 22)) n (fun k => k = n) (.slice (some ⟨n, 0, none⟩) 0 0) [] := by
  subst hn
  exact nil_RH W

theorem xt_Synced (w : World) (B q g : Nat) (N : Nat → Prop) (rs : List (List Int)) (torn : Bool) (l : List Int) (s : Nat) (h : XT w B N q g rs torn l s) :
    Calls Try.prog 27 #[.pointer (some ⟨g, 0, none⟩)] w fun e w' => e = .returned (.int .i64 (s : Int)) ∧ w = w' := by
  obtain ⟨okL, okT, hL, hT, hne, h4⟩ := h
  exact tape_Synced _ _ _ _ _ _ hT

/-- A deed in memory. -/
def DeedR (W : World) (d : (Int × Int × List Int)) (cs : List Value) : Prop :=
  ∃ A c, cs = [.int .i64 d.1, .int .i64 d.2.1, .slice A d.2.2.length c] ∧ (-9223372036854775808 ≤ d.1 ∧ d.1 ≤ 9223372036854775807) ∧ (-9223372036854775808 ≤ d.2.1 ∧ d.2.1 ≤ 9223372036854775807) ∧ d.2.2.length ≤ c ∧ Kd.C (Kd.int .u8) W A d.2.2.length d.2.2 ∧ bytesOk d.2.2
def Deeds (W : World) (A : Option Addr) (n : Nat) (ds : List (Int × Int × List Int)) : Prop := ReadsRow (DeedR W) 3 W A n ds
theorem Deeds.below {W W' : World} {A : Option Addr} {n : Nat} {ds : List (Int × Int × List Int)} (h : Deeds W A n ds) (hb : Below W.heap.size W W') : Deeds W' A n ds :=
  ReadsRow.imp_ h hb (fun _ _ ⟨A, c, h1, h2, h3, h4, h5, h6⟩ => ⟨A, c, h1, h2, h3, h4, Kd.C_below h5 hb, h6⟩)
theorem Deeds.get {W0 W : World} {A : Option Addr} {ds : List (Int × Int × List Int)} (h : ReadsRow (DeedR W0) 3 W A ds.length ds) (i : Int) (h0 : 0 ≤ i) (h1 : i < ds.length) :
    ∃ ad, A = some ad ∧ ∃ (d : (Int × Int × List Int)) (B : Option Addr) (c : Nat), (-9223372036854775808 ≤ d.1 ∧ d.1 ≤ 9223372036854775807) ∧ (-9223372036854775808 ≤ d.2.1 ∧ d.2.1 ≤ 9223372036854775807) ∧ d.2.2.length ≤ c ∧ Kd.C (Kd.int .u8) W0 B d.2.2.length d.2.2 ∧ bytesOk d.2.2 ∧
      W.cell? (ad.add (i.toNat * 3)) = some (.int .i64 d.1) ∧ W.cell? ⟨(ad.add (i.toNat * 3)).block, (ad.add (i.toNat * 3)).off + 1, none⟩ = some (.int .i64 d.2.1) ∧ W.cell? ⟨(ad.add (i.toNat * 3)).block, (ad.add (i.toNat * 3)).off + 2, none⟩ = some (.slice B d.2.2.length c) := by
  obtain ⟨ad, cs, e, hl, ⟨B, c, rfl, r1, r2, r3, r4, r5⟩, hc⟩ := ReadsRow.get_ h (0, 0, []) i h0 h1
  refine ⟨ad, e, _, B, c, r1, r2, r3, r4, r5, hc 0 _ rfl, ?_, ?_⟩
  · rw [← hc 1 _ rfl, ← Addr.add_add]; rfl
  · rw [← hc 2 _ rfl, ← Addr.add_add]; rfl

/-- What the law awaits of an append: 0, or the error's number. -/
def badOf (torn : Bool) (n : Nat) : Int := if torn = true then 6 else if n < 1 ∨ 65536 < n then 1 else 0

theorem badOf_zero {torn : Bool} {n : Nat} (h : 0 = badOf torn n) : torn = false ∧ 1 ≤ n ∧ n ≤ 65536 := by
  unfold badOf at h
  cases torn
  · rw [if_neg (by decide)] at h
    by_cases h1 : n < 1 ∨ 65536 < n
    · rw [if_pos h1] at h; omega
    · exact ⟨rfl, by omega, by omega⟩
  · rw [if_pos rfl] at h; omega
theorem badOf_err {torn : Bool} {n : Nat} {b : Int} (h : b = badOf torn n) (hb : ¬ b = 0) : (torn = true ∧ b = 6) ∨ (torn = false ∧ (n < 1 ∨ 65536 < n) ∧ b = 1) := by
  unfold badOf at h
  cases torn
  · rw [if_neg (by decide)] at h
    by_cases h1 : n < 1 ∨ 65536 < n
    · rw [if_pos h1] at h; exact .inr ⟨rfl, h1, h⟩
    · rw [if_neg h1] at h; exact absurd h hb
  · rw [if_pos rfl] at h; exact .inl ⟨rfl, h⟩
theorem take_frame_bytes {fr : List Int} (h : bytesOk fr) (n : Nat) : bytesOk (fr.take n) := fun x hx => h x (List.mem_of_mem_take hx)
theorem append_bytes {a b : List Int} (ha : bytesOk a) (hb : bytesOk b) : bytesOk (a ++ b) := fun x hx => (List.mem_append.1 hx).elim (ha x) (hb x)

/-- What the law keeps from deed to deed. -/
def PI (w1 W : World) (N : Nat → Prop) (q : Nat) (lb : List Int) (Ab : Option Addr) (cb : Nat) (rs : List (List Int)) (Ar : Option Addr) (cr : Nat) (torn : Bool) : Prop :=
  XT W w1.heap.size N q w1.heap.size rs torn lb lb.length ∧ (lb.length ≤ cb ∧ Kd.F (Kd.int .u8) W (fun k => N k ∨ k < w1.heap.size) Ab lb.length lb) ∧ HRow W w1.heap.size N (.slice Ar rs.length cr) rs ∧ bytesOk lb ∧ (rs.length ≤ lb.length ∧ ∀ m ∈ rs, m.length ≤ 65536) ∧ lb.length ≤ 500000 ∧ Below w1.heap.size w1 W
theorem PI.below {w1 W W' : World} {N : Nat → Prop} {q : Nat} {lb : List Int} {Ab : Option Addr} {cb : Nat} {rs : List (List Int)} {Ar : Option Addr} {cr : Nat} {torn : Bool} (h : PI w1 W N q lb Ab cb rs Ar cr torn) (hb : Below W.heap.size W W') : PI w1 W' N q lb Ab cb rs Ar cr torn := by
  obtain ⟨h1, ⟨h2, h3⟩, h4, h5, h6, h7, h8⟩ := h
  exact ⟨h1.below hb, ⟨h2, Kd.F_below h3 hb⟩, h4.below hb, h5, h6, h7, h8.trans (hb.mono h8.size)⟩

set_option maxHeartbeats 16000000 in
set_option maxRecDepth 100000 in
theorem logplays_calls (A0 : Option Addr) (c0 : Nat) (ds : List (Int × Int × List Int)) (w : World) (h0 : Deeds w A0 ds.length ds) (k0 : ds.length ≤ c0) :
    Calls Try.prog 6 #[.slice A0 ds.length c0] w fun e w' => e = .returned (.bool true) ∧ Below w.heap.size w w' := by
  have H0 := Lib.hid h0
  clear h0
  go_enter Try.func6, Try.ntmps6
  go_wp2_with fail
  refine (log_up _).mono ?_
  rintro e w1 ⟨rfl, hb⟩
  have HB := Lib.hid hb
  have H0' := Lib.hid (H0.out.below hb)
  clear hb H0
  go_wp2_with fail
  refine (tape_New _).mono ?_
  rintro e w2 ⟨rfl, ht, hb⟩
  have HT := Lib.hid ht
  have HB2 := Lib.hid hb
  clear ht hb
  go_wp2_with fail
  refine (xt_first w2 w1.heap.size _ _ 0 HT.out HB2.out.size).mono ?_
  rintro e w3 ⟨q, rfl, hx, hb⟩
  have HPI : Hid (PI w1 w3 (fun _ => False) q [] none 0 [] none 0 false) := Lib.hid ⟨hx, ⟨Nat.le_refl _, Kd.F_nil _ _ _⟩, HRow.nil _ _ _, lit_bytes_nil, ⟨Nat.le_refl _, by simp⟩, by simp, HB2.out.trans hb⟩
  clear hx hb HT HB2
  go_wp2_with fail
  go_loopg [5, 7, 8, 9, 10] 60 (fun kq v5 v7 v8 v9 v10 w' => ∃ (q : Nat) (lb : List Int) (Ab : Option Addr) (cb : Nat) (rs : List (List Int)) (Ar : Option Addr) (cr : Nat) (torn : Bool) (i : Int) (N : Nat → Prop), v5 = .pointer (some ⟨q, 0, none⟩) ∧ v7 = .slice Ab lb.length cb ∧ v8 = .slice Ar rs.length cr ∧ v9 = .bool torn ∧ v10 = .int .i64 i ∧ Hid (i = 60 - (kq : Int) ∧ kq ≤ 60) ∧ Hid (PI w1 w' N q lb Ab cb rs Ar cr torn))
  case atStart => exact ⟨q, [], none, 0, [], none, 0, false, 0, _, rfl, rfl, rfl, rfl, rfl, Lib.hid ⟨by omega, by omega⟩, HPI⟩
  case round =>
    clear HPI
    obtain ⟨q, lb, Ab, cb, rs, Ar, cr, torn, i, N, rfl, rfl, rfl, rfl, rfl, HI, HP⟩ := hrel
    have hHB : Below w.heap.size w wr := HB.out.trans (HP.out.2.2.2.2.2.2.mono HB.out.size)
    have HW := Lib.hid hHB
    have hi0 : 0 ≤ i := by have := HI.out; omega
    by_cases hi : i < (ds.length : Int)
    rotate_left
    · have hd : decide (i < (ds.length : Int)) = false := decide_eq_false hi
      clear hHB hi0 hi HP
      go_wp2
      go_ret
      exact ⟨rfl, HW.out⟩
    have hd : decide (i < (ds.length : Int)) = true := decide_eq_true hi
    by_cases hj : i < 60
    rotate_left
    · have hd2 : decide (i < 60) = false := decide_eq_false hj
      clear hHB hi0 hi HP hj
      go_wp2
      go_ret
      exact ⟨rfl, HW.out⟩
    have hd2 : decide (i < 60) = true := decide_eq_true hj
    obtain ⟨ad, rfl, d, Bd, cd, hq1, hq2, hq3, hq4, hq5, hx0, hx1, hx2⟩ := Deeds.get (ReadsRow.imp_ H0'.out HP.out.2.2.2.2.2.2 (fun _ _ h => h)) i hi0 hi
    by_cases hbig : (70000 : Int) < (d.2.2.length : Int)
    · have hd3 : decide ((70000 : Int) < (d.2.2.length : Int)) = true := decide_eq_true hbig
      clear hHB hq1 hq2 hq3 hq4 hq5
      go_wp2
      go_ret
      exact ⟨rfl, HW.out.alloc HW.out.size _⟩
    have hd3 : decide ((70000 : Int) < (d.2.2.length : Int)) = false := decide_eq_false hbig
    by_cases hbig2 : (300000 : Int) < (lb.length : Int)
    · have hd4 : decide ((300000 : Int) < (lb.length : Int)) = true := decide_eq_true hbig2
      clear hHB hq1 hq2 hq3 hq4 hq5
      go_wp2
      go_ret
      exact ⟨rfl, HW.out.alloc HW.out.size _⟩
    have hd4 : decide ((300000 : Int) < (lb.length : Int)) = false := decide_eq_false hbig2
    cases gk with
    | zero => have := HI.out; omega
    | succ k1 =>
    have hwi : wrap64 (i + 1) = i + 1 := by unfold wrap64; omega
    have HWI := Lib.hid hwi
    have HQ := Lib.hid hq4
    have HQ1 := Lib.hid hq1
    have HQ2 := Lib.hid hq2
    have HQ3 := Lib.hid hq3
    have HQ5 := Lib.hid hq5
    have HBIG := Lib.hid (And.intro hbig hbig2)
    have HIJ := Lib.hid (And.intro hi0 hj)
    have HP0 := Lib.hid ((HP.out.below ((Below.refl _ wr).alloc (Nat.le_refl _) (.cells #[.int .i64 d.1, .int .i64 d.2.1, .slice Bd d.2.2.length cd] 41))))
    have HXm := Lib.hid ((HP.out.1.more.below ((Below.refl _ wr).alloc (Nat.le_refl _) (.cells #[.int .i64 d.1, .int .i64 d.2.1, .slice Bd d.2.2.length cd] 41))))
    have HHb := Lib.hid ((HP.out.2.2.1.bound.below ((Below.refl _ wr).alloc (Nat.le_refl _) (.cells #[.int .i64 d.1, .int .i64 d.2.1, .slice Bd d.2.2.length cd] 41))))
    have HFb : Hid (Kd.F (Kd.int .u8) (wr.alloc (.cells #[.int .i64 d.1, .int .i64 d.2.1, .slice Bd d.2.2.length cd] 41)) (fun k => (N k ∧ k < wr.heap.size) ∨ k < w1.heap.size) Ab lb.length lb) := Lib.hid (Kd.F_alloc (Kd.F_mono (Kd.F_bound HP.out.2.1.2) (fun k hk => hk.1.imp (fun h => ⟨h, hk.2⟩) id)) _)
    have HKa := Lib.hid (heap_alloc_new wr (.cells #[.int .i64 d.1, .int .i64 d.2.1, .slice Bd d.2.2.length cd] 41))
    have HSa := Lib.hid (show wr.heap.size < (wr.alloc (.cells #[.int .i64 d.1, .int .i64 d.2.1, .slice Bd d.2.2.length cd] 41)).heap.size from by simp)
    have HSo := Lib.hid HP.out.2.2.2.2.2.2.size
    clear hHB hwi hq1 hq2 hq3 hq4 hq5 hbig hbig2 hj HP
    go_wp2_with fail
    clear hx0 hx1 hx2 hi0 hi
    refine (pick_calls d.1 4 _ HQ1.out.1 HQ1.out.2 (by omega) (by omega)).mono ?_
    rintro e wa ⟨r, rfl, r0, r4, hwa⟩
    rw [hwa] at HP0 HXm HHb HFb HKa HSa
    generalize wr.heap.size = g at *
    clear hwa hd hd2 hd3 hd4
    go_upto_if 63 with fail
    have ck2 : wa.cell? ⟨g, 2, none⟩ = some (.slice Bd d.2.2.length cd) := (blk_cell HKa.out 2).trans rfl
    go_cut [13] (fun v13 wc => ∃ bad : Int, v13 = .int .i64 bad ∧ wc = wa ∧ Hid (bad = badOf torn d.2.2.length))
    case first =>
      cases torn
      · by_cases h1 : (d.2.2.length : Int) < 1
        · have hd1 : decide ((d.2.2.length : Int) < 1) = true := decide_eq_true h1
          have HH := Lib.hid h1
          clear h1
          go_wp2_with fail
          go_meet
          case rel => exact ⟨1, rfl, rfl, Lib.hid (by have := HH.out; unfold badOf; rw [if_neg (by decide), if_pos (by omega)])⟩
        · have hd1 : decide ((d.2.2.length : Int) < 1) = false := decide_eq_false h1
          by_cases h2 : (65536 : Int) < (d.2.2.length : Int)
          · have hd2 : decide ((65536 : Int) < (d.2.2.length : Int)) = true := decide_eq_true h2
            have HH := Lib.hid h2
            clear h1 h2
            go_wp2_with fail
            go_meet
            case rel => exact ⟨1, rfl, rfl, Lib.hid (by have := HH.out; unfold badOf; rw [if_neg (by decide), if_pos (by omega)])⟩
          · have hd2 : decide ((65536 : Int) < (d.2.2.length : Int)) = false := decide_eq_false h2
            have HH := Lib.hid (And.intro h1 h2)
            clear h1 h2
            go_wp2_with fail
            go_meet
            case rel => exact ⟨0, rfl, rfl, Lib.hid (by have := HH.out; unfold badOf; rw [if_neg (by decide), if_neg (by omega)])⟩
      · go_wp2_with fail
        go_meet
        case rel => exact ⟨6, rfl, rfl, Lib.hid rfl⟩
    case rest =>
    obtain ⟨bad, rfl, hw, HBAD⟩ := hcut
    replace hw := hw.symm
    subst hw
    have hnum : becketref01_Num.f 20 (IntKind.u64.wrap (d.2.2.length : Int)) = some (enc d.2.2.length) := by
      have := HBIG.out
      rw [wu64 (by omega) (by omega), refnum_f d.2.2.length (by omega) 20 (by omega)]
    have HN := Lib.hid hnum
    have HDa := Lib.hid (Kd.C_below HQ.out HP0.out.2.2.2.2.2.2)
    have HEL := Lib.hid (enc_len 9 d.2.2.length (pow70 (by have := HBIG.out; omega)))
    have HLen : Hid ((enc d.2.2.length).length + d.2.2.length ≤ 140737488355328) := Lib.hid (by have := HEL.out; have := HBIG.out; omega)
    have HGa := HSa
    clear hnum
    go_wp2_with fail
    refine start_ (n := 9) (S := fun w' => w'.cell? ⟨g, 2, none⟩ = some (.slice Bd d.2.2.length cd)) (ds := []) #[false, false, false, false, false, false, false, false, false] (by kernel_rfl) rfl rfl (ck2) (fun hHeld => ?_)
    refine pure_ (i := 0) (N := some 74) (v := ?_) (a' := ?_) #[true, false, false, false, false, false, false, false, false] rfl rfl (by kernel_rfl) (fun _ _ _ h => h) (Or.inl ⟨by rfl, ?_⟩) ?_ ?_
    rotate_left
    · intro w'
      go_simp
      with_reducible rfl
    rotate_left
    · simp only [Act.put, List.setIfInBounds_toArray, List.set_cons_zero, List.set_cons_succ, i64_w, i32_w]
      rfl
    refine pure_ (i := 5) (N := some 79) (v := ?_) (a' := ?_) #[true, false, false, false, false, true, false, false, false] rfl rfl (by kernel_rfl) (fun _ _ _ h => h) (Or.inl ⟨by rfl, ?_⟩) ?_ ?_
    rotate_left
    · intro w'
      go_simp
      with_reducible rfl
    rotate_left
    · simp only [Act.put, List.setIfInBounds_toArray, List.set_cons_zero, List.set_cons_succ, i64_w, i32_w]
      rfl
    refine take_ (i := 1) (N := some 75) (v := ?_) (a' := ?_) #[true, true, false, false, false, true, false, false, false] rfl rfl (by kernel_rfl) (fun _ _ _ h => h) (Or.inl ⟨by rfl, ?_⟩) hHeld ?_ ?_
    rotate_left
    · intro w' s0
      go_simp
      with_reducible rfl
    rotate_left
    · simp only [Act.put, List.setIfInBounds_toArray, List.set_cons_zero, List.set_cons_succ, i64_w, i32_w]
      rfl
    refine pure_ (i := 2) (N := some 76) (v := ?_) (a' := ?_) #[true, true, true, false, false, true, false, false, false] rfl rfl (by kernel_rfl) (fun _ _ _ h => h) (Or.inl ⟨by rfl, ?_⟩) ?_ ?_
    rotate_left
    · intro w'
      go_simp
      with_reducible rfl
    rotate_left
    · simp only [Act.put, List.setIfInBounds_toArray, List.set_cons_zero, List.set_cons_succ, i64_w, i32_w]
      rfl
    refine pure_ (i := 3) (N := some 77) (v := ?_) (a' := ?_) #[true, true, true, true, false, true, false, false, false] rfl rfl (by kernel_rfl) (fun _ _ _ h => h) (Or.inl ⟨by rfl, ?_⟩) ?_ ?_
    rotate_left
    · intro w'
      go_simp
      with_reducible rfl
    rotate_left
    · simp only [Act.put, List.setIfInBounds_toArray, List.set_cons_zero, List.set_cons_succ, i64_w, i32_w]
      rfl
    refine take_ (i := 6) (N := some 80) (v := ?_) (a' := ?_) #[true, true, true, true, false, true, true, false, false] rfl rfl (by kernel_rfl) (fun _ _ _ h => h) (Or.inl ⟨by rfl, ?_⟩) hHeld ?_ ?_
    rotate_left
    · intro w' s0
      go_simp
      with_reducible rfl
    rotate_left
    · simp only [Act.put, List.setIfInBounds_toArray, List.set_cons_zero, List.set_cons_succ, i64_w, i32_w]
      rfl
    refine one_ (i := 4) (N := some 78) #[true, true, true, true, true, true, true, false, false] rfl rfl (by kernel_rfl) (by decide) (fun K hK => ?_)
    refine goes_ Try.func24 (by kernel_rfl) rfl #[.int .u64 (IntKind.u64.wrap (d.2.2.length : Int))] (by rfl) rfl rfl (by simp only [List.map_toArray, List.map_cons, List.map_nil]; rfl) ?_
    with_reducible refine (becketref01_Num.calls 20 _ (enc d.2.2.length) _ HN.out).mono ?_
    rintro e w3 ⟨v3, rfl, hr, hb⟩
    refine ⟨_, rfl, ?_⟩
    replace hr : Kd.R (Kd.int .u8) 5 w3 wa.heap.size (fun _ => True) v3 (enc d.2.2.length) := hr
    replace hb : Below wa.heap.size wa w3 := ((Below.refl wa.heap.size wa).drew).trans hb
    have HO3 := Lib.hid hr
    have HB3 := Lib.hid hb
    clear hr hb
    refine hK.out _ _ ((HB3.out.cell (p := ⟨g, 2, none⟩) HGa.out |>.trans ck2)) (fun hHeld => ?_)
    clear hK K
    refine norm_ (a' := ?_) ?_ ?_
    rotate_left
    · show Act.put _ (some 78) _ = _
      simp only [Act.put, List.setIfInBounds_toArray, List.set_cons_zero, List.set_cons_succ, i64_w, i32_w]
      rfl
    refine one_ (i := 7) (N := some 81) #[true, true, true, true, true, true, true, true, false] rfl rfl (by kernel_rfl) (by decide) (fun K hK => ?_)
    refine Kd.R_append_rows_step (Kd.int .u8) (w0 := wa) wa.heap.size (by rfl) (.tmp 78) (.tmp 80) 22 5 (.int .u8 0) 1 (by rfl) Try.underlying22 (by kernel_rfl) rfl (by decide) (by omega) v3 (enc d.2.2.length) d.2.2 Bd d.2.2.length cd (fun k => wa.heap.size ≤ k) (fun _ => False) rfl rfl ?own9 ?src9 (fun _ _ h => h) (fun _ h => h.elim) ?fresh9 HB3.out HB3.out.size ?len9 ?_
    case own9 => exact Kd.R_mono (Kd.R_bound HO3.out) (fun k hk => hk.2.1)
    case src9 => exact Kd.C_below HDa.out HB3.out
    case fresh9 => exact fun k hk => Nat.le_trans HB3.out.size hk
    case len9 => have := HLen.out; omega
    intro v4 w4 hown hbel hgr hat
    have HO4 := Lib.hid hown
    have HB4 := Lib.hid hbel
    clear hown hbel hgr hat
    refine hK.out _ _ ((HB4.out.cell (p := ⟨g, 2, none⟩) HGa.out |>.trans ck2)) (fun hHeld => ?_)
    clear hK K
    refine norm_ (a' := ?_) ?_ ?_
    rotate_left
    · show Act.put _ (some 81) _ = _
      simp only [Act.put, List.setIfInBounds_toArray, List.set_cons_zero, List.set_cons_succ, i64_w, i32_w]
      rfl
    refine pure_ (i := 8) (N := some 14) (v := ?_) (a' := ?_) #[true, true, true, true, true, true, true, true, true] rfl rfl (by kernel_rfl) (fun _ _ _ h => h) (Or.inl ⟨by rfl, ?_⟩) ?_ ?_
    rotate_left
    · intro w'
      go_simp
      with_reducible rfl
    rotate_left
    · simp only [Act.put, List.setIfInBounds_toArray, List.set_cons_zero, List.set_cons_succ, i64_w, i32_w]
      rfl
    refine done_ (by kernel_rfl) ?_

    obtain ⟨Af, cf, rfl⟩ := Kd.R_slice HO4.out
    have hfr : enc d.2.2.length ++ d.2.2 = frame d.2.2 := rfl
    rw [hfr] at HO4
    rw [hfr]
    have hfl : (frame d.2.2).length ≤ d.2.2.length + 10 ∧ 1 ≤ (frame d.2.2).length := by
      have := HEL.out
      have := enc_pos d.2.2.length
      rw [frame_len]; omega
    have hfb : bytesOk (frame d.2.2) := by
      intro x hx
      rcases List.mem_append.1 hx with hx | hx
      · exact enc_bytes 9 d.2.2.length (pow70 (by have := HBIG.out; omega)) x hx
      · exact HQ5.out x hx
    have HFRL := Lib.hid hfl
    have HFRB := Lib.hid hfb
    have HFR4 := Lib.hid HO4.out
    have HP4 := Lib.hid (HP0.out.below HB4.out)
    have HX4 := Lib.hid (HXm.out.below HB4.out)
    have HH4 := Lib.hid (HHb.out.below HB4.out)
    have HF4 := Lib.hid (Kd.F_below HFb.out HB4.out)
    have HK4 := Lib.hid (blk_below HKa.out HB4.out)
    have HG4 : Hid (g < w4.heap.size) := Lib.hid (by have := HSa.out; have := HB4.out.size; omega)
    have HA4 := Lib.hid HB4.out.size
    have HB4' := Lib.hid (HP4.out.2.2.2.2.2.2)
    clear hfr hfl hfb HO4 HP0 HXm HHb HFb HKa HO3 HB3 hHeld ck2 HN HDa HEL HLen HGa
    go_upto_block 2 with fail
    (try simp only [Act.put, List.setIfInBounds_toArray, List.set_cons_zero, List.set_cons_succ])
    go_cut [5, 7, 8, 9] (fun v5 v7 v8 v9 wc => ∃ (q' : Nat) (lb' : List Int) (Ab' : Option Addr) (cb' : Nat) (rs' : List (List Int)) (Ar' : Option Addr) (cr' : Nat) (torn' : Bool) (N' : Nat → Prop), v5 = .pointer (some ⟨q', 0, none⟩) ∧ v7 = .slice Ab' lb'.length cb' ∧ v8 = .slice Ar' rs'.length cr' ∧ v9 = .bool torn' ∧ Hid (PI w1 wc N' q' lb' Ab' cb' rs' Ar' cr' torn'))
    case first =>
      have ck2 : w4.cell? ⟨g, 2, none⟩ = some (.slice Bd d.2.2.length cd) := (blk_cell HK4.out 2).trans rfl
      have ck1 : w4.cell? ⟨g, 1, none⟩ = some (.int .i64 d.2.1) := (blk_cell HK4.out 1).trans rfl
      by_cases e2 : r = 2
      · subst e2
        go_wp2_with fail
        by_cases hbad : bad = 0
        · subst hbad
          obtain ⟨rfl, hk1, hk2⟩ := badOf_zero HBAD.out
          refine (xt_Torn w4 _ _ _ _ _ _ _ HX4.out HB4'.out.size Bd cd d.2.2 (Kd.C_below HQ.out HB4'.out) hk1 hk2 (by have := HFRL.out; have := HBIG.out; omega) d.2.1 HQ2.out.2).mono ?_
          rintro e wE ⟨rfl, hx, hk, hb⟩
          have hcl : crashLeft (lb ++ frame d.2.2).length lb.length d.2.1 = lb.length + min d.2.1.toNat (frame d.2.2).length := by
            unfold crashLeft
            rw [List.length_append]
            omega
          rw [hcl, List.take_length_add_append] at hx
          obtain ⟨fx, hfx⟩ : ∃ fx, fx = (frame d.2.2).take (min d.2.1.toNat (frame d.2.2).length) := ⟨_, rfl⟩
          have hfxl : min d.2.1.toNat (frame d.2.2).length = fx.length := by rw [hfx, List.length_take]; omega
          have hft : (frame d.2.2).take fx.length = fx := by rw [← hfxl, ← hfx]
          rw [← hfx, hfxl] at hx
          have HX5 := Lib.hid hx
          have HH5 := Lib.hid (HH4.out.kept (Kept.base hk hb) (fun k hk => ⟨fun h => hk.1 (.inl h.1), hk.2⟩))
          have HF5 := Lib.hid (Kd.F_kept HF4.out (Kept.base hk hb) (fun k hk hs => by
            rcases hk with h | h
            · exact hs.1 (.inl h.1)
            · have := hs.2; omega))
          have HFR5 := Lib.hid (Kd.R_kept HFR4.out hk (fun k hk hs => hs (.inr (by have := HSa.out; omega))))
          have HB5 := Lib.hid (HB4'.out.trans hb)
          have HK5 := Lib.hid (blk_kept HK4.out hk (fun h => h (.inr (Nat.le_refl g))))
          have HG5 : Hid (g < wE.heap.size) := Lib.hid (Nat.lt_of_lt_of_le HG4.out hk.1)
          have HS5 : Hid (w4.heap.size ≤ wE.heap.size) := Lib.hid hk.1
          have HFXL := Lib.hid hfxl
          have HFT := Lib.hid hft
          have ck1' : wE.cell? ⟨g, 1, none⟩ = some (.int .i64 d.2.1) := (blk_cell HK5.out 1).trans rfl
          clear hx hk hb hcl hfx hfxl hft ck1 ck2 hk1 hk2 HH4 HF4 HFR4 HX4 HK4
          go_wp2_with fail
          refine (code_nil _).mono ?_
          rintro e w6 ⟨rfl, rfl⟩
          go_upto_if 122 with fail
          go_cut [16] (fun v16 wc => v16 = .int .i64 (max d.2.1 0) ∧ wc = wE)
          case first =>
            by_cases hneg : d.2.1 < 0
            · have hd1 : decide (d.2.1 < 0) = true := decide_eq_true hneg
              have hmx : max d.2.1 0 = 0 := by omega
              rw [hd1]
              have HMX := Lib.hid hmx
              clear hneg hmx
              go_wp2_with fail
              go_meet
              case rel => exact ⟨by rw [HMX.out], rfl⟩
            · have hd1 : decide (d.2.1 < 0) = false := decide_eq_false hneg
              have hmx : max d.2.1 0 = d.2.1 := by omega
              rw [hd1]
              have HMX := Lib.hid hmx
              clear hneg hmx
              go_wp2_with fail
              go_meet
              case rel => exact ⟨by rw [HMX.out], rfl⟩
          case rest =>
          obtain ⟨rfl, hw⟩ := hcut
          replace hw := hw.symm
          subst hw
          go_upto_if 126 with fail
          go_cut [16] (fun v16 wc => v16 = .int .i64 (fx.length : Int) ∧ wc = wE)
          case first =>
            by_cases hgt : ((frame d.2.2).length : Int) < max d.2.1 0
            · have hd1 : decide (((frame d.2.2).length : Int) < max d.2.1 0) = true := decide_eq_true hgt
              have hmx : (fx.length : Int) = ((frame d.2.2).length : Int) := by have := HFXL.out; omega
              rw [hd1]
              have HMX := Lib.hid hmx
              clear hgt hmx
              go_wp2_with fail
              go_meet
              case rel => exact ⟨by rw [HMX.out], rfl⟩
            · have hd1 : decide (((frame d.2.2).length : Int) < max d.2.1 0) = false := decide_eq_false hgt
              have hmx : (fx.length : Int) = max d.2.1 0 := by have := HFXL.out; omega
              rw [hd1]
              have HMX := Lib.hid hmx
              clear hgt hmx
              go_wp2_with fail
              go_meet
              case rel => exact ⟨by rw [HMX.out], rfl⟩
          case rest =>
          obtain ⟨rfl, hw⟩ := hcut
          replace hw := hw.symm
          subst hw
          have hci : ∃ i0, (Try.prog.info? 5) = some i0 ∧ i0.size = 1 := by obtain ⟨i0, h1, h2⟩ := Option.map_eq_some_iff.1 info5; exact ⟨i0, h1, by simp only [Prod.mk.injEq] at h2; exact h2.2.1⟩
          obtain ⟨i0, hi0, hsz0⟩ := hci
          have hfxle : fx.length ≤ (frame d.2.2).length := by have := HFXL.out; omega
          have cut1 := cut_to (P := Try.prog) 22 5 .i64 Try.underlying22 hi0 Af (frame d.2.2).length cf (fx.length : Int) (by omega) (by omega) (Kd.R_reads' HFR5.out).2.1
          rw [Int.toNat_natCast] at cut1
          have hfc := Kd.C_take (m := fx.length) (Kd.R_reads' HFR5.out).2.2 hfxle
          rw [HFT.out] at hfc
          have HFX := Lib.hid hfc
          have HFL : Hid (fx.length ≤ 70010) := Lib.hid (by have := HFRL.out; have := HBIG.out; omega)
          have HLBC := Lib.hid (Kd.F_now HF5.out)
          have HLB : Hid (lb.length ≤ 300000) := Lib.hid (by have := HBIG.out; omega)
          clear hi0 hsz0 hfxle hfc ck1'
          go_wp2_with fail
          refine start_ (n := 8) (S := fun w' => True) (ds := []) #[false, false, false, false, false, false, false, false] (by kernel_rfl) rfl rfl trivial (fun hHeld => ?_)
          refine pure_ (i := 1) (N := some 130) (v := ?_) (a' := ?_) #[false, true, false, false, false, false, false, false] rfl rfl (by kernel_rfl) (fun _ _ _ h => h) (Or.inl ⟨by rfl, ?_⟩) ?_ ?_
          rotate_left
          · intro w'
            go_simp
            with_reducible rfl
          rotate_left
          · simp only [Act.put, List.setIfInBounds_toArray, List.set_cons_zero, List.set_cons_succ, i64_w, i32_w]
            rfl
          refine pure_ (i := 3) (N := some 132) (v := ?_) (a' := ?_) #[false, true, false, true, false, false, false, false] rfl rfl (by kernel_rfl) (fun _ _ _ h => h) (Or.inl ⟨by rfl, ?_⟩) ?_ ?_
          rotate_left
          · intro w'
            go_simp
            with_reducible rfl
          rotate_left
          · simp only [Act.put, List.setIfInBounds_toArray, List.set_cons_zero, List.set_cons_succ, i64_w, i32_w]
            rfl
          refine pure_ (i := 4) (N := some 133) (v := ?_) (a' := ?_) #[false, true, false, true, true, false, false, false] rfl rfl (by kernel_rfl) (fun _ _ _ h => h) (Or.inl ⟨by rfl, ?_⟩) ?_ ?_
          rotate_left
          · intro w'
            go_simp
            with_reducible rfl
          rotate_left
          · simp only [Act.put, List.setIfInBounds_toArray, List.set_cons_zero, List.set_cons_succ, i64_w, i32_w]
            rfl
          refine pure_ (i := 5) (N := some 134) (v := ?_) (a' := ?_) #[false, true, false, true, true, true, false, false] rfl rfl (by kernel_rfl) (fun _ _ _ h => h) (Or.inl ⟨by rfl, ?_⟩) ?_ ?_
          rotate_left
          · intro w'
            go_simp
            with_reducible rfl
          rotate_left
          · simp only [Act.put, List.setIfInBounds_toArray, List.set_cons_zero, List.set_cons_succ, i64_w, i32_w]
            rfl
          refine one_ (i := 0) (N := some 129) #[true, true, false, true, true, true, false, false] rfl rfl (by kernel_rfl) (by decide) (fun K hK => ?_)
          refine value_ (w1 := ?_) (v := ?_) (by rfl) rfl ?_ ?_
          rotate_left 2
          · go_simp
            constructor
            · rfl
            · rfl
          refine hK.out _ _ trivial (fun hHeld => ?_)
          clear hK K
          refine norm_ (a' := ?_) ?_ ?_
          rotate_left
          · show Act.put _ (some 129) _ = _
            simp only [Act.put, List.setIfInBounds_toArray, List.set_cons_zero, List.set_cons_succ, i64_w, i32_w]
            rfl
          refine one_ (i := 2) (N := some 131) #[true, true, true, true, true, true, false, false] rfl rfl (by kernel_rfl) (by decide) (fun K hK => ?_)
          refine Kd.R_append_rows_step (Kd.int .u8) (w0 := wE) wE.heap.size (by rfl) (.tmp 129) (.tmp 130) 22 5 (.int .u8 0) 1 (by rfl) Try.underlying22 (by kernel_rfl) rfl (by decide) (by omega) (.slice (some ⟨wE.heap.size, 0, none⟩) 0 0) [] lb Ab lb.length cb (fun k => wE.heap.size ≤ k) (fun _ => False) rfl rfl ?own2 ?src2 (fun _ _ h => h) (fun _ h => h.elim) ?fresh2 ((Below.refl _ wE).alloc (Nat.le_refl _) _).drew (by simp) ?len2 ?_
          case own2 => exact Kd.R_mono (Kd.R_drew (nil_R wE)) (fun k hk => by have : k = wE.heap.size := hk; omega)
          case src2 => exact Kd.C_drew (Kd.C_alloc HLBC.out _)
          case fresh2 => exact fun k hk => Nat.le_of_succ_le (by simpa using hk)
          case len2 => have := HLB.out; simp; omega
          intro v1 w3 hown hbel hgr hat
          replace hown : Kd.R (Kd.int .u8) 5 w3 wE.heap.size (fun k => wE.heap.size ≤ k) v1 lb := hown
          have HO3 := Lib.hid hown
          have HB3 := Lib.hid hbel
          clear hown hbel hgr hat
          refine hK.out _ _ trivial (fun hHeld => ?_)
          clear hK K
          refine norm_ (a' := ?_) ?_ ?_
          rotate_left
          · show Act.put _ (some 131) _ = _
            simp only [Act.put, List.setIfInBounds_toArray, List.set_cons_zero, List.set_cons_succ, i64_w, i32_w]
            rfl
          refine one_ (i := 6) (N := some 135) #[true, true, true, true, true, true, true, false] rfl rfl (by kernel_rfl) (by decide) (fun K hK => ?_)
          refine Kd.R_append_rows_step (Kd.int .u8) (w0 := wE) wE.heap.size (by rfl) (.tmp 131) (.tmp 134) 22 5 (.int .u8 0) 1 (by rfl) Try.underlying22 (by kernel_rfl) rfl (by decide) (by omega) v1 lb fx Af fx.length cf (fun k => wE.heap.size ≤ k) (fun _ => False) rfl rfl HO3.out ?src5 (fun _ _ h => h) (fun _ h => h.elim) ?fresh5 HB3.out HB3.out.size ?len5 ?_
          case src5 => exact Kd.C_below HFX.out HB3.out
          case fresh5 => intro k hk; have := HB3.out.size; have : wE.heap.size ≤ w3.heap.size := this; omega
          case len5 => have := HLB.out; have := HFL.out; omega
          intro v2 w4 hown hbel hgr hat
          have HO4 := Lib.hid hown
          have HB4 := Lib.hid hbel
          clear hown hbel hgr hat
          refine hK.out _ _ trivial (fun hHeld => ?_)
          clear hK K
          refine norm_ (a' := ?_) ?_ ?_
          rotate_left
          · show Act.put _ (some 135) _ = _
            simp only [Act.put, List.setIfInBounds_toArray, List.set_cons_zero, List.set_cons_succ, i64_w, i32_w]
            rfl
          refine pure_ (i := 7) (N := some 7) (v := ?_) (a' := ?_) #[true, true, true, true, true, true, true, true] rfl rfl (by kernel_rfl) (fun _ _ _ h => h) (Or.inl ⟨by rfl, ?_⟩) ?_ ?_
          rotate_left
          · intro w'
            go_simp
            with_reducible rfl
          rotate_left
          · simp only [Act.put, List.setIfInBounds_toArray, List.set_cons_zero, List.set_cons_succ, i64_w, i32_w]
            rfl
          refine done_ (by kernel_rfl) ?_

          obtain ⟨A2, c2, rfl⟩ := Kd.R_slice HO4.out
          go_wp2_with fail
          go_meet
          case rel =>
            refine ⟨q, lb ++ fx, A2, c2, rs, Ar, cr, true, fun k => (N k ∧ k < g) ∨ wE.heap.size ≤ k, rfl, rfl, rfl, rfl, Lib.hid ⟨?_, ⟨(Kd.R_reads' HO4.out).2.1, Kd.F_mono (Kd.R_F HO4.out) (fun k hk => .inl (.inr hk))⟩, (HH5.out.below HB4.out).mono (fun k hk => .inl hk), append_bytes HP4.out.2.2.2.1 (by rw [← HFT.out]; exact take_frame_bytes HFRB.out _), ⟨?_, HP4.out.2.2.2.2.1.2⟩, ?_, HB5.out.trans (HB4.out.mono HB5.out.size)⟩⟩
            · rw [List.length_append]
              refine (HX5.out.more.below HB4.out).less (fun k hk => ?_)
              rcases hk with hk | hk
              · exact .inl ⟨.inl hk.1, by have := HG4.out; have := hk.2; omega⟩
              · exact .inr hk
            · have := HP4.out.2.2.2.2.1.1
              rw [List.length_append]; omega
            · have := HFL.out
              have := HLB.out
              rw [List.length_append]; omega
        · skip
          have HE := Lib.hid (badOf_err HBAD.out hbad)
          have hbb : (bad == 0) = false := by simpa using hbad
          clear hbad
          refine (xt_Torn_no w4 _ _ _ _ _ torn _ _ HX4.out Bd d.2.2.length cd d.2.1 bad HE.out).mono ?_
          rintro e w5 ⟨rfl, rfl⟩
          go_wp2_with fail
          refine (code_some _ bad (by have := HE.out; omega) (by have := HE.out; omega)).mono ?_
          rintro e w5 ⟨rfl, rfl⟩
          go_wp2_with fail
          go_meet
          case rel => exact ⟨q, lb, Ab, cb, rs, Ar, cr, torn, N, rfl, rfl, rfl, rfl, HP4⟩
      by_cases e3 : r = 3
      · subst e3
        go_wp2_with fail
        refine (xt_Open w4 _ _ _ _ _ _ _ _ HX4.out HP4.out.2.2.2.1 HB4'.out.size).mono ?_
        rintro e wE ⟨q2, rfl, hx, _, hk, hb⟩
        have HX5 := Lib.hid hx
        have HH5 := Lib.hid (HH4.out.kept (Kept.base hk hb) (fun k hk => ⟨fun h => hk.1 (.inl h.1), hk.2⟩))
        have HF5 := Lib.hid (Kd.F_kept HF4.out (Kept.base hk hb) (fun k hk hs => by
          rcases hk with h | h
          · exact hs.1 (.inl h.1)
          · have := hs.2; omega))
        have HFR5 := Lib.hid (Kd.R_kept HFR4.out hk (fun k hk hs => hs (.inr (by have := HSa.out; omega))))
        have HB5 := Lib.hid (HB4'.out.trans hb)
        have HK5 := Lib.hid (blk_kept HK4.out hk (fun h => h (.inr (Nat.le_refl g))))
        have HG5 : Hid (g < wE.heap.size) := Lib.hid (Nat.lt_of_lt_of_le HG4.out hk.1)
        have HS5 : Hid (w4.heap.size ≤ wE.heap.size) := Lib.hid hk.1
        clear hx hk hb ck1 ck2 HH4 HF4 HFR4 HX4 HK4
        go_wp2_with fail
        refine (scan_calls wE Ab cb lb (Kd.F_now HF5.out) HP4.out.2.1.1 HP4.out.2.2.2.1 (by have := HBIG.out; omega)).mono ?_
        rintro e w6 ⟨hs, Ao, co, rfl, hr, hmap, hsub, hb6⟩
        have hsl := scan_le HP4.out.2.2.2.1 lb.length 0 (by omega) (by omega)
        have hrec : ∀ m ∈ (scan lb 0).1, m.length ≤ 65536 := by
          obtain ⟨rs2, q2, h1, h2, h3⟩ := scan_form lb.length [] lb (Nat.le_refl _) HP4.out.2.2.2.1
          rw [List.nil_append, List.length_nil, Nat.zero_add] at h3
          rw [h3]
          exact fun m hm => (h1 m hm).2
        have HR6 := Lib.hid hr
        have HMAP := Lib.hid hmap
        have HSUB := Lib.hid hsub
        have HB6 := Lib.hid hb6
        have HREC := Lib.hid hrec
        have HSL := Lib.hid hsl
        have hci : ∃ i0, (Try.prog.info? 5) = some i0 ∧ i0.size = 1 := by obtain ⟨i0, h1, h2⟩ := Option.map_eq_some_iff.1 info5; exact ⟨i0, h1, by simp only [Prod.mk.injEq] at h2; exact h2.2.1⟩
        obtain ⟨i0, hi0, hsz0⟩ := hci
        have cut1 := cut_to (P := Try.prog) 22 5 .i64 Try.underlying22 hi0 Ab lb.length cb ((scan lb 0).2 : Int) (by omega) (by omega) HP4.out.2.1.1
        rw [Int.toNat_natCast] at cut1
        clear hr hmap hsub hb6 hrec hsl hi0 hsz0
        generalize (scan lb 0).2 = n at *
        generalize (scan lb 0).1 = rs2 at *
        go_wp2_with fail
        go_meet
        case rel =>
          have hn := HSL.out
          have hrl : rs2.length = hs.length := by rw [← HMAP.out, List.length_map]
          refine ⟨q2, lb.take n, Ab, cb, rs2, Ao, co, false, fun k => (N k ∧ k < g) ∨ wE.heap.size ≤ k, rfl, by rw [List.length_take, Nat.min_eq_left hn.2.1], by rw [hrl], rfl, Lib.hid ⟨?_, ⟨by have := HP4.out.2.1.1; rw [List.length_take]; omega, ?_⟩, ⟨hs, ?_, HMAP.out.symm, fun x hx => ⟨(HSUB.out x hx).1, ?_⟩⟩, take_frame_bytes HP4.out.2.2.2.1 _, ⟨by rw [List.length_take]; omega, HREC.out⟩, ?_, HB5.out.trans (HB6.out.mono HB5.out.size)⟩⟩
          · rw [List.length_take, Nat.min_eq_left hn.2.1]
            refine (HX5.out.more.below HB6.out).less (fun k hk => ?_)
            rcases hk with hk | hk
            · exact .inl ⟨.inl hk.1, by have := HG4.out; have := hk.2; omega⟩
            · exact .inr hk
          · exact Kd.F_mono (Kd.F_imp (Kd.F_below HF5.out HB6.out) (fun W' h => Kd.C_take h hn.2.1)) (fun k hk => hk.imp .inl id)
          · rw [hrl]
            exact Kd.R_mono (Kd.R_lower (Kd.R_bound HR6.out) HB5.out.size) (fun k hk => .inr hk.2.1)
          · refine Kd.F_mono (Kd.F_imp (Kd.F_bound (Kd.F_below HF5.out HB6.out)) (fun W' h => (HSUB.out x hx).2 W' h)) (fun k hk => ⟨hk.1.imp .inl id, fun e => ?_⟩)
            have h1 := Kd.R_base HR6.out k (by rw [hrl] at e; exact e.symm)
            rcases hk.1 with h | h
            · have := h.2; have := HG5.out; omega
            · have := HB5.out.size; omega
          · have := HP4.out.2.2.2.2.2.1
            rw [List.length_take]; omega
      have e2b : (r == 2) = false := by simpa using e2
      have e3b : (r == 3) = false := by simpa using e3
      go_wp2_with fail
      by_cases hbad : bad = 0
      · subst hbad
        · obtain ⟨rfl, hk1, hk2⟩ := badOf_zero HBAD.out
          refine (xt_Append w4 _ _ _ _ _ _ _ HX4.out HB4'.out.size (by have := HP4.out.2.2.2.2.1.1; have := HBIG.out; omega) Bd cd d.2.2 (fun w' _ hb' => Kd.C_below HQ.out (HB4'.out.trans hb')) HQ3.out hk1 hk2 (by have := HFRL.out; have := HBIG.out; omega)).mono ?_
          rintro e wE ⟨rfl, hx, hk, hb⟩
          have HX5 := Lib.hid hx
          have HH5 := Lib.hid (HH4.out.kept (Kept.base hk hb) (fun k hk => ⟨fun h => hk.1 (.inl h.1), hk.2⟩))
          have HF5 := Lib.hid (Kd.F_kept HF4.out (Kept.base hk hb) (fun k hk hs => by
            rcases hk with h | h
            · exact hs.1 (.inl h.1)
            · have := hs.2; omega))
          have HFR5 := Lib.hid (Kd.R_kept HFR4.out hk (fun k hk hs => hs (.inr (by have := HSa.out; omega))))
          have HB5 := Lib.hid (HB4'.out.trans hb)
          have HK5 := Lib.hid (blk_kept HK4.out hk (fun h => h (.inr (Nat.le_refl g))))
          have HG5 : Hid (g < wE.heap.size) := Lib.hid (Nat.lt_of_lt_of_le HG4.out hk.1)
          have HS5 : Hid (w4.heap.size ≤ wE.heap.size) := Lib.hid hk.1
          have HLEN := Lib.hid hk2
          clear hx hk hb ck1 ck2 hk1 hk2 HH4 HF4 HFR4 HX4 HK4 e2b e3b
          go_wp2_with fail
          refine (code_nil _).mono ?_
          rintro e w6 ⟨rfl, rfl⟩
          have HLBC := Lib.hid (Kd.F_now HF5.out)
          have HLB : Hid (lb.length ≤ 300000) := Lib.hid (by have := HBIG.out; omega)
          go_wp2_with (at_builtin; refine Kd.R_append_row (w0 := wE) (Value.int .u8) 0 (h1 := fun _ => rfl) wE.heap.size rfl (.tmp 93) (.tmp 94) 22 5 (.int .u8 0) 1 rfl Try.underlying22 (by kernel_rfl) rfl (by decide) (.slice (some ⟨wE.heap.size, 0, none⟩) 0 0) [] lb Ab lb.length cb (fun k => wE.heap.size ≤ k) rfl rfl ?fresh ?own ?src ((Below.refl _ _).alloc (Nat.le_refl _) _) (by simp) ?len ?go)
          case fresh => intro k hk; first | omega | (simp at hk; omega)
          case own => exact Kd.R_mono (nil_R wE) (fun k hk => by omega)
          case src => exact Kd.C_alloc HLBC.out _
          case len => have := HLB.out; first | omega | (simp; omega)
          case go =>
          intro v6 w6 hown hbel hgr hat
          replace hown : Kd.R (Kd.int .u8) 5 w6 wE.heap.size (fun k => wE.heap.size ≤ k) v6 lb := hown
          have HO6 := Lib.hid hown
          have HB6 := Lib.hid hbel
          clear hown hbel hgr hat
          go_wp2_with (at_builtin; refine Kd.R_append_row (w0 := wE) (Value.int .u8) 0 (h1 := fun _ => rfl) wE.heap.size rfl (.tmp 95) (.tmp 96) 22 5 (.int .u8 0) 1 rfl Try.underlying22 (by kernel_rfl) rfl (by decide) v6 lb (frame d.2.2) Af (frame d.2.2).length cf (fun k => wE.heap.size ≤ k) rfl rfl ?fresh ?own ?src HB6.out HB6.out.size ?len ?go)
          case fresh => exact fun k hk => Nat.le_trans HB6.out.size hk
          case own => exact HO6.out
          case src => exact Kd.C_below (Kd.R_reads' HFR5.out).2.2 HB6.out
          case len => have := HLB.out; have := HFRL.out; have := HBIG.out; first | omega | (simp; omega)
          case go =>
          intro v7 wF hown hbel hgr hat
          obtain ⟨A7, c7, rfl⟩ := Kd.R_slice hown
          have HO7 : Hid (Kd.R (Kd.int .u8) 5 wF wE.heap.size (fun k => wE.heap.size ≤ k ∧ k < wF.heap.size) (.slice A7 (lb ++ frame d.2.2).length c7) (lb ++ frame d.2.2)) := Lib.hid (Kd.R_mono (Kd.R_bound hown) (fun k hk => ⟨hk.1, hk.2.2.1⟩))
          have HBF := Lib.hid hbel
          have HXF := Lib.hid (HX5.out.more.below hbel)
          have HHF := Lib.hid (HH5.out.below hbel)
          have ck2 : wF.cell? ⟨g, 2, none⟩ = some (.slice Bd d.2.2.length cd) := (blk_cell (blk_below HK5.out hbel) 2).trans rfl
          have HGF : Hid (g < wF.heap.size) := Lib.hid (Nat.lt_of_lt_of_le HG5.out hbel.size)
          have hlen7 : (lb ++ frame d.2.2).length = lb.length + (frame d.2.2).length := List.length_append
          have HLEN7 := Lib.hid hlen7
          have HBY2 := Lib.hid (append_bytes HP4.out.2.2.2.1 HFRB.out)
          obtain ⟨hs, hr1, hr2, hr3⟩ := HHF.out
          have HR1 := Lib.hid hr1
          have HR2 := Lib.hid hr2
          have HR3 := Lib.hid hr3
          have hhl : rs.length = hs.length := by rw [hr2, List.length_map]
          have HHL := Lib.hid hhl
          have hKC : Kd.C hdrK wF Ar rs.length hs := by rw [hhl]; exact (Kd.R_reads' hr1).2.2
          have HKC := Lib.hid hKC
          have HRSL : Hid (rs.length ≤ 300000) := Lib.hid (by have := HP4.out.2.2.2.2.1.1; have := HBIG.out; omega)
          have HBw := Lib.hid (HB5.out.trans (hbel.mono HB5.out.size))
          clear hown hbel hgr hat hr1 hr2 hr3 hhl hKC HO6 HB6 HHF hlen7
          generalize lb ++ frame d.2.2 = lb2 at *
          go_wp2_with fail
          refine start_ (n := 8) (S := fun w' => w'.cell? ⟨g, 2, none⟩ = some (.slice Bd d.2.2.length cd)) (ds := []) #[false, false, false, false, false, false, false, false] (by kernel_rfl) rfl rfl (ck2) (fun hHeld => ?_)
          refine pure_ (i := 1) (N := some 99) (v := ?_) (a' := ?_) #[false, true, false, false, false, false, false, false] rfl rfl (by kernel_rfl) (fun _ _ _ h => h) (Or.inl ⟨by rfl, ?_⟩) ?_ ?_
          rotate_left
          · intro w'
            go_simp
            with_reducible rfl
          rotate_left
          · simp only [Act.put, List.setIfInBounds_toArray, List.set_cons_zero, List.set_cons_succ, i64_w, i32_w]
            rfl
          refine pure_ (i := 3) (N := some 101) (v := ?_) (a' := ?_) #[false, true, false, true, false, false, false, false] rfl rfl (by kernel_rfl) (fun _ _ _ h => h) (Or.inl ⟨by rfl, ?_⟩) ?_ ?_
          rotate_left
          · intro w'
            go_simp
            with_reducible rfl
          rotate_left
          · simp only [Act.put, List.setIfInBounds_toArray, List.set_cons_zero, List.set_cons_succ, i64_w, i32_w]
            rfl
          refine take_ (i := 4) (N := some 102) (v := ?_) (a' := ?_) #[false, true, false, true, true, false, false, false] rfl rfl (by kernel_rfl) (fun _ _ _ h => h) (Or.inl ⟨by rfl, ?_⟩) hHeld ?_ ?_
          rotate_left
          · intro w' s0
            go_simp
            with_reducible rfl
          rotate_left
          · simp only [Act.put, List.setIfInBounds_toArray, List.set_cons_zero, List.set_cons_succ, i64_w, i32_w]
            rfl
          refine join_ (σ := Value × Value × Nat) 2 #[true, true, true, true, true, true, false, false] (fun s => [(98, s.1), (100, s.2.1), (103, .slice (some ⟨s.2.2, 0, none⟩) 1 1)]) (fun s w' => Hid (Kd.R hdrK 22 w' wF.heap.size (fun k => wF.heap.size ≤ k ∧ k ≠ s.2.2) s.2.1 hs) ∧ Hid (Kd.R hdrK 22 w' wF.heap.size (fun k => k = s.2.2) (.slice (some ⟨s.2.2, 0, none⟩) 1 1) [(Bd, cd, d.2.2)]) ∧ Hid (Below wF.heap.size wF w') ∧ w'.cell? ⟨g, 2, none⟩ = some (.slice Bd d.2.2.length cd)) ?_ ?_
          rotate_left
          · intro hCont
            refine two_ (i := 0) (j := 5) (Ni := some 98) (Nj := some 103) #[true, true, false, true, true, false, false, false] #[false, true, false, true, true, true, false, false] rfl rfl rfl rfl (by kernel_rfl) (by decide) (by decide) (fun K hK => ?_) (fun K hK => ?_)
            · skip
              refine value_ (w1 := ?_) (v := ?_) (by rfl) rfl ?_ ?_
              rotate_left 2
              · go_simp
                constructor
                · rfl
                · rfl
              refine hK.out _ _ ((((Below.refl _ wF).alloc (Nat.le_refl _) (.cells #[] 22)).cell (p := ⟨g, 2, none⟩) HGF.out |>.trans ck2)) (fun hHeld => ?_)
              clear hK K
              refine norm_ (a' := ?_) ?_ ?_
              rotate_left
              · show Act.put _ (some 98) _ = _
                simp only [Act.put, List.setIfInBounds_toArray, List.set_cons_zero, List.set_cons_succ, i64_w, i32_w]
                rfl
              refine two_ (i := 2) (j := 5) (Ni := some 100) (Nj := some 103) #[true, true, true, true, true, false, false, false] #[true, true, false, true, true, true, false, false] rfl rfl rfl rfl (by kernel_rfl) (by decide) (by decide) (fun K hK => ?_) (fun K hK => ?_)
              · skip
                refine Kd.R_append_rows_step hdrK (w0 := wF) wF.heap.size (by rfl) (.tmp 98) (.tmp 99) 34 22 (.slice none 0 0) 24 (by rfl) Try.underlying34 (by kernel_rfl) rfl (by decide) (by omega) (.slice (some ⟨wF.heap.size, 0, none⟩) 0 0) [] hs Ar rs.length cr (fun k => wF.heap.size ≤ k) (fun _ => False) rfl rfl ?own2 ?src2 (fun _ _ h => h) (fun _ h => h.elim) ?fresh2 ((Below.refl _ wF).alloc (Nat.le_refl _) (.cells #[] 22)).drew (by first | (simp; done) | (simp; omega)) ?len2 ?_
                case own2 => exact Kd.R_mono (Kd.R_drew (nil_RH wF)) (fun k hk => by first | omega | (simp at hk; omega) | (simp at hk ⊢; omega))
                case src2 => exact Kd.C_drew (Kd.C_alloc HKC.out _)
                case fresh2 => exact fun k hk => by first | exact Nat.le_of_succ_le (by simpa using hk) | (simp at hk; omega) | (simp at hk ⊢; omega)
                case len2 => have := HRSL.out; simp; omega
                intro v1 w3 hown hbel hgr hat
                replace hown : Kd.R hdrK 22 w3 wF.heap.size (fun k => wF.heap.size ≤ k) v1 hs := hown
                have HO3 := Lib.hid hown
                have HB3 := Lib.hid hbel
                clear hown hbel hgr hat
                refine hK.out _ _ ((HB3.out.cell (p := ⟨g, 2, none⟩) HGF.out |>.trans ck2)) (fun hHeld => ?_)
                clear hK K
                refine norm_ (a' := ?_) ?_ ?_
                rotate_left
                · show Act.put _ (some 100) _ = _
                  simp only [Act.put, List.setIfInBounds_toArray, List.set_cons_zero, List.set_cons_succ, i64_w, i32_w]
                  rfl
                refine one_ (i := 5) (N := some 103) #[true, true, true, true, true, true, false, false] rfl rfl (by kernel_rfl) (by decide) (fun K hK => ?_)
                refine value_ (w1 := ?_) (v := ?_) (by rfl) rfl ?_ ?_
                rotate_left 2
                · go_simp
                  constructor
                  · rfl
                  · rfl
                refine hK.out _ _ (((HB3.out.alloc HB3.out.size _).cell (p := ⟨g, 2, none⟩) HGF.out |>.trans ck2)) (fun hHeld => ?_)
                clear hK K
                refine norm_ (a' := ?_) ?_ ?_
                rotate_left
                · show Act.put _ (some 103) _ = _
                  simp only [Act.put, List.setIfInBounds_toArray, List.set_cons_zero, List.set_cons_succ, i64_w, i32_w]
                  rfl
                exact norm_ (by simp only [putAll, Act.put, List.setIfInBounds_toArray, List.set_cons_zero, List.set_cons_succ]) (hCont (.slice (some ⟨wF.heap.size, 0, none⟩) 0 0, v1, w3.heap.size) _ ⟨Lib.hid (Kd.R_mono (Kd.R_alloc (Kd.R_bound HO3.out) _) (fun k hk => ⟨hk.1, by have := hk.2.2.1; show k ≠ w3.heap.size; omega⟩)), Lib.hid (Kd.R_lower (lit_RH w3 (Bd, cd, d.2.2)) HB3.out.size), Lib.hid (HB3.out.alloc HB3.out.size _), (HB3.out.alloc HB3.out.size _).cell (p := ⟨g, 2, none⟩) HGF.out |>.trans ck2⟩)
              · skip
                refine value_ (w1 := ?_) (v := ?_) (by rfl) rfl ?_ ?_
                rotate_left 2
                · go_simp
                  constructor
                  · rfl
                  · rfl
                refine hK.out _ _ (((((Below.refl _ wF).alloc (Nat.le_refl _) (.cells #[] 22)).alloc (by simp) (.cells #[henc (Bd, cd, d.2.2)] 22)).cell (p := ⟨g, 2, none⟩) HGF.out |>.trans ck2)) (fun hHeld => ?_)
                clear hK K
                refine norm_ (a' := ?_) ?_ ?_
                rotate_left
                · show Act.put _ (some 103) _ = _
                  simp only [Act.put, List.setIfInBounds_toArray, List.set_cons_zero, List.set_cons_succ, i64_w, i32_w]
                  rfl
                refine one_ (i := 2) (N := some 100) #[true, true, true, true, true, true, false, false] rfl rfl (by kernel_rfl) (by decide) (fun K hK => ?_)
                refine Kd.R_append_rows_step hdrK (w0 := wF) wF.heap.size (by rfl) (.tmp 98) (.tmp 99) 34 22 (.slice none 0 0) 24 (by rfl) Try.underlying34 (by kernel_rfl) rfl (by decide) (by omega) (.slice (some ⟨wF.heap.size, 0, none⟩) 0 0) [] hs Ar rs.length cr (fun k => wF.heap.size ≤ k ∧ k ≠ (wF.heap.size + 1)) (fun _ => False) rfl rfl ?own2 ?src2 (fun _ _ h => h) (fun _ h => h.elim) ?fresh2 (((Below.refl _ wF).alloc (Nat.le_refl _) (.cells #[] 22)).alloc (by simp) (.cells #[henc (Bd, cd, d.2.2)] 22)).drew (by first | (simp; done) | (simp; omega)) ?len2 ?_
                case own2 => exact Kd.R_mono (Kd.R_drew (Kd.R_alloc (nil_RH wF) (.cells #[henc (Bd, cd, d.2.2)] 22))) (fun k hk => by first | omega | (simp at hk; omega) | (simp at hk ⊢; omega))
                case src2 => exact Kd.C_drew (Kd.C_alloc (Kd.C_alloc HKC.out _) _)
                case fresh2 => exact fun k hk => by first | exact Nat.le_of_succ_le (by simpa using hk) | (simp at hk; omega) | (simp at hk ⊢; omega)
                case len2 => have := HRSL.out; simp; omega
                intro v1 w3 hown hbel hgr hat
                replace hown : Kd.R hdrK 22 w3 wF.heap.size (fun k => wF.heap.size ≤ k ∧ k ≠ (wF.heap.size + 1)) v1 hs := hown
                have hlit : Kd.R hdrK 22 w3 wF.heap.size (fun k => k = (wF.heap.size + 1)) (.slice (some ⟨(wF.heap.size + 1), 0, none⟩) 1 1) [(Bd, cd, d.2.2)] := Kd.R_grown (Kd.R_lower (Kd.R_drew (lit_RH' (wF.alloc (.cells #[] 22)) (Bd, cd, d.2.2) (wF.heap.size + 1) (by simp))) (by omega)) hgr (fun k hk => by first | (simp [Value.ownBlock]; omega) | (simp [Value.ownBlock] at hk ⊢; omega))
                have HLI3 := Lib.hid hlit
                clear hlit
                have HO3 := Lib.hid hown
                have HB3 := Lib.hid hbel
                clear hown hbel hgr hat
                refine hK.out _ _ ((HB3.out.cell (p := ⟨g, 2, none⟩) HGF.out |>.trans ck2)) (fun hHeld => ?_)
                clear hK K
                refine norm_ (a' := ?_) ?_ ?_
                rotate_left
                · show Act.put _ (some 100) _ = _
                  simp only [Act.put, List.setIfInBounds_toArray, List.set_cons_zero, List.set_cons_succ, i64_w, i32_w]
                  rfl
                exact norm_ (by simp only [putAll, Act.put, List.setIfInBounds_toArray, List.set_cons_zero, List.set_cons_succ]) (hCont (.slice (some ⟨wF.heap.size, 0, none⟩) 0 0, v1, (wF.heap.size + 1)) _ ⟨HO3, HLI3, HB3, HB3.out.cell (p := ⟨g, 2, none⟩) HGF.out |>.trans ck2⟩)
            · skip
              refine value_ (w1 := ?_) (v := ?_) (by rfl) rfl ?_ ?_
              rotate_left 2
              · go_simp
                constructor
                · rfl
                · rfl
              refine hK.out _ _ ((((Below.refl _ wF).alloc (Nat.le_refl _) (.cells #[henc (Bd, cd, d.2.2)] 22)).cell (p := ⟨g, 2, none⟩) HGF.out |>.trans ck2)) (fun hHeld => ?_)
              clear hK K
              refine norm_ (a' := ?_) ?_ ?_
              rotate_left
              · show Act.put _ (some 103) _ = _
                simp only [Act.put, List.setIfInBounds_toArray, List.set_cons_zero, List.set_cons_succ, i64_w, i32_w]
                rfl
              refine one_ (i := 0) (N := some 98) #[true, true, false, true, true, true, false, false] rfl rfl (by kernel_rfl) (by decide) (fun K hK => ?_)
              refine value_ (w1 := ?_) (v := ?_) (by rfl) rfl ?_ ?_
              rotate_left 2
              · go_simp
                constructor
                · rfl
                · rfl
              refine hK.out _ _ (((((Below.refl _ wF).alloc (Nat.le_refl _) (.cells #[henc (Bd, cd, d.2.2)] 22)).alloc (by simp) (.cells #[] 22)).cell (p := ⟨g, 2, none⟩) HGF.out |>.trans ck2)) (fun hHeld => ?_)
              clear hK K
              refine norm_ (a' := ?_) ?_ ?_
              rotate_left
              · show Act.put _ (some 98) _ = _
                simp only [Act.put, List.setIfInBounds_toArray, List.set_cons_zero, List.set_cons_succ, i64_w, i32_w]
                rfl
              refine one_ (i := 2) (N := some 100) #[true, true, true, true, true, true, false, false] rfl rfl (by kernel_rfl) (by decide) (fun K hK => ?_)
              refine Kd.R_append_rows_step hdrK (w0 := wF) wF.heap.size (by rfl) (.tmp 98) (.tmp 99) 34 22 (.slice none 0 0) 24 (by rfl) Try.underlying34 (by kernel_rfl) rfl (by decide) (by omega) (.slice (some ⟨(wF.heap.size + 1), 0, none⟩) 0 0) [] hs Ar rs.length cr (fun k => wF.heap.size ≤ k ∧ k ≠ wF.heap.size) (fun _ => False) rfl rfl ?own2 ?src2 (fun _ _ h => h) (fun _ h => h.elim) ?fresh2 (((Below.refl _ wF).alloc (Nat.le_refl _) (.cells #[henc (Bd, cd, d.2.2)] 22)).alloc (by simp) (.cells #[] 22)).drew (by first | (simp; done) | (simp; omega)) ?len2 ?_
              case own2 => exact Kd.R_mono (Kd.R_lower (Kd.R_drew (nil_RH' (wF.alloc (.cells #[henc (Bd, cd, d.2.2)] 22)) (wF.heap.size + 1) (by simp))) (by omega)) (fun k hk => by first | omega | (simp at hk; omega) | (simp at hk ⊢; omega))
              case src2 => exact Kd.C_drew (Kd.C_alloc (Kd.C_alloc HKC.out _) _)
              case fresh2 => exact fun k hk => by first | exact Nat.le_of_succ_le (by simpa using hk) | (simp at hk; omega) | (simp at hk ⊢; omega)
              case len2 => have := HRSL.out; simp; omega
              intro v1 w3 hown hbel hgr hat
              replace hown : Kd.R hdrK 22 w3 wF.heap.size (fun k => wF.heap.size ≤ k ∧ k ≠ wF.heap.size) v1 hs := hown
              have hlit : Kd.R hdrK 22 w3 wF.heap.size (fun k => k = wF.heap.size) (.slice (some ⟨wF.heap.size, 0, none⟩) 1 1) [(Bd, cd, d.2.2)] := Kd.R_grown (Kd.R_drew (Kd.R_alloc (lit_RH wF (Bd, cd, d.2.2)) (.cells #[] 22))) hgr (fun k hk => by first | (simp [Value.ownBlock]; omega) | (simp [Value.ownBlock] at hk ⊢; omega))
              have HLI3 := Lib.hid hlit
              clear hlit
              have HO3 := Lib.hid hown
              have HB3 := Lib.hid hbel
              clear hown hbel hgr hat
              refine hK.out _ _ ((HB3.out.cell (p := ⟨g, 2, none⟩) HGF.out |>.trans ck2)) (fun hHeld => ?_)
              clear hK K
              refine norm_ (a' := ?_) ?_ ?_
              rotate_left
              · show Act.put _ (some 100) _ = _
                simp only [Act.put, List.setIfInBounds_toArray, List.set_cons_zero, List.set_cons_succ, i64_w, i32_w]
                rfl
              exact norm_ (by simp only [putAll, Act.put, List.setIfInBounds_toArray, List.set_cons_zero, List.set_cons_succ]) (hCont (.slice (some ⟨(wF.heap.size + 1), 0, none⟩) 0 0, v1, wF.heap.size) _ ⟨HO3, HLI3, HB3, HB3.out.cell (p := ⟨g, 2, none⟩) HGF.out |>.trans ck2⟩)
          rintro ⟨v98, v100, kl⟩ w9 ⟨HO9, HLI9, HB9, ck9⟩
          have hHeld : w9.cell? ⟨g, 2, none⟩ = some (.slice Bd d.2.2.length cd) := ck9
          refine norm_ (a' := ?_) ?_ ?_
          rotate_left
          · simp only [putAll, Act.put, List.setIfInBounds_toArray, List.set_cons_zero, List.set_cons_succ]
            rfl
          refine one_ (i := 6) (N := some 104) #[true, true, true, true, true, true, true, false] rfl rfl (by kernel_rfl) (by decide) (fun K hK => ?_)
          refine Kd.R_append_rows_step hdrK (w0 := wF) wF.heap.size (by rfl) (.tmp 100) (.tmp 103) 34 22 (.slice none 0 0) 24 (by rfl) Try.underlying34 (by kernel_rfl) rfl (by decide) (by omega) v100 hs [(Bd, cd, d.2.2)] (some ⟨kl, 0, none⟩) 1 1 (fun k => wF.heap.size ≤ k) (fun _ => False) rfl rfl ?aO ?aS6 (fun _ _ h => h) (fun _ h => False.elim h) ?aF HB9.out HB9.out.size ?aL ?_
          case aO => exact Kd.R_mono HO9.out (fun k hk => hk.1)
          case aS6 => exact (Kd.R_reads' HLI9.out).2.2
          case aF => exact fun k hk => Nat.le_trans HB9.out.size hk
          case aL => have := HRSL.out; have := HHL.out; omega
          intro v4 w4 hown hbel hgr hat
          have HO4 := Lib.hid hown
          have HB4 := Lib.hid hbel
          clear hown hbel hgr hat
          refine hK.out _ _ ((HB4.out.cell (p := ⟨g, 2, none⟩) HGF.out |>.trans ck2)) (fun hHeld => ?_)
          clear hK K
          refine norm_ (a' := ?_) ?_ ?_
          rotate_left
          · show Act.put _ (some 104) _ = _
            simp only [Act.put, List.setIfInBounds_toArray, List.set_cons_zero, List.set_cons_succ, i64_w, i32_w]
            rfl
          refine pure_ (i := 7) (N := some 8) (v := ?_) (a' := ?_) #[true, true, true, true, true, true, true, true] rfl rfl (by kernel_rfl) (fun _ _ _ h => h) (Or.inl ⟨by rfl, ?_⟩) ?_ ?_
          rotate_left
          · intro w'
            go_simp
            with_reducible rfl
          rotate_left
          · simp only [Act.put, List.setIfInBounds_toArray, List.set_cons_zero, List.set_cons_succ, i64_w, i32_w]
            rfl
          refine done_ (by kernel_rfl) ?_

          obtain ⟨A8, c8, rfl⟩ := Kd.R_slice HO4.out
          go_wp2_with fail
          go_meet
          case rel =>
            have hl8 : (hs ++ [(Bd, cd, d.2.2)]).length = (rs ++ [d.2.2]).length := by simp [HHL.out]
            refine ⟨q, lb2, A7, c7, rs ++ [d.2.2], A8, c8, false, fun k => (N k ∧ k < g) ∨ wE.heap.size ≤ k, rfl, rfl, by simp [HHL.out], rfl, Lib.hid ⟨?_, ⟨(Kd.R_reads' HO7.out).2.1, Kd.F_mono (Kd.F_below (Kd.R_F HO7.out) HB4.out) (fun k hk => .inl (.inr hk.1))⟩, ⟨hs ++ [(Bd, cd, d.2.2)], ?_, by rw [List.map_append, ← HR2.out]; rfl, fun x hx => ?_⟩, ?_, ⟨?_, ?_⟩, ?_, HBw.out.trans (HB4.out.mono HBw.out.size)⟩⟩
            · refine (HXF.out.below HB4.out).less (fun k hk => ?_)
              rcases hk with hk | hk
              · exact .inl ⟨.inl hk.1, by have := HG4.out; have := hk.2; omega⟩
              · exact .inr hk
            · rw [← hl8]
              exact Kd.R_mono (Kd.R_lower HO4.out (HBw.out.size)) (fun k hk => .inr (Nat.le_trans HBF.out.size hk))
            · have hob : ∀ k, some k = (Value.slice A8 (rs ++ [d.2.2]).length c8).ownBlock → wF.heap.size ≤ k := fun k e => Kd.R_base HO4.out k (by rw [hl8]; exact e.symm)
              have hle : w1.heap.size ≤ wF.heap.size := HBw.out.size
              rcases List.mem_append.1 hx with hx | hx
              · refine ⟨(HR3.out x hx).1, Kd.F_mono (Kd.F_below (HR3.out x hx).2 HB4.out) (fun k hk => ⟨hk.1.imp .inl id, fun e => ?_⟩)⟩
                have h1 := hob k e
                have h2 := HGF.out
                rcases hk.1 with h | h
                · have := h.2; omega
                · omega
              · rw [List.mem_singleton.1 hx]
                exact ⟨HQ3.out, came_F HQ.out (HBw.out.trans (HB4.out.mono HBw.out.size)) (fun k hk => ⟨.inr hk, fun e => by have := hob k e; omega⟩)⟩
            · exact HBY2.out
            · have h1 := HLEN7.out
              have h2 := HFRL.out
              have h3 := HP4.out.2.2.2.2.1.1
              rw [List.length_append, List.length_singleton]
              omega
            · intro m hm
              rcases List.mem_append.1 hm with hm | hm
              · exact HP4.out.2.2.2.2.1.2 m hm
              · rw [List.mem_singleton.1 hm]; exact HLEN.out
            · have h1 := HLEN7.out
              have h2 := HFRL.out
              have h3 := HBIG.out
              omega
      · skip
        have HE := Lib.hid (badOf_err HBAD.out hbad)
        have hbb : (bad == 0) = false := by simpa using hbad
        clear hbad
        refine (xt_Append_no w4 _ _ _ _ _ torn _ _ HX4.out Bd d.2.2.length cd bad HE.out).mono ?_
        rintro e w5 ⟨rfl, rfl⟩
        go_wp2_with fail
        refine (code_some _ bad (by have := HE.out; omega) (by have := HE.out; omega)).mono ?_
        rintro e w5 ⟨rfl, rfl⟩
        go_wp2_with fail
        go_meet
        case rel => exact ⟨q, lb, Ab, cb, rs, Ar, cr, torn, N, rfl, rfl, rfl, rfl, HP4⟩
    case rest =>
      clear HFR4 HP4 HX4 HH4 HF4 HK4 HG4 HA4 HB4'
      obtain ⟨q', lb', Ab', cb', rs', Ar', cr', torn', N', rfl, rfl, rfl, rfl, HPf⟩ := hcut
      go_wp2_with fail
      have hl1 : rs'.length ≤ 2000000 := by have := HPf.out.2.2.2.2.1.1; have := HPf.out.2.2.2.2.2.1; omega
      have hl2 : ∀ m ∈ rs', m.length ≤ 100000 := fun m hm => by have := HPf.out.2.2.2.2.1.2 m hm; omega
      have HL1 := Lib.hid hl1
      have HL2 := Lib.hid hl2
      clear hl1 hl2
      have HSS := Lib.hid (same_self rs' HL1.out)
      have HPd := Lib.hid (HPf.out.below ((Below.refl _ _).drew))
      have HXd := Lib.hid HPd.out.1
      have HBf := Lib.hid (Kd.F_now HPf.out.2.1.2)
      refine start_ (n := 20) (S := fun w' => Kd.C (Kd.int .u8) w' Ab' lb'.length lb') (ds := []) #[false, false, false, false, false, false, false, false, false, false, false, false, false, false, false, false, false, false, false, false] (by kernel_rfl) rfl rfl ((Kd.C_drew HBf.out)) (fun hHeld => ?_)
      refine pure_ (i := 0) (N := some 158) (v := ?_) (a' := ?_) #[true, false, false, false, false, false, false, false, false, false, false, false, false, false, false, false, false, false, false, false] rfl rfl (by kernel_rfl) (fun _ _ _ h => h) (Or.inl ⟨by rfl, ?_⟩) ?_ ?_
      rotate_left
      · intro w'
        go_simp
        with_reducible rfl
      rotate_left
      · simp only [Act.put, List.setIfInBounds_toArray, List.set_cons_zero, List.set_cons_succ, i64_w, i32_w]
        rfl
      refine pure_ (i := 2) (N := some 160) (v := ?_) (a' := ?_) #[true, false, true, false, false, false, false, false, false, false, false, false, false, false, false, false, false, false, false, false] rfl rfl (by kernel_rfl) (fun _ _ _ h => h) (Or.inl ⟨by rfl, ?_⟩) ?_ ?_
      rotate_left
      · intro w'
        go_simp
        with_reducible rfl
      rotate_left
      · simp only [Act.put, List.setIfInBounds_toArray, List.set_cons_zero, List.set_cons_succ, i64_w, i32_w]
        rfl
      refine one_ (i := 1) (N := some 159) #[true, true, true, false, false, false, false, false, false, false, false, false, false, false, false, false, false, false, false, false] rfl rfl (by kernel_rfl) (by decide) (fun K hK => ?_)
      refine goes_ Try.func20 (by kernel_rfl) rfl #[.pointer (some ⟨q', 0, none⟩)] (by rfl) rfl rfl (by simp only [List.map_toArray, List.map_cons, List.map_nil]; rfl) ?_
      with_reducible refine (xt_Records _ _ _ _ _ _ _ _ _ HXd.out HL1.out HL2.out).mono ?_
      rintro e wR ⟨AR, cR, rfl, hr, hb⟩
      refine ⟨_, rfl, ?_⟩
      have HCa := Lib.hid (Kd.R_reads' hr).2.2
      have HCb := Lib.hid (Kd.R_reads' hr).2.1
      have HPr := Lib.hid (HPd.out.below hb)
      have HC2a := Lib.hid (HRow.reads HPr.out.2.2.1).2.2
      have HC2b := Lib.hid (HRow.reads HPr.out.2.2.1).2.1
      have HBc := Lib.hid (Kd.F_now HPr.out.2.1.2)
      clear hr hb
      refine hK.out _ _ (HBc.out) (fun hHeld => ?_)
      clear hK K
      refine norm_ (a' := ?_) ?_ ?_
      rotate_left
      · show Act.put _ (some 159) _ = _
        simp only [Act.put, List.setIfInBounds_toArray, List.set_cons_zero, List.set_cons_succ, i64_w, i32_w]
        rfl
      refine one_ (i := 3) (N := some 161) #[true, true, true, true, false, false, false, false, false, false, false, false, false, false, false, false, false, false, false, false] rfl rfl (by kernel_rfl) (by decide) (fun K hK => ?_)
      refine goes_ Try.func19 (by kernel_rfl) rfl #[.slice AR rs'.length cR, .slice Ar' rs'.length cr'] (by rfl) rfl rfl (by simp only [List.map_toArray, List.map_cons, List.map_nil]; rfl) ?_
      with_reducible refine (becketlaw06_same.calls _ AR cR rs' Ar' cr' rs' true _ HCa.out HCb.out HC2a.out HC2b.out HSS.out).mono ?_
      rintro e wS ⟨rfl, ⟨dm, rfl⟩⟩
      refine ⟨_, rfl, ?_⟩
      have HPs := Lib.hid (HPr.out.below (pw_below_drewN (Below.refl _ _) dm))
      have HXs := Lib.hid HPs.out.1
      refine hK.out _ _ ((Kd.C_drewN HBc.out dm)) (fun hHeld => ?_)
      clear hK K
      refine norm_ (a' := ?_) ?_ ?_
      rotate_left
      · show Act.put _ (some 161) _ = _
        simp only [Act.put, List.setIfInBounds_toArray, List.set_cons_zero, List.set_cons_succ, i64_w, i32_w]
        rfl
      refine pure_ (i := 4) (N := some 162) (v := ?_) (a' := ?_) #[true, true, true, true, true, false, false, false, false, false, false, false, false, false, false, false, false, false, false, false] rfl rfl (by kernel_rfl) (fun _ _ _ h => h) (Or.inl ⟨by rfl, ?_⟩) ?_ ?_
      rotate_left
      · intro w'
        go_simp
        with_reducible rfl
      rotate_left
      · simp only [Act.put, List.setIfInBounds_toArray, List.set_cons_zero, List.set_cons_succ, i64_w, i32_w]
        rfl
      refine pure_ (i := 5) (N := some 163) (v := ?_) (a' := ?_) #[true, true, true, true, true, true, false, false, false, false, false, false, false, false, false, false, false, false, false, false] rfl rfl (by kernel_rfl) (fun _ _ _ h => h) (Or.inl ⟨by rfl, ?_⟩) ?_ ?_
      rotate_left
      · intro w'
        go_simp
        with_reducible rfl
      rotate_left
      · simp only [Act.put, List.setIfInBounds_toArray, List.set_cons_zero, List.set_cons_succ, i64_w, i32_w]
        rfl
      refine pure_ (i := 6) (N := some 164) (v := ?_) (a' := ?_) #[true, true, true, true, true, true, true, false, false, false, false, false, false, false, false, false, false, false, false, false] rfl rfl (by kernel_rfl) (fun _ _ _ h => h) (Or.inl ⟨by rfl, ?_⟩) ?_ ?_
      rotate_left
      · intro w'
        go_simp
        with_reducible rfl
      rotate_left
      · simp only [Act.put, List.setIfInBounds_toArray, List.set_cons_zero, List.set_cons_succ, i64_w, i32_w]
        rfl
      refine pure_ (i := 9) (N := some 167) (v := ?_) (a' := ?_) #[true, true, true, true, true, true, true, false, false, true, false, false, false, false, false, false, false, false, false, false] rfl rfl (by kernel_rfl) (fun _ _ _ h => h) (Or.inl ⟨by rfl, ?_⟩) ?_ ?_
      rotate_left
      · intro w'
        go_simp
        with_reducible rfl
      rotate_left
      · simp only [Act.put, List.setIfInBounds_toArray, List.set_cons_zero, List.set_cons_succ, i64_w, i32_w]
        rfl
      refine take_ (i := 10) (N := some 168) (v := ?_) (a' := ?_) #[true, true, true, true, true, true, true, false, false, true, true, false, false, false, false, false, false, false, false, false] rfl rfl (by kernel_rfl) (fun _ _ _ h => h) (Or.inl ⟨by rfl, ?_⟩) hHeld ?_ ?_
      rotate_left
      · intro w' s0
        have hcB := Kd.C_string (P := Try.prog) (c := cb') Try.underlying22 Try.underlying5 Try.underlying9 s0
        go_simp
        with_reducible rfl
      rotate_left
      · simp only [Act.put, List.setIfInBounds_toArray, List.set_cons_zero, List.set_cons_succ, i64_w, i32_w]
        rfl
      refine one_ (i := 7) (N := some 165) #[true, true, true, true, true, true, true, true, false, true, true, false, false, false, false, false, false, false, false, false] rfl rfl (by kernel_rfl) (by decide) (fun K hK => ?_)
      refine goes_ Try.func18 (by kernel_rfl) rfl #[.pointer (some ⟨w1.heap.size, 0, none⟩)] (by rfl) rfl rfl (by simp only [List.map_toArray, List.map_cons, List.map_nil]; rfl) ?_
      with_reducible refine (xt_Bytes _ _ _ _ _ _ _ _ _ HXs.out).mono ?_
      rintro e wT ⟨AT, cT, rfl, hr, hb⟩
      refine ⟨_, rfl, ?_⟩
      have hcv := own_string (P := Try.prog) Try.underlying22 Try.underlying5 Try.underlying9 (Kd.own_of_R hr)
      have HPt := Lib.hid (HPs.out.below hb)
      have HXt := Lib.hid HPt.out.1
      have HBt := Lib.hid (Kd.F_now HPt.out.2.1.2)
      clear hr hb
      refine hK.out _ _ (HBt.out) (fun hHeld => ?_)
      clear hK K
      refine norm_ (a' := ?_) ?_ ?_
      rotate_left
      · show Act.put _ (some 165) _ = _
        simp only [Act.put, List.setIfInBounds_toArray, List.set_cons_zero, List.set_cons_succ, i64_w, i32_w]
        rfl
      refine one_ (i := 8) (N := some 166) #[true, true, true, true, true, true, true, true, true, true, true, false, false, false, false, false, false, false, false, false] rfl rfl (by kernel_rfl) (by decide) (fun K hK => ?_)
      refine value_ (w1 := ?_) (v := ?_) (by rfl) rfl ?_ ?_
      rotate_left 2
      · go_simp
        constructor
        · rfl
        · rfl
      refine hK.out _ _ (HBt.out) (fun hHeld => ?_)
      clear hK K
      refine norm_ (a' := ?_) ?_ ?_
      rotate_left
      · show Act.put _ (some 166) _ = _
        simp only [Act.put, List.setIfInBounds_toArray, List.set_cons_zero, List.set_cons_succ, i64_w, i32_w]
        rfl
      refine pure_ (i := 11) (N := some 169) (v := ?_) (a' := ?_) #[true, true, true, true, true, true, true, true, true, true, true, true, false, false, false, false, false, false, false, false] rfl rfl (by kernel_rfl) (fun _ _ _ h => h) (Or.inl ⟨by rfl, ?_⟩) ?_ ?_
      rotate_left
      · intro w'
        go_simp
        with_reducible rfl
      rotate_left
      · simp only [Act.put, List.setIfInBounds_toArray, List.set_cons_zero, List.set_cons_succ, i64_w, i32_w]
        rfl
      refine pure_ (i := 12) (N := some 170) (v := ?_) (a' := ?_) #[true, true, true, true, true, true, true, true, true, true, true, true, true, false, false, false, false, false, false, false] rfl rfl (by kernel_rfl) (fun _ _ _ h => h) (Or.inl ⟨by rfl, ?_⟩) ?_ ?_
      rotate_left
      · intro w'
        go_simp
        with_reducible rfl
      rotate_left
      · simp only [Act.put, List.setIfInBounds_toArray, List.set_cons_zero, List.set_cons_succ, i64_w, i32_w]
        rfl
      refine pure_ (i := 13) (N := some 171) (v := ?_) (a' := ?_) #[true, true, true, true, true, true, true, true, true, true, true, true, true, true, false, false, false, false, false, false] rfl rfl (by kernel_rfl) (fun _ _ _ h => h) (Or.inl ⟨by rfl, ?_⟩) ?_ ?_
      rotate_left
      · intro w'
        go_simp
        with_reducible rfl
      rotate_left
      · simp only [Act.put, List.setIfInBounds_toArray, List.set_cons_zero, List.set_cons_succ, i64_w, i32_w]
        rfl
      refine pure_ (i := 14) (N := some 172) (v := ?_) (a' := ?_) #[true, true, true, true, true, true, true, true, true, true, true, true, true, true, true, false, false, false, false, false] rfl rfl (by kernel_rfl) (fun _ _ _ h => h) (Or.inl ⟨by rfl, ?_⟩) ?_ ?_
      rotate_left
      · intro w'
        go_simp
        with_reducible rfl
      rotate_left
      · simp only [Act.put, List.setIfInBounds_toArray, List.set_cons_zero, List.set_cons_succ, i64_w, i32_w]
        rfl
      refine pure_ (i := 16) (N := some 174) (v := ?_) (a' := ?_) #[true, true, true, true, true, true, true, true, true, true, true, true, true, true, true, false, true, false, false, false] rfl rfl (by kernel_rfl) (fun _ _ _ h => h) (Or.inl ⟨by rfl, ?_⟩) ?_ ?_
      rotate_left
      · intro w'
        go_simp
        with_reducible rfl
      rotate_left
      · simp only [Act.put, List.setIfInBounds_toArray, List.set_cons_zero, List.set_cons_succ, i64_w, i32_w]
        rfl
      refine pure_ (i := 17) (N := some 175) (v := ?_) (a' := ?_) #[true, true, true, true, true, true, true, true, true, true, true, true, true, true, true, false, true, true, false, false] rfl rfl (by kernel_rfl) (fun _ _ _ h => h) (Or.inl ⟨by rfl, ?_⟩) ?_ ?_
      rotate_left
      · intro w'
        go_simp
        with_reducible rfl
      rotate_left
      · simp only [Act.put, List.setIfInBounds_toArray, List.set_cons_zero, List.set_cons_succ, i64_w, i32_w]
        rfl
      refine one_ (i := 15) (N := some 173) #[true, true, true, true, true, true, true, true, true, true, true, true, true, true, true, true, true, true, false, false] rfl rfl (by kernel_rfl) (by decide) (fun K hK => ?_)
      refine goes_ Try.func27 (by kernel_rfl) rfl #[.pointer (some ⟨w1.heap.size, 0, none⟩)] (by rfl) rfl rfl (by simp only [List.map_toArray, List.map_cons, List.map_nil]; rfl) ?_
      with_reducible refine (xt_Synced _ _ _ _ _ _ _ _ _ HXt.out).mono ?_
      rintro e wU ⟨rfl, rfl⟩
      refine ⟨_, rfl, ?_⟩
      refine hK.out _ _ (HBt.out) (fun hHeld => ?_)
      clear hK K
      refine norm_ (a' := ?_) ?_ ?_
      rotate_left
      · show Act.put _ (some 173) _ = _
        simp only [Act.put, List.setIfInBounds_toArray, List.set_cons_zero, List.set_cons_succ, i64_w, i32_w]
        rfl
      refine pure_ (i := 18) (N := some 176) (v := ?_) (a' := ?_) #[true, true, true, true, true, true, true, true, true, true, true, true, true, true, true, true, true, true, true, false] rfl rfl (by kernel_rfl) (fun _ _ _ h => h) (Or.inl ⟨by rfl, ?_⟩) ?_ ?_
      rotate_left
      · intro w'
        go_simp
        with_reducible rfl
      rotate_left
      · simp only [Act.put, List.setIfInBounds_toArray, List.set_cons_zero, List.set_cons_succ, i64_w, i32_w]
        rfl
      refine pure_ (i := 19) (N := some 177) (v := ?_) (a' := ?_) #[true, true, true, true, true, true, true, true, true, true, true, true, true, true, true, true, true, true, true, true] rfl rfl (by kernel_rfl) (fun _ _ _ h => h) (Or.inl ⟨by rfl, ?_⟩) ?_ ?_
      rotate_left
      · intro w'
        go_simp
        with_reducible rfl
      rotate_left
      · simp only [Act.put, List.setIfInBounds_toArray, List.set_cons_zero, List.set_cons_succ, i64_w, i32_w]
        rfl
      refine done_ (by kernel_rfl) ?_

      have hwi := HWI.out
      have HPt' := HPt
      clear hcv
      go_wp2_with fail
      go_roundg k1
      case measure => omega
      case rel => exact ⟨q', lb', Ab', cb', rs', Ar', cr', torn', i + 1, N', rfl, rfl, rfl, rfl, by rw [hwi], Lib.hid (by have := HI.out; omega), HPt⟩
end Go.Proofs.Ytbnhoacchibbnaa.Log
