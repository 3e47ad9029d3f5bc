/-
  The log's functions, each by its contract: Open. No condition is added.
-/
import Derived.Test.YtbnhoacchibbnaaLog1
import Derived.Laws.Cover3
namespace Go.Proofs.Ytbnhoacchibbnaa.Log
open Go.RowKit Go.Proofs.Ytbnhoacchibbnaa.Lw Go.Proofs.Ytbnhoacchibbnaa.Tape Go.Proofs.YtbnhoacchibbnaaW.PrintWords Go.Proofs.YtbnhoacchibbnaaW.PrintLast Go.Proofs.YtbnhoacchibbnaaW.PrintMore
attribute [local go_sem] eqlErr neqErr eqlErrNil neqErrNil
set_option linter.unusedVariables false
set_option linter.unusedSimpArgs false
theorem scan_le {b : List Int} (hb : bytesOk b) (m : Nat) : ∀ a, b.length - a ≤ m → a ≤ b.length → a ≤ (scan b a).2 ∧ (scan b a).2 ≤ b.length ∧ (scan b a).1.length + a ≤ (scan b a).2 := by
  induction m with
  | zero =>
    intro a h1 h2
    cases hq : recAt b a with
    | none => rw [scan_none hq]; simp; omega
    | some st =>
      obtain ⟨s, t⟩ := st
      have := recAt_some hb h2 hq
      omega
  | succ m ih =>
    intro a h1 h2
    cases hq : recAt b a with
    | none => rw [scan_none hq]; simp; omega
    | some st =>
      obtain ⟨s, t⟩ := st
      have := recAt_some hb h2 hq
      have h3 := ih t (by omega) (by omega)
      rw [scan_some hb h2 hq]
      simp only [List.length_cons]
      omega

/-- What Open's loop keeps: the log so far, the tape's bytes, the scan. -/
def OpenI (w : World) (g : Nat) (l : List Int) (Ab : Option Addr) (cb : Nat) (W : World) (a : Nat) (rs : List (List Int)) : Prop :=
  LogAt W w.heap.size (fun k => w.heap.size ≤ k) w.heap.size g rs false ∧ Kd.R (Kd.int .u8) 5 W w.heap.size (fun k => w.heap.size < k) (.slice Ab l.length cb) l ∧ Below w.heap.size w W ∧
    rs ++ (scan l a).1 = (scan l 0).1 ∧ (scan l a).2 = (scan l 0).2 ∧ a ≤ l.length ∧ rs.length ≤ a

set_option maxHeartbeats 8000000 in
set_option maxRecDepth 100000 in
theorem log_Open (w : World) (B : Nat) (okT : Nat → Prop) (g : Nat) (l : List Int) (s : Nat) (h : TapeAt w B okT g l s) (hb : bytesOk l) :
    Calls Try.prog 17 #[.pointer (some ⟨g, 0, none⟩)] w fun e w' => ∃ (q : Nat) (okL okT' : Nat → Prop), e = .returned (.tuple #[.pointer (some ⟨q, 0, none⟩), .nilIface]) ∧ LogAt w' w.heap.size okL q g (scan l 0).1 false ∧
      TapeAt w' B okT' g (l.take (scan l 0).2) (scan l 0).2 ∧ (∀ k, okL k → ¬ okT' k ∧ w.heap.size ≤ k) ∧ (∀ k, okT' k → okT k ∨ w.heap.size ≤ k) ∧ Kept w w' okT ∧ Below B w w' := by
  have hlen := h.2.2.2.1
  have HT := Lib.hid h.bound
  have HT0 := Lib.hid h
  clear h
  have hu22 := Try.underlying22
  go_enter Try.func17, Try.ntmps17
  go_wp2_with fail
  refine (tape_Bytes _ _ _ _ _ _ (HT0.out.below ((Below.refl _ w).alloc (Nat.le_refl _) _))).mono ?_
  rintro e w1 ⟨vb, rfl, hr, hbel⟩
  obtain ⟨Ab, cb, rfl⟩ := Kd.R_slice hr
  have HQ0 := Lib.hid (blk_below (heap_alloc_new w (.cells #[.pointer (some ⟨g, 0, none⟩), .slice none 0 0, .bool false] 97)) hbel)
  have HB0 : Hid (Below w.heap.size w w1) := Lib.hid (((Below.refl w.heap.size w).alloc (Nat.le_refl _) _).trans (hbel.mono (by simp)))
  have HR0 : Hid (Kd.R (Kd.int .u8) 5 w1 w.heap.size (fun k => w.heap.size < k) (.slice Ab l.length cb) l) := Lib.hid (Kd.R_lower (Kd.R_mono (Kd.R_bound hr) (fun k hk => by have := hk.2.1; simp at this; omega)) (by simp))
  clear hr hbel
  go_wp2_with fail
  refine (record_calls w1 w.heap.size _ Ab cb l HR0.out hb (by omega) 0 (Nat.zero_le _)).mono ?_
  rintro e w2 ⟨v7, v8, rfl, ⟨m, rfl⟩, hrec⟩
  have HRec := Lib.hid hrec
  clear hrec
  go_wp2_with fail
  go_loopg [6, 7, 8] (l.length + 1) (fun kq v6 v7 v8 w' => ∃ (a : Nat) (rs : List (List Int)), v6 = .int .i64 (a : Int) ∧ Hid (OpenI w g l Ab cb w' a rs) ∧ Hid (RecR w' w.heap.size (fun k => w.heap.size < k) l a v7 v8) ∧ Hid (l.length - a < kq))
  case atStart => exact ⟨0, [], rfl, Lib.hid ⟨⟨Nat.le_refl _, Nat.le_refl _, .slice none 0 0, blk_drewN HQ0.out m, Kd.R_nil _ _ _ _ _⟩, Kd.R_drewN HR0.out m, pw_below_drewN HB0.out m, rfl, rfl, Nat.zero_le _, Nat.le_refl _⟩, HRec, Lib.hid (by omega)⟩
  case round =>
    obtain ⟨a, rs, rfl, HI, HRc, HK⟩ := hrel
    clear HQ0 HB0 HR0 HRec
    have ha := HI.out.2.2.2.2.2.1
    cases hq : recAt l a with
    | none =>
      have h78 := HRc.out
      unfold RecR at h78
      rw [hq] at h78
      obtain ⟨rfl, rfl⟩ := h78
      have hsc := scan_none hq
      have HSc := Lib.hid hsc
      have HTc := Lib.hid (HT.out.below HI.out.2.2.1)
      have HBc := Lib.hid HI.out.2.2.1
      clear hq hsc HRc
      go_wp2_with fail
      refine (tape_Cut wr B _ g l s HTc.out a ha).mono ?_
      rintro e w3 ⟨rfl, ht⟩
      have HTo := Lib.hid ht
      clear ht
      rw [errW_none]
      go_wp2
      go_ret2
      obtain ⟨i1, i2, i3, i4, i5, i6, i7⟩ := HI.out
      obtain ⟨t1, t2, t3⟩ := HTo.out
      rw [HSc.out] at i4 i5
      simp only [List.append_nil] at i4
      subst i4
      rw [← i5]
      refine ⟨w.heap.size, fun k => w.heap.size ≤ k ∧ k < wr.heap.size, _, rfl, (i1.bound.kept t2 (fun k hk hk2 => by omega)).mono (fun k hk => ⟨hk.1, hk.2.2⟩), t1, fun k hk => ⟨fun hk2 => ?_, hk.1⟩, fun k hk => ?_, ?_, ?_⟩
      · rcases hk2 with hk2 | hk2 <;> omega
      · rcases hk with hk | hk
        · exact .inl hk.1
        · exact .inr (Nat.le_trans i3.size hk)
      · exact (Kept.of_below i3 okT).then_ t2 (fun k hk => .inl hk.1)
      · exact (i3.mono (by have := HT.out.1; have := HT.out.2.1.2.2; omega)).trans t3
    | some st =>
      obtain ⟨s', t'⟩ := st
      have h78 := HRc.out
      unfold RecR at h78
      rw [hq] at h78
      obtain ⟨⟨gv, ov, nv, cv, rfl⟩, rfl, hQ⟩ := h78
      obtain ⟨i1, i2, i3, i4, i5, i6, i7⟩ := HI.out
      obtain ⟨Ar, cr, hbk, hrs, _, _⟩ := i1.open_
      have hap := Kd.Q_apart' hQ (Kd.R_typed hrs) (by decide)
      have hrec := recAt_some hb ha hq
      have hsc := scan_some hb ha hq
      have k1 : wr.cell? ⟨w.heap.size, 1, none⟩ = some (.slice Ar rs.length cr) := (blk_cell hbk 1).trans rfl
      have HBK := Lib.hid hbk
      have HRS := Lib.hid hrs
      have HAP := Lib.hid hap
      have HREC := Lib.hid hrec
      have HSC := Lib.hid hsc
      have HBuf := Lib.hid i2
      have HBe := Lib.hid i3
      have HSZ := Lib.hid (And.intro i4 (And.intro i5 i7))
      clear hq HRc hQ i1 i2 i3 i4 i5 i6 i7 hbk hrs hap hrec hsc
      cases gk with
      | zero => have := HK.out; omega
      | succ k1' =>
      go_wp2_with (at_builtin; refine Kd.R_append recK (w0 := w) w.heap.size rfl (.tmp 36) (.tmp 38) 34 22 (.slice none 0 0) 24 rfl Try.underlying34 (by kernel_rfl) rfl (by decide) (by omega) (.slice Ar rs.length cr) rs ((l.take t').drop s') [.slice (some ⟨gv, ov, none⟩) nv cv] (fun k => w.heap.size ≤ k ∧ k ≠ w.heap.size) (fun k => w.heap.size < k ∧ some k ≠ (Value.slice Ar rs.length cr).ownBlock) rfl rfl ?aP ?aK ?aF ?aO ?aB ?aS ?aL ?go)
      case aP => exact ⟨_, rfl, HAP.out⟩
      case aK => exact fun k hk => ⟨⟨by omega, by omega⟩, hk.2⟩
      case aF => exact fun k hk => ⟨Nat.le_trans HBe.out.size hk, by have := blk_lt HBK.out; omega⟩
      case aO => exact HRS.out
      case aB => exact HBe.out
      case aS => exact HBe.out.size
      case aL => have := HSZ.out.2.2; omega
      case go =>
        intro v1 w3 hown hbel hgr hat
        obtain ⟨A1, c1, rfl⟩ := Kd.R_slice hown
        rw [List.length_append, List.length_singleton] at hown hat
        rw [List.length_append, List.length_singleton]
        have hne : some w.heap.size ≠ (Value.slice Ar rs.length cr).ownBlock := fun e => (HRS.out.1 _ e.symm).2 rfl
        have hb1 := blk_grown HBK.out hgr hne
        have f1 := blk_frozen hb1 1
        have k3 : w3.cell? ⟨w.heap.size, 1, none⟩ = some (.slice Ar rs.length cr) := (blk_cell hb1 1).trans rfl
        have HB1 := Lib.hid hb1
        have HO := Lib.hid hown
        have HBe3 := Lib.hid hbel
        have HBu3 := Lib.hid (Kd.R_over' HBuf.out (Kd.R_typed HRS.out) (by decide) hgr)
        clear hb1 hown hbel hgr hat hne k1 HBuf HBK HRS HAP HI HBe
        go_wp2_with fail
        have HBu4 := Lib.hid (Kd.R_far (p := ⟨w.heap.size, 1, none⟩) HBu3.out (fun k hk => by have : w.heap.size < k := hk; show k ≠ w.heap.size; omega) (.slice A1 (rs.length + 1) c1))
        refine (record_calls _ w.heap.size _ Ab cb l HBu4.out hb (by omega) t' HREC.out.2.2.1).mono ?_
        rintro e w4 ⟨v9, v10, rfl, ⟨m2, rfl⟩, hrec⟩
        have HRec := Lib.hid hrec
        clear hrec
        go_wp2_with fail
        go_roundg k1'
        case measure => omega
        case rel =>
          obtain ⟨x1, x2, x3⟩ := HSZ.out
          obtain ⟨y1, y2, y3, y4, _⟩ := HREC.out
          have z := HSC.out
          rw [z] at x1 x2
          refine ⟨t', rs ++ [(l.take t').drop s'], rfl, Lib.hid ⟨⟨Nat.le_refl _, Nat.le_refl _, .slice A1 (rs.length + 1) c1, ?_, ?_⟩, Kd.R_drewN HBu4.out m2, pw_below_drewN (HBe3.out.setCell (Nat.le_refl _) _) m2, by rw [← x1, List.append_assoc]; rfl, x2, y3, ?_⟩, HRec, Lib.hid (by have := HK.out; omega)⟩
          · have := blk_drewN (blk_set HB1.out 1 (.slice A1 (rs.length + 1) c1)) m2
            simpa using this
          · exact Kd.R_drewN (Kd.R_mono (Kd.R_far (p := ⟨w.heap.size, 1, none⟩) HO.out (fun k hk => hk.2) _) (fun k hk => ⟨hk.1, hk.2⟩)) m2
          · simp; omega
end Go.Proofs.Ytbnhoacchibbnaa.Log
