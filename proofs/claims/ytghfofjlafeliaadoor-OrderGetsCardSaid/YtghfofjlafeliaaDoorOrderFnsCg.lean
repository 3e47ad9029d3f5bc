-- Cut by a program of this session (wip/shake.py) out of a text of this seat: what this claim doesn't reach is struck out. Lean checks it.
import Derived.Test.YtghfofjlafeliaaDoorOrderWCg
import Derived.Lib.Hide
import Derived.BigRegion
namespace Go.Proofs.YtghfofjlafeliaaDoor.Order
open Go.RowKit Go.Proofs.YtghfofjlafeliaaDoor.Ow Go.Proofs.YtghfofjlafeliaaDoorW.PrintWords Go.Proofs.YtghfofjlafeliaaDoorW.PrintLast Go.Proofs.YtghfofjlafeliaaDoorW.PrintMore
set_option linter.unusedVariables false
set_option linter.unusedSimpArgs false
def RS (T : Nat) (w0 W : World) (A : Option Addr) (n c : Nat) (at_ : Nat) (bad : Bool) : Prop :=
  W.heap[w0.heap.size]? = some (.cells #[.slice A n c, .int .i64 (at_ : Int), .bool bad] T (0, 0)) ∧ Below w0.heap.size w0 W
theorem RS.below {T : Nat} {w0 W W' : World} {A : Option Addr} {n c at_ : Nat} {bad : Bool} (h : RS T w0 W A n c at_ bad) (hb : Below W.heap.size W W') : RS T w0 W' A n c at_ bad := ⟨blk_below h.1 hb, h.2.trans (hb.mono h.2.size)⟩
theorem RS.kept {T : Nat} {w0 W W' : World} {A : Option Addr} {n c at_ : Nat} {bad : Bool} {S : Nat → Prop} (h : RS T w0 W A n c at_ bad) (hk : Kept W W' S) (hb : Below w0.heap.size W W') (hS : ¬ S w0.heap.size) : RS T w0 W' A n c at_ bad := ⟨blk_kept h.1 hk hS, h.2.trans hb⟩
def numOf (l : List Int) (most : Int) (at_ : Nat) (bad : Bool) : Int × Nat × Bool :=
  if bad = true then (0, at_, true) else
  match gat (at_ : Int) (gn most 0 0 (l.drop at_)) with
  | (v, nx, none) => (v, nx.toNat, false)
  | (_, _, some _) => (0, at_, true)
theorem rs_set {T : Nat} {w0 W : World} {A : Option Addr} {n c at_ : Nat} {bad : Bool} (h : W.heap[w0.heap.size]? = some (.cells #[.slice A n c, .int .i64 (at_ : Int), .bool bad] T (0, 0))) (b : Bool) (at2 : Nat) :
    (W.setCell ⟨w0.heap.size, 2, none⟩ (.bool b)).heap[w0.heap.size]? = some (.cells #[.slice A n c, .int .i64 (at_ : Int), .bool b] T (0, 0)) ∧
    (W.setCell ⟨w0.heap.size, 1, none⟩ (.int .i64 (at2 : Int))).heap[w0.heap.size]? = some (.cells #[.slice A n c, .int .i64 (at2 : Int), .bool bad] T (0, 0)) := by
  constructor
  · have := blk_set h 2 (.bool b)
    simpa using this
  · have := blk_set h 1 (.int .i64 (at2 : Int))
    simpa using this
theorem rs_bad {T : Nat} {w0 W W1 : World} {A : Option Addr} {n c at_ : Nat} {bad : Bool} (hg : W.heap[w0.heap.size]? = some (.cells #[.slice A n c, .int .i64 (at_ : Int), .bool bad] T (0, 0))) (hB : Below w0.heap.size w0 W) (hb : Below W.heap.size W W1) (hk : Kept W W1 (fun k => k = w0.heap.size)) (b : Bool) :
    RS T w0 (W1.setCell ⟨w0.heap.size, 2, none⟩ (.bool b)) A n c at_ b ∧ Kept W (W1.setCell ⟨w0.heap.size, 2, none⟩ (.bool b)) (fun k => k = w0.heap.size) ∧ Below w0.heap.size W (W1.setCell ⟨w0.heap.size, 2, none⟩ (.bool b)) := by
  have h1 := blk_below hg hb
  have hbb : Below w0.heap.size W W1 := hb.mono hB.size
  exact ⟨⟨(rs_set h1 b 0).1, hB.trans (hbb.setCell (Nat.le_refl _) _)⟩, hk.setCell (.inl rfl) _, hbb.setCell (Nat.le_refl _) _⟩
theorem rs_at {T : Nat} {w0 W W1 : World} {A : Option Addr} {n c at_ : Nat} {bad : Bool} (h : RS T w0 W1 A n c at_ bad ∧ Kept W W1 (fun k => k = w0.heap.size) ∧ Below w0.heap.size W W1) (at2 : Nat) :
    RS T w0 (W1.setCell ⟨w0.heap.size, 1, none⟩ (.int .i64 (at2 : Int))) A n c at2 bad ∧ Kept W (W1.setCell ⟨w0.heap.size, 1, none⟩ (.int .i64 (at2 : Int))) (fun k => k = w0.heap.size) ∧ Below w0.heap.size W (W1.setCell ⟨w0.heap.size, 1, none⟩ (.int .i64 (at2 : Int))) := by
  obtain ⟨⟨h1, h2⟩, h3, h4⟩ := h
  exact ⟨⟨(rs_set h1 false at2).2, h2.setCell (Nat.le_refl _) _⟩, h3.setCell (.inl rfl) _, h4.setCell (Nat.le_refl _) _⟩
theorem wr_id {v : Int} (h0 : 0 ≤ v) (h1 : v ≤ 65536) : wrap64 v = v := by unfold wrap64; omega
theorem gat_none {a : Int} {r : Int × Int × Option Int} {v nx : Int} (h : gat a r = (v, nx, none)) : r = (v, nx - a, none) := by
  obtain ⟨r1, r2, r3⟩ := r
  unfold gat at h
  cases r3 with
  | none =>
    simp at h
    obtain ⟨rfl, rfl⟩ := h
    simp; omega
  | some z => simp at h
set_option maxHeartbeats 4000000 in
set_option maxRecDepth 100000 in
theorem num_calls (w0 W : World) (A : Option Addr) (c : Nat) (l : List Int) (at_ : Nat) (bad : Bool) (h : RS 54 w0 W A l.length c at_ bad) (hC : Kd.C (Kd.int .u8) w0 A l.length l) (hc : l.length ≤ c) (hb : bytesOk l) (hl : l.length ≤ 1000000) (ha : at_ ≤ l.length) :
    Calls Tryd.prog 23 #[.pointer (some ⟨w0.heap.size, 0, none⟩)] W fun e w' => e = .returned (.int .i64 (numOf l 65536 at_ bad).1) ∧ RS 54 w0 w' A l.length c (numOf l 65536 at_ bad).2.1 (numOf l 65536 at_ bad).2.2 ∧ Kept W w' (fun k => k = w0.heap.size) ∧ Below w0.heap.size W w' := by
  obtain ⟨hg, hB⟩ := h
  have hf := getnum_f l at_ 65536 hb ha (by omega) (2 * l.length + 4) (by omega)
  have hcw : ∀ n, Kd.C (Kd.int .u8) (W.drewN n) A l.length l := fun n => Kd.C_drewN (Kd.C_below hC hB) n
  have c0 : W.cell? ⟨w0.heap.size, 0, none⟩ = some (.slice A l.length c) := (blk_cell hg 0).trans rfl
  have c1 : W.cell? ⟨w0.heap.size, 1, none⟩ = some (.int .i64 (at_ : Int)) := (blk_cell hg 1).trans rfl
  have c2 : W.cell? ⟨w0.heap.size, 2, none⟩ = some (.bool bad) := (blk_cell hg 2).trans rfl
  have HG := Lib.hid hg
  have HB := Lib.hid hB
  have HC := Lib.hid hcw
  have HF := Lib.hid hf
  clear hg hB hC hcw hf
  generalize hq : gat (at_ : Int) (gn 65536 0 0 (l.drop at_)) = q at HF
  obtain ⟨v, nx, er⟩ := q
  have f1 := blk_frozen HG.out 1
  have f2 := blk_frozen HG.out 2
  have hout : numOf l 65536 at_ bad = if bad = true then (0, at_, true) else match er with | none => (v, nx.toNat, false) | some _ => (0, at_, true) := by
    unfold numOf
    rw [hq]
    cases er <;> rfl
  rw [hout]
  have HQ := Lib.hid hq
  clear hq hout
  go_enter Tryd.func23, Tryd.ntmps23
  go_wp2_with fail
  go_region_with (go_at_call 35; refine (wire_GetNum.calls (2 * l.length + 4) A c l at_ 65536 v nx er _ (by first | exact HC.out 1 | exact HC.out 0) hc HF.out).mono ?_; rintro e w1 ⟨rfl, ⟨mz, rfl⟩⟩)
  all_goals
    cases bad with
    | true =>
      go_wp2
      go_ret
      exact ⟨rfl, rs_bad HG.out HB.out (pw_below_drewN (Below.refl _ _) _) (Kept.drewN (Kept.refl _ _) _) true⟩
    | false =>
      cases er with
      | none =>
        have hgn := gat_none HQ.out
        have hb2 := gn_next 65536 (l.drop at_) v (nx - at_) (fun x hx => hb x (List.drop_subset _ _ hx)) hgn
        obtain ⟨m, rfl⟩ : ∃ m : Nat, nx = m := ⟨nx.toNat, by omega⟩
        have hv : wrap64 v = v := wr_id hb2.1 hb2.2.1
        clear hb2 hgn
        rw [errW_none]
        go_wp2
        go_ret
        exact ⟨rfl, rs_at (rs_bad HG.out HB.out (pw_below_drewN (Below.refl _ _) _) (Kept.drewN (Kept.refl _ _) _) false) m⟩
      | some z =>
        rw [errW_some]
        go_wp2
        go_ret
        exact ⟨rfl, rs_bad HG.out HB.out (pw_below_drewN (Below.refl _ _) _) (Kept.drewN (Kept.refl _ _) _) true⟩
def txtOf (l : List Int) (at_ : Nat) (bad : Bool) : ByteArray × Nat × Bool :=
  if bad = true then (⟨#[]⟩, at_, true) else
  match gn 4096 0 0 (l.drop at_) with
  | (v, c, none) => if (at_ : Int) + c + v > (l.length : Int) then (⟨#[]⟩, at_, true) else (strOfNums ((l.take ((at_ : Int) + c + v).toNat).drop ((at_ : Int) + c).toNat), ((at_ : Int) + c + v).toNat, false)
  | (_, _, some _) => (⟨#[]⟩, at_, true)
set_option maxHeartbeats 4000000 in
set_option maxRecDepth 100000 in
theorem text_calls (w0 W : World) (A : Option Addr) (c : Nat) (l : List Int) (at_ : Nat) (bad : Bool) (h : RS 54 w0 W A l.length c at_ bad) (hC : Kd.C (Kd.int .u8) w0 A l.length l) (hc : l.length ≤ c) (hb : bytesOk l) (hl : l.length ≤ 1000000) (ha : at_ ≤ l.length) :
    Calls Tryd.prog 24 #[.pointer (some ⟨w0.heap.size, 0, none⟩)] W fun e w' => e = .returned (.string (txtOf l at_ bad).1) ∧ RS 54 w0 w' A l.length c (txtOf l at_ bad).2.1 (txtOf l at_ bad).2.2 ∧ Kept W w' (fun k => k = w0.heap.size) ∧ Below w0.heap.size W w' := by
  obtain ⟨hg, hB⟩ := h
  have hf := gettext_f l at_ 4096 (by omega) (by omega) hb ha (by omega) (2 * l.length + 5) (by omega)
  have hcw : ∀ n, Kd.C (Kd.int .u8) (W.drewN n) A l.length l := fun n => Kd.C_drewN (Kd.C_below hC hB) n
  have c0 : W.cell? ⟨w0.heap.size, 0, none⟩ = some (.slice A l.length c) := (blk_cell hg 0).trans rfl
  have c1 : W.cell? ⟨w0.heap.size, 1, none⟩ = some (.int .i64 (at_ : Int)) := (blk_cell hg 1).trans rfl
  have c2 : W.cell? ⟨w0.heap.size, 2, none⟩ = some (.bool bad) := (blk_cell hg 2).trans rfl
  have HG := Lib.hid hg
  have HB := Lib.hid hB
  have HC := Lib.hid hcw
  clear hg hB hC hcw
  have f1 := blk_frozen HG.out 1
  have f2 := blk_frozen HG.out 2
  obtain ⟨s, m, er, hf', hout⟩ : ∃ (s : ByteArray) (m : Nat) (er : Option Int), wire_GetText.f (2 * l.length + 5) l (at_ : Int) 4096 = some (s, (m : Int), er) ∧ txtOf l at_ bad = if bad = true then (⟨#[]⟩, at_, true) else match er with | none => (s, m, false) | some _ => (⟨#[]⟩, at_, true) := by
    rw [hf]
    unfold txtOf
    cases hg : gn 4096 0 0 (l.drop at_) with
    | mk v r =>
      obtain ⟨cc, er⟩ := r
      cases er with
      | none =>
        have hb2 := gn_next 4096 (l.drop at_) v cc (fun x hx => hb x (List.drop_subset _ _ hx)) hg
        simp only
        by_cases hh : (at_ : Int) + cc + v > (l.length : Int)
        · rw [if_pos hh, if_pos hh]
          exact ⟨_, 0, some 2, rfl, rfl⟩
        · rw [if_neg hh, if_neg hh]
          refine ⟨_, ((at_ : Int) + cc + v).toNat, none, ?_, rfl⟩
          rw [Int.toNat_of_nonneg (by omega)]
      | some z => exact ⟨_, 0, some z, rfl, rfl⟩
  rw [hout]
  have HF := Lib.hid hf'
  clear hf hf' hout
  go_enter Tryd.func24, Tryd.ntmps24
  go_wp2_with fail
  go_region_with (go_at_call 36; refine (wire_GetText.calls (2 * l.length + 5) A c l at_ 4096 s m er _ (by first | exact HC.out 1 | exact HC.out 0) hc HF.out).mono ?_; rintro e w1 ⟨rfl, ⟨mz, rfl⟩⟩)
  all_goals
    cases bad with
    | true =>
      go_wp2
      go_ret
      exact ⟨rfl, rs_bad HG.out HB.out (pw_below_drewN (Below.refl _ _) _) (Kept.drewN (Kept.refl _ _) _) true⟩
    | false =>
      cases er with
      | none =>
        rw [errW_none]
        go_wp2
        go_ret
        exact ⟨rfl, rs_at (rs_bad HG.out HB.out (pw_below_drewN (Below.refl _ _) _) (Kept.drewN (Kept.refl _ _) _) false) m⟩
      | some z =>
        rw [errW_some]
        go_wp2
        go_ret
        exact ⟨rfl, rs_bad HG.out HB.out (pw_below_drewN (Below.refl _ _) _) (Kept.drewN (Kept.refl _ _) _) true⟩
end Go.Proofs.YtghfofjlafeliaaDoor.Order
