-- Cut by a program of this session (wip/shake.py) out of a text of this seat: what this claim doesn't reach is struck out. Lean checks it.
import Derived.Test.YtpbbgbikebcnbaaMsx0Cx
namespace Go.Proofs.Ytpbbgbikebcnbaa.Ms
open Go.RowKit Go.Proofs.YtpbbgbikebcnbaaW.PrintWords Go.Proofs.YtpbbgbikebcnbaaW.PrintLast Go.Proofs.YtpbbgbikebcnbaaW.PrintMore
attribute [local go_sem] max2_int min2_int max_two min_two max_three min_three max_four min_four   -- for this text's walks alone
set_option linter.unusedVariables false
set_option linter.unusedSimpArgs false
attribute [local go_sem] eqlErr neqErr eqlErrNil neqErrNil
open Go.Proofs.Ytpbbgbikebcnbaa.Mw
def IsS73 (w0 W : World) (g : Nat) (f0 : List Int) (f1 : Int) (f2 : Bool) : Prop := ∃ A0 c0, W.heap[g]? = some (.cells #[.slice A0 f0.length c0, .int .i64 f1, .bool f2] 73 (0, 0)) ∧ w0.heap.size ≤ g ∧ (Kd.C (Kd.int .u8) w0 A0 f0.length f0 ∧ f0.length ≤ c0)
theorem IsS73.grown {w0 W : World} {g : Nat} {f0 : List Int} {f1 : Int} {f2 : Bool} {W1 : World} {row : Option Nat} (h : IsS73 w0 W g f0 f1 f2) (hw : W.grownBy W1 row) (hne : some g ≠ row) : IsS73 w0 W1 g f0 f1 f2 := by
 obtain ⟨A0, c0, hb, hg, hr0⟩ := h
 exact ⟨A0, c0, blk_grown hb hw hne, hg, hr0⟩
theorem IsS73.kept {w0 W : World} {g : Nat} {f0 : List Int} {f1 : Int} {f2 : Bool} {W1 : World} {S : Nat → Prop} (h : IsS73 w0 W g f0 f1 f2) (hk : Kept W W1 S) (hne : ¬ S g) : IsS73 w0 W1 g f0 f1 f2 := by
 obtain ⟨A0, c0, hb, hg, hr0⟩ := h
 exact ⟨A0, c0, blk_kept hb hk hne, hg, hr0⟩
theorem IsS73.below {w0 W : World} {g : Nat} {f0 : List Int} {f1 : Int} {f2 : Bool} {W1 : World} (h : IsS73 w0 W g f0 f1 f2) (hw : Below W.heap.size W W1) : IsS73 w0 W1 g f0 f1 f2 := h.grown (grown_of_below hw none) (by simp)
theorem IsS73.alloc {w0 W : World} {g : Nat} {f0 : List Int} {f1 : Int} {f2 : Bool} (h : IsS73 w0 W g f0 f1 f2) (o : Obj) : IsS73 w0 (W.alloc o) g f0 f1 f2 := h.below (below_alloc (Below.refl _ _) o)
theorem IsS73.drewN {w0 W : World} {g : Nat} {f0 : List Int} {f1 : Int} {f2 : Bool} (h : IsS73 w0 W g f0 f1 f2) (m : Nat) : IsS73 w0 (W.drewN m) g f0 f1 f2 := h
theorem IsS73.drew {w0 W : World} {g : Nat} {f0 : List Int} {f1 : Int} {f2 : Bool} (h : IsS73 w0 W g f0 f1 f2) : IsS73 w0 W.drew g f0 f1 f2 := h
theorem IsS73.at_ {w0 W : World} {g : Nat} {f0 : List Int} {f1 : Int} {f2 : Bool} {w' : World} {m : Nat} (hq : W.drewN m = w') (h : IsS73 w0 W g f0 f1 f2) : IsS73 w0 w' g f0 f1 f2 := by subst hq; exact IsS73.drewN h m
theorem IsS73.apart {w0 W : World} {g : Nat} {f0 : List Int} {f1 : Int} {f2 : Bool} {α : Type} {d : Kd α} {e : Nat} {base : Nat} {ok : Nat → Prop} {v : Value} {xs : List α} (h : IsS73 w0 W g f0 f1 f2) (ho : d.R e W base ok v xs) (ht : ∀ q, q ∈ e :: d.E → q ≠ 73) : d.R e W base (fun k => ok k ∧ k ≠ g) v xs := by
 obtain ⟨A0, c0, hb, hg, hr0⟩ := h
 exact Kd.R_types ho hb ht
theorem IsS73.own_ne {w0 W : World} {g : Nat} {f0 : List Int} {f1 : Int} {f2 : Bool} {α : Type} {d : Kd α} {e : Nat} {base : Nat} {ok : Nat → Prop} {v : Value} {xs : List α} (h : IsS73 w0 W g f0 f1 f2) (ho : d.R e W base ok v xs) (ht : e ≠ 73) : some g ≠ v.ownBlock := by
 obtain ⟨A0, c0, hb, hg, hr0⟩ := h
 exact Kd.R_ne ho hb ht
theorem IsS73.apartS {w0 W : World} {g : Nat} {f0 : List Int} {f1 : Int} {f2 : Bool} {α : Type} {d : Kd α} {e : Nat} {base : Nat} {ok : Nat → Prop} {v : Value} {xs : List α} (h : IsS73 w0 W g f0 f1 f2) (ho : d.S e W base ok v xs) (ht : ∀ q, q ∈ e :: d.E → q ≠ 73) : d.S e W base (fun k => ok k ∧ k ≠ g) v xs := by
 obtain ⟨A0, c0, hb, hg, hr0⟩ := h
 exact Kd.S_types ho hb ht
theorem IsS73.own_neS {w0 W : World} {g : Nat} {f0 : List Int} {f1 : Int} {f2 : Bool} {α : Type} {d : Kd α} {e : Nat} {base : Nat} {ok : Nat → Prop} {v : Value} {xs : List α} (h : IsS73 w0 W g f0 f1 f2) (ho : d.S e W base ok v xs) (ht : e ≠ 73) : some g ≠ v.ownBlock := by
 obtain ⟨A0, c0, hb, hg, hr0⟩ := h
 exact Kd.S_ne ho hb ht
theorem IsS73.lt {w0 W : World} {g : Nat} {f0 : List Int} {f1 : Int} {f2 : Bool} (h : IsS73 w0 W g f0 f1 f2) : g < W.heap.size := by
 obtain ⟨A0, c0, hb, hg, hr0⟩ := h
 exact blk_lt hb
theorem IsS73.ge {w0 W : World} {g : Nat} {f0 : List Int} {f1 : Int} {f2 : Bool} (h : IsS73 w0 W g f0 f1 f2) : w0.heap.size ≤ g := by
 obtain ⟨A0, c0, hb, hg, hr0⟩ := h
 exact hg
theorem IsS73.far {w0 W : World} {g : Nat} {f0 : List Int} {f1 : Int} {f2 : Bool} {p : Addr} (h : IsS73 w0 W g f0 f1 f2) (hne : g ≠ p.block) (u : Value) : IsS73 w0 (W.setCell p u) g f0 f1 f2 := by
 obtain ⟨A0, c0, hb, hg, hr0⟩ := h
 exact ⟨A0, c0, blk_far hb hne u, hg, hr0⟩
theorem cellS73_0 {W : World} {g : Nat} {A0 : Option Addr} {c0 : Nat} {f0 : List Int} {f1 : Int} {f2 : Bool} (h : W.heap[g]? = some (.cells #[.slice A0 f0.length c0, .int .i64 f1, .bool f2] 73 (0, 0))) : W.cell? ⟨g, 0, none⟩ = some (.slice A0 f0.length c0) := (blk_cell h 0).trans rfl
theorem cellS73_1 {W : World} {g : Nat} {A0 : Option Addr} {c0 : Nat} {f0 : List Int} {f1 : Int} {f2 : Bool} (h : W.heap[g]? = some (.cells #[.slice A0 f0.length c0, .int .i64 f1, .bool f2] 73 (0, 0))) : W.cell? ⟨g, 1, none⟩ = some (.int .i64 f1) := (blk_cell h 1).trans rfl
theorem IsS73.set_1 {w0 W : World} {g : Nat} {f0 : List Int} {f1 : Int} {f2 : Bool} (h : IsS73 w0 W g f0 f1 f2) (x : Int) : IsS73 w0 (W.setCell ⟨g, 1, none⟩ (.int .i64 x)) g f0 x f2 := by
 obtain ⟨A0, c0, hb, hg, hr0⟩ := h
 exact ⟨A0, c0, by simpa using blk_set hb 1 (.int .i64 x), hg, hr0⟩
theorem cellS73_2 {W : World} {g : Nat} {A0 : Option Addr} {c0 : Nat} {f0 : List Int} {f1 : Int} {f2 : Bool} (h : W.heap[g]? = some (.cells #[.slice A0 f0.length c0, .int .i64 f1, .bool f2] 73 (0, 0))) : W.cell? ⟨g, 2, none⟩ = some (.bool f2) := (blk_cell h 2).trans rfl
theorem IsS73.set_2 {w0 W : World} {g : Nat} {f0 : List Int} {f1 : Int} {f2 : Bool} (h : IsS73 w0 W g f0 f1 f2) (x : Bool) : IsS73 w0 (W.setCell ⟨g, 2, none⟩ (.bool x)) g f0 f1 x := by
 obtain ⟨A0, c0, hb, hg, hr0⟩ := h
 exact ⟨A0, c0, by simpa using blk_set hb 2 (.bool x), hg, hr0⟩
def msg_reader_num.f (s0_0 : List Int) (s0_1 : Int) (s0_2 : Bool) : Option (Int × Int × Bool) := if Go.Proofs.Ytpbbgbikebcnbaa.MsgL.rdOk s0_0 s0_1 = true then some ((Go.Proofs.Ytpbbgbikebcnbaa.MsgL.numOf s0_0 1000 s0_1.toNat s0_2).1, (((Go.Proofs.Ytpbbgbikebcnbaa.MsgL.numOf s0_0 1000 s0_1.toNat s0_2).2.1 : Nat) : Int), (Go.Proofs.Ytpbbgbikebcnbaa.MsgL.numOf s0_0 1000 s0_1.toNat s0_2).2.2) else none
theorem msg_reader_num.calls (g : Nat) (s0_0 : List Int) (s0_1 : Int) (s0_2 : Bool) (r1 : Int) (r2 : Int) (r3 : Bool) (w0 w : World) (hI : IsS73 w0 w g s0_0 s0_1 s0_2) (hB : Below w0.heap.size w0 w) (h : msg_reader_num.f s0_0 s0_1 s0_2 = some (r1, r2, r3)) :
  Calls Try.prog 39 #[.pointer (some ⟨g, 0, none⟩)] w fun e w' => e = .returned (.int .i64 r1) ∧ IsS73 w0 w' g s0_0 r2 r3 ∧ Below w0.heap.size w0 w' ∧ KeepBut w w' g none := by
 unfold msg_reader_num.f at h
 split at h
 ·rename_i hc
  obtain ⟨A, c, hg, hge, hC, hcp⟩ := hI
  obtain ⟨hb, hl, at_, rfl, ha⟩ := Go.Proofs.Ytpbbgbikebcnbaa.MsgL.rdOk_iff hc
  rw [Int.toNat_natCast] at h
  have hc2 := Go.Proofs.Ytpbbgbikebcnbaa.MsgL.num_calls w0 w g A c s0_0 at_ s0_2 ⟨hg, hge, hB⟩ hC hcp hb hl ha
  simp only [Option.some.injEq, Prod.mk.injEq] at h
  obtain ⟨rfl, rfl, rfl⟩ := h
  refine hc2.mono ?_
  rintro e w' ⟨rfl, ⟨h1, h2, h3⟩, hk, hbl⟩
  exact ⟨rfl, ⟨A, c, h1, h2, hC, hcp⟩, h3, ⟨hk.1, fun i hi hn _ => hk.2 i hi hn⟩⟩
 ·cases h
def msg_reader_text.f (s0_0 : List Int) (s0_1 : Int) (s0_2 : Bool) : Option (ByteArray × Int × Bool) := if Go.Proofs.Ytpbbgbikebcnbaa.MsgL.rdOk s0_0 s0_1 = true then some ((Go.Proofs.Ytpbbgbikebcnbaa.MsgL.txtOf s0_0 s0_1.toNat s0_2).1, (((Go.Proofs.Ytpbbgbikebcnbaa.MsgL.txtOf s0_0 s0_1.toNat s0_2).2.1 : Nat) : Int), (Go.Proofs.Ytpbbgbikebcnbaa.MsgL.txtOf s0_0 s0_1.toNat s0_2).2.2) else none
theorem msg_reader_text.calls (g : Nat) (s0_0 : List Int) (s0_1 : Int) (s0_2 : Bool) (r1 : ByteArray) (r2 : Int) (r3 : Bool) (w0 w : World) (hI : IsS73 w0 w g s0_0 s0_1 s0_2) (hB : Below w0.heap.size w0 w) (h : msg_reader_text.f s0_0 s0_1 s0_2 = some (r1, r2, r3)) :
  Calls Try.prog 40 #[.pointer (some ⟨g, 0, none⟩)] w fun e w' => e = .returned (.string r1) ∧ IsS73 w0 w' g s0_0 r2 r3 ∧ Below w0.heap.size w0 w' ∧ KeepBut w w' g none := by
 unfold msg_reader_text.f at h
 split at h
 ·rename_i hc
  obtain ⟨A, c, hg, hge, hC, hcp⟩ := hI
  obtain ⟨hb, hl, at_, rfl, ha⟩ := Go.Proofs.Ytpbbgbikebcnbaa.MsgL.rdOk_iff hc
  rw [Int.toNat_natCast] at h
  have hc2 := Go.Proofs.Ytpbbgbikebcnbaa.MsgL.text_calls w0 w g A c s0_0 at_ s0_2 ⟨hg, hge, hB⟩ hC hcp hb hl ha
  simp only [Option.some.injEq, Prod.mk.injEq] at h
  obtain ⟨rfl, rfl, rfl⟩ := h
  refine hc2.mono ?_
  rintro e w' ⟨rfl, ⟨h1, h2, h3⟩, hk, hbl⟩
  exact ⟨rfl, ⟨A, c, h1, h2, hC, hcp⟩, h3, ⟨hk.1, fun i hi hn _ => hk.2 i hi hn⟩⟩
 ·cases h
mutual
def msg_reader_proofs.l0 : Nat → List (S95) → Int → List Int → Int → Bool → Option ((List (S95)) × Int × Bool)
 | 0, _, _, _, _, _ => none
 | k + 1, x3, x4, x1000, x1001, x1002 => if x4 > 0 then (msg_reader_proofs.j1 k x3 x4 (!x1002) x1000 x1001 x1002) else (msg_reader_proofs.j1 k x3 x4 false x1000 x1001 x1002)
def msg_reader_proofs.j1 : Nat → List (S95) → Int → Bool → List Int → Int → Bool → Option ((List (S95)) × Int × Bool)
 | 0, _, _, _, _, _, _ => none
 | k + 1, x3, x4, x17, x1000, x1001, x1002 => if x17 = true then ((msg_reader_num.f x1000 x1001 x1002).bind fun bt173 => ((msg_reader_num.f x1000 bt173.2.1 bt173.2.2).bind fun bt176 => ((msg_reader_text.f x1000 bt176.2.1 bt176.2.2).bind fun bt179 => ((msg_reader_num.f x1000 bt179.2.1 bt179.2.2).bind fun bt183 => (msg_reader_proofs.l1 k x3 x4 bt183.1 x1000 bt183.2.1 bt183.2.2 bt173.1 bt176.1 bt179.1 ([] : List Int)))))) else (some (x3, x1001, x1002))
def msg_reader_proofs.l1 : Nat → List (S95) → Int → Int → List Int → Int → Bool → Int → Int → ByteArray → List Int → Option ((List (S95)) × Int × Bool)
 | 0, _, _, _, _, _, _, _, _, _, _ => none
 | k + 1, x3, x4, x6, x1000, x1001, x1002, x183000, x183001, x183002, x183003 => if x6 > 0 then (if x1002 = true then (if x3.length < 2513169434916 then (msg_reader_proofs.l0 k (x3 ++ [(⟨x183000, x183001, x183002, x183003⟩ : S95)]) (wrap64 (x4 - 1)) x1000 x1001 x1002) else (none)) else ((msg_reader_num.f x1000 x1001 x1002).bind fun bt189 => (if x183003.length < 17592186044416 then (msg_reader_proofs.l1 k x3 x4 (wrap64 (x6 - 1)) x1000 bt189.2.1 bt189.2.2 x183000 x183001 x183002 (x183003 ++ [bt189.1])) else (none)))) else (if x3.length < 2513169434916 then (msg_reader_proofs.l0 k (x3 ++ [(⟨x183000, x183001, x183002, x183003⟩ : S95)]) (wrap64 (x4 - 1)) x1000 x1001 x1002) else (none))
end
def msg_reader_proofs.f (k : Nat) (s0_0 : List Int) (s0_1 : Int) (s0_2 : Bool) : Option ((List (S95)) × Int × Bool) := (msg_reader_num.f s0_0 s0_1 s0_2).bind fun bt170 => (msg_reader_proofs.l0 k ([] : List (S95)) bt170.1 s0_0 bt170.2.1 bt170.2.2)
def msg_reader_proofs.T9 : Bool × List (List Nat × List Nat) := (true, [([], []), ([0], [0]), ([], []), ([2], [2]), ([3], [3]), ([1, 4, 3], [1, 4]), ([0, 1, 2, 3, 4, 5], []), ([6, 5, 5, 0, 1, 2, 3, 4, 5], [5, 6])])
def msg_reader_proofs.B9 : List Nat := [0, 1, 0, 4, 12, 31, 63, 127]
theorem msg_reader_proofs.tab9 : rtab .any (opsOf Try.f41 9) = msg_reader_proofs.T9 := by kernel_rfl
theorem msg_reader_proofs.bits9 : waitsOk msg_reader_proofs.T9.2 msg_reader_proofs.B9 = true := by kernel_rfl
set_option maxHeartbeats 8000000 in
set_option maxRecDepth 100000 in
theorem msg_reader_proofs.calls (k : Nat) (g : Nat) (s0_0 : List Int) (s0_1 : Int) (s0_2 : Bool) (r1 : List (S95)) (r2 : Int) (r3 : Bool) (w0 w : World) (hI : IsS73 w0 w g s0_0 s0_1 s0_2) (hB : Below w0.heap.size w0 w) (h : msg_reader_proofs.f k s0_0 s0_1 s0_2 = some (r1, r2, r3)) :
  Calls Try.prog 41 #[.pointer (some ⟨g, 0, none⟩)] w fun e w' => ∃ v0_ : Value, e = .returned (v0_) ∧ Kd.S k95 95 w' w.heap.size (fun _ => True) v0_ r1 ∧ IsS73 w0 w' g s0_0 r2 r3 ∧ Below w0.heap.size w0 w' ∧ KeepBut w w' g none := by
 have hu95 := Try.underlying95
 have HI0 := Aside0.mk hI
 have HK := Aside0.mk (KeepBut.refl w g none)
 have HL := Aside0.mk hB.size
 clear hI
 have HW0 := Aside0.mk hB.size
 have HB := Aside0.mk hB
 clear hB
 have H : ((msg_reader_num.f s0_0 s0_1 s0_2).bind fun bt170 => (msg_reader_proofs.l0 k ([] : List (S95)) bt170.1 s0_0 bt170.2.1 bt170.2.2)) = some (r1, r2, r3) := h
 clear h
 replace H := Option.bind_eq_some_iff.mp H
 obtain ⟨⟨t170, t171, t172⟩, A20, H⟩ := H
 replace H : (msg_reader_proofs.l0 k ([] : List (S95)) t170 s0_0 t171 t172) = some (r1, r2, r3) := H
 have A2 := Aside0.mk A20
 clear A20
 have H' := Aside0.mk H
 clear H
 go_enter Try.func41, Try.ntmps41
 go_wp2_with (first | ((with_reducible refine gate_callee (f := 39) rfl ?_); refine goesL_ (some 8) rfl rfl Try.func39 (by kernel_rfl) rfl #[.pointer (some ⟨g, 0, none⟩)] rfl (by (try simp only [List.map_toArray, List.map_cons, List.map_nil]); first | done | rfl | (simp only [List.length_drop, List.length_take]; rfl)) ?_; (with_reducible refine (msg_reader_num.calls g s0_0 s0_1 s0_2 t170 t171 t172 w0 _ ?side1 ?side2 A2.out).mono ?_); (case side1 => repeat (first | (with_reducible first | exact HI0.out | apply IsS73.alloc | apply IsS73.drewN | apply IsS73.drew | apply IsS73.set_1 | apply IsS73.set_2) | exact HI0.out)); (case side2 => repeat (first | (with_reducible first | exact HB.out | apply below_alloc | apply pw_below_drewN | apply below_drew1 | refine below_set ?_ (IsS73.ge HI0.out)) | exact HB.out)); rintro e w3 ⟨rfl, hi, hb, hk⟩; refine ⟨_, rfl, ?_⟩; have n0_ := Aside0.mk (KeepBut.trans (by repeat (first | (with_reducible first | exact HK.out | apply KeepBut.set_ | apply keep_drewN | apply keep_drew | apply keep_alloc) | exact HK.out)) hk (.inl rfl)); have n1_ := Aside0.mk (hb); have n2_ := Aside0.mk (hi); clear HK; clear HB; clear HI0; have HK := n0_; have HB := n1_; have HI0 := n2_; clear n0_ n1_ n2_; (try clear hb); (try clear hb2); (try clear hk); (try clear hi)))
 go_loopg [3, 4] k (fun kq v3 v4 w' => ∃ (x3_1 : List (S95)) (x4_1 : Int) (x1001_1 : Int) (x1002_1 : Bool), v4 = .int .i64 x4_1 ∧ Aside0 (msg_reader_proofs.l0 kq x3_1 x4_1 s0_0 x1001_1 x1002_1 = some (r1, r2, r3)) ∧ Aside0 (kq ≤ k) ∧ Aside0 (Kd.S k95 95 w' w.heap.size (fun _ => True) v3 x3_1) ∧ Aside0 (IsS73 w0 w' g s0_0 x1001_1 x1002_1) ∧ Aside0 (KeepBut w w' g none) ∧ Aside0 (Below w0.heap.size w0 w'))
 case atStart => exact ⟨(([] : List (S95))), (t170), (t171), (t172), (by first | rfl | (simp; done) | (simp [*]; done)), H', ⟨Nat.le_refl _⟩, ⟨by first | exact Kd.S_nil _ _ _ _ _ | exact Kd.N_nil _ _ _ _ _ | exact Kd.V_nil _ _ _ _ _ | exact Kd.Q_nil _ _ _ _ _ | exact Kd.R_nil _ _ _ _ _⟩, ⟨HI0.out⟩, ⟨by repeat (first | (with_reducible first | exact HK.out | apply KeepBut.set_ | apply keep_drewN | apply keep_drew | apply keep_alloc) | exact HK.out)⟩, ⟨HB.out⟩⟩
 case round =>
  clear H'
  try clear p2
  try clear c3
  obtain ⟨x3_1, x4_1, x1001_1, x1002_1, rfl, HA, HK1, HO_3, HI0, HK, HB⟩ := hrel
  cases gk with
  | zero => exact absurd HA.out (by simp [msg_reader_proofs.l0])
  | succ k1 =>
   have H := HA.out
   clear HA
   simp only [msg_reader_proofs.l0] at H
   have HC4 := Aside0.mk H
   clear H
   go_upto_region 3 with (fail)
   go_cut [17] (fun v17 wc => ∃ (kq : Nat) (x17_3 : Bool), v17 = .bool x17_3 ∧ Aside0 (msg_reader_proofs.j1 kq x3_1 x4_1 x17_3 s0_0 x1001_1 x1002_1 = some (r1, r2, r3)) ∧ Aside0 (kq ≤ k1) ∧ Aside0 (Kd.S k95 95 wc w.heap.size (fun _ => True) u3 x3_1) ∧ Aside0 (IsS73 w0 wc g s0_0 x1001_1 x1002_1) ∧ Aside0 (KeepBut w wc g none) ∧ Aside0 (Below w0.heap.size w0 wc))
   case first =>
    have H := HC4.out
    clear HC4
    by_cases c5 : x4_1 > 0
    ·rw [if_pos c5] at H
     have c5b0 : decide (0 < x4_1) = true := decide_eq_true c5
     clear c5
     (first | rw [c5b0] | (simp only [i64_w, i32_w]; rw [c5b0]) | skip)
     have H' := Aside0.mk H
     clear H
     obtain ⟨ASz6_0, cSz6_0, HGz6, hgz6, HSz6_0⟩ := HI0.out
     have hcz6_0 := cellS73_0 HGz6
     have hcz6_1 := cellS73_1 HGz6
     have hcz6_2 := cellS73_2 HGz6
     have hfz6_1 := blk_frozen HGz6 1
     have hfz6_2 := blk_frozen HGz6 2
     clear HGz6 hgz6
     go_wp2
     go_meet
     case rel => exact ⟨_, (!x1002_1), (by first | rfl | (simp; done) | (simp [*]; done)), H', ⟨by have := HK1.out; first | omega | exact Nat.le_refl _⟩, ⟨HO_3.out⟩, ⟨HI0.out⟩, ⟨by repeat (first | (with_reducible first | exact HK.out | apply KeepBut.set_ | apply keep_drewN | apply keep_drew | apply keep_alloc) | exact HK.out)⟩, ⟨HB.out⟩⟩
    ·rw [if_neg c5] at H
     have c5b0 : decide (0 < x4_1) = false := decide_eq_false c5
     clear c5
     (first | rw [c5b0] | (simp only [i64_w, i32_w]; rw [c5b0]) | skip)
     have H' := Aside0.mk H
     clear H
     go_wp2
     go_meet
     case rel => exact ⟨_, (false), (by first | rfl | (simp; done) | (simp [*]; done)), H', ⟨by have := HK1.out; first | omega | exact Nat.le_refl _⟩, ⟨HO_3.out⟩, ⟨HI0.out⟩, ⟨by repeat (first | (with_reducible first | exact HK.out | apply KeepBut.set_ | apply keep_drewN | apply keep_drew | apply keep_alloc) | exact HK.out)⟩, ⟨HB.out⟩⟩
   case rest =>
    clear HC4
    try clear p2
    try clear c3
    try clear c4
    try clear c5
    try clear c5b0
    try clear hcz6_0
    try clear hcz6_1
    try clear hcz6_2
    try clear hfz6_1
    try clear hfz6_2
    try clear p2
    obtain ⟨kq, x17_3, rfl, HA, HJ3, HO_3, HI0, HK, HB⟩ := hcut
    cases kq with
    | zero => exact absurd HA.out (by simp [msg_reader_proofs.j1])
    | succ kj3 =>
     have H := HA.out
     clear HA
     simp only [msg_reader_proofs.j1] at H
     by_cases c7 : x17_3 = true
     ·subst c7
      have H1 : ((msg_reader_num.f s0_0 x1001_1 x1002_1).bind fun bt173 => ((msg_reader_num.f s0_0 bt173.2.1 bt173.2.2).bind fun bt176 => ((msg_reader_text.f s0_0 bt176.2.1 bt176.2.2).bind fun bt179 => ((msg_reader_num.f s0_0 bt179.2.1 bt179.2.2).bind fun bt183 => (msg_reader_proofs.l1 kj3 x3_1 x4_1 bt183.1 s0_0 bt183.2.1 bt183.2.2 bt173.1 bt176.1 bt179.1 ([] : List Int)))))) = some (r1, r2, r3) := by first | (rw [if_pos rfl] at H; with_reducible exact H) | exact (if_pos rfl).symm.trans H | (simp only [if_true, eq_self_iff_true] at H ⊢; exact H)
      clear H
      have H := H1
      clear H1
      replace H := Option.bind_eq_some_iff.mp H
      obtain ⟨⟨t173, t174, t175⟩, A80, H⟩ := H
      replace H : ((msg_reader_num.f s0_0 t174 t175).bind fun bt176 => ((msg_reader_text.f s0_0 bt176.2.1 bt176.2.2).bind fun bt179 => ((msg_reader_num.f s0_0 bt179.2.1 bt179.2.2).bind fun bt183 => (msg_reader_proofs.l1 kj3 x3_1 x4_1 bt183.1 s0_0 bt183.2.1 bt183.2.2 t173 bt176.1 bt179.1 ([] : List Int))))) = some (r1, r2, r3) := H
      have A8 := Aside0.mk A80
      clear A80
      replace H := Option.bind_eq_some_iff.mp H
      obtain ⟨⟨t176, t177, t178⟩, A90, H⟩ := H
      replace H : ((msg_reader_text.f s0_0 t177 t178).bind fun bt179 => ((msg_reader_num.f s0_0 bt179.2.1 bt179.2.2).bind fun bt183 => (msg_reader_proofs.l1 kj3 x3_1 x4_1 bt183.1 s0_0 bt183.2.1 bt183.2.2 t173 t176 bt179.1 ([] : List Int)))) = some (r1, r2, r3) := H
      have A9 := Aside0.mk A90
      clear A90
      replace H := Option.bind_eq_some_iff.mp H
      obtain ⟨⟨t179, t180, t181⟩, A100, H⟩ := H
      replace H : ((msg_reader_num.f s0_0 t180 t181).bind fun bt183 => (msg_reader_proofs.l1 kj3 x3_1 x4_1 bt183.1 s0_0 bt183.2.1 bt183.2.2 t173 t176 t179 ([] : List Int))) = some (r1, r2, r3) := H
      have A10 := Aside0.mk A100
      clear A100
      replace H := Option.bind_eq_some_iff.mp H
      obtain ⟨⟨t183, t184, t185⟩, A110, H⟩ := H
      replace H : (msg_reader_proofs.l1 kj3 x3_1 x4_1 t183 s0_0 t184 t185 t173 t176 t179 ([] : List Int)) = some (r1, r2, r3) := H
      have A11 := Aside0.mk A110
      clear A110
      have H' := Aside0.mk H
      clear H
      go_wp2_with (first | ((with_reducible refine gate_callee (f := 39) rfl ?_); refine goesL_ (some 21) rfl rfl Try.func39 (by kernel_rfl) rfl #[.pointer (some ⟨g, 0, none⟩)] rfl (by (try simp only [List.map_toArray, List.map_cons, List.map_nil]); first | done | rfl | (simp only [List.length_drop, List.length_take]; rfl)) ?_; (with_reducible refine (msg_reader_num.calls g s0_0 x1001_1 x1002_1 t173 t174 t175 w0 _ ?side1 ?side2 A8.out).mono ?_); (case side1 => repeat (first | (with_reducible first | exact HI0.out | apply IsS73.alloc | apply IsS73.drewN | apply IsS73.drew | apply IsS73.set_1 | apply IsS73.set_2) | exact HI0.out)); (case side2 => repeat (first | (with_reducible first | exact HB.out | apply below_alloc | apply pw_below_drewN | apply below_drew1 | refine below_set ?_ (IsS73.ge HI0.out)) | exact HB.out)); rintro e w12 ⟨rfl, hi, hb, hk⟩; refine ⟨_, rfl, ?_⟩; have n0_ := Aside0.mk (Kd.S_mono (Kd.S_keep (IsS73.apartS (show IsS73 w0 _ g s0_0 x1001_1 x1002_1 from by repeat (first | (with_reducible first | exact HI0.out | apply IsS73.alloc | apply IsS73.drewN | apply IsS73.drew | apply IsS73.set_1 | apply IsS73.set_2) | exact HI0.out)) (by (with_reducible repeat (first | apply Kd.S_alloc | apply Kd.S_drewN | apply Kd.S_drew)); exact HO_3.out) (by decide)) hk (fun _ h => h.2)) (fun _ h => h.1)); have n1_ := Aside0.mk (KeepBut.trans (by repeat (first | (with_reducible first | exact HK.out | apply KeepBut.set_ | apply keep_drewN | apply keep_drew | apply keep_alloc) | exact HK.out)) hk (.inl rfl)); have n2_ := Aside0.mk (hb); have n3_ := Aside0.mk (hi); clear HO_3; clear HK; clear HB; clear HI0; have HO_3 := n0_; have HK := n1_; have HB := n2_; have HI0 := n3_; clear n0_ n1_ n2_ n3_; (try clear hb); (try clear hb2); (try clear hk); (try clear hi)) | ((with_reducible refine gate_callee (f := 39) rfl ?_); refine goesL_ (some 23) rfl rfl Try.func39 (by kernel_rfl) rfl #[.pointer (some ⟨g, 0, none⟩)] rfl (by (try simp only [List.map_toArray, List.map_cons, List.map_nil]); first | done | rfl | (simp only [List.length_drop, List.length_take]; rfl)) ?_; (with_reducible refine (msg_reader_num.calls g s0_0 t174 t175 t176 t177 t178 w0 _ ?side1 ?side2 A9.out).mono ?_); (case side1 => repeat (first | (with_reducible first | exact HI0.out | apply IsS73.alloc | apply IsS73.drewN | apply IsS73.drew | apply IsS73.set_1 | apply IsS73.set_2) | exact HI0.out)); (case side2 => repeat (first | (with_reducible first | exact HB.out | apply below_alloc | apply pw_below_drewN | apply below_drew1 | refine below_set ?_ (IsS73.ge HI0.out)) | exact HB.out)); rintro e w13 ⟨rfl, hi, hb, hk⟩; refine ⟨_, rfl, ?_⟩; have n0_ := Aside0.mk (Kd.S_mono (Kd.S_keep (IsS73.apartS (show IsS73 w0 _ g s0_0 t174 t175 from by repeat (first | (with_reducible first | exact HI0.out | apply IsS73.alloc | apply IsS73.drewN | apply IsS73.drew | apply IsS73.set_1 | apply IsS73.set_2) | exact HI0.out)) (by (with_reducible repeat (first | apply Kd.S_alloc | apply Kd.S_drewN | apply Kd.S_drew)); exact HO_3.out) (by decide)) hk (fun _ h => h.2)) (fun _ h => h.1)); have n1_ := Aside0.mk (KeepBut.trans (by repeat (first | (with_reducible first | exact HK.out | apply KeepBut.set_ | apply keep_drewN | apply keep_drew | apply keep_alloc) | exact HK.out)) hk (.inl rfl)); have n2_ := Aside0.mk (hb); have n3_ := Aside0.mk (hi); clear HO_3; clear HK; clear HB; clear HI0; have HO_3 := n0_; have HK := n1_; have HB := n2_; have HI0 := n3_; clear n0_ n1_ n2_ n3_; (try clear hb); (try clear hb2); (try clear hk); (try clear hi)) | ((with_reducible refine gate_callee (f := 40) rfl ?_); refine goesL_ (some 25) rfl rfl Try.func40 (by kernel_rfl) rfl #[.pointer (some ⟨g, 0, none⟩)] rfl (by (try simp only [List.map_toArray, List.map_cons, List.map_nil]); first | done | rfl | (simp only [List.length_drop, List.length_take]; rfl)) ?_; (with_reducible refine (msg_reader_text.calls g s0_0 t177 t178 t179 t180 t181 w0 _ ?side1 ?side2 A10.out).mono ?_); (case side1 => repeat (first | (with_reducible first | exact HI0.out | apply IsS73.alloc | apply IsS73.drewN | apply IsS73.drew | apply IsS73.set_1 | apply IsS73.set_2) | exact HI0.out)); (case side2 => repeat (first | (with_reducible first | exact HB.out | apply below_alloc | apply pw_below_drewN | apply below_drew1 | refine below_set ?_ (IsS73.ge HI0.out)) | exact HB.out)); rintro e w14 ⟨rfl, hi, hb, hk⟩; refine ⟨_, rfl, ?_⟩; have n0_ := Aside0.mk (Kd.S_mono (Kd.S_keep (IsS73.apartS (show IsS73 w0 _ g s0_0 t177 t178 from by repeat (first | (with_reducible first | exact HI0.out | apply IsS73.alloc | apply IsS73.drewN | apply IsS73.drew | apply IsS73.set_1 | apply IsS73.set_2) | exact HI0.out)) (by (with_reducible repeat (first | apply Kd.S_alloc | apply Kd.S_drewN | apply Kd.S_drew)); exact HO_3.out) (by decide)) hk (fun _ h => h.2)) (fun _ h => h.1)); have n1_ := Aside0.mk (KeepBut.trans (by repeat (first | (with_reducible first | exact HK.out | apply KeepBut.set_ | apply keep_drewN | apply keep_drew | apply keep_alloc) | exact HK.out)) hk (.inl rfl)); have n2_ := Aside0.mk (hb); have n3_ := Aside0.mk (hi); clear HO_3; clear HK; clear HB; clear HI0; have HO_3 := n0_; have HK := n1_; have HB := n2_; have HI0 := n3_; clear n0_ n1_ n2_ n3_; (try clear hb); (try clear hb2); (try clear hk); (try clear hi)) | ((with_reducible refine gate_dst (N := 5) rfl ?_); refine box_event ?hg (N := 5) ?hd (cs := #[.int .i64 0, .int .i64 0, .string (⟨#[]⟩ : ByteArray), .slice none 0 0]) (t := 95) ?hr ?_; (case hd => rfl); (case hg => rfl); (case hr => first | (go_simp; done) | (go_simp; rfl)); intro gb182 hg w15 hbox hb; have n0_ := Aside0.mk (Kd.S_below (Kd.S_elderB (by (with_reducible repeat (first | apply Kd.S_alloc | apply Kd.S_drewN | apply Kd.S_drew)); exact HO_3.out) gb182 (Nat.le_of_eq hg.symm)) hb); have n1_ := Aside0.mk (IsS73.below (by repeat (first | (with_reducible first | exact HI0.out | apply IsS73.alloc | apply IsS73.drewN | apply IsS73.drew | apply IsS73.set_1 | apply IsS73.set_2) | exact HI0.out)) hb); have n2_ := Aside0.mk (KeepBut.trans (by repeat (first | (with_reducible first | exact HK.out | apply KeepBut.set_ | apply keep_drewN | apply keep_drew | apply keep_alloc) | exact HK.out)) (KeepBut.of_below hb g none) (.inl rfl)); have n3_ := Aside0.mk (below_step (by repeat (first | (with_reducible first | exact HB.out | apply below_alloc | apply pw_below_drewN | apply below_drew1 | refine below_set ?_ (IsS73.ge HI0.out)) | exact HB.out)) hb); have n4_ := Aside0.mk (hbox); have n5_ := Aside0.mk ((by rw [hg]; exact (keep_size (w := w) (g := g) (row := none) (by repeat (first | (with_reducible first | exact HK.out | apply KeepBut.set_ | apply keep_drewN | apply keep_drew | apply keep_alloc) | exact HK.out))) : w.heap.size ≤ gb182)); have n6_ := Aside0.mk ((Nat.le_trans HW0.out (by rw [hg]; exact (keep_size (w := w) (g := g) (row := none) (by repeat (first | (with_reducible first | exact HK.out | apply KeepBut.set_ | apply keep_drewN | apply keep_drew | apply keep_alloc) | exact HK.out))) : w.heap.size ≤ gb182) : w0.heap.size ≤ gb182)); have n7_ := Aside0.mk ((by rw [hg]; exact Nat.ne_of_lt (IsS73.lt (show IsS73 w0 _ g s0_0 t180 t181 from by repeat (first | (with_reducible first | exact HI0.out | apply IsS73.alloc | apply IsS73.drewN | apply IsS73.drew | apply IsS73.set_1 | apply IsS73.set_2) | exact HI0.out))) : g ≠ gb182)); have n8_ := Aside0.mk ((by rw [hg]; exact Nat.ne_of_gt (IsS73.lt (show IsS73 w0 _ g s0_0 t180 t181 from by repeat (first | (with_reducible first | exact HI0.out | apply IsS73.alloc | apply IsS73.drewN | apply IsS73.drew | apply IsS73.set_1 | apply IsS73.set_2) | exact HI0.out))) : gb182 ≠ g)); clear HO_3; clear HI0; clear HK; clear HB; have HO_3 := n0_; have HI0 := n1_; have HK := n2_; have HB := n3_; have BK182 := n4_; have GW182 := n5_; have GE182 := n6_; have NB0_182 := n7_; have NB182_0 := n8_; clear n0_ n1_ n2_ n3_ n4_ n5_ n6_ n7_ n8_; clear hb hbox hg; have hnb16 := NB182_0.out; have hnc16 := NB0_182.out; have hcz17_0 : w15.cell? ⟨gb182, 0, none⟩ = some (.int .i64 0) := (blk_cell BK182.out 0).trans rfl; have hcz17_1 : w15.cell? ⟨gb182, 1, none⟩ = some (.int .i64 0) := (blk_cell BK182.out 1).trans rfl; have hcz17_2 : w15.cell? ⟨gb182, 2, none⟩ = some (.string (⟨#[]⟩ : ByteArray)) := (blk_cell BK182.out 2).trans rfl; have hcz17_3 : w15.cell? ⟨gb182, 3, none⟩ = some (.slice none 0 0) := (blk_cell BK182.out 3).trans rfl; have hfz17_0 := blk_frozen BK182.out 0; have hfz17_1 := blk_frozen BK182.out 1; have hfz17_2 := blk_frozen BK182.out 2; have hfz17_3 := blk_frozen BK182.out 3) | ((with_reducible refine gate_callee (f := 39) rfl ?_); refine goesL_ (some 28) rfl rfl Try.func39 (by kernel_rfl) rfl #[.pointer (some ⟨g, 0, none⟩)] rfl (by (try simp only [List.map_toArray, List.map_cons, List.map_nil]); first | done | rfl | (simp only [List.length_drop, List.length_take]; rfl)) ?_; (with_reducible refine (msg_reader_num.calls g s0_0 t180 t181 t183 t184 t185 w0 _ ?side1 ?side2 A11.out).mono ?_); (case side1 => repeat (first | (with_reducible first | exact HI0.out | apply IsS73.alloc | apply IsS73.drewN | apply IsS73.drew | apply IsS73.set_1 | apply IsS73.set_2 | refine IsS73.far ?_ NB0_182.out _) | exact HI0.out)); (case side2 => repeat (first | (with_reducible first | exact HB.out | apply below_alloc | apply pw_below_drewN | apply below_drew1 | refine below_set ?_ (IsS73.ge HI0.out) | refine below_set ?_ GE182.out) | exact HB.out)); rintro e w18 ⟨rfl, hi, hb, hk⟩; refine ⟨_, rfl, ?_⟩; have n0_ := Aside0.mk (Kd.S_mono (Kd.S_keep (IsS73.apartS (show IsS73 w0 _ g s0_0 t180 t181 from by repeat (first | (with_reducible first | exact HI0.out | apply IsS73.alloc | apply IsS73.drewN | apply IsS73.drew | apply IsS73.set_1 | apply IsS73.set_2 | refine IsS73.far ?_ NB0_182.out _) | exact HI0.out)) (by (with_reducible repeat (first | apply Kd.S_alloc | apply Kd.S_drewN | apply Kd.S_drew)); exact (Kd.S_mono (Kd.S_far (p := ⟨gb182, 3, none⟩) (Kd.S_far (p := ⟨gb182, 2, none⟩) (Kd.S_far (p := ⟨gb182, 1, none⟩) (Kd.S_far (p := ⟨gb182, 0, none⟩) (Kd.S_mono HO_3.out (fun k_ hk => (⟨hk, hk.2⟩ : _ ∧ k_ ≠ gb182))) (fun _ hk => hk.2) (.int .i64 t173)) (fun _ hk => hk.2) (.int .i64 t176)) (fun _ hk => hk.2) (.string t179)) (fun _ hk => hk.2) (.slice none 0 0)) (fun _ h_ => h_.1))) (by decide)) hk (fun _ h => h.2)) (fun _ h => h.1)); have n1_ := Aside0.mk (KeepBut.blk hk (g' := gb182) (o := .cells #[.int .i64 t173, .int .i64 t176, .string t179, .slice none 0 0] 95 (0, 0)) (by (with_reducible repeat (first | refine blk_drewN ?_ _ | refine blk_drew ?_ | refine blk_alloc ?_ _)); refine blk_put (cs := #[.int .i64 t173, .int .i64 t176, .string t179, .slice none 0 0]) ?_ 3 _ rfl; (with_reducible repeat (first | refine blk_drewN ?_ _ | refine blk_drew ?_ | refine blk_alloc ?_ _)); refine blk_put (cs := #[.int .i64 t173, .int .i64 t176, .string (⟨#[]⟩ : ByteArray), .slice none 0 0]) ?_ 2 _ rfl; (with_reducible repeat (first | refine blk_drewN ?_ _ | refine blk_drew ?_ | refine blk_alloc ?_ _)); refine blk_put (cs := #[.int .i64 t173, .int .i64 0, .string (⟨#[]⟩ : ByteArray), .slice none 0 0]) ?_ 1 _ rfl; (with_reducible repeat (first | refine blk_drewN ?_ _ | refine blk_drew ?_ | refine blk_alloc ?_ _)); refine blk_put (cs := #[.int .i64 0, .int .i64 0, .string (⟨#[]⟩ : ByteArray), .slice none 0 0]) ?_ 0 _ rfl; (with_reducible repeat (first | refine blk_drewN ?_ _ | refine blk_drew ?_ | refine blk_alloc ?_ _)); exact BK182.out) NB182_0.out (by simp)); have n2_ := Aside0.mk (KeepBut.trans (by repeat (first | (with_reducible first | exact HK.out | apply KeepBut.set_ | apply keep_drewN | apply keep_drew | apply keep_alloc | refine keep_far ?_ GW182.out _) | exact HK.out)) hk (.inl rfl)); have n3_ := Aside0.mk (hb); have n4_ := Aside0.mk (hi); clear HO_3; clear BK182; clear HK; clear HB; clear HI0; have HO_3 := n0_; have BK182 := n1_; have HK := n2_; have HB := n3_; have HI0 := n4_; clear n0_ n1_ n2_ n3_ n4_; (try clear hb); (try clear hb2); (try clear hk); (try clear hi)))
      go_loopg [6] kj3 (fun kq v6 w' => ∃ (x6_3 : Int) (x1001_3 : Int) (x1002_3 : Bool) (x183003_3 : List Int) (u183003 : Value), v6 = .int .i64 x6_3 ∧ Aside0 (msg_reader_proofs.l1 kq x3_1 x4_1 x6_3 s0_0 x1001_3 x1002_3 t173 t176 t179 x183003_3 = some (r1, r2, r3)) ∧ Aside0 (kq ≤ kj3) ∧ Aside0 (Kd.S k95 95 w' w.heap.size (fun k_ => some k_ ≠ (u183003 : Value).ownBlock ∧ k_ ≠ gb182) u3 x3_1) ∧ Aside0 (Kd.R (Kd.int .i64) 3 w' w.heap.size (fun _ => True) u183003 x183003_3) ∧ Aside0 (w'.heap[gb182]? = some (.cells #[.int .i64 t173, .int .i64 t176, .string t179, u183003] 95 (0, 0))) ∧ Aside0 (IsS73 w0 w' g s0_0 x1001_3 x1002_3) ∧ Aside0 (KeepBut w w' g none) ∧ Aside0 (Below w0.heap.size w0 w'))
      case atStart => exact ⟨(t183), (t184), (t185), (([] : List Int)), (.slice none 0 0), (by first | rfl | (simp; done) | (simp [*]; done)), H', ⟨Nat.le_refl _⟩, ⟨Kd.S_mono HO_3.out (fun _ hk => ⟨(by simp [Value.ownBlock]), hk.2⟩)⟩, ⟨by first | exact Kd.R_nil _ _ _ _ _ | exact Kd.N_nil _ _ _ _ _ | exact Kd.V_nil _ _ _ _ _ | exact Kd.Q_nil _ _ _ _ _ | exact Kd.S_nil _ _ _ _ _⟩, ⟨BK182.out⟩, ⟨HI0.out⟩, ⟨by repeat (first | (with_reducible first | exact HK.out | apply KeepBut.set_ | apply keep_drewN | apply keep_drew | apply keep_alloc | refine keep_far ?_ GW182.out _) | exact HK.out)⟩, ⟨HB.out⟩⟩
      case round =>
       clear H'
       try clear c1
       try clear p2
       try clear c3
       try clear c4
       try clear c5
       try clear c5b0
       try clear c7
       try clear c16
       try clear hcz17_0
       try clear hcz17_1
       try clear hcz17_2
       try clear hcz17_3
       try clear hcz6_0
       try clear hcz6_1
       try clear hcz6_2
       try clear hfz17_0
       try clear hfz17_1
       try clear hfz17_2
       try clear hfz17_3
       try clear hfz6_1
       try clear hfz6_2
       try clear p2
       obtain ⟨x6_3, x1001_3, x1002_3, x183003_3, u183003, rfl, HA, HK3, HO_3, HO_183003, BK182, HI0, HK, HB⟩ := hrel
       cases gk with
       | zero => exact absurd HA.out (by simp [msg_reader_proofs.l1])
       | succ k3 =>
        have H := HA.out
        clear HA
        simp only [msg_reader_proofs.l1] at H
        by_cases c19 : x6_3 > 0
        ·rw [if_pos c19] at H
         have c19b0 : decide (0 < x6_3) = true := decide_eq_true c19
         clear c19
         by_cases c20 : x1002_3 = true
         ·subst c20
          have H1 : (if x3_1.length < 2513169434916 then (msg_reader_proofs.l0 k3 (x3_1 ++ [(⟨t173, t176, t179, x183003_3⟩ : S95)]) (wrap64 (x4_1 - 1)) s0_0 x1001_3 true) else (none)) = some (r1, r2, r3) := by first | (rw [if_pos rfl] at H; with_reducible exact H) | exact (if_pos rfl).symm.trans H | (simp only [if_true, eq_self_iff_true] at H ⊢; exact H)
          clear H
          have H := H1
          clear H1
          by_cases c21 : x3_1.length < 2513169434916
          ·rw [if_pos c21] at H
           have LMc21 := Aside0.mk c21
           clear c21
           obtain ⟨y186, hy186⟩ : ∃ y_ : List (S95), y_ = (x3_1 ++ [(⟨t173, t176, t179, x183003_3⟩ : S95)]) := ⟨_, rfl⟩
           replace H : (msg_reader_proofs.l0 k3 y186 (wrap64 (x4_1 - 1)) s0_0 x1001_3 true) = some (r1, r2, r3) := by first | (rw [hy186]; with_reducible exact H) | (have H2_ := (Option.bind_some _ _).symm.trans H; rw [hy186]; with_reducible exact H2_) | (have H2_ := (Option.bind_some _ _).symm.trans H; with_reducible exact H2_) | with_reducible exact H | (rw [hy186]; exact H) | exact H
           have Ny186 := Aside0.mk hy186
           clear hy186
           have H' := Aside0.mk H
           clear H
           obtain ⟨ASz22_0, cSz22_0, HGz22, hgz22, HSz22_0⟩ := HI0.out
           have hcz22_0 := cellS73_0 HGz22
           have hcz22_1 := cellS73_1 HGz22
           have hcz22_2 := cellS73_2 HGz22
           have hfz22_1 := blk_frozen HGz22 1
           have hfz22_2 := blk_frozen HGz22 2
           clear HGz22 hgz22
           have hnb23 := NB182_0.out
           have hnc23 := NB0_182.out
           have hcz24_0 : wr.cell? ⟨gb182, 0, none⟩ = some (.int .i64 t173) := (blk_cell BK182.out 0).trans rfl
           have hcz24_1 : wr.cell? ⟨gb182, 1, none⟩ = some (.int .i64 t176) := (blk_cell BK182.out 1).trans rfl
           have hcz24_2 : wr.cell? ⟨gb182, 2, none⟩ = some (.string t179) := (blk_cell BK182.out 2).trans rfl
           have hcz24_3 : wr.cell? ⟨gb182, 3, none⟩ = some (u183003) := (blk_cell BK182.out 3).trans rfl
           have hfz24_0 := blk_frozen BK182.out 0
           have hfz24_1 := blk_frozen BK182.out 1
           have hfz24_2 := blk_frozen BK182.out 2
           have hfz24_3 := blk_frozen BK182.out 3
           obtain ⟨Ao26, co26, eo26⟩ := Kd.R_slice HO_183003.out
           subst eo26
           go_wp2_with (first | ((with_reducible refine gate_builtin (b := .append) (xs := #[.tmp 47, .tmp 49]) rfl ?_); at_builtin; refine Kd.S_append k95 w.heap.size rfl (.tmp 47) (.tmp 49) 22 95 (.agg #[(.int .i64 0), (.int .i64 0), (.string ⟨#[]⟩), (.slice none 0 0)]) 56 rfl Try.underlying22 info95 rfl (by decide) (by omega) u3 x3_1 (⟨t173, t176, t179, x183003_3⟩ : S95) [.int .i64 t173, .int .i64 t176, .string t179, .slice Ao26 x183003_3.length co26] (fun k_ => k_ ≠ gb182) (fun k_ => some k_ = (.slice Ao26 x183003_3.length co26 : Value).ownBlock) rfl rfl ?aP (fun k_ hk_ => ((Kd.R_mono (ok' := fun k_ => ((fun k_ => k_ ≠ gb182)) k_ ∧ some k_ ≠ (u3 : Value).ownBlock) (Kd.R_types (Kd.R_apart' (HO_183003.out) (Kd.S_typed HO_3.out) (by decide)) BK182.out (by decide)) (fun k_ hk => ⟨hk.2, hk.1.2⟩))).1 k_ hk_.symm) ?aF ?aO (Below.refl _ _) ?aS ?aL ?_; (case aP => exact k95_mkM _ _ _ (⟨t173, t176, t179, x183003_3⟩ : S95) (Kd.R_mono (Kd.R_tight rfl (Kd.R_mono (ok' := fun k_ => ((fun k_ => k_ ≠ gb182)) k_ ∧ some k_ ≠ (u3 : Value).ownBlock) (Kd.R_types (Kd.R_apart' (HO_183003.out) (Kd.S_typed HO_3.out) (by decide)) BK182.out (by decide)) (fun k_ hk => ⟨hk.2, hk.1.2⟩))) (fun _ h_ => h_))); (case aF => exact (fun k_ hk => Kd.freshB (g := gb182) (o := .cells #[.int .i64 t173, .int .i64 t176, .string t179, .slice Ao26 x183003_3.length co26] 95 (0, 0)) (BK182.out) k_ hk)); (case aO => exact (Kd.S_mono HO_3.out (fun k_ hk => ⟨hk.2, fun e_ => hk.1 e_⟩))); (case aS => exact (keep_size (w := w) (g := g) (row := none) (by repeat (first | (with_reducible first | exact HK.out | apply KeepBut.set_ | apply keep_drewN | apply keep_drew | apply keep_alloc | refine keep_far ?_ GW182.out _) | exact HK.out)))); (case aL => have := LMc21.out; omega); intro v187 w25 ho hb hg hat; rw [← Ny186.out] at ho; have n0_ := Aside0.mk (blk_grown (g := gb182) (o := .cells #[.int .i64 t173, .int .i64 t176, .string t179, .slice Ao26 x183003_3.length co26] 95 (0, 0)) (BK182.out) hg (Kd.S_away HO_3.out (fun _ hk => hk.2))); have n1_ := Aside0.mk (IsS73.grown (HI0.out) hg (IsS73.own_neS HI0.out HO_3.out (by decide))); have n2_ := Aside0.mk (below_weaken (HB.out) HL.out hb); have n3_ := Aside0.mk (KeepBut.trans (by repeat (first | (with_reducible first | exact HK.out | apply KeepBut.set_ | apply keep_drewN | apply keep_drew | apply keep_alloc | refine keep_far ?_ GW182.out _) | exact HK.out)) (KeepBut.of_grown hg g) (Kd.S_base2 HO_3.out)); have n4_ := Aside0.mk (ho); clear BK182; clear HI0; clear HB; clear HK; clear HO_3; clear HO_183003; have BK182 := n0_; have HI0 := n1_; have HB := n2_; have HK := n3_; have HO188 := n4_; clear n0_ n1_ n2_ n3_ n4_; clear ho hb hg hat))
           go_roundg k3
           case measure => have := HK1.out; have := HJ3.out; have := HK3.out; omega
           case rel => exact ⟨(y186), (wrap64 (x4_1 - 1)), (x1001_3), (true), (by first | rfl | (simp; done) | (simp [*]; done)), H', ⟨by have := HK1.out; have := HJ3.out; have := HK3.out; omega⟩, ⟨Kd.S_mono HO188.out (fun _ hk => trivial)⟩, ⟨HI0.out⟩, ⟨by repeat (first | (with_reducible first | exact HK.out | apply KeepBut.set_ | apply keep_drewN | apply keep_drew | apply keep_alloc | refine keep_far ?_ GW182.out _) | exact HK.out)⟩, ⟨HB.out⟩⟩
          ·rw [if_neg c21] at H
           exact absurd H (by simp)
         ·replace c20 := Bool.eq_false_iff.mpr c20
          subst c20
          have H1 : ((msg_reader_num.f s0_0 x1001_3 false).bind fun bt189 => (if x183003_3.length < 17592186044416 then (msg_reader_proofs.l1 k3 x3_1 x4_1 (wrap64 (x6_3 - 1)) s0_0 bt189.2.1 bt189.2.2 t173 t176 t179 (x183003_3 ++ [bt189.1])) else (none))) = some (r1, r2, r3) := by rw [if_neg (show ¬ (false = true) by decide)] at H; exact H
          clear H
          have H := H1
          clear H1
          replace H := Option.bind_eq_some_iff.mp H
          obtain ⟨⟨t189, t190, t191⟩, A270, H⟩ := H
          replace H : (if x183003_3.length < 17592186044416 then (msg_reader_proofs.l1 k3 x3_1 x4_1 (wrap64 (x6_3 - 1)) s0_0 t190 t191 t173 t176 t179 (x183003_3 ++ [t189])) else (none)) = some (r1, r2, r3) := H
          have A27 := Aside0.mk A270
          clear A270
          by_cases c28 : x183003_3.length < 17592186044416
          ·rw [if_pos c28] at H
           have LMc28 := Aside0.mk c28
           clear c28
           obtain ⟨y192, hy192⟩ : ∃ y_ : List Int, y_ = (x183003_3 ++ [t189]) := ⟨_, rfl⟩
           replace H : (msg_reader_proofs.l1 k3 x3_1 x4_1 (wrap64 (x6_3 - 1)) s0_0 t190 t191 t173 t176 t179 y192) = some (r1, r2, r3) := by first | (rw [hy192]; with_reducible exact H) | (have H2_ := (Option.bind_some _ _).symm.trans H; rw [hy192]; with_reducible exact H2_) | (have H2_ := (Option.bind_some _ _).symm.trans H; with_reducible exact H2_) | with_reducible exact H | (rw [hy192]; exact H) | exact H
           have Ny192 := Aside0.mk hy192
           clear hy192
           have H' := Aside0.mk H
           clear H
           obtain ⟨ASz29_0, cSz29_0, HGz29, hgz29, HSz29_0⟩ := HI0.out
           have hcz29_0 := cellS73_0 HGz29
           have hcz29_1 := cellS73_1 HGz29
           have hcz29_2 := cellS73_2 HGz29
           have hfz29_1 := blk_frozen HGz29 1
           have hfz29_2 := blk_frozen HGz29 2
           clear HGz29 hgz29
           try go_wp2
           have n0_ := Aside0.mk (Kd.S_drew HO_3.out)
           have n1_ := Aside0.mk (Kd.R_drew HO_183003.out)
           have n2_ := Aside0.mk (blk_drew BK182.out)
           have n3_ := Aside0.mk (IsS73.drew HI0.out)
           have n4_ := Aside0.mk (keep_drew HK.out)
           have n5_ := Aside0.mk (below_drew1 HB.out)
           clear HO_3
           clear HO_183003
           clear BK182
           clear HI0
           clear HK
           clear HB
           have HO_3 := n0_
           have HO_183003 := n1_
           have BK182 := n2_
           have HI0 := n3_
           have HK := n4_
           have HB := n5_
           clear n0_ n1_ n2_ n3_ n4_ n5_
           refine start_ (n := 8) (S := fun w' => w'.cell? ⟨gb182, 0, none⟩ = some (.int .i64 t173) ∧ w'.cell? ⟨gb182, 1, none⟩ = some (.int .i64 t176) ∧ w'.cell? ⟨gb182, 2, none⟩ = some (.string t179) ∧ w'.cell? ⟨gb182, 3, none⟩ = some (u183003)) (ds := [7]) #[false, false, false, false, false, false, false, false] (by kernel_rfl) rfl rfl ⟨(blk_cell BK182.out 0).trans rfl, (blk_cell BK182.out 1).trans rfl, (blk_cell BK182.out 2).trans rfl, (blk_cell BK182.out 3).trans rfl⟩ (fun hHeld => ?_); refine with_tabW msg_reader_proofs.tab9 msg_reader_proofs.bits9 (fun HT_ HW_ => ?_)
           generalize wr.drew = w30 at HO_3 HO_183003 BK182 HI0 HK HB hHeld ⊢
           refine pure_ (i := 0) (N := some 40) (v := ?_) (a' := ?_) #[true, false, false, false, false, false, false, false] rfl rfl (any_of HT_.out (by kernel_rfl)) (fun _ _ _ h => h) (Or.inl ⟨by rfl, ?_⟩) ?_ ?_
           rotate_left
           ·intro w'
            go_simp
            with_reducible rfl
           rotate_left
           ·simp only [Act.put, List.setIfInBounds_toArray, List.set_cons_zero, List.set_cons_succ, i64_w, i32_w]
            rfl
           refine pure_ (i := 2) (N := some 42) (v := ?_) (a' := ?_) #[true, false, true, false, false, false, false, false] rfl rfl (any_of HT_.out (by kernel_rfl)) (fun _ _ _ h => h) (Or.inl ⟨by rfl, ?_⟩) ?_ ?_
           rotate_left
           ·intro w'
            go_simp
            with_reducible rfl
           rotate_left
           ·simp only [Act.put, List.setIfInBounds_toArray, List.set_cons_zero, List.set_cons_succ, i64_w, i32_w]
            rfl
           refine take_ (i := 1) (N := some 41) (v := ?_) (a' := ?_) #[true, true, true, false, false, false, false, false] rfl rfl (take_ofW HT_.out HW_.out (by kernel_rfl)) (fun _ _ _ h => h) (Or.inl ⟨by rfl, ?_⟩) hHeld ?_ ?_
           rotate_left
           ·rintro w' ⟨s0, s1, s2, s3⟩
            go_simp
            with_reducible rfl
           rotate_left
           ·simp only [Act.put, List.setIfInBounds_toArray, List.set_cons_zero, List.set_cons_succ, i64_w, i32_w]
            rfl
           refine one_ (i := 3) (N := some 43) #[true, true, true, true, false, false, false, false] rfl rfl (one_of HT_.out (by kernel_rfl)) (by decide) (fun K hK => ?_)
           refine goes_ Try.func39 (by kernel_rfl) rfl #[.pointer (some ⟨g, 0, none⟩)] (by rfl) rfl rfl (by (try simp only [List.map_toArray, List.map_cons, List.map_nil]); first | done | rfl | (simp only [List.length_drop, List.length_take]; rfl)) ?_
           with_reducible refine (msg_reader_num.calls g s0_0 x1001_3 false t189 t190 t191 w0 _ ?side1 ?side2 A27.out).mono ?_
           (case side1 => repeat (first | (with_reducible first | exact HI0.out | apply IsS73.alloc | apply IsS73.drewN | apply IsS73.drew | apply IsS73.set_1 | apply IsS73.set_2 | refine IsS73.far ?_ NB0_182.out _) | exact HI0.out))
           (case side2 => repeat (first | (with_reducible first | exact HB.out | apply below_alloc | apply pw_below_drewN | apply below_drew1 | refine below_set ?_ (IsS73.ge HI0.out) | refine below_set ?_ GE182.out) | exact HB.out))
           rintro e w31 ⟨rfl, hi, hb, hk⟩
           refine ⟨_, rfl, ?_⟩
           have n0_ := Aside0.mk (Kd.S_mono (Kd.S_keep (IsS73.apartS (show IsS73 w0 _ g s0_0 x1001_3 false from HI0.out) (HO_3.out) (by decide)) hk (fun _ h => h.2)) (fun _ h => h.1))
           have n1_ := Aside0.mk (Kd.R_mono (Kd.R_keep (IsS73.apart (show IsS73 w0 _ g s0_0 x1001_3 false from HI0.out) (HO_183003.out) (by decide)) hk (fun _ h => h.2)) (fun _ h => h.1))
           have n2_ := Aside0.mk (KeepBut.blk hk (g' := gb182) (o := .cells #[.int .i64 t173, .int .i64 t176, .string t179, u183003] 95 (0, 0)) (BK182.out) NB182_0.out (by simp))
           have n3_ := Aside0.mk (KeepBut.trans (by repeat (first | (with_reducible first | exact HK.out | apply KeepBut.set_ | apply keep_drewN | apply keep_drew | apply keep_alloc | refine keep_far ?_ GW182.out _) | exact HK.out)) hk (.inl rfl))
           have n4_ := Aside0.mk (hb)
           have n5_ := Aside0.mk (hi)
           clear HO_3
           clear HO_183003
           clear BK182
           clear HK
           clear HB
           clear HI0
           have HO_3 := n0_
           have HO_183003 := n1_
           have BK182 := n2_
           have HK := n3_
           have HB := n4_
           have HI0 := n5_
           clear n0_ n1_ n2_ n3_ n4_ n5_
           (try clear hb)
           (try clear hb2)
           (try clear hk)
           (try clear hi)
           refine hK.out _ _ ⟨(blk_cell BK182.out 0).trans rfl, (blk_cell BK182.out 1).trans rfl, (blk_cell BK182.out 2).trans rfl, (blk_cell BK182.out 3).trans rfl⟩ (fun hHeld => ?_)
           clear hK K
           refine norm_ (a' := ?_) ?_ ?_
           rotate_left
           ·show Act.put _ (some 43) _ = _
            simp only [Act.put, List.setIfInBounds_toArray, List.set_cons_zero, List.set_cons_succ, i64_w, i32_w]
            rfl
           refine one_ (i := 4) (N := some 44) #[true, true, true, true, true, false, false, false] rfl rfl (one_of HT_.out (by kernel_rfl)) (by decide) (fun K hK => ?_)
           refine value_ (w1 := ?_) (v := ?_) (by rfl) rfl ?_ ?_
           rotate_left 2
           ·go_simp
            constructor
            ·rfl
            ·rfl
           refine hK.out _ _ ⟨(blk_cell (blk_alloc BK182.out _) 0).trans rfl, (blk_cell (blk_alloc BK182.out _) 1).trans rfl, (blk_cell (blk_alloc BK182.out _) 2).trans rfl, (blk_cell (blk_alloc BK182.out _) 3).trans rfl⟩ (fun hHeld => ?_)
           clear hK K
           refine norm_ (a' := ?_) ?_ ?_
           rotate_left
           ·show Act.put _ (some 44) _ = _
            simp only [Act.put, List.setIfInBounds_toArray, List.set_cons_zero, List.set_cons_succ, i64_w, i32_w]
            rfl
           refine one_ (i := 5) (N := some 45) #[true, true, true, true, true, true, false, false] rfl rfl (one_of HT_.out (by kernel_rfl)) (by decide) (fun K hK => ?_)
           refine Kd.R_append_step (Kd.int .i64) w.heap.size (by rfl) (.tmp 41) (.tmp 44) 93 3 (.int .i64 0) 8 rfl Try.underlying93 info3 rfl (by decide) (by omega) u183003 x183003_3 t189 [.int .i64 t189] (fun _ => True) (fun _ => False) rfl rfl ?aP (fun _ hk => hk.elim) ?aF ?aO (Below.refl _ _) ?aS ?aL ?_
           (case aP => exact rfl)
           (case aF => exact (fun _ _ => trivial))
           (case aO => exact (HO_183003.out))
           (case aS => exact (keep_size (w := w) (g := g) (row := none) (by repeat (first | (with_reducible first | exact HK.out | apply KeepBut.set_ | apply keep_drewN | apply keep_drew | apply keep_alloc | refine keep_far ?_ GW182.out _) | exact HK.out))))
           (case aL => have := LMc28.out; omega)
           intro v193 w32 ho hb hg hat
           rw [← Ny192.out] at ho
           have n0_ := Aside0.mk (Kd.S_after (ok := (fun k_ => k_ ≠ gb182)) (Kd.S_mono HO_3.out (fun _ hk => ⟨hk.2, hk.1⟩)) hg hat)
           have n1_ := Aside0.mk (blk_grown (g := gb182) (o := .cells #[.int .i64 t173, .int .i64 t176, .string t179, u183003] 95 (0, 0)) (BK182.out) hg (Kd.R_ne HO_183003.out BK182.out (by decide)))
           have n2_ := Aside0.mk (IsS73.grown (HI0.out) hg (IsS73.own_ne HI0.out HO_183003.out (by decide)))
           have n3_ := Aside0.mk (below_weaken (HB.out) HL.out hb)
           have n4_ := Aside0.mk (KeepBut.trans (by repeat (first | (with_reducible first | exact HK.out | apply KeepBut.set_ | apply keep_drewN | apply keep_drew | apply keep_alloc | refine keep_far ?_ GW182.out _) | exact HK.out)) (KeepBut.of_grown hg g) (Kd.R_base2 HO_183003.out))
           have n5_ := Aside0.mk (ho)
           clear HO_3
           clear BK182
           clear HI0
           clear HB
           clear HK
           clear HO_183003
           have HO_3 := n0_
           have BK182 := n1_
           have HI0 := n2_
           have HB := n3_
           have HK := n4_
           have HO194 := n5_
           clear n0_ n1_ n2_ n3_ n4_ n5_
           clear ho hb hg hat
           obtain ⟨Ao33, co33, eo33⟩ := Kd.R_slice HO194.out
           (first | subst eo33 | (injection eo33 with f1_ f2_ f3_; have f4_ := f1_.symm; have f5_ := f3_.symm; clear f1_ f2_ f3_; subst f4_; subst f5_))
           refine hK.out _ _ ⟨(blk_cell BK182.out 0).trans rfl, (blk_cell BK182.out 1).trans rfl, (blk_cell BK182.out 2).trans rfl, (blk_cell BK182.out 3).trans rfl⟩ (fun hHeld => ?_)
           clear hK K
           refine norm_ (a' := ?_) ?_ ?_
           rotate_left
           ·show Act.put _ (some 45) _ = _
            simp only [Act.put, List.setIfInBounds_toArray, List.set_cons_zero, List.set_cons_succ, i64_w, i32_w]
            rfl
           refine pure_ (i := 6) (N := some 46) (v := ?_) (a' := ?_) #[true, true, true, true, true, true, true, false] rfl rfl (any_of HT_.out (by kernel_rfl)) (fun _ _ _ h => h) (Or.inl ⟨by rfl, ?_⟩) ?_ ?_
           rotate_left
           ·intro w'
            go_simp
            with_reducible rfl
           rotate_left
           ·simp only [Act.put, List.setIfInBounds_toArray, List.set_cons_zero, List.set_cons_succ, i64_w, i32_w]
            rfl
           refine last_ (i := 7) (N := none) #[true, true, true, true, true, true, true, true] rfl rfl (one_of HT_.out (by kernel_rfl)) (by decide) (fun K hK => ?_)
           have hs34 : w32.cell? ⟨gb182, 3, none⟩ = some (u183003) := (blk_cell BK182.out 3).trans rfl
           have hfs34 := blk_frozen BK182.out 3
           refine skip_ (w1 := ?_) (by rfl) rfl ?_ ?_
           rotate_left
           ·go_simp
            rfl
           refine hK.out _ _ ?_
           clear hK K
           refine done_ (done_of HT_.out (by kernel_rfl)) ?_
           try go_wp2
           go_roundg k3
           case measure => have := HK1.out; have := HJ3.out; have := HK3.out; omega
           case rel => exact ⟨(wrap64 (x6_3 - 1)), (t190), (t191), (y192), (.slice Ao33 y192.length co33), (by first | rfl | (simp; done) | (simp [*]; done)), H', ⟨by have := HK1.out; have := HJ3.out; have := HK3.out; omega⟩, ⟨by (with_reducible repeat (first | apply Kd.S_alloc | apply Kd.S_drewN | apply Kd.S_drew)); exact Kd.S_mono (Kd.S_far (p := ⟨gb182, 3, none⟩) (Kd.S_mono HO_3.out (fun k_ hk => (⟨hk, hk.1⟩ : _ ∧ k_ ≠ gb182))) (fun _ hk => hk.2) (.slice Ao33 y192.length co33)) (fun _ hk => ⟨hk.1.2, hk.1.1⟩)⟩, ⟨by (with_reducible repeat (first | apply Kd.R_alloc | apply Kd.R_drewN | apply Kd.R_drew)); exact Kd.R_mono (Kd.R_far (p := ⟨gb182, 3, none⟩) (Kd.R_types HO194.out BK182.out (by decide)) (fun _ hk => hk.2) (.slice Ao33 y192.length co33)) (fun _ hk => trivial)⟩, ⟨by (with_reducible repeat (first | refine blk_drewN ?_ _ | refine blk_drew ?_ | refine blk_alloc ?_ _)); refine blk_put (cs := #[.int .i64 t173, .int .i64 t176, .string t179, u183003]) ?_ 3 _ rfl; (with_reducible repeat (first | refine blk_drewN ?_ _ | refine blk_drew ?_ | refine blk_alloc ?_ _)); exact BK182.out⟩, ⟨by repeat (first | (with_reducible first | exact HI0.out | apply IsS73.alloc | apply IsS73.drewN | apply IsS73.drew | apply IsS73.set_1 | apply IsS73.set_2 | refine IsS73.far ?_ NB0_182.out _) | exact HI0.out)⟩, ⟨by repeat (first | (with_reducible first | exact HK.out | apply KeepBut.set_ | apply keep_drewN | apply keep_drew | apply keep_alloc | refine keep_far ?_ GW182.out _) | exact HK.out)⟩, ⟨by repeat (first | (with_reducible first | exact HB.out | apply below_alloc | apply pw_below_drewN | apply below_drew1 | refine below_set ?_ (IsS73.ge HI0.out) | refine below_set ?_ GE182.out) | exact HB.out)⟩⟩
          ·rw [if_neg c28] at H
           exact absurd H (by simp)
        ·rw [if_neg c19] at H
         have c19b0 : decide (0 < x6_3) = false := decide_eq_false c19
         clear c19
         by_cases c35 : x3_1.length < 2513169434916
         ·rw [if_pos c35] at H
          have LMc35 := Aside0.mk c35
          clear c35
          obtain ⟨y195, hy195⟩ : ∃ y_ : List (S95), y_ = (x3_1 ++ [(⟨t173, t176, t179, x183003_3⟩ : S95)]) := ⟨_, rfl⟩
          replace H : (msg_reader_proofs.l0 k3 y195 (wrap64 (x4_1 - 1)) s0_0 x1001_3 x1002_3) = some (r1, r2, r3) := by first | (rw [hy195]; with_reducible exact H) | (have H2_ := (Option.bind_some _ _).symm.trans H; rw [hy195]; with_reducible exact H2_) | (have H2_ := (Option.bind_some _ _).symm.trans H; with_reducible exact H2_) | with_reducible exact H | (rw [hy195]; exact H) | exact H
          have Ny195 := Aside0.mk hy195
          clear hy195
          have H' := Aside0.mk H
          clear H
          have hnb36 := NB182_0.out
          have hnc36 := NB0_182.out
          have hcz37_0 : wr.cell? ⟨gb182, 0, none⟩ = some (.int .i64 t173) := (blk_cell BK182.out 0).trans rfl
          have hcz37_1 : wr.cell? ⟨gb182, 1, none⟩ = some (.int .i64 t176) := (blk_cell BK182.out 1).trans rfl
          have hcz37_2 : wr.cell? ⟨gb182, 2, none⟩ = some (.string t179) := (blk_cell BK182.out 2).trans rfl
          have hcz37_3 : wr.cell? ⟨gb182, 3, none⟩ = some (u183003) := (blk_cell BK182.out 3).trans rfl
          have hfz37_0 := blk_frozen BK182.out 0
          have hfz37_1 := blk_frozen BK182.out 1
          have hfz37_2 := blk_frozen BK182.out 2
          have hfz37_3 := blk_frozen BK182.out 3
          obtain ⟨Ao39, co39, eo39⟩ := Kd.R_slice HO_183003.out
          subst eo39
          go_wp2_with (first | ((with_reducible refine gate_builtin (b := .append) (xs := #[.tmp 47, .tmp 49]) rfl ?_); at_builtin; refine Kd.S_append k95 w.heap.size rfl (.tmp 47) (.tmp 49) 22 95 (.agg #[(.int .i64 0), (.int .i64 0), (.string ⟨#[]⟩), (.slice none 0 0)]) 56 rfl Try.underlying22 info95 rfl (by decide) (by omega) u3 x3_1 (⟨t173, t176, t179, x183003_3⟩ : S95) [.int .i64 t173, .int .i64 t176, .string t179, .slice Ao39 x183003_3.length co39] (fun k_ => k_ ≠ gb182) (fun k_ => some k_ = (.slice Ao39 x183003_3.length co39 : Value).ownBlock) rfl rfl ?aP (fun k_ hk_ => ((Kd.R_mono (ok' := fun k_ => ((fun k_ => k_ ≠ gb182)) k_ ∧ some k_ ≠ (u3 : Value).ownBlock) (Kd.R_types (Kd.R_apart' (HO_183003.out) (Kd.S_typed HO_3.out) (by decide)) BK182.out (by decide)) (fun k_ hk => ⟨hk.2, hk.1.2⟩))).1 k_ hk_.symm) ?aF ?aO (Below.refl _ _) ?aS ?aL ?_; (case aP => exact k95_mkM _ _ _ (⟨t173, t176, t179, x183003_3⟩ : S95) (Kd.R_mono (Kd.R_tight rfl (Kd.R_mono (ok' := fun k_ => ((fun k_ => k_ ≠ gb182)) k_ ∧ some k_ ≠ (u3 : Value).ownBlock) (Kd.R_types (Kd.R_apart' (HO_183003.out) (Kd.S_typed HO_3.out) (by decide)) BK182.out (by decide)) (fun k_ hk => ⟨hk.2, hk.1.2⟩))) (fun _ h_ => h_))); (case aF => exact (fun k_ hk => Kd.freshB (g := gb182) (o := .cells #[.int .i64 t173, .int .i64 t176, .string t179, .slice Ao39 x183003_3.length co39] 95 (0, 0)) (BK182.out) k_ hk)); (case aO => exact (Kd.S_mono HO_3.out (fun k_ hk => ⟨hk.2, fun e_ => hk.1 e_⟩))); (case aS => exact (keep_size (w := w) (g := g) (row := none) (by repeat (first | (with_reducible first | exact HK.out | apply KeepBut.set_ | apply keep_drewN | apply keep_drew | apply keep_alloc | refine keep_far ?_ GW182.out _) | exact HK.out)))); (case aL => have := LMc35.out; omega); intro v196 w38 ho hb hg hat; rw [← Ny195.out] at ho; have n0_ := Aside0.mk (blk_grown (g := gb182) (o := .cells #[.int .i64 t173, .int .i64 t176, .string t179, .slice Ao39 x183003_3.length co39] 95 (0, 0)) (BK182.out) hg (Kd.S_away HO_3.out (fun _ hk => hk.2))); have n1_ := Aside0.mk (IsS73.grown (HI0.out) hg (IsS73.own_neS HI0.out HO_3.out (by decide))); have n2_ := Aside0.mk (below_weaken (HB.out) HL.out hb); have n3_ := Aside0.mk (KeepBut.trans (by repeat (first | (with_reducible first | exact HK.out | apply KeepBut.set_ | apply keep_drewN | apply keep_drew | apply keep_alloc | refine keep_far ?_ GW182.out _) | exact HK.out)) (KeepBut.of_grown hg g) (Kd.S_base2 HO_3.out)); have n4_ := Aside0.mk (ho); clear BK182; clear HI0; clear HB; clear HK; clear HO_3; clear HO_183003; have BK182 := n0_; have HI0 := n1_; have HB := n2_; have HK := n3_; have HO197 := n4_; clear n0_ n1_ n2_ n3_ n4_; clear ho hb hg hat))
          go_roundg k3
          case measure => have := HK1.out; have := HJ3.out; have := HK3.out; omega
          case rel => exact ⟨(y195), (wrap64 (x4_1 - 1)), (x1001_3), (x1002_3), (by first | rfl | (simp; done) | (simp [*]; done)), H', ⟨by have := HK1.out; have := HJ3.out; have := HK3.out; omega⟩, ⟨Kd.S_mono HO197.out (fun _ hk => trivial)⟩, ⟨HI0.out⟩, ⟨by repeat (first | (with_reducible first | exact HK.out | apply KeepBut.set_ | apply keep_drewN | apply keep_drew | apply keep_alloc | refine keep_far ?_ GW182.out _) | exact HK.out)⟩, ⟨HB.out⟩⟩
         ·rw [if_neg c35] at H
          exact absurd H (by simp)
     ·replace c7 := Bool.eq_false_iff.mpr c7
      subst c7
      have H1 : (some (x3_1, x1001_1, x1002_1)) = some (r1, r2, r3) := by rw [if_neg (show ¬ (false = true) by decide)] at H; exact H
      clear H
      have H := H1
      clear H1
      simp only [Option.some.injEq, Prod.mk.injEq] at H
      obtain ⟨rfl, rfl, rfl⟩ := H
      go_wp2
      go_ret
      exact ⟨_, by first | rfl | (simp [errW_none, errW_some] <;> rfl) | (simp [*, errW_none, errW_some] <;> rfl), HO_3.out, HI0.out, HB.out, by repeat (first | (with_reducible first | exact HK.out | apply KeepBut.set_ | apply keep_drewN | apply keep_drew | apply keep_alloc) | exact HK.out)⟩
end Go.Proofs.Ytpbbgbikebcnbaa.Ms
