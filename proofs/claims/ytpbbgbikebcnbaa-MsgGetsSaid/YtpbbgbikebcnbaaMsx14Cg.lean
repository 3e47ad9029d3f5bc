-- Cut by a program of this session (wip/shake.py) out of a text of this seat: what this claim doesn't reach is struck out. Lean checks it.
import Derived.Test.YtpbbgbikebcnbaaMsx0Cg
namespace Go.Proofs.Ytpbbgbikebcnbaa.Ms
open Go.RowKit Go.Proofs.YtpbbgbikebcnbaaW.PrintWords Go.Proofs.YtpbbgbikebcnbaaW.PrintLast Go.Proofs.YtpbbgbikebcnbaaW.PrintMore
attribute [local go_sem] max2_int min2_int max_two min_two max_three min_three max_four min_four   -- for this text's walks alone
set_option linter.unusedVariables false
set_option linter.unusedSimpArgs false
attribute [local go_sem] eqlErr neqErr eqlErrNil neqErrNil
open Go.Proofs.Ytpbbgbikebcnbaa.Mw
def IsS79 (w0 W : World) (g : Nat) (f0 : List Int) (f1 : Int) (f2 : Bool) : Prop := ∃ A0 c0, W.heap[g]? = some (.cells #[.slice A0 f0.length c0, .int .i64 f1, .bool f2] 79 (0, 0)) ∧ w0.heap.size ≤ g ∧ (Kd.C (Kd.int .u8) w0 A0 f0.length f0 ∧ f0.length ≤ c0)
theorem IsS79.grown {w0 W : World} {g : Nat} {f0 : List Int} {f1 : Int} {f2 : Bool} {W1 : World} {row : Option Nat} (h : IsS79 w0 W g f0 f1 f2) (hw : W.grownBy W1 row) (hne : some g ≠ row) : IsS79 w0 W1 g f0 f1 f2 := by
  obtain ⟨A0, c0, hb, hg, hr0⟩ := h
  exact ⟨A0, c0, blk_grown hb hw hne, hg, hr0⟩
theorem IsS79.kept {w0 W : World} {g : Nat} {f0 : List Int} {f1 : Int} {f2 : Bool} {W1 : World} {S : Nat → Prop} (h : IsS79 w0 W g f0 f1 f2) (hk : Kept W W1 S) (hne : ¬ S g) : IsS79 w0 W1 g f0 f1 f2 := by
  obtain ⟨A0, c0, hb, hg, hr0⟩ := h
  exact ⟨A0, c0, blk_kept hb hk hne, hg, hr0⟩
theorem IsS79.below {w0 W : World} {g : Nat} {f0 : List Int} {f1 : Int} {f2 : Bool} {W1 : World} (h : IsS79 w0 W g f0 f1 f2) (hw : Below W.heap.size W W1) : IsS79 w0 W1 g f0 f1 f2 := h.grown (grown_of_below hw none) (by simp)
theorem IsS79.alloc {w0 W : World} {g : Nat} {f0 : List Int} {f1 : Int} {f2 : Bool} (h : IsS79 w0 W g f0 f1 f2) (o : Obj) : IsS79 w0 (W.alloc o) g f0 f1 f2 := h.below (below_alloc (Below.refl _ _) o)
theorem IsS79.drewN {w0 W : World} {g : Nat} {f0 : List Int} {f1 : Int} {f2 : Bool} (h : IsS79 w0 W g f0 f1 f2) (m : Nat) : IsS79 w0 (W.drewN m) g f0 f1 f2 := h
theorem IsS79.drew {w0 W : World} {g : Nat} {f0 : List Int} {f1 : Int} {f2 : Bool} (h : IsS79 w0 W g f0 f1 f2) : IsS79 w0 W.drew g f0 f1 f2 := h
theorem IsS79.at_ {w0 W : World} {g : Nat} {f0 : List Int} {f1 : Int} {f2 : Bool} {w' : World} {m : Nat} (hq : W.drewN m = w') (h : IsS79 w0 W g f0 f1 f2) : IsS79 w0 w' g f0 f1 f2 := by subst hq; exact IsS79.drewN h m
theorem IsS79.apart {w0 W : World} {g : Nat} {f0 : List Int} {f1 : Int} {f2 : Bool} {α : Type} {d : Kd α} {e : Nat} {base : Nat} {ok : Nat → Prop} {v : Value} {xs : List α} (h : IsS79 w0 W g f0 f1 f2) (ho : d.R e W base ok v xs) (ht : ∀ q, q ∈ e :: d.E → q ≠ 79) : d.R e W base (fun k => ok k ∧ k ≠ g) v xs := by
  obtain ⟨A0, c0, hb, hg, hr0⟩ := h
  exact Kd.R_types ho hb ht
theorem IsS79.own_ne {w0 W : World} {g : Nat} {f0 : List Int} {f1 : Int} {f2 : Bool} {α : Type} {d : Kd α} {e : Nat} {base : Nat} {ok : Nat → Prop} {v : Value} {xs : List α} (h : IsS79 w0 W g f0 f1 f2) (ho : d.R e W base ok v xs) (ht : e ≠ 79) : some g ≠ v.ownBlock := by
  obtain ⟨A0, c0, hb, hg, hr0⟩ := h
  exact Kd.R_ne ho hb ht
theorem IsS79.apartS {w0 W : World} {g : Nat} {f0 : List Int} {f1 : Int} {f2 : Bool} {α : Type} {d : Kd α} {e : Nat} {base : Nat} {ok : Nat → Prop} {v : Value} {xs : List α} (h : IsS79 w0 W g f0 f1 f2) (ho : d.S e W base ok v xs) (ht : ∀ q, q ∈ e :: d.E → q ≠ 79) : d.S e W base (fun k => ok k ∧ k ≠ g) v xs := by
  obtain ⟨A0, c0, hb, hg, hr0⟩ := h
  exact Kd.S_types ho hb ht
theorem IsS79.own_neS {w0 W : World} {g : Nat} {f0 : List Int} {f1 : Int} {f2 : Bool} {α : Type} {d : Kd α} {e : Nat} {base : Nat} {ok : Nat → Prop} {v : Value} {xs : List α} (h : IsS79 w0 W g f0 f1 f2) (ho : d.S e W base ok v xs) (ht : e ≠ 79) : some g ≠ v.ownBlock := by
  obtain ⟨A0, c0, hb, hg, hr0⟩ := h
  exact Kd.S_ne ho hb ht
theorem IsS79.lt {w0 W : World} {g : Nat} {f0 : List Int} {f1 : Int} {f2 : Bool} (h : IsS79 w0 W g f0 f1 f2) : g < W.heap.size := by
  obtain ⟨A0, c0, hb, hg, hr0⟩ := h
  exact blk_lt hb
theorem IsS79.ge {w0 W : World} {g : Nat} {f0 : List Int} {f1 : Int} {f2 : Bool} (h : IsS79 w0 W g f0 f1 f2) : w0.heap.size ≤ g := by
  obtain ⟨A0, c0, hb, hg, hr0⟩ := h
  exact hg
theorem IsS79.far {w0 W : World} {g : Nat} {f0 : List Int} {f1 : Int} {f2 : Bool} {p : Addr} (h : IsS79 w0 W g f0 f1 f2) (hne : g ≠ p.block) (u : Value) : IsS79 w0 (W.setCell p u) g f0 f1 f2 := by
  obtain ⟨A0, c0, hb, hg, hr0⟩ := h
  exact ⟨A0, c0, blk_far hb hne u, hg, hr0⟩
theorem cellS79_0 {W : World} {g : Nat} {A0 : Option Addr} {c0 : Nat} {f0 : List Int} {f1 : Int} {f2 : Bool} (h : W.heap[g]? = some (.cells #[.slice A0 f0.length c0, .int .i64 f1, .bool f2] 79 (0, 0))) : W.cell? ⟨g, 0, none⟩ = some (.slice A0 f0.length c0) := (blk_cell h 0).trans rfl
theorem cellS79_1 {W : World} {g : Nat} {A0 : Option Addr} {c0 : Nat} {f0 : List Int} {f1 : Int} {f2 : Bool} (h : W.heap[g]? = some (.cells #[.slice A0 f0.length c0, .int .i64 f1, .bool f2] 79 (0, 0))) : W.cell? ⟨g, 1, none⟩ = some (.int .i64 f1) := (blk_cell h 1).trans rfl
theorem IsS79.set_1 {w0 W : World} {g : Nat} {f0 : List Int} {f1 : Int} {f2 : Bool} (h : IsS79 w0 W g f0 f1 f2) (x : Int) : IsS79 w0 (W.setCell ⟨g, 1, none⟩ (.int .i64 x)) g f0 x f2 := by
  obtain ⟨A0, c0, hb, hg, hr0⟩ := h
  exact ⟨A0, c0, by simpa using blk_set hb 1 (.int .i64 x), hg, hr0⟩
theorem cellS79_2 {W : World} {g : Nat} {A0 : Option Addr} {c0 : Nat} {f0 : List Int} {f1 : Int} {f2 : Bool} (h : W.heap[g]? = some (.cells #[.slice A0 f0.length c0, .int .i64 f1, .bool f2] 79 (0, 0))) : W.cell? ⟨g, 2, none⟩ = some (.bool f2) := (blk_cell h 2).trans rfl
theorem IsS79.set_2 {w0 W : World} {g : Nat} {f0 : List Int} {f1 : Int} {f2 : Bool} (h : IsS79 w0 W g f0 f1 f2) (x : Bool) : IsS79 w0 (W.setCell ⟨g, 2, none⟩ (.bool x)) g f0 f1 x := by
  obtain ⟨A0, c0, hb, hg, hr0⟩ := h
  exact ⟨A0, c0, by simpa using blk_set hb 2 (.bool x), hg, hr0⟩
def becketref01_Reader_Num.f (s0_0 : List Int) (s0_1 : Int) (s0_2 : Bool) (a1 : Int) : Option (Int × Int × Bool) := if Go.Proofs.Ytpbbgbikebcnbaa.MsgL.rdOk s0_0 s0_1 = true ∧ 0 ≤ a1 ∧ a1 ≤ Go.Proofs.Ytpbbgbikebcnbaa.MsgL.big31 then some ((Go.Proofs.Ytpbbgbikebcnbaa.MsgL.numOf s0_0 a1 s0_1.toNat s0_2).1, (((Go.Proofs.Ytpbbgbikebcnbaa.MsgL.numOf s0_0 a1 s0_1.toNat s0_2).2.1 : Nat) : Int), (Go.Proofs.Ytpbbgbikebcnbaa.MsgL.numOf s0_0 a1 s0_1.toNat s0_2).2.2) else none
theorem becketref01_Reader_Num.calls (g : Nat) (s0_0 : List Int) (s0_1 : Int) (s0_2 : Bool) (a1 : Int) (r1 : Int) (r2 : Int) (r3 : Bool) (w0 w : World) (hI : IsS79 w0 w g s0_0 s0_1 s0_2) (hB : Below w0.heap.size w0 w) (h : becketref01_Reader_Num.f s0_0 s0_1 s0_2 a1 = some (r1, r2, r3)) :
    Calls Try.prog 42 #[.pointer (some ⟨g, 0, none⟩), .int .u64 a1] w fun e w' => e = .returned (.int .i64 r1) ∧ IsS79 w0 w' g s0_0 r2 r3 ∧ Below w0.heap.size w0 w' ∧ KeepBut w w' g none := by
  unfold becketref01_Reader_Num.f at h
  split at h
  · rename_i hc
    obtain ⟨A, c, hg, hge, hC, hcp⟩ := hI
    obtain ⟨hb, hl, at_, rfl, ha⟩ := Go.Proofs.Ytpbbgbikebcnbaa.MsgL.rdOk_iff hc.1
    rw [Int.toNat_natCast] at h
    have hc2 := Go.Proofs.Ytpbbgbikebcnbaa.MsgL.rnum_calls w0 w g A c s0_0 at_ s0_2 a1 hc.2 ⟨hg, hge, hB⟩ hC hcp hb hl ha
    simp only [Option.some.injEq, Prod.mk.injEq] at h
    obtain ⟨rfl, rfl, rfl⟩ := h
    refine hc2.mono ?_
    rintro e w' ⟨rfl, ⟨h1, h2, h3⟩, hk, hbl⟩
    exact ⟨rfl, ⟨A, c, h1, h2, hC, hcp⟩, h3, ⟨hk.1, fun i hi hn _ => hk.2 i hi hn⟩⟩
  · cases h
def becketref01_Reader_Text.f (s0_0 : List Int) (s0_1 : Int) (s0_2 : Bool) : Option (ByteArray × Int × Bool) := if Go.Proofs.Ytpbbgbikebcnbaa.MsgL.rdOk s0_0 s0_1 = true then some ((Go.Proofs.Ytpbbgbikebcnbaa.MsgL.rtxt s0_0 s0_1.toNat s0_2).1, (((Go.Proofs.Ytpbbgbikebcnbaa.MsgL.rtxt s0_0 s0_1.toNat s0_2).2.1 : Nat) : Int), (Go.Proofs.Ytpbbgbikebcnbaa.MsgL.rtxt s0_0 s0_1.toNat s0_2).2.2) else none
theorem becketref01_Reader_Text.calls (g : Nat) (s0_0 : List Int) (s0_1 : Int) (s0_2 : Bool) (r1 : ByteArray) (r2 : Int) (r3 : Bool) (w0 w : World) (hI : IsS79 w0 w g s0_0 s0_1 s0_2) (hB : Below w0.heap.size w0 w) (h : becketref01_Reader_Text.f s0_0 s0_1 s0_2 = some (r1, r2, r3)) :
    Calls Try.prog 43 #[.pointer (some ⟨g, 0, none⟩)] w fun e w' => e = .returned (.string r1) ∧ IsS79 w0 w' g s0_0 r2 r3 ∧ Below w0.heap.size w0 w' ∧ KeepBut w w' g none := by
  unfold becketref01_Reader_Text.f at h
  split at h
  · rename_i hc
    obtain ⟨A, c, hg, hge, hC, hcp⟩ := hI
    obtain ⟨hb, hl, at_, rfl, ha⟩ := Go.Proofs.Ytpbbgbikebcnbaa.MsgL.rdOk_iff hc
    rw [Int.toNat_natCast] at h
    have hc2 := Go.Proofs.Ytpbbgbikebcnbaa.MsgL.rtext_calls w0 w g A c s0_0 at_ s0_2 ⟨hg, hge, hB⟩ hC hcp hb hl ha
    simp only [Option.some.injEq, Prod.mk.injEq] at h
    obtain ⟨rfl, rfl, rfl⟩ := h
    refine hc2.mono ?_
    rintro e w' ⟨rfl, ⟨h1, h2, h3⟩, hk, hbl⟩
    exact ⟨rfl, ⟨A, c, h1, h2, hC, hcp⟩, h3, ⟨hk.1, fun i hi hn _ => hk.2 i hi hn⟩⟩
  · cases h
mutual
def becketref12_get.l0 : Nat → List (S95) → Int → Int → List Int → Int → Bool → Option ((List (S95)) × Int × Bool)
  | 0, _, _, _, _, _, _ => none
  | k + 1, x3, x4, x5, x1000, x1001, x1002 => if x5 < x4 then (becketref12_get.j1 k x3 x4 x5 (!x1002) x1000 x1001 x1002) else (becketref12_get.j1 k x3 x4 x5 false x1000 x1001 x1002)
def becketref12_get.j1 : Nat → List (S95) → Int → Int → Bool → List Int → Int → Bool → Option ((List (S95)) × Int × Bool)
  | 0, _, _, _, _, _, _, _ => none
  | k + 1, x3, x4, x5, x20, x1000, x1001, x1002 => if x20 = true then ((becketref01_Reader_Num.f x1000 x1001 x1002 1000).bind fun bt387 => ((becketref01_Reader_Num.f x1000 bt387.2.1 bt387.2.2 1000).bind fun bt390 => ((becketref01_Reader_Text.f x1000 bt390.2.1 bt390.2.2).bind fun bt393 => ((becketref01_Reader_Num.f x1000 bt393.2.1 bt393.2.2 1000).bind fun bt396 => (becketref12_get.l1 k x3 x4 x5 bt396.1 0 x1000 bt396.2.1 bt396.2.2 bt387.1 bt390.1 bt393.1 ([] : List Int)))))) else (some (x3, x1001, x1002))
def becketref12_get.l1 : Nat → List (S95) → Int → Int → Int → Int → List Int → Int → Bool → Int → Int → ByteArray → List Int → Option ((List (S95)) × Int × Bool)
  | 0, _, _, _, _, _, _, _, _, _, _, _, _ => none
  | k + 1, x3, x4, x5, x7, x8, x1000, x1001, x1002, x387000, x387001, x387002, x387003 => if x8 < x7 then (if x1002 = true then (if x3.length < 2513169434916 then (becketref12_get.l0 k (x3 ++ [(⟨x387000, x387001, x387002, x387003⟩ : S95)]) x4 (wrap64 (x5 + 1)) x1000 x1001 x1002) else (none)) else ((becketref01_Reader_Num.f x1000 x1001 x1002 1000).bind fun bt402 => (if x387003.length < 17592186044416 then (becketref12_get.l1 k x3 x4 x5 x7 (wrap64 (x8 + 1)) x1000 bt402.2.1 bt402.2.2 x387000 x387001 x387002 (x387003 ++ [bt402.1])) else (none)))) else (if x3.length < 2513169434916 then (becketref12_get.l0 k (x3 ++ [(⟨x387000, x387001, x387002, x387003⟩ : S95)]) x4 (wrap64 (x5 + 1)) x1000 x1001 x1002) else (none))
end
def becketref12_get.f (k : Nat) (s0_0 : List Int) (s0_1 : Int) (s0_2 : Bool) : Option ((List (S95)) × Int × Bool) := (becketref01_Reader_Num.f s0_0 s0_1 s0_2 1000).bind fun bt383 => (becketref12_get.l0 k ([] : List (S95)) bt383.1 0 s0_0 bt383.2.1 bt383.2.2)
def becketref12_get.T14 : Bool × List (List Nat × List Nat) := (true, [([], []), ([0], [0]), ([], []), ([2], [2]), ([3], [3]), ([1, 4, 3], [1, 4]), ([0, 1, 2, 3, 4, 5], []), ([6, 5, 5, 0, 1, 2, 3, 4, 5], [5, 6])])
def becketref12_get.B14 : List Nat := [0, 1, 0, 4, 12, 31, 63, 127]
theorem becketref12_get.tab14 : rtab .any (opsOf Try.f44 14) = becketref12_get.T14 := by kernel_rfl
theorem becketref12_get.bits14 : waitsOk becketref12_get.T14.2 becketref12_get.B14 = true := by kernel_rfl
set_option maxHeartbeats 8000000 in
set_option maxRecDepth 100000 in
theorem becketref12_get.calls (k : Nat) (g : Nat) (s0_0 : List Int) (s0_1 : Int) (s0_2 : Bool) (r1 : List (S95)) (r2 : Int) (r3 : Bool) (w0 w : World) (hI : IsS79 w0 w g s0_0 s0_1 s0_2) (hB : Below w0.heap.size w0 w) (h : becketref12_get.f k s0_0 s0_1 s0_2 = some (r1, r2, r3)) :
    Calls Try.prog 44 #[.pointer (some ⟨g, 0, none⟩)] w fun e w' => ∃ v0_ : Value, e = .returned (v0_) ∧ Kd.S k95 95 w' w.heap.size (fun _ => True) v0_ r1 ∧ IsS79 w0 w' g s0_0 r2 r3 ∧ Below w0.heap.size w0 w' ∧ KeepBut w w' g none := by
  have hu95 := Try.underlying95
  have HI0 := Aside0.mk hI
  have HK := Aside0.mk (KeepBut.refl w g none)
  have HL := Aside0.mk hB.size
  clear hI
  have HW0 := Aside0.mk hB.size
  have HB := Aside0.mk hB
  clear hB
  have H : ((becketref01_Reader_Num.f s0_0 s0_1 s0_2 1000).bind fun bt383 => (becketref12_get.l0 k ([] : List (S95)) bt383.1 0 s0_0 bt383.2.1 bt383.2.2)) = some (r1, r2, r3) := h
  clear h
  replace H := Option.bind_eq_some_iff.mp H
  obtain ⟨⟨t383, t384, t385⟩, A20, H⟩ := H
  replace H : (becketref12_get.l0 k ([] : List (S95)) t383 0 s0_0 t384 t385) = some (r1, r2, r3) := H
  have A2 := Aside0.mk A20
  clear A20
  have H' := Aside0.mk H
  clear H
  go_enter Try.func44, Try.ntmps44
  go_wp2_with (first | ((with_reducible refine gate_callee (f := 42) rfl ?_); refine goesL_ (some 10) rfl rfl Try.func42 (by kernel_rfl) rfl #[.pointer (some ⟨g, 0, none⟩), .int .u64 1000] rfl (by (try simp only [List.map_toArray, List.map_cons, List.map_nil]); first | done | rfl | (simp only [List.length_drop, List.length_take]; rfl)) ?_; (with_reducible refine (becketref01_Reader_Num.calls g s0_0 s0_1 s0_2 1000 t383 t384 t385 w0 _ ?side1 ?side2 A2.out).mono ?_); (case side1 => repeat (first | (with_reducible first | exact HI0.out | apply IsS79.alloc | apply IsS79.drewN | apply IsS79.drew | apply IsS79.set_1 | apply IsS79.set_2) | exact HI0.out)); (case side2 => repeat (first | (with_reducible first | exact HB.out | apply below_alloc | apply pw_below_drewN | apply below_drew1 | refine below_set ?_ (IsS79.ge HI0.out)) | exact HB.out)); rintro e w3 ⟨rfl, hi, hb, hk⟩; refine ⟨_, rfl, ?_⟩; have n0_ := Aside0.mk (KeepBut.trans (by repeat (first | (with_reducible first | exact HK.out | apply KeepBut.set_ | apply keep_drewN | apply keep_drew | apply keep_alloc) | exact HK.out)) hk (.inl rfl)); have n1_ := Aside0.mk (hb); have n2_ := Aside0.mk (hi); clear HK; clear HB; clear HI0; have HK := n0_; have HB := n1_; have HI0 := n2_; clear n0_ n1_ n2_; (try clear hb); (try clear hb2); (try clear hk); (try clear hi)))
  go_loopg [3, 5] k (fun kq v3 v5 w' => ∃ (x3_1 : List (S95)) (x5_1 : Int) (x1001_1 : Int) (x1002_1 : Bool), v5 = .int .i64 x5_1 ∧ Aside0 (becketref12_get.l0 kq x3_1 t383 x5_1 s0_0 x1001_1 x1002_1 = some (r1, r2, r3)) ∧ Aside0 (kq ≤ k) ∧ Aside0 (Kd.S k95 95 w' w.heap.size (fun _ => True) v3 x3_1) ∧ Aside0 (IsS79 w0 w' g s0_0 x1001_1 x1002_1) ∧ Aside0 (KeepBut w w' g none) ∧ Aside0 (Below w0.heap.size w0 w'))
  case atStart => exact ⟨(([] : List (S95))), (0), (t384), (t385), (by first | rfl | (simp; done) | (simp [*]; done)), H', ⟨Nat.le_refl _⟩, ⟨by first | exact Kd.S_nil _ _ _ _ _ | exact Kd.N_nil _ _ _ _ _ | exact Kd.V_nil _ _ _ _ _ | exact Kd.Q_nil _ _ _ _ _ | exact Kd.R_nil _ _ _ _ _⟩, ⟨by repeat (first | (with_reducible first | exact HI0.out | apply IsS79.alloc | apply IsS79.drewN | apply IsS79.drew | apply IsS79.set_1 | apply IsS79.set_2) | exact HI0.out)⟩, ⟨by repeat (first | (with_reducible first | exact HK.out | apply KeepBut.set_ | apply keep_drewN | apply keep_drew | apply keep_alloc) | exact HK.out)⟩, ⟨by repeat (first | (with_reducible first | exact HB.out | apply below_alloc | apply pw_below_drewN | apply below_drew1 | refine below_set ?_ (IsS79.ge HI0.out)) | exact HB.out)⟩⟩
  case round =>
    clear H'
    try clear p2
    obtain ⟨x3_1, x5_1, x1001_1, x1002_1, rfl, HA, HK1, HO_3, HI0, HK, HB⟩ := hrel
    cases gk with
    | zero => exact absurd HA.out (by simp [becketref12_get.l0])
    | succ k1 =>
      have H := HA.out
      clear HA
      simp only [becketref12_get.l0] at H
      have HC4 := Aside0.mk H
      clear H
      go_upto_region 4 with (fail)
      go_cut [20] (fun v20 wc => ∃ (kq : Nat) (x20_3 : Bool), v20 = .bool x20_3 ∧ Aside0 (becketref12_get.j1 kq x3_1 t383 x5_1 x20_3 s0_0 x1001_1 x1002_1 = some (r1, r2, r3)) ∧ Aside0 (kq ≤ k1) ∧ Aside0 (Kd.S k95 95 wc w.heap.size (fun _ => True) u3 x3_1) ∧ Aside0 (IsS79 w0 wc g s0_0 x1001_1 x1002_1) ∧ Aside0 (KeepBut w wc g none) ∧ Aside0 (Below w0.heap.size w0 wc))
      case first =>
        have H := HC4.out
        clear HC4
        by_cases c5 : x5_1 < t383
        · rw [if_pos c5] at H
          have c5b0 : decide (x5_1 < t383) = true := decide_eq_true c5
          clear c5
          (first | rw [c5b0] | (simp only [i64_w, i32_w]; rw [c5b0]) | skip)
          have H' := Aside0.mk H
          clear H
          obtain ⟨ASz6_0, cSz6_0, HGz6, hgz6, HSz6_0⟩ := HI0.out
          have hcz6_0 := cellS79_0 HGz6
          have hcz6_1 := cellS79_1 HGz6
          have hcz6_2 := cellS79_2 HGz6
          have hfz6_1 := blk_frozen HGz6 1
          have hfz6_2 := blk_frozen HGz6 2
          clear HGz6 hgz6
          go_wp2
          go_meet
          case rel => exact ⟨_, (!x1002_1), (by first | rfl | (simp; done) | (simp [*]; done)), H', ⟨by have := HK1.out; first | omega | exact Nat.le_refl _⟩, ⟨by (with_reducible repeat (first | apply Kd.S_alloc | apply Kd.S_drewN | apply Kd.S_drew)); exact HO_3.out⟩, ⟨by repeat (first | (with_reducible first | exact HI0.out | apply IsS79.alloc | apply IsS79.drewN | apply IsS79.drew | apply IsS79.set_1 | apply IsS79.set_2) | exact HI0.out)⟩, ⟨by repeat (first | (with_reducible first | exact HK.out | apply KeepBut.set_ | apply keep_drewN | apply keep_drew | apply keep_alloc) | exact HK.out)⟩, ⟨by repeat (first | (with_reducible first | exact HB.out | apply below_alloc | apply pw_below_drewN | apply below_drew1 | refine below_set ?_ (IsS79.ge HI0.out)) | exact HB.out)⟩⟩
        · rw [if_neg c5] at H
          have c5b0 : decide (x5_1 < t383) = false := decide_eq_false c5
          clear c5
          (first | rw [c5b0] | (simp only [i64_w, i32_w]; rw [c5b0]) | skip)
          have H' := Aside0.mk H
          clear H
          go_wp2
          go_meet
          case rel => exact ⟨_, (false), (by first | rfl | (simp; done) | (simp [*]; done)), H', ⟨by have := HK1.out; first | omega | exact Nat.le_refl _⟩, ⟨by (with_reducible repeat (first | apply Kd.S_alloc | apply Kd.S_drewN | apply Kd.S_drew)); exact HO_3.out⟩, ⟨by repeat (first | (with_reducible first | exact HI0.out | apply IsS79.alloc | apply IsS79.drewN | apply IsS79.drew | apply IsS79.set_1 | apply IsS79.set_2) | exact HI0.out)⟩, ⟨by repeat (first | (with_reducible first | exact HK.out | apply KeepBut.set_ | apply keep_drewN | apply keep_drew | apply keep_alloc) | exact HK.out)⟩, ⟨by repeat (first | (with_reducible first | exact HB.out | apply below_alloc | apply pw_below_drewN | apply below_drew1 | refine below_set ?_ (IsS79.ge HI0.out)) | exact HB.out)⟩⟩
      case rest =>
        clear HC4
        try clear p2
        try clear c4
        try clear c5
        try clear c5b0
        try clear hcz6_0
        try clear hcz6_1
        try clear hcz6_2
        try clear hfz6_1
        try clear hfz6_2
        try clear p2
        obtain ⟨kq, x20_3, rfl, HA, HJ3, HO_3, HI0, HK, HB⟩ := hcut
        cases kq with
        | zero => exact absurd HA.out (by simp [becketref12_get.j1])
        | succ kj3 =>
          have H := HA.out
          clear HA
          simp only [becketref12_get.j1] at H
          by_cases c7 : x20_3 = true
          · subst c7
            have H1 : ((becketref01_Reader_Num.f s0_0 x1001_1 x1002_1 1000).bind fun bt387 => ((becketref01_Reader_Num.f s0_0 bt387.2.1 bt387.2.2 1000).bind fun bt390 => ((becketref01_Reader_Text.f s0_0 bt390.2.1 bt390.2.2).bind fun bt393 => ((becketref01_Reader_Num.f s0_0 bt393.2.1 bt393.2.2 1000).bind fun bt396 => (becketref12_get.l1 kj3 x3_1 t383 x5_1 bt396.1 0 s0_0 bt396.2.1 bt396.2.2 bt387.1 bt390.1 bt393.1 ([] : List Int)))))) = some (r1, r2, r3) := by first | (rw [if_pos rfl] at H; with_reducible exact H) | exact (if_pos rfl).symm.trans H | (simp only [if_true, eq_self_iff_true] at H ⊢; exact H)
            clear H
            have H := H1
            clear H1
            replace H := Option.bind_eq_some_iff.mp H
            obtain ⟨⟨t387, t388, t389⟩, A80, H⟩ := H
            replace H : ((becketref01_Reader_Num.f s0_0 t388 t389 1000).bind fun bt390 => ((becketref01_Reader_Text.f s0_0 bt390.2.1 bt390.2.2).bind fun bt393 => ((becketref01_Reader_Num.f s0_0 bt393.2.1 bt393.2.2 1000).bind fun bt396 => (becketref12_get.l1 kj3 x3_1 t383 x5_1 bt396.1 0 s0_0 bt396.2.1 bt396.2.2 t387 bt390.1 bt393.1 ([] : List Int))))) = some (r1, r2, r3) := H
            have A8 := Aside0.mk A80
            clear A80
            replace H := Option.bind_eq_some_iff.mp H
            obtain ⟨⟨t390, t391, t392⟩, A90, H⟩ := H
            replace H : ((becketref01_Reader_Text.f s0_0 t391 t392).bind fun bt393 => ((becketref01_Reader_Num.f s0_0 bt393.2.1 bt393.2.2 1000).bind fun bt396 => (becketref12_get.l1 kj3 x3_1 t383 x5_1 bt396.1 0 s0_0 bt396.2.1 bt396.2.2 t387 t390 bt393.1 ([] : List Int)))) = some (r1, r2, r3) := H
            have A9 := Aside0.mk A90
            clear A90
            replace H := Option.bind_eq_some_iff.mp H
            obtain ⟨⟨t393, t394, t395⟩, A100, H⟩ := H
            replace H : ((becketref01_Reader_Num.f s0_0 t394 t395 1000).bind fun bt396 => (becketref12_get.l1 kj3 x3_1 t383 x5_1 bt396.1 0 s0_0 bt396.2.1 bt396.2.2 t387 t390 t393 ([] : List Int))) = some (r1, r2, r3) := H
            have A10 := Aside0.mk A100
            clear A100
            replace H := Option.bind_eq_some_iff.mp H
            obtain ⟨⟨t396, t397, t398⟩, A110, H⟩ := H
            replace H : (becketref12_get.l1 kj3 x3_1 t383 x5_1 t396 0 s0_0 t397 t398 t387 t390 t393 ([] : List Int)) = some (r1, r2, r3) := H
            have A11 := Aside0.mk A110
            clear A110
            have H' := Aside0.mk H
            clear H
            go_wp2_with (first | ((with_reducible refine gate_dst (N := 6) rfl ?_); refine box_event ?hg (N := 6) ?hd (cs := #[.int .i64 0, .int .i64 0, .string (⟨#[]⟩ : ByteArray), .slice none 0 0]) (t := 95) ?hr ?_; (case hd => rfl); (case hg => rfl); (case hr => first | (go_simp; done) | (go_simp; rfl)); intro gb386 hg w12 hbox hb; have n0_ := Aside0.mk (Kd.S_below (Kd.S_elderB (by (with_reducible repeat (first | apply Kd.S_alloc | apply Kd.S_drewN | apply Kd.S_drew)); exact HO_3.out) gb386 (Nat.le_of_eq hg.symm)) hb); have n1_ := Aside0.mk (IsS79.below (by repeat (first | (with_reducible first | exact HI0.out | apply IsS79.alloc | apply IsS79.drewN | apply IsS79.drew | apply IsS79.set_1 | apply IsS79.set_2) | exact HI0.out)) hb); have n2_ := Aside0.mk (KeepBut.trans (by repeat (first | (with_reducible first | exact HK.out | apply KeepBut.set_ | apply keep_drewN | apply keep_drew | apply keep_alloc) | exact HK.out)) (KeepBut.of_below hb g none) (.inl rfl)); have n3_ := Aside0.mk (below_step (by repeat (first | (with_reducible first | exact HB.out | apply below_alloc | apply pw_below_drewN | apply below_drew1 | refine below_set ?_ (IsS79.ge HI0.out)) | exact HB.out)) hb); have n4_ := Aside0.mk (hbox); have n5_ := Aside0.mk ((by rw [hg]; exact (keep_size (w := w) (g := g) (row := none) (by repeat (first | (with_reducible first | exact HK.out | apply KeepBut.set_ | apply keep_drewN | apply keep_drew | apply keep_alloc) | exact HK.out))) : w.heap.size ≤ gb386)); have n6_ := Aside0.mk ((Nat.le_trans HW0.out (by rw [hg]; exact (keep_size (w := w) (g := g) (row := none) (by repeat (first | (with_reducible first | exact HK.out | apply KeepBut.set_ | apply keep_drewN | apply keep_drew | apply keep_alloc) | exact HK.out))) : w.heap.size ≤ gb386) : w0.heap.size ≤ gb386)); have n7_ := Aside0.mk ((by rw [hg]; exact Nat.ne_of_lt (IsS79.lt (show IsS79 w0 _ g s0_0 x1001_1 x1002_1 from by repeat (first | (with_reducible first | exact HI0.out | apply IsS79.alloc | apply IsS79.drewN | apply IsS79.drew | apply IsS79.set_1 | apply IsS79.set_2) | exact HI0.out))) : g ≠ gb386)); have n8_ := Aside0.mk ((by rw [hg]; exact Nat.ne_of_gt (IsS79.lt (show IsS79 w0 _ g s0_0 x1001_1 x1002_1 from by repeat (first | (with_reducible first | exact HI0.out | apply IsS79.alloc | apply IsS79.drewN | apply IsS79.drew | apply IsS79.set_1 | apply IsS79.set_2) | exact HI0.out))) : gb386 ≠ g)); clear HO_3; clear HI0; clear HK; clear HB; have HO_3 := n0_; have HI0 := n1_; have HK := n2_; have HB := n3_; have BK386 := n4_; have GW386 := n5_; have GE386 := n6_; have NB0_386 := n7_; have NB386_0 := n8_; clear n0_ n1_ n2_ n3_ n4_ n5_ n6_ n7_ n8_; clear hb hbox hg) | ((with_reducible refine gate_callee (f := 42) rfl ?_); refine goesL_ (some 24) rfl rfl Try.func42 (by kernel_rfl) rfl #[.pointer (some ⟨g, 0, none⟩), .int .u64 1000] rfl (by (try simp only [List.map_toArray, List.map_cons, List.map_nil]); first | done | rfl | (simp only [List.length_drop, List.length_take]; rfl)) ?_; (with_reducible refine (becketref01_Reader_Num.calls g s0_0 x1001_1 x1002_1 1000 t387 t388 t389 w0 _ ?side1 ?side2 A8.out).mono ?_); (case side1 => repeat (first | (with_reducible first | exact HI0.out | apply IsS79.alloc | apply IsS79.drewN | apply IsS79.drew | apply IsS79.set_1 | apply IsS79.set_2 | refine IsS79.far ?_ NB0_386.out _) | exact HI0.out)); (case side2 => repeat (first | (with_reducible first | exact HB.out | apply below_alloc | apply pw_below_drewN | apply below_drew1 | refine below_set ?_ (IsS79.ge HI0.out) | refine below_set ?_ GE386.out) | exact HB.out)); rintro e w13 ⟨rfl, hi, hb, hk⟩; refine ⟨_, rfl, ?_⟩; have n0_ := Aside0.mk (Kd.S_mono (Kd.S_keep (IsS79.apartS (show IsS79 w0 _ g s0_0 x1001_1 x1002_1 from by repeat (first | (with_reducible first | exact HI0.out | apply IsS79.alloc | apply IsS79.drewN | apply IsS79.drew | apply IsS79.set_1 | apply IsS79.set_2 | refine IsS79.far ?_ NB0_386.out _) | exact HI0.out)) (by (with_reducible repeat (first | apply Kd.S_alloc | apply Kd.S_drewN | apply Kd.S_drew)); exact HO_3.out) (by decide)) hk (fun _ h => h.2)) (fun _ h => h.1)); have n1_ := Aside0.mk (KeepBut.blk hk (g' := gb386) (o := .cells #[.int .i64 0, .int .i64 0, .string (⟨#[]⟩ : ByteArray), .slice none 0 0] 95 (0, 0)) (by (with_reducible repeat (first | refine blk_drewN ?_ _ | refine blk_drew ?_ | refine blk_alloc ?_ _)); exact BK386.out) NB386_0.out (by simp)); have n2_ := Aside0.mk (KeepBut.trans (by repeat (first | (with_reducible first | exact HK.out | apply KeepBut.set_ | apply keep_drewN | apply keep_drew | apply keep_alloc | refine keep_far ?_ GW386.out _) | exact HK.out)) hk (.inl rfl)); have n3_ := Aside0.mk (hb); have n4_ := Aside0.mk (hi); clear HO_3; clear BK386; clear HK; clear HB; clear HI0; have HO_3 := n0_; have BK386 := n1_; have HK := n2_; have HB := n3_; have HI0 := n4_; clear n0_ n1_ n2_ n3_ n4_; (try clear hb); (try clear hb2); (try clear hk); (try clear hi); have hnb14 := NB386_0.out; have hnc14 := NB0_386.out; have hcz15_0 : w13.cell? ⟨gb386, 0, none⟩ = some (.int .i64 0) := (blk_cell BK386.out 0).trans rfl; have hcz15_1 : w13.cell? ⟨gb386, 1, none⟩ = some (.int .i64 0) := (blk_cell BK386.out 1).trans rfl; have hcz15_2 : w13.cell? ⟨gb386, 2, none⟩ = some (.string (⟨#[]⟩ : ByteArray)) := (blk_cell BK386.out 2).trans rfl; have hcz15_3 : w13.cell? ⟨gb386, 3, none⟩ = some (.slice none 0 0) := (blk_cell BK386.out 3).trans rfl; have hfz15_0 := blk_frozen BK386.out 0; have hfz15_1 := blk_frozen BK386.out 1; have hfz15_2 := blk_frozen BK386.out 2; have hfz15_3 := blk_frozen BK386.out 3) | ((with_reducible refine gate_callee (f := 42) rfl ?_); refine goesL_ (some 27) rfl rfl Try.func42 (by kernel_rfl) rfl #[.pointer (some ⟨g, 0, none⟩), .int .u64 1000] rfl (by (try simp only [List.map_toArray, List.map_cons, List.map_nil]); first | done | rfl | (simp only [List.length_drop, List.length_take]; rfl)) ?_; (with_reducible refine (becketref01_Reader_Num.calls g s0_0 t388 t389 1000 t390 t391 t392 w0 _ ?side1 ?side2 A9.out).mono ?_); (case side1 => repeat (first | (with_reducible first | exact HI0.out | apply IsS79.alloc | apply IsS79.drewN | apply IsS79.drew | apply IsS79.set_1 | apply IsS79.set_2 | refine IsS79.far ?_ NB0_386.out _) | exact HI0.out)); (case side2 => repeat (first | (with_reducible first | exact HB.out | apply below_alloc | apply pw_below_drewN | apply below_drew1 | refine below_set ?_ (IsS79.ge HI0.out) | refine below_set ?_ GE386.out) | exact HB.out)); rintro e w16 ⟨rfl, hi, hb, hk⟩; refine ⟨_, rfl, ?_⟩; have n0_ := Aside0.mk (Kd.S_mono (Kd.S_keep (IsS79.apartS (show IsS79 w0 _ g s0_0 t388 t389 from by repeat (first | (with_reducible first | exact HI0.out | apply IsS79.alloc | apply IsS79.drewN | apply IsS79.drew | apply IsS79.set_1 | apply IsS79.set_2 | refine IsS79.far ?_ NB0_386.out _) | exact HI0.out)) (by (with_reducible repeat (first | apply Kd.S_alloc | apply Kd.S_drewN | apply Kd.S_drew)); exact (Kd.S_mono (Kd.S_far (p := ⟨gb386, 0, none⟩) (Kd.S_mono HO_3.out (fun k_ hk => (⟨hk, hk.2⟩ : _ ∧ k_ ≠ gb386))) (fun _ hk => hk.2) (.int .i64 t387)) (fun _ h_ => h_.1))) (by decide)) hk (fun _ h => h.2)) (fun _ h => h.1)); have n1_ := Aside0.mk (KeepBut.blk hk (g' := gb386) (o := .cells #[.int .i64 t387, .int .i64 0, .string (⟨#[]⟩ : ByteArray), .slice none 0 0] 95 (0, 0)) (by (with_reducible repeat (first | refine blk_drewN ?_ _ | refine blk_drew ?_ | refine blk_alloc ?_ _)); refine blk_put (cs := #[.int .i64 0, .int .i64 0, .string (⟨#[]⟩ : ByteArray), .slice none 0 0]) ?_ 0 _ rfl; (with_reducible repeat (first | refine blk_drewN ?_ _ | refine blk_drew ?_ | refine blk_alloc ?_ _)); exact BK386.out) NB386_0.out (by simp)); have n2_ := Aside0.mk (KeepBut.trans (by repeat (first | (with_reducible first | exact HK.out | apply KeepBut.set_ | apply keep_drewN | apply keep_drew | apply keep_alloc | refine keep_far ?_ GW386.out _) | exact HK.out)) hk (.inl rfl)); have n3_ := Aside0.mk (hb); have n4_ := Aside0.mk (hi); clear HO_3; clear BK386; clear HK; clear HB; clear HI0; have HO_3 := n0_; have BK386 := n1_; have HK := n2_; have HB := n3_; have HI0 := n4_; clear n0_ n1_ n2_ n3_ n4_; (try clear hb); (try clear hb2); (try clear hk); (try clear hi); have hcz17_0 : w16.cell? ⟨gb386, 0, none⟩ = some (.int .i64 t387) := (blk_cell BK386.out 0).trans rfl; have hcz17_1 : w16.cell? ⟨gb386, 1, none⟩ = some (.int .i64 0) := (blk_cell BK386.out 1).trans rfl; have hcz17_2 : w16.cell? ⟨gb386, 2, none⟩ = some (.string (⟨#[]⟩ : ByteArray)) := (blk_cell BK386.out 2).trans rfl; have hcz17_3 : w16.cell? ⟨gb386, 3, none⟩ = some (.slice none 0 0) := (blk_cell BK386.out 3).trans rfl; have hfz17_0 := blk_frozen BK386.out 0; have hfz17_1 := blk_frozen BK386.out 1; have hfz17_2 := blk_frozen BK386.out 2; have hfz17_3 := blk_frozen BK386.out 3) | ((with_reducible refine gate_callee (f := 43) rfl ?_); refine goesL_ (some 30) rfl rfl Try.func43 (by kernel_rfl) rfl #[.pointer (some ⟨g, 0, none⟩)] rfl (by (try simp only [List.map_toArray, List.map_cons, List.map_nil]); first | done | rfl | (simp only [List.length_drop, List.length_take]; rfl)) ?_; (with_reducible refine (becketref01_Reader_Text.calls g s0_0 t391 t392 t393 t394 t395 w0 _ ?side1 ?side2 A10.out).mono ?_); (case side1 => repeat (first | (with_reducible first | exact HI0.out | apply IsS79.alloc | apply IsS79.drewN | apply IsS79.drew | apply IsS79.set_1 | apply IsS79.set_2 | refine IsS79.far ?_ NB0_386.out _) | exact HI0.out)); (case side2 => repeat (first | (with_reducible first | exact HB.out | apply below_alloc | apply pw_below_drewN | apply below_drew1 | refine below_set ?_ (IsS79.ge HI0.out) | refine below_set ?_ GE386.out) | exact HB.out)); rintro e w18 ⟨rfl, hi, hb, hk⟩; refine ⟨_, rfl, ?_⟩; have n0_ := Aside0.mk (Kd.S_mono (Kd.S_keep (IsS79.apartS (show IsS79 w0 _ g s0_0 t391 t392 from by repeat (first | (with_reducible first | exact HI0.out | apply IsS79.alloc | apply IsS79.drewN | apply IsS79.drew | apply IsS79.set_1 | apply IsS79.set_2 | refine IsS79.far ?_ NB0_386.out _) | exact HI0.out)) (by (with_reducible repeat (first | apply Kd.S_alloc | apply Kd.S_drewN | apply Kd.S_drew)); exact (Kd.S_mono (Kd.S_far (p := ⟨gb386, 1, none⟩) (Kd.S_mono HO_3.out (fun k_ hk => (⟨hk, hk.2⟩ : _ ∧ k_ ≠ gb386))) (fun _ hk => hk.2) (.int .i64 t390)) (fun _ h_ => h_.1))) (by decide)) hk (fun _ h => h.2)) (fun _ h => h.1)); have n1_ := Aside0.mk (KeepBut.blk hk (g' := gb386) (o := .cells #[.int .i64 t387, .int .i64 t390, .string (⟨#[]⟩ : ByteArray), .slice none 0 0] 95 (0, 0)) (by (with_reducible repeat (first | refine blk_drewN ?_ _ | refine blk_drew ?_ | refine blk_alloc ?_ _)); refine blk_put (cs := #[.int .i64 t387, .int .i64 0, .string (⟨#[]⟩ : ByteArray), .slice none 0 0]) ?_ 1 _ rfl; (with_reducible repeat (first | refine blk_drewN ?_ _ | refine blk_drew ?_ | refine blk_alloc ?_ _)); exact BK386.out) NB386_0.out (by simp)); have n2_ := Aside0.mk (KeepBut.trans (by repeat (first | (with_reducible first | exact HK.out | apply KeepBut.set_ | apply keep_drewN | apply keep_drew | apply keep_alloc | refine keep_far ?_ GW386.out _) | exact HK.out)) hk (.inl rfl)); have n3_ := Aside0.mk (hb); have n4_ := Aside0.mk (hi); clear HO_3; clear BK386; clear HK; clear HB; clear HI0; have HO_3 := n0_; have BK386 := n1_; have HK := n2_; have HB := n3_; have HI0 := n4_; clear n0_ n1_ n2_ n3_ n4_; (try clear hb); (try clear hb2); (try clear hk); (try clear hi); have hcz19_0 : w18.cell? ⟨gb386, 0, none⟩ = some (.int .i64 t387) := (blk_cell BK386.out 0).trans rfl; have hcz19_1 : w18.cell? ⟨gb386, 1, none⟩ = some (.int .i64 t390) := (blk_cell BK386.out 1).trans rfl; have hcz19_2 : w18.cell? ⟨gb386, 2, none⟩ = some (.string (⟨#[]⟩ : ByteArray)) := (blk_cell BK386.out 2).trans rfl; have hcz19_3 : w18.cell? ⟨gb386, 3, none⟩ = some (.slice none 0 0) := (blk_cell BK386.out 3).trans rfl; have hfz19_0 := blk_frozen BK386.out 0; have hfz19_1 := blk_frozen BK386.out 1; have hfz19_2 := blk_frozen BK386.out 2; have hfz19_3 := blk_frozen BK386.out 3) | ((with_reducible refine gate_callee (f := 42) rfl ?_); refine goesL_ (some 33) rfl rfl Try.func42 (by kernel_rfl) rfl #[.pointer (some ⟨g, 0, none⟩), .int .u64 1000] rfl (by (try simp only [List.map_toArray, List.map_cons, List.map_nil]); first | done | rfl | (simp only [List.length_drop, List.length_take]; rfl)) ?_; (with_reducible refine (becketref01_Reader_Num.calls g s0_0 t394 t395 1000 t396 t397 t398 w0 _ ?side1 ?side2 A11.out).mono ?_); (case side1 => repeat (first | (with_reducible first | exact HI0.out | apply IsS79.alloc | apply IsS79.drewN | apply IsS79.drew | apply IsS79.set_1 | apply IsS79.set_2 | refine IsS79.far ?_ NB0_386.out _) | exact HI0.out)); (case side2 => repeat (first | (with_reducible first | exact HB.out | apply below_alloc | apply pw_below_drewN | apply below_drew1 | refine below_set ?_ (IsS79.ge HI0.out) | refine below_set ?_ GE386.out) | exact HB.out)); rintro e w20 ⟨rfl, hi, hb, hk⟩; refine ⟨_, rfl, ?_⟩; have n0_ := Aside0.mk (Kd.S_mono (Kd.S_keep (IsS79.apartS (show IsS79 w0 _ g s0_0 t394 t395 from by repeat (first | (with_reducible first | exact HI0.out | apply IsS79.alloc | apply IsS79.drewN | apply IsS79.drew | apply IsS79.set_1 | apply IsS79.set_2 | refine IsS79.far ?_ NB0_386.out _) | exact HI0.out)) (by (with_reducible repeat (first | apply Kd.S_alloc | apply Kd.S_drewN | apply Kd.S_drew)); exact (Kd.S_mono (Kd.S_far (p := ⟨gb386, 2, none⟩) (Kd.S_mono HO_3.out (fun k_ hk => (⟨hk, hk.2⟩ : _ ∧ k_ ≠ gb386))) (fun _ hk => hk.2) (.string t393)) (fun _ h_ => h_.1))) (by decide)) hk (fun _ h => h.2)) (fun _ h => h.1)); have n1_ := Aside0.mk (KeepBut.blk hk (g' := gb386) (o := .cells #[.int .i64 t387, .int .i64 t390, .string t393, .slice none 0 0] 95 (0, 0)) (by (with_reducible repeat (first | refine blk_drewN ?_ _ | refine blk_drew ?_ | refine blk_alloc ?_ _)); refine blk_put (cs := #[.int .i64 t387, .int .i64 t390, .string (⟨#[]⟩ : ByteArray), .slice none 0 0]) ?_ 2 _ rfl; (with_reducible repeat (first | refine blk_drewN ?_ _ | refine blk_drew ?_ | refine blk_alloc ?_ _)); exact BK386.out) NB386_0.out (by simp)); have n2_ := Aside0.mk (KeepBut.trans (by repeat (first | (with_reducible first | exact HK.out | apply KeepBut.set_ | apply keep_drewN | apply keep_drew | apply keep_alloc | refine keep_far ?_ GW386.out _) | exact HK.out)) hk (.inl rfl)); have n3_ := Aside0.mk (hb); have n4_ := Aside0.mk (hi); clear HO_3; clear BK386; clear HK; clear HB; clear HI0; have HO_3 := n0_; have BK386 := n1_; have HK := n2_; have HB := n3_; have HI0 := n4_; clear n0_ n1_ n2_ n3_ n4_; (try clear hb); (try clear hb2); (try clear hk); (try clear hi)))
            go_loopg [8] kj3 (fun kq v8 w' => ∃ (x8_3 : Int) (x1001_3 : Int) (x1002_3 : Bool) (x387003_3 : List Int) (u387003 : Value), v8 = .int .i64 x8_3 ∧ Aside0 (becketref12_get.l1 kq x3_1 t383 x5_1 t396 x8_3 s0_0 x1001_3 x1002_3 t387 t390 t393 x387003_3 = some (r1, r2, r3)) ∧ Aside0 (kq ≤ kj3) ∧ Aside0 (Kd.S k95 95 w' w.heap.size (fun k_ => some k_ ≠ (u387003 : Value).ownBlock ∧ k_ ≠ gb386) u3 x3_1) ∧ Aside0 (Kd.R (Kd.int .i64) 3 w' w.heap.size (fun _ => True) u387003 x387003_3) ∧ Aside0 (w'.heap[gb386]? = some (.cells #[.int .i64 t387, .int .i64 t390, .string t393, u387003] 95 (0, 0))) ∧ Aside0 (IsS79 w0 w' g s0_0 x1001_3 x1002_3) ∧ Aside0 (KeepBut w w' g none) ∧ Aside0 (Below w0.heap.size w0 w'))
            case atStart => exact ⟨(0), (t397), (t398), (([] : List Int)), (.slice none 0 0), (by first | rfl | (simp; done) | (simp [*]; done)), H', ⟨Nat.le_refl _⟩, ⟨by (with_reducible repeat (first | apply Kd.S_alloc | apply Kd.S_drewN | apply Kd.S_drew)); exact Kd.S_mono HO_3.out (fun _ hk => ⟨(by simp [Value.ownBlock]), hk.2⟩)⟩, ⟨by first | exact Kd.R_nil _ _ _ _ _ | exact Kd.N_nil _ _ _ _ _ | exact Kd.V_nil _ _ _ _ _ | exact Kd.Q_nil _ _ _ _ _ | exact Kd.S_nil _ _ _ _ _⟩, ⟨by (with_reducible repeat (first | refine blk_drewN ?_ _ | refine blk_drew ?_ | refine blk_alloc ?_ _)); exact BK386.out⟩, ⟨by repeat (first | (with_reducible first | exact HI0.out | apply IsS79.alloc | apply IsS79.drewN | apply IsS79.drew | apply IsS79.set_1 | apply IsS79.set_2 | refine IsS79.far ?_ NB0_386.out _) | exact HI0.out)⟩, ⟨by repeat (first | (with_reducible first | exact HK.out | apply KeepBut.set_ | apply keep_drewN | apply keep_drew | apply keep_alloc | refine keep_far ?_ GW386.out _) | exact HK.out)⟩, ⟨by repeat (first | (with_reducible first | exact HB.out | apply below_alloc | apply pw_below_drewN | apply below_drew1 | refine below_set ?_ (IsS79.ge HI0.out) | refine below_set ?_ GE386.out) | exact HB.out)⟩⟩
            case round =>
              clear H'
              try clear c1
              try clear p2
              try clear c4
              try clear c5
              try clear c5b0
              try clear c7
              try clear c14
              try clear hcz15_0
              try clear hcz15_1
              try clear hcz15_2
              try clear hcz15_3
              try clear hcz17_0
              try clear hcz17_1
              try clear hcz17_2
              try clear hcz17_3
              try clear hcz19_0
              try clear hcz19_1
              try clear hcz19_2
              try clear hcz19_3
              try clear hcz6_0
              try clear hcz6_1
              try clear hcz6_2
              try clear hfz15_0
              try clear hfz15_1
              try clear hfz15_2
              try clear hfz15_3
              try clear hfz17_0
              try clear hfz17_1
              try clear hfz17_2
              try clear hfz17_3
              try clear hfz19_0
              try clear hfz19_1
              try clear hfz19_2
              try clear hfz19_3
              try clear hfz6_1
              try clear hfz6_2
              try clear p2
              obtain ⟨x8_3, x1001_3, x1002_3, x387003_3, u387003, rfl, HA, HK3, HO_3, HO_387003, BK386, HI0, HK, HB⟩ := hrel
              cases gk with
              | zero => exact absurd HA.out (by simp [becketref12_get.l1])
              | succ k3 =>
                have H := HA.out
                clear HA
                simp only [becketref12_get.l1] at H
                by_cases c21 : x8_3 < t396
                · rw [if_pos c21] at H
                  have c21b0 : decide (x8_3 < t396) = true := decide_eq_true c21
                  clear c21
                  by_cases c22 : x1002_3 = true
                  · subst c22
                    have H1 : (if x3_1.length < 2513169434916 then (becketref12_get.l0 k3 (x3_1 ++ [(⟨t387, t390, t393, x387003_3⟩ : S95)]) t383 (wrap64 (x5_1 + 1)) s0_0 x1001_3 true) else (none)) = some (r1, r2, r3) := by first | (rw [if_pos rfl] at H; with_reducible exact H) | exact (if_pos rfl).symm.trans H | (simp only [if_true, eq_self_iff_true] at H ⊢; exact H)
                    clear H
                    have H := H1
                    clear H1
                    by_cases c23 : x3_1.length < 2513169434916
                    · rw [if_pos c23] at H
                      have LMc23 := Aside0.mk c23
                      clear c23
                      obtain ⟨y399, hy399⟩ : ∃ y_ : List (S95), y_ = (x3_1 ++ [(⟨t387, t390, t393, x387003_3⟩ : S95)]) := ⟨_, rfl⟩
                      replace H : (becketref12_get.l0 k3 y399 t383 (wrap64 (x5_1 + 1)) s0_0 x1001_3 true) = some (r1, r2, r3) := by first | (rw [hy399]; with_reducible exact H) | (have H2_ := (Option.bind_some _ _).symm.trans H; rw [hy399]; with_reducible exact H2_) | (have H2_ := (Option.bind_some _ _).symm.trans H; with_reducible exact H2_) | with_reducible exact H | (rw [hy399]; exact H) | exact H
                      have Ny399 := Aside0.mk hy399
                      clear hy399
                      have H' := Aside0.mk H
                      clear H
                      obtain ⟨ASz24_0, cSz24_0, HGz24, hgz24, HSz24_0⟩ := HI0.out
                      have hcz24_0 := cellS79_0 HGz24
                      have hcz24_1 := cellS79_1 HGz24
                      have hcz24_2 := cellS79_2 HGz24
                      have hfz24_1 := blk_frozen HGz24 1
                      have hfz24_2 := blk_frozen HGz24 2
                      clear HGz24 hgz24
                      have hnb25 := NB386_0.out
                      have hnc25 := NB0_386.out
                      have hcz26_0 : wr.cell? ⟨gb386, 0, none⟩ = some (.int .i64 t387) := (blk_cell BK386.out 0).trans rfl
                      have hcz26_1 : wr.cell? ⟨gb386, 1, none⟩ = some (.int .i64 t390) := (blk_cell BK386.out 1).trans rfl
                      have hcz26_2 : wr.cell? ⟨gb386, 2, none⟩ = some (.string t393) := (blk_cell BK386.out 2).trans rfl
                      have hcz26_3 : wr.cell? ⟨gb386, 3, none⟩ = some (u387003) := (blk_cell BK386.out 3).trans rfl
                      have hfz26_0 := blk_frozen BK386.out 0
                      have hfz26_1 := blk_frozen BK386.out 1
                      have hfz26_2 := blk_frozen BK386.out 2
                      have hfz26_3 := blk_frozen BK386.out 3
                      obtain ⟨Ao28, co28, eo28⟩ := Kd.R_slice HO_387003.out
                      subst eo28
                      go_wp2_with (first | ((with_reducible refine gate_builtin (b := .append) (xs := #[.tmp 53, .tmp 55]) rfl ?_); at_builtin; refine Kd.S_append k95 w.heap.size rfl (.tmp 53) (.tmp 55) 22 95 (.agg #[(.int .i64 0), (.int .i64 0), (.string ⟨#[]⟩), (.slice none 0 0)]) 56 rfl Try.underlying22 info95 rfl (by decide) (by omega) u3 x3_1 (⟨t387, t390, t393, x387003_3⟩ : S95) [.int .i64 t387, .int .i64 t390, .string t393, .slice Ao28 x387003_3.length co28] (fun k_ => k_ ≠ gb386) (fun k_ => some k_ = (.slice Ao28 x387003_3.length co28 : Value).ownBlock) rfl rfl ?aP (fun k_ hk_ => ((Kd.R_mono (ok' := fun k_ => ((fun k_ => k_ ≠ gb386)) k_ ∧ some k_ ≠ (u3 : Value).ownBlock) (Kd.R_types (Kd.R_apart' (HO_387003.out) (Kd.S_typed HO_3.out) (by decide)) BK386.out (by decide)) (fun k_ hk => ⟨hk.2, hk.1.2⟩))).1 k_ hk_.symm) ?aF ?aO (Below.refl _ _) ?aS ?aL ?_; (case aP => exact k95_mkM _ _ _ (⟨t387, t390, t393, x387003_3⟩ : S95) (Kd.R_mono (Kd.R_tight rfl (Kd.R_mono (ok' := fun k_ => ((fun k_ => k_ ≠ gb386)) k_ ∧ some k_ ≠ (u3 : Value).ownBlock) (Kd.R_types (Kd.R_apart' (HO_387003.out) (Kd.S_typed HO_3.out) (by decide)) BK386.out (by decide)) (fun k_ hk => ⟨hk.2, hk.1.2⟩))) (fun _ h_ => h_))); (case aF => exact (fun k_ hk => Kd.freshB (g := gb386) (o := .cells #[.int .i64 t387, .int .i64 t390, .string t393, .slice Ao28 x387003_3.length co28] 95 (0, 0)) (by (with_reducible repeat (first | refine blk_drewN ?_ _ | refine blk_drew ?_ | refine blk_alloc ?_ _)); exact BK386.out) k_ hk)); (case aO => exact (by (with_reducible repeat (first | apply Kd.S_alloc | apply Kd.S_drewN | apply Kd.S_drew)); exact Kd.S_mono HO_3.out (fun k_ hk => ⟨hk.2, fun e_ => hk.1 e_⟩))); (case aS => exact (keep_size (w := w) (g := g) (row := none) (by repeat (first | (with_reducible first | exact HK.out | apply KeepBut.set_ | apply keep_drewN | apply keep_drew | apply keep_alloc | refine keep_far ?_ GW386.out _) | exact HK.out)))); (case aL => have := LMc23.out; omega); intro v400 w27 ho hb hg hat; rw [← Ny399.out] at ho; have n0_ := Aside0.mk (blk_grown (g := gb386) (o := .cells #[.int .i64 t387, .int .i64 t390, .string t393, .slice Ao28 x387003_3.length co28] 95 (0, 0)) (by (with_reducible repeat (first | refine blk_drewN ?_ _ | refine blk_drew ?_ | refine blk_alloc ?_ _)); exact BK386.out) hg (Kd.S_away HO_3.out (fun _ hk => hk.2))); have n1_ := Aside0.mk (IsS79.grown (by repeat (first | (with_reducible first | exact HI0.out | apply IsS79.alloc | apply IsS79.drewN | apply IsS79.drew | apply IsS79.set_1 | apply IsS79.set_2 | refine IsS79.far ?_ NB0_386.out _) | exact HI0.out)) hg (IsS79.own_neS HI0.out HO_3.out (by decide))); have n2_ := Aside0.mk (below_weaken (by repeat (first | (with_reducible first | exact HB.out | apply below_alloc | apply pw_below_drewN | apply below_drew1 | refine below_set ?_ (IsS79.ge HI0.out) | refine below_set ?_ GE386.out) | exact HB.out)) HL.out hb); have n3_ := Aside0.mk (KeepBut.trans (by repeat (first | (with_reducible first | exact HK.out | apply KeepBut.set_ | apply keep_drewN | apply keep_drew | apply keep_alloc | refine keep_far ?_ GW386.out _) | exact HK.out)) (KeepBut.of_grown hg g) (Kd.S_base2 HO_3.out)); have n4_ := Aside0.mk (ho); clear BK386; clear HI0; clear HB; clear HK; clear HO_3; clear HO_387003; have BK386 := n0_; have HI0 := n1_; have HB := n2_; have HK := n3_; have HO401 := n4_; clear n0_ n1_ n2_ n3_ n4_; clear ho hb hg hat))
                      go_roundg k3
                      case measure => have := HK1.out; have := HJ3.out; have := HK3.out; omega
                      case rel => exact ⟨(y399), (wrap64 (x5_1 + 1)), (x1001_3), (true), (by first | rfl | (simp; done) | (simp [*]; done)), H', ⟨by have := HK1.out; have := HJ3.out; have := HK3.out; omega⟩, ⟨by (with_reducible repeat (first | apply Kd.S_alloc | apply Kd.S_drewN | apply Kd.S_drew)); exact Kd.S_mono HO401.out (fun _ hk => trivial)⟩, ⟨by repeat (first | (with_reducible first | exact HI0.out | apply IsS79.alloc | apply IsS79.drewN | apply IsS79.drew | apply IsS79.set_1 | apply IsS79.set_2 | refine IsS79.far ?_ NB0_386.out _) | exact HI0.out)⟩, ⟨by repeat (first | (with_reducible first | exact HK.out | apply KeepBut.set_ | apply keep_drewN | apply keep_drew | apply keep_alloc | refine keep_far ?_ GW386.out _) | exact HK.out)⟩, ⟨by repeat (first | (with_reducible first | exact HB.out | apply below_alloc | apply pw_below_drewN | apply below_drew1 | refine below_set ?_ (IsS79.ge HI0.out) | refine below_set ?_ GE386.out) | exact HB.out)⟩⟩
                    · rw [if_neg c23] at H
                      exact absurd H (by simp)
                  · replace c22 := Bool.eq_false_iff.mpr c22
                    subst c22
                    have H1 : ((becketref01_Reader_Num.f s0_0 x1001_3 false 1000).bind fun bt402 => (if x387003_3.length < 17592186044416 then (becketref12_get.l1 k3 x3_1 t383 x5_1 t396 (wrap64 (x8_3 + 1)) s0_0 bt402.2.1 bt402.2.2 t387 t390 t393 (x387003_3 ++ [bt402.1])) else (none))) = some (r1, r2, r3) := by rw [if_neg (show ¬ (false = true) by decide)] at H; exact H
                    clear H
                    have H := H1
                    clear H1
                    replace H := Option.bind_eq_some_iff.mp H
                    obtain ⟨⟨t402, t403, t404⟩, A290, H⟩ := H
                    replace H : (if x387003_3.length < 17592186044416 then (becketref12_get.l1 k3 x3_1 t383 x5_1 t396 (wrap64 (x8_3 + 1)) s0_0 t403 t404 t387 t390 t393 (x387003_3 ++ [t402])) else (none)) = some (r1, r2, r3) := H
                    have A29 := Aside0.mk A290
                    clear A290
                    by_cases c30 : x387003_3.length < 17592186044416
                    · rw [if_pos c30] at H
                      have LMc30 := Aside0.mk c30
                      clear c30
                      obtain ⟨y405, hy405⟩ : ∃ y_ : List Int, y_ = (x387003_3 ++ [t402]) := ⟨_, rfl⟩
                      replace H : (becketref12_get.l1 k3 x3_1 t383 x5_1 t396 (wrap64 (x8_3 + 1)) s0_0 t403 t404 t387 t390 t393 y405) = some (r1, r2, r3) := by first | (rw [hy405]; with_reducible exact H) | (have H2_ := (Option.bind_some _ _).symm.trans H; rw [hy405]; with_reducible exact H2_) | (have H2_ := (Option.bind_some _ _).symm.trans H; with_reducible exact H2_) | with_reducible exact H | (rw [hy405]; exact H) | exact H
                      have Ny405 := Aside0.mk hy405
                      clear hy405
                      have H' := Aside0.mk H
                      clear H
                      obtain ⟨ASz31_0, cSz31_0, HGz31, hgz31, HSz31_0⟩ := HI0.out
                      have hcz31_0 := cellS79_0 HGz31
                      have hcz31_1 := cellS79_1 HGz31
                      have hcz31_2 := cellS79_2 HGz31
                      have hfz31_1 := blk_frozen HGz31 1
                      have hfz31_2 := blk_frozen HGz31 2
                      clear HGz31 hgz31
                      try go_wp2
                      have n0_ := Aside0.mk (Kd.S_drew HO_3.out)
                      have n1_ := Aside0.mk (Kd.R_drew HO_387003.out)
                      have n2_ := Aside0.mk (blk_drew BK386.out)
                      have n3_ := Aside0.mk (IsS79.drew HI0.out)
                      have n4_ := Aside0.mk (keep_drew HK.out)
                      have n5_ := Aside0.mk (below_drew1 HB.out)
                      clear HO_3
                      clear HO_387003
                      clear BK386
                      clear HI0
                      clear HK
                      clear HB
                      have HO_3 := n0_
                      have HO_387003 := n1_
                      have BK386 := n2_
                      have HI0 := n3_
                      have HK := n4_
                      have HB := n5_
                      clear n0_ n1_ n2_ n3_ n4_ n5_
                      refine start_ (n := 8) (S := fun w' => w'.cell? ⟨gb386, 0, none⟩ = some (.int .i64 t387) ∧ w'.cell? ⟨gb386, 1, none⟩ = some (.int .i64 t390) ∧ w'.cell? ⟨gb386, 2, none⟩ = some (.string t393) ∧ w'.cell? ⟨gb386, 3, none⟩ = some (u387003)) (ds := [7]) #[false, false, false, false, false, false, false, false] (by kernel_rfl) rfl rfl ⟨(blk_cell BK386.out 0).trans rfl, (blk_cell BK386.out 1).trans rfl, (blk_cell BK386.out 2).trans rfl, (blk_cell BK386.out 3).trans rfl⟩ (fun hHeld => ?_); refine with_tabW becketref12_get.tab14 becketref12_get.bits14 (fun HT_ HW_ => ?_)
                      generalize wr.drew = w32 at HO_3 HO_387003 BK386 HI0 HK HB hHeld ⊢
                      refine pure_ (i := 0) (N := some 46) (v := ?_) (a' := ?_) #[true, false, false, false, false, false, false, false] rfl rfl (any_of HT_.out (by kernel_rfl)) (fun _ _ _ h => h) (Or.inl ⟨by rfl, ?_⟩) ?_ ?_
                      rotate_left
                      · intro w'
                        go_simp
                        with_reducible rfl
                      rotate_left
                      · simp only [Act.put, List.setIfInBounds_toArray, List.set_cons_zero, List.set_cons_succ, i64_w, i32_w]
                        rfl
                      refine pure_ (i := 2) (N := some 48) (v := ?_) (a' := ?_) #[true, false, true, false, false, false, false, false] rfl rfl (any_of HT_.out (by kernel_rfl)) (fun _ _ _ h => h) (Or.inl ⟨by rfl, ?_⟩) ?_ ?_
                      rotate_left
                      · intro w'
                        go_simp
                        with_reducible rfl
                      rotate_left
                      · simp only [Act.put, List.setIfInBounds_toArray, List.set_cons_zero, List.set_cons_succ, i64_w, i32_w]
                        rfl
                      refine take_ (i := 1) (N := some 47) (v := ?_) (a' := ?_) #[true, true, true, false, false, false, false, false] rfl rfl (take_ofW HT_.out HW_.out (by kernel_rfl)) (fun _ _ _ h => h) (Or.inl ⟨by rfl, ?_⟩) hHeld ?_ ?_
                      rotate_left
                      · rintro w' ⟨s0, s1, s2, s3⟩
                        go_simp
                        with_reducible rfl
                      rotate_left
                      · simp only [Act.put, List.setIfInBounds_toArray, List.set_cons_zero, List.set_cons_succ, i64_w, i32_w]
                        rfl
                      refine one_ (i := 3) (N := some 49) #[true, true, true, true, false, false, false, false] rfl rfl (one_of HT_.out (by kernel_rfl)) (by decide) (fun K hK => ?_)
                      refine goes_ Try.func42 (by kernel_rfl) rfl #[.pointer (some ⟨g, 0, none⟩), .int .u64 1000] (by rfl) rfl rfl (by (try simp only [List.map_toArray, List.map_cons, List.map_nil]); first | done | rfl | (simp only [List.length_drop, List.length_take]; rfl)) ?_
                      with_reducible refine (becketref01_Reader_Num.calls g s0_0 x1001_3 false 1000 t402 t403 t404 w0 _ ?side1 ?side2 A29.out).mono ?_
                      (case side1 => repeat (first | (with_reducible first | exact HI0.out | apply IsS79.alloc | apply IsS79.drewN | apply IsS79.drew | apply IsS79.set_1 | apply IsS79.set_2 | refine IsS79.far ?_ NB0_386.out _) | exact HI0.out))
                      (case side2 => repeat (first | (with_reducible first | exact HB.out | apply below_alloc | apply pw_below_drewN | apply below_drew1 | refine below_set ?_ (IsS79.ge HI0.out) | refine below_set ?_ GE386.out) | exact HB.out))
                      rintro e w33 ⟨rfl, hi, hb, hk⟩
                      refine ⟨_, rfl, ?_⟩
                      have n0_ := Aside0.mk (Kd.S_mono (Kd.S_keep (IsS79.apartS (show IsS79 w0 _ g s0_0 x1001_3 false from by repeat (first | (with_reducible first | exact HI0.out | apply IsS79.alloc | apply IsS79.drewN | apply IsS79.drew | apply IsS79.set_1 | apply IsS79.set_2 | refine IsS79.far ?_ NB0_386.out _) | exact HI0.out)) (by (with_reducible repeat (first | apply Kd.S_alloc | apply Kd.S_drewN | apply Kd.S_drew)); exact HO_3.out) (by decide)) hk (fun _ h => h.2)) (fun _ h => h.1))
                      have n1_ := Aside0.mk (Kd.R_mono (Kd.R_keep (IsS79.apart (show IsS79 w0 _ g s0_0 x1001_3 false from by repeat (first | (with_reducible first | exact HI0.out | apply IsS79.alloc | apply IsS79.drewN | apply IsS79.drew | apply IsS79.set_1 | apply IsS79.set_2 | refine IsS79.far ?_ NB0_386.out _) | exact HI0.out)) (by (with_reducible repeat (first | apply Kd.R_alloc | apply Kd.R_drewN | apply Kd.R_drew)); exact HO_387003.out) (by decide)) hk (fun _ h => h.2)) (fun _ h => h.1))
                      have n2_ := Aside0.mk (KeepBut.blk hk (g' := gb386) (o := .cells #[.int .i64 t387, .int .i64 t390, .string t393, u387003] 95 (0, 0)) (by (with_reducible repeat (first | refine blk_drewN ?_ _ | refine blk_drew ?_ | refine blk_alloc ?_ _)); exact BK386.out) NB386_0.out (by simp))
                      have n3_ := Aside0.mk (KeepBut.trans (by repeat (first | (with_reducible first | exact HK.out | apply KeepBut.set_ | apply keep_drewN | apply keep_drew | apply keep_alloc | refine keep_far ?_ GW386.out _) | exact HK.out)) hk (.inl rfl))
                      have n4_ := Aside0.mk (hb)
                      have n5_ := Aside0.mk (hi)
                      clear HO_3
                      clear HO_387003
                      clear BK386
                      clear HK
                      clear HB
                      clear HI0
                      have HO_3 := n0_
                      have HO_387003 := n1_
                      have BK386 := n2_
                      have HK := n3_
                      have HB := n4_
                      have HI0 := n5_
                      clear n0_ n1_ n2_ n3_ n4_ n5_
                      (try clear hb)
                      (try clear hb2)
                      (try clear hk)
                      (try clear hi)
                      refine hK.out _ _ ⟨(blk_cell BK386.out 0).trans rfl, (blk_cell BK386.out 1).trans rfl, (blk_cell BK386.out 2).trans rfl, (blk_cell BK386.out 3).trans rfl⟩ (fun hHeld => ?_)
                      clear hK K
                      refine norm_ (a' := ?_) ?_ ?_
                      rotate_left
                      · show Act.put _ (some 49) _ = _
                        simp only [Act.put, List.setIfInBounds_toArray, List.set_cons_zero, List.set_cons_succ, i64_w, i32_w]
                        rfl
                      refine one_ (i := 4) (N := some 50) #[true, true, true, true, true, false, false, false] rfl rfl (one_of HT_.out (by kernel_rfl)) (by decide) (fun K hK => ?_)
                      refine value_ (w1 := ?_) (v := ?_) (by rfl) rfl ?_ ?_
                      rotate_left 2
                      · go_simp
                        constructor
                        · rfl
                        · rfl
                      refine hK.out _ _ ⟨(blk_cell (blk_alloc BK386.out _) 0).trans rfl, (blk_cell (blk_alloc BK386.out _) 1).trans rfl, (blk_cell (blk_alloc BK386.out _) 2).trans rfl, (blk_cell (blk_alloc BK386.out _) 3).trans rfl⟩ (fun hHeld => ?_)
                      clear hK K
                      refine norm_ (a' := ?_) ?_ ?_
                      rotate_left
                      · show Act.put _ (some 50) _ = _
                        simp only [Act.put, List.setIfInBounds_toArray, List.set_cons_zero, List.set_cons_succ, i64_w, i32_w]
                        rfl
                      refine one_ (i := 5) (N := some 51) #[true, true, true, true, true, true, false, false] rfl rfl (one_of HT_.out (by kernel_rfl)) (by decide) (fun K hK => ?_)
                      refine Kd.R_append_step (Kd.int .i64) w.heap.size (by rfl) (.tmp 47) (.tmp 50) 93 3 (.int .i64 0) 8 rfl Try.underlying93 info3 rfl (by decide) (by omega) u387003 x387003_3 t402 [.int .i64 t402] (fun _ => True) (fun _ => False) rfl rfl ?aP (fun _ hk => hk.elim) ?aF ?aO (Below.refl _ _) ?aS ?aL ?_
                      (case aP => exact rfl)
                      (case aF => exact (fun _ _ => trivial))
                      (case aO => exact (by (with_reducible repeat (first | apply Kd.R_alloc | apply Kd.R_drewN | apply Kd.R_drew)); exact HO_387003.out))
                      (case aS => exact (keep_size (w := w) (g := g) (row := none) (by repeat (first | (with_reducible first | exact HK.out | apply KeepBut.set_ | apply keep_drewN | apply keep_drew | apply keep_alloc | refine keep_far ?_ GW386.out _) | exact HK.out))))
                      (case aL => have := LMc30.out; omega)
                      intro v406 w34 ho hb hg hat
                      rw [← Ny405.out] at ho
                      have n0_ := Aside0.mk (Kd.S_after (ok := (fun k_ => k_ ≠ gb386)) (by (with_reducible repeat (first | apply Kd.S_alloc | apply Kd.S_drewN | apply Kd.S_drew)); exact Kd.S_mono HO_3.out (fun _ hk => ⟨hk.2, hk.1⟩)) hg hat)
                      have n1_ := Aside0.mk (blk_grown (g := gb386) (o := .cells #[.int .i64 t387, .int .i64 t390, .string t393, u387003] 95 (0, 0)) (by (with_reducible repeat (first | refine blk_drewN ?_ _ | refine blk_drew ?_ | refine blk_alloc ?_ _)); exact BK386.out) hg (Kd.R_ne HO_387003.out BK386.out (by decide)))
                      have n2_ := Aside0.mk (IsS79.grown (by repeat (first | (with_reducible first | exact HI0.out | apply IsS79.alloc | apply IsS79.drewN | apply IsS79.drew | apply IsS79.set_1 | apply IsS79.set_2 | refine IsS79.far ?_ NB0_386.out _) | exact HI0.out)) hg (IsS79.own_ne HI0.out HO_387003.out (by decide)))
                      have n3_ := Aside0.mk (below_weaken (by repeat (first | (with_reducible first | exact HB.out | apply below_alloc | apply pw_below_drewN | apply below_drew1 | refine below_set ?_ (IsS79.ge HI0.out) | refine below_set ?_ GE386.out) | exact HB.out)) HL.out hb)
                      have n4_ := Aside0.mk (KeepBut.trans (by repeat (first | (with_reducible first | exact HK.out | apply KeepBut.set_ | apply keep_drewN | apply keep_drew | apply keep_alloc | refine keep_far ?_ GW386.out _) | exact HK.out)) (KeepBut.of_grown hg g) (Kd.R_base2 HO_387003.out))
                      have n5_ := Aside0.mk (ho)
                      clear HO_3
                      clear BK386
                      clear HI0
                      clear HB
                      clear HK
                      clear HO_387003
                      have HO_3 := n0_
                      have BK386 := n1_
                      have HI0 := n2_
                      have HB := n3_
                      have HK := n4_
                      have HO407 := n5_
                      clear n0_ n1_ n2_ n3_ n4_ n5_
                      clear ho hb hg hat
                      obtain ⟨Ao35, co35, eo35⟩ := Kd.R_slice HO407.out
                      (first | subst eo35 | (injection eo35 with f1_ f2_ f3_; have f4_ := f1_.symm; have f5_ := f3_.symm; clear f1_ f2_ f3_; subst f4_; subst f5_))
                      refine hK.out _ _ ⟨(blk_cell BK386.out 0).trans rfl, (blk_cell BK386.out 1).trans rfl, (blk_cell BK386.out 2).trans rfl, (blk_cell BK386.out 3).trans rfl⟩ (fun hHeld => ?_)
                      clear hK K
                      refine norm_ (a' := ?_) ?_ ?_
                      rotate_left
                      · show Act.put _ (some 51) _ = _
                        simp only [Act.put, List.setIfInBounds_toArray, List.set_cons_zero, List.set_cons_succ, i64_w, i32_w]
                        rfl
                      refine pure_ (i := 6) (N := some 52) (v := ?_) (a' := ?_) #[true, true, true, true, true, true, true, false] rfl rfl (any_of HT_.out (by kernel_rfl)) (fun _ _ _ h => h) (Or.inl ⟨by rfl, ?_⟩) ?_ ?_
                      rotate_left
                      · intro w'
                        go_simp
                        with_reducible rfl
                      rotate_left
                      · simp only [Act.put, List.setIfInBounds_toArray, List.set_cons_zero, List.set_cons_succ, i64_w, i32_w]
                        rfl
                      refine last_ (i := 7) (N := none) #[true, true, true, true, true, true, true, true] rfl rfl (one_of HT_.out (by kernel_rfl)) (by decide) (fun K hK => ?_)
                      have hs36 : w34.cell? ⟨gb386, 3, none⟩ = some (u387003) := (blk_cell BK386.out 3).trans rfl
                      have hfs36 := blk_frozen BK386.out 3
                      refine skip_ (w1 := ?_) (by rfl) rfl ?_ ?_
                      rotate_left
                      · go_simp
                        rfl
                      refine hK.out _ _ ?_
                      clear hK K
                      refine done_ (done_of HT_.out (by kernel_rfl)) ?_
                      try go_wp2
                      go_roundg k3
                      case measure => have := HK1.out; have := HJ3.out; have := HK3.out; omega
                      case rel => exact ⟨(wrap64 (x8_3 + 1)), (t403), (t404), (y405), (.slice Ao35 y405.length co35), (by first | rfl | (simp; done) | (simp [*]; done)), H', ⟨by have := HK1.out; have := HJ3.out; have := HK3.out; omega⟩, ⟨by (with_reducible repeat (first | apply Kd.S_alloc | apply Kd.S_drewN | apply Kd.S_drew)); exact Kd.S_mono (Kd.S_far (p := ⟨gb386, 3, none⟩) (Kd.S_mono HO_3.out (fun k_ hk => (⟨hk, hk.1⟩ : _ ∧ k_ ≠ gb386))) (fun _ hk => hk.2) (.slice Ao35 y405.length co35)) (fun _ hk => ⟨hk.1.2, hk.1.1⟩)⟩, ⟨by (with_reducible repeat (first | apply Kd.R_alloc | apply Kd.R_drewN | apply Kd.R_drew)); exact Kd.R_mono (Kd.R_far (p := ⟨gb386, 3, none⟩) (Kd.R_types HO407.out BK386.out (by decide)) (fun _ hk => hk.2) (.slice Ao35 y405.length co35)) (fun _ hk => trivial)⟩, ⟨by (with_reducible repeat (first | refine blk_drewN ?_ _ | refine blk_drew ?_ | refine blk_alloc ?_ _)); refine blk_put (cs := #[.int .i64 t387, .int .i64 t390, .string t393, u387003]) ?_ 3 _ rfl; (with_reducible repeat (first | refine blk_drewN ?_ _ | refine blk_drew ?_ | refine blk_alloc ?_ _)); exact BK386.out⟩, ⟨by repeat (first | (with_reducible first | exact HI0.out | apply IsS79.alloc | apply IsS79.drewN | apply IsS79.drew | apply IsS79.set_1 | apply IsS79.set_2 | refine IsS79.far ?_ NB0_386.out _) | exact HI0.out)⟩, ⟨by repeat (first | (with_reducible first | exact HK.out | apply KeepBut.set_ | apply keep_drewN | apply keep_drew | apply keep_alloc | refine keep_far ?_ GW386.out _) | exact HK.out)⟩, ⟨by repeat (first | (with_reducible first | exact HB.out | apply below_alloc | apply pw_below_drewN | apply below_drew1 | refine below_set ?_ (IsS79.ge HI0.out) | refine below_set ?_ GE386.out) | exact HB.out)⟩⟩
                    · rw [if_neg c30] at H
                      exact absurd H (by simp)
                · rw [if_neg c21] at H
                  have c21b0 : decide (x8_3 < t396) = false := decide_eq_false c21
                  clear c21
                  by_cases c37 : x3_1.length < 2513169434916
                  · rw [if_pos c37] at H
                    have LMc37 := Aside0.mk c37
                    clear c37
                    obtain ⟨y408, hy408⟩ : ∃ y_ : List (S95), y_ = (x3_1 ++ [(⟨t387, t390, t393, x387003_3⟩ : S95)]) := ⟨_, rfl⟩
                    replace H : (becketref12_get.l0 k3 y408 t383 (wrap64 (x5_1 + 1)) s0_0 x1001_3 x1002_3) = some (r1, r2, r3) := by first | (rw [hy408]; with_reducible exact H) | (have H2_ := (Option.bind_some _ _).symm.trans H; rw [hy408]; with_reducible exact H2_) | (have H2_ := (Option.bind_some _ _).symm.trans H; with_reducible exact H2_) | with_reducible exact H | (rw [hy408]; exact H) | exact H
                    have Ny408 := Aside0.mk hy408
                    clear hy408
                    have H' := Aside0.mk H
                    clear H
                    have hnb38 := NB386_0.out
                    have hnc38 := NB0_386.out
                    have hcz39_0 : wr.cell? ⟨gb386, 0, none⟩ = some (.int .i64 t387) := (blk_cell BK386.out 0).trans rfl
                    have hcz39_1 : wr.cell? ⟨gb386, 1, none⟩ = some (.int .i64 t390) := (blk_cell BK386.out 1).trans rfl
                    have hcz39_2 : wr.cell? ⟨gb386, 2, none⟩ = some (.string t393) := (blk_cell BK386.out 2).trans rfl
                    have hcz39_3 : wr.cell? ⟨gb386, 3, none⟩ = some (u387003) := (blk_cell BK386.out 3).trans rfl
                    have hfz39_0 := blk_frozen BK386.out 0
                    have hfz39_1 := blk_frozen BK386.out 1
                    have hfz39_2 := blk_frozen BK386.out 2
                    have hfz39_3 := blk_frozen BK386.out 3
                    obtain ⟨Ao41, co41, eo41⟩ := Kd.R_slice HO_387003.out
                    subst eo41
                    go_wp2_with (first | ((with_reducible refine gate_builtin (b := .append) (xs := #[.tmp 53, .tmp 55]) rfl ?_); at_builtin; refine Kd.S_append k95 w.heap.size rfl (.tmp 53) (.tmp 55) 22 95 (.agg #[(.int .i64 0), (.int .i64 0), (.string ⟨#[]⟩), (.slice none 0 0)]) 56 rfl Try.underlying22 info95 rfl (by decide) (by omega) u3 x3_1 (⟨t387, t390, t393, x387003_3⟩ : S95) [.int .i64 t387, .int .i64 t390, .string t393, .slice Ao41 x387003_3.length co41] (fun k_ => k_ ≠ gb386) (fun k_ => some k_ = (.slice Ao41 x387003_3.length co41 : Value).ownBlock) rfl rfl ?aP (fun k_ hk_ => ((Kd.R_mono (ok' := fun k_ => ((fun k_ => k_ ≠ gb386)) k_ ∧ some k_ ≠ (u3 : Value).ownBlock) (Kd.R_types (Kd.R_apart' (HO_387003.out) (Kd.S_typed HO_3.out) (by decide)) BK386.out (by decide)) (fun k_ hk => ⟨hk.2, hk.1.2⟩))).1 k_ hk_.symm) ?aF ?aO (Below.refl _ _) ?aS ?aL ?_; (case aP => exact k95_mkM _ _ _ (⟨t387, t390, t393, x387003_3⟩ : S95) (Kd.R_mono (Kd.R_tight rfl (Kd.R_mono (ok' := fun k_ => ((fun k_ => k_ ≠ gb386)) k_ ∧ some k_ ≠ (u3 : Value).ownBlock) (Kd.R_types (Kd.R_apart' (HO_387003.out) (Kd.S_typed HO_3.out) (by decide)) BK386.out (by decide)) (fun k_ hk => ⟨hk.2, hk.1.2⟩))) (fun _ h_ => h_))); (case aF => exact (fun k_ hk => Kd.freshB (g := gb386) (o := .cells #[.int .i64 t387, .int .i64 t390, .string t393, .slice Ao41 x387003_3.length co41] 95 (0, 0)) (by (with_reducible repeat (first | refine blk_drewN ?_ _ | refine blk_drew ?_ | refine blk_alloc ?_ _)); exact BK386.out) k_ hk)); (case aO => exact (by (with_reducible repeat (first | apply Kd.S_alloc | apply Kd.S_drewN | apply Kd.S_drew)); exact Kd.S_mono HO_3.out (fun k_ hk => ⟨hk.2, fun e_ => hk.1 e_⟩))); (case aS => exact (keep_size (w := w) (g := g) (row := none) (by repeat (first | (with_reducible first | exact HK.out | apply KeepBut.set_ | apply keep_drewN | apply keep_drew | apply keep_alloc | refine keep_far ?_ GW386.out _) | exact HK.out)))); (case aL => have := LMc37.out; omega); intro v409 w40 ho hb hg hat; rw [← Ny408.out] at ho; have n0_ := Aside0.mk (blk_grown (g := gb386) (o := .cells #[.int .i64 t387, .int .i64 t390, .string t393, .slice Ao41 x387003_3.length co41] 95 (0, 0)) (by (with_reducible repeat (first | refine blk_drewN ?_ _ | refine blk_drew ?_ | refine blk_alloc ?_ _)); exact BK386.out) hg (Kd.S_away HO_3.out (fun _ hk => hk.2))); have n1_ := Aside0.mk (IsS79.grown (by repeat (first | (with_reducible first | exact HI0.out | apply IsS79.alloc | apply IsS79.drewN | apply IsS79.drew | apply IsS79.set_1 | apply IsS79.set_2 | refine IsS79.far ?_ NB0_386.out _) | exact HI0.out)) hg (IsS79.own_neS HI0.out HO_3.out (by decide))); have n2_ := Aside0.mk (below_weaken (by repeat (first | (with_reducible first | exact HB.out | apply below_alloc | apply pw_below_drewN | apply below_drew1 | refine below_set ?_ (IsS79.ge HI0.out) | refine below_set ?_ GE386.out) | exact HB.out)) HL.out hb); have n3_ := Aside0.mk (KeepBut.trans (by repeat (first | (with_reducible first | exact HK.out | apply KeepBut.set_ | apply keep_drewN | apply keep_drew | apply keep_alloc | refine keep_far ?_ GW386.out _) | exact HK.out)) (KeepBut.of_grown hg g) (Kd.S_base2 HO_3.out)); have n4_ := Aside0.mk (ho); clear BK386; clear HI0; clear HB; clear HK; clear HO_3; clear HO_387003; have BK386 := n0_; have HI0 := n1_; have HB := n2_; have HK := n3_; have HO410 := n4_; clear n0_ n1_ n2_ n3_ n4_; clear ho hb hg hat))
                    go_roundg k3
                    case measure => have := HK1.out; have := HJ3.out; have := HK3.out; omega
                    case rel => exact ⟨(y408), (wrap64 (x5_1 + 1)), (x1001_3), (x1002_3), (by first | rfl | (simp; done) | (simp [*]; done)), H', ⟨by have := HK1.out; have := HJ3.out; have := HK3.out; omega⟩, ⟨by (with_reducible repeat (first | apply Kd.S_alloc | apply Kd.S_drewN | apply Kd.S_drew)); exact Kd.S_mono HO410.out (fun _ hk => trivial)⟩, ⟨by repeat (first | (with_reducible first | exact HI0.out | apply IsS79.alloc | apply IsS79.drewN | apply IsS79.drew | apply IsS79.set_1 | apply IsS79.set_2 | refine IsS79.far ?_ NB0_386.out _) | exact HI0.out)⟩, ⟨by repeat (first | (with_reducible first | exact HK.out | apply KeepBut.set_ | apply keep_drewN | apply keep_drew | apply keep_alloc | refine keep_far ?_ GW386.out _) | exact HK.out)⟩, ⟨by repeat (first | (with_reducible first | exact HB.out | apply below_alloc | apply pw_below_drewN | apply below_drew1 | refine below_set ?_ (IsS79.ge HI0.out) | refine below_set ?_ GE386.out) | exact HB.out)⟩⟩
                  · rw [if_neg c37] at H
                    exact absurd H (by simp)
          · replace c7 := Bool.eq_false_iff.mpr c7
            subst c7
            have H1 : (some (x3_1, x1001_1, x1002_1)) = some (r1, r2, r3) := by rw [if_neg (show ¬ (false = true) by decide)] at H; exact H
            clear H
            have H := H1
            clear H1
            simp only [Option.some.injEq, Prod.mk.injEq] at H
            obtain ⟨rfl, rfl, rfl⟩ := H
            go_wp2
            go_ret
            exact ⟨_, by first | rfl | (simp [errW_none, errW_some] <;> rfl) | (simp [*, errW_none, errW_some] <;> rfl), by (with_reducible repeat (first | apply Kd.S_alloc | apply Kd.S_drewN | apply Kd.S_drew)); exact HO_3.out, by repeat (first | (with_reducible first | exact HI0.out | apply IsS79.alloc | apply IsS79.drewN | apply IsS79.drew | apply IsS79.set_1 | apply IsS79.set_2) | exact HI0.out), by repeat (first | (with_reducible first | exact HB.out | apply below_alloc | apply pw_below_drewN | apply below_drew1 | refine below_set ?_ (IsS79.ge HI0.out)) | exact HB.out), by repeat (first | (with_reducible first | exact HK.out | apply KeepBut.set_ | apply keep_drewN | apply keep_drew | apply keep_alloc) | exact HK.out)⟩
end Go.Proofs.Ytpbbgbikebcnbaa.Ms
