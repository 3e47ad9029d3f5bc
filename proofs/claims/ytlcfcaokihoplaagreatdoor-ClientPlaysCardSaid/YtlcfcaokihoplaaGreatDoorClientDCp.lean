-- Cut.
import Derived.Test.YtlcfcaokihoplaaGreatDoorClientACp
import Derived.Shelf.GgClosure.Gives
import Derived.Deep.QuietTactic
import Derived.BigQuiet
namespace Go.Proofs.YtlcfcaokihoplaaGreatDoor.Cli
open Go.RowKit Go.Proofs.YtlcfcaokihoplaaGreatDoor.Ms Go.Proofs.YzW.PrintWords Go.Proofs.YzW.PrintLast Go.Proofs.YzW.PrintMore
set_option linter.unusedVariables false
set_option linter.unusedSimpArgs false
def IdxPost {X : Type} (xs : List X) (p : X → Bool) (w : World) (e : Ending) (w' : World) : Prop := (∃ r : Int, e = .returned (.int .i64 r) ∧ decide (0 ≤ r) = xs.any p) ∧ Below w.heap.size w w'
theorem any_hit {X : Type} (p : X → Bool) : ∀ (xs : List X) (k : Nat) (x : X), xs[k]? = some x → p x = true → xs.any p = true := by
 intro xs k x h hp
 exact List.any_eq_true.2 ⟨x, List.mem_of_getElem? h, hp⟩
theorem any_miss {X : Type} (p : X → Bool) (xs : List X) (h : ∀ j x, j < xs.length → xs[j]? = some x → p x = false) : xs.any p = false := by
 rw [List.any_eq_false]
 intro x hx
 obtain ⟨j, hj, rfl⟩ := List.mem_iff_getElem.1 hx
 rw [h j _ hj (List.getElem?_eq_getElem hj)]
 decide
theorem row_at {X : Type} {d : Kd X} {w : World} {A : Option Addr} {xs : List X} (hs : 0 < d.sz) (hC : d.C w A xs.length xs) (hpos : 0 < xs.length) : ∃ b off, A = some ⟨b, off, none⟩ ∧ b < w.heap.size ∧
  ∀ j x, xs[j]? = some x → ∃ cs, cs.length = d.sz ∧ d.K w x cs ∧ ∀ i v, cs[i]? = some v → w.cell? ⟨b, off + (j * d.sz + i), none⟩ = some v := by
 obtain ⟨ad, rfl, hcell⟩ := hC.2.2 hpos
 obtain ⟨b, o, sp⟩ := ad
 obtain ⟨cs0, h1, h2, h3⟩ := hcell 0 xs[0] (List.getElem?_eq_getElem hpos)
 have z := h3 0 cs0[0] (List.getElem?_eq_getElem (by omega))
 have hsp : sp = none := by
  cases sp with
  | none => rfl
  | some q =>
   unfold Addr.add at z
   simp only [World.cell?] at z
   split at z <;> simp at z
 subst hsp
 rw [Addr.add_lit] at z
 refine ⟨b, o, rfl, World.block_lt_of_cell? _ _ z, fun j x hj => ?_⟩
 obtain ⟨cs, h1, h2, h3⟩ := hcell j x hj
 exact ⟨cs, h1, h2, fun i v hi => by have := h3 i v hi; rwa [Addr.add_lit] at this⟩
set_option maxHeartbeats 2000000 in
theorem idx_vote {X : Type} (d : Kd X) (hsz : d.sz = 2) (p : X → Bool) (f bx : Nat) (eg : ∀ args w, (callFunc f args).run Tryz.prog w = .ok (.enter f args) w) (A : Option Addr) (c : Nat) (xs : List X) (w : World) (hC : d.C w A xs.length xs)
  (hp : ∀ (W : World) (x : X) (u0 u1 : Value), Below w.heap.size w W → d.K W x [u0, u1] → Calls Tryz.prog f #[.agg #[u0, u1], .pointer (some ⟨bx, 0, none⟩)] W fun e w' => e = .returned (.bool (p x)) ∧ Below W.heap.size W w') :
  Calls Tryz.prog 37 #[.slice A xs.length c, .func (.func f) #[] #[.pointer (some ⟨bx, 0, none⟩)]] w (IdxPost xs p w) := by
 have hbig : xs.length ≤ 9223372036854775807 := hC.2.1
 rcases Nat.eq_zero_or_pos xs.length with h0 | h0
 ·obtain rfl : xs = [] := List.length_eq_zero_iff.1 h0
  clear hp hC
  go_enter Tryz.func37, Tryz.ntmps37
  go_wp2
  go_loopg [5, 8] 0 (fun _ _ s8 wr => s8 = .int .i64 0 ∧ wr = w)
  case atStart => exact ⟨rfl, rfl⟩
  case round =>
   obtain ⟨rfl, rfl⟩ := hrel
   go_wp2
   go_ret
   exact ⟨⟨-1, rfl, rfl⟩, Below.refl _ _⟩
 ·obtain ⟨b, off, rfl, hb, hcell⟩ := row_at (by omega) hC h0
  have hrow : ∀ (W : World), Below w.heap.size w W → ∀ j x, xs[j]? = some x → ∃ u0 u1 : Value, d.K W x [u0, u1] ∧ W.cell? ⟨b, off + j * 2, none⟩ = some u0 ∧ W.cell? ⟨b, off + j * 2 + 1, none⟩ = some u1 := by
   intro W hW j x hj
   obtain ⟨cs, h1, h2, h3⟩ := hcell j x hj
   rw [hsz] at h1
   match cs, h1 with
   | [u0, u1], _ =>
    have hk := d.K_below hW h2
    have hcl : ∀ i v, [u0, u1][i]? = some v → W.cell? ⟨b, off + j * 2 + i, none⟩ = some v := fun i v hi => by
     rw [hW.cell (p := ⟨b, off + j * 2 + i, none⟩) hb]
     have := h3 i v hi
     rw [hsz] at this
     rw [Nat.add_assoc]
     exact this
    exact ⟨u0, u1, hk, hcl 0 _ rfl, hcl 1 _ rfl⟩
  clear hcell hC
  have HP := Lib.hid hp
  have HR := Lib.hid hrow
  clear hp hrow
  have HN := Lib.hid (rfl : xs.length = xs.length)
  generalize hn : xs.length = n at h0 hbig ⊢
  have HX := Lib.hid hn
  clear hn HN
  go_enter Tryz.func37, Tryz.ntmps37
  go_wp2
  go_loopg [5, 8] n (fun gg _ s8 wr => ∃ kk : Nat, kk ≤ n ∧ n - kk ≤ gg ∧ s8 = .int .i64 kk ∧ Hid (Below w.heap.size w wr) ∧ Hid (∀ j x, j < kk → xs[j]? = some x → p x = false))
  case atStart => exact ⟨0, Nat.zero_le _, by omega, rfl, Lib.hid (Below.refl _ w), Lib.hid (fun j x hj => absurd hj (Nat.not_lt_zero _))⟩
  case round =>
   obtain ⟨kk, hkk, hg, rfl, BW, AL⟩ := hrel
   by_cases hlt : kk < n
   ·have hltz : (kk : Int) < (n : Int) := by omega
    have hx : xs[kk]? = some (xs[kk]'(by rw [HX.out]; exact hlt)) := List.getElem?_eq_getElem _
    generalize (xs[kk]'(by rw [HX.out]; exact hlt)) = x at hx
    obtain ⟨u0, u1, hK, l0, l1⟩ := HR.out wr BW.out kk x hx
    have hcall := HP.out wr x u0 u1 BW.out hK
    have HXK := Lib.hid hx
    clear hK hx
    cases hq : p x with
    | true =>
     rw [hq] at hcall
     have HQ := Lib.hid hq
     clear hq
     go_wp2_with (go_at_fn f; refine hcall.mono ?_; rintro e w' ⟨rfl, hb'⟩)
     go_ret
     exact ⟨⟨_, rfl, by rw [any_hit p xs kk x HXK.out HQ.out]; simp⟩, BW.out.trans (hb'.mono BW.out.size)⟩
    | false =>
     rw [hq] at hcall
     have HQ := Lib.hid hq
     clear hq
     go_wp2_with (go_at_fn f; refine hcall.mono ?_; rintro e w' ⟨rfl, hb'⟩)
     go_roundg (n - (kk + 1))
     case measure => omega
     case rel =>
      refine ⟨kk + 1, by omega, by omega, by go_num, Lib.hid (BW.out.trans (hb'.mono BW.out.size)), Lib.hid (fun j y hj hy => ?_)⟩
      by_cases e : j = kk
      ·subst e
       rw [HXK.out] at hy
       cases hy
       exact HQ.out
      ·exact AL.out j y (by omega) hy
   ·have hltz : ¬ (kk : Int) < (n : Int) := by omega
    have : kk = n := by omega
    subst this
    go_wp2
    go_ret
    refine ⟨⟨-1, rfl, ?_⟩, BW.out⟩
    rw [any_miss p xs (fun j x hj hx => AL.out j x (by rw [← HX.out]; exact hj) hx)]
    rfl
set_option maxHeartbeats 2000000 in
theorem has_vote {X : Type} (d : Kd X) (hsz : d.sz = 2) (p : X → Bool) (f bx : Nat) (eg : ∀ args w, (callFunc f args).run Tryz.prog w = .ok (.enter f args) w) (A : Option Addr) (c : Nat) (xs : List X) (w : World) (hC : d.C w A xs.length xs)
  (hp : ∀ (W : World) (x : X) (u0 u1 : Value), Below w.heap.size w W → d.K W x [u0, u1] → Calls Tryz.prog f #[.agg #[u0, u1], .pointer (some ⟨bx, 0, none⟩)] W fun e w' => e = .returned (.bool (p x)) ∧ Below W.heap.size W w') :
  Calls Tryz.prog 23 #[.slice A xs.length c, .func (.func f) #[] #[.pointer (some ⟨bx, 0, none⟩)]] w fun e w' => e = .returned (.bool (xs.any p)) ∧ Below w.heap.size w w' := by
 have h := idx_vote d hsz p f bx eg A c xs w hC hp
 have HH := Lib.hid h
 clear h hp hC
 generalize xs.length = n at HH ⊢
 go_enter Tryz.func23, Tryz.ntmps23
 go_wp2_with fail
 refine HH.out.mono ?_
 rintro e w' ⟨⟨r, rfl, hr⟩, hb⟩
 have HB := Lib.hid hb
 have HRR := Lib.hid hr
 clear hb hr
 go_wp2
 go_ret
 refine ⟨?_, HB.out⟩
 rw [← HRR.out]
 rfl
theorem enters16 (args : Array Value) (w : World) : (callFunc 24 args).run Tryz.prog w = .ok (.enter 24 args) w := enters_of Tryz.func24 (by kernel_rfl) rfl args w
set_option maxHeartbeats 2000000 in
theorem on1_calls (W : World) (bx : Nat) (a x : Int) (s : ByteArray) (hx : W.cell? ⟨bx, 1, none⟩ = some (.int .i64 x)) :
  Calls Tryz.prog 24 #[.agg #[.int .i64 a, .string s], .pointer (some ⟨bx, 0, none⟩)] W fun e w' => e = .returned (.bool (a == x)) ∧ Below W.heap.size W w' := by
 have hb := World.block_lt_of_cell? _ _ hx
 have hne : bx ≠ W.heap.size := by have : bx < W.heap.size := hb; omega
 go_enter Tryz.func24, Tryz.ntmps24
 go_wp2
 go_ret
 exact ⟨rfl, (Below.refl _ W).alloc (Nat.le_refl _) _⟩
theorem said_calls (w : World) (A : Option Addr) (c : Nat) (vs : List S80) (bx : Nat) (x : Int) (hC : Kd.C k80 w A vs.length vs) (hx : w.cell? ⟨bx, 1, none⟩ = some (.int .i64 x)) :
  Calls Tryz.prog 23 #[.slice A vs.length c, .func (.func 24) #[] #[.pointer (some ⟨bx, 0, none⟩)]] w fun e w' => e = .returned (.bool (vs.any fun v => v.f0 == x)) ∧ Below w.heap.size w w' :=
 has_vote k80 rfl (fun v => v.f0 == x) _ bx enters16 A c vs w hC (fun W v u0 u1 hb hk => by
  have e := k80_open hk
  simp only [List.cons.injEq, and_true] at e
  obtain ⟨rfl, rfl⟩ := e
  exact on1_calls W bx v.f0 x v.f1 ((hb.cell (p := ⟨bx, 1, none⟩) (World.block_lt_of_cell? _ _ hx)).trans hx))
end Go.Proofs.YtlcfcaokihoplaaGreatDoor.Cli

namespace Go.Proofs.YtlcfcaokihoplaaGreatDoor.Cli
open Go.RowKit Go.Proofs.YtlcfcaokihoplaaGreatDoor.Ms Go.Proofs.YzW.PrintWords Go.Proofs.YzW.PrintLast Go.Proofs.YzW.PrintMore
set_option linter.unusedVariables false
set_option linter.unusedSimpArgs false
def eb_ (f t : Int) (wt : Bool) (vs : List S80) (kd fr sq : Int) : Bool := wt && (kd == 7) && decide (0 ≤ fr) && decide (fr ≤ 3 * f) && (sq == t) && !(vs.any fun v => v.f0 == fr)
def accZ : Value := .agg #[.int .i64 0, .int .i64 0, .int .i64 0, .int .i64 0, .slice none 0 0, .slice none 0 0, .slice none 0 0]
theorem zeroA {W : World} {b : Nat} {T : TypeId} (h : W.heap[b]? = some (.cells #[.int .i64 0, .int .i64 0, .int .i64 0, .int .i64 0, .slice none 0 0, .slice none 0 0, .slice none 0 0] T (0, 0))) : W.cell? ⟨b, 0, none⟩ = some (.int .i64 0) ∧ W.cell? ⟨b, 1, none⟩ = some (.int .i64 0) ∧ W.cell? ⟨b, 2, none⟩ = some (.int .i64 0) ∧ W.cell? ⟨b, 3, none⟩ = some (.int .i64 0) ∧ W.cell? ⟨b, 4, none⟩ = some (.slice none 0 0) ∧ W.cell? ⟨b, 5, none⟩ = some (.slice none 0 0) ∧ W.cell? ⟨b, 6, none⟩ = some (.slice none 0 0) ∧ W.frozen? ⟨b, 0, none⟩ = false ∧ W.frozen? ⟨b, 1, none⟩ = false ∧ W.frozen? ⟨b, 2, none⟩ = false ∧ W.frozen? ⟨b, 3, none⟩ = false ∧ W.frozen? ⟨b, 4, none⟩ = false ∧ W.frozen? ⟨b, 5, none⟩ = false ∧ W.frozen? ⟨b, 6, none⟩ = false :=
 ⟨(b_ h 0).trans rfl, (b_ h 1).trans rfl, (b_ h 2).trans rfl, (b_ h 3).trans rfl, (b_ h 4).trans rfl, (b_ h 5).trans rfl, (b_ h 6).trans rfl, a_ h 0, a_ h 1, a_ h 2, a_ h 3, a_ h 4, a_ h 5, a_ h 6⟩
theorem onTake_no {f t : Int} {wt : Bool} {vs : List S80} {kd fr sq : Int} (h : eb_ f t wt vs kd fr sq = false) :
  wt = false ∨ (wt = true ∧ (kd != 7) = true) ∨ (wt = true ∧ (kd != 7) = false ∧ decide (fr < 0) = true) ∨ (wt = true ∧ (kd != 7) = false ∧ decide (fr < 0) = false ∧ decide (3 * f < fr) = true) ∨ (wt = true ∧ (kd != 7) = false ∧ decide (fr < 0) = false ∧ decide (3 * f < fr) = false ∧ (sq != t) = true) ∨ (wt = true ∧ (kd != 7) = false ∧ decide (fr < 0) = false ∧ decide (3 * f < fr) = false ∧ (sq != t) = false ∧ (vs.any fun v => v.f0 == fr) = true) := by
 unfold eb_ at h
 cases wt with
 | false => exact .inl rfl
 | true =>
  refine .inr ?_
  by_cases a : kd = 7
  ·by_cases b : fr < 0
   ·exact .inr (.inl ⟨rfl, by simp [a], by simpa using b⟩)
   ·by_cases c : 3 * f < fr
    ·exact .inr (.inr (.inl ⟨rfl, by simp [a], by simpa using b, by simpa using c⟩))
    ·by_cases d : sq = t
     ·refine .inr (.inr (.inr (.inr ⟨rfl, by simp [a], by simpa using b, by simpa using c, by simp [d], ?_⟩)))
      cases hs : (vs.any fun v => v.f0 == fr) with
      | true => rfl
      | false =>
       rw [hs, decide_eq_true (show 0 ≤ fr by omega), decide_eq_true (show fr ≤ 3 * f by omega)] at h
       simp [a, d] at h
     ·exact .inr (.inr (.inr (.inl ⟨rfl, by simp [a], by simpa using b, by simpa using c, by simp [d]⟩)))
  ·exact .inl ⟨rfl, by simp [a]⟩
theorem onTake_yes {f t : Int} {wt : Bool} {vs : List S80} {kd fr sq : Int} (h : eb_ f t wt vs kd fr sq = true) :
  wt = true ∧ kd = 7 ∧ 0 ≤ fr ∧ fr ≤ 3 * f ∧ sq = t ∧ (vs.any fun v => v.f0 == fr) = false := by
 unfold eb_ at h
 simp only [Bool.and_eq_true, decide_eq_true_eq, beq_iff_eq, Bool.not_eq_true'] at h
 obtain ⟨⟨⟨⟨⟨a, b⟩, c⟩, d⟩, e⟩, q⟩ := h
 exact ⟨a, b, c, d, e, q⟩
set_option maxHeartbeats 8000000 in
set_option maxRecDepth 100000 in
theorem client_On_no (w : World) (B : Nat) (ok : Nat → Prop) (g : Nat) (f id t : Int) (wt : Bool) (body : ByteArray) (vs : List S80) (h : bq_ w B ok g f id t wt body vs) (hf : 1 ≤ f ∧ f ≤ 4)
  (kd fr vw sq : Int) (bd : ByteArray) (A6 : Option Addr) (n6 c6 : Nat) (A7 : Option Addr) (n7 c7 : Nat) (hno : eb_ f t wt vs kd fr sq = false) :
  Calls Tryz.prog 15 #[.pointer (some ⟨g, 0, none⟩), .agg #[.int .i64 kd, .int .i64 fr, .int .i64 vw, .int .i64 sq, .string bd, .slice A6 n6 c6, .slice A7 n7 c7]] w fun e w' => e = .returned (.tuple #[accZ, .bool false]) ∧ Below w.heap.size w w' := by
 have hgl := h.glt
 obtain ⟨Av, cv, hb, hr, hB, hok, hvl⟩ := h.open_
 have c5 : w.cell? ⟨g, 5, none⟩ = some (.slice Av vs.length cv) := (b_ hb 5).trans rfl
 have HB := Lib.hid hb
 have HR := Lib.hid (Kd.R_reads' hr)
 have hgw : g ≠ w.heap.size := by omega
 have hgw1 : g ≠ w.heap.size + 1 := by omega
 have hw3 : wrap64 (3 * f) = 3 * f := by unfold wrap64; omega
 have HW3 := Lib.hid hw3
 have HNO := Lib.hid (onTake_no hno)
 have HGL := Lib.hid hgl
 clear hb hr hB hok hvl h hno hw3 hf
 go_enter Tryz.func15, Tryz.ntmps15
 go_wp2_with fail
 obtain ⟨b1, hb1⟩ : ∃ b1, b1 = w.heap.size := ⟨_, rfl⟩
 have hX1 := heap_alloc_new w (.cells #[.int .i64 kd, .int .i64 fr, .int .i64 vw, .int .i64 sq, .string bd, .slice A6 n6 c6, .slice A7 n7 c7] 40)
 have hB1 : Below w.heap.size w (w.alloc (.cells #[.int .i64 kd, .int .i64 fr, .int .i64 vw, .int .i64 sq, .string bd, .slice A6 n6 c6, .slice A7 n7 c7] 40)) := (Below.refl _ w).alloc (Nat.le_refl _) _
 have hs1 : (w.alloc (.cells #[.int .i64 kd, .int .i64 fr, .int .i64 vw, .int .i64 sq, .string bd, .slice A6 n6 c6, .slice A7 n7 c7] 40)).heap.size = w.heap.size + 1 := by simp
 generalize w.alloc (.cells #[.int .i64 kd, .int .i64 fr, .int .i64 vw, .int .i64 sq, .string bd, .slice A6 n6 c6, .slice A7 n7 c7] 40) = wa at hX1 hB1 hs1 ⊢
 have hX2 := heap_alloc_new wa (.cells #[.int .i64 0, .int .i64 0, .int .i64 0, .int .i64 0, .slice none 0 0, .slice none 0 0, .slice none 0 0] 59)
 have hB2 : Below wa.heap.size wa (wa.alloc (.cells #[.int .i64 0, .int .i64 0, .int .i64 0, .int .i64 0, .slice none 0 0, .slice none 0 0, .slice none 0 0] 59)) := (Below.refl _ wa).alloc (Nat.le_refl _) _
 generalize wa.alloc (.cells #[.int .i64 0, .int .i64 0, .int .i64 0, .int .i64 0, .slice none 0 0, .slice none 0 0, .slice none 0 0] 59) = w1 at hX2 hB2 ⊢
 rw [hs1] at hX2
 rw [← hb1] at hX1 hX2 hgw hgw1 ⊢
 have hX1' := s_ hX1 hB2
 have HX1 := Lib.hid hX1'
 have HX2 := Lib.hid hX2
 have HBL : Hid (Below w.heap.size w w1) := Lib.hid (hB1.trans (hB2.mono hB1.size))
 have HBB := Lib.hid hb1
 clear hX1 hX2 hB1 hB2 hs1 hX1' hb1 c5 wa
 refine (said_calls w1 Av cv vs b1 fr (Kd.C_below HR.out.2.2 HBL.out) ((b_ HX1.out 1).trans rfl)).mono ?_
 rintro e w2 ⟨rfl, hb2⟩
 have hX := s_ HX1.out hb2
 have hZ := s_ HX2.out hb2
 have hG := s_ (s_ HB.out HBL.out) hb2
 have HBw2 := Lib.hid (HBL.out.trans (hb2.mono HBL.out.size))
 have m0 : w2.cell? ⟨b1, 0, none⟩ = some (.int .i64 kd) := (b_ hX 0).trans rfl
 have m1 : w2.cell? ⟨b1, 1, none⟩ = some (.int .i64 fr) := (b_ hX 1).trans rfl
 have m3 : w2.cell? ⟨b1, 3, none⟩ = some (.int .i64 sq) := (b_ hX 3).trans rfl
 have g0 : w2.cell? ⟨g, 0, none⟩ = some (.int .i64 f) := (b_ hG 0).trans rfl
 have g2 : w2.cell? ⟨g, 2, none⟩ = some (.int .i64 t) := (b_ hG 2).trans rfl
 have g3 : w2.cell? ⟨g, 3, none⟩ = some (.bool wt) := (b_ hG 3).trans rfl
 have HZ := Lib.hid hZ
 clear hX hZ hG hb2
 go_wp2_with fail
 have hw3 := HW3.out
 rcases HNO.out with q1 | ⟨q1, q2⟩ | ⟨q1, q2, q3⟩ | ⟨q1, q2, q3, q4⟩ | ⟨q1, q2, q3, q4, q5⟩ | ⟨q1, q2, q3, q4, q5, q6⟩
 all_goals
  subst q1
  try rw [q6]
  go_quiet (fail)
  obtain ⟨z0, z1, z2, z3, z4, z5, z6, y0, y1, y2, y3, y4, y5, y6⟩ := zeroA HZ.out
  clear m0 m1 m3 g0 g2 g3
  go_wp2
  refine bodyPost_ret (v := .tuple #[accZ, .bool false]) ?_ rfl ?_
  ·unfold results
   go_simp
   rfl
  exact ⟨rfl, cp_ (d_ HBw2.out _) (by have := HBB.out; omega) _ _ _ _ _ _ _⟩
end Go.Proofs.YtlcfcaokihoplaaGreatDoor.Cli
