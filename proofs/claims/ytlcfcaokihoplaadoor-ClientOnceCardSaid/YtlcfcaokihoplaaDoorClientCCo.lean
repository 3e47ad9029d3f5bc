-- Cut by a program of this session (wip/shake.py) out of a text of this seat: what this claim doesn't reach is struck out. Lean checks it.
import Derived.Test.YtlcfcaokihoplaaDoorClientACo
import Derived.Shelf.GgClosure.Gives
namespace Go.Proofs.YtlcfcaokihoplaaDoor.Cli
open Go.RowKit Go.Proofs.YtlcfcaokihoplaaDoor.Ms Go.Proofs.YtlcfcaokihoplaaDoorW.PrintWords Go.Proofs.YtlcfcaokihoplaaDoorW.PrintLast Go.Proofs.YtlcfcaokihoplaaDoorW.PrintMore
set_option linter.unusedVariables false
set_option linter.unusedSimpArgs false
def IdxPost {X : Type} (xs : List X) (p : X → Bool) (w : World) (e : Ending) (w' : World) : Prop := (∃ r : Int, e = .returned (.int .i64 r) ∧ decide (0 ≤ r) = xs.any p) ∧ Below w.heap.size w w'
theorem any_hit {X : Type} (p : X → Bool) : ∀ (xs : List X) (k : Nat) (x : X), xs[k]? = some x → p x = true → xs.any p = true := by
  intro xs k x h hp
  exact List.any_eq_true.2 ⟨x, List.mem_of_getElem? h, hp⟩
theorem any_miss {X : Type} (p : X → Bool) (xs : List X) (h : ∀ j x, j < xs.length → xs[j]? = some x → p x = false) : xs.any p = false := by
  rw [List.any_eq_false]
  intro x hx
  obtain ⟨j, hj, rfl⟩ := List.mem_iff_getElem.1 hx
  rw [h j _ hj (List.getElem?_eq_getElem hj)]
  decide
theorem row_at {X : Type} {d : Kd X} {w : World} {A : Option Addr} {xs : List X} (hs : 0 < d.sz) (hC : d.C w A xs.length xs) (hpos : 0 < xs.length) : ∃ b off, A = some ⟨b, off, none⟩ ∧ b < w.heap.size ∧
    ∀ j x, xs[j]? = some x → ∃ cs, cs.length = d.sz ∧ d.K w x cs ∧ ∀ i v, cs[i]? = some v → w.cell? ⟨b, off + (j * d.sz + i), none⟩ = some v := by
  obtain ⟨ad, rfl, hcell⟩ := hC.2.2 hpos
  obtain ⟨b, o, sp⟩ := ad
  obtain ⟨cs0, h1, h2, h3⟩ := hcell 0 xs[0] (List.getElem?_eq_getElem hpos)
  have z := h3 0 cs0[0] (List.getElem?_eq_getElem (by omega))
  have hsp : sp = none := by
    cases sp with
    | none => rfl
    | some q =>
      unfold Addr.add at z
      simp only [World.cell?] at z
      split at z <;> simp at z
  subst hsp
  rw [Addr.add_lit] at z
  refine ⟨b, o, rfl, World.block_lt_of_cell? _ _ z, fun j x hj => ?_⟩
  obtain ⟨cs, h1, h2, h3⟩ := hcell j x hj
  exact ⟨cs, h1, h2, fun i v hi => by have := h3 i v hi; rwa [Addr.add_lit] at this⟩
set_option maxHeartbeats 2000000 in
theorem idx_vote {X : Type} (d : Kd X) (hsz : d.sz = 2) (p : X → Bool) (f bx : Nat) (eg : ∀ args w, (callFunc f args).run Tryd.prog w = .ok (.enter f args) w) (A : Option Addr) (c : Nat) (xs : List X) (w : World) (hC : d.C w A xs.length xs)
    (hp : ∀ (W : World) (x : X) (u0 u1 : Value), Below w.heap.size w W → d.K W x [u0, u1] → Calls Tryd.prog f #[.agg #[u0, u1], .pointer (some ⟨bx, 0, none⟩)] W fun e w' => e = .returned (.bool (p x)) ∧ Below W.heap.size W w') :
    Calls Tryd.prog 22 #[.slice A xs.length c, .func (.func f) #[] #[.pointer (some ⟨bx, 0, none⟩)]] w (IdxPost xs p w) := by
  have hbig : xs.length ≤ 9223372036854775807 := hC.2.1
  rcases Nat.eq_zero_or_pos xs.length with h0 | h0
  · obtain rfl : xs = [] := List.length_eq_zero_iff.1 h0
    clear hp hC
    go_enter Tryd.func22, Tryd.ntmps22
    go_wp2
    go_loopg [5, 8] 0 (fun _ _ s8 wr => s8 = .int .i64 0 ∧ wr = w)
    case atStart => exact ⟨rfl, rfl⟩
    case round =>
      obtain ⟨rfl, rfl⟩ := hrel
      go_wp2
      go_ret
      exact ⟨⟨-1, rfl, rfl⟩, Below.refl _ _⟩
  · obtain ⟨b, off, rfl, hb, hcell⟩ := row_at (by omega) hC h0
    have hrow : ∀ (W : World), Below w.heap.size w W → ∀ j x, xs[j]? = some x → ∃ u0 u1 : Value, d.K W x [u0, u1] ∧ W.cell? ⟨b, off + j * 2, none⟩ = some u0 ∧ W.cell? ⟨b, off + j * 2 + 1, none⟩ = some u1 := by
      intro W hW j x hj
      obtain ⟨cs, h1, h2, h3⟩ := hcell j x hj
      rw [hsz] at h1
      match cs, h1 with
      | [u0, u1], _ =>
        have hk := d.K_below hW h2
        have hcl : ∀ i v, [u0, u1][i]? = some v → W.cell? ⟨b, off + j * 2 + i, none⟩ = some v := fun i v hi => by
          rw [hW.cell (p := ⟨b, off + j * 2 + i, none⟩) hb]
          have := h3 i v hi
          rw [hsz] at this
          rw [Nat.add_assoc]
          exact this
        exact ⟨u0, u1, hk, hcl 0 _ rfl, hcl 1 _ rfl⟩
    clear hcell hC
    have HP := Lib.hid hp
    have HR := Lib.hid hrow
    clear hp hrow
    have HN := Lib.hid (rfl : xs.length = xs.length)
    generalize hn : xs.length = n at h0 hbig ⊢
    have HX := Lib.hid hn
    clear hn HN
    go_enter Tryd.func22, Tryd.ntmps22
    go_wp2
    go_loopg [5, 8] n (fun gg _ s8 wr => ∃ kk : Nat, kk ≤ n ∧ n - kk ≤ gg ∧ s8 = .int .i64 kk ∧ Hid (Below w.heap.size w wr) ∧ Hid (∀ j x, j < kk → xs[j]? = some x → p x = false))
    case atStart => exact ⟨0, Nat.zero_le _, by omega, rfl, Lib.hid (Below.refl _ w), Lib.hid (fun j x hj => absurd hj (Nat.not_lt_zero _))⟩
    case round =>
      obtain ⟨kk, hkk, hg, rfl, BW, AL⟩ := hrel
      by_cases hlt : kk < n
      · have hltz : (kk : Int) < (n : Int) := by omega
        have hx : xs[kk]? = some (xs[kk]'(by rw [HX.out]; exact hlt)) := List.getElem?_eq_getElem _
        generalize (xs[kk]'(by rw [HX.out]; exact hlt)) = x at hx
        obtain ⟨u0, u1, hK, l0, l1⟩ := HR.out wr BW.out kk x hx
        have hcall := HP.out wr x u0 u1 BW.out hK
        have HXK := Lib.hid hx
        clear hK hx
        cases hq : p x with
        | true =>
          rw [hq] at hcall
          have HQ := Lib.hid hq
          clear hq
          go_wp2_with (go_at_fn f; refine hcall.mono ?_; rintro e w' ⟨rfl, hb'⟩)
          go_ret
          exact ⟨⟨_, rfl, by rw [any_hit p xs kk x HXK.out HQ.out]; simp⟩, BW.out.trans (hb'.mono BW.out.size)⟩
        | false =>
          rw [hq] at hcall
          have HQ := Lib.hid hq
          clear hq
          go_wp2_with (go_at_fn f; refine hcall.mono ?_; rintro e w' ⟨rfl, hb'⟩)
          go_roundg (n - (kk + 1))
          case measure => omega
          case rel =>
            refine ⟨kk + 1, by omega, by omega, by go_num, Lib.hid (BW.out.trans (hb'.mono BW.out.size)), Lib.hid (fun j y hj hy => ?_)⟩
            by_cases e : j = kk
            · subst e
              rw [HXK.out] at hy
              cases hy
              exact HQ.out
            · exact AL.out j y (by omega) hy
      · have hltz : ¬ (kk : Int) < (n : Int) := by omega
        have : kk = n := by omega
        subst this
        go_wp2
        go_ret
        refine ⟨⟨-1, rfl, ?_⟩, BW.out⟩
        rw [any_miss p xs (fun j x hj hx => AL.out j x (by rw [← HX.out]; exact hj) hx)]
        rfl
set_option maxHeartbeats 2000000 in
theorem has_vote {X : Type} (d : Kd X) (hsz : d.sz = 2) (p : X → Bool) (f bx : Nat) (eg : ∀ args w, (callFunc f args).run Tryd.prog w = .ok (.enter f args) w) (A : Option Addr) (c : Nat) (xs : List X) (w : World) (hC : d.C w A xs.length xs)
    (hp : ∀ (W : World) (x : X) (u0 u1 : Value), Below w.heap.size w W → d.K W x [u0, u1] → Calls Tryd.prog f #[.agg #[u0, u1], .pointer (some ⟨bx, 0, none⟩)] W fun e w' => e = .returned (.bool (p x)) ∧ Below W.heap.size W w') :
    Calls Tryd.prog 15 #[.slice A xs.length c, .func (.func f) #[] #[.pointer (some ⟨bx, 0, none⟩)]] w fun e w' => e = .returned (.bool (xs.any p)) ∧ Below w.heap.size w w' := by
  have h := idx_vote d hsz p f bx eg A c xs w hC hp
  have HH := Lib.hid h
  clear h hp hC
  generalize xs.length = n at HH ⊢
  go_enter Tryd.func15, Tryd.ntmps15
  go_wp2_with fail
  refine HH.out.mono ?_
  rintro e w' ⟨⟨r, rfl, hr⟩, hb⟩
  have HB := Lib.hid hb
  have HRR := Lib.hid hr
  clear hb hr
  go_wp2
  go_ret
  refine ⟨?_, HB.out⟩
  rw [← HRR.out]
  rfl
theorem enters16 (args : Array Value) (w : World) : (callFunc 16 args).run Tryd.prog w = .ok (.enter 16 args) w := enters_of Tryd.func16 (by kernel_rfl) rfl args w
set_option maxHeartbeats 2000000 in
theorem on1_calls (W : World) (bx : Nat) (a x : Int) (s : ByteArray) (hx : W.cell? ⟨bx, 1, none⟩ = some (.int .i64 x)) :
    Calls Tryd.prog 16 #[.agg #[.int .i64 a, .string s], .pointer (some ⟨bx, 0, none⟩)] W fun e w' => e = .returned (.bool (a == x)) ∧ Below W.heap.size W w' := by
  have hb := World.block_lt_of_cell? _ _ hx
  have hne : bx ≠ W.heap.size := by have : bx < W.heap.size := hb; omega
  go_enter Tryd.func16, Tryd.ntmps16
  go_wp2
  go_ret
  exact ⟨rfl, (Below.refl _ W).alloc (Nat.le_refl _) _⟩
theorem said_calls (w : World) (A : Option Addr) (c : Nat) (vs : List S70) (bx : Nat) (x : Int) (hC : Kd.C k70 w A vs.length vs) (hx : w.cell? ⟨bx, 1, none⟩ = some (.int .i64 x)) :
    Calls Tryd.prog 15 #[.slice A vs.length c, .func (.func 16) #[] #[.pointer (some ⟨bx, 0, none⟩)]] w fun e w' => e = .returned (.bool (vs.any fun v => v.f0 == x)) ∧ Below w.heap.size w w' :=
  has_vote k70 rfl (fun v => v.f0 == x) _ bx enters16 A c vs w hC (fun W v u0 u1 hb hk => by
    have e := k70_open hk
    simp only [List.cons.injEq, and_true] at e
    obtain ⟨rfl, rfl⟩ := e
    exact on1_calls W bx v.f0 x v.f1 ((hb.cell (p := ⟨bx, 1, none⟩) (World.block_lt_of_cell? _ _ hx)).trans hx))
end Go.Proofs.YtlcfcaokihoplaaDoor.Cli
