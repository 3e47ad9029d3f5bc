-- Cut.
import Derived.Test.YtlcfcaokihoplaaGreatDoorRefQCp
namespace Go.Proofs.YtlcfcaokihoplaaGreatDoor.Cli
open Go.RowKit Go.Proofs.YtlcfcaokihoplaaGreatDoor.Ms Go.Proofs.YzW.PrintWords Go.Proofs.YzW.PrintLast Go.Proofs.YzW.PrintMore
attribute [local go_sem] Go.Proofs.YtlcfcaokihoplaaGreatDoor.Ms.eqlErr Go.Proofs.YtlcfcaokihoplaaGreatDoor.Ms.neqErr Go.Proofs.YtlcfcaokihoplaaGreatDoor.Ms.eqlErrNil Go.Proofs.YtlcfcaokihoplaaGreatDoor.Ms.neqErrNil
set_option linter.unusedVariables false
set_option linter.unusedSimpArgs false
theorem who_cnt (bd : ByteArray) : ∀ (vs : List S80) (acc : List Int), (vs.map fun v => v.f0).Nodup → (∀ v ∈ vs, v.f0 ∉ acc) → (CliP.whoL bd acc vs).length = acc.length + cntB (vs.map fun v => v.f1) bd
 | [], acc, _, _ => rfl
 | v :: l, acc, hn, ha => by
  rw [List.map_cons, List.nodup_cons] at hn
  have hl : ∀ u ∈ l, u.f0 ∉ acc := fun u hu => ha u (List.mem_cons_of_mem _ hu)
  have hv : v.f0 ∉ acc := ha v (List.mem_cons_self ..)
  have hc : acc.contains v.f0 = false := by simpa using hv
  rw [CliP.whoL, List.map_cons]
  by_cases hx : v.f1.toList = bd.toList
  ·rw [if_pos hx, hc, if_neg (by decide), who_cnt bd l _ hn.2 (fun u hu => by
    rw [List.mem_append, List.mem_singleton, not_or]
    exact ⟨hl u hu, fun e => hn.1 (by rw [← e]; exact List.mem_map_of_mem hu)⟩)]
   unfold cntB
   rw [List.filter_cons, if_pos (by simpa using hx)]
   simp
   omega
  ·rw [if_neg hx, who_cnt bd l acc hn.2 hl]
   unfold cntB
   rw [List.filter_cons, if_neg (by simpa using hx)]
theorem code_nil (w : World) : Calls Tryz.prog 12 #[.nilIface] w fun e w' => e = .returned (.int .i64 0) ∧ w = w' := by
 go_enter Tryz.func12, Tryz.ntmps12
 go_wp2
 go_ret
 exact ⟨rfl, rfl⟩
theorem code_some (w : World) (r : Int) (h1 : 1 ≤ r) (h2 : r ≤ 8) : Calls Tryz.prog 12 #[.iface 29 (.int .i64 r)] w fun e w' => e = .returned (.int .i64 r) ∧ w = w' := by
 go_enter Tryz.func12, Tryz.ntmps12
 go_wp2_with fail
 go_loopg [3] 8 (fun kq v3 w' => ∃ c : Int, v3 = .int .i64 c ∧ w' = w ∧ Hid (c = 9 - kq ∧ kq ≤ 8 ∧ c ≤ r))
 case atStart => exact ⟨1, rfl, rfl, Lib.hid ⟨by omega, by omega, h1⟩⟩
 case round =>
  obtain ⟨c, rfl, rfl, HI⟩ := hrel
  have h8 : decide (c ≤ 8) = true := decide_eq_true (by have := HI.out; omega)
  have hwc : wrap64 (c + 1) = c + 1 := by have := HI.out; unfold wrap64; omega
  by_cases hc : r = c
  ·subst hc
   clear hwc
   go_wp2
   go_ret
   exact ⟨rfl, rfl⟩
  ·cases gk with
   | zero => have := HI.out; omega
   | succ k1 =>
   have hb : (r == c) = false := by simpa using hc
   have HC := Lib.hid hc
   clear hc
   go_wp2_with fail
   go_roundg k1
   case measure => omega
   case rel => exact ⟨c + 1, by rw [hwc], rfl, Lib.hid (by have := HI.out; have := HC.out; omega)⟩
theorem sameP_nil (w : World) : Calls Tryz.prog 22 #[.slice none 0 0, .slice none 0 0] w fun e w' => e = .returned (.bool true) ∧ Below w.heap.size w w' := by
 go_enter Tryz.func22, Tryz.ntmps22
 go_wp2_with fail
 go_loopg [5] 0 (fun kq v3 w' => v3 = .int .i64 0 ∧ w' = w)
 case atStart => exact ⟨rfl, rfl⟩
 case round =>
  obtain ⟨rfl, rfl⟩ := hrel
  go_wp2
  go_ret
  exact ⟨rfl, Below.refl _ _⟩
set_option maxHeartbeats 4000000 in
theorem same_nil (w : World) (a b c d : Int) (s : ByteArray) : Calls Tryz.prog 11 #[.agg #[.int .i64 a, .int .i64 b, .int .i64 c, .int .i64 d, .string s, .slice none 0 0, .slice none 0 0], .agg #[.int .i64 a, .int .i64 b, .int .i64 c, .int .i64 d, .string s, .slice none 0 0, .slice none 0 0]] w fun e w' => e = .returned (.bool true) ∧ Below w.heap.size w w' := by
 go_enter Tryz.func11, Tryz.ntmps11
 go_wp2_with fail
 have hX1 := heap_alloc_new w (.cells #[.int .i64 a, .int .i64 b, .int .i64 c, .int .i64 d, .string s, .slice none 0 0, .slice none 0 0] 40)
 have hB1 : Below w.heap.size w (w.alloc (.cells #[.int .i64 a, .int .i64 b, .int .i64 c, .int .i64 d, .string s, .slice none 0 0, .slice none 0 0] 40)) := (Below.refl _ w).alloc (Nat.le_refl _) _
 have hs1 : (w.alloc (.cells #[.int .i64 a, .int .i64 b, .int .i64 c, .int .i64 d, .string s, .slice none 0 0, .slice none 0 0] 40)).heap.size = w.heap.size + 1 := by simp
 generalize w.alloc (.cells #[.int .i64 a, .int .i64 b, .int .i64 c, .int .i64 d, .string s, .slice none 0 0, .slice none 0 0] 40) = wa at hX1 hB1 hs1 ⊢
 have hX2 := heap_alloc_new wa (.cells #[.int .i64 a, .int .i64 b, .int .i64 c, .int .i64 d, .string s, .slice none 0 0, .slice none 0 0] 40)
 have hB2 : Below wa.heap.size wa (wa.alloc (.cells #[.int .i64 a, .int .i64 b, .int .i64 c, .int .i64 d, .string s, .slice none 0 0, .slice none 0 0] 40)) := (Below.refl _ wa).alloc (Nat.le_refl _) _
 generalize wa.alloc (.cells #[.int .i64 a, .int .i64 b, .int .i64 c, .int .i64 d, .string s, .slice none 0 0, .slice none 0 0] 40) = w1 at hX2 hB2 ⊢
 rw [hs1] at hX2
 have HX1 := Lib.hid (s_ hX1 hB2)
 have HX2 := Lib.hid hX2
 have HB1 := Lib.hid (hB1.trans (hB2.mono hB1.size))
 clear hX1 hX2 hB1 hB2 hs1
 refine (sameP_nil w1).mono ?_
 rintro e w2 ⟨rfl, hb2⟩
 have hx1 := s_ HX1.out hb2
 have hx2 := s_ HX2.out hb2
 have HB2 := Lib.hid (HB1.out.trans (hb2.mono HB1.out.size))
 have p5 : w2.cell? ⟨w.heap.size, 6, none⟩ = some (.slice none 0 0) := (b_ hx1 6).trans rfl
 have p6 : w2.cell? ⟨w.heap.size + 1, 6, none⟩ = some (.slice none 0 0) := (b_ hx2 6).trans rfl
 clear hx1 hx2 hb2 HX1 HX2 HB1
 go_wp2_with fail
 go_loopg [5] 0 (fun kq v3 w' => v3 = .int .i64 0 ∧ w' = w2)
 case atStart => exact ⟨rfl, rfl⟩
 case round =>
  obtain ⟨rfl, hwr⟩ := hrel
  subst hwr
  go_wp2
  go_ret
  exact ⟨rfl, HB2.out⟩
structure DG where
 what : Int
 kd : Int
 nm : ByteArray
 pt : ByteArray
 ks : List ByteArray
 n : Int
 m : MG
def DeedR (W : World) (d : DG) (cs : List Value) : Prop :=
 ∃ A0 c0 A1 c1 A2 c2, cs = [.int .i64 d.what, .int .i64 d.kd, .string d.nm, .string d.pt, .slice A0 d.ks.length c0, .int .i64 d.n, .int .i64 d.m.kd, .int .i64 d.m.fr, .int .i64 d.m.vw, .int .i64 d.m.sq, .string d.m.bd, .slice A1 d.m.ps.length c1, .slice A2 d.m.cs.length c2] ∧ (-9223372036854775808 ≤ d.what ∧ d.what ≤ 9223372036854775807) ∧
  (d.ks.length ≤ c0 ∧ Kd.C Kd.string W A0 d.ks.length d.ks) ∧ (d.m.ps.length ≤ c1 ∧ Kd.C k90 W A1 d.m.ps.length d.m.ps) ∧ (d.m.cs.length ≤ c2 ∧ Kd.C k69 W A2 d.m.cs.length d.m.cs)
theorem DeedR.below {W W' : World} {d : DG} {cs : List Value} (h : DeedR W d cs) (hb : Below W.heap.size W W') : DeedR W' d cs := by
 obtain ⟨A0, c0, A1, c1, A2, c2, h1, h2, h3, h4, h5⟩ := h
 exact ⟨A0, c0, A1, c1, A2, c2, h1, h2, ⟨h3.1, Kd.C_below h3.2 hb⟩, ⟨h4.1, Kd.C_below h4.2 hb⟩, ⟨h5.1, Kd.C_below h5.2 hb⟩⟩
def Deeds (W : World) (A : Option Addr) (n : Nat) (ds : List DG) : Prop := ch_ (DeedR W) 13 W A n ds
theorem Deeds.below {W W' : World} {A : Option Addr} {n : Nat} {ds : List DG} (h : Deeds W A n ds) (hb : Below W.heap.size W W') : Deeds W' A n ds :=
 ch_.imp_ h hb (fun _ _ h => h.below hb)
def deedCells (d : DG) (A0 : Option Addr) (c0 : Nat) (A1 : Option Addr) (c1 : Nat) (A2 : Option Addr) (c2 : Nat) : List Value := [.int .i64 d.what, .int .i64 d.kd, .string d.nm, .string d.pt, .slice A0 d.ks.length c0, .int .i64 d.n, .int .i64 d.m.kd, .int .i64 d.m.fr, .int .i64 d.m.vw, .int .i64 d.m.sq, .string d.m.bd, .slice A1 d.m.ps.length c1, .slice A2 d.m.cs.length c2]
theorem Deeds.get {W0 W : World} {A : Option Addr} {ds : List DG} (h : ch_ (DeedR W0) 13 W A ds.length ds) (i : Int) (h0 : 0 ≤ i) (h1 : i < ds.length) :
  ∃ ad, A = some ad ∧ ∃ (d : DG) (A0 : Option Addr) (c0 : Nat) (A1 : Option Addr) (c1 : Nat) (A2 : Option Addr) (c2 : Nat), (-9223372036854775808 ≤ d.what ∧ d.what ≤ 9223372036854775807) ∧
   (d.ks.length ≤ c0 ∧ Kd.C Kd.string W0 A0 d.ks.length d.ks) ∧ (d.m.ps.length ≤ c1 ∧ Kd.C k90 W0 A1 d.m.ps.length d.m.ps) ∧ (d.m.cs.length ≤ c2 ∧ Kd.C k69 W0 A2 d.m.cs.length d.m.cs) ∧
   W.cell? (ad.add (i.toNat * 13)) = some (.int .i64 d.what) ∧ ∀ j u, (deedCells d A0 c0 A1 c1 A2 c2)[j + 1]? = some u → W.cell? ⟨(ad.add (i.toNat * 13)).block, (ad.add (i.toNat * 13)).off + (j + 1), none⟩ = some u := by
 obtain ⟨ad, cs, e, hl, ⟨A0, c0, A1, c1, A2, c2, rfl, r1, r2, r3, r4⟩, hc⟩ := ch_.get_ h ⟨0, 0, ⟨#[]⟩, ⟨#[]⟩, [], 0, ⟨0, 0, 0, 0, ⟨#[]⟩, [], []⟩⟩ i h0 h1
 refine ⟨ad, e, _, A0, c0, A1, c1, A2, c2, r1, r2, r3, r4, hc 0 _ rfl, fun j u hj => ?_⟩
 rw [← hc (j + 1) u hj, ← Addr.add_add]
 rfl
theorem askErr_some {wt : Bool} {t er : Int} {may : Bool} (ht : t < 1000) (h : ef_ wt t may = some er) : (wt = true ∧ er = 6) ∨ (wt = false ∧ er = 1) := by
 unfold ef_ at h
 cases wt with
 | true => rw [if_pos rfl] at h; cases h; exact .inl ⟨rfl, rfl⟩
 | false =>
  rw [if_neg (by decide), if_neg (by omega)] at h
  cases may with
  | true => rw [if_pos rfl] at h; cases h
  | false => rw [if_neg (by decide)] at h; cases h; exact .inr ⟨rfl, rfl⟩
def Both (W : World) (gC gM : Nat) (S : Nat → Prop) (f id t : Int) (wt : Bool) (body : ByteArray) (vs : List S80) (t' : Int) (wt' : Bool) (body' : ByteArray) (fs : List Int) (ss : List ByteArray) : Prop :=
 ∃ okC okR : Nat → Prop, bq_ W gC okC gC f id t wt body vs ∧ dn_ W gM okR gM f id t' wt' body' fs ss ∧ (∀ k, okC k → S k ∧ k < W.heap.size) ∧ (∀ k, okR k → S k ∧ k < W.heap.size) ∧ (∀ k, okC k → ¬ okR k)
section
variable {W W' : World} {gC gM : Nat} {S S' T : Nat → Prop} {f id t t' : Int} {wt wt' : Bool} {body body' : ByteArray} {vs : List S80} {fs : List Int} {ss : List ByteArray}
theorem Both.below (h : Both W gC gM S f id t wt body vs t' wt' body' fs ss) (hb : Below W.heap.size W W') : Both W' gC gM S f id t wt body vs t' wt' body' fs ss := by
 obtain ⟨okC, okR, h1, h2, h3, h4, h5⟩ := h
 have := hb.size
 exact ⟨okC, okR, h1.below hb, h2.below hb, fun k hk => ⟨(h3 k hk).1, by have := (h3 k hk).2; omega⟩, fun k hk => ⟨(h4 k hk).1, by have := (h4 k hk).2; omega⟩, h5⟩
theorem Both.kept (h : Both W gC gM S f id t wt body vs t' wt' body' fs ss) (hk : bv_ W W' T) (hn : ∀ k, S k → ¬ T k) : Both W' gC gM S f id t wt body vs t' wt' body' fs ss := by
 obtain ⟨okC, okR, h1, h2, h3, h4, h5⟩ := h
 have := hk.1
 exact ⟨okC, okR, h1.kept hk (fun k q => hn k (h3 k q).1), h2.kept hk (fun k q => hn k (h4 k q).1), fun k hk => ⟨(h3 k hk).1, by have := (h3 k hk).2; omega⟩, fun k hk => ⟨(h4 k hk).1, by have := (h4 k hk).2; omega⟩, h5⟩
theorem Both.mono (h : Both W gC gM S f id t wt body vs t' wt' body' fs ss) (hs : ∀ k, S k → S' k) : Both W gC gM S' f id t wt body vs t' wt' body' fs ss := by
 obtain ⟨okC, okR, h1, h2, h3, h4, h5⟩ := h
 exact ⟨okC, okR, h1, h2, fun k hk => ⟨hs k (h3 k hk).1, (h3 k hk).2⟩, fun k hk => ⟨hs k (h4 k hk).1, (h4 k hk).2⟩, h5⟩
theorem Both.bound (h : Both W gC gM S f id t wt body vs t' wt' body' fs ss) : Both W gC gM (fun k => k < W.heap.size) f id t wt body vs t' wt' body' fs ss := by
 obtain ⟨okC, okR, h1, h2, h3, h4, h5⟩ := h
 exact ⟨okC, okR, h1, h2, fun k hk => ⟨(h3 k hk).2, (h3 k hk).2⟩, fun k hk => ⟨(h4 k hk).2, (h4 k hk).2⟩, h5⟩
theorem Both.c (h : Both W gC gM S f id t wt body vs t' wt' body' fs ss) : ∃ okC, bq_ W gC okC gC f id t wt body vs ∧ gC ≤ W.heap.size ∧ ∀ (W' : World) (t1 : Int) (wt1 : Bool) (body1 : ByteArray) (vs1 : List S80), dg_ W W' gC okC gC f id t1 wt1 body1 vs1 →
  Both W' gC gM (fun k => S k ∨ W.heap.size ≤ k) f id t1 wt1 body1 vs1 t' wt' body' fs ss ∧ bv_ W W' S ∧ Below gC W W' := by
 obtain ⟨okC, okR, h1, h2, h3, h4, h5⟩ := h
 have hg := h1.glt
 refine ⟨okC, h1, by omega, fun W' t1 wt1 body1 vs1 hto => ?_⟩
 obtain ⟨q1, q2, q3⟩ := hto
 have hsz := q2.1
 refine ⟨⟨_, okR, q1.bound, h2.kept q2 (fun k hk hc => h5 k hc hk), fun k hk => ⟨hk.1.elim (fun h => .inl (h3 k h).1) .inr, hk.2.2⟩, fun k hk => ⟨.inl (h4 k hk).1, by have := (h4 k hk).2; omega⟩, fun k hk hr => hk.1.elim (fun h => h5 k h hr) (fun h => by have := (h4 k hr).2; omega)⟩, q2.mono (fun k hk => (h3 k hk).1), q3⟩
theorem Both.m (h : Both W gC gM S f id t wt body vs t' wt' body' fs ss) : ∃ okR, dn_ W gM okR gM f id t' wt' body' fs ss ∧ gM ≤ W.heap.size ∧ ∀ (W' : World) (t1 : Int) (wt1 : Bool) (body1 : ByteArray) (fs1 : List Int) (ss1 : List ByteArray), RefTo W W' gM okR gM f id t1 wt1 body1 fs1 ss1 →
  Both W' gC gM (fun k => S k ∨ W.heap.size ≤ k) f id t wt body vs t1 wt1 body1 fs1 ss1 ∧ bv_ W W' S ∧ Below gM W W' := by
 obtain ⟨okC, okR, h1, h2, h3, h4, h5⟩ := h
 have hg := h2.glt
 refine ⟨okR, h2, by omega, fun W' t1 wt1 body1 fs1 ss1 hto => ?_⟩
 obtain ⟨q1, q2, q3⟩ := hto
 have hsz := q2.1
 refine ⟨⟨okC, _, h1.kept q2 (fun k hk hc => h5 k hk hc), q1.bound, fun k hk => ⟨.inl (h3 k hk).1, by have := (h3 k hk).2; omega⟩, fun k hk => ⟨hk.1.elim (fun h => .inl (h4 k h).1) .inr, hk.2.2⟩, fun k hc hk => hk.1.elim (fun h => h5 k hc h) (fun h => by have := (h3 k hc).2; omega)⟩, q2.mono (fun k hk => (h4 k hk).1), q3⟩
end
end Go.Proofs.YtlcfcaokihoplaaGreatDoor.Cli

namespace Go.Proofs.YtlcfcaokihoplaaGreatDoor.Cli
open Go.RowKit Go.Proofs.YtlcfcaokihoplaaGreatDoor.Ms Go.Proofs.YzW.PrintWords Go.Proofs.YzW.PrintLast Go.Proofs.YzW.PrintMore
attribute [local go_sem] Go.Proofs.YtlcfcaokihoplaaGreatDoor.Ms.eqlErr Go.Proofs.YtlcfcaokihoplaaGreatDoor.Ms.neqErr Go.Proofs.YtlcfcaokihoplaaGreatDoor.Ms.eqlErrNil Go.Proofs.YtlcfcaokihoplaaGreatDoor.Ms.neqErrNil
set_option linter.unusedVariables false
set_option linter.unusedSimpArgs false
def Good (bd : ByteArray) (c n : Int) (ns ks : List ByteArray) (es : List Mf.S107) : Prop :=
 Mf.msg_GetAnswer.f 300000 bd = some (c, n, ns, ks, es, none) ∧ Mf.becketref12_GetAnswer.f 300000 bd = some (c, n, ns, ks, es, true) ∧ ns.length ≤ 65536 ∧ ks.length ≤ 65536 ∧ es.length ≤ 65536 ∧ ∀ e ∈ es, e.f2.length ≤ 65536
def more (took : Bool) (vs : List S80) (fr : Int) (bd : ByteArray) : List S80 := if took = true then vs ++ [⟨fr, bd⟩] else vs
section
variable {w : World} {B : Nat} {ok : Nat → Prop} {g : Nat} {f id t : Int} {wt : Bool} {body : ByteArray} {vs : List S80} {kd fr vw sq : Int} {bd : ByteArray} {A6 : Option Addr} {n6 c6 : Nat} {A7 : Option Addr} {n7 c7 : Nat}
theorem client_OnF (h : bq_ w B ok g f id t wt body vs) (hBw : B ≤ w.heap.size) (hf : 1 ≤ f ∧ f ≤ 4) (hvs : vs.length ≤ 5000) (hbd : bd.size ≤ 100000000)
  (hno : ∀ c n ns ks es, eb_ f t wt vs kd fr sq = true → Good bd c n ns ks es → ((CliP.whoL bd [] (vs ++ [⟨fr, bd⟩])).length : Int) ≤ f) :
  Calls Tryz.prog 15 #[.pointer (some ⟨g, 0, none⟩), .agg #[.int .i64 kd, .int .i64 fr, .int .i64 vw, .int .i64 sq, .string bd, .slice A6 n6 c6, .slice A7 n7 c7]] w fun e w' => e = .returned (.tuple #[accZ, .bool false]) ∧ dg_ w w' B ok g f id t wt body (more (eb_ f t wt vs kd fr sq) vs fr bd) := by
 cases ht : eb_ f t wt vs kd fr sq with
 | false =>
  refine (client_On_no w B ok g f id t wt body vs h hf kd fr vw sq bd A6 n6 c6 A7 n7 c7 ht).mono ?_
  rintro e w' ⟨rfl, hb⟩
  exact ⟨rfl, dg_.of_below h hBw hb⟩
 | true =>
  obtain ⟨rfl, rfl, h1, h2, rfl, h3⟩ := onTake_yes ht
  have key : ∀ r1 r2 r3 r4 r5 r6, Mf.msg_GetAnswer.f 300000 bd = some (r1, r2, r3, r4, r5, r6) → (r6.isNone && decide (f < ((CliP.whoL bd [] (vs ++ [⟨fr, bd⟩])).length : Int))) = false →
    Calls Tryz.prog 15 #[.pointer (some ⟨g, 0, none⟩), .agg #[.int .i64 7, .int .i64 fr, .int .i64 vw, .int .i64 sq, .string bd, .slice A6 n6 c6, .slice A7 n7 c7]] w fun e w' => e = .returned (.tuple #[accZ, .bool false]) ∧ dg_ w w' B ok g f id sq true body (more true vs fr bd) := fun r1 r2 r3 r4 r5 r6 hg hq => by
   refine (client_On_yes w B ok g f id sq body vs h hf hvs fr vw bd A6 n6 c6 A7 n7 c7 ⟨h1, h2⟩ h3 300000 r1 r2 r3 r4 r5 r6 hg).mono ?_
   rintro e w' ⟨is, his, ⟨av, rfl, ha, _⟩, hc⟩
   rw [hq] at his
   subst his
   rw [ha rfl]
   exact ⟨rfl, hc⟩
  rcases MsgP.getans bd hbd 300000 (Nat.le_refl _) with ⟨hg, _⟩ | ⟨c, n, ns, ks, es, hg⟩
  ·exact key _ _ _ _ _ _ hg rfl
  ·refine key _ _ _ _ _ _ hg.1 ?_
   rw [decide_eq_false (by have := hno c n ns ks es ht hg; omega)]
   rfl
theorem ref_OnF (h : dn_ w B ok g f id t wt body (vs.map fun v => v.f0) (vs.map fun v => v.f1)) (hBw : B ≤ w.heap.size) (hf : 1 ≤ f ∧ f ≤ 4) (hvs : vs.length ≤ 5000) (hbd : bd.size ≤ 100000000)
  (hno : ∀ c n ns ks es, eb_ f t wt vs kd fr sq = true → Good bd c n ns ks es → (cntB ((vs.map fun v => v.f1) ++ [bd]) bd : Int) ≤ f) :
  Calls Tryz.prog 16 #[.pointer (some ⟨g, 0, none⟩), .agg #[.int .i64 kd, .int .i64 fr, .int .i64 vw, .int .i64 sq, .string bd, .slice A6 n6 c6, .slice A7 n7 c7]] w fun e w' => e = .returned (.tuple #[accZ, .bool false]) ∧
   RefTo w w' B ok g f id t wt body ((more (eb_ f t wt vs kd fr sq) vs fr bd).map fun v => v.f0) ((more (eb_ f t wt vs kd fr sq) vs fr bd).map fun v => v.f1) := by
 cases ht : eb_ f t wt vs kd fr sq with
 | false =>
  refine (ref_On_no w B ok g f id t wt body _ _ h hf kd fr vw sq bd A6 n6 c6 A7 n7 c7 (by rw [refTake_eq]; exact ht)).mono ?_
  rintro e w' ⟨rfl, hb⟩
  exact ⟨rfl, RefTo.of_below h hBw hb⟩
 | true =>
  obtain ⟨rfl, rfl, h1, h2, rfl, h3⟩ := onTake_yes ht
  have h4 : fr ∉ vs.map fun v => v.f0 := fun hm => by
   rw [← cont_any] at h3
   simp at h3
   obtain ⟨v, hv, he⟩ := List.mem_map.1 hm
   exact h3 v hv he
  have key : ∀ r1 r2 r3 r4 r5 r6, Mf.becketref12_GetAnswer.f 300000 bd = some (r1, r2, r3, r4, r5, r6) → (r6 && decide (f < (cntB ((vs.map fun v => v.f1) ++ [bd]) bd : Int))) = false →
    Calls Tryz.prog 16 #[.pointer (some ⟨g, 0, none⟩), .agg #[.int .i64 7, .int .i64 fr, .int .i64 vw, .int .i64 sq, .string bd, .slice A6 n6 c6, .slice A7 n7 c7]] w fun e w' => e = .returned (.tuple #[accZ, .bool false]) ∧ RefTo w w' B ok g f id sq true body ((more true vs fr bd).map fun v => v.f0) ((more true vs fr bd).map fun v => v.f1) := fun r1 r2 r3 r4 r5 r6 hg hq => by
   refine (ref_On_yes w B ok g f id sq body _ _ h hf (by simpa using hvs) (by simpa using hvs) fr vw bd A6 n6 c6 A7 n7 c7 ⟨h1, h2⟩ h4 300000 r1 r2 r3 r4 r5 r6 hg).mono ?_
   rintro e w' ⟨is, his, ⟨av, rfl, ha, _⟩, hc⟩
   rw [hq] at his
   subst his
   rw [ha rfl]
   refine ⟨rfl, ?_⟩
   unfold more
   rw [if_pos rfl, List.map_append, List.map_append]
   exact hc
  rcases MsgP.getans bd hbd 300000 (Nat.le_refl _) with ⟨_, hg⟩ | ⟨c, n, ns, ks, es, hg⟩
  ·exact key _ _ _ _ _ _ hg rfl
  ·refine key _ _ _ _ _ _ hg.2.1 ?_
   rw [decide_eq_false (by have := hno c n ns ks es ht hg; omega)]
   rfl
def AccR (W : World) (base : Nat) (id t c n : Int) (ns ks : List ByteArray) (es : List Mf.S107) (av : Value) : Prop :=
 ∃ (A2 : Option Addr) (d2 : Nat) (A3 : Option Addr) (d3 : Nat) (A4 : Option Addr) (d4 : Nat), av = .agg #[.int .i64 id, .int .i64 t, .int .i64 c, .int .i64 n, .slice A2 ns.length d2, .slice A3 ks.length d3, .slice A4 es.length d4] ∧
  (ns.length ≤ d2 ∧ Kd.R Kd.string 9 W base (fun _ => True) (.slice A2 ns.length d2) ns) ∧ (ks.length ≤ d3 ∧ Kd.R Kd.string 9 W base (fun _ => True) (.slice A3 ks.length d3) ks) ∧ (es.length ≤ d4 ∧ Kd.S Mf.k107 107 W base (fun _ => True) (.slice A4 es.length d4) es)
theorem client_OnT (h : bq_ w B ok g f id t wt body vs) (hf : 1 ≤ f ∧ f ≤ 4) (hvs : vs.length ≤ 5000) (ht : eb_ f t wt vs kd fr sq = true) {c n : Int} {ns ks : List ByteArray} {es : List Mf.S107} (hg : Good bd c n ns ks es) (hq : f < ((CliP.whoL bd [] (vs ++ [⟨fr, bd⟩])).length : Int)) :
  Calls Tryz.prog 15 #[.pointer (some ⟨g, 0, none⟩), .agg #[.int .i64 kd, .int .i64 fr, .int .i64 vw, .int .i64 sq, .string bd, .slice A6 n6 c6, .slice A7 n7 c7]] w fun e w' => ∃ av, e = .returned (.tuple #[av, .bool true]) ∧ AccR w' w.heap.size id t c n ns ks es av ∧ dg_ w w' B ok g f id t false body (vs ++ [⟨fr, bd⟩]) := by
 obtain ⟨rfl, rfl, h1, h2, rfl, h3⟩ := onTake_yes ht
 refine (client_On_yes w B ok g f id sq body vs h hf hvs fr vw bd A6 n6 c6 A7 n7 c7 ⟨h1, h2⟩ h3 300000 c n ns ks es none hg.1).mono ?_
 rintro e w' ⟨is, his, ⟨av, rfl, _, hb⟩, hc⟩
 rw [decide_eq_true hq] at his
 obtain rfl : is = true := his
 obtain ⟨v2, v3, v4, rfl, q2, q3, q4⟩ := hb rfl
 obtain ⟨A2, d2, rfl⟩ := Kd.R_slice q2
 obtain ⟨A3, d3, rfl⟩ := Kd.R_slice q3
 obtain ⟨A4, d4, rfl⟩ := Kd.S_slice q4
 exact ⟨_, rfl, ⟨A2, d2, A3, d3, A4, d4, rfl, ⟨(Kd.R_reads' q2).2.1, Kd.R_mono q2 (fun _ _ => trivial)⟩, ⟨(Kd.R_reads' q3).2.1, Kd.R_mono q3 (fun _ _ => trivial)⟩, ⟨(Kd.S_reads' q4).2.1, Kd.S_mono q4 (fun _ _ => trivial)⟩⟩, hc⟩
theorem ref_OnT (h : dn_ w B ok g f id t wt body (vs.map fun v => v.f0) (vs.map fun v => v.f1)) (hf : 1 ≤ f ∧ f ≤ 4) (hvs : vs.length ≤ 5000) (ht : eb_ f t wt vs kd fr sq = true) {c n : Int} {ns ks : List ByteArray} {es : List Mf.S107} (hg : Good bd c n ns ks es) (hq : f < (cntB ((vs.map fun v => v.f1) ++ [bd]) bd : Int)) :
  Calls Tryz.prog 16 #[.pointer (some ⟨g, 0, none⟩), .agg #[.int .i64 kd, .int .i64 fr, .int .i64 vw, .int .i64 sq, .string bd, .slice A6 n6 c6, .slice A7 n7 c7]] w fun e w' => ∃ av, e = .returned (.tuple #[av, .bool true]) ∧ AccR w' w.heap.size id t c n ns ks es av ∧
   RefTo w w' B ok g f id t false body ((vs ++ [(⟨fr, bd⟩ : S80)]).map fun v => v.f0) ((vs ++ [(⟨fr, bd⟩ : S80)]).map fun v => v.f1) := by
 obtain ⟨rfl, rfl, h1, h2, rfl, h3⟩ := onTake_yes ht
 have h4 : fr ∉ vs.map fun v => v.f0 := fun hm => by
  simp at h3
  obtain ⟨v, hv, he⟩ := List.mem_map.1 hm
  exact h3 v hv he
 refine (ref_On_yes w B ok g f id sq body _ _ h hf (by simpa using hvs) (by simpa using hvs) fr vw bd A6 n6 c6 A7 n7 c7 ⟨h1, h2⟩ h4 300000 c n ns ks es true hg.2.1).mono ?_
 rintro e w' ⟨is, his, ⟨av, rfl, _, hb⟩, hc⟩
 rw [decide_eq_true hq] at his
 obtain rfl : is = true := his
 obtain ⟨v2, v3, v4, rfl, q2, q3, q4⟩ := hb rfl
 obtain ⟨A2, d2, rfl⟩ := Kd.R_slice q2
 obtain ⟨A3, d3, rfl⟩ := Kd.R_slice q3
 obtain ⟨A4, d4, rfl⟩ := Kd.S_slice q4
 refine ⟨_, rfl, ⟨A2, d2, A3, d3, A4, d4, rfl, ⟨(Kd.R_reads' q2).2.1, Kd.R_mono q2 (fun _ _ => trivial)⟩, ⟨(Kd.R_reads' q3).2.1, Kd.R_mono q3 (fun _ _ => trivial)⟩, ⟨(Kd.S_reads' q4).2.1, Kd.S_mono q4 (fun _ _ => trivial)⟩⟩, ?_⟩
 rw [List.map_append, List.map_append]
 exact hc
end
theorem nodup_more {vs : List S80} {fr : Int} {bd : ByteArray} (h : (vs.map fun v => v.f0).Nodup) (hn : (vs.any fun v => v.f0 == fr) = false) : ((vs ++ [(⟨fr, bd⟩ : S80)]).map fun v => v.f0).Nodup := by
 rw [List.map_append, List.nodup_append]
 refine ⟨h, by simp, fun a ha b hb e => ?_⟩
 rw [List.map_cons, List.map_nil, List.mem_singleton] at hb
 subst hb e
 obtain ⟨v, hv, he⟩ := List.mem_map.1 ha
 simp at hn
 exact hn v hv he
end Go.Proofs.YtlcfcaokihoplaaGreatDoor.Cli
