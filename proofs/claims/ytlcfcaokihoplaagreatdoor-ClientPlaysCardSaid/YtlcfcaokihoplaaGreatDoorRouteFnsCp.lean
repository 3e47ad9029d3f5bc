-- Cut.
import Derived.Test.YtlcfcaokihoplaaGreatDoorProg
import Derived.Test.YtlcfcaokihoplaaGreatDoorOpenStrsCp
import Derived.Test.YtlcfcaokihoplaaGreatDoorSplitCp
import Derived.WalkSpells
import Derived.Shelf.Strings.Split
import Derived.Shelf.SlicesQ.IndexFunc
import Derived.Laws.RangeAny
import Derived.Lib.Hide
import Derived.WalkKit
import Derived.BigRegion
import Derived.BigCall
namespace Go.Proofs.YtlcfcaokihoplaaGreatDoor.Route
open Go.RowKit Go.Proofs.YzW.PrintWords Go.Proofs.YzW.PrintLast Go.Proofs.YzW.PrintMore
set_option linter.unusedVariables false
set_option linter.unusedSimpArgs false
def runeOk (r : Nat) : Bool := (decide (97 ≤ r) && decide (r ≤ 122)) || (decide (48 ≤ r) && decide (r ≤ 57)) || r == 95 || r == 45 || r == 46 || (decide (128 ≤ r) && r != 65533)
def bt_ (s : ByteArray) : Nat → Nat → Option Nat
 | 0, _ => some 0
 | b + 1, pos => if pos < s.size then (if runeOk (Utf8.decode s pos).1 = true then (bt_ s b (pos + (Utf8.decode s pos).2)).map (· + 1) else none) else some 0
def dy_ (s : ByteArray) : Bool := match bt_ s s.size 0 with
 | none => false
 | some n => decide (1 ≤ n) && decide (n ≤ 16) && (s.toList != [46]) && (s.toList != [46, 46])
theorem width_pos (s : ByteArray) (pos : Nat) (h : pos < s.size) : 1 ≤ (Utf8.decode s pos).2 := by
 by_cases ha : (s[pos]'h).toNat < 128
 ·rw [decode_ascii s pos h ha]
  exact Nat.le_refl _
 ·exact (decode_high s pos h (by omega)).2
theorem width_le (s : ByteArray) (pos : Nat) : (Utf8.decode s pos).2 ≤ 4 := by
 simp only [Utf8.decode]
 repeat' split
 all_goals simp_all
theorem runesFrom_end (s : ByteArray) (b pos : Nat) (h : ¬ pos < s.size) : bt_ s b pos = some 0 := by
 cases b with
 | zero => rfl
 | succ b => simp [bt_, h]
theorem may_calls (r : Nat) (w : World) (hr : r ≤ 2147483647) : Calls Tryz.prog 96 #[.int .i32 (r : Int)] w fun e w' => e = .returned (.bool (runeOk r)) ∧ w' = w := by
 have k1 : ∀ r : Nat, decide ((97 : Int) ≤ (r : Int)) = decide (97 ≤ r) := fun r => by by_cases h : 97 ≤ r <;> simp [h] <;> omega
 have k2 : ∀ r : Nat, decide ((r : Int) ≤ 122) = decide (r ≤ 122) := fun r => by by_cases h : r ≤ 122 <;> simp [h] <;> omega
 have k3 : ∀ r : Nat, decide ((48 : Int) ≤ (r : Int)) = decide (48 ≤ r) := fun r => by by_cases h : 48 ≤ r <;> simp [h] <;> omega
 have k4 : ∀ r : Nat, decide ((r : Int) ≤ 57) = decide (r ≤ 57) := fun r => by by_cases h : r ≤ 57 <;> simp [h] <;> omega
 have k5 : ∀ r : Nat, decide ((128 : Int) ≤ (r : Int)) = decide (128 ≤ r) := fun r => by by_cases h : 128 ≤ r <;> simp [h] <;> omega
 have q : ∀ (r n : Nat), ((r : Int) == (n : Int)) = (r == n) := fun r n => by
  by_cases h : r = n
  ·subst h; simp
  ·rw [beq_eq_false_iff_ne.2 h, beq_eq_false_iff_ne.2 (by omega)]
 have q1 : ((r : Int) == 95) = (r == 95) := q r 95
 have q2 : ((r : Int) == 45) = (r == 45) := q r 45
 have q3 : ((r : Int) == 46) = (r == 46) := q r 46
 have q4 : ((r : Int) != 65533) = (r != 65533) := congrArg not (q r 65533)
 have c1 := k1 r; have c2 := k2 r; have c3 := k3 r; have c4 := k4 r; have c5 := k5 r
 clear k1 k2 k3 k4 k5 q
 have R : runeOk r = ((decide (97 ≤ r) && decide (r ≤ 122)) || (decide (48 ≤ r) && decide (r ≤ 57)) || r == 95 || r == 45 || r == 46 || (decide (128 ≤ r) && r != 65533)) := rfl
 generalize decide (97 ≤ r) = b1 at c1 R
 generalize decide (r ≤ 122) = b2 at c2 R
 generalize decide (48 ≤ r) = b3 at c3 R
 generalize decide (r ≤ 57) = b4 at c4 R
 generalize (r == 95) = b5 at q1 R
 generalize (r == 45) = b6 at q2 R
 generalize (r == 46) = b7 at q3 R
 generalize decide (128 ≤ r) = b8 at c5 R
 generalize (r != 65533) = b9 at q4 R
 generalize runeOk r = b at R
 have R := Lib.hid R
 go_enter Tryz.func96, Tryz.ntmps96
 cases b1 with
 | true =>
  cases b2 with
  | true => (go_wp2; go_ret; exact ⟨by rw [R.out]; simp, rfl⟩)
  | false =>
   cases b3 with
   | true =>
    cases b4 with
    | true => (go_wp2; go_ret; exact ⟨by rw [R.out]; simp, rfl⟩)
    | false =>
     cases b5 with
     | true => (go_wp2; go_ret; exact ⟨by rw [R.out]; simp, rfl⟩)
     | false => cases b6 with
      | true => (go_wp2; go_ret; exact ⟨by rw [R.out]; simp, rfl⟩)
      | false => cases b7 with
       | true => (go_wp2; go_ret; exact ⟨by rw [R.out]; simp, rfl⟩)
       | false => cases b8 with
        | false => (go_wp2; go_ret; exact ⟨by rw [R.out]; simp, rfl⟩)
        | true => cases b9 <;> (go_wp2; go_ret; exact ⟨by rw [R.out]; simp, rfl⟩)
   | false =>
     cases b5 with
     | true => (go_wp2; go_ret; exact ⟨by rw [R.out]; simp, rfl⟩)
     | false => cases b6 with
      | true => (go_wp2; go_ret; exact ⟨by rw [R.out]; simp, rfl⟩)
      | false => cases b7 with
       | true => (go_wp2; go_ret; exact ⟨by rw [R.out]; simp, rfl⟩)
       | false => cases b8 with
        | false => (go_wp2; go_ret; exact ⟨by rw [R.out]; simp, rfl⟩)
        | true => cases b9 <;> (go_wp2; go_ret; exact ⟨by rw [R.out]; simp, rfl⟩)
 | false =>
   cases b3 with
   | true =>
    cases b4 with
    | true => (go_wp2; go_ret; exact ⟨by rw [R.out]; simp, rfl⟩)
    | false =>
     cases b5 with
     | true => (go_wp2; go_ret; exact ⟨by rw [R.out]; simp, rfl⟩)
     | false => cases b6 with
      | true => (go_wp2; go_ret; exact ⟨by rw [R.out]; simp, rfl⟩)
      | false => cases b7 with
       | true => (go_wp2; go_ret; exact ⟨by rw [R.out]; simp, rfl⟩)
       | false => cases b8 with
        | false => (go_wp2; go_ret; exact ⟨by rw [R.out]; simp, rfl⟩)
        | true => cases b9 <;> (go_wp2; go_ret; exact ⟨by rw [R.out]; simp, rfl⟩)
   | false =>
     cases b5 with
     | true => (go_wp2; go_ret; exact ⟨by rw [R.out]; simp, rfl⟩)
     | false => cases b6 with
      | true => (go_wp2; go_ret; exact ⟨by rw [R.out]; simp, rfl⟩)
      | false => cases b7 with
       | true => (go_wp2; go_ret; exact ⟨by rw [R.out]; simp, rfl⟩)
       | false => cases b8 with
        | false => (go_wp2; go_ret; exact ⟨by rw [R.out]; simp, rfl⟩)
        | true => cases b9 <;> (go_wp2; go_ret; exact ⟨by rw [R.out]; simp, rfl⟩)
set_option maxRecDepth 1000000 in
set_option maxHeartbeats 4000000 in
theorem part_calls (s : ByteArray) (hs : s.size ≤ 1099511627776) (w : World) :
  Calls Tryz.prog 87 #[.string s] w fun e w' => e = .returned (.bool (dy_ s)) ∧ Below w.heap.size w w' := by
 go_enter Tryz.func87, Tryz.ntmps87
 go_wp2
 go_loopw [3] (fun n w' => ∃ (pos b : Nat) (acc : Nat), w' = w.iter s pos ∧ n = .int .i64 (acc : Int) ∧ Aside (acc ≤ pos) ∧ Aside (pos ≤ s.size + 4) ∧ Aside ((bt_ s b pos).map (· + acc) = bt_ s s.size 0) ∧ Aside (s.size ≤ pos + b)) (fun _ w' => s.size - w'.iterPos w.heap.size)
 case atStart => exact ⟨0, s.size, 0, rfl, rfl, Nat.le_refl _, Nat.zero_le _, (by show (bt_ s s.size 0).map (· + 0) = _; cases bt_ s s.size 0 <;> rfl), (by show s.size ≤ 0 + s.size; omega)⟩
 case round =>
  obtain ⟨pos, b, acc, rfl, rfl, ha, hps, hc, hb⟩ := hrel
  by_cases hp : pos < s.size
  ·have hnx : ∀ ty, (Instr.next (.pointer (some ⟨w.heap.size, 0, none⟩)) true ty).run Tryz.prog (w.iter s pos) = _ := fun ty => run_next_any w s pos ty hp
   have hdl := decode_le s pos
   have hmay := fun W => may_calls (Utf8.decode s pos).1 W hdl
   have hwd := width_pos s pos hp
   obtain ⟨b, rfl⟩ : ∃ b', b = b' + 1 := ⟨b - 1, by have := hb.out; omega⟩
   have hstep : bt_ s (b + 1) pos = (if runeOk (Utf8.decode s pos).1 = true then (bt_ s b (pos + (Utf8.decode s pos).2)).map (· + 1) else none) := by
    conv => lhs; unfold bt_
    rw [if_pos hp]
   cases hk : runeOk (Utf8.decode s pos).1 with
   | true =>
    rw [hk] at hmay hstep
    have hstep := Lib.hid hstep
    have hmay := Lib.hid hmay
    go_wp2_with fail
    refine (hmay.out _).mono ?_
    rintro e w' ⟨rfl, rfl⟩
    go_wp2
    go_roundw
    case rel =>
     refine ⟨pos + (Utf8.decode s pos).2, b, acc + 1, rfl, ?_, (show _ ≤ _ from by have := ha.out; omega), (show _ ≤ _ from by have := width_le s pos; omega), (show _ = _ from ?_), (show _ ≤ _ from by have := hb.out; omega)⟩
     ·have h1 := ha.out
      have h2 := hps.out
      have h3 : wrap64 ((acc : Int) + 1) = ((acc + 1 : Nat) : Int) := by unfold wrap64; omega
      simp only [h3]
     ·have := hc.out
      rw [hstep.out, if_pos trivial] at this
      rw [← this]
      cases bt_ s b (pos + (Utf8.decode s pos).2) with
      | none => rfl
      | some n => simp; omega
    case measure =>
     simp
     omega
   | false =>
    rw [hk] at hmay hstep
    have hstep := Lib.hid hstep
    have hmay := Lib.hid hmay
    go_wp2_with fail
    refine (hmay.out _).mono ?_
    rintro e w' ⟨rfl, rfl⟩
    go_wp2
    go_ret
    refine ⟨?_, (Below.refl _ w).alloc (Nat.le_refl _) _⟩
    have := hc.out
    rw [hstep.out, if_neg (by simp)] at this
    unfold dy_
    rw [← this]
    rfl
  ·have hnx : ∀ ty, (Instr.next (.pointer (some ⟨w.heap.size, 0, none⟩)) true ty).run Tryz.prog (w.iter s pos) = _ := fun ty => run_next_end w s pos ty hp
   have hcc := hc.out
   rw [runesFrom_end s b pos hp] at hcc
   have hpart : dy_ s = (decide (1 ≤ acc) && decide (acc ≤ 16) && (s.toList != [46]) && (s.toList != [46, 46])) := by
    unfold dy_
    rw [← hcc]
    simp
   clear hcc
   have i1 : decide ((1 : Int) ≤ (acc : Int)) = decide (1 ≤ acc) := by by_cases h : 1 ≤ acc <;> simp [h] <;> omega
   have i2 : decide ((acc : Int) ≤ 16) = decide (acc ≤ 16) := by by_cases h : acc ≤ 16 <;> simp [h] <;> omega
   generalize decide (1 ≤ acc) = d1 at i1 hpart
   generalize decide (acc ≤ 16) = d2 at i2 hpart
   have hP := Lib.hid hpart
   clear hpart
   cases d1 with
   | false => (go_wp2; go_ret; exact ⟨by rw [hP.out]; rfl, (Below.refl _ w).alloc (Nat.le_refl _) _⟩)
   | true => cases d2 with
    | false => (go_wp2; go_ret; exact ⟨by rw [hP.out]; rfl, (Below.refl _ w).alloc (Nat.le_refl _) _⟩)
    | true =>
     by_cases e3 : s.toList = [46]
     ·have e3b : (s.toList == [46]) = true := beq_iff_eq.2 e3
      have hQ : Hid (dy_ s = false) := Lib.hid (by rw [hP.out]; simp [e3])
      clear e3 hP
      go_wp2
      go_ret
      exact ⟨by rw [hQ.out]; rfl, (Below.refl _ w).alloc (Nat.le_refl _) _⟩
     ·have e3b : (s.toList == [46]) = false := beq_eq_false_iff_ne.2 e3
      by_cases e4 : s.toList = [46, 46]
      ·have e4b : (s.toList == [46, 46]) = true := beq_iff_eq.2 e4
       have hQ : Hid (dy_ s = false) := Lib.hid (by rw [hP.out]; simp [e4])
       clear e3 e4 hP
       go_wp2
       go_ret
       exact ⟨by rw [hQ.out]; rfl, (Below.refl _ w).alloc (Nat.le_refl _) _⟩
      ·have e4b : (s.toList == [46, 46]) = false := beq_eq_false_iff_ne.2 e4
       have hQ : Hid (dy_ s = true) := Lib.hid (by rw [hP.out]; simp [e3, e4])
       clear e3 e4 hP
       go_wp2
       go_ret
       exact ⟨by rw [hQ.out]; rfl, (Below.refl _ w).alloc (Nat.le_refl _) _⟩
section
open Go.Shelf Go.Lib
set_option maxHeartbeats 1000000 in
theorem split_one {P : Program} {ρ : Ren} (L : Lays.n146 P ρ) (hi9 : (P.info? (ρ.t 9)).map (fun i => (i.zero, i.size, i.bytes)) = some (some (.string ByteArray.empty), 1, 16)) (s : ByteArray) (x : UInt8) (w : World)
  (hs : s.size < 4294967281) :
  Calls P (ρ.f 146) #[.string s, .string ⟨#[x]⟩] w fun e w' =>
   e = .returned (.slice (some ⟨w.heap.size, 0, none⟩) (Lib.countB s ⟨#[x]⟩ + 1) (Lib.countB s ⟨#[x]⟩ + 1)) ∧ w' = w.alloc (.cells ((Lib.splitB ⟨#[x]⟩ 0 (Lib.countB s ⟨#[x]⟩) s).map Value.string).toArray (ρ.t 9)) := by
 have h1 : 1 ≤ (⟨#[x]⟩ : ByteArray).size := Nat.le_refl _
 have hle := Lib.countB_le ⟨#[x]⟩ h1 s.size s (Nat.le_refl _)
 have hlen := Lib.splitB_all ⟨#[x]⟩ h1 0 _ s rfl
 have hC : ∀ w : World, Calls P (ρ.f 138) #[.string s, .string ⟨#[x]⟩] w fun e w' => e = .returned (.int .i64 (Lib.countB s ⟨#[x]⟩)) ∧ w' = w := fun w => by
  refine (Any.strings_Count_one { L with } s x w).mono fun e w' ⟨he, hw⟩ => ⟨?_, hw⟩
  rw [he]
  show _ = Ending.returned (Value.int .i64 ((Lib.count s.data.toList [x] : Nat) : Int))
  rw [Lib.count_one]
  rfl
 have hI : ∀ (y : ByteArray) (w : World), Calls P (ρ.f 143) #[.string y, .string ⟨#[x]⟩] w fun e w' => e = .returned (.int .i64 (Lib.indexB y ⟨#[x]⟩)) ∧ w' = w := fun y w => by
  refine (Any.strings_Index_one { L with } y x w).mono fun e w' ⟨he, hw⟩ => ⟨?_, hw⟩
  rw [he]
  show _ = Ending.returned (Value.int .i64 (Lib.index y.data.toList [x]))
  rw [Lib.index_one]
 have c := Any.strings_genSplit_core { L with } hi9 s ⟨#[x]⟩ 0 (-1) (Lib.countB s ⟨#[x]⟩ + 1) w hs h1 (Nat.zero_le _) (fun y c _ => hI y _) (hC w) (by decide) (by decide) (by rw [if_pos (by decide)]; omega)
 rw [Nat.add_sub_cancel, hlen] at c
 have e2 : Lib.cellsOf (Lib.splitB ⟨#[x]⟩ 0 (Lib.countB s ⟨#[x]⟩) s) (Lib.countB s ⟨#[x]⟩ + 1) = ((Lib.splitB ⟨#[x]⟩ 0 (Lib.countB s ⟨#[x]⟩) s).map Value.string).toArray := by rw [← hlen]; exact Lib.cellsOf_full _
 rw [e2] at c
 have t3 := L.t3; have t9 := L.t9; have t31 := L.t31
 have a3 := L.a3; have a9 := L.a9; have a31 := L.a31
 have z3 := L.z3; have v3 := L.v3; have z9 := L.z9; have v9 := L.v9; have z31 := L.z31; have v31 := L.v31
 have e221 : ∀ args w, (callFunc (ρ.f 221) args).run P w = .ok (.enter (ρ.f 221) args) w := enters_of L.f221 (by kernel_rfl) rfl
 go_enter L.f146, Body.n146_ntmps ρ
 go_wp2_with (go_at_fn (ρ.f 221); refine c.mono ?_; rintro e w' ⟨rfl, hw⟩; rw [hw])
 go_ret
 exact ⟨rfl, rfl⟩
end
def dp_ (s : ByteArray) : List ByteArray := Lib.splitB ⟨#[47]⟩ 0 (Lib.countB s ⟨#[47]⟩) s
theorem pieces_len (s : ByteArray) : (dp_ s).length = Lib.countB s ⟨#[47]⟩ + 1 := Lib.splitB_all ⟨#[47]⟩ (Nat.le_refl _) 0 _ s rfl
theorem pieces_size (s : ByteArray) : ∀ x ∈ dp_ s, x.size ≤ s.size := by
 unfold dp_
 generalize Lib.countB s ⟨#[47]⟩ = k
 induction k generalizing s with
 | zero =>
  intro x hx
  have : x = s := by simpa [Lib.splitB] using hx
  subst this; omega
 | succ k ih =>
  intro x hx
  unfold Lib.splitB at hx
  split at hx
  ·have : x = s := by simpa using hx
   subst this; omega
  ·rcases List.mem_cons.1 hx with e | e
   ·subst e; simp; omega
   ·have := ih _ x e
    simp at this; omega
theorem split_calls (s : ByteArray) (w : World) (hs : s.size < 4294967281) : Calls Tryz.prog 85 #[.string s, .string ⟨#[47]⟩] w fun e w' =>
  e = .returned (.slice (some ⟨w.heap.size, 0, none⟩) (dp_ s).length (dp_ s).length) ∧ w' = w.alloc (.cells ((dp_ s).map Value.string).toArray 9) := by
 rw [pieces_len]
 exact split_one Tryz.lays146 (by kernel_rfl) s 47 w hs
set_option maxHeartbeats 2000000 in
theorem idx_calls (g : Nat) (p : ByteArray → Bool) (eg : ∀ args w, (callFunc g args).run Tryz.prog w = .ok (.enter g args) w) (b off c : Nat) (zs : List ByteArray) (w : World)
  (hp : ∀ (W : World) (x : ByteArray), x ∈ zs → Below w.heap.size w W → Calls Tryz.prog g #[.string x] W fun e w' => e = .returned (.bool (p x)) ∧ Below w.heap.size w w')
  (hbig : zs.length ≤ 9223372036854775807) (hb : b < w.heap.size) (hc : ∀ j, j < zs.length → w.cell? ⟨b, off + j, none⟩ = some (.string zs[j]!)) :
  Calls Tryz.prog 83 #[.slice (some ⟨b, off, none⟩) zs.length c, .func (.func g) #[] #[]] w fun e w' => e = .returned (.int .i64 (Lib.idxBy (fun _ y => p y) zs default)) ∧ Below w.heap.size w w' := by
 have hrow : ∀ (W : World), Below w.heap.size w W → ∀ j, j < zs.length → W.cell? ⟨b, off + j, none⟩ = some (.string zs[j]!) := fun W hW j hj => by
  rw [hW.cell (p := ⟨b, off + j, none⟩) hb]; exact hc j hj
 clear hc
 go_enter Tryz.func83, Tryz.ntmps83
 go_wp2
 go_loopg [5, 8] zs.length (fun gg _ s8 wr => ∃ kk : Nat, kk ≤ zs.length ∧ zs.length - kk ≤ gg ∧ s8 = .int .i64 kk ∧ Aside (Below w.heap.size w wr) ∧ Aside (∀ j, j < kk → p zs[j]! = false))
 case atStart => exact ⟨0, Nat.zero_le _, by omega, rfl, Below.refl _ w, fun j hj => absurd hj (Nat.not_lt_zero _)⟩
 case round =>
  obtain ⟨kk, hkk, hg, rfl, BW, A⟩ := hrel
  by_cases hlt : kk < zs.length
  ·have hltz : (kk : Int) < (zs.length : Int) := by omega
   have l2 := hrow wr BW.out kk (by omega)
   have hmem : zs[kk]! ∈ zs := by rw [getElem!_pos zs kk hlt]; exact List.getElem_mem _
   have hcall := hp wr zs[kk]! hmem BW.out
   clear hrow hp hmem
   generalize hy : zs[kk]! = y at l2 hcall
   have B : Aside (zs[kk]! = y) := hy
   clear hy
   cases hq : p y with
   | true =>
    rw [hq] at hcall
    go_wp2_with (go_at_fn g; refine hcall.mono ?_; rintro e w' ⟨rfl, hb'⟩)
    go_ret
    refine ⟨?_, hb'⟩
    have h := Lib.idxBy_hit (fun _ y => p y) zs zs.length kk default hlt (Nat.le_refl _) (by show p zs[kk]! = true; rw [B.out]; exact hq) A.out
    rw [List.take_length] at h
    rw [h]
    rfl
   | false =>
    rw [hq] at hcall
    go_wp2_with (go_at_fn g; refine hcall.mono ?_; rintro e w' ⟨rfl, hb'⟩)
    go_roundg (zs.length - (kk + 1))
    case measure => omega
    case rel =>
     refine ⟨kk + 1, by omega, by omega, by go_num, hb', (show Aside _ from fun j hj => ?_)⟩
     by_cases e : j = kk
     ·subst e
      rw [B.out]; exact hq
     ·exact A.out j (by omega)
  ·have hltz : ¬ (kk : Int) < (zs.length : Int) := by omega
   have : kk = zs.length := by omega
   subst this
   go_wp2
   go_ret
   refine ⟨?_, BW.out⟩
   have h := Lib.idxBy_miss (fun _ y => p y) zs zs.length default A.out
   rw [List.take_length] at h
   rw [h]
   rfl
theorem contains_calls (g : Nat) (p : ByteArray → Bool) (eg : ∀ args w, (callFunc g args).run Tryz.prog w = .ok (.enter g args) w) (b off c : Nat) (zs : List ByteArray) (w : World)
  (hp : ∀ (W : World) (x : ByteArray), x ∈ zs → Below w.heap.size w W → Calls Tryz.prog g #[.string x] W fun e w' => e = .returned (.bool (p x)) ∧ Below w.heap.size w w')
  (hbig : zs.length ≤ 9223372036854775807) (hb : b < w.heap.size) (hc : ∀ j, j < zs.length → w.cell? ⟨b, off + j, none⟩ = some (.string zs[j]!)) :
  Calls Tryz.prog 66 #[.slice (some ⟨b, off, none⟩) zs.length c, .func (.func g) #[] #[]] w fun e w' => e = .returned (.bool (zs.any p)) ∧ Below w.heap.size w w' := by
 rw [show zs.any p = decide (0 ≤ Lib.idxBy (fun _ y => p y) zs default) from (Lib.idxBy_nonneg_iff (fun _ y => p y) zs default).symm]
 have h := idx_calls g p eg b off c zs w hp hbig hb hc
 clear hc hp
 go_enter Tryz.func66, Tryz.ntmps66
 go_wp2_with fail
 refine h.mono ?_
 rintro e w' ⟨rfl, hb'⟩
 go_wp2
 go_ret
 exact ⟨rfl, hb'⟩
def pathOf (s : ByteArray) : Bool := decide ((dp_ s).length ≤ 8) && (dp_ s).all dy_
theorem parts1_calls (x : ByteArray) (hx : x.size ≤ 1099511627776) (w : World) : Calls Tryz.prog 86 #[.string x] w fun e w' => e = .returned (.bool (!dy_ x)) ∧ Below w.heap.size w w' := by
 go_enter Tryz.func86, Tryz.ntmps86
 go_wp2_with fail
 refine (part_calls x hx w).mono ?_
 rintro e w1 ⟨rfl, hb⟩
 have HB := Lib.hid hb
 clear hb
 go_wp2
 go_ret
 exact ⟨rfl, HB.out⟩
theorem any_not (l : List ByteArray) (p : ByteArray → Bool) : (l.any fun x => !p x) = !(l.all p) := by
 induction l with
 | nil => rfl
 | cons x l ih => rw [List.any_cons, List.all_cons, ih, Bool.not_and]
set_option maxHeartbeats 2000000 in
theorem parts_calls (s : ByteArray) (hs : s.size ≤ 1073741824) (w : World) : Calls Tryz.prog 69 #[.string s] w fun e w' =>
  (if pathOf s = true then ∃ a, e = .returned (.slice (some a) (dp_ s).length (dp_ s).length) ∧ Kd.R Kd.string 9 w' w.heap.size (fun _ => True) (.slice (some a) (dp_ s).length (dp_ s).length) (dp_ s)
   else e = .returned (.slice none 0 0)) ∧ Below w.heap.size w w' := by
 have hlen := pieces_len s
 have hcl := Lib.countB_le ⟨#[47]⟩ (Nat.le_refl _) s.size s (Nat.le_refl _)
 have hsz := pieces_size s
 have hP : pathOf s = (decide ((dp_ s).length ≤ 8) && (dp_ s).all dy_) := rfl
 have hsp := split_calls s w (by omega)
 generalize dp_ s = l at *
 generalize pathOf s = q at *
 have hll : l.length ≤ 1073741825 := by omega
 clear hlen hcl
 have hown : Kd.R Kd.string 9 (w.alloc (.cells (l.map Value.string).toArray 9)) w.heap.size (fun _ => True) (.slice (some ⟨w.heap.size, 0, none⟩) l.length l.length) l := by
  have h := World.ownsRow_lit (base := w.heap.size) (e := 9) (size := 1) w (l.map Value.string).toArray l.length (Nat.le_refl _) (by unfold maxLen; omega) (by simp)
  exact Kd.R_of_own (enc := Value.string) (h1 := fun _ => rfl) (by simpa [encs] using h) (fun _ _ => trivial)
 have hb0 : Below w.heap.size w (w.alloc (.cells (l.map Value.string).toArray 9)) := (Below.refl _ w).alloc (Nat.le_refl _) _
 have hcall := contains_calls 86 (fun x => !dy_ x) (enters_of Tryz.func86 (by kernel_rfl) rfl) w.heap.size 0 l.length l (w.alloc (.cells (l.map Value.string).toArray 9))
  (fun W x hx hW => (parts1_calls x (by have := hsz x hx; omega) W).mono (fun e w' ⟨h1, h2⟩ => ⟨h1, hW.trans (h2.mono hW.size)⟩)) (by omega) (by simp) (fun j hj => by
   have := b_ (heap_alloc_new w (.cells (l.map Value.string).toArray 9)) j
   rw [Nat.zero_add, this]
   simp [hj])
 rw [any_not] at hcall
 have HP := Lib.hid hP
 have HO := Lib.hid hown
 have HB := Lib.hid hb0
 have HC := Lib.hid hcall
 clear hP hown hb0 hcall hsz
 have i1 : decide ((8 : Int) < (l.length : Int)) = !decide (l.length ≤ 8) := by by_cases h : l.length ≤ 8 <;> simp [h] <;> omega
 generalize decide (l.length ≤ 8) = d1 at i1 HP
 generalize l.all dy_ = d2 at HP HC
 cases d1 with
 | false =>
  have hq : q = false := by rw [HP.out]; rfl
  subst hq
  have i1' : decide ((8 : Int) < (l.length : Int)) = true := i1
  clear i1
  go_enter Tryz.func69, Tryz.ntmps69
  go_wp2_with fail
  refine hsp.mono ?_
  rintro e w1 ⟨rfl, hw⟩
  rw [hw]
  go_wp2
  go_ret
  exact ⟨rfl, HB.out⟩
 | true =>
  have hq : q = d2 := by rw [HP.out]; rfl
  subst hq
  have i1' : decide ((8 : Int) < (l.length : Int)) = false := i1
  clear i1
  cases q with
  | true =>
   go_enter Tryz.func69, Tryz.ntmps69
   go_wp2_with fail
   refine hsp.mono ?_
   rintro e w1 ⟨rfl, hw⟩
   rw [hw]
   go_wp2_with fail
   refine HC.out.mono ?_
   rintro e w2 ⟨rfl, hb⟩
   have HB2 := Lib.hid hb
   clear hb
   go_wp2
   go_ret
   exact ⟨⟨_, rfl, Kd.R_below HO.out HB2.out⟩, HB.out.trans (HB2.out.mono (by simp))⟩
  | false =>
   go_enter Tryz.func69, Tryz.ntmps69
   go_wp2_with fail
   refine hsp.mono ?_
   rintro e w1 ⟨rfl, hw⟩
   rw [hw]
   go_wp2_with fail
   refine HC.out.mono ?_
   rintro e w2 ⟨rfl, hb⟩
   have HB2 := Lib.hid hb
   clear hb
   go_wp2
   go_ret
   exact ⟨rfl, HB.out.trans (HB2.out.mono (by simp))⟩
theorem eql_nil (w : World) (a : Addr) (n c : Nat) : (binOp .eql 32 (.slice (some a) n c) (.slice none 0 0)).run Tryz.prog w = .ok (.bool false) w := Lib.run_eql_slice_nil (P := Tryz.prog) w 32 9 (some a) n c 0 0 Tryz.underlying32
theorem eql_nil0 (w : World) : (binOp .eql 32 (.slice none 0 0) (.slice none 0 0)).run Tryz.prog w = .ok (.bool true) w := Lib.run_eql_slice_nil (P := Tryz.prog) w 32 9 none 0 0 0 0 Tryz.underlying32
theorem check_calls (s : ByteArray) (hs : s.size ≤ 1073741824) (w : World) : Calls Tryz.prog 59 #[.string s] w fun e w' => e = .returned (if pathOf s = true then .nilIface else .iface 29 (.int .i64 2)) ∧ Below w.heap.size w w' := by
 have h := parts_calls s hs w
 generalize dp_ s = l at h
 cases hq : pathOf s with
 | true =>
  rw [hq] at h
  have H := Lib.hid h
  clear h
  have hn := eql_nil
  go_enter Tryz.func59, Tryz.ntmps59
  go_wp2_with fail
  refine H.out.mono ?_
  rintro e w1 ⟨hx, hb⟩
  rw [if_pos trivial] at hx
  obtain ⟨a, rfl, hr⟩ := hx
  have HB := Lib.hid hb
  clear hb hr
  go_wp2
  go_ret
  exact ⟨rfl, HB.out⟩
 | false =>
  rw [hq] at h
  have H := Lib.hid h
  clear h
  have hn := eql_nil0
  go_enter Tryz.func59, Tryz.ntmps59
  go_wp2_with fail
  refine H.out.mono ?_
  rintro e w1 ⟨hx, hb⟩
  rw [if_neg (by simp)] at hx
  subst hx
  have HB := Lib.hid hb
  clear hb
  go_wp2
  go_ret
  exact ⟨rfl, HB.out⟩
end Go.Proofs.YtlcfcaokihoplaaGreatDoor.Route
