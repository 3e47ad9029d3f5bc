-- Cut.
import Derived.Test.YtlcfcaokihoplaaGreatDoorMsxCp
import Derived.Test.YtlcfcaokihoplaaGreatDoorMsgRCp
import Derived.DataShut
namespace Go.Proofs.YtlcfcaokihoplaaGreatDoor.PureO
open Go.RowKit Go.Proofs.YtlcfcaokihoplaaGreatDoor.MsgL Go.Proofs.YtlcfcaokihoplaaGreatDoor.OrderNK Go.Proofs.YtlcfcaokihoplaaGreatDoor.Route Go.Proofs.YtlcfcaokihoplaaGreatDoor.Ms Go.Proofs.YtlcfcaokihoplaaGreatDoor.Mw Go.Proofs.YzW.PrintWords Go.Proofs.YzW.PrintLast Go.Proofs.YzW.PrintMore
set_option linter.unusedSimpArgs false
set_option linter.unusedVariables false
theorem wz {z : Int} (h0 : -9223372036854775808 ≤ z) (h1 : z ≤ 9223372036854775807) : wrap64 z = z := by unfold wrap64; omega
theorem wz' {z y : Int} (e : z = y) (h0 : -9223372036854775808 ≤ y) (h1 : y ≤ 9223372036854775807) : wrap64 z = y := by rw [e]; exact wz h0 h1
theorem rdOf_get (l : List ByteArray) (i : Nat) (h : i < l.length) : rdOf ByteArray.empty l (i : Int) = l[i] := by simp [rdOf, h]
theorem num_l (j : Nat) : ∀ (n : Nat) (acc : List Int) (k : Nat), n < 128 ^ (j + 1) → j < k → acc.length + j < 140737488355327 → br_.l0 k (n : Int) acc = some (acc ++ enc n) := by
 induction j with
 | zero =>
  intro n acc k h hk hl
  obtain ⟨k, rfl⟩ : ∃ m, k = m + 1 := ⟨k - 1, by omega⟩
  have hn : n < 128 := by simpa using h
  simp only [br_.l0]
  rw [if_neg (by omega), if_pos (by omega), cj_ hn, show ((n : Int) % 256) = (n : Int) from by omega]
 | succ j ih =>
  intro n acc k h hk hl
  obtain ⟨k, rfl⟩ : ∃ m, k = m + 1 := ⟨k - 1, by omega⟩
  simp only [br_.l0]
  by_cases hn : n < 128
  ·rw [if_neg (by omega), if_pos (by omega), cj_ hn, show ((n : Int) % 256) = (n : Int) from by omega]
  ·have e := or128 ⟨n % 256, Nat.mod_lt _ (by decide)⟩
   simp only at e
   rw [if_pos (by omega), if_pos (by omega), show ((n : Int) / 128) = ((n / 128 : Nat) : Int) from by omega, show ((n : Int) % 256) = ((n % 256 : Nat) : Int) from by omega, e,
    ih (n / 128) _ k (by rw [Nat.div_lt_iff_lt_mul (by decide)]; rw [Nat.pow_succ] at h; exact h) (by omega) (by simp; omega), dw_ hn, show n % 256 % 128 = n % 128 from by omega]
   simp
theorem num_f (l : List Int) (n : Nat) (hn : n < 18446744073709551616) (hl : l.length < 140737488355300) (k : Nat) (hk : 10 < k) : br_.f k l (n : Int) = some (l ++ enc n) := by
 unfold br_.f bp_.f
 rw [if_pos (by omega)]; simp only [Option.bind_some]
 exact num_l 9 n l k (pow70 hn) (by omega) (by omega)
theorem text_f (l : List Int) (s : ByteArray) (hs : s.size ≤ 140737488351232) (hl : l.length + s.size < 140737488355300) (k : Nat) (hk : 10 < k) : cy_.f k l s = some (l ++ enc s.size ++ bk_ s) := by
 unfold cy_.f
 rw [size_wrap s hs, num_f l s.size (by omega) (by omega) k hk]; simp only [Option.bind_some]
 have := enc_len 9 s.size (pow70 (by omega))
 rw [if_pos (by rw [List.length_append]; omega)]
theorem wu {n : Nat} (h : n ≤ 1000000) : IntKind.u64.wrap (n : Int) = (n : Int) := wu64 (by omega) (by omega)
theorem bytesOf_len (s : ByteArray) : (bk_ s).length = s.size := bytesOf_length s
def txt (s : ByteArray) : List Int := enc s.size ++ bk_ s
def keysB : List ByteArray → List Int
 | [] => []
 | x :: r => txt x ++ keysB r
def headB (c t d m : Nat) (nm pt : ByteArray) : List Int := enc c ++ enc t ++ enc d ++ enc m ++ txt nm ++ txt pt
def putB (c t d m : Nat) (nm pt : ByteArray) (ks : List ByteArray) : List Int := headB c t d m nm pt ++ enc ks.length ++ keysB ks
theorem dr_ (n : Nat) (h : n ≤ 1000000) : (enc n).length ≤ 10 := enc_len 9 n (Nat.lt_of_le_of_lt h (by decide))
theorem txt_len (s : ByteArray) (h : s.size ≤ 5000) : (txt s).length ≤ 5010 := by
 have := dr_ s.size (by omega)
 unfold txt
 rw [List.length_append, bytesOf_len]
 omega
theorem put_l1 (ks : List ByteArray) (hl : ks.length ≤ 100) (hs : ∀ x ∈ ks, x.size ≤ 5000) : ∀ (q k i : Nat) (acc : List Int), q = ks.length - i → i ≤ ks.length → acc.length + 5010 * q ≤ 1000000 → q + 20 ≤ k → bc_.l1 k acc ks ks.length i = some (acc ++ keysB (ks.drop i), none)
 | 0, k, i, acc, hq, hi, ha, hk => by
  obtain ⟨k, rfl⟩ : ∃ k', k = k' + 1 := ⟨k - 1, by omega⟩
  have : i = ks.length := by omega
  subst this
  unfold bc_.l1
  rw [if_neg (by omega), List.drop_length]
  simp [keysB]
 | q + 1, k, i, acc, hq, hi, ha, hk => by
  obtain ⟨k, rfl⟩ : ∃ k', k = k' + 1 := ⟨k - 1, by omega⟩
  have hlt : i < ks.length := by omega
  have hd : ks.drop i = ks[i] :: ks.drop (i + 1) := List.drop_eq_getElem_cons hlt
  have hsz := hs ks[i] (List.getElem_mem _)
  have htl := txt_len ks[i] hsz
  have ih := put_l1 ks hl hs q k (i + 1) (acc ++ txt ks[i]) (by omega) (by omega) (by rw [List.length_append]; omega) (by omega)
  unfold bc_.l1
  rw [if_pos (by omega), if_pos (by omega), if_pos (by omega), rdOf_get ks i hlt, text_f acc ks[i] (by omega) (by omega) k (by omega), Option.bind_some, wz' (z := (i : Int) + 1) (y := ((i + 1 : Nat) : Int)) (by omega) (by omega) (by omega)]
  rw [List.append_assoc]
  rw [show enc (ks[i]).size ++ bk_ ks[i] = txt ks[i] from rfl, ih, hd]
  simp [keysB, List.append_assoc]
theorem put_l0 (k c t d m : Nat) (nm pt : ByteArray) (ks : List ByteArray) (hc : c ≤ 1000000) (ht : t ≤ 1000000) (hd : d ≤ 1000000) (hm : m ≤ 1000000) (hn : nm.size ≤ 5000) (hp : pt.size ≤ 5000) (hl : ks.length ≤ 100) (hs : ∀ x ∈ ks, x.size ≤ 5000) :
  bc_.l0 (k + 200 + 1 + 1 + 1 + 1 + 1) [] [(c : Int), (t : Int), (d : Int), (m : Int)] 4 0 c t d nm pt ks m = some (putB c t d m nm pt ks, none) := by
 have h1 := dr_ c hc
 have h2 := dr_ t ht
 have h3 := dr_ d hd
 have h4 := dr_ m hm
 have h5 := txt_len nm hn
 have h6 := txt_len pt hp
 have e1 : ∀ (K : Nat) (acc : List Int) (n : Nat), n ≤ 1000000 → acc.length ≤ 100000 → 10 < K → br_.f K acc (IntKind.u64.wrap (n : Int)) = some (acc ++ enc n) := fun K acc n h hh hK => by
  rw [wu h]; exact num_f acc n (by omega) (by omega) K hK
 have e2 : ∀ (K : Nat) (acc : List Int) (s : ByteArray), s.size ≤ 5000 → acc.length ≤ 100000 → 10 < K → cy_.f K acc s = some (acc ++ txt s) := fun K acc s h hh hK => by
  rw [text_f acc s (by omega) (by omega) K hK, List.append_assoc]; rfl
 unfold bc_.l0
 rw [if_pos (by decide), if_pos (by decide), if_pos (by simp), show rd [(c : Int), (t : Int), (d : Int), (m : Int)] 0 = (c : Int) from rfl, e1 _ _ c hc (by simp) (by omega), Option.bind_some, show wrap64 (0 + 1) = 1 from wz' (by decide) (by decide) (by decide)]
 unfold bc_.l0
 rw [if_pos (by decide), if_pos (by decide), if_pos (by simp), show rd [(c : Int), (t : Int), (d : Int), (m : Int)] 1 = (t : Int) from rfl, e1 _ _ t ht (by simp; omega) (by omega), Option.bind_some, show wrap64 (1 + 1) = 2 from wz' (by decide) (by decide) (by decide)]
 unfold bc_.l0
 rw [if_pos (by decide), if_pos (by decide), if_pos (by simp), show rd [(c : Int), (t : Int), (d : Int), (m : Int)] 2 = (d : Int) from rfl, e1 _ _ d hd (by simp; omega) (by omega), Option.bind_some, show wrap64 (2 + 1) = 3 from wz' (by decide) (by decide) (by decide)]
 unfold bc_.l0
 rw [if_pos (by decide), if_pos (by decide), if_pos (by simp), show rd [(c : Int), (t : Int), (d : Int), (m : Int)] 3 = (m : Int) from rfl, e1 _ _ m hm (by simp; omega) (by omega), Option.bind_some, show wrap64 (3 + 1) = 4 from wz' (by decide) (by decide) (by decide)]
 unfold bc_.l0
 rw [if_neg (by decide), e2 _ _ nm hn (by simp; omega) (by omega), Option.bind_some, e2 _ _ pt hp (by simp; omega) (by omega), Option.bind_some, e1 _ _ ks.length (by omega) (by simp; omega) (by omega), Option.bind_some]
 have := put_l1 ks hl hs ks.length (k + 200) 0 ([] ++ enc c ++ enc t ++ enc d ++ enc m ++ txt nm ++ txt pt ++ enc ks.length) (by omega) (by omega) (by have := dr_ ks.length (by omega); simp; omega) (by omega)
 rw [show ((0 : Nat) : Int) = 0 from rfl] at this
 rw [this, List.drop_zero]
 simp [putB, headB, List.append_assoc]
def shortB (nm pt : ByteArray) (ks : List ByteArray) : Bool := decide (nm.size ≤ 2000) && decide (pt.size ≤ 2000) && decide (ks.length ≤ 100) && ks.all fun x => decide (x.size ≤ 2000)
theorem short_l0 (d m : Int) (nm pt : ByteArray) (ks : List ByteArray) (hl : ks.length ≤ 100) : ∀ (q k i : Nat), q = ks.length - i → i ≤ ks.length → q + 1 ≤ k → ao_.l0 k i d nm pt ks m = some ((ks.drop i).all fun x => decide (x.size ≤ 2000))
 | 0, k, i, hq, hi, hk => by
  obtain ⟨k, rfl⟩ : ∃ k', k = k' + 1 := ⟨k - 1, by omega⟩
  have : i = ks.length := by omega
  subst this
  unfold ao_.l0
  rw [if_neg (by omega), List.drop_length]; rfl
 | q + 1, k, i, hq, hi, hk => by
  obtain ⟨k, rfl⟩ : ∃ k', k = k' + 1 := ⟨k - 1, by omega⟩
  have hlt : i < ks.length := by omega
  have hd : ks.drop i = ks[i] :: ks.drop (i + 1) := List.drop_eq_getElem_cons hlt
  have ih := short_l0 d m nm pt ks hl q k (i + 1) (by omega) (by omega) (by omega)
  unfold ao_.l0
  rw [if_pos (by omega), if_pos (by omega), rdOf_get ks i hlt, wz' (z := (i : Int) + 1) (y := ((i + 1 : Nat) : Int)) (by omega) (by omega) (by omega), hd, List.all_cons]
  by_cases h : (ks[i]).size ≤ 2000
  ·rw [if_neg (by omega), ih, decide_eq_true h]; rfl
  ·rw [if_pos (by omega), decide_eq_false h]; rfl
theorem short_f (k : Nat) (d m : Int) (nm pt : ByteArray) (ks : List ByteArray) (hk : 200 ≤ k) : ao_.f k d nm pt ks m = some (shortB nm pt ks) := by
 obtain ⟨k, rfl⟩ : ∃ k', k = k' + 1 := ⟨k - 1, by omega⟩
 unfold ao_.f shortB
 by_cases h1 : nm.size ≤ 2000
 ·rw [if_neg (by omega), decide_eq_true h1]
  by_cases h2 : pt.size ≤ 2000
  ·rw [if_neg (by omega), decide_eq_true h2]
   by_cases h3 : ks.length ≤ 100
   ·rw [decide_eq_true h3, decide_eq_false (by omega : ¬ (ks.length : Int) > 100)]
    simp only [ao_.j0, Bool.false_eq_true, if_false]
    have := short_l0 d m nm pt ks h3 ks.length k 0 (by omega) (by omega) (by omega)
    rw [List.drop_zero, show ((0 : Nat) : Int) = 0 from rfl] at this
    rw [this]; rfl
   ·rw [decide_eq_false h3, decide_eq_true (by omega : (ks.length : Int) > 100)]
    simp [ao_.j0]
  ·rw [if_pos (by omega), decide_eq_false h2]
   simp [ao_.j0]
 ·rw [if_pos (by omega), decide_eq_false h1]
  simp [ao_.j0]
theorem shortB_iff {nm pt : ByteArray} {ks : List ByteArray} (h : shortB nm pt ks = true) : nm.size ≤ 2000 ∧ pt.size ≤ 2000 ∧ ks.length ≤ 100 ∧ ∀ x ∈ ks, x.size ≤ 2000 := by
 unfold shortB at h
 simp only [Bool.and_eq_true, decide_eq_true_eq] at h
 exact ⟨h.1.1.1, h.1.1.2, h.1.2, fun x hx => of_decide_eq_true (List.all_eq_true.1 h.2 x hx)⟩
def opBody (kd : Int) (nm pt : ByteArray) (ks : List ByteArray) (n : Int) : Bool :=
 if kd = 2 then nameOf nm && pathOf pt && (n == 0)
 else if kd = 6 then nameOf nm && pathOf pt && decide ((ks.length : Int) = 0) && (n == 0)
 else if kd = 8 then decide (nm.toList = []) && decide (pt.toList = []) && decide ((ks.length : Int) = 0)
 else if kd = 5 ∨ kd = 9 then decide (nm.toList = []) && decide (pt.toList = []) && decide ((ks.length : Int) = 0) && (n == 0)
 else nameOf nm && decide (pt.toList = []) && decide ((ks.length : Int) = 0) && (n == 0)
def opOk (kd : Int) (nm pt : ByteArray) (ks : List ByteArray) (n : Int) : Bool :=
 decide (1 ≤ kd) && decide (kd ≤ 9) && decide (0 ≤ n) && decide (n ≤ 100) && keysOk ks && opBody kd nm pt ks n
theorem nine {kd : Int} (h1 : 1 ≤ kd) (h9 : kd ≤ 9) : kd = 1 ∨ kd = 2 ∨ kd = 3 ∨ kd = 4 ∨ kd = 5 ∨ kd = 6 ∨ kd = 7 ∨ kd = 8 ∨ kd = 9 := by omega
set_option maxHeartbeats 4000000 in
theorem op_f (k : Nat) (kd n : Int) (nm pt : ByteArray) (ks : List ByteArray) (hn : nm.size ≤ 5000) (hp : pt.size ≤ 5000) (hl : ks.length ≤ 1000000) : ak_.f (k + 1 + 1 + 1 + 1 + 1 + 1) kd nm pt ks n = some (opOk kd nm pt ks n) := by
 have hN : dv_.f nm = some (nameOf nm) := by unfold dv_.f; rw [if_pos (by omega)]
 have hC : da_.f pt = some (if pathOf pt = true then none else some 2) := by unfold da_.f; rw [if_pos (by omega)]
 have hK : dl_.f ks = some (keysOk ks) := by unfold dl_.f; rw [if_pos (by omega)]
 unfold ak_.f opOk
 by_cases h1 : 1 ≤ kd
 ·rw [if_neg (by omega), decide_eq_true h1]
  by_cases h9 : kd ≤ 9
  ·rw [if_neg (by omega), decide_eq_true h9, hK, Option.bind_some]
   cases keysOk ks with
   | false => simp [ak_.j0]
   | true =>
    rw [if_pos rfl]
    by_cases h0 : 0 ≤ n
    ·rw [if_neg (by omega), decide_eq_true h0]
     by_cases h100 : n ≤ 100
     ·rw [decide_eq_true h100, decide_eq_false (by omega : ¬ n > 100)]
      simp only [ak_.j0, Bool.false_eq_true, if_false, Bool.and_self, Bool.true_and]
      clear hK
      unfold opBody
      generalize nameOf nm = a at hN ⊢
      generalize pathOf pt = b at hC ⊢
      generalize hz : (ks.length : Int) = z
      have hzz : z ≠ 0 → ks.length ≠ 0 := by omega
      rcases nine h1 h9 with rfl | rfl | rfl | rfl | rfl | rfl | rfl | rfl | rfl
      all_goals
       simp only [ak_.j1, ak_.j2, ak_.j3, ak_.j4, db_.f, hN, hC, hz]
       cases a <;> cases b <;> by_cases e1 : nm.toList = [] <;> by_cases e2 : pt.toList = [] <;> by_cases e3 : z = 0 <;> simp [e1, e2, e3, hz, ak_.j2, ak_.j3, ak_.j4]
     ·rw [decide_eq_false h100, decide_eq_true (by omega : n > 100)]
      simp [ak_.j0]
    ·rw [if_pos (by omega), decide_eq_false h0]
     simp [ak_.j0]
  ·rw [if_pos (by omega), decide_eq_false h9]
   simp [ak_.j0]
 ·rw [if_pos (by omega), decide_eq_false h1]
  simp [ak_.j0]
def mayB (c t d : Int) (nm pt : ByteArray) (ks : List ByteArray) (n : Int) : Bool := opOk d nm pt ks n && decide (0 ≤ c) && decide (c ≤ 7) && decide (1 ≤ t) && decide (t ≤ 1000)
theorem check_f (k : Nat) (c t d : Int) (nm pt : ByteArray) (ks : List ByteArray) (n : Int) (hn : nm.size ≤ 5000) (hp : pt.size ≤ 5000) (hl : ks.length ≤ 1000000) (hk : 6 ≤ k) : dq_.f k c t d nm pt ks n = some (if mayB c t d nm pt ks n = true then none else some 1) := by
 obtain ⟨k, rfl⟩ : ∃ k', k = k' + 1 + 1 + 1 + 1 + 1 + 1 := ⟨k - 6, by omega⟩
 unfold dq_.f mayB
 rw [op_f k d n nm pt ks hn hp hl, Option.bind_some]
 generalize opOk d nm pt ks n = o
 by_cases h1 : 0 ≤ c
 ·rw [if_neg (by omega), decide_eq_true h1]
  by_cases h2 : c ≤ 7
  ·rw [if_neg (by omega), decide_eq_true h2]
   by_cases h3 : 1 ≤ t
   ·rw [if_neg (by omega), decide_eq_true h3]
    by_cases h4 : t ≤ 1000
    ·rw [if_neg (by omega), decide_eq_true h4]
     cases o <;> simp
    ·rw [if_pos (by omega), decide_eq_false h4]; simp
   ·rw [if_pos (by omega), decide_eq_false h3]; simp
  ·rw [if_pos (by omega), decide_eq_false h2]; simp
 ·rw [if_pos (by omega), decide_eq_false h1]; simp
theorem may_bounds {c t d : Int} {nm pt : ByteArray} {ks : List ByteArray} {n : Int} (h : mayB c t d nm pt ks n = true) : (0 ≤ c ∧ c ≤ 7) ∧ (1 ≤ t ∧ t ≤ 1000) ∧ (1 ≤ d ∧ d ≤ 9) ∧ (0 ≤ n ∧ n ≤ 100) ∧ keysOk ks = true := by
 unfold mayB opOk at h
 simp only [Bool.and_eq_true, decide_eq_true_eq] at h
 obtain ⟨⟨⟨⟨⟨⟨⟨⟨⟨a1, a2⟩, a3⟩, a4⟩, a5⟩, a6⟩, b1⟩, b2⟩, b3⟩, b4⟩ := h
 exact ⟨⟨b1, b2⟩, ⟨b3, b4⟩, ⟨a1, a2⟩, ⟨a3, a4⟩, a5⟩
theorem put_f (k : Nat) (c t d : Int) (nm pt : ByteArray) (ks : List ByteArray) (n : Int) (hn : nm.size ≤ 5000) (hp : pt.size ≤ 5000) (hl : ks.length ≤ 100) (hs : ∀ x ∈ ks, x.size ≤ 5000) (hk : 1000 ≤ k) :
  bc_.f k c t d nm pt ks n = some (if mayB c t d nm pt ks n = true then (putB c.toNat t.toNat d.toNat n.toNat nm pt ks, none) else ([], some 1)) := by
 obtain ⟨k, rfl⟩ : ∃ k', k = k' + 200 + 1 + 1 + 1 + 1 + 1 := ⟨k - 205, by omega⟩
 unfold bc_.f
 rw [check_f _ c t d nm pt ks n hn hp (by omega) (by omega), Option.bind_some]
 cases hm : mayB c t d nm pt ks n with
 | false => simp
 | true =>
  obtain ⟨b1, b2, b3, b4, _⟩ := may_bounds hm
  rw [show (if true = true then (none : Option Int) else some 1) = none from rfl, if_pos (by rfl : (none : Option Int).isNone = true), Option.bind_some, if_pos (rfl : true = true)]
  obtain ⟨c', rfl⟩ : ∃ c' : Nat, c = c' := ⟨c.toNat, by omega⟩
  obtain ⟨t', rfl⟩ : ∃ t' : Nat, t = t' := ⟨t.toNat, by omega⟩
  obtain ⟨d', rfl⟩ : ∃ d' : Nat, d = d' := ⟨d.toNat, by omega⟩
  obtain ⟨n', rfl⟩ : ∃ n' : Nat, n = n' := ⟨n.toNat, by omega⟩
  rw [Int.toNat_natCast, Int.toNat_natCast, Int.toNat_natCast, Int.toNat_natCast, show (([(c' : Int), (t' : Int), (d' : Int), (n' : Int)] : List Int).length : Int) = 4 from rfl]
  exact put_l0 k c' t' d' n' nm pt ks (by omega) (by omega) (by omega) (by omega) hn hp hl hs
end Go.Proofs.YtlcfcaokihoplaaGreatDoor.PureO
