-- Cut by a program of this session (wip/shake.py) out of a text of this seat: what this claim doesn't reach is struck out. Lean checks it.
import Derived.Test.YtghfofjlafeliaaDoorOGetsCg
import Derived.Test.YtghfofjlafeliaaDoorORdCg
import Derived.Test.YtghfofjlafeliaaDoorPureOR8Cg
namespace Go.Proofs.YtghfofjlafeliaaDoor.PureO
open Go.RowKit Go.Proofs.YtghfofjlafeliaaDoor.PureRoute Go.Proofs.YtghfofjlafeliaaDoor.Order Go.Proofs.YtghfofjlafeliaaDoor.OrderNK Go.Proofs.YtghfofjlafeliaaDoor.Route Go.Proofs.YtghfofjlafeliaaDoor.Or Go.Proofs.YtghfofjlafeliaaDoor.Og Go.Proofs.YtghfofjlafeliaaDoorW.PrintWords Go.Proofs.YtghfofjlafeliaaDoorW.PrintLast Go.Proofs.YtghfofjlafeliaaDoorW.PrintMore
open Go.Proofs.YtghfofjlafeliaaDoor.PureRoute8 (part_f path_f name_part dec_inside get_list runes_no47 part_no47)
set_option linter.unusedSimpArgs false
set_option linter.unusedVariables false
theorem j2_t (k : Nat) (a b : Bool) (kd n : Int) (nm pt : ByteArray) (ks : List ByteArray) : becketref08_Op.j2 (k + 1) a b kd true kd nm pt ks n = some (a && decide (pt.toList = []) && decide ((ks.length : Int) = 0) && (n == 0)) := by
  rw [becketref08_Op.j2, if_pos rfl]
  cases a with
  | false => rfl
  | true =>
    rw [if_pos rfl]
    by_cases e2 : pt.toList = []
    · rw [if_pos e2, decide_eq_true e2]
      by_cases e3 : (ks.length : Int) = 0
      · rw [if_pos e3, decide_eq_true e3]; rfl
      · rw [if_neg e3, decide_eq_false e3]; rfl
    · rw [if_neg e2, decide_eq_false e2]; rfl
theorem j2_2 (k : Nat) (a b : Bool) (n : Int) (nm pt : ByteArray) (ks : List ByteArray) : becketref08_Op.j2 (k + 1) a b 2 false 2 nm pt ks n = some (a && b && (n == 0)) := by
  rw [becketref08_Op.j2, if_neg (by decide), if_pos rfl]
  cases a <;> cases b <;> simp
theorem j2_6 (k : Nat) (a b : Bool) (n : Int) (nm pt : ByteArray) (ks : List ByteArray) : becketref08_Op.j2 (k + 1) a b 6 false 6 nm pt ks n = some (a && b && decide ((ks.length : Int) = 0) && (n == 0)) := by
  rw [becketref08_Op.j2, if_neg (by decide), if_neg (by decide), if_pos rfl]
  cases a with
  | false => rfl
  | true =>
    rw [if_pos rfl]
    cases b with
    | false => rfl
    | true =>
      rw [if_pos rfl]
      by_cases e3 : (ks.length : Int) = 0
      · rw [if_pos e3, decide_eq_true e3]; rfl
      · rw [if_neg e3, decide_eq_false e3]; rfl
theorem j2_8 (k : Nat) (a b : Bool) (n : Int) (nm pt : ByteArray) (ks : List ByteArray) : becketref08_Op.j2 (k + 1) a b 8 false 8 nm pt ks n = some (decide (nm.toList = []) && decide (pt.toList = []) && decide ((ks.length : Int) = 0)) := by
  rw [becketref08_Op.j2, if_neg (by decide), if_neg (by decide), if_neg (by decide), if_pos rfl]
  by_cases e1 : nm.toList = []
  · rw [if_pos e1, decide_eq_true e1]
    by_cases e2 : pt.toList = []
    · rw [if_pos e2, decide_eq_true e2]
      by_cases e3 : (ks.length : Int) = 0
      · rw [decide_eq_true e3, beq_iff_eq.2 e3]; rfl
      · rw [decide_eq_false e3, beq_eq_false_iff_ne.2 e3]; rfl
    · rw [if_neg e2, decide_eq_false e2]; rfl
  · rw [if_neg e1, decide_eq_false e1]; rfl
theorem j2_o (k : Nat) (a b : Bool) (kd n : Int) (nm pt : ByteArray) (ks : List ByteArray) (h2 : kd ≠ 2) (h6 : kd ≠ 6) (h8 : kd ≠ 8) : becketref08_Op.j2 (k + 1) a b kd false kd nm pt ks n = some (decide (nm.toList = []) && decide (pt.toList = []) && decide ((ks.length : Int) = 0) && (n == 0)) := by
  rw [becketref08_Op.j2, if_neg (by decide), if_neg h2, if_neg h6, if_neg h8]
  by_cases e1 : nm.toList = []
  · rw [if_pos e1, decide_eq_true e1]
    by_cases e2 : pt.toList = []
    · rw [if_pos e2, decide_eq_true e2]
      by_cases e3 : (ks.length : Int) = 0
      · rw [if_pos e3, decide_eq_true e3]; rfl
      · rw [if_neg e3, decide_eq_false e3]; rfl
    · rw [if_neg e2, decide_eq_false e2]; rfl
  · rw [if_neg e1, decide_eq_false e1]; rfl
theorem refop_j2 (k : Nat) (kd n : Int) (nm pt : ByteArray) (ks : List ByteArray) (h1 : 1 ≤ kd) (h9 : kd ≤ 9) :
    (if kd = 1 then (becketref08_Op.j2 (k + 1) (nameOf nm) (pathOf pt) kd (kd == 1) kd nm pt ks n) else (if kd = 3 then (becketref08_Op.j2 (k + 1) (nameOf nm) (pathOf pt) kd (kd == 3) kd nm pt ks n) else (if kd = 4 then (becketref08_Op.j2 (k + 1) (nameOf nm) (pathOf pt) kd (kd == 4) kd nm pt ks n) else (becketref08_Op.j2 (k + 1) (nameOf nm) (pathOf pt) kd (kd == 7) kd nm pt ks n)))) = some (opBody kd nm pt ks n) := by
  unfold opBody
  generalize nameOf nm = a
  generalize pathOf pt = b
  rcases nine h1 h9 with rfl | rfl | rfl | rfl | rfl | rfl | rfl | rfl | rfl
  · rw [if_pos rfl, show ((1 : Int) == 1) = true from rfl, j2_t, if_neg (by decide), if_neg (by decide), if_neg (by decide), if_neg (by decide)]
  · rw [if_neg (by decide), if_neg (by decide), if_neg (by decide), show ((2 : Int) == 7) = false from rfl, j2_2, if_pos rfl]
  · rw [if_neg (by decide), if_pos rfl, show ((3 : Int) == 3) = true from rfl, j2_t, if_neg (by decide), if_neg (by decide), if_neg (by decide), if_neg (by decide)]
  · rw [if_neg (by decide), if_neg (by decide), if_pos rfl, show ((4 : Int) == 4) = true from rfl, j2_t, if_neg (by decide), if_neg (by decide), if_neg (by decide), if_neg (by decide)]
  · rw [if_neg (by decide), if_neg (by decide), if_neg (by decide), show ((5 : Int) == 7) = false from rfl, j2_o _ _ _ _ _ _ _ _ (by decide) (by decide) (by decide), if_neg (by decide), if_neg (by decide), if_neg (by decide), if_pos (by decide)]
  · rw [if_neg (by decide), if_neg (by decide), if_neg (by decide), show ((6 : Int) == 7) = false from rfl, j2_6, if_neg (by decide), if_pos rfl]
  · rw [if_neg (by decide), if_neg (by decide), if_neg (by decide), show ((7 : Int) == 7) = true from rfl, j2_t, if_neg (by decide), if_neg (by decide), if_neg (by decide), if_neg (by decide)]
  · rw [if_neg (by decide), if_neg (by decide), if_neg (by decide), show ((8 : Int) == 7) = false from rfl, j2_8, if_neg (by decide), if_neg (by decide), if_pos rfl]
  · rw [if_neg (by decide), if_neg (by decide), if_neg (by decide), show ((9 : Int) == 7) = false from rfl, j2_o _ _ _ _ _ _ _ _ (by decide) (by decide) (by decide), if_neg (by decide), if_neg (by decide), if_neg (by decide), if_pos (by decide)]
theorem refop_l0 (kd n : Int) (nm pt : ByteArray) (ks : List ByteArray) (hn : nm.size ≤ 5000) (hp : pt.size ≤ 5000) (hl : ks.length ≤ 16) (h1 : 1 ≤ kd) (h9 : kd ≤ 9) : ∀ (q k i : Nat), q = ks.length - i → i ≤ ks.length → q + 40000 ≤ k → becketref08_Op.l0 k i kd nm pt ks n = some (!((ks.drop i).any keyBad) && opBody kd nm pt ks n)
  | 0, k, i, hq, hi, hk => by
    obtain ⟨k, rfl⟩ : ∃ k', k = k' + 1 + 1 := ⟨k - 2, by omega⟩
    have : i = ks.length := by omega
    subst this
    unfold becketref08_Op.l0
    rw [if_neg (by omega), List.drop_length]
    unfold becketref08_name.f
    rw [part_f nm (k + 1) (by omega) (by omega), Option.bind_some, Option.bind_some, path_f pt (k + 1) (by omega) (by omega), Option.bind_some, ← name_part, refop_j2 k kd n nm pt ks h1 h9]
    rfl
  | q + 1, k, i, hq, hi, hk => by
    obtain ⟨k, rfl⟩ : ∃ k', k = k' + 1 := ⟨k - 1, by omega⟩
    have hlt : i < ks.length := by omega
    have hd : ks.drop i = ks[i] :: ks.drop (i + 1) := List.drop_eq_getElem_cons hlt
    have ih := refop_l0 kd n nm pt ks hn hp hl h1 h9 q k (i + 1) (by omega) (by omega) (by omega)
    unfold becketref08_Op.l0
    rw [if_pos (by omega), if_pos (by omega), rdOf_get ks i hlt, wz' (z := (i : Int) + 1) (y := ((i + 1 : Nat) : Int)) (by omega) (by omega) (by omega), hd, List.any_cons]
    by_cases g1 : (ks[i]).size < 1
    · rw [if_pos (by omega), show keyBad ks[i] = true from by unfold keyBad; rw [decide_eq_true g1]; rfl]; rfl
    · rw [if_neg (by omega)]
      by_cases g2 : 64 < (ks[i]).size
      · rw [if_pos (by omega), show keyBad ks[i] = true from by unfold keyBad; rw [decide_eq_true g2]; simp]; rfl
      · rw [if_neg (by omega), ih, show keyBad ks[i] = false from by unfold keyBad; rw [decide_eq_false g1, decide_eq_false g2]; rfl]; rfl
theorem refop_f (k : Nat) (kd n : Int) (nm pt : ByteArray) (ks : List ByteArray) (hn : nm.size ≤ 5000) (hp : pt.size ≤ 5000) (hk : 50000 ≤ k) : becketref08_Op.f k kd nm pt ks n = some (opOk kd nm pt ks n) := by
  obtain ⟨k, rfl⟩ : ∃ k', k = k' + 1 := ⟨k - 1, by omega⟩
  unfold becketref08_Op.f opOk keysOk
  by_cases h1 : 1 ≤ kd
  · rw [if_neg (by omega), decide_eq_true h1]
    by_cases h9 : kd ≤ 9
    · rw [if_neg (by omega), decide_eq_true h9]
      by_cases h0 : 0 ≤ n
      · rw [if_neg (by omega), decide_eq_true h0]
        by_cases h100 : n ≤ 100
        · rw [if_neg (by omega), decide_eq_true h100]
          by_cases h16 : ks.length ≤ 16
          · rw [decide_eq_true h16, decide_eq_false (by omega : ¬ (ks.length : Int) > 16)]
            simp only [becketref08_Op.j0, Bool.false_eq_true, if_false, Bool.true_and]
            have := refop_l0 kd n nm pt ks hn hp h16 h1 h9 ks.length k 0 (by omega) (by omega) (by omega)
            rw [List.drop_zero, show ((0 : Nat) : Int) = 0 from rfl] at this
            exact this
          · rw [decide_eq_false h16, decide_eq_true (by omega : (ks.length : Int) > 16)]
            simp [becketref08_Op.j0]
        · rw [if_pos (by omega), decide_eq_false h100]
          simp [becketref08_Op.j0]
      · rw [if_pos (by omega), decide_eq_false h0]
        simp [becketref08_Op.j0]
    · rw [if_pos (by omega), decide_eq_false h9]
      simp [becketref08_Op.j0]
  · rw [if_pos (by omega), decide_eq_false h1]
    simp [becketref08_Op.j0]
theorem refmay_f (k : Nat) (c t d : Int) (nm pt : ByteArray) (ks : List ByteArray) (n : Int) (hn : nm.size ≤ 5000) (hp : pt.size ≤ 5000) (hk : 50000 ≤ k) : becketref08_May.f k c t d nm pt ks n = some (mayB c t d nm pt ks n) := by
  unfold becketref08_May.f mayB
  rw [refop_f k d n nm pt ks hn hp hk, Option.bind_some]
  generalize opOk d nm pt ks n = o
  cases o with
  | false => simp
  | true =>
    rw [if_pos rfl]
    by_cases h1 : 0 ≤ c
    · rw [if_pos (by omega), decide_eq_true h1]
      by_cases h2 : c ≤ 7
      · rw [if_pos (by omega), decide_eq_true h2]
        by_cases h3 : 1 ≤ t
        · rw [if_pos (by omega), decide_eq_true h3]; simp
        · rw [if_neg (by omega), decide_eq_false h3]; simp
      · rw [if_neg (by omega), decide_eq_false h2]; simp
    · rw [if_neg (by omega), decide_eq_false h1]; simp
theorem txt_size {l : List Int} (hb : bytesOk l) (at_ : Nat) (bad : Bool) : (txtOf l at_ bad).1.size ≤ 4096 := by
  unfold txtOf
  by_cases h : bad = true
  · rw [if_pos h]
    show (⟨#[]⟩ : ByteArray).size ≤ 4096
    decide
  · rw [if_neg h]
    generalize hr : gn 4096 0 0 (l.drop at_) = r
    obtain ⟨v, c, er⟩ := r
    cases er with
    | some e =>
      show (⟨#[]⟩ : ByteArray).size ≤ 4096
      decide
    | none =>
      obtain ⟨_, m, g1, g2, g3, _⟩ := gn_back 4096 (l.drop at_) 0 0 v c (fun x hx => hb x (List.mem_of_mem_drop hx)) hr
      simp only
      split
      · show (⟨#[]⟩ : ByteArray).size ≤ 4096
        decide
      · rw [strOfNums_size, List.length_drop, List.length_take]
        omega
theorem readKeys_len (l : List Int) : ∀ (m at_ : Nat) (bad : Bool) (ks : List ByteArray), (readKeys l m at_ bad ks).1.length ≤ ks.length + m
  | 0, _, _, ks => by simp [readKeys]
  | m + 1, at_, bad, ks => by
    unfold readKeys
    split
    · simp
    · have := readKeys_len l m (txtOf l at_ bad).2.1 (txtOf l at_ bad).2.2 (ks ++ [(txtOf l at_ bad).1])
      rw [List.length_append, List.length_singleton] at this
      omega
theorem num_most {l : List Int} (hb : bytesOk l) (at_ : Nat) (bad : Bool) : (numOf l 65536 at_ bad).1.toNat ≤ 65536 := by
  unfold numOf
  by_cases h : bad = true
  · rw [if_pos h]
    show (0 : Int).toNat ≤ 65536
    decide
  · rw [if_neg h]
    unfold gat
    generalize hr : gn 65536 0 0 (l.drop at_) = r
    obtain ⟨v, c, er⟩ := r
    cases er with
    | some e =>
      show (0 : Int).toNat ≤ 65536
      decide
    | none =>
      obtain ⟨_, m, g1, g2, g3, _⟩ := gn_back 65536 (l.drop at_) 0 0 v c (fun x hx => hb x (List.mem_of_mem_drop hx)) hr
      simp only [Option.isNone_none, if_true]
      omega
theorem nat_wrap' {m : Nat} (h : m ≤ 65536) : wrap64 ((m : Int) + 1) = ((m + 1 : Nat) : Int) := by unfold wrap64; omega
def AgR {α : Type} (x y : α × Nat × Bool) : Prop := x.1 = y.1 ∧ x.2.2 = y.2.2 ∧ (x.2.2 = false → x.2.1 = y.2.1)
theorem AgR.refl {α : Type} (x : α × Nat × Bool) : AgR x x := ⟨rfl, rfl, fun _ => rfl⟩
theorem num_ag {l : List Int} {m : Int} {a a' : Nat} {b b' : Bool} (h1 : b = b') (h2 : b = false → a = a') : AgR (numOf l m a b) (numOf l m a' b') := by
  subst h1
  cases b with
  | true => exact ⟨rfl, rfl, fun h => by cases h⟩
  | false => rw [h2 rfl]; exact AgR.refl _
theorem txt_ag {l : List Int} (hb : bytesOk l) {a a' : Nat} {b b' : Bool} (h1 : b = b') (h2 : b = false → a = a') (ha : a ≤ l.length) : AgR (txtOf l a b) (OrderR.rtxt l a' b') := by
  subst h1
  cases b with
  | true => exact ⟨rfl, rfl, fun h => by cases h⟩
  | false =>
    rw [← h2 rfl]
    obtain ⟨g1, g2, g3, _⟩ := OrderR.rtxt_txt hb (bad := false) ha
    exact ⟨g1.symm, g2.symm, fun h => (g3 h).symm⟩
def rKeys (l : List Int) : Nat → Nat → Bool → List ByteArray → List ByteArray × Nat × Bool
  | 0, at_, bad, ks => (ks, at_, bad)
  | m + 1, at_, bad, ks => if bad = true then (ks, at_, true) else rKeys l m (OrderR.rtxt l at_ bad).2.1 (OrderR.rtxt l at_ bad).2.2 (ks ++ [(OrderR.rtxt l at_ bad).1])
theorem rtxt_le {l : List Int} (hb : bytesOk l) {a : Nat} (ha : a ≤ l.length) (b : Bool) : (OrderR.rtxt l a b).2.1 ≤ l.length := (OrderR.rtxt_txt hb (bad := b) ha).2.2.2
theorem keys_ag {l : List Int} (hb : bytesOk l) : ∀ (m a a' : Nat) (b b' : Bool) (ks : List ByteArray), b = b' → (b = false → a = a') → a ≤ l.length → AgR (readKeys l m a b ks) (rKeys l m a' b' ks)
  | 0, a, a', b, b', ks, h1, h2, _ => ⟨rfl, h1, h2⟩
  | m + 1, a, a', b, b', ks, h1, h2, ha => by
    subst h1
    cases b with
    | true => exact ⟨rfl, rfl, fun h => by cases h⟩
    | false =>
      have e := h2 rfl
      subst e
      rw [readKeys, rKeys, if_neg (by decide), if_neg (by decide)]
      have ht := txt_ag hb (b := false) rfl (fun _ => rfl) ha
      rw [ht.1]
      exact keys_ag hb m _ _ _ _ _ ht.2.1 ht.2.2 (txtOf_at hb ha false)
def rhd (l : List Int) : Hd :=
  let cl := numOf l 65536 0 false
  let tm := numOf l 65536 cl.2.1 cl.2.2
  let kd := numOf l 65536 tm.2.1 tm.2.2
  let n := numOf l 65536 kd.2.1 kd.2.2
  let nm := OrderR.rtxt l n.2.1 n.2.2
  let pt := OrderR.rtxt l nm.2.1 nm.2.2
  ⟨cl, tm, kd, n, nm, pt, numOf l 65536 pt.2.1 pt.2.2⟩
def rKeysL (l : List Int) : List ByteArray × Nat × Bool := rKeys l (rhd l).ct.1.toNat (rhd l).ct.2.1 (rhd l).ct.2.2 []
theorem num_le {l : List Int} (hb : bytesOk l) {a : Nat} (ha : a ≤ l.length) (b : Bool) : (numOf l 65536 a b).2.1 ≤ l.length := (Go.Proofs.YtghfofjlafeliaaDoor.Order.numOf_at hb 65536 ha b).1
theorem n_le {l : List Int} (hb : bytesOk l) : (headOf l).n.2.1 ≤ l.length := num_le hb (num_le hb (num_le hb (num_le hb (Nat.zero_le _) _) _) _) _
theorem head_ag {l : List Int} (hb : bytesOk l) : AgR (headOf l).nm (rhd l).nm ∧ AgR (headOf l).pt (rhd l).pt ∧ AgR (headOf l).ct (rhd l).ct ∧ AgR (keysOfL l) (rKeysL l) := by
  have h1 : AgR (headOf l).nm (rhd l).nm := txt_ag hb rfl (fun _ => rfl) (n_le hb)
  have l1 : (headOf l).nm.2.1 ≤ l.length := txtOf_at hb (n_le hb) _
  have h2 : AgR (headOf l).pt (rhd l).pt := txt_ag hb h1.2.1 h1.2.2 l1
  have l2 : (headOf l).pt.2.1 ≤ l.length := txtOf_at hb l1 _
  have h3 : AgR (headOf l).ct (rhd l).ct := num_ag h2.2.1 h2.2.2
  have l3 : (headOf l).ct.2.1 ≤ l.length := num_le hb l2 _
  refine ⟨h1, h2, h3, ?_⟩
  unfold keysOfL rKeysL
  rw [h3.1]
  exact keys_ag hb _ _ _ _ _ _ h3.2.1 h3.2.2 l3
theorem rn {l : List Int} (hb : bytesOk l) (hl : l.length ≤ 100000000) {a : Nat} (ha : a ≤ l.length) (b : Bool) : becketref01_Reader_Num.f l (a : Int) b 65536 = some ((numOf l 65536 a b).1, ((numOf l 65536 a b).2.1 : Int), (numOf l 65536 a b).2.2) := by
  unfold becketref01_Reader_Num.f
  rw [if_pos ⟨OrderR.rdOk_mk hb hl ha, by decide, by decide⟩, Int.toNat_natCast]
theorem rt {l : List Int} (hb : bytesOk l) (hl : l.length ≤ 100000000) {a : Nat} (ha : a ≤ l.length) (b : Bool) : becketref01_Reader_Text.f l (a : Int) b = some ((OrderR.rtxt l a b).1, ((OrderR.rtxt l a b).2.1 : Int), (OrderR.rtxt l a b).2.2) := by
  unfold becketref01_Reader_Text.f
  rw [if_pos (OrderR.rdOk_mk hb hl ha), Int.toNat_natCast]
theorem rl0 {l : List Int} (hb : bytesOk l) (hl : l.length ≤ 100000000) (c t d : Int) (nm pt : ByteArray) (m : Int) (N : Nat) (hN : N ≤ 65536) (K : Nat) (R : Option (Int × Int × Int × ByteArray × ByteArray × List ByteArray × Int × Bool)) :
    ∀ (q k i at_ : Nat) (bad : Bool) (ks : List ByteArray), q = N - i → i ≤ N → K + q + 1 ≤ k → at_ ≤ l.length → ks.length ≤ i → (∀ k', K ≤ k' → becketref08_Get.j1 k' l l ((rKeys l q at_ bad ks).2.1 : Int) (rKeys l q at_ bad ks).2.2 c t d nm pt (rKeys l q at_ bad ks).1 m = R) →
      becketref08_Get.l0 k l (N : Int) (i : Int) l (at_ : Int) bad c t d nm pt ks m = R
  | 0, k, i, at_, bad, ks, hq, hi, hk, ha, hs, H => by
    obtain ⟨k, rfl⟩ : ∃ k', k = k' + 1 := ⟨k - 1, by omega⟩
    rw [becketref08_Get.l0, if_neg (by omega)]
    exact H k (by omega)
  | q + 1, k, i, at_, bad, ks, hq, hi, hk, ha, hs, H => by
    obtain ⟨k, rfl⟩ : ∃ k', k = k' + 1 := ⟨k - 1, by omega⟩
    rw [becketref08_Get.l0, if_pos (by omega)]
    cases bad with
    | true =>
      rw [if_pos rfl]
      exact H k (by omega)
    | false =>
      have hw : wrap64 ((i : Int) + 1) = ((i + 1 : Nat) : Int) := by rw [nat_wrap' (by omega)]
      rw [if_neg (by decide), rt hb hl ha, Option.bind_some, if_pos (by omega), hw]
      refine rl0 hb hl c t d nm pt m N hN K R q k (i + 1) _ _ _ (by omega) (by omega) (by omega) (rtxt_le hb ha _) (by rw [List.length_append, List.length_singleton]; omega) (fun k' hk' => ?_)
      exact H k' hk'
theorem rj1 (l : List Int) (at_ : Nat) (bad : Bool) (c t d : Int) (nm pt : ByteArray) (ks : List ByteArray) (m : Int) (hn : nm.size ≤ 5000) (hp : pt.size ≤ 5000) (k : Nat) (hk : 50010 ≤ k) :
    becketref08_Get.j1 k l l (at_ : Int) bad c t d nm pt ks m = some (if (!bad && decide (l.length ≤ at_)) = true ∧ mayB c t d nm pt ks m = true then (c, t, d, nm, pt, ks, m, true) else (0, 0, 0, ⟨#[]⟩, ⟨#[]⟩, [], 0, false)) := by
  obtain ⟨k, rfl⟩ : ∃ q, k = q + 2 := ⟨k - 2, by omega⟩
  rw [becketref08_Get.j1]
  cases bad with
  | true =>
    rw [if_pos rfl, becketref08_Get.j2, if_pos rfl, if_neg (fun h => by cases h.1)]
  | false =>
    rw [if_neg (by decide), becketref08_Get.j2]
    by_cases ha : l.length ≤ at_
    · rw [decide_eq_false (by omega : ¬ ((at_ : Int) < (l.length : Int))), if_neg (by decide), refmay_f k c t d nm pt ks m hn hp (by omega), Option.bind_some, decide_eq_true ha]
      by_cases hm : mayB c t d nm pt ks m = true
      · rw [if_pos hm, if_pos ⟨rfl, hm⟩]
      · rw [if_neg hm, if_neg (fun h => hm h.2)]
    · rw [decide_eq_true (by omega : ((at_ : Int) < (l.length : Int))), if_pos rfl, decide_eq_false ha, if_neg (fun h => by cases h.1)]
theorem hd_sizes {l : List Int} (hb : bytesOk l) : (headOf l).nm.1.size ≤ 5000 ∧ (headOf l).pt.1.size ≤ 5000 ∧ (keysOfL l).1.length ≤ 65536 := by
  refine ⟨?_, ?_, ?_⟩
  · have : (headOf l).nm.1.size ≤ 4096 := txt_size hb _ _; omega
  · have : (headOf l).pt.1.size ≤ 4096 := txt_size hb _ _; omega
  · unfold keysOfL
    have h1 := readKeys_len l (headOf l).ct.1.toNat (headOf l).ct.2.1 (headOf l).ct.2.2 []
    have h2 : (headOf l).ct.1.toNat ≤ 65536 := num_most hb _ _
    simp only [List.length_nil] at h1
    omega
def gotB (l : List Int) : Prop := wholeOf l = true ∧ mayB (headOf l).cl.1 (headOf l).tm.1 (headOf l).kd.1 (headOf l).nm.1 (headOf l).pt.1 (keysOfL l).1 (headOf l).n.1 = true
instance (l : List Int) : Decidable (gotB l) := by unfold gotB; exact inferInstance
theorem refget_f {l : List Int} (hb : bytesOk l) (hl : l.length ≤ 100000000) (k : Nat) (hk : 120000 ≤ k) :
    becketref08_Get.f k l = some (if gotB l then ((headOf l).cl.1, (headOf l).tm.1, (headOf l).kd.1, (headOf l).nm.1, (headOf l).pt.1, (keysOfL l).1, (headOf l).n.1, true) else (0, 0, 0, ⟨#[]⟩, ⟨#[]⟩, [], 0, false)) := by
  obtain ⟨a1, a2, a3, a4⟩ := head_ag hb
  obtain ⟨s1, s2, _⟩ := hd_sizes hb
  have l0 : (rhd l).cl.2.1 ≤ l.length := num_le hb (Nat.zero_le _) _
  have l1 : (rhd l).tm.2.1 ≤ l.length := num_le hb l0 _
  have l2 : (rhd l).kd.2.1 ≤ l.length := num_le hb l1 _
  have l3 : (rhd l).n.2.1 ≤ l.length := num_le hb l2 _
  have l4 : (rhd l).nm.2.1 ≤ l.length := rtxt_le hb l3 _
  have l5 : (rhd l).pt.2.1 ≤ l.length := rtxt_le hb l4 _
  have l6 : (rhd l).ct.2.1 ≤ l.length := num_le hb l5 _
  have g0 : becketref01_Reader_Num.f l 0 false 65536 = some ((rhd l).cl.1, ((rhd l).cl.2.1 : Int), (rhd l).cl.2.2) := rn hb hl (Nat.zero_le _) false
  have g1 : becketref01_Reader_Num.f l ((rhd l).cl.2.1 : Int) (rhd l).cl.2.2 65536 = some ((rhd l).tm.1, ((rhd l).tm.2.1 : Int), (rhd l).tm.2.2) := rn hb hl l0 _
  have g2 : becketref01_Reader_Num.f l ((rhd l).tm.2.1 : Int) (rhd l).tm.2.2 65536 = some ((rhd l).kd.1, ((rhd l).kd.2.1 : Int), (rhd l).kd.2.2) := rn hb hl l1 _
  have g3 : becketref01_Reader_Num.f l ((rhd l).kd.2.1 : Int) (rhd l).kd.2.2 65536 = some ((rhd l).n.1, ((rhd l).n.2.1 : Int), (rhd l).n.2.2) := rn hb hl l2 _
  have g4 : becketref01_Reader_Text.f l ((rhd l).n.2.1 : Int) (rhd l).n.2.2 = some ((rhd l).nm.1, ((rhd l).nm.2.1 : Int), (rhd l).nm.2.2) := rt hb hl l3 _
  have g5 : becketref01_Reader_Text.f l ((rhd l).nm.2.1 : Int) (rhd l).nm.2.2 = some ((rhd l).pt.1, ((rhd l).pt.2.1 : Int), (rhd l).pt.2.2) := rt hb hl l4 _
  have g6 : becketref01_Reader_Num.f l ((rhd l).pt.2.1 : Int) (rhd l).pt.2.2 65536 = some ((rhd l).ct.1, ((rhd l).ct.2.1 : Int), (rhd l).ct.2.2) := rn hb hl l5 _
  have hN : (rhd l).ct.1.toNat ≤ 65536 := num_most hb _ _
  have hp : 0 ≤ (rhd l).ct.1 := (Go.Proofs.YtghfofjlafeliaaDoor.Order.numOf_at hb 65536 l5 (rhd l).pt.2.2).2.1
  have hc : (rhd l).ct.1 = (((rhd l).ct.1.toNat : Nat) : Int) := (Int.toNat_of_nonneg hp).symm
  have e1 : (rhd l).nm.1 = (headOf l).nm.1 := a1.1.symm
  have e2 : (rhd l).pt.1 = (headOf l).pt.1 := a2.1.symm
  unfold becketref08_Get.f
  rw [g0, Option.bind_some]
  dsimp only
  rw [g1, Option.bind_some]
  dsimp only
  rw [g2, Option.bind_some]
  dsimp only
  rw [g3, Option.bind_some]
  dsimp only
  rw [g4, Option.bind_some]
  dsimp only
  rw [g5, Option.bind_some]
  dsimp only
  rw [g6, Option.bind_some]
  dsimp only
  rw [hc, e1, e2]
  refine rl0 hb hl _ _ _ _ _ _ (rhd l).ct.1.toNat hN 50010 _ (rhd l).ct.1.toNat k 0 (rhd l).ct.2.1 (rhd l).ct.2.2 [] (by omega) (Nat.zero_le _) (by omega) l6 (Nat.zero_le _) (fun k' hk' => ?_)
  show becketref08_Get.j1 k' l l ((rKeysL l).2.1 : Int) (rKeysL l).2.2 (headOf l).cl.1 (headOf l).tm.1 (headOf l).kd.1 (headOf l).nm.1 (headOf l).pt.1 (rKeysL l).1 (headOf l).n.1 = _
  rw [rj1 l _ _ _ _ _ _ _ _ _ s1 s2 k' hk', ← a4.1]
  have hw : (!(rKeysL l).2.2 && decide (l.length ≤ (rKeysL l).2.1)) = wholeOf l := by
    unfold wholeOf
    rw [← a4.2.1]
    cases hbd : (keysOfL l).2.2 with
    | true => rfl
    | false => rw [a4.2.2 hbd]
  rw [hw]
  rfl
theorem get_k {l : List Int} (hb : bytesOk l) (hl : l.length ≤ 1000000) (k : Nat) (hk : 6 ≤ k) :
    order_Get.f k l = some (if gotB l then ((headOf l).cl.1, (headOf l).tm.1, (headOf l).kd.1, (headOf l).nm.1, (headOf l).pt.1, (keysOfL l).1, (headOf l).n.1, none) else (0, 0, 0, ⟨#[]⟩, ⟨#[]⟩, [], 0, some 2)) := by
  have hall : (l.all fun x => decide (0 ≤ x) && decide (x ≤ 255)) = true := by
    rw [List.all_eq_true]
    intro x hx
    have := hb x hx
    simp [this.1, this.2]
  obtain ⟨s1, s2, s3⟩ := hd_sizes hb
  unfold order_Get.f
  rw [if_pos ⟨hall, hl⟩, check_f k _ _ _ _ _ _ _ s1 s2 (by omega) hk, Option.bind_some]
  by_cases hg : gotB l
  · rw [if_pos hg, if_pos hg.2, if_pos ⟨hg.1, rfl⟩]
  · rw [if_neg hg]
    by_cases hm : mayB (headOf l).cl.1 (headOf l).tm.1 (headOf l).kd.1 (headOf l).nm.1 (headOf l).pt.1 (keysOfL l).1 (headOf l).n.1 = true
    · rw [if_pos hm, if_neg (fun h => hg ⟨h.1, hm⟩)]
    · rw [if_neg hm, if_neg (fun h => by cases h.2)]
theorem OrderGets {l : List Int} (hb : bytesOk l) : ∃ k, becketlaw08_OrderGets.f k l = some true := by
  obtain ⟨k, hk⟩ : ∃ k : Nat, 120000 ≤ k := ⟨120000, Nat.le_refl _⟩
  refine ⟨k, ?_⟩
  unfold becketlaw08_OrderGets.f
  rw [up_f k (by omega), Option.bind_some]
  by_cases hl : (l.length : Int) > 5000
  · rw [if_pos hl]
  · rw [if_neg hl, get_k hb (by omega) k (by omega), Option.bind_some, refget_f hb (by omega) k hk, Option.bind_some]
    by_cases hg : gotB l
    · rw [if_pos hg, if_pos hg]
      have hs := same_f k (headOf l).cl.1 (headOf l).tm.1 (headOf l).kd.1 (headOf l).n.1 (headOf l).cl.1 (headOf l).tm.1 (headOf l).kd.1 (headOf l).n.1 (headOf l).nm.1 (headOf l).pt.1 (headOf l).nm.1 (headOf l).pt.1 (keysOfL l).1 (keysOfL l).1 (by have := (hd_sizes hb).2.2; omega) (by omega)
      simp only [hs, Option.isNone_none, if_true, Option.bind_some]
      simp
    · rw [if_neg hg, if_neg hg]
      have hs := same_f k 0 0 0 0 0 0 0 0 ⟨#[]⟩ ⟨#[]⟩ ⟨#[]⟩ ⟨#[]⟩ [] [] (by simp) (by omega)
      simp only [hs, Option.isNone_some, Bool.false_eq_true, if_false, if_true, Option.getD_some, Option.bind_some]
      simp
end Go.Proofs.YtghfofjlafeliaaDoor.PureO
