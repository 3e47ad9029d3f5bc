-- Cut by a program of this session (wip/shake.py) out of a text of this seat: what this claim doesn't reach is struck out. Lean checks it.
import Derived.Test.YtjlbfbibamnigaaBsxBp
import Derived.Lib.Hide
import Derived.BigRegion
import Derived.Maps.OwnSet
import Derived.Sort.KeysCollected
import Derived.Sort.Walk0
import Derived.StringKeys
import Derived.WideShapes
namespace Go.Proofs.Ytjlbfbibamnigaa.Blobs
open Go.RowKit Go.ChangeMaps Go.MapKept Go.WideShapes Go.WideAt Go.Sort Go.WideMaps Go.Proofs.Ytjlbfbibamnigaa.Bs Go.Proofs.YtjlbfbibamnigaaW.PrintWords Go.Proofs.YtjlbfbibamnigaaW.PrintLast Go.Proofs.YtjlbfbibamnigaaW.PrintMore
set_option linter.unusedVariables false
set_option linter.unusedSimpArgs false
section
open Go.Maps
def ent (s : ByteArray) : Lit × DataW Unit := (.string s.data.toList, .lit (.bool true))
def toD (l : List ByteArray) : DataW Unit := .map (l.map ent)
def lessB (a b : ByteArray) : Bool := bytesBefore a.data.toList b.data.toList
def Rising (l : List ByteArray) : Prop := l.Pairwise fun a b => lessB a b = true
def putL (key : ByteArray) : List ByteArray → List ByteArray
  | [] => [key]
  | x :: r => if lessB key x = true then key :: x :: r else x :: putL key r
theorem str_ext {a b : ByteArray} (h : a.data.toList = b.data.toList) : a = b := by
  cases a; cases b
  simp only [ByteArray.mk.injEq]
  exact Array.toList_inj.1 h
theorem same_ent (s key : ByteArray) : (ent s).1.sameKey (.string key.data.toList) = decide (s = key) := by
  unfold ent Lit.sameKey
  by_cases h : s = key
  · subst h; simp
  · rw [decide_eq_false h]
    have : s.data.toList ≠ key.data.toList := fun e => h (str_ext e)
    simpa using this
theorem insert_toD (key : ByteArray) : ∀ l : List ByteArray, DataW.insert (ent key) (l.map ent) = (putL key l).map ent
  | [] => rfl
  | x :: r => by
    rw [List.map_cons, DataW.insert, putL]
    have e : (ent key).1.before (ent x).1 = lessB key x := rfl
    rw [e]
    split
    · rfl
    · rw [insert_toD key r]; rfl
theorem put_toD {l : List ByteArray} {key : ByteArray} (h : key ∉ l) : (toD l).put (.string key.data.toList) (.lit (.bool true)) = toD (putL key l) := by
  unfold toD DataW.put
  simp only
  have e : (l.map ent).filter (fun p => !p.1.sameKey (.string key.data.toList)) = l.map ent := by
    rw [List.filter_eq_self]
    intro p hp
    obtain ⟨s, hs, rfl⟩ := List.mem_map.1 hp
    rw [same_ent, decide_eq_false (fun e => h (by rw [← e]; exact hs))]
    rfl
  rw [e]
  exact congrArg DataW.map (insert_toD key l)
theorem del_toD (l : List ByteArray) (key : ByteArray) : (toD l).del (.string key.data.toList) = toD (l.filter fun s => decide (s ≠ key)) := by
  unfold toD DataW.del
  simp only
  congr 1
  induction l with
  | nil => rfl
  | cons x r ih =>
    rw [List.map_cons, List.filter_cons, List.filter_cons, same_ent, ih]
    by_cases h : x = key
    · simp [h]
    · simp [h]
def hasB (l : List ByteArray) (key : ByteArray) : Bool := l.any fun s => decide (s = key)
theorem hasB_iff {l : List ByteArray} {key : ByteArray} : hasB l key = true ↔ key ∈ l := by
  unfold hasB
  rw [List.any_eq_true]
  constructor
  · rintro ⟨x, hx, h⟩
    rw [← of_decide_eq_true h]; exact hx
  · exact fun h => ⟨key, h, by simp⟩
theorem at_toD (l : List ByteArray) (key : ByteArray) : (toD l).atKey (.string key.data.toList) (.lit (.bool false)) = .lit (.bool (hasB l key)) := by
  unfold toD DataW.atKey hasB
  simp only
  induction l with
  | nil => simp
  | cons x r ih =>
    rw [List.map_cons, List.find?_cons, same_ent, List.any_cons]
    by_cases h : x = key
    · subst h; simp [ent]
    · rw [decide_eq_false h]
      simp only [Bool.false_or]
      exact ih
theorem size_toD (l : List ByteArray) : Maps.size (toD l) = l.length := by unfold toD Maps.size; simp
theorem keys_toD (l : List ByteArray) : strKeys (toD l) = l.map fun s => s.data.toList := by
  unfold toD strKeys
  simp only [List.map_map]
  rfl
variable {P : Program} {k e t : TypeId} {w : World} {b : Nat} {l : List ByteArray}
structure SetIs (P : Program) (k e : TypeId) (w : World) (b : Nat) (l : List ByteArray) : Prop where
  up : Rising l
  own : w.ownsMap P k (plainElem P e) b l.length (toD l)
theorem plainElem_bool_inv {H : Type} (he : P.underlying e = some .bool) {v : Value} {z : DataW H × List MemPlace} (h : plainElem P e v = some z) : ∃ x, v = .bool x ∧ z = (.lit (.bool x), []) := by
  unfold plainElem at h
  rw [he] at h
  cases v <;> simp at h
  exact ⟨_, rfl, h.symm⟩
theorem SetIs.look (h : SetIs P k e w b l) (hk : P.underlying k = some .string) (he : P.underlying e = some .bool) (ht : P.underlying t = some (.map k e)) (hz : (zeroValue e).run P w = .ok (.bool false) w) (s : ByteArray) (hs : s.size ≤ maxLen) :
    (Instr.lookup t (.map (some b)) (.string s) false).run P w = .ok (.bool (hasB l s)) w := by
  obtain ⟨v, ps, hrun, hv⟩ := h.own.lookup (string_keyed hk) ht hz (plainElem_bool he false) (keyOf_string_mk hk hs)
  rw [at_toD] at hv
  obtain ⟨x, rfl, hx⟩ := plainElem_bool_inv he hv
  simp only [Prod.mk.injEq, DataW.lit.injEq, Lit.bool.injEq] at hx
  rw [hrun, hx.1]
theorem tight {H : Type} {R : Value → Option (DataW H × List MemPlace)} {n : Nat} {D : DataW H} (h : w.ownsMap P k R b n D) : w.ownsMap P k R b (Maps.size D) D := by
  obtain ⟨es, clock, hb, F, hs, rfl⟩ := h
  exact ⟨es, clock, hb, F, by simp [Maps.size, length_sorted], rfl⟩
theorem lessB_trans {x y z : ByteArray} (h1 : lessB x y = true) (h2 : lessB y z = true) : lessB x z = true := bytes_trans _ _ _ h1 h2
theorem lessB_irr (x : ByteArray) : lessB x x = false := bytes_irrefl _
theorem lessB_tot {x y : ByteArray} (h : x ≠ y) : lessB x y = true ∨ lessB y x = true := bytes_total _ _ (fun e => h (str_ext e))
theorem before_lt : ∀ x y : List UInt8, bytesBefore x y = true ↔ x < y
  | [], [] => by simp [bytesBefore]
  | [], _ :: _ => by simp [bytesBefore]
  | _ :: _, [] => by simp [bytesBefore]
  | a :: r, b :: s => by
    have ih := before_lt r s
    rw [bytesBefore, List.cons_lt_cons_iff]
    simp only [Bool.or_eq_true, decide_eq_true_eq, Bool.and_eq_true, beq_iff_eq, ih]
theorem mem_putL {key x : ByteArray} : ∀ {l : List ByteArray}, x ∈ putL key l ↔ x = key ∨ x ∈ l
  | [] => by simp [putL]
  | y :: r => by
    rw [putL]
    split
    · simp
    · rw [List.mem_cons, mem_putL (l := r), List.mem_cons]
      constructor
      · rintro (h | h | h)
        · exact .inr (.inl h)
        · exact .inl h
        · exact .inr (.inr h)
      · rintro (h | h | h)
        · exact .inr (.inl h)
        · exact .inl h
        · exact .inr (.inr h)
theorem putL_len (key : ByteArray) : ∀ l : List ByteArray, (putL key l).length = l.length + 1
  | [] => rfl
  | y :: r => by
    rw [putL]
    split
    · rfl
    · rw [List.length_cons, putL_len key r, List.length_cons]
theorem Rising.put {key : ByteArray} : ∀ {l : List ByteArray}, Rising l → key ∉ l → Rising (putL key l)
  | [], _, _ => by simp [putL, Rising]
  | y :: r, h, hn => by
    obtain ⟨h1, h2⟩ := List.pairwise_cons.1 h
    rw [putL]
    split
    · rename_i hlt
      refine List.pairwise_cons.2 ⟨fun z hz => ?_, h⟩
      rcases List.mem_cons.1 hz with e | e
      · rw [e]; exact hlt
      · exact lessB_trans hlt (h1 z e)
    · rename_i hlt
      have hy : lessB y key = true := (lessB_tot (fun e => hn (by rw [e]; simp))).resolve_right hlt
      refine List.pairwise_cons.2 ⟨fun z hz => ?_, Rising.put h2 (fun e => hn (by simp [e]))⟩
      rcases mem_putL.1 hz with e | e
      · rw [e]; exact hy
      · exact h1 z e
theorem Rising.filter {l : List ByteArray} (h : Rising l) (p : ByteArray → Bool) : Rising (l.filter p) := List.Pairwise.sublist List.filter_sublist h
theorem Rising.nodup {l : List ByteArray} (h : Rising l) : l.Nodup := List.Pairwise.imp (fun {a b} hab e => by rw [e, lessB_irr] at hab; cases hab) h
theorem SetIs.made (P : Program) (k e : TypeId) (w : World) : SetIs P k e (w.alloc (.map #[] 0)) w.heap.size [] := ⟨List.Pairwise.nil, World.ownsMap_made w P k _⟩
theorem SetIs.kept {w' : World} {row : Option Nat} (h : SetIs P k e w b l) (hg : w.grownBy w' row) (hne : some b ≠ row) : SetIs P k e w' b l := ⟨h.up, h.own.kept hg hne⟩
theorem SetIs.of_heap {w' : World} (h : SetIs P k e w b l) (hb : w'.heap[b]? = w.heap[b]?) : SetIs P k e w' b l := by
  obtain ⟨h1, es, clock, hh, r⟩ := h
  exact ⟨h1, es, clock, hb.trans hh, r⟩
theorem SetIs.lt (h : SetIs P k e w b l) : b < w.heap.size := h.own.lt
theorem wp_put {ops : Array Oper} {rest : List Oper} {o : Oper} {a : Act} {Q : Exit → Act → World → Prop} (hg : o.guard = none) (m x v : Operand) (t : TypeId) (hop : o.op = Op.mapUpdate t m x v)
    (hk : P.underlying k = some .string) (he : P.underlying e = some .bool) (ht : P.underlying t = some (.map k e)) (hm : a.eval m = .map (some b)) (h : SetIs P k e w b l) (hn : l.length < 1000000) (key : ByteArray) (hs : key.size ≤ maxLen) (hx : a.eval x = .string key) (hv : a.eval v = .bool true) (hkey : key ∉ l)
    (hK : ∀ w', SetIs P k e w' b (putL key l) → w.grownBy w' (some b) → wpList P ops Q rest (a.put o.dst undef) w') : wpList P ops Q (o :: rest) a w := by
  refine wpList_mapUpdate_own w hg m x v t hop k e (string_keyed hk) ht _ b l.length (toD l) hm h.own (by simp [maxLen]; omega) _ _ _ hx hv (keyOf_string_mk hk hs) (.lit (.bool true)) [] (plainElem_bool he true) (fun w' h1 h2 => hK w' ⟨h.up.put hkey, ?_⟩ h2)
  have h3 := tight h1
  rw [put_toD hkey, size_toD] at h3
  exact h3
theorem wp_drop {ops : Array Oper} {rest : List Oper} {o : Oper} {a : Act} {Q : Exit → Act → World → Prop} (hg : o.guard = none) (m x : Operand) (t : TypeId) (hop : o.op = Op.call { callee := Callee.builtin Builtin.delete, args := #[m, x], argTypes := #[t, k] })
    (hk : P.underlying k = some .string) (ht : P.underlying t = some (.map k e)) (hm : a.eval m = .map (some b)) (h : SetIs P k e w b l) (key : ByteArray) (hs : key.size ≤ maxLen) (hx : a.eval x = .string key)
    (hK : ∀ w', SetIs P k e w' b (l.filter fun s => decide (s ≠ key)) → w.grownBy w' (some b) → wpList P ops Q rest (a.put o.dst (.tuple #[])) w') : wpList P ops Q (o :: rest) a w := by
  refine wpList_delete_own w hg m x t k hop e (string_keyed hk) ht _ b l.length (toD l) hm h.own (.string key) _ hx (keyOf_string_mk hk hs) (fun w' h1 h2 => hK w' ⟨h.up.filter _, ?_⟩ h2.grown)
  have h3 := tight h1
  rw [del_toD, size_toD] at h3
  exact h3
theorem keys_sorted {l : List ByteArray} (h : Rising l) {ss : List (List UInt8)} (hp : ss.Perm (strKeys (toD l))) : ss.mergeSort (fun x y => decide (x ≤ y)) = l.map fun s => s.data.toList := by
  have h1 := mergeSort_of_perm hp
  rw [keys_toD] at h1
  refine (show ss.mergeSort leB = _ from h1).trans (List.mergeSort_of_pairwise ?_)
  refine List.Pairwise.map _ (fun a b hab => ?_) h
  have : a.data.toList < b.data.toList := (before_lt _ _).1 hab
  simp only [leB, decide_eq_true_eq]
  exact List.le_of_lt this
end
theorem wz {z : Int} {y : Int} (h : z = y) (h0 : 0 ≤ y) (h1 : y ≤ 1099511627776) : wrap64 z = y := by subst h; unfold wrap64; omega
theorem rdS (xs : List ByteArray) (i : Nat) (h : i < xs.length) : rdOf ByteArray.empty xs (i : Int) = xs[i] := by
  unfold rdOf
  rw [Int.toNat_natCast, List.getD_eq_getElem?_getD, List.getElem?_eq_getElem h]
  rfl
theorem toL (s : ByteArray) : s.toList = s.data.toList := Go.ByteArray.toList_eq s
theorem toL_iff {a b : ByteArray} : a.toList = b.toList ↔ a = b := ⟨fun h => str_ext (by rw [← toL, ← toL, h]), fun h => by rw [h]⟩
theorem less_iff (a b : ByteArray) : Op.bytesLess a.toList b.toList = lessB a b := by
  rw [bytesLess_eq, toL, toL]
  unfold lessB
  by_cases h : a.data.toList < b.data.toList
  · rw [decide_eq_true h, (before_lt _ _).2 h]
  · rw [decide_eq_false h]
    cases hb : bytesBefore a.data.toList b.data.toList with
    | false => rfl
    | true => exact absurd ((before_lt _ _).1 hb) h
theorem hasB_cons (x : ByteArray) (r : List ByteArray) (key : ByteArray) : hasB (x :: r) key = (decide (x = key) || hasB r key) := rfl
theorem has_l0 (l : List ByteArray) (hl : l.length ≤ 100000) (key : ByteArray) : ∀ (q k i : Nat), q = l.length - i → i ≤ l.length → q + 1 ≤ k → becketref04_Has.l0 k l key i = some (hasB (l.drop i) key)
  | 0, k, i, hq, hi, hk => by
    obtain ⟨k, rfl⟩ : ∃ k', k = k' + 1 := ⟨k - 1, by omega⟩
    have : i = l.length := by omega
    subst this
    rw [becketref04_Has.l0, if_neg (by omega), List.drop_length]
    rfl
  | q + 1, k, i, hq, hi, hk => by
    obtain ⟨k, rfl⟩ : ∃ k', k = k' + 1 := ⟨k - 1, by omega⟩
    have hlt : i < l.length := by omega
    rw [becketref04_Has.l0, if_pos (by omega), if_pos (by omega), rdS l i hlt, List.drop_eq_getElem_cons hlt, hasB_cons]
    by_cases h : l[i] = key
    · rw [if_pos (toL_iff.2 h), decide_eq_true h]; rfl
    · rw [if_neg (fun e => h (toL_iff.1 e)), decide_eq_false h, Bool.false_or, wz (z := (i : Int) + 1) (y := ((i + 1 : Nat) : Int)) (by omega) (by omega) (by omega)]
      exact has_l0 l hl key q k (i + 1) (by omega) (by omega) (by omega)
theorem has_f (l : List ByteArray) (hl : l.length ≤ 100000) (key : ByteArray) (k : Nat) (hk : 100001 ≤ k) : becketref04_Has.f k l key = some (hasB l key) := has_l0 l hl key l.length k 0 (by omega) (by omega) (by omega)
theorem index_l0 (l : List ByteArray) (hl : l.length ≤ 100000) (key : ByteArray) : ∀ (q k i : Nat), q = l.length - i → i ≤ l.length → q + 1 ≤ k → ∃ r : Int, slices_Index_string_string.l0 k l key l.length i = some r ∧ decide (r ≥ 0) = hasB (l.drop i) key
  | 0, k, i, hq, hi, hk => by
    obtain ⟨k, rfl⟩ : ∃ k', k = k' + 1 := ⟨k - 1, by omega⟩
    have : i = l.length := by omega
    subst this
    rw [slices_Index_string_string.l0, if_neg (by omega), List.drop_length]
    exact ⟨_, rfl, rfl⟩
  | q + 1, k, i, hq, hi, hk => by
    obtain ⟨k, rfl⟩ : ∃ k', k = k' + 1 := ⟨k - 1, by omega⟩
    have hlt : i < l.length := by omega
    rw [slices_Index_string_string.l0, if_pos (by omega), if_pos (by omega), if_pos (by omega), rdS l i hlt, List.drop_eq_getElem_cons hlt, hasB_cons]
    by_cases h : l[i] = key
    · rw [if_pos (toL_iff.2 h.symm), decide_eq_true h]
      exact ⟨_, rfl, by simp⟩
    · rw [if_neg (fun e => h (toL_iff.1 e).symm), decide_eq_false h, Bool.false_or, wz (z := (i : Int) + 1) (y := ((i + 1 : Nat) : Int)) (by omega) (by omega) (by omega)]
      exact index_l0 l hl key q k (i + 1) (by omega) (by omega) (by omega)
theorem contains_f (l : List ByteArray) (hl : l.length ≤ 100000) (key : ByteArray) : slices_Contains_string_string.f 100001 l key = some (hasB l key) := by
  unfold slices_Contains_string_string.f slices_Index_string_string.f
  obtain ⟨r, h1, h2⟩ := index_l0 l hl key l.length 100001 0 (by omega) (by omega) (by omega)
  have h1' : slices_Index_string_string.l0 100001 l key l.length 0 = some r := h1
  rw [h1', Option.bind_some, h2]
  rfl
theorem only_l0 (l some_ : List ByteArray) (hl : l.length ≤ 100000) (hs : some_.length ≤ 100000) (is : Bool) : ∀ (q k i : Nat) (acc : List ByteArray), q = l.length - i → i ≤ l.length → acc.length + q ≤ 100000 → q + 100002 ≤ k → becketlaw07_only.l0 k l some_ is acc i = some (acc ++ (l.drop i).filter fun x => hasB some_ x == is)
  | 0, k, i, acc, hq, hi, ha, hk => by
    obtain ⟨k, rfl⟩ : ∃ k', k = k' + 1 := ⟨k - 1, by omega⟩
    have : i = l.length := by omega
    subst this
    rw [becketlaw07_only.l0, if_neg (by omega), List.drop_length]
    simp
  | q + 1, k, i, acc, hq, hi, ha, hk => by
    obtain ⟨k, rfl⟩ : ∃ k', k = k' + 1 := ⟨k - 1, by omega⟩
    have hlt : i < l.length := by omega
    rw [becketlaw07_only.l0, if_pos (by omega), if_pos (by omega), rdS l i hlt, has_f some_ hs _ k (by omega), Option.bind_some, List.drop_eq_getElem_cons hlt, List.filter_cons, wz (z := (i : Int) + 1) (y := ((i + 1 : Nat) : Int)) (by omega) (by omega) (by omega)]
    by_cases h : (hasB some_ l[i] == is) = true
    · rw [if_pos h, if_pos (by omega), if_pos h, only_l0 l some_ hl hs is q k (i + 1) _ (by omega) (by omega) (by rw [List.length_append, List.length_singleton]; omega) (by omega), List.append_assoc]
      rfl
    · rw [if_neg h, if_neg h, only_l0 l some_ hl hs is q k (i + 1) _ (by omega) (by omega) (by omega) (by omega)]
theorem only_f (l some_ : List ByteArray) (hl : l.length ≤ 100000) (hs : some_.length ≤ 100000) (is : Bool) : becketlaw07_only.f 300000 l some_ is = some (l.filter fun x => hasB some_ x == is) := by
  unfold becketlaw07_only.f
  have := only_l0 l some_ hl hs is l.length 300000 0 [] (by omega) (by omega) (by simp; omega) (by omega)
  simpa using this
def sizeL (l : List ByteArray) : Nat := (l.map ByteArray.size).sum
theorem size_l0 (l : List ByteArray) (hl : l.length ≤ 100000) (hz : sizeL l ≤ 1000000) : ∀ (q k i : Nat), q = l.length - i → i ≤ l.length → q + 1 ≤ k → becketlaw07_size.l0 k l (sizeL (l.take i)) i = some (sizeL l : Int)
  | 0, k, i, hq, hi, hk => by
    obtain ⟨k, rfl⟩ : ∃ k', k = k' + 1 := ⟨k - 1, by omega⟩
    have : i = l.length := by omega
    subst this
    rw [becketlaw07_size.l0, if_neg (by omega), List.take_length]
  | q + 1, k, i, hq, hi, hk => by
    obtain ⟨k, rfl⟩ : ∃ k', k = k' + 1 := ⟨k - 1, by omega⟩
    have hlt : i < l.length := by omega
    have hs : sizeL (l.take (i + 1)) = sizeL (l.take i) + (l[i]).size := by
      unfold sizeL
      rw [← List.take_append_getElem hlt, List.map_append, List.sum_append]
      simp
    have hle : sizeL (l.take (i + 1)) ≤ sizeL l := by
      unfold sizeL
      conv => rhs; rw [← List.take_append_drop (i + 1) l, List.map_append, List.sum_append]
      omega
    rw [becketlaw07_size.l0, if_pos (by omega), if_pos (by omega), rdS l i hlt, wz (z := (i : Int) + 1) (y := ((i + 1 : Nat) : Int)) (by omega) (by omega) (by omega), wz (z := (sizeL (l.take i) : Int) + ((l[i]).size : Int)) (y := (sizeL (l.take (i + 1)) : Int)) (by omega) (by omega) (by omega)]
    exact size_l0 l hl hz q k (i + 1) (by omega) (by omega) (by omega)
theorem size_f (l : List ByteArray) (hl : l.length ≤ 100000) (hz : sizeL l ≤ 1000000) : becketlaw07_size.f 100001 l = some (sizeL l : Int) := by
  unfold becketlaw07_size.f
  exact size_l0 l hl hz l.length 100001 0 (by omega) (by omega) (by omega)
theorem sameS_l0 (l : List ByteArray) (hl : l.length ≤ 100000) : ∀ (q k i : Nat), q = l.length - i → i ≤ l.length → q + 1 ≤ k → becketref03_Same.l0 k l l i = some true
  | 0, k, i, hq, hi, hk => by
    obtain ⟨k, rfl⟩ : ∃ k', k = k' + 1 := ⟨k - 1, by omega⟩
    rw [becketref03_Same.l0, if_neg (by omega)]
  | q + 1, k, i, hq, hi, hk => by
    obtain ⟨k, rfl⟩ : ∃ k', k = k' + 1 := ⟨k - 1, by omega⟩
    rw [becketref03_Same.l0, if_pos (by omega), if_pos (by omega), if_pos (by omega), if_pos rfl, wz (z := (i : Int) + 1) (y := ((i + 1 : Nat) : Int)) (by omega) (by omega) (by omega)]
    exact sameS_l0 l hl q k (i + 1) (by omega) (by omega) (by omega)
theorem same_f (l : List ByteArray) (hl : l.length ≤ 100000) : becketref03_Same.f 100001 l l = some true := by
  unfold becketref03_Same.f
  rw [if_pos rfl]
  exact sameS_l0 l hl l.length 100001 0 (by omega) (by omega) (by omega)
theorem putT_l0 (l : List ByteArray) (hl : l.length ≤ 100000) (key : ByteArray) : ∀ (q k i : Nat) (acc : List ByteArray), q = l.length - i → i ≤ l.length → acc.length + q ≤ 200000 → q + 1 ≤ k → becketlaw07_put.l0 k l key acc true i = some (acc ++ l.drop i)
  | 0, k, i, acc, hq, hi, ha, hk => by
    obtain ⟨k, rfl⟩ : ∃ k', k = k' + 1 := ⟨k - 1, by omega⟩
    have : i = l.length := by omega
    subst this
    rw [becketlaw07_put.l0, if_neg (by omega), List.drop_length]
    simp
  | q + 1, k, i, acc, hq, hi, ha, hk => by
    obtain ⟨k, rfl⟩ : ∃ k', k = k' + 1 := ⟨k - 1, by omega⟩
    have hlt : i < l.length := by omega
    rw [becketlaw07_put.l0, if_pos (by omega), if_pos rfl, if_pos (by omega), if_pos (by omega), rdS l i hlt, wz (z := (i : Int) + 1) (y := ((i + 1 : Nat) : Int)) (by omega) (by omega) (by omega), putT_l0 l hl key q k (i + 1) _ (by omega) (by omega) (by rw [List.length_append, List.length_singleton]; omega) (by omega), List.append_assoc, List.drop_eq_getElem_cons hlt]
    rfl
theorem putF_l0 (l : List ByteArray) (hl : l.length ≤ 100000) (key : ByteArray) : ∀ (q k i : Nat) (acc : List ByteArray), q = l.length - i → i ≤ l.length → acc.length + q ≤ 100000 → q + 2 ≤ k → becketlaw07_put.l0 k l key acc false i = some (acc ++ putL key (l.drop i))
  | 0, k, i, acc, hq, hi, ha, hk => by
    obtain ⟨k, rfl⟩ : ∃ k', k = k' + 1 := ⟨k - 1, by omega⟩
    have : i = l.length := by omega
    subst this
    rw [becketlaw07_put.l0, if_neg (by omega), List.drop_length]
    simp [putL]
    try omega
  | q + 1, k, i, acc, hq, hi, ha, hk => by
    obtain ⟨k, rfl⟩ : ∃ k', k = k' + 1 := ⟨k - 1, by omega⟩
    have hlt : i < l.length := by omega
    rw [becketlaw07_put.l0, if_pos (by omega), if_neg (by decide), if_pos (by omega), rdS l i hlt, less_iff, List.drop_eq_getElem_cons hlt, putL, wz (z := (i : Int) + 1) (y := ((i + 1 : Nat) : Int)) (by omega) (by omega) (by omega)]
    by_cases h : lessB key l[i] = true
    · rw [if_pos h, if_pos (by omega), Option.bind_some, if_pos (by rw [List.length_append, List.length_singleton]; omega), if_pos h, putT_l0 l hl key q k (i + 1) _ (by omega) (by omega) (by rw [List.length_append, List.length_append]; simp; omega) (by omega), List.append_assoc, List.append_assoc]
      rfl
    · rw [if_neg h, if_neg h, if_pos (by omega), putF_l0 l hl key q k (i + 1) _ (by omega) (by omega) (by rw [List.length_append, List.length_singleton]; omega) (by omega), List.append_assoc]
      rfl
theorem put_f (l : List ByteArray) (hl : l.length ≤ 99000) (key : ByteArray) : becketlaw07_put.f 200000 l key = some (putL key l) := by
  unfold becketlaw07_put.f
  have := putF_l0 l (by omega) key l.length 200000 0 [] (by omega) (by omega) (by simp; omega) (by omega)
  simpa using this
theorem pick_f (c : Int) (hc : -9223372036854775808 ≤ c ∧ c ≤ 9223372036854775807) (n : Nat) (hn : 0 < n) : ∃ r : Nat, r < n ∧ becketlaw07_pick.f c n = some (r : Int) := by
  unfold becketlaw07_pick.f
  have key : ∀ x : Int, 0 ≤ x → ∃ r : Nat, r < n ∧ some (Int.tmod x n) = some (r : Int) := fun x hx => by
    refine ⟨(Int.tmod x n).toNat, ?_, ?_⟩
    · have h1 := Int.tmod_lt_of_pos x (show (0 : Int) < n by omega)
      have h2 := Int.tmod_nonneg n hx
      omega
    · have h2 := Int.tmod_nonneg n hx
      rw [Int.toNat_of_nonneg h2]
  by_cases h : c < 0
  · rw [if_pos h, if_neg (by omega)]
    have e : wrap64 (-(wrap64 (c + 1))) = -(c + 1) := by unfold wrap64; omega
    rw [e]
    exact key _ (by omega)
  · rw [if_neg h, if_neg (by omega)]
    exact key _ (by omega)
end Go.Proofs.Ytjlbfbibamnigaa.Blobs
