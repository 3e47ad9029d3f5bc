/-
  The pure statements of the layer vote. Conditions: those of the given statements, none besides.
-/
import Derived.Test.YtbnhoacchibbnaaPureVote
import Derived.Test.YtbnhoacchibbnaaVox5
import Derived.DataShut
namespace Go.Proofs.Ytbnhoacchibbnaa.PureVoteTells
open Go.RowKit Go.Proofs.Ytbnhoacchibbnaa.PureVote Go.Proofs.Ytbnhoacchibbnaa.Vo Go.Proofs.YtbnhoacchibbnaaW.PrintWords Go.Proofs.YtbnhoacchibbnaaW.PrintLast Go.Proofs.YtbnhoacchibbnaaW.PrintMore
set_option linter.unusedSimpArgs false
theorem whoL_append (what : ByteArray) : ∀ (l m : List S87) (acc : List Int), whoL what acc (l ++ m) = whoL what (whoL what acc l) m
  | [], m, acc => by simp [whoL]
  | v :: l, m, acc => by
    have e1 : ∀ (acc : List Int) (r : List S87), whoL what acc (v :: r) = if v.f1.toList = what.toList then (if acc.contains v.f0 = true then whoL what acc r else whoL what (acc ++ [v.f0]) r) else whoL what acc r := fun _ _ => rfl
    rw [List.cons_append, e1, e1]
    by_cases h1 : v.f1.toList = what.toList
    · rw [if_pos h1, if_pos h1]
      by_cases h2 : acc.contains v.f0 = true
      · rw [if_pos h2, if_pos h2]; exact whoL_append what l m acc
      · rw [if_neg h2, if_neg h2]; exact whoL_append what l m _
    · rw [if_neg h1, if_neg h1]; exact whoL_append what l m acc
theorem winL_more (need : Int) (v : S87) (l : List S87) (a : ByteArray) : ∀ (r : List S87) (i : Nat), i + r.length = l.length → winL need l r i = (a, true) → winL need (l ++ [v]) (r ++ [v]) i = (a, true)
  | [], i, hi, h => by simp [winL] at h
  | u :: r, i, hi, h => by
    rw [List.cons_append]
    unfold winL at h ⊢
    have hle : i + 1 ≤ l.length := by simp at hi; omega
    rw [List.take_append_of_le_length hle]
    split
    · next hc => rw [if_pos hc] at h; exact h
    · next hc =>
      rw [if_neg hc] at h
      exact winL_more need v l a r (i + 1) (by simp at hi; omega) h
/-- Sorted insertion, each once. -/
def insl (x : Int) : List Int → List Int
  | [] => [x]
  | y :: r => if y < x then y :: insl x r else if y = x then y :: r else x :: y :: r
theorem insl_mem (x : Int) : ∀ (s : List Int) (z : Int), z ∈ insl x s ↔ z = x ∨ z ∈ s
  | [], z => by simp [insl]
  | y :: r, z => by
    unfold insl
    by_cases h1 : y < x
    · rw [if_pos h1, List.mem_cons, insl_mem x r z, List.mem_cons]
      constructor
      · rintro (h | h | h)
        · exact .inr (.inl h)
        · exact .inl h
        · exact .inr (.inr h)
      · rintro (h | h | h)
        · exact .inr (.inl h)
        · exact .inl h
        · exact .inr (.inr h)
    · rw [if_neg h1]
      by_cases h2 : y = x
      · rw [if_pos h2]
        subst h2
        simp
      · rw [if_neg h2, List.mem_cons]
theorem insl_sorted (x : Int) : ∀ (s : List Int), s.Pairwise (· < ·) → (insl x s).Pairwise (· < ·)
  | [], _ => by simp [insl]
  | y :: r, h => by
    rw [List.pairwise_cons] at h
    unfold insl
    by_cases h1 : y < x
    · rw [if_pos h1, List.pairwise_cons]
      refine ⟨fun z hz => ?_, insl_sorted x r h.2⟩
      rcases (insl_mem x r z).1 hz with e | e
      · omega
      · exact h.1 z e
    · rw [if_neg h1]
      by_cases h2 : y = x
      · rw [if_pos h2]; exact List.pairwise_cons.2 h
      · rw [if_neg h2, List.pairwise_cons]
        refine ⟨fun z hz => ?_, List.pairwise_cons.2 h⟩
        rcases List.mem_cons.1 hz with e | e
        · omega
        · have := h.1 z e; omega
/-- Two rising lists with the same elements are one. -/
theorem rising_ext : ∀ (s t : List Int), s.Pairwise (· < ·) → t.Pairwise (· < ·) → (∀ z, z ∈ s ↔ z ∈ t) → s = t
  | [], [], _, _, _ => rfl
  | [], y :: t, _, _, h => absurd ((h y).2 (by simp)) (by simp)
  | x :: s, [], _, _, h => absurd ((h x).1 (by simp)) (by simp)
  | x :: s, y :: t, hs, ht, h => by
    rw [List.pairwise_cons] at hs ht
    have e : x = y := by
      have h1 := (h x).1 (by simp)
      have h2 := (h y).2 (by simp)
      rcases List.mem_cons.1 h1 with e1 | e1
      · exact e1
      · rcases List.mem_cons.1 h2 with e2 | e2
        · exact e2.symm
        · have := hs.1 y e2; have := ht.1 x e1; omega
    subst e
    congr 1
    refine rising_ext s t hs.2 ht.2 (fun z => ?_)
    have hz := h z
    rw [List.mem_cons, List.mem_cons] at hz
    constructor
    · intro h1
      rcases hz.1 (.inr h1) with e | e
      · subst e; exact absurd (hs.1 _ h1) (by omega)
      · exact e
    · intro h1
      rcases hz.2 (.inr h1) with e | e
      · subst e; exact absurd (ht.1 _ h1) (by omega)
      · exact e
theorem srt_mem (l : List Int) (z : Int) : z ∈ srt l ↔ z ∈ l := (List.mergeSort_perm l _).mem_iff
theorem srt_len (l : List Int) : (srt l).length = l.length := by simp [srt, List.length_mergeSort]
theorem srt_rising (l : List Int) (h : l.Nodup) : (srt l).Pairwise (· < ·) := by
  have h1 : (srt l).Pairwise fun x y => decide (x ≤ y) = true := List.pairwise_mergeSort (fun a b c hab hbc => by simp at *; omega) (fun a b => by simp; omega) l
  have h2 : (srt l).Nodup := (List.mergeSort_perm l _).nodup_iff.2 h
  unfold List.Nodup at h2
  refine (h1.and h2).imp ?_
  rintro a b ⟨h3, h4⟩
  have := of_decide_eq_true h3
  omega
/-- One vote more in whoL. -/
def whoStep (what : ByteArray) (acc : List Int) (v : S87) : List Int := if v.f1.toList = what.toList then (if acc.contains v.f0 = true then acc else acc ++ [v.f0]) else acc
theorem whoL_one (what : ByteArray) (acc : List Int) (v : S87) : whoL what acc [v] = whoStep what acc v := by
  have e1 : ∀ (acc : List Int) (r : List S87), whoL what acc (v :: r) = if v.f1.toList = what.toList then (if acc.contains v.f0 = true then whoL what acc r else whoL what (acc ++ [v.f0]) r) else whoL what acc r := fun _ _ => rfl
  have e0 : ∀ acc : List Int, whoL what acc [] = acc := fun _ => rfl
  rw [e1, e0, e0]; rfl
theorem whoL_take (what : ByteArray) (l : List S87) (i : Nat) (h : i < l.length) : whoL what [] (l.take (i + 1)) = whoStep what (whoL what [] (l.take i)) l[i] := by
  have e : l.take (i + 1) = l.take i ++ [l[i]] := by simp
  rw [e, whoL_append, whoL_one]
theorem whoL_nodup (what : ByteArray) : ∀ (l : List S87) (acc : List Int), acc.Nodup → (whoL what acc l).Nodup
  | [], acc, h => h
  | v :: l, acc, h => by
    have e1 : ∀ (acc : List Int) (r : List S87), whoL what acc (v :: r) = if v.f1.toList = what.toList then (if acc.contains v.f0 = true then whoL what acc r else whoL what (acc ++ [v.f0]) r) else whoL what acc r := fun _ _ => rfl
    rw [e1]
    by_cases h1 : v.f1.toList = what.toList
    · rw [if_pos h1]
      by_cases h2 : acc.contains v.f0 = true
      · rw [if_pos h2]; exact whoL_nodup what l acc h
      · rw [if_neg h2]
        refine whoL_nodup what l _ ?_
        have h3 : v.f0 ∉ acc := fun h => h2 (by simpa using h)
        rw [List.nodup_append]
        refine ⟨h, by simp, ?_⟩
        intro a ha b hb e
        have : b = v.f0 := by simpa using hb
        subst e; subst this
        exact h3 ha
    · rw [if_neg h1]; exact whoL_nodup what l acc h
theorem insl_srt (x : Int) (acc : List Int) (h : acc.Nodup) : insl x (srt acc) = srt (if acc.contains x = true then acc else acc ++ [x]) := by
  by_cases hx : acc.contains x = true
  · rw [if_pos hx]
    refine rising_ext _ _ (insl_sorted x _ (srt_rising _ h)) (srt_rising _ h) (fun z => ?_)
    rw [insl_mem]
    constructor
    · rintro (e | e)
      · subst e; exact (srt_mem _ _).2 (by simpa using hx)
      · exact e
    · exact .inr
  · rw [if_neg hx]
    have h3 : x ∉ acc := fun h => hx (by simpa using h)
    have hnd : (acc ++ [x]).Nodup := by
      rw [List.nodup_append]
      refine ⟨h, by simp, ?_⟩
      intro a ha b hb e
      have : b = x := by simpa using hb
      subst e; subst this
      exact h3 ha
    refine rising_ext _ _ (insl_sorted x _ (srt_rising _ h)) (srt_rising _ hnd) (fun z => ?_)
    rw [insl_mem, srt_mem, srt_mem, List.mem_append, List.mem_singleton]
    exact Or.comm

theorem who_l1 (l : List S87) (n : Int) (what : ByteArray) (p : Nat) (hp : p < l.length) (hpl : l.length ≤ 1000) (R : List Int) (K : Nat) : ∀ (suf pre : List Int) (k : Nat), (pre ++ suf).length ≤ 1000 →
    (∀ k', K ≤ k' → becketlaw11_who.l0 k' l n what (pre ++ insl (l[p]).f0 suf) ((p : Int) + 1) = some R) → K + suf.length + 1 ≤ k → becketlaw11_who.l1 k l n what (pre ++ suf) (p : Int) (pre.length : Int) = some R
  | [], pre, k, hb, hn, hk => by
    obtain ⟨k, rfl⟩ : ∃ k', k = k' + 1 := ⟨k - 1, by omega⟩
    have hr : rd_T87 l (p : Int) = l[p] := by simp [rd_T87, hp]
    have hw : wrap64 ((p : Int) + 1) = (p : Int) + 1 := by unfold wrap64; omega
    have hb' : pre.length ≤ 1000 := by simpa using hb
    have h := hn k (by simp at hk; omega)
    unfold insl at h
    unfold becketlaw11_who.l1
    rw [List.append_nil, hr, hw, Int.toNat_natCast, List.take_length, List.drop_length]
    rw [if_neg (by omega), if_pos (by omega), if_pos (by omega), Option.bind_some, if_pos (by simp; omega), Option.bind_some, if_pos (by omega), if_pos (by omega), if_pos (by simp; omega), Option.bind_some, Option.bind_some, if_pos (by simp; omega), List.nil_append, List.append_nil]
    exact h
  | y :: r, pre, k, hb, hn, hk => by
    obtain ⟨k, rfl⟩ : ∃ k', k = k' + 1 := ⟨k - 1, by omega⟩
    have hr : rd_T87 l (p : Int) = l[p] := by simp [rd_T87, hp]
    have hw : wrap64 ((p : Int) + 1) = (p : Int) + 1 := by unfold wrap64; omega
    have hb' : pre.length + (r.length + 1) ≤ 1000 := by simpa using hb
    have hw2 : wrap64 ((pre.length : Int) + 1) = ((pre ++ [y]).length : Int) := by rw [List.length_append, List.length_singleton]; unfold wrap64; omega
    have hy : rd (pre ++ y :: r) (pre.length : Int) = y := by simp [rd]
    have hlen : (((pre ++ y :: r).length : Nat) : Int) = (pre.length : Int) + ((r.length : Int) + 1) := by simp
    rw [List.length_cons] at hk
    unfold becketlaw11_who.l1
    rw [hr, hw, hw2, hy, Int.toNat_natCast, List.take_left' rfl, List.drop_left' rfl]
    rw [if_pos (by omega), if_pos (by omega), if_pos (by omega), if_pos (by omega)]
    by_cases h1 : y < (l[p]).f0
    · rw [if_pos h1]
      have e : pre ++ y :: r = (pre ++ [y]) ++ r := by simp
      rw [e]
      refine who_l1 l n what p hp hpl R K r (pre ++ [y]) k (by simp; omega) (fun k' hk' => ?_) (by omega)
      have := hn k' hk'
      unfold insl at this
      rw [if_pos h1] at this
      rw [List.append_assoc]
      exact this
    · rw [if_neg h1]
      by_cases h2 : y = (l[p]).f0
      · rw [if_pos h2]
        have := hn k (by omega)
        unfold insl at this
        rw [if_neg h1, if_pos h2] at this
        exact this
      · rw [if_neg h2, if_pos (by omega), Option.bind_some, if_pos (by simp; omega), Option.bind_some, if_pos (by simp; omega), Option.bind_some, Option.bind_some, if_pos (by simp; omega), List.nil_append]
        have := hn k (by omega)
        unfold insl at this
        rw [if_neg h1, if_neg h2] at this
        rw [List.append_assoc]
        exact this

theorem tells_who (l : List S87) (n : Nat) (what : ByteArray) (hn : n ≤ l.length) (hl : l.length ≤ 100) : ∀ (m k p : Nat), m = n - p → p ≤ n → m * 200 + 1 ≤ k → becketlaw11_who.l0 k l (n : Int) what (srt (whoL what [] (l.take p))) (p : Int) = some (srt (whoL what [] (l.take n)))
  | 0, k, p, hm, hp, hk => by
    obtain ⟨k, rfl⟩ : ∃ k', k = k' + 1 := ⟨k - 1, by omega⟩
    have : p = n := by omega
    subst this
    unfold becketlaw11_who.l0
    rw [if_neg (by omega)]
  | m + 1, k, p, hm, hp, hk => by
    obtain ⟨k, rfl⟩ : ∃ k', k = k' + 1 := ⟨k - 1, by omega⟩
    have hlt : p < l.length := by omega
    have hr : rd_T87 l (p : Int) = l[p] := by simp [rd_T87, hlt]
    have hw : wrap64 ((p : Int) + 1) = ((p + 1 : Nat) : Int) := by unfold wrap64; omega
    have ih := fun k' hk' => tells_who l n what hn hl m k' (p + 1) (by omega) (by omega) hk'
    rw [whoL_take what l p hlt] at ih
    unfold becketlaw11_who.l0
    rw [if_pos (by omega), if_pos (by omega), if_pos (by omega), hr, hw]
    unfold whoStep at ih
    by_cases hx : (l[p]).f1.toList = what.toList
    · rw [if_pos hx]
      rw [if_pos hx] at ih
      have hnd := whoL_nodup what (l.take p) [] (by simp)
      have hb := (whoL_len what (l.take p) []).2
      rw [List.length_nil, List.length_take] at hb
      have hsl := srt_len (whoL what [] (l.take p))
      have := who_l1 l (n : Int) what p hlt (by omega) (srt (whoL what [] (l.take n))) (m * 200 + 1) (srt (whoL what [] (l.take p))) [] k (by rw [List.nil_append, hsl]; omega) (fun k' hk' => by
        rw [List.nil_append, insl_srt _ _ hnd]
        exact ih k' hk') (by rw [hsl]; omega)
      exact this
    · rw [if_neg hx]
      rw [if_neg hx] at ih
      exact ih k (by omega)

theorem tells_who_f (l : List S87) (n k : Nat) (what : ByteArray) (hn : n ≤ l.length) (hl : l.length ≤ 100) (hk : 20001 ≤ k) : becketlaw11_who.f k l (n : Int) what = some (srt (whoL what [] (l.take n))) := by
  have := tells_who l n what hn hl n k 0 (by omega) (by omega) (by omega)
  rw [List.take_zero, show srt (whoL what [] []) = [] from by simp [whoL, srt]] at this
  unfold becketlaw11_who.f
  exact this

theorem tells_l2 (need : Int) (l : List S87) (hl : l.length ≤ 100) (a : ByteArray) (b : Bool) : ∀ (m k i : Nat), m = l.length - i → i ≤ l.length → (if need < 1 then ((⟨#[]⟩ : ByteArray), false) else winL need l (l.drop i) i) = (a, b) → 2 * m + 20010 ≤ k → becketlaw11_VoteTells.l2 k l need true a b (i : Int) = some true
  | 0, k, i, hm, hi, hw, hk => by
    obtain ⟨k, rfl⟩ : ∃ k', k = k' + 1 + 1 := ⟨k - 2, by omega⟩
    have : i = l.length := by omega
    subst this
    have hab : (a, b) = ((⟨#[]⟩ : ByteArray), false) := by
      rw [← hw, List.drop_length]
      split <;> rfl
    obtain ⟨rfl, rfl⟩ := Prod.mk.inj hab
    unfold becketlaw11_VoteTells.l2
    rw [if_neg (by omega)]
    unfold becketlaw11_VoteTells.j4
    simp [Go.ByteArray.toList_eq]
  | m + 1, k, i, hm, hi, hw, hk => by
    obtain ⟨k, rfl⟩ : ∃ k', k = k' + 1 + 1 := ⟨k - 2, by omega⟩
    have hlt : i < l.length := by omega
    have hd : l.drop i = l[i] :: l.drop (i + 1) := List.drop_eq_getElem_cons hlt
    have hr : rd_T87 l (i : Int) = l[i] := by simp [rd_T87, hlt]
    have hwr : wrap64 ((i : Int) + 1) = ((i + 1 : Nat) : Int) := by unfold wrap64; omega
    unfold becketlaw11_VoteTells.l2
    rw [if_pos (by omega)]
    unfold becketlaw11_VoteTells.j4
    by_cases hn : need < 1
    · rw [if_pos hn] at hw
      obtain ⟨rfl, rfl⟩ := Prod.mk.inj hw
      have : decide (need > 0) = false := decide_eq_false (by omega)
      rw [this]
      simp [Go.ByteArray.toList_eq]
    · have ih := tells_l2 need l hl a b m k (i + 1) (by omega) (by omega)
      rw [if_neg hn] at hw ih
      have : decide (need > 0) = true := decide_eq_true (by omega)
      rw [this, if_pos rfl, if_pos (by omega), if_pos (by omega), hr, hwr, tells_who_f l (i + 1) k _ (by omega) hl (by omega), Option.bind_some, srt_len]
      rw [hd] at hw
      unfold winL at hw
      by_cases hx : ((whoL l[i].f1 [] (l.take (i + 1))).length : Int) ≥ need
      · rw [if_pos hx] at hw
        obtain ⟨rfl, rfl⟩ := Prod.mk.inj hw
        rw [if_pos hx, if_pos rfl, if_pos rfl]
        simp
      · rw [if_neg hx] at hw
        rw [if_neg hx]
        exact ih hw (by omega)

theorem tells_l1 (need : Int) (l : List S87) (a : ByteArray) (b : Bool) (hl : l.length ≤ 100) (K : Nat) (hnext : ∀ k, K ≤ k → becketlaw11_VoteTells.l2 k l need true a b 0 = some true) : ∀ (m k i : Nat), m = l.length - i → i ≤ l.length → m + K + 1 ≤ k → becketlaw11_VoteTells.l1 k l need true l a b (i : Int) = some true
  | 0, k, i, hm, hi, hk => by
    obtain ⟨k, rfl⟩ : ∃ k', k = k' + 1 := ⟨k - 1, by omega⟩
    have : i = l.length := by omega
    subst this
    unfold becketlaw11_VoteTells.l1
    rw [if_neg (by omega)]
    exact hnext k (by omega)
  | m + 1, k, i, hm, hi, hk => by
    obtain ⟨k, rfl⟩ : ∃ k', k = k' + 1 := ⟨k - 1, by omega⟩
    have hlt : i < l.length := by omega
    have hwr : wrap64 ((i : Int) + 1) = ((i + 1 : Nat) : Int) := by unfold wrap64; omega
    unfold becketlaw11_VoteTells.l1
    rw [if_pos (by omega), if_pos (by omega), if_pos (by omega), hwr]
    rw [if_neg (by simp)]
    exact tells_l1 need l a b hl K hnext m k (i + 1) (by omega) (by omega) (by omega)

theorem tells_l0 (need : Int) (l : List S87) (s : List Int) (hl : l.length ≤ 100) (hs : s.length ≤ 100) : ∀ (m k i : Nat), m = s.length - i → i ≤ s.length → m + 30000 ≤ k → becketlaw11_VoteTells.l0 k l need true l s s (i : Int) = some true
  | 0, k, i, hm, hi, hk => by
    obtain ⟨k, rfl⟩ : ∃ k', k = k' + 1 := ⟨k - 1, by omega⟩
    have : i = s.length := by omega
    subst this
    unfold becketlaw11_VoteTells.l0
    rw [if_neg (by omega), winner_f need l k (by omega) (by omega), Option.bind_some]
    cases hw : (if need < 1 then ((⟨#[]⟩ : ByteArray), false) else winL need l l 0) with
    | mk a b =>
      exact tells_l1 need l a b hl 20300 (fun k hk => by
        have := tells_l2 need l hl a b l.length k 0 (by omega) (by omega) (by rw [List.drop_zero]; exact hw) (by omega)
        exact this) l.length k 0 (by omega) (by omega) (by omega)
  | m + 1, k, i, hm, hi, hk => by
    obtain ⟨k, rfl⟩ : ∃ k', k = k' + 1 := ⟨k - 1, by omega⟩
    have hlt : i < s.length := by omega
    have hwr : wrap64 ((i : Int) + 1) = ((i + 1 : Nat) : Int) := by unfold wrap64; omega
    unfold becketlaw11_VoteTells.l0
    rw [if_pos (by omega), if_pos (by omega), if_pos (by omega), if_pos rfl, hwr]
    exact tells_l0 need l s hl hs m k (i + 1) (by omega) (by omega) (by omega)

theorem VoteTells (l : List S87) (what : ByteArray) (need : Int) : ∃ k, becketlaw11_VoteTells.f k l what need = some true := by
  refine ⟨40000 + 1, ?_⟩
  unfold becketlaw11_VoteTells.f
  rw [up_f _ (by omega), Option.bind_some]
  by_cases h : (l.length : Int) > 100
  · rw [if_pos h]
  have hl : l.length ≤ 100 := by omega
  have hb := (whoL_len what l []).2
  rw [List.length_nil] at hb
  have hs := srt_len (whoL what [] l)
  have hwho := tells_who_f l l.length (40000 + 1) what (Nat.le_refl _) hl (by omega)
  rw [List.take_length] at hwho
  rw [if_neg h, Option.bind_some, if_pos (by simp; omega), Option.bind_some, List.nil_append, who_f what l _ (by omega) (by omega), Option.bind_some, hwho, Option.bind_some, if_pos rfl, count_f what l _ (by omega) (by omega), Option.bind_some, hs]
  have : (((whoL what [] l).length : Int) != ((whoL what [] l).length : Int)) = false := by simp
  rw [this]
  rw [show becketlaw11_VoteTells.j0 (40000 + 1) l need true l (srt (whoL what [] l)) (srt (whoL what [] l)) false = becketlaw11_VoteTells.l0 40000 l need true l (srt (whoL what [] l)) (srt (whoL what [] l)) 0 from by simp [becketlaw11_VoteTells.j0]]
  exact tells_l0 need l (srt (whoL what [] l)) hl (by omega) (srt (whoL what [] l)).length 40000 0 (by omega) (by omega) (by omega)
end Go.Proofs.Ytbnhoacchibbnaa.PureVoteTells
