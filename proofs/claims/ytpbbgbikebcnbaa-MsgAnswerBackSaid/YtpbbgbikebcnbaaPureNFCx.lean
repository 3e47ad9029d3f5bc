-- Cut by a program of this session (wip/shake.py) out of a text of this seat: what this claim doesn't reach is struck out. Lean checks it.
import Derived.Test.YtpbbgbikebcnbaaPureNDCx
import Derived.Test.YtpbbgbikebcnbaaPureMHCx
namespace Go.Proofs.Ytpbbgbikebcnbaa.MsgP
open Go.RowKit Go.Proofs.Ytpbbgbikebcnbaa.Ms Go.Proofs.Ytpbbgbikebcnbaa.Mw Go.Proofs.Ytpbbgbikebcnbaa.MsgL Go.Proofs.YtpbbgbikebcnbaaW.PrintWords Go.Proofs.YtpbbgbikebcnbaaW.PrintLast Go.Proofs.YtpbbgbikebcnbaaW.PrintMore
set_option linter.unusedVariables false
set_option linter.unusedSimpArgs false
theorem numB_fwd {l : List Int} {a m : Nat} {most : Int} {post : List Int} (hm : (m : Int) ≤ most) (hm2 : m < 18446744073709551616) (h : At l a (enc m ++ post)) : ∃ a', numOf l most a false = ((m : Int), a', false) ∧ At l a' post := by
 refine ⟨a + (enc m).length, ?_, h.step⟩
 unfold numOf
 rw [if_neg (by simp), h.2, gn_written m hm2 most hm post]
 unfold gat
 simp only [Option.isNone_none, if_true]
 rw [show ((a : Int) + ((enc m).length : Int)) = ((a + (enc m).length : Nat) : Int) from by omega, Int.toNat_natCast]
def sA (n : Int) : Prop := 0 ≤ n ∧ n ≤ bigA
theorem numZB_fwd {l : List Int} {a : Nat} {n : Int} {post : List Int} (hn : sA n) (h : At l a (encZ n ++ post)) : ∃ a', numOf l bigA a false = (n, a', false) ∧ At l a' post := by
 have h1 := hn.1
 have h2 : n ≤ 2147483647 := hn.2
 rw [encZ_pos h1 (by omega)] at h
 obtain ⟨a', e1, e2⟩ := numB_fwd (most := bigA) (by rw [Int.toNat_of_nonneg h1]; exact hn.2) (by omega) h
 rw [Int.toNat_of_nonneg h1] at e1
 exact ⟨a', e1, e2⟩
theorem ts_fwd {l : List Int} (hl : LOk l) : ∀ (xs : List ByteArray) (a : Nat) (acc : List ByteArray) (post : List Int), (∀ s ∈ xs, s.size ≤ 4096) → At l a (xs.flatMap txt ++ post) → ∃ a', rdTs (tp l hl) xs.length a false acc = (acc ++ xs, a', false) ∧ At l a' post
 | [], a, acc, post, _, h => ⟨a, by simp [rdTs], by simpa using h⟩
 | x :: r, a, acc, post, hx, h => by
  rw [List.flatMap_cons, List.append_assoc] at h
  obtain ⟨a1, e1, g1⟩ := txt_fwd (hx x (by simp)) h
  obtain ⟨a2, e2, g2⟩ := ts_fwd hl r a1 (acc ++ [x]) post (fun y hy => hx y (by simp [hy])) g1
  refine ⟨a2, ?_, g2⟩
  have e1' : (tp l hl).T a false = (x, a1, false) := e1
  rw [List.length_cons, rdTs, if_neg (by decide), e1']
  simp only
  rw [e2, List.append_assoc]
  rfl
theorem listA_fwd {l : List Int} (hl : LOk l) {a : Nat} {xs : List ByteArray} {post : List Int} (hn : xs.length ≤ 65536) (hx : ∀ s ∈ xs, s.size ≤ 4096) (h : At l a (listE xs ++ post)) : ∃ a', rdList (tp l hl) a false = (xs, a', false) ∧ At l a' post := by
 unfold listE at h
 rw [List.append_assoc] at h
 obtain ⟨a1, e1, g1⟩ := numB_fwd (most := 65536) (by omega) (by omega) h
 obtain ⟨a2, e2, g2⟩ := ts_fwd hl xs a1 [] post hx g1
 refine ⟨a2, ?_, g2⟩
 unfold rdList
 simp only [e1, Int.toNat_natCast, e2, List.nil_append]
def okE (e : S58) : Prop := e.f0.size ≤ 4096 ∧ sA e.f1 ∧ e.f2.length ≤ 65536 ∧ ∀ s ∈ e.f2, s.size ≤ 4096
theorem ent_fwd {l : List Int} (hl : LOk l) {a : Nat} {e : S58} {post : List Int} (he : okE e) (h : At l a (entryE e ++ post)) : ∃ a', rdE (tp l hl) a false = (e, a', false) ∧ At l a' post := by
 obtain ⟨h1, h2, h3, h4⟩ := he
 unfold entryE at h
 simp only [List.append_assoc] at h
 obtain ⟨a1, e1, g1⟩ := txt_fwd h1 h
 obtain ⟨a2, e2, g2⟩ := numZB_fwd h2 g1
 obtain ⟨a3, e3, g3⟩ := listA_fwd hl h3 h4 g2
 refine ⟨a3, ?_, g3⟩
 have e1' : (tp l hl).T a false = (e.f0, a1, false) := e1
 unfold rdE
 simp only [e1', e2, e3]
theorem ents_fwd {l : List Int} (hl : LOk l) : ∀ (xs : List S58) (a : Nat) (acc : List S58) (post : List Int), (∀ e ∈ xs, okE e) → At l a (xs.flatMap entryE ++ post) → ∃ a', rdEs (tp l hl) xs.length a false acc = (acc ++ xs, a', false) ∧ At l a' post
 | [], a, acc, post, _, h => ⟨a, by simp [rdEs], by simpa using h⟩
 | x :: r, a, acc, post, hx, h => by
  rw [List.flatMap_cons, List.append_assoc] at h
  obtain ⟨a1, e1, g1⟩ := ent_fwd hl (hx x (by simp)) h
  obtain ⟨a2, e2, g2⟩ := ents_fwd hl r a1 (acc ++ [x]) post (fun y hy => hx y (by simp [hy])) g1
  refine ⟨a2, ?_, g2⟩
  rw [List.length_cons, rdEs, if_neg (by decide), e1]
  simp only
  rw [e2, List.append_assoc]
  rfl
structure OkAns (a b : Int) (n ks : List ByteArray) (es : List S58) : Prop where
 ha : sA a
 hb : sA b
 hn : n.length ≤ 65536
 hn2 : ∀ s ∈ n, s.size ≤ 4096
 hk : ks.length ≤ 65536
 hk2 : ∀ s ∈ ks, s.size ≤ 4096
 he : es.length ≤ 65536
 he2 : ∀ e ∈ es, okE e
theorem ok_encZ (n : Int) : bytesOk (encZ n) := by
 have h := u64_lo n
 exact enc_bytes 9 _ (Nat.lt_of_lt_of_le (m := 18446744073709551616) (by omega) (by decide))
theorem ok_listE {xs : List ByteArray} (hn : xs.length ≤ 65536) (hx : ∀ s ∈ xs, s.size ≤ 4096) : bytesOk (listE xs) := ok_append (ok_enc (by omega)) (ok_flat _ _ (fun s hs => ok_txt (by have := hx s hs; omega)))
theorem ok_ansE {a b : Int} {n ks : List ByteArray} {es : List S58} (h : OkAns a b n ks es) : bytesOk (ansE a b n ks es) :=
 ok_append (ok_append (ok_append (ok_append (ok_append (ok_encZ a) (ok_encZ b)) (ok_listE h.hn h.hn2)) (ok_listE h.hk h.hk2)) (ok_enc (by have := h.he; omega))) (ok_flat _ _ (fun e he => ok_append (ok_txt (by have := (h.he2 e he).1; omega)) (ok_append (ok_encZ _) (ok_listE (h.he2 e he).2.2.1 (h.he2 e he).2.2.2))))
theorem ans_fwd {a b : Int} {n ks : List ByteArray} {es : List S58} (h : OkAns a b n ks es) (h4 : (ansE a b n ks es).length ≤ 4096) (k : Nat) (hk : 300000 ≤ k) : msg_GetAnswer.f k (strOfNums (ansE a b n ks es)) = some (a, b, n, ks, es, none) := by
 have hs : bytesOf (strOfNums (ansE a b n ks es)) = ansE a b n ks es := bytes_str (ok_ansE h)
 have hz : (strOfNums (ansE a b n ks es)).size = (ansE a b n ks es).length := strOfNums_size _
 have hl : LOk (ansE a b n ks es) := ⟨ok_ansE h, by omega⟩
 have hlong : longB (strOfNums (ansE a b n ks es)) = false := decide_eq_false (by omega)
 unfold msg_GetAnswer.f
 rw [if_pos (by omega), hs, getans_f hl _ k hk, hlong, ]
 have h0 : At (ansE a b n ks es) 0 (encZ a ++ (encZ b ++ (listE n ++ (listE ks ++ (enc es.length ++ (es.flatMap entryE ++ [])))))) := ⟨Nat.zero_le _, by rw [List.drop_zero]; unfold ansE; simp only [List.append_assoc, List.append_nil]⟩
 obtain ⟨z1, e1, g1⟩ := numZB_fwd h.ha h0
 obtain ⟨z2, e2, g2⟩ := numZB_fwd h.hb g1
 obtain ⟨z3, e3, g3⟩ := listA_fwd hl h.hn h.hn2 g2
 obtain ⟨z4, e4, g4⟩ := listA_fwd hl h.hk h.hk2 g3
 obtain ⟨z5, e5, g5⟩ := numB_fwd (most := 65536) (by have := h.he; omega) (by have := h.he; omega) g4
 obtain ⟨z6, e6, g6⟩ := ents_fwd hl es z5 [] [] h.he2 g5
 have c1 : anC (ansE a b n ks es) false = (a, z1, false) := e1
 have c2 : anN (ansE a b n ks es) false = (b, z2, false) := by unfold anN; rw [c1]; exact e2
 have c3 : anNs (tp _ hl) false = (n, z3, false) := by unfold anNs; rw [c2]; exact e3
 have c4 : anKs (tp _ hl) false = (ks, z4, false) := by unfold anKs; rw [c3]; exact e4
 have c5 : anM (tp _ hl) false = ((es.length : Int), z5, false) := by unfold anM; rw [c4]; exact e5
 have c6 : anEs (tp _ hl) false = (es, z6, false) := by
  unfold anEs; rw [c5]
  simp only [Int.toNat_natCast, e6, List.nil_append]
 rw [c1, c2, c3, c4, c6]
 unfold endA
 have hend : (ansE a b n ks es).length ≤ z6 := by
  have := congrArg List.length g6.2
  rw [List.length_drop, List.length_nil] at this
  omega
 rw [if_neg (by simp), if_neg (by simp only; omega)]
theorem numB_bk {l : List Int} (h : LOk l) {a : Nat} {bad : Bool} {most : Int} (ha : a ≤ l.length) (hb : (numOf l most a bad).2.2 = false) : bad = false ∧ l.drop a = enc (numOf l most a bad).1.toNat ++ l.drop (numOf l most a bad).2.1 := by
 unfold numOf at hb ⊢
 by_cases hbad : bad = true
 ·rw [if_pos hbad] at hb; cases hb
 ·rw [if_neg hbad] at hb ⊢
  have hbf : bad = false := by simpa using hbad
  unfold gat at hb ⊢
  generalize hr : gn most 0 0 (l.drop a) = r at hb ⊢
  obtain ⟨v, c, er⟩ := r
  cases er with
  | some e => cases hb
  | none =>
   obtain ⟨_, m, g1, g2, g3, _, _, post, g6⟩ := gn_back most (l.drop a) 0 0 v c (fun x hx => h.b x (List.mem_of_mem_drop hx)) hr
   simp only [Int.pow_zero, Int.mul_one, Int.zero_add] at g1
   simp only [Option.isNone_none, if_true]
   have e1 : ((a : Int) + c).toNat = a + (enc m).length := by omega
   refine ⟨hbf, ?_⟩
   rw [e1, ← List.drop_drop, g6, List.drop_left, g1, Int.toNat_natCast]
theorem txt_le4 {l : List Int} (hb : bytesOk l) (at_ : Nat) (bad : Bool) : (txtOf l at_ bad).1.size ≤ 4096 := by
 unfold txtOf
 by_cases h : bad = true
 ·rw [if_pos h]
  show (⟨#[]⟩ : ByteArray).size ≤ 4096
  decide
 ·rw [if_neg h]
  generalize hr : gn 4096 0 0 (l.drop at_) = r
  obtain ⟨v, c, er⟩ := r
  cases er with
  | some e =>
   show (⟨#[]⟩ : ByteArray).size ≤ 4096
   decide
  | none =>
   obtain ⟨_, m, g1, g2, g3, _⟩ := gn_back 4096 (l.drop at_) 0 0 v c (fun x hx => hb x (List.mem_of_mem_drop hx)) hr
   simp only
   split
   ·show (⟨#[]⟩ : ByteArray).size ≤ 4096
    decide
   ·rw [strOfNums_size, List.length_drop, List.length_take]
    omega
theorem ts_bk {l : List Int} (h : LOk l) : ∀ (m a : Nat) (bad : Bool) (acc : List ByteArray), a ≤ l.length → (rdTs (tp l h) m a bad acc).2.2 = false →
  bad = false ∧ ∃ xs, (rdTs (tp l h) m a bad acc).1 = acc ++ xs ∧ xs.length = m ∧ (l.drop a = xs.flatMap txt ++ l.drop (rdTs (tp l h) m a bad acc).2.1 ∧ ∀ s ∈ xs, s.size ≤ 4096)
 | 0, a, bad, acc, ha, hb => ⟨hb, [], by simp [rdTs], rfl, by simp [rdTs], by simp⟩
 | m + 1, a, bad, acc, ha, hb => by
  rw [rdTs] at hb ⊢
  cases bad with
  | true => rw [if_pos rfl] at hb; cases hb
  | false =>
   rw [if_neg (by decide)] at hb ⊢
   obtain ⟨h1, xs, h2, h3, h4, h6⟩ := ts_bk h m _ _ _ ((tp l h).at_ false ha) hb
   obtain ⟨_, h5⟩ := txt_bk h ha h1
   refine ⟨rfl, (txtOf l a false).1 :: xs, by rw [h2, List.append_assoc]; rfl, by rw [List.length_cons, h3], ?_, fun s hs => ?_⟩
   ·rw [h5]
    have h4' : l.drop (txtOf l a false).2.1 = _ := h4
    rw [h4', ← List.append_assoc, List.flatMap_cons]
   ·rcases List.mem_cons.1 hs with e | e
    ·rw [e]; exact txt_le4 h.b _ _
    ·exact h6 s e
theorem list_bk {l : List Int} (h : LOk l) {a : Nat} {bad : Bool} (ha : a ≤ l.length) (hb : (rdList (tp l h) a bad).2.2 = false) : bad = false ∧ l.drop a = listE (rdList (tp l h) a bad).1 ++ l.drop (rdList (tp l h) a bad).2.1 ∧ ∀ s ∈ (rdList (tp l h) a bad).1, s.size ≤ 4096 := by
 unfold rdList at hb ⊢
 have h1 := numB_le h.b (m := 65536) (by decide) ha bad
 generalize hv : numOf l 65536 a bad = v at hb h1 ⊢
 obtain ⟨b4, xs, e1, e2, e3, e4⟩ := ts_bk h _ _ _ _ h1 hb
 obtain ⟨b0, e7⟩ := numB_bk h ha (by rw [hv]; exact b4)
 rw [hv] at e7
 rw [List.nil_append] at e1
 refine ⟨b0, ?_, by rw [e1]; exact e4⟩
 unfold listE
 rw [e1, e2, e7, e3, List.append_assoc]
theorem longB_f {s : ByteArray} (h : s.size ≤ 4096) : longB s = false := decide_eq_false (by omega)
theorem longs_f {xs : List ByteArray} (h : ∀ s ∈ xs, s.size ≤ 4096) : xs.any longB = false := List.any_eq_false.2 (fun s hs => by rw [longB_f (h s hs)]; simp)
theorem ent_bk {l : List Int} (h : LOk l) {a : Nat} {bad : Bool} (ha : a ≤ l.length) (hb : (rdE (tp l h) a bad).2.2 = false) : bad = false ∧ l.drop a = entryE (rdE (tp l h) a bad).1 ++ l.drop (rdE (tp l h) a bad).2.1 ∧ entryBad (rdE (tp l h) a bad).1 = false := by
 unfold rdE at hb ⊢
 dsimp only at hb ⊢
 have h1 : ((tp l h).T a bad).2.1 ≤ l.length := (tp l h).at_ bad ha
 have hs := txt_le4 h.b a bad
 have ht : (tp l h).T a bad = txtOf l a bad := rfl
 rw [ht] at hb h1 ⊢
 generalize hp : txtOf l a bad = p at hb h1 hs ⊢
 have h2 := numB_le h.b (m := bigA) (by decide) h1 p.2.2
 have h3 := numB_lo h.b (m := bigA) (by decide) h1 p.2.2
 generalize hv : numOf l bigA p.2.1 p.2.2 = v at hb h2 h3 ⊢
 obtain ⟨b2, e5, e6⟩ := list_bk h h2 hb
 obtain ⟨b1, e7⟩ := numB_bk (most := bigA) h h1 (by rw [hv]; exact b2)
 obtain ⟨b0, e8⟩ := txt_bk h ha (by rw [hp]; exact b1)
 rw [hv] at e7
 rw [hp] at e8
 have hA : v.1 ≤ 2147483647 := h3.2
 refine ⟨b0, ?_, ?_⟩
 ·unfold entryE
  dsimp only
  rw [encZ_pos h3.1 (by omega), e8, e7, e5]
  simp only [List.append_assoc]
 ·unfold entryBad
  dsimp only
  rw [decide_eq_false (by omega : ¬ v.1 < 0), longB_f hs, longs_f e6]
  rfl
theorem ents_bk {l : List Int} (h : LOk l) : ∀ (m a : Nat) (bad : Bool) (acc : List S58), a ≤ l.length → (rdEs (tp l h) m a bad acc).2.2 = false →
  bad = false ∧ ∃ xs, (rdEs (tp l h) m a bad acc).1 = acc ++ xs ∧ xs.length = m ∧ (l.drop a = xs.flatMap entryE ++ l.drop (rdEs (tp l h) m a bad acc).2.1 ∧ ∀ e ∈ xs, entryBad e = false)
 | 0, a, bad, acc, ha, hb => ⟨hb, [], by simp [rdEs], rfl, by simp [rdEs], by simp⟩
 | m + 1, a, bad, acc, ha, hb => by
  rw [rdEs] at hb ⊢
  cases bad with
  | true => rw [if_pos rfl] at hb; cases hb
  | false =>
   rw [if_neg (by decide)] at hb ⊢
   obtain ⟨h1, xs, h2, h3, h4, h6⟩ := ents_bk h m _ _ _ (rdE_at h.b (tp l h) false ha) hb
   obtain ⟨_, h5, h7⟩ := ent_bk h ha h1
   refine ⟨rfl, (rdE (tp l h) a false).1 :: xs, by rw [h2, List.append_assoc]; rfl, by rw [List.length_cons, h3], ?_, fun s hs => ?_⟩
   ·rw [h5, h4, ← List.append_assoc, List.flatMap_cons]
   ·rcases List.mem_cons.1 hs with e | e
    ·rw [e]; exact h7
    ·exact h6 s e
theorem ans_bk {l : List Int} (h : LOk l) (hb : (anEs (tp l h) false).2.2 = false) (he : l.length ≤ (anEs (tp l h) false).2.1) :
  l = ansE (anC l false).1 (anN l false).1 (anNs (tp l h) false).1 (anKs (tp l h) false).1 (anEs (tp l h) false).1 ∧ fitsB (anC l false).1 (anN l false).1 (anNs (tp l h) false).1 (anKs (tp l h) false).1 (anEs (tp l h) false).1 = true := by
 have h0 : 0 ≤ l.length := Nat.zero_le _
 have h1 := anC_at h.b false
 have h2 := anN_at h.b false
 have h3 := anNs_at h.b (tp l h) false
 have h4 := anKs_at h.b (tp l h) false
 have h5 := anM_at h.b (tp l h) false
 obtain ⟨b7, xs, e1, e2, e3, e4⟩ := ents_bk h (anM (tp l h) false).1.toNat (anM (tp l h) false).2.1 (anM (tp l h) false).2.2 [] h5 hb
 obtain ⟨b6, g6⟩ := numB_bk (most := 65536) h h4 b7
 obtain ⟨b5, g5, f5⟩ := list_bk h h3 b6
 obtain ⟨b4, g4, f4⟩ := list_bk h h2 b5
 obtain ⟨b3, g3⟩ := numB_bk (most := bigA) h h1 b4
 obtain ⟨_, g2⟩ := numB_bk (most := bigA) h h0 b3
 have l1 : 0 ≤ (anC l false).1 ∧ (anC l false).1 ≤ 2147483647 := numB_lo h.b (m := bigA) (by decide) h0 false
 have l2 : 0 ≤ (anN l false).1 ∧ (anN l false).1 ≤ 2147483647 := numB_lo h.b (m := bigA) (by decide) h1 (anC l false).2.2
 have hend : l.drop (anEs (tp l h) false).2.1 = [] := List.drop_eq_nil_of_le he
 rw [List.nil_append] at e1
 have e1' : (anEs (tp l h) false).1 = xs := e1
 have e3' : l.drop (anM (tp l h) false).2.1 = xs.flatMap entryE := by
  have : l.drop (anM (tp l h) false).2.1 = xs.flatMap entryE ++ l.drop (anEs (tp l h) false).2.1 := e3
  rw [this, hend, List.append_nil]
 have g6' : l.drop (anKs (tp l h) false).2.1 = enc (anM (tp l h) false).1.toNat ++ l.drop (anM (tp l h) false).2.1 := g6
 have g5' : l.drop (anNs (tp l h) false).2.1 = listE (anKs (tp l h) false).1 ++ l.drop (anKs (tp l h) false).2.1 := g5
 have g4' : l.drop (anN l false).2.1 = listE (anNs (tp l h) false).1 ++ l.drop (anNs (tp l h) false).2.1 := g4
 have g3' : l.drop (anC l false).2.1 = enc (anN l false).1.toNat ++ l.drop (anN l false).2.1 := g3
 have g2' : l.drop 0 = enc (anC l false).1.toNat ++ l.drop (anC l false).2.1 := g2
 rw [List.drop_zero] at g2'
 constructor
 ·unfold ansE
  rw [e1', e2, encZ_pos l1.1 (by omega), encZ_pos l2.1 (by omega)]
  conv => lhs; rw [g2', g3', g4', g5', g6', e3']
  simp only [List.append_assoc]
 ·have fE : (anEs (tp l h) false).1.any entryBad = false := by
   rw [e1']; exact List.any_eq_false.2 (fun e he => by rw [e4 e he]; simp)
  have fN : (anNs (tp l h) false).1.any longB = false := longs_f f4
  have fK : (anKs (tp l h) false).1.any longB = false := longs_f f5
  unfold fitsB
  rw [decide_eq_true l1.1, decide_eq_true l2.1, fN, fK, fE]
  rfl
theorem getput (s : ByteArray) (hs : s.size ≤ 100000000) (k : Nat) (hk : 300000 ≤ k) {c n : Int} {ns ks : List ByteArray} {es : List S58} (hg : msg_GetAnswer.f k s = some (c, n, ns, ks, es, none)) : fitsB c n ns ks es = true ∧ (ansE c n ns ks es).length ≤ 4096 ∧ strOfNums (ansE c n ns ks es) = s := by
 have h := LOk_str s hs
 unfold msg_GetAnswer.f at hg
 rw [if_pos hs, getans_f h s k hk] at hg
 by_cases hl : longB s = true
 ·rw [hl] at hg
  unfold endA at hg
  rw [if_pos (an_bad _)] at hg
  simp at hg
 ·rw [Bool.not_eq_true] at hl
  rw [hl] at hg
  have h4 : ¬ 4096 < s.size := of_decide_eq_false hl
  unfold endA at hg
  by_cases hb : (anEs (tp (bytesOf s) h) false).2.2 = true
  ·rw [if_pos hb] at hg
   simp at hg
  ·rw [if_neg hb] at hg
   by_cases ha : (anEs (tp (bytesOf s) h) false).2.1 < s.size
   ·rw [if_pos ha] at hg
    simp at hg
   ·rw [if_neg ha] at hg
    rw [Bool.not_eq_true] at hb
    obtain ⟨q1, q2⟩ := ans_bk h hb (by rw [bytesOf_length]; omega)
    simp only [Option.some.injEq, Prod.mk.injEq] at hg
    obtain ⟨r1, r2, r3, r4, r5, _⟩ := hg
    rw [r1, r2, r3, r4, r5] at q1 q2
    have hq := congrArg List.length q1
    rw [bytesOf_length] at hq
    exact ⟨q2, by omega, by rw [← q1, str_bytesOf]⟩
end Go.Proofs.Ytpbbgbikebcnbaa.MsgP
