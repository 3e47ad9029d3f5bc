-- Cut by a program of this session (wip/shake.py) out of a text of this seat: what this claim doesn't reach is struck out. Lean checks it.
import Derived.Test.YtpbbgbikebcnbaaPureMGCb
namespace Go.Proofs.Ytpbbgbikebcnbaa.MsgP
open Go.RowKit Go.Proofs.Ytpbbgbikebcnbaa.Ms Go.Proofs.Ytpbbgbikebcnbaa.Mw Go.Proofs.Ytpbbgbikebcnbaa.MsgL Go.Proofs.YtpbbgbikebcnbaaW.PrintWords Go.Proofs.YtpbbgbikebcnbaaW.PrintLast Go.Proofs.YtpbbgbikebcnbaaW.PrintMore
set_option linter.unusedVariables false
set_option linter.unusedSimpArgs false
theorem bytes_str {x : List Int} (hx : bytesOk x) : bytesOf (strOfNums x) = x := str_inj (fun y hy => by
    unfold bytesOf at hy
    obtain ⟨z, _, rfl⟩ := List.mem_map.1 hy
    exact ⟨by omega, by have := z.toNat_lt; omega⟩) hx (by rw [str_bytesOf])
theorem num_bk {l : List Int} (h : LOk l) {a : Nat} {bad : Bool} (ha : a ≤ l.length) (hb : (numOf l 1000 a bad).2.2 = false) : bad = false ∧ l.drop a = enc (numOf l 1000 a bad).1.toNat ++ l.drop (numOf l 1000 a bad).2.1 := by
  unfold numOf at hb ⊢
  by_cases hbad : bad = true
  · rw [if_pos hbad] at hb; cases hb
  · rw [if_neg hbad] at hb ⊢
    have hbf : bad = false := by simpa using hbad
    unfold gat at hb ⊢
    generalize hr : gn 1000 0 0 (l.drop a) = r at hb ⊢
    obtain ⟨v, c, er⟩ := r
    cases er with
    | some e => cases hb
    | none =>
      obtain ⟨_, m, g1, g2, g3, _, _, post, g6⟩ := gn_back 1000 (l.drop a) 0 0 v c (fun x hx => h.b x (List.mem_of_mem_drop hx)) hr
      simp only [Int.pow_zero, Int.mul_one, Int.zero_add] at g1
      simp only [Option.isNone_none, if_true]
      have e1 : ((a : Int) + c).toNat = a + (enc m).length := by omega
      refine ⟨hbf, ?_⟩
      rw [e1, ← List.drop_drop, g6, List.drop_left, g1, Int.toNat_natCast]
theorem strOfNums_size (x : List Int) : (strOfNums x).size = x.length := by simp [strOfNums, ByteArray.size]
theorem txt_bk {l : List Int} (h : LOk l) {a : Nat} {bad : Bool} (ha : a ≤ l.length) (hb : (txtOf l a bad).2.2 = false) : bad = false ∧ l.drop a = txt (txtOf l a bad).1 ++ l.drop (txtOf l a bad).2.1 := by
  unfold txtOf at hb ⊢
  by_cases hbad : bad = true
  · rw [if_pos hbad] at hb; cases hb
  · rw [if_neg hbad] at hb ⊢
    have hbf : bad = false := by simpa using hbad
    generalize hr : gn 4096 0 0 (l.drop a) = r at hb ⊢
    obtain ⟨v, c, er⟩ := r
    cases er with
    | some e => cases hb
    | none =>
      obtain ⟨_, m, g1, g2, g3, _, _, post, g6⟩ := gn_back 4096 (l.drop a) 0 0 v c (fun x hx => h.b x (List.mem_of_mem_drop hx)) hr
      simp only [Int.pow_zero, Int.mul_one, Int.zero_add] at g1
      simp only at hb ⊢
      have hlen := congrArg List.length g6
      rw [List.length_drop, List.length_append] at hlen
      by_cases hg : (a : Int) + c + v > (l.length : Int)
      · rw [if_pos hg] at hb; cases hb
      · rw [if_neg hg] at hb ⊢
        have e1 : ((a : Int) + c + v).toNat = a + (enc m).length + m := by omega
        have e2 : ((a : Int) + c).toNat = a + (enc m).length := by omega
        have hp : l.drop (a + (enc m).length) = post := by rw [← List.drop_drop, g6, List.drop_left]
        have hcut : (l.take (a + (enc m).length + m)).drop (a + (enc m).length) = post.take m := by
          rw [List.drop_take, hp]; congr 1; omega
        have hcl : (post.take m).length = m := by rw [List.length_take]; omega
        have hcb : bytesOk (post.take m) := fun x hx => h.b x (List.mem_of_mem_drop (i := a) (by rw [g6]; exact List.mem_append_right _ (List.mem_of_mem_take hx)))
        refine ⟨hbf, ?_⟩
        simp only [e1, e2, hcut]
        unfold txt
        rw [strOfNums_size, hcl, bytes_str hcb, ← List.drop_drop, hp, List.append_assoc, List.take_append_drop, g6]
theorem nums_bk {l : List Int} (h : LOk l) : ∀ (m a : Nat) (bad : Bool) (acc : List Int), a ≤ l.length → (rdNums l m a bad acc).2.2 = false →
    bad = false ∧ ∃ xs, (rdNums l m a bad acc).1 = acc ++ xs ∧ xs.length = m ∧ l.drop a = numsB xs ++ l.drop (rdNums l m a bad acc).2.1
  | 0, a, bad, acc, ha, hb => ⟨hb, [], by simp [rdNums], rfl, by simp [rdNums, numsB]⟩
  | m + 1, a, bad, acc, ha, hb => by
    rw [rdNums] at hb ⊢
    cases bad with
    | true => rw [if_pos rfl] at hb; cases hb
    | false =>
      rw [if_neg (by decide)] at hb ⊢
      obtain ⟨h1, xs, h2, h3, h4⟩ := nums_bk h m _ _ _ (num_le h.b ha false) hb
      obtain ⟨_, h5⟩ := num_bk h ha h1
      refine ⟨rfl, (numOf l 1000 a false).1 :: xs, by rw [h2, List.append_assoc]; rfl, by rw [List.length_cons, h3], ?_⟩
      rw [h5, h4, ← List.append_assoc]
      rfl
theorem proof_bk {l : List Int} (h : LOk l) {a : Nat} {bad : Bool} (ha : a ≤ l.length) (hb : (rdProof (tp l h) a bad).2.2 = false) : bad = false ∧ l.drop a = proofE (rdProof (tp l h) a bad).1 ++ l.drop (rdProof (tp l h) a bad).2.1 := by
  unfold rdProof at hb ⊢
  dsimp only [tp] at hb ⊢
  have h1 := num_le h.b ha bad
  generalize hv : numOf l 1000 a bad = v at hb h1 ⊢
  have h2 := num_le h.b h1 v.2.2
  generalize hs : numOf l 1000 v.2.1 v.2.2 = s at hb h2 ⊢
  have h3 := txtOf_at h.b h2 s.2.2
  generalize ht : txtOf l s.2.1 s.2.2 = t at hb h3 ⊢
  have h4 := num_le h.b h3 t.2.2
  generalize hk : numOf l 1000 t.2.1 t.2.2 = k at hb h4 ⊢
  obtain ⟨b4, xs, e1, e2, e3⟩ := nums_bk h _ _ _ _ h4 hb
  obtain ⟨b3, e4⟩ := num_bk h h3 (by rw [hk]; exact b4)
  obtain ⟨b2, e5⟩ := txt_bk h h2 (by rw [ht]; exact b3)
  obtain ⟨b1, e6⟩ := num_bk h h1 (by rw [hs]; exact b2)
  obtain ⟨b0, e7⟩ := num_bk h ha (by rw [hv]; exact b1)
  rw [hk] at e4
  rw [ht] at e5
  rw [hs] at e6
  rw [hv] at e7
  refine ⟨b0, ?_⟩
  rw [List.nil_append] at e1
  unfold proofE
  simp only
  rw [e1, e2, e7, e6, e5, e4, e3]
  simp only [List.append_assoc]
theorem ps_bk {l : List Int} (h : LOk l) : ∀ (m a : Nat) (bad : Bool) (acc : List S95), a ≤ l.length → (rdPs (tp l h) m a bad acc).2.2 = false →
    bad = false ∧ ∃ xs, (rdPs (tp l h) m a bad acc).1 = acc ++ xs ∧ xs.length = m ∧ l.drop a = xs.flatMap proofE ++ l.drop (rdPs (tp l h) m a bad acc).2.1
  | 0, a, bad, acc, ha, hb => ⟨hb, [], by simp [rdPs], rfl, by simp [rdPs]⟩
  | m + 1, a, bad, acc, ha, hb => by
    rw [rdPs] at hb ⊢
    cases bad with
    | true => rw [if_pos rfl] at hb; cases hb
    | false =>
      rw [if_neg (by decide)] at hb ⊢
      obtain ⟨h1, xs, h2, h3, h4⟩ := ps_bk h m _ _ _ (rdProof_at h.b _ false ha) hb
      obtain ⟨_, h5⟩ := proof_bk h ha h1
      refine ⟨rfl, (rdProof (tp l h) a false).1 :: xs, by rw [h2, List.append_assoc]; rfl, by rw [List.length_cons, h3], ?_⟩
      rw [h5, h4, ← List.append_assoc, List.flatMap_cons]
theorem proofs_bk {l : List Int} (h : LOk l) {a : Nat} {bad : Bool} (ha : a ≤ l.length) (hb : (rdProofs (tp l h) a bad).2.2 = false) : bad = false ∧ l.drop a = proofsE (rdProofs (tp l h) a bad).1 ++ l.drop (rdProofs (tp l h) a bad).2.1 := by
  unfold rdProofs at hb ⊢
  have h1 := num_le h.b ha bad
  generalize hv : numOf l 1000 a bad = v at hb h1 ⊢
  obtain ⟨b4, xs, e1, e2, e3⟩ := ps_bk h _ _ _ _ h1 hb
  obtain ⟨b0, e7⟩ := num_bk h ha (by rw [hv]; exact b4)
  rw [hv] at e7
  refine ⟨b0, ?_⟩
  rw [List.nil_append] at e1
  dsimp only
  unfold proofsE
  rw [e1, e2, e7, e3, List.append_assoc]
theorem change_bk {l : List Int} (h : LOk l) {a : Nat} {bad : Bool} (ha : a ≤ l.length) (hb : (rdChange (tp l h) a bad).2.2 = false) : bad = false ∧ l.drop a = changeE (rdChange (tp l h) a bad).1 ++ l.drop (rdChange (tp l h) a bad).2.1 := by
  unfold rdChange at hb ⊢
  dsimp only at hb ⊢
  have h1 := num_le h.b ha bad
  generalize hv : numOf l 1000 a bad = v at hb h1 ⊢
  have h2 := num_le h.b h1 v.2.2
  generalize hs : numOf l 1000 v.2.1 v.2.2 = s at hb h2 ⊢
  obtain ⟨b2, e5⟩ := proofs_bk h h2 hb
  obtain ⟨b1, e6⟩ := num_bk h h1 (by rw [hs]; exact b2)
  obtain ⟨b0, e7⟩ := num_bk h ha (by rw [hv]; exact b1)
  rw [hs] at e6
  rw [hv] at e7
  refine ⟨b0, ?_⟩
  unfold changeE
  rw [e7, e6, e5]
  simp only [List.append_assoc]
theorem cs_bk {l : List Int} (h : LOk l) : ∀ (m a : Nat) (bad : Bool) (acc : List S61), a ≤ l.length → (rdCs (tp l h) m a bad acc).2.2 = false →
    bad = false ∧ ∃ xs, (rdCs (tp l h) m a bad acc).1 = acc ++ xs ∧ xs.length = m ∧ l.drop a = xs.flatMap changeE ++ l.drop (rdCs (tp l h) m a bad acc).2.1
  | 0, a, bad, acc, ha, hb => ⟨hb, [], by simp [rdCs], rfl, by simp [rdCs]⟩
  | m + 1, a, bad, acc, ha, hb => by
    rw [rdCs] at hb ⊢
    cases bad with
    | true => rw [if_pos rfl] at hb; cases hb
    | false =>
      rw [if_neg (by decide)] at hb ⊢
      obtain ⟨h1, xs, h2, h3, h4⟩ := cs_bk h m _ _ _ (rdChange_at h.b _ false ha) hb
      obtain ⟨_, h5⟩ := change_bk h ha h1
      refine ⟨rfl, (rdChange (tp l h) a false).1 :: xs, by rw [h2, List.append_assoc]; rfl, by rw [List.length_cons, h3], ?_⟩
      rw [h5, h4, ← List.append_assoc, List.flatMap_cons]
theorem msg_bk {l : List Int} (h : LOk l) (hb : (rdMsg (tp l h)).bad = false) (he : l.length ≤ (rdMsg (tp l h)).at_) :
    l = msgE (rdMsg (tp l h)).a (rdMsg (tp l h)).b (rdMsg (tp l h)).c (rdMsg (tp l h)).d (rdMsg (tp l h)).s (rdMsg (tp l h)).ps (rdMsg (tp l h)).cs := by
  unfold rdMsg at hb he ⊢
  dsimp only [tp] at hb he ⊢
  have h0 : 0 ≤ l.length := Nat.zero_le _
  have h1 := num_le h.b h0 false
  generalize ha : numOf l 1000 0 false = a at hb he h1 ⊢
  have h2 := num_le h.b h1 a.2.2
  generalize hbb : numOf l 1000 a.2.1 a.2.2 = b at hb he h2 ⊢
  have h3 := num_le h.b h2 b.2.2
  generalize hc : numOf l 1000 b.2.1 b.2.2 = c at hb he h3 ⊢
  have h4 := num_le h.b h3 c.2.2
  generalize hd : numOf l 1000 c.2.1 c.2.2 = d at hb he h4 ⊢
  have h5 := txtOf_at h.b h4 d.2.2
  generalize hs : txtOf l d.2.1 d.2.2 = s at hb he h5 ⊢
  have h6 := rdProofs_at h.b (tp l h) s.2.2 h5
  unfold tp at h6
  generalize hp : rdProofs _ s.2.1 s.2.2 = p at hb he h6 ⊢
  have h7 := num_le h.b h6 p.2.2
  generalize hn : numOf l 1000 p.2.1 p.2.2 = n at hb he h7 ⊢
  obtain ⟨b7, xs, e1, e2, e3⟩ := cs_bk h n.1.toNat n.2.1 n.2.2 [] h7 hb
  obtain ⟨b6, g6⟩ := num_bk h h6 (by rw [hn]; exact b7)
  obtain ⟨b5, g5⟩ := proofs_bk h h5 (by unfold tp; rw [hp]; exact b6)
  obtain ⟨b4, g4⟩ := txt_bk h h4 (by rw [hs]; exact b5)
  obtain ⟨b3, g3⟩ := num_bk h h3 (by rw [hd]; exact b4)
  obtain ⟨b2, g2⟩ := num_bk h h2 (by rw [hc]; exact b3)
  obtain ⟨b1, g1⟩ := num_bk h h1 (by rw [hbb]; exact b2)
  obtain ⟨_, g0⟩ := num_bk h h0 (by rw [ha]; exact b1)
  rw [hn] at g6
  unfold tp at g5
  rw [hp] at g5
  rw [hs] at g4
  rw [hd] at g3
  rw [hc] at g2
  rw [hbb] at g1
  rw [ha] at g0
  rw [List.nil_append] at e1
  unfold tp at e1 e3
  have hend : l.drop (rdCs _ n.1.toNat n.2.1 n.2.2 []).2.1 = [] := List.drop_eq_nil_of_le he
  rw [hend, List.append_nil] at e3
  rw [List.drop_zero] at g0
  unfold msgE
  rw [e1, e2]
  conv => lhs; rw [g0, g1, g2, g3, g4, g5, g6, e3]
  simp only [List.append_assoc]
end Go.Proofs.Ytpbbgbikebcnbaa.MsgP
