-- Cut by a program of this session (wip/shake.py) out of a text of this seat: what this claim doesn't reach is struck out. Lean checks it.
import Derived.Test.YtpbbgbikebcnbaaPureMFCb
namespace Go.Proofs.Ytpbbgbikebcnbaa.MsgP
open Go.RowKit Go.Proofs.Ytpbbgbikebcnbaa.Ms Go.Proofs.Ytpbbgbikebcnbaa.Mw Go.Proofs.Ytpbbgbikebcnbaa.MsgL Go.Proofs.YtpbbgbikebcnbaaW.PrintWords Go.Proofs.YtpbbgbikebcnbaaW.PrintLast Go.Proofs.YtpbbgbikebcnbaaW.PrintMore
set_option linter.unusedVariables false
set_option linter.unusedSimpArgs false
def At (l : List Int) (a : Nat) (post : List Int) : Prop := a ≤ l.length ∧ l.drop a = post
theorem At.step {l : List Int} {a : Nat} {x post : List Int} (h : At l a (x ++ post)) : At l (a + x.length) post := by
  obtain ⟨h1, h2⟩ := h
  have hl := congrArg List.length h2
  rw [List.length_drop, List.length_append] at hl
  exact ⟨by omega, by rw [← List.drop_drop, h2, List.drop_left]⟩
theorem num_fwd {l : List Int} {a m : Nat} {post : List Int} (hm : m ≤ 1000) (h : At l a (enc m ++ post)) : ∃ a', numOf l 1000 a false = ((m : Int), a', false) ∧ At l a' post := by
  refine ⟨a + (enc m).length, ?_, h.step⟩
  unfold numOf
  rw [if_neg (by simp), h.2, gn_written m (by omega) 1000 (by omega) post]
  unfold gat
  simp only [Option.isNone_none, if_true]
  rw [show ((a : Int) + ((enc m).length : Int)) = ((a + (enc m).length : Nat) : Int) from by omega, Int.toNat_natCast]
theorem txt_fwd {l : List Int} {a : Nat} {s : ByteArray} {post : List Int} (hs : s.size ≤ 4096) (h : At l a (txt s ++ post)) : ∃ a', txtOf l a false = (s, a', false) ∧ At l a' post := by
  refine ⟨a + (txt s).length, ?_, h.step⟩
  have e : txt s ++ post = enc s.size ++ (bytesOf s ++ post) := by unfold txt; rw [List.append_assoc]
  have hl := congrArg List.length h.2
  rw [List.length_drop, e, List.length_append, List.length_append, bytesOf_length] at hl
  have ha := h.1
  have hp := enc_pos s.size
  unfold txtOf
  rw [if_neg (by simp), h.2, e, gn_written s.size (by omega) 4096 (by omega) _]
  simp only
  rw [if_neg (by omega)]
  have t1 : ((a : Int) + ((enc s.size).length : Int) + ((s.size : Nat) : Int)).toNat = a + (enc s.size).length + s.size := by omega
  have t2 : ((a : Int) + ((enc s.size).length : Int)).toNat = a + (enc s.size).length := by omega
  rw [t1, t2]
  have hd : l.drop (a + (enc s.size).length) = bytesOf s ++ post := by rw [← List.drop_drop, h.2, e, List.drop_left]
  have hcut : (l.take (a + (enc s.size).length + s.size)).drop (a + (enc s.size).length) = bytesOf s := by
    rw [List.drop_take, hd, show a + (enc s.size).length + s.size - (a + (enc s.size).length) = (bytesOf s).length from by rw [bytesOf_length]; omega, List.take_left]
  rw [hcut, str_bytesOf]
  congr 2
  unfold txt
  rw [List.length_append, bytesOf_length]
  omega
def s1000 (n : Int) : Prop := 0 ≤ n ∧ n ≤ 1000
theorem numZ_fwd {l : List Int} {a : Nat} {n : Int} {post : List Int} (hn : s1000 n) (h : At l a (enc n.toNat ++ post)) : ∃ a', numOf l 1000 a false = (n, a', false) ∧ At l a' post := by
  obtain ⟨a', h1, h2⟩ := num_fwd (by have := hn.2; omega) h
  rw [Int.toNat_of_nonneg hn.1] at h1
  exact ⟨a', h1, h2⟩
theorem nums_fwd {l : List Int} : ∀ (xs : List Int) (a : Nat) (acc post : List Int), (∀ x ∈ xs, s1000 x) → At l a (numsB xs ++ post) → ∃ a', rdNums l xs.length a false acc = (acc ++ xs, a', false) ∧ At l a' post
  | [], a, acc, post, _, h => ⟨a, by simp [rdNums], h⟩
  | x :: r, a, acc, post, hx, h => by
    have h' : At l a (enc x.toNat ++ (numsB r ++ post)) := by
      have e : numsB (x :: r) = enc x.toNat ++ numsB r := rfl
      rwa [e, List.append_assoc] at h
    obtain ⟨a1, e1, g1⟩ := numZ_fwd (hx x (by simp)) h'
    obtain ⟨a2, e2, g2⟩ := nums_fwd r a1 (acc ++ [x]) post (fun y hy => hx y (by simp [hy])) g1
    refine ⟨a2, ?_, g2⟩
    rw [List.length_cons, rdNums, if_neg (by decide), e1]
    simp only
    rw [e2, List.append_assoc]
    rfl
def okP1 (p : S95) : Prop := s1000 p.f0 ∧ s1000 p.f1 ∧ p.f2.size ≤ 4096 ∧ p.f3.length ≤ 1000 ∧ ∀ x ∈ p.f3, s1000 x
def okC1 (c : S61) : Prop := s1000 c.f0 ∧ s1000 c.f1 ∧ c.f2.length ≤ 1000 ∧ ∀ p ∈ c.f2, okP1 p
theorem proof_fwd {l : List Int} (hl : LOk l) {a : Nat} {p : S95} {post : List Int} (hp : okP1 p) (h : At l a (proofE p ++ post)) : ∃ a', rdProof (tp l hl) a false = (p, a', false) ∧ At l a' post := by
  obtain ⟨h1, h2, h3, h4, h5⟩ := hp
  unfold proofE at h
  simp only [List.append_assoc] at h
  obtain ⟨a1, e1, g1⟩ := numZ_fwd h1 h
  obtain ⟨a2, e2, g2⟩ := numZ_fwd h2 g1
  obtain ⟨a3, e3, g3⟩ := txt_fwd h3 g2
  obtain ⟨a4, e4, g4⟩ := num_fwd h4 g3
  obtain ⟨a5, e5, g5⟩ := nums_fwd p.f3 a4 [] post h5 g4
  refine ⟨a5, ?_, g5⟩
  unfold rdProof
  dsimp only [tp]
  simp only [e1, e2, e3, e4, Int.toNat_natCast, e5, List.nil_append]
theorem ps_fwd {l : List Int} (hl : LOk l) : ∀ (ps : List S95) (a : Nat) (acc : List S95) (post : List Int), (∀ p ∈ ps, okP1 p) → At l a (ps.flatMap proofE ++ post) → ∃ a', rdPs (tp l hl) ps.length a false acc = (acc ++ ps, a', false) ∧ At l a' post
  | [], a, acc, post, _, h => ⟨a, by simp [rdPs], by simpa using h⟩
  | x :: r, a, acc, post, hx, h => by
    rw [List.flatMap_cons, List.append_assoc] at h
    obtain ⟨a1, e1, g1⟩ := proof_fwd hl (hx x (by simp)) h
    obtain ⟨a2, e2, g2⟩ := ps_fwd hl r a1 (acc ++ [x]) post (fun y hy => hx y (by simp [hy])) g1
    refine ⟨a2, ?_, g2⟩
    rw [List.length_cons, rdPs, if_neg (by decide), e1]
    simp only
    rw [e2, List.append_assoc]
    rfl
theorem proofs_fwd {l : List Int} (hl : LOk l) {a : Nat} {ps : List S95} {post : List Int} (hn : ps.length ≤ 1000) (hp : ∀ p ∈ ps, okP1 p) (h : At l a (proofsE ps ++ post)) : ∃ a', rdProofs (tp l hl) a false = (ps, a', false) ∧ At l a' post := by
  unfold proofsE at h
  rw [List.append_assoc] at h
  obtain ⟨a1, e1, g1⟩ := num_fwd hn h
  obtain ⟨a2, e2, g2⟩ := ps_fwd hl ps a1 [] post hp g1
  refine ⟨a2, ?_, g2⟩
  unfold rdProofs
  simp only [e1, Int.toNat_natCast, e2, List.nil_append]
theorem change_fwd {l : List Int} (hl : LOk l) {a : Nat} {c : S61} {post : List Int} (hc : okC1 c) (h : At l a (changeE c ++ post)) : ∃ a', rdChange (tp l hl) a false = (c, a', false) ∧ At l a' post := by
  obtain ⟨h1, h2, h3, h4⟩ := hc
  unfold changeE at h
  simp only [List.append_assoc] at h
  obtain ⟨a1, e1, g1⟩ := numZ_fwd h1 h
  obtain ⟨a2, e2, g2⟩ := numZ_fwd h2 g1
  obtain ⟨a3, e3, g3⟩ := proofs_fwd hl h3 h4 g2
  refine ⟨a3, ?_, g3⟩
  unfold rdChange
  simp only [e1, e2, e3]
theorem cs_fwd {l : List Int} (hl : LOk l) : ∀ (cs : List S61) (a : Nat) (acc : List S61) (post : List Int), (∀ p ∈ cs, okC1 p) → At l a (cs.flatMap changeE ++ post) → ∃ a', rdCs (tp l hl) cs.length a false acc = (acc ++ cs, a', false) ∧ At l a' post
  | [], a, acc, post, _, h => ⟨a, by simp [rdCs], by simpa using h⟩
  | x :: r, a, acc, post, hx, h => by
    rw [List.flatMap_cons, List.append_assoc] at h
    obtain ⟨a1, e1, g1⟩ := change_fwd hl (hx x (by simp)) h
    obtain ⟨a2, e2, g2⟩ := cs_fwd hl r a1 (acc ++ [x]) post (fun y hy => hx y (by simp [hy])) g1
    refine ⟨a2, ?_, g2⟩
    rw [List.length_cons, rdCs, if_neg (by decide), e1]
    simp only
    rw [e2, List.append_assoc]
    rfl
structure Ok1 (a b c d : Int) (s : ByteArray) (ps : List S95) (cs : List S61) : Prop where
  ha : s1000 a
  hb : s1000 b
  hc : s1000 c
  hd : s1000 d
  hs : s.size ≤ 4096
  hps : ps.length ≤ 1000
  hp : ∀ p ∈ ps, okP1 p
  hcs : cs.length ≤ 1000
  hcc : ∀ c ∈ cs, okC1 c
theorem inB_s {n m : Int} (h : inB n m = true) (hm : m ≤ 1000) : s1000 n := by
  unfold inB at h
  simp only [Bool.and_eq_true, decide_eq_true_eq] at h
  exact ⟨h.1, by omega⟩
theorem proofB_ok1 {p : S95} (h : proofB p = true) : okP1 p := by
  unfold proofB at h
  simp only [Bool.and_eq_true, decide_eq_true_eq, Bool.not_eq_true', List.any_eq_false, Bool.not_eq_true] at h
  obtain ⟨h1, h2, h3, h4, h5⟩ := h
  refine ⟨inB_s h1 (by decide), inB_s h2 (by decide), by omega, by omega, fun x hx => ?_⟩
  have := h5 x hx
  exact inB_s (by rw [← node_in]; simpa using this) (by decide)
theorem proofsB_ok1 {l : List S95} (h : proofsB l = true) : l.length ≤ 1000 ∧ ∀ p ∈ l, okP1 p := by
  unfold proofsB at h
  simp only [Bool.and_eq_true, decide_eq_true_eq, Bool.not_eq_true', List.any_eq_false, Bool.not_eq_true] at h
  exact ⟨by omega, fun p hp => proofB_ok1 (by simpa using h.2 p hp)⟩
theorem changesB_ok1 {l : List S61} (h : changesB l = true) : l.length ≤ 1000 ∧ ∀ c ∈ l, okC1 c := by
  unfold changesB at h
  simp only [Bool.and_eq_true, decide_eq_true_eq, Bool.not_eq_true', List.any_eq_false, Bool.not_eq_true] at h
  refine ⟨by omega, fun c hc => ?_⟩
  have h1 := h.2 c hc
  unfold changeBad at h1
  simp only [Bool.or_eq_false_iff, Bool.not_eq_false'] at h1
  obtain ⟨g1, g2, g3⟩ := h1
  obtain ⟨g4, g5⟩ := proofsB_ok1 g3
  exact ⟨inB_s (m := 12) (by rw [← node_in]; exact g1) (by decide), inB_s g2 (by decide), g4, g5⟩
theorem may_ok1 {a b c d : Int} {s : ByteArray} {ps : List S95} {cs : List S61} (h : mayM a b c d s ps cs = true) : Ok1 a b c d s ps cs := by
  unfold mayM at h
  simp only [Bool.and_eq_true, decide_eq_true_eq] at h
  obtain ⟨⟨h1, h2, h3, h4, h5, h6⟩, ⟨h7, _⟩, h8, _⟩ := h
  obtain ⟨g1, g2⟩ := proofsB_ok1 h7
  obtain ⟨g3, g4⟩ := changesB_ok1 h8
  exact ⟨⟨by omega, by omega⟩, inB_s (m := 12) (by rw [← node_in]; exact h3) (by decide), inB_s h4 (by decide), inB_s h5 (by split <;> decide), by omega, g1, g2, g3, g4⟩
theorem msg_fwd {l : List Int} (hl : LOk l) {a b c d : Int} {s : ByteArray} {ps : List S95} {cs : List S61} {post : List Int} (hm : Ok1 a b c d s ps cs) (h : l = msgE a b c d s ps cs ++ post) : ∃ z, rdMsg (tp l hl) = ⟨a, b, c, d, s, ps, cs, z, false⟩ ∧ At l z post := by
  have h0 : At l 0 (msgE a b c d s ps cs ++ post) := ⟨Nat.zero_le _, by rw [← h, List.drop_zero]⟩
  unfold msgE at h0
  simp only [List.append_assoc] at h0
  obtain ⟨z1, e1, g1⟩ := numZ_fwd hm.ha h0
  obtain ⟨z2, e2, g2⟩ := numZ_fwd hm.hb g1
  obtain ⟨z3, e3, g3⟩ := numZ_fwd hm.hc g2
  obtain ⟨z4, e4, g4⟩ := numZ_fwd hm.hd g3
  obtain ⟨z5, e5, g5⟩ := txt_fwd hm.hs g4
  obtain ⟨z6, e6, g6⟩ := proofs_fwd hl hm.hps hm.hp g5
  obtain ⟨z7, e7, g7⟩ := num_fwd hm.hcs g6
  obtain ⟨z8, e8, g8⟩ := cs_fwd hl cs z7 [] post hm.hcc g7
  refine ⟨z8, ?_, g8⟩
  have e5' : (tp l hl).T z4 false = (s, z5, false) := e5
  unfold rdMsg
  simp only [e1, e2, e3, e4, e5', e6, e7, Int.toNat_natCast, e8, List.nil_append]
end Go.Proofs.Ytpbbgbikebcnbaa.MsgP
