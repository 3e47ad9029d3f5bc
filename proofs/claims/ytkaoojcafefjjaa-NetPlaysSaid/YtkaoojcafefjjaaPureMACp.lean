-- Cut by a program of this session (wip/shake.py) out of a text of this seat: what this claim doesn't reach is struck out. Lean checks it.
import Derived.Test.YtkaoojcafefjjaaMsxCp
import Derived.Test.YtkaoojcafefjjaaMsgWCp
namespace Go.Proofs.Ytkaoojcafefjjaa.MsgP
open Go.RowKit Go.Proofs.Ytkaoojcafefjjaa.Ms Go.Proofs.Ytkaoojcafefjjaa.Mw Go.Proofs.Ytkaoojcafefjjaa.MsgL Go.Proofs.YtkaoojcafefjjaaW.PrintWords Go.Proofs.YtkaoojcafefjjaaW.PrintLast Go.Proofs.YtkaoojcafefjjaaW.PrintMore
set_option linter.unusedVariables false
set_option linter.unusedSimpArgs false
def txt (s : ByteArray) : List Int := enc s.size ++ bytesOf s
def numsB (xs : List Int) : List Int := xs.flatMap fun x => enc x.toNat
def proofE (p : S68) : List Int := enc p.f0.toNat ++ enc p.f1.toNat ++ txt p.f2 ++ enc p.f3.length ++ numsB p.f3
def proofsE (l : List S68) : List Int := enc l.length ++ l.flatMap proofE
def changeE (c : S58) : List Int := enc c.f0.toNat ++ enc c.f1.toNat ++ proofsE c.f2
def msgE (a b c d : Int) (s : ByteArray) (ps : List S68) (cs : List S58) : List Int :=
  enc a.toNat ++ enc b.toNat ++ enc c.toNat ++ enc d.toNat ++ txt s ++ proofsE ps ++ (enc cs.length ++ cs.flatMap changeE)
def sm (n : Int) : Prop := 0 ≤ n ∧ n ≤ 1000000
theorem enc10 {n : Nat} (h : n ≤ 1000000) : (enc n).length ≤ 10 := enc_len 9 n (Nat.lt_of_le_of_lt h (by decide))
theorem wuz {n : Int} (h : sm n) : IntKind.u64.wrap n = ((n.toNat : Nat) : Int) := by
  have h1 := h.1
  have h2 := h.2
  rw [wu64 h1 (by omega), Int.toNat_of_nonneg h1]
theorem wz' {z : Int} {y : Int} (h : z = y) (h0 : 0 ≤ y) (h1 : y ≤ 1099511627776) : wrap64 z = y := by subst h; unfold wrap64; omega
theorem rd_get (xs : List Int) (i : Nat) (h : i < xs.length) : rd xs (i : Int) = xs[i] := by
  show xs.getD i 0 = xs[i]
  simp [List.getD, h]
theorem numsB_len : ∀ (xs : List Int), (∀ x ∈ xs, sm x) → (numsB xs).length ≤ 10 * xs.length
  | [], _ => by simp [numsB]
  | x :: r, h => by
    have h1 := enc10 (n := x.toNat) (by have := (h x (by simp)).2; omega)
    have h2 := numsB_len r (fun y hy => h y (by simp [hy]))
    have e : numsB (x :: r) = enc x.toNat ++ numsB r := rfl
    rw [e, List.length_append, List.length_cons]
    omega
theorem numbers_l (xs : List Int) (hx : ∀ x ∈ xs, sm x) (hl : xs.length ≤ 1000) : ∀ (q k i : Nat) (acc : List Int), q = xs.length - i → i ≤ xs.length → acc.length + 10 * q ≤ 1000000000 → q + 12 ≤ k → msg_numbers.l0 k acc xs xs.length i = some (acc ++ numsB (xs.drop i))
  | 0, k, i, acc, hq, hi, ha, hk => by
    obtain ⟨k, rfl⟩ : ∃ k', k = k' + 1 := ⟨k - 1, by omega⟩
    have : i = xs.length := by omega
    subst this
    unfold msg_numbers.l0
    rw [if_neg (by omega), List.drop_length]
    simp [numsB]
  | q + 1, k, i, acc, hq, hi, ha, hk => by
    obtain ⟨k, rfl⟩ : ∃ k', k = k' + 1 := ⟨k - 1, by omega⟩
    have hlt : i < xs.length := by omega
    have hd : xs.drop i = xs[i] :: xs.drop (i + 1) := List.drop_eq_getElem_cons hlt
    have hsm := hx xs[i] (List.getElem_mem _)
    have h10 := enc10 (n := (xs[i]).toNat) (by have := hsm.2; omega)
    have ih := numbers_l xs hx hl q k (i + 1) (acc ++ enc (xs[i]).toNat) (by omega) (by omega) (by rw [List.length_append]; omega) (by omega)
    unfold msg_numbers.l0
    rw [if_pos (by omega), if_pos (by omega), if_pos (by omega), rd_get xs i hlt, wuz hsm, num_f acc (xs[i]).toNat (by have := hsm.2; omega) (by omega) k (by omega), Option.bind_some, wz' (z := (i : Int) + 1) (y := ((i + 1 : Nat) : Int)) (by omega) (by omega) (by omega), ih, hd]
    show _ = some (acc ++ (enc (xs[i]).toNat ++ numsB (xs.drop (i + 1))))
    rw [List.append_assoc]
theorem numbers_f (xs acc : List Int) (hx : ∀ x ∈ xs, sm x) (hl : xs.length ≤ 1000) (ha : acc.length + 10 * xs.length ≤ 1000000000) (k : Nat) (hk : xs.length + 12 ≤ k) : msg_numbers.f k acc xs = some (acc ++ numsB xs) := by
  unfold msg_numbers.f
  have := numbers_l xs hx hl xs.length k 0 acc (by omega) (by omega) ha hk
  rw [List.drop_zero] at this
  exact this
def okP (p : S68) : Prop := sm p.f0 ∧ sm p.f1 ∧ p.f2.size ≤ 5000 ∧ p.f3.length ≤ 100 ∧ ∀ x ∈ p.f3, sm x
def okC (c : S58) : Prop := sm c.f0 ∧ sm c.f1 ∧ c.f2.length ≤ 200 ∧ ∀ p ∈ c.f2, okP p
theorem txt_len {s : ByteArray} (h : s.size ≤ 5000) : (txt s).length ≤ 5010 := by
  have := enc10 (n := s.size) (by omega)
  unfold txt
  rw [List.length_append, bytesOf_length]
  omega
theorem proofE_len {p : S68} (h : okP p) : (proofE p).length ≤ 6100 := by
  obtain ⟨h1, h2, h3, h4, h5⟩ := h
  have e1 := enc10 (n := p.f0.toNat) (by have := h1.2; omega)
  have e2 := enc10 (n := p.f1.toNat) (by have := h2.2; omega)
  have e3 := txt_len h3
  have e4 := enc10 (n := p.f3.length) (by omega)
  have e5 := numsB_len p.f3 h5
  unfold proofE
  simp only [List.length_append]
  omega
theorem flat_len {α : Type} (f : α → List Int) (b : Nat) : ∀ l : List α, (∀ x ∈ l, (f x).length ≤ b) → (l.flatMap f).length ≤ b * l.length
  | [], _ => by simp
  | x :: r, h => by
    have h1 := h x (by simp)
    have h2 := flat_len f b r (fun y hy => h y (by simp [hy]))
    rw [List.flatMap_cons, List.length_append, List.length_cons, Nat.mul_succ]
    omega
theorem proofsE_len {l : List S68} (hl : l.length ≤ 200) (h : ∀ p ∈ l, okP p) : (proofsE l).length ≤ 1220010 := by
  have e1 := enc10 (n := l.length) (by omega)
  have e2 := flat_len proofE 6100 l (fun x hx => proofE_len (h x hx))
  have e3 : 6100 * l.length ≤ 6100 * 200 := Nat.mul_le_mul_left _ hl
  unfold proofsE
  rw [List.length_append]
  omega
theorem changeE_len {c : S58} (h : okC c) : (changeE c).length ≤ 1220030 := by
  obtain ⟨h1, h2, h3, h4⟩ := h
  have e1 := enc10 (n := c.f0.toNat) (by have := h1.2; omega)
  have e2 := enc10 (n := c.f1.toNat) (by have := h2.2; omega)
  have e3 := proofsE_len h3 h4
  unfold changeE
  simp only [List.length_append]
  omega
theorem rdP_get (xs : List S68) (i : Nat) (h : i < xs.length) : rd_T68 xs (i : Int) = xs[i] := by
  show xs.getD i _ = xs[i]
  simp [List.getD, h]
theorem rdC_get (xs : List S58) (i : Nat) (h : i < xs.length) : rd_T58 xs (i : Int) = xs[i] := by
  show xs.getD i _ = xs[i]
  simp [List.getD, h]
theorem numsB2 (a b : Int) : numsB [a, b] = enc a.toNat ++ enc b.toNat := by simp [numsB]
theorem numsB1 (a : Nat) : numsB [(a : Int)] = enc a := by simp [numsB]
theorem putProofs_l (l : List S68) (hl : l.length ≤ 200) (hx : ∀ x ∈ l, okP x) : ∀ (q k i : Nat) (acc : List Int), q = l.length - i → i ≤ l.length → acc.length + 6100 * q ≤ 900000000 → q + 120 ≤ k → msg_putProofs.l0 k acc l l.length i = some (acc ++ (l.drop i).flatMap proofE)
  | 0, k, i, acc, hq, hi, ha, hk => by
    obtain ⟨k, rfl⟩ : ∃ k', k = k' + 1 := ⟨k - 1, by omega⟩
    have : i = l.length := by omega
    subst this
    unfold msg_putProofs.l0
    rw [if_neg (by omega), List.drop_length]
    simp
  | q + 1, k, i, acc, hq, hi, ha, hk => by
    obtain ⟨k, rfl⟩ : ∃ k', k = k' + 1 := ⟨k - 1, by omega⟩
    have hlt : i < l.length := by omega
    have hd : l.drop i = l[i] :: l.drop (i + 1) := List.drop_eq_getElem_cons hlt
    have hok := hx l[i] (List.getElem_mem _)
    have hpl := proofE_len hok
    have ih := putProofs_l l hl hx q k (i + 1) (acc ++ proofE l[i]) (by omega) (by omega) (by rw [List.length_append]; omega) (by omega)
    obtain ⟨h1, h2, h3, h4, h5⟩ := hok
    have e1 := enc10 (n := (l[i]).f0.toNat) (by have := h1.2; omega)
    have e2 := enc10 (n := (l[i]).f1.toNat) (by have := h2.2; omega)
    have e3 := txt_len h3
    have e4 := enc10 (n := (l[i]).f3.length) (by omega)
    have e5 := numsB_len (l[i]).f3 h5
    unfold msg_putProofs.l0
    rw [if_pos (by omega), if_pos (by omega), if_pos (by omega), rdP_get l i hlt]
    rw [numbers_f [(l[i]).f0, (l[i]).f1] acc (by simp; exact ⟨h1, h2⟩) (by simp) (by simp; omega) k (by simp; omega), Option.bind_some, numsB2]
    rw [text_f _ (l[i]).f2 (by omega) (by simp only [List.length_append]; omega) k (by omega), Option.bind_some]
    rw [show ∀ z : List Int, z ++ enc (l[i]).f2.size ++ bytesOf (l[i]).f2 = z ++ txt (l[i]).f2 from fun z => by unfold txt; rw [List.append_assoc]]
    rw [numbers_f [((l[i]).f3.length : Int)] _ (by simp; exact ⟨by omega, by omega⟩) (by simp) (by simp only [List.length_append, List.length_cons, List.length_nil]; omega) k (by simp; omega), Option.bind_some, numsB1]
    rw [numbers_f (l[i]).f3 _ h5 (by omega) (by simp only [List.length_append]; omega) k (by omega), Option.bind_some]
    rw [wz' (z := (i : Int) + 1) (y := ((i + 1 : Nat) : Int)) (by omega) (by omega) (by omega)]
    rw [show acc ++ (enc (l[i]).f0.toNat ++ enc (l[i]).f1.toNat) ++ txt (l[i]).f2 ++ enc (l[i]).f3.length ++ numsB (l[i]).f3 = acc ++ proofE l[i] from by unfold proofE; simp only [List.append_assoc], ih, hd, List.flatMap_cons, List.append_assoc]
theorem putProofs_f (l : List S68) (acc : List Int) (hl : l.length ≤ 200) (hx : ∀ x ∈ l, okP x) (ha : acc.length ≤ 800000000) (k : Nat) (hk : 400 ≤ k) : msg_putProofs.f k acc l = some (acc ++ proofsE l) := by
  have e0 := enc10 (n := l.length) (by omega)
  unfold msg_putProofs.f
  rw [numbers_f [(l.length : Int)] acc (by simp; exact ⟨by omega, by omega⟩) (by simp) (by simp; omega) k (by simp; omega), Option.bind_some, numsB1]
  have := putProofs_l l hl hx l.length k 0 (acc ++ enc l.length) (by omega) (by omega) (by rw [List.length_append]; have : 6100 * l.length ≤ 6100 * 200 := Nat.mul_le_mul_left _ hl; omega) (by omega)
  rw [List.drop_zero] at this
  refine this.trans ?_
  unfold proofsE
  rw [List.append_assoc]
set_option maxRecDepth 20000 in
theorem put_l (cs : List S58) (hl : cs.length ≤ 50) (hx : ∀ x ∈ cs, okC x) : ∀ (q k i : Nat) (acc : List Int), q = cs.length - i → i ≤ cs.length → acc.length + 1220030 * q ≤ 700000000 → q + 450 ≤ k → msg_Put.l0 k acc cs cs.length i = some (acc ++ (cs.drop i).flatMap changeE, none)
  | 0, k, i, acc, hq, hi, ha, hk => by
    obtain ⟨k, rfl⟩ : ∃ k', k = k' + 1 := ⟨k - 1, by omega⟩
    have : i = cs.length := by omega
    subst this
    unfold msg_Put.l0
    rw [if_neg (by omega), List.drop_length]
    simp
  | q + 1, k, i, acc, hq, hi, ha, hk => by
    obtain ⟨k, rfl⟩ : ∃ k', k = k' + 1 := ⟨k - 1, by omega⟩
    have hlt : i < cs.length := by omega
    have hd : cs.drop i = cs[i] :: cs.drop (i + 1) := List.drop_eq_getElem_cons hlt
    have hok := hx cs[i] (List.getElem_mem _)
    have hpl := changeE_len hok
    have ih := put_l cs hl hx q k (i + 1) (acc ++ changeE cs[i]) (by omega) (by omega) (by rw [List.length_append]; omega) (by omega)
    obtain ⟨h1, h2, h3, h4⟩ := hok
    have e1 := enc10 (n := (cs[i]).f0.toNat) (by have := h1.2; omega)
    have e2 := enc10 (n := (cs[i]).f1.toNat) (by have := h2.2; omega)
    unfold msg_Put.l0
    rw [if_pos (by omega), if_pos (by omega), if_pos (by omega), rdC_get cs i hlt]
    rw [numbers_f [(cs[i]).f0, (cs[i]).f1] acc (by simp; exact ⟨h1, h2⟩) (by simp) (by simp; omega) k (by simp; omega), Option.bind_some, numsB2]
    rw [putProofs_f (cs[i]).f2 _ h3 h4 (by simp only [List.length_append]; omega) k (by omega), Option.bind_some]
    rw [wz' (z := (i : Int) + 1) (y := ((i + 1 : Nat) : Int)) (by omega) (by omega) (by omega)]
    rw [show acc ++ (enc (cs[i]).f0.toNat ++ enc (cs[i]).f1.toNat) ++ proofsE (cs[i]).f2 = acc ++ changeE cs[i] from by unfold changeE; simp only [List.append_assoc], ih, hd, List.flatMap_cons, List.append_assoc]
def mayM (a b c d : Int) (s : ByteArray) (ps : List S68) (cs : List S58) : Bool :=
  (decide (1 ≤ a) && (decide (a ≤ 7) && (nodeB b && (inB c 64 && (inB d (if a = 7 then 1000 else 64) && decide (s.size ≤ 4096)))))) &&
  ((proofsB ps && (decide (ps.length = 0) || decide (a = 5))) && (changesB cs && (decide (cs.length = 0) || decide (a = 6))))
theorem check_j2 (k : Nat) (x : Bool) (a b c d : Int) (s : ByteArray) (ps : List S68) (cs : List S58) : msg_Check.j2 (k + 1) x a b c d s ps cs = some (if (!x && (changesB cs && (decide (cs.length = 0) || decide (a = 6)))) = true then none else some 1) := by
  rw [msg_Check.j2]
  unfold msg_changes.f
  cases x with
  | true => rfl
  | false =>
    rw [if_neg (by decide), Option.bind_some]
    cases changesB cs with
    | false => rfl
    | true =>
      rw [if_pos rfl]
      by_cases h : cs.length = 0
      · rw [if_neg (by omega), decide_eq_true h]; rfl
      · rw [if_pos (by omega), decide_eq_false h]
        by_cases h6 : a = 6
        · rw [if_pos h6, decide_eq_true h6]; rfl
        · rw [if_neg h6, decide_eq_false h6]; rfl
theorem check_j1 (k : Nat) (x : Bool) (a b c d : Int) (s : ByteArray) (ps : List S68) (cs : List S58) : msg_Check.j1 (k + 2) x a b c d s ps cs = some (if (!x && ((proofsB ps && (decide (ps.length = 0) || decide (a = 5))) && (changesB cs && (decide (cs.length = 0) || decide (a = 6))))) = true then none else some 1) := by
  rw [msg_Check.j1]
  unfold msg_proofs.f
  cases x with
  | true => rfl
  | false =>
    rw [if_neg (by decide), Option.bind_some]
    cases proofsB ps with
    | false => rw [if_neg (by decide), check_j2]; rfl
    | true =>
      rw [if_pos rfl]
      by_cases h : ps.length = 0
      · rw [if_neg (by omega), decide_eq_true h, check_j2]; rfl
      · rw [if_pos (by omega), decide_eq_false h, check_j2]
        by_cases h5 : a = 5
        · rw [decide_eq_true h5, show (a != 5) = false from by simp [h5]]; rfl
        · rw [decide_eq_false h5, show (a != 5) = true from by simp [h5]]; rfl
theorem node_in (b : Int) : nodeB b = inB b 12 := rfl
theorem check_j0 (k : Nat) (m : Int) (a b c d : Int) (s : ByteArray) (ps : List S68) (cs : List S58) : msg_Check.j0 (k + 3) m a b c d s ps cs = some (if ((decide (1 ≤ a) && (decide (a ≤ 7) && (nodeB b && (inB c 64 && (inB d m && decide (s.size ≤ 4096)))))) &&
  ((proofsB ps && (decide (ps.length = 0) || decide (a = 5))) && (changesB cs && (decide (cs.length = 0) || decide (a = 6))))) = true then none else some 1) := by
  rw [msg_Check.j0]
  rw [node_f, within_f, within_f, Option.bind_some, Option.bind_some, Option.bind_some]
  by_cases h1 : a < 1
  · rw [if_pos h1, check_j1, decide_eq_false (by omega : ¬ 1 ≤ a)]; rfl
  · rw [if_neg h1, decide_eq_true (by omega : 1 ≤ a)]
    by_cases h7 : a > 7
    · rw [if_pos h7, check_j1, decide_eq_false (by omega : ¬ a ≤ 7)]; rfl
    · rw [if_neg h7, decide_eq_true (by omega : a ≤ 7)]
      cases nodeB b with
      | false => rw [if_neg (by decide), check_j1]; rfl
      | true =>
        rw [if_pos rfl]
        cases inB c 64 with
        | false => rw [if_neg (by decide), check_j1]; rfl
        | true =>
          rw [if_pos rfl]
          cases inB d m with
          | false => rw [if_neg (by decide), check_j1]; rfl
          | true =>
            rw [if_pos rfl, check_j1]
            by_cases hs : s.size ≤ 4096
            · rw [decide_eq_true hs, decide_eq_false (by omega : ¬ (s.size : Int) > 4096)]; rfl
            · rw [decide_eq_false hs, decide_eq_true (by omega : (s.size : Int) > 4096)]; rfl
theorem check_f (k : Nat) (hk : 3 ≤ k) (a b c d : Int) (s : ByteArray) (ps : List S68) (cs : List S58) : msg_Check.f k a b c d s ps cs = some (if mayM a b c d s ps cs = true then none else some 1) := by
  obtain ⟨k, rfl⟩ : ∃ q, k = q + 3 := ⟨k - 3, by omega⟩
  unfold msg_Check.f mayM
  by_cases h : a = 7
  · rw [if_pos h, if_pos h, check_j0]
  · rw [if_neg h, if_neg h, check_j0]
theorem in_f (n m : Int) : becketref12_in.f n m = some (inB n m) := by
  unfold becketref12_in.f inB
  by_cases h : n ≥ 0
  · rw [if_pos h, decide_eq_true (show 0 ≤ n from h)]; rfl
  · rw [if_neg h, decide_eq_false (show ¬ 0 ≤ n from h)]; rfl
theorem refproofs_l1 (l : List S68) (i : Nat) (v s : Int) (b : ByteArray) (fr : List Int) (hf : fr.length ≤ 13) (hi : i < l.length) (hl : l.length ≤ 64) (R : Bool) (K : Nat) (H : ∀ k, K ≤ k → becketref12_proofs.l0 k l ((i + 1 : Nat) : Int) = some R) :
    ∀ (q k j : Nat), q = fr.length - j → j ≤ fr.length → K + q + 1 ≤ k → becketref12_proofs.l1 k l i j v s b fr = some (!((fr.drop j).any fun n => !nodeB n) && R)
  | 0, k, j, hq, hj, hk => by
    obtain ⟨k, rfl⟩ : ∃ k', k = k' + 1 := ⟨k - 1, by omega⟩
    have : j = fr.length := by omega
    subst this
    rw [becketref12_proofs.l1]
    rw [if_neg (by omega), List.drop_length, wz' (z := (i : Int) + 1) (y := ((i + 1 : Nat) : Int)) (by omega) (by omega) (by omega), H k (by omega)]
    rfl
  | q + 1, k, j, hq, hj, hk => by
    obtain ⟨k, rfl⟩ : ∃ k', k = k' + 1 := ⟨k - 1, by omega⟩
    have hlt : j < fr.length := by omega
    have hd : fr.drop j = fr[j] :: fr.drop (j + 1) := List.drop_eq_getElem_cons hlt
    have ih := refproofs_l1 l i v s b fr hf hi hl R K H q k (j + 1) (by omega) (by omega) (by omega)
    rw [becketref12_proofs.l1]
    rw [if_pos (by omega), if_pos (by omega), rd_get fr j hlt, in_f, Option.bind_some, wz' (z := (j : Int) + 1) (y := ((j + 1 : Nat) : Int)) (by omega) (by omega) (by omega), hd, List.any_cons, node_in]
    cases inB fr[j] 12 with
    | true => rw [if_pos rfl, ih]; rfl
    | false => rfl
theorem refproofs_j1 (k : Nat) (l : List S68) (i : Int) (x : Bool) (v s : Int) (b : ByteArray) (fr : List Int) : becketref12_proofs.j1 (k + 1) l i x v s b fr = if x = true then some false else becketref12_proofs.l1 k l i 0 v s b fr := by rw [becketref12_proofs.j1]
theorem refproofs_l0 (l : List S68) (hl : l.length ≤ 64) : ∀ (q k i : Nat), q = l.length - i → i ≤ l.length → 20 * q + 5 ≤ k → becketref12_proofs.l0 k l i = some (!((l.drop i).any fun p => !proofB p))
  | 0, k, i, hq, hi, hk => by
    obtain ⟨k, rfl⟩ : ∃ k', k = k' + 1 := ⟨k - 1, by omega⟩
    have : i = l.length := by omega
    subst this
    rw [becketref12_proofs.l0]
    rw [if_neg (by omega), List.drop_length]
    rfl
  | q + 1, k, i, hq, hi, hk => by
    obtain ⟨k, rfl⟩ : ∃ k', k = k' + 2 := ⟨k - 2, by omega⟩
    have hlt : i < l.length := by omega
    have hd : l.drop i = l[i] :: l.drop (i + 1) := List.drop_eq_getElem_cons hlt
    have H : ∀ k', 20 * q + 5 ≤ k' → becketref12_proofs.l0 k' l ((i + 1 : Nat) : Int) = some (!((l.drop (i + 1)).any fun p => !proofB p)) := fun k' h => refproofs_l0 l hl q k' (i + 1) (by omega) (by omega) h
    rw [becketref12_proofs.l0]
    rw [if_pos (by omega), if_pos (by omega), rdP_get l i hlt, in_f, in_f, Option.bind_some, Option.bind_some, hd, List.any_cons]
    obtain ⟨v, s, b, fr⟩ := l[i]
    dsimp only
    have hP : proofB ⟨v, s, b, fr⟩ = (inB v 64 && (inB s 64 && (decide (b.size ≤ 4096) && (decide (fr.length ≤ 13) && !(fr.any fun n => !nodeB n))))) := rfl
    rw [hP]
    cases inB v 64 with
    | false => rw [if_neg (by decide), refproofs_j1, if_pos rfl]; rfl
    | true =>
      rw [if_pos rfl]
      cases inB s 64 with
      | false => rw [if_neg (by decide), refproofs_j1, if_pos rfl]; rfl
      | true =>
        rw [if_pos rfl]
        by_cases hb : b.size ≤ 4096
        · rw [if_neg (by omega), decide_eq_true hb]
          by_cases hf : fr.length ≤ 13
          · rw [decide_eq_true hf, decide_eq_false (by omega : ¬ (fr.length : Int) > 13), refproofs_j1, if_neg (by decide)]
            have := refproofs_l1 l i v s b fr hf hlt hl _ (20 * q + 5) H fr.length k 0 (by omega) (by omega) (by omega)
            rw [List.drop_zero] at this
            refine this.trans ?_
            simp
          · rw [decide_eq_false hf, decide_eq_true (by omega : (fr.length : Int) > 13), refproofs_j1, if_pos rfl]; simp
        · rw [if_pos (by omega), decide_eq_false hb, refproofs_j1, if_pos rfl]; simp
theorem refproofs_f (l : List S68) (k : Nat) (hk : 1300 ≤ k) : becketref12_proofs.f k l = some (proofsB l) := by
  unfold becketref12_proofs.f proofsB
  by_cases h : l.length ≤ 64
  · rw [if_neg (by omega), decide_eq_true h]
    have := refproofs_l0 l h l.length k 0 (by omega) (by omega) (by omega)
    rw [List.drop_zero] at this
    exact this
  · rw [if_pos (by omega), decide_eq_false h]; rfl
theorem refmay_l0 (a b c d : Int) (s : ByteArray) (ps : List S68) (cs : List S58) (hl : cs.length ≤ 13) : ∀ (q k i : Nat) (x : Bool), q = cs.length - i → i ≤ cs.length → q + 1320 ≤ k → becketref12_May.l0 k x i a b c d s ps cs = some (x && !((cs.drop i).any changeBad))
  | 0, k, i, x, hq, hi, hk => by
    obtain ⟨k, rfl⟩ : ∃ k', k = k' + 1 := ⟨k - 1, by omega⟩
    have : i = cs.length := by omega
    subst this
    rw [becketref12_May.l0]
    rw [if_neg (by omega), List.drop_length]
    simp
  | q + 1, k, i, x, hq, hi, hk => by
    obtain ⟨k, rfl⟩ : ∃ k', k = k' + 1 := ⟨k - 1, by omega⟩
    have hlt : i < cs.length := by omega
    have hd : cs.drop i = cs[i] :: cs.drop (i + 1) := List.drop_eq_getElem_cons hlt
    have ih := fun x => refmay_l0 a b c d s ps cs hl q k (i + 1) x (by omega) (by omega) (by omega)
    rw [becketref12_May.l0]
    rw [if_pos (by omega), if_pos (by omega), rdC_get cs i hlt, refproofs_f _ k (by omega), in_f, in_f, Option.bind_some, Option.bind_some, Option.bind_some, wz' (z := (i : Int) + 1) (y := ((i + 1 : Nat) : Int)) (by omega) (by omega) (by omega), hd, List.any_cons, ih, ih]
    have hP : changeBad cs[i] = (!nodeB (cs[i]).f0 || (!inB (cs[i]).f1 64 || !proofsB (cs[i]).f2)) := rfl
    rw [hP, node_in]
    cases x <;> cases proofsB (cs[i]).f2 <;> cases inB (cs[i]).f0 12 <;> cases inB (cs[i]).f1 64 <;> simp
theorem refmay_j2 (k : Nat) (hk : 1400 ≤ k) (x : Bool) (a b c d : Int) (s : ByteArray) (ps : List S68) (cs : List S58) (hx : x = false → cs.length ≤ 13) : becketref12_May.j2 (k + 1) x a b c d s ps cs = some (!x && (proofsB ps && !(cs.any changeBad))) := by
  rw [becketref12_May.j2]
  cases x with
  | true => rfl
  | false =>
    rw [if_neg (by decide), refproofs_f ps k (by omega), Option.bind_some]
    have := refmay_l0 a b c d s ps cs (hx rfl) cs.length k 0 (proofsB ps) (by omega) (by omega) (by have := hx rfl; omega)
    rw [List.drop_zero] at this
    exact this
theorem refmay_j1 (k : Nat) (hk : 1400 ≤ k) (x : Bool) (a b c d : Int) (s : ByteArray) (ps : List S68) (cs : List S58) : becketref12_May.j1 (k + 2) x a b c d s ps cs = some (!x && ((proofsB ps && (decide (ps.length = 0) || decide (a = 5))) && (changesB cs && (decide (cs.length = 0) || decide (a = 6))))) := by
  have hc : changesB cs = (decide (cs.length ≤ 13) && !(cs.any changeBad)) := rfl
  have e13 : decide ((cs.length : Int) > 13) = !decide (cs.length ≤ 13) := by
    by_cases h : cs.length ≤ 13
    · rw [decide_eq_true h, decide_eq_false (by omega)]; rfl
    · rw [decide_eq_false h, decide_eq_true (by omega)]; rfl
  have hj := refmay_j2 k hk (!decide (cs.length ≤ 13)) a b c d s ps cs (fun h => by simpa using h)
  have ht := refmay_j2 k hk true a b c d s ps cs (fun h => by cases h)
  rw [becketref12_May.j1]
  rw [hc, e13, hj, ht]
  cases x with
  | true => rfl
  | false =>
    rw [if_neg (by decide)]
    by_cases h5 : a = 5
    · have h6 : a ≠ 6 := by omega
      rw [if_pos h5, if_neg h6, decide_eq_true h5, decide_eq_false h6]
      by_cases hp : ps.length = 0
      · rw [if_neg (by omega)]
        by_cases hz : cs.length = 0
        · rw [if_neg (by omega), decide_eq_true hz]
          cases decide (cs.length ≤ 13) <;> cases proofsB ps <;> cases cs.any changeBad <;> simp
        · rw [if_pos (by omega), decide_eq_false hz]
          cases decide (cs.length ≤ 13) <;> cases proofsB ps <;> cases cs.any changeBad <;> simp
      · rw [if_pos (by omega)]
        by_cases hz : cs.length = 0
        · rw [if_neg (by omega), decide_eq_true hz]
          cases decide (cs.length ≤ 13) <;> cases proofsB ps <;> cases cs.any changeBad <;> simp
        · rw [if_pos (by omega), decide_eq_false hz]
          cases decide (cs.length ≤ 13) <;> cases proofsB ps <;> cases cs.any changeBad <;> simp
    · rw [if_neg h5, decide_eq_false h5]
      by_cases hp : ps.length = 0
      · rw [if_neg (by omega), decide_eq_true hp]
        by_cases hz : cs.length = 0
        · rw [if_neg (by omega), decide_eq_true hz]
          cases decide (cs.length ≤ 13) <;> cases proofsB ps <;> cases cs.any changeBad <;> simp
        · rw [if_pos (by omega), decide_eq_false hz]
          by_cases h6 : a = 6
          · rw [if_pos h6, decide_eq_true h6]
            cases decide (cs.length ≤ 13) <;> cases proofsB ps <;> cases cs.any changeBad <;> simp
          · rw [if_neg h6, decide_eq_false h6]
            cases decide (cs.length ≤ 13) <;> cases proofsB ps <;> cases cs.any changeBad <;> simp
      · rw [if_pos (by omega), decide_eq_false hp]
        cases decide (cs.length ≤ 13) <;> cases proofsB ps <;> cases cs.any changeBad <;> simp
theorem refmay_j0 (k : Nat) (hk : 1400 ≤ k) (m : Int) (a b c d : Int) (s : ByteArray) (ps : List S68) (cs : List S58) : becketref12_May.j0 (k + 3) m a b c d s ps cs = some ((decide (1 ≤ a) && (decide (a ≤ 7) && (nodeB b && (inB c 64 && (inB d m && decide (s.size ≤ 4096)))))) &&
  ((proofsB ps && (decide (ps.length = 0) || decide (a = 5))) && (changesB cs && (decide (cs.length = 0) || decide (a = 6))))) := by
  rw [becketref12_May.j0]
  rw [in_f, in_f, in_f, Option.bind_some, Option.bind_some, Option.bind_some, node_in]
  by_cases h1 : a < 1
  · rw [if_pos h1, refmay_j1 k hk, decide_eq_false (by omega : ¬ 1 ≤ a)]; rfl
  · rw [if_neg h1, decide_eq_true (by omega : 1 ≤ a)]
    by_cases h7 : a > 7
    · rw [if_pos h7, refmay_j1 k hk, decide_eq_false (by omega : ¬ a ≤ 7)]; rfl
    · rw [if_neg h7, decide_eq_true (by omega : a ≤ 7)]
      cases inB b 12 with
      | false => rw [if_neg (by decide), refmay_j1 k hk]; rfl
      | true =>
        rw [if_pos rfl]
        cases inB c 64 with
        | false => rw [if_neg (by decide), refmay_j1 k hk]; rfl
        | true =>
          rw [if_pos rfl]
          cases inB d m with
          | false => rw [if_neg (by decide), refmay_j1 k hk]; rfl
          | true =>
            rw [if_pos rfl, refmay_j1 k hk]
            by_cases hs : s.size ≤ 4096
            · rw [decide_eq_true hs, decide_eq_false (by omega : ¬ (s.size : Int) > 4096)]; rfl
            · rw [decide_eq_false hs, decide_eq_true (by omega : (s.size : Int) > 4096)]; rfl
theorem refmay_f (k : Nat) (hk : 1500 ≤ k) (a b c d : Int) (s : ByteArray) (ps : List S68) (cs : List S58) : becketref12_May.f k a b c d s ps cs = some (mayM a b c d s ps cs) := by
  obtain ⟨k, rfl⟩ : ∃ q, k = q + 3 := ⟨k - 3, by omega⟩
  unfold becketref12_May.f mayM
  by_cases h : a = 7
  · rw [if_pos h, if_pos h, refmay_j0 k (by omega)]
  · rw [if_neg h, if_neg h, refmay_j0 k (by omega)]
theorem number_f {n : Int} (h : sm n) (k : Nat) (hk : 10 < k) : becketref12_number.f k n = some (enc n.toNat) := by
  unfold becketref12_number.f
  rw [wuz h, refnum_f n.toNat (by have := h.2; omega) k hk, Option.bind_some]
theorem numberN_f {n : Nat} (h : n ≤ 1000000) (k : Nat) (hk : 10 < k) : becketref12_number.f k (n : Int) = some (enc n) := by
  have := number_f (n := (n : Int)) ⟨by omega, by omega⟩ k hk
  simpa using this
theorem rtext_f (s : ByteArray) (hs : s.size ≤ 140737488351232) (k : Nat) (hk : 10 < k) : becketref01_Text.f k s = some (txt s) := reftext_f s hs k hk
theorem refput_l1 (l : List S68) (i : Nat) (hi : i < l.length) (hl : l.length ≤ 200) (hf : (l[i]).f3.length ≤ 100) (hs : ∀ x ∈ (l[i]).f3, sm x) (R : List Int) (K : Nat) :
    ∀ (q k j : Nat) (acc : List Int), q = (l[i]).f3.length - j → j ≤ (l[i]).f3.length → K + q + 12 ≤ k → acc.length + 10 * q ≤ 900000000 →
      (∀ k, K ≤ k → becketref12_put.l0 k l (acc ++ numsB ((l[i]).f3.drop j)) ((i + 1 : Nat) : Int) = some R) → becketref12_put.l1 k l acc i j = some R
  | 0, k, j, acc, hq, hj, hk, ha, H => by
    obtain ⟨k, rfl⟩ : ∃ k', k = k' + 1 := ⟨k - 1, by omega⟩
    have : j = (l[i]).f3.length := by omega
    subst this
    rw [becketref12_put.l1]
    rw [if_pos (by omega), if_pos (by omega), rdP_get l i hi, if_neg (by omega), wz' (z := (i : Int) + 1) (y := ((i + 1 : Nat) : Int)) (by omega) (by omega) (by omega)]
    have := H k (by omega)
    rw [List.drop_length] at this
    simpa [numsB] using this
  | q + 1, k, j, acc, hq, hj, hk, ha, H => by
    obtain ⟨k, rfl⟩ : ∃ k', k = k' + 1 := ⟨k - 1, by omega⟩
    have hlt : j < (l[i]).f3.length := by omega
    have hd : (l[i]).f3.drop j = (l[i]).f3[j] :: (l[i]).f3.drop (j + 1) := List.drop_eq_getElem_cons hlt
    have hsm := hs (l[i]).f3[j] (List.getElem_mem _)
    have h10 := enc10 (n := ((l[i]).f3[j]).toNat) (by have := hsm.2; omega)
    rw [becketref12_put.l1]
    rw [if_pos (by omega), if_pos (by omega), rdP_get l i hi, if_pos (by omega), if_pos (by omega), rd_get _ j hlt, number_f hsm k (by omega), Option.bind_some, if_pos (by omega), wz' (z := (j : Int) + 1) (y := ((j + 1 : Nat) : Int)) (by omega) (by omega) (by omega)]
    refine refput_l1 l i hi hl hf hs R K q k (j + 1) _ (by omega) (by omega) (by omega) (by rw [List.length_append]; omega) (fun k hk => ?_)
    rw [List.append_assoc]
    have := H k hk
    rw [hd] at this
    exact this
theorem refput_l0 (l : List S68) (hl : l.length ≤ 200) (hx : ∀ x ∈ l, okP x) : ∀ (q k i : Nat) (acc : List Int), q = l.length - i → i ≤ l.length → acc.length + 6100 * q ≤ 800000000 → 130 * q + 20 ≤ k → becketref12_put.l0 k l acc i = some (acc ++ (l.drop i).flatMap proofE)
  | 0, k, i, acc, hq, hi, ha, hk => by
    obtain ⟨k, rfl⟩ : ∃ k', k = k' + 1 := ⟨k - 1, by omega⟩
    have : i = l.length := by omega
    subst this
    rw [becketref12_put.l0]
    rw [if_neg (by omega), List.drop_length]
    simp
  | q + 1, k, i, acc, hq, hi, ha, hk => by
    obtain ⟨k, rfl⟩ : ∃ k', k = k' + 1 := ⟨k - 1, by omega⟩
    have hlt : i < l.length := by omega
    have hd : l.drop i = l[i] :: l.drop (i + 1) := List.drop_eq_getElem_cons hlt
    have hok := hx l[i] (List.getElem_mem _)
    have hpl := proofE_len hok
    have ih := fun k hk => refput_l0 l hl hx q k (i + 1) (acc ++ proofE l[i]) (by omega) (by omega) (by rw [List.length_append]; omega) hk
    obtain ⟨h1, h2, h3, h4, h5⟩ := hok
    have e1 := enc10 (n := (l[i]).f0.toNat) (by have := h1.2; omega)
    have e2 := enc10 (n := (l[i]).f1.toNat) (by have := h2.2; omega)
    have e3 := txt_len h3
    have e4 := enc10 (n := (l[i]).f3.length) (by omega)
    have e5 := numsB_len (l[i]).f3 h5
    rw [becketref12_put.l0]
    rw [if_pos (by omega), if_pos (by omega), rdP_get l i hlt]
    rw [number_f h1 k (by omega), Option.bind_some, if_pos (by omega), Option.bind_some, number_f h2 k (by omega), Option.bind_some, if_pos (by rw [List.length_append]; omega), Option.bind_some]
    rw [rtext_f _ (by omega) k (by omega), Option.bind_some, if_pos (by simp only [List.length_append]; omega), Option.bind_some]
    rw [numberN_f (by omega : (l[i]).f3.length ≤ 1000000) k (by omega), Option.bind_some, if_pos (by simp only [List.length_append]; omega)]
    refine refput_l1 l i hlt hl h4 h5 _ (130 * q + 20) (l[i]).f3.length k 0 _ (by omega) (by omega) (by omega) (by simp only [List.length_append]; omega) (fun k hk => ?_)
    rw [List.drop_zero, show acc ++ enc (l[i]).f0.toNat ++ enc (l[i]).f1.toNat ++ txt (l[i]).f2 ++ enc (l[i]).f3.length ++ numsB (l[i]).f3 = acc ++ proofE l[i] from by unfold proofE; simp only [List.append_assoc], ih k hk, hd, List.flatMap_cons, List.append_assoc]
theorem refput_f (l : List S68) (hl : l.length ≤ 200) (hx : ∀ x ∈ l, okP x) (k : Nat) (hk : 27000 ≤ k) : becketref12_put.f k l = some (proofsE l) := by
  have e0 := enc10 (n := l.length) (by omega)
  unfold becketref12_put.f
  rw [numberN_f (by omega) k (by omega), Option.bind_some]
  have := refput_l0 l hl hx l.length k 0 (enc l.length) (by omega) (by omega) (by have : 6100 * l.length ≤ 6100 * 200 := Nat.mul_le_mul_left _ hl; omega) (by omega)
  rw [List.drop_zero] at this
  exact this
set_option maxRecDepth 20000 in
theorem refPut_l0 (a b c d : Int) (s : ByteArray) (ps : List S68) (cs : List S58) (hl : cs.length ≤ 50) (hx : ∀ x ∈ cs, okC x) (K : Nat) (hK : 27000 ≤ K) : ∀ (q k i : Nat) (acc : List Int), q = cs.length - i → i ≤ cs.length → acc.length + 1220030 * q ≤ 700000000 → q + K ≤ k → becketref12_Put.l0 k acc i a b c d s ps cs = some (acc ++ (cs.drop i).flatMap changeE)
  | 0, k, i, acc, hq, hi, ha, hk => by
    obtain ⟨k, rfl⟩ : ∃ k', k = k' + 1 := ⟨k - 1, by omega⟩
    have : i = cs.length := by omega
    subst this
    unfold becketref12_Put.l0
    rw [if_neg (by omega), List.drop_length]
    simp
  | q + 1, k, i, acc, hq, hi, ha, hk => by
    obtain ⟨k, rfl⟩ : ∃ k', k = k' + 1 := ⟨k - 1, by omega⟩
    have hKk : K ≤ k := by clear ha hK; omega
    have hk27 : 27000 ≤ k := Nat.le_trans hK hKk
    have hk10 : 10 < k := Nat.lt_of_lt_of_le (by decide) hk27
    have hlt : i < cs.length := by omega
    have hd : cs.drop i = cs[i] :: cs.drop (i + 1) := List.drop_eq_getElem_cons hlt
    have hok := hx cs[i] (List.getElem_mem _)
    have hpl := changeE_len hok
    have ih := refPut_l0 a b c d s ps cs hl hx K hK q k (i + 1) (acc ++ changeE cs[i]) (by omega) (by omega) (by rw [List.length_append]; omega) (by omega)
    obtain ⟨h1, h2, h3, h4⟩ := hok
    have e1 := enc10 (n := (cs[i]).f0.toNat) (by have := h1.2; omega)
    have e2 := enc10 (n := (cs[i]).f1.toNat) (by have := h2.2; omega)
    have e3 := proofsE_len h3 h4
    unfold becketref12_Put.l0
    rw [if_pos (by omega), if_pos (by omega), rdC_get cs i hlt]
    rw [number_f h1 k hk10, Option.bind_some, if_pos (by omega), Option.bind_some, number_f h2 k hk10, Option.bind_some, if_pos (by rw [List.length_append]; omega), Option.bind_some]
    rw [refput_f _ h3 h4 k hk27, Option.bind_some, if_pos (by simp only [List.length_append]; omega), wz' (z := (i : Int) + 1) (y := ((i + 1 : Nat) : Int)) (by omega) (by omega) (by omega)]
    rw [show acc ++ enc (cs[i]).f0.toNat ++ enc (cs[i]).f1.toNat ++ proofsE (cs[i]).f2 = acc ++ changeE cs[i] from by unfold changeE; simp only [List.append_assoc], ih, hd, List.flatMap_cons, List.append_assoc]
structure OkM (a b c d : Int) (s : ByteArray) (ps : List S68) (cs : List S58) : Prop where
  ha : sm a
  hb : sm b
  hc : sm c
  hd : sm d
  hs : s.size ≤ 5000
  hps : ps.length ≤ 200
  hp : ∀ p ∈ ps, okP p
  hcs : cs.length ≤ 50
  hcc : ∀ c ∈ cs, okC c
set_option maxRecDepth 20000 in
theorem refPut_f {a b c d : Int} {s : ByteArray} {ps : List S68} {cs : List S58} (h : OkM a b c d s ps cs) (k : Nat) (hk : 28000 ≤ k) : becketref12_Put.f k a b c d s ps cs = some (msgE a b c d s ps cs) := by
  obtain ⟨h1, h2, h3, h4, h5, h6, h7, h8, h9⟩ := h
  have e1 := enc10 (n := a.toNat) (by have := h1.2; omega)
  have e2 := enc10 (n := b.toNat) (by have := h2.2; omega)
  have e3 := enc10 (n := c.toNat) (by have := h3.2; omega)
  have e4 := enc10 (n := d.toNat) (by have := h4.2; omega)
  have e5 := txt_len h5
  have e6 := proofsE_len h6 h7
  have e7 := enc10 (n := cs.length) (by omega)
  unfold becketref12_Put.f
  rw [number_f h1 k (by omega), Option.bind_some, number_f h2 k (by omega), Option.bind_some, if_pos (by omega), Option.bind_some]
  rw [number_f h3 k (by omega), Option.bind_some, if_pos (by rw [List.length_append]; omega), Option.bind_some]
  rw [number_f h4 k (by omega), Option.bind_some, if_pos (by simp only [List.length_append]; omega), Option.bind_some]
  rw [rtext_f _ (by omega) k (by omega), Option.bind_some, if_pos (by simp only [List.length_append]; omega), Option.bind_some]
  rw [refput_f _ h6 h7 k (by omega), Option.bind_some, if_pos (by simp only [List.length_append]; omega), Option.bind_some]
  rw [numberN_f (by omega : cs.length ≤ 1000000) k (by omega), Option.bind_some, if_pos (by simp only [List.length_append]; omega)]
  have hcl : 1220030 * cs.length ≤ 1220030 * 50 := Nat.mul_le_mul_left _ h8
  have := refPut_l0 a b c d s ps cs h8 h9 27000 (Nat.le_refl _) cs.length k 0 (enc a.toNat ++ enc b.toNat ++ enc c.toNat ++ enc d.toNat ++ txt s ++ proofsE ps ++ enc cs.length) (by omega) (by omega) (by simp only [List.length_append]; omega) (by omega)
  refine this.trans ?_
  rw [List.drop_zero]
  unfold msgE
  simp only [List.append_assoc]
set_option maxRecDepth 20000 in
theorem put_f {a b c d : Int} {s : ByteArray} {ps : List S68} {cs : List S58} (h : OkM a b c d s ps cs) (k : Nat) (hk : 600 ≤ k) : msg_Put.f k a b c d s ps cs = some (if mayM a b c d s ps cs = true then (msgE a b c d s ps cs, none) else ([], some 1)) := by
  obtain ⟨h1, h2, h3, h4, h5, h6, h7, h8, h9⟩ := h
  have e1 := enc10 (n := a.toNat) (by have := h1.2; omega)
  have e2 := enc10 (n := b.toNat) (by have := h2.2; omega)
  have e3 := enc10 (n := c.toNat) (by have := h3.2; omega)
  have e4 := enc10 (n := d.toNat) (by have := h4.2; omega)
  have e5 := txt_len h5
  have e6 := proofsE_len h6 h7
  have e7 := enc10 (n := cs.length) (by omega)
  unfold msg_Put.f
  rw [check_f k (by omega), Option.bind_some]
  by_cases hm : mayM a b c d s ps cs = true
  · rw [if_pos hm, if_pos (show (none : Option Int).isNone = true from rfl), if_pos hm]
    rw [numbers_f [a, b, c, d] [] (by simp; exact ⟨h1, h2, h3, h4⟩) (by simp) (by simp) k (by simp; omega), Option.bind_some, List.nil_append]
    rw [show numsB [a, b, c, d] = enc a.toNat ++ enc b.toNat ++ enc c.toNat ++ enc d.toNat from by simp [numsB]]
    rw [text_f _ s (by omega) (by simp only [List.length_append]; omega) k (by omega), Option.bind_some]
    rw [show ∀ z : List Int, z ++ enc s.size ++ bytesOf s = z ++ txt s from fun z => by unfold txt; rw [List.append_assoc]]
    rw [putProofs_f ps _ h6 h7 (by simp only [List.length_append]; omega) k (by omega), Option.bind_some]
    rw [numbers_f [(cs.length : Int)] _ (by simp; exact ⟨by omega, by omega⟩) (by simp) (by simp only [List.length_append, List.length_cons, List.length_nil]; omega) k (by simp; omega), Option.bind_some, numsB1]
    have hcl : 1220030 * cs.length ≤ 1220030 * 50 := Nat.mul_le_mul_left _ h8
    have := put_l cs h8 h9 cs.length k 0 (enc a.toNat ++ enc b.toNat ++ enc c.toNat ++ enc d.toNat ++ txt s ++ proofsE ps ++ enc cs.length) (by omega) (by omega) (by simp only [List.length_append]; omega) (by omega)
    refine this.trans ?_
    rw [List.drop_zero]
    unfold msgE
    simp only [List.append_assoc]
  · rw [if_neg hm, if_neg hm, if_neg (by decide)]
    rfl
end Go.Proofs.Ytkaoojcafefjjaa.MsgP
