-- Cut by a program of this session (wip/shake.py) out of a text of this seat: what this claim doesn't reach is struck out. Lean checks it.
import Derived.Test.YtghfofjlafeliaaDoorPureOBCb
import Derived.Lib.Hide
import Derived.BigRegion
namespace Go.Proofs.YtghfofjlafeliaaDoor.PureO
open Go.RowKit Go.Proofs.YtghfofjlafeliaaDoor.PureRoute Go.Proofs.YtghfofjlafeliaaDoor.Order Go.Proofs.YtghfofjlafeliaaDoor.OrderNK Go.Proofs.YtghfofjlafeliaaDoor.Route Go.Proofs.YtghfofjlafeliaaDoor.Or Go.Proofs.YtghfofjlafeliaaDoorW.PrintWords Go.Proofs.YtghfofjlafeliaaDoorW.PrintLast Go.Proofs.YtghfofjlafeliaaDoorW.PrintMore
attribute [local go_sem] eqlErr neqErr eqlErrNil neqErrNil
set_option linter.unusedSimpArgs false
set_option linter.unusedVariables false
theorem txt_size {l : List Int} (hb : bytesOk l) (at_ : Nat) (bad : Bool) : (txtOf l at_ bad).1.size ≤ 4096 := by
  unfold txtOf
  by_cases h : bad = true
  · rw [if_pos h]
    show (⟨#[]⟩ : ByteArray).size ≤ 4096
    decide
  · rw [if_neg h]
    generalize hr : gn 4096 0 0 (l.drop at_) = r
    obtain ⟨v, c, er⟩ := r
    cases er with
    | some e =>
      show (⟨#[]⟩ : ByteArray).size ≤ 4096
      decide
    | none =>
      obtain ⟨_, m, g1, g2, g3, _⟩ := gn_back 4096 (l.drop at_) 0 0 v c (fun x hx => hb x (List.mem_of_mem_drop hx)) hr
      simp only
      split
      · show (⟨#[]⟩ : ByteArray).size ≤ 4096
        decide
      · rw [strOfNums_size, List.length_drop, List.length_take]
        omega
theorem readKeys_len (l : List Int) : ∀ (m at_ : Nat) (bad : Bool) (ks : List ByteArray), (readKeys l m at_ bad ks).1.length ≤ ks.length + m
  | 0, _, _, ks => by simp [readKeys]
  | m + 1, at_, bad, ks => by
    unfold readKeys
    split
    · simp
    · have := readKeys_len l m (txtOf l at_ bad).2.1 (txtOf l at_ bad).2.2 (ks ++ [(txtOf l at_ bad).1])
      rw [List.length_append, List.length_singleton] at this
      omega
theorem num_most {l : List Int} (hb : bytesOk l) (at_ : Nat) (bad : Bool) : (numOf l 65536 at_ bad).1.toNat ≤ 65536 := by
  unfold numOf
  by_cases h : bad = true
  · rw [if_pos h]
    show (0 : Int).toNat ≤ 65536
    decide
  · rw [if_neg h]
    unfold gat
    generalize hr : gn 65536 0 0 (l.drop at_) = r
    obtain ⟨v, c, er⟩ := r
    cases er with
    | some e =>
      show (0 : Int).toNat ≤ 65536
      decide
    | none =>
      obtain ⟨_, m, g1, g2, g3, _⟩ := gn_back 65536 (l.drop at_) 0 0 v c (fun x hx => hb x (List.mem_of_mem_drop hx)) hr
      simp only [Option.isNone_none, if_true]
      omega
theorem get_total {l : List Int} (hb : bytesOk l) (hl : l.length ≤ 1000000) : ∃ r1 r2 r3 r4 r5 r6 r7 r8, order_Get.f 1000 l = some (r1, r2, r3, r4, r5, r6, r7, r8) ∧ r6.length ≤ 65536 := by
  have hall : (l.all fun x => decide (0 ≤ x) && decide (x ≤ 255)) = true := by
    rw [List.all_eq_true]
    intro x hx
    have := hb x hx
    simp [this.1, this.2]
  have hk : (keysOfL l).1.length ≤ 65536 := by
    unfold keysOfL
    have h1 := readKeys_len l (headOf l).ct.1.toNat (headOf l).ct.2.1 (headOf l).ct.2.2 []
    have h2 : (headOf l).ct.1.toNat ≤ 65536 := num_most hb _ _
    simp only [List.length_nil] at h1
    omega
  have hn : (headOf l).nm.1.size ≤ 5000 := by have : (headOf l).nm.1.size ≤ 4096 := txt_size hb _ _; omega
  have hp : (headOf l).pt.1.size ≤ 5000 := by have : (headOf l).pt.1.size ≤ 4096 := txt_size hb _ _; omega
  unfold order_Get.f
  obtain ⟨ck, hck⟩ : ∃ ck, order_Check.f 1000 (headOf l).cl.1 (headOf l).tm.1 (headOf l).kd.1 (headOf l).nm.1 (headOf l).pt.1 (keysOfL l).1 (headOf l).n.1 = some ck := ⟨_, check_f 1000 _ _ _ _ _ _ _ hn hp (by omega) (by omega)⟩
  rw [if_pos ⟨hall, hl⟩, hck, Option.bind_some]
  split
  · exact ⟨_, _, _, _, _, _, _, _, rfl, hk⟩
  · exact ⟨_, _, _, _, _, _, _, _, rfl, by simp⟩
theorem nil_R (W : World) : Kd.R (Kd.int .u8) 5 (W.alloc (.cells #[] 5)) W.heap.size (fun k => k = W.heap.size) (.slice (some ⟨W.heap.size, 0, none⟩) 0 0) [] := by
  refine ⟨fun k hk => ?_, [], ?_, Reps.none _ _⟩
  · have : W.heap.size = k := by simpa [Value.ownBlock] using hk
    exact this.symm
  · exact World.ownsRow_lit (base := W.heap.size) (e := 5) (size := 1) W #[] 0 (Nat.le_refl _) (by simp [maxLen]) (by simp)
def ST (w W : World) (g0 g1 : Nat) (c t d : Int) (nm pt : ByteArray) (A5 : Option Addr) (c5 : Nat) (ks : List ByteArray) (n : Int) (Ao : Option Addr) (co : Nat) (ok : Nat → Prop) : Prop :=
  W.heap[g0]? = some (.cells #[.int .i64 c, .int .i64 t, .int .i64 d, .string nm, .string pt, .slice A5 ks.length c5, .int .i64 n] 26) ∧ W.heap[g1]? = some (.cells #[.int .i64 c, .int .i64 t, .int .i64 d, .string nm, .string pt, .slice Ao ks.length co, .int .i64 n] 26) ∧
    Kd.R Kd.string 9 W w.heap.size ok (.slice Ao ks.length co) ks ∧ Below w.heap.size w W ∧ ok g0 ∧ ok g1
theorem ST.kept {w W W' : World} {g0 g1 : Nat} {c t d : Int} {nm pt : ByteArray} {A5 : Option Addr} {c5 : Nat} {ks : List ByteArray} {n : Int} {Ao : Option Addr} {co : Nat} {ok S : Nat → Prop} (h : ST w W g0 g1 c t d nm pt A5 c5 ks n Ao co ok) (hk : Kept W W' S) (hb : Below w.heap.size w W') (hS : ∀ k, ok k → ¬ S k) : ST w W' g0 g1 c t d nm pt A5 c5 ks n Ao co ok := by
  obtain ⟨h1, h2, h3, h4, h5, h6⟩ := h
  exact ⟨blk_kept h1 hk (hS g0 h5), blk_kept h2 hk (hS g1 h6), Kd.R_kept h3 hk hS, hb, h5, h6⟩
theorem ST.below {w W W' : World} {g0 g1 : Nat} {c t d : Int} {nm pt : ByteArray} {A5 : Option Addr} {c5 : Nat} {ks : List ByteArray} {n : Int} {Ao : Option Addr} {co : Nat} {ok : Nat → Prop} (h : ST w W g0 g1 c t d nm pt A5 c5 ks n Ao co ok) (hb : Below W.heap.size W W') : ST w W' g0 g1 c t d nm pt A5 c5 ks n Ao co ok := by
  obtain ⟨h1, h2, h3, h4, h5, h6⟩ := h
  exact ⟨blk_below h1 hb, blk_below h2 hb, Kd.R_below h3 hb, h4.trans (hb.mono h4.size), h5, h6⟩
end Go.Proofs.YtghfofjlafeliaaDoor.PureO
namespace Go.Proofs.YtghfofjlafeliaaDoor.PureO
open Go.RowKit Go.Proofs.YtghfofjlafeliaaDoor.PureRoute Go.Proofs.YtghfofjlafeliaaDoor.Order Go.Proofs.YtghfofjlafeliaaDoor.OrderNK Go.Proofs.YtghfofjlafeliaaDoor.Route Go.Proofs.YtghfofjlafeliaaDoor.Or Go.Proofs.YtghfofjlafeliaaDoorW.PrintWords Go.Proofs.YtghfofjlafeliaaDoorW.PrintLast Go.Proofs.YtghfofjlafeliaaDoorW.PrintMore
set_option linter.unusedSimpArgs false
set_option linter.unusedVariables false
theorem bytes_str {x : List Int} (hx : bytesOk x) : bytesOf (strOfNums x) = x := str_inj (ok_bytes _) hx (by rw [str_bytesOf])
theorem num_back {l : List Int} (hb : bytesOk l) {at_ : Nat} {bad : Bool} (ha : at_ ≤ l.length) (h : (numOf l 65536 at_ bad).2.2 = false) : bad = false ∧ ∃ m : Nat, (numOf l 65536 at_ bad).1 = m ∧ m ≤ 65536 ∧ l.drop at_ = enc m ++ l.drop (numOf l 65536 at_ bad).2.1 ∧ (numOf l 65536 at_ bad).2.1 ≤ l.length := by
  unfold numOf at h ⊢
  by_cases hbad : bad = true
  · rw [if_pos hbad] at h; cases h
  · rw [if_neg hbad] at h ⊢
    have hbf : bad = false := by simpa using hbad
    unfold gat at h ⊢
    generalize hr : gn 65536 0 0 (l.drop at_) = r at h ⊢
    obtain ⟨v, c, er⟩ := r
    cases er with
    | some e => cases h
    | none =>
      obtain ⟨_, m, g1, g2, g3, _, _, post, g6⟩ := gn_back 65536 (l.drop at_) 0 0 v c (fun x hx => hb x (List.mem_of_mem_drop hx)) hr
      simp only [Int.pow_zero, Int.mul_one, Int.zero_add] at g1
      simp only [Option.isNone_none, if_true]
      have hlen := congrArg List.length g6
      rw [List.length_drop, List.length_append] at hlen
      have e1 : ((at_ : Int) + c).toNat = at_ + (enc m).length := by omega
      refine ⟨hbf, m, g1, by omega, ?_, by omega⟩
      rw [e1, ← List.drop_drop, g6, List.drop_left]
theorem txt_back {l : List Int} (hb : bytesOk l) {at_ : Nat} {bad : Bool} (ha : at_ ≤ l.length) (h : (txtOf l at_ bad).2.2 = false) : bad = false ∧ l.drop at_ = txt (txtOf l at_ bad).1 ++ l.drop (txtOf l at_ bad).2.1 ∧ (txtOf l at_ bad).2.1 ≤ l.length := by
  unfold txtOf at h ⊢
  by_cases hbad : bad = true
  · rw [if_pos hbad] at h; cases h
  · rw [if_neg hbad] at h ⊢
    have hbf : bad = false := by simpa using hbad
    generalize hr : gn 4096 0 0 (l.drop at_) = r at h ⊢
    obtain ⟨v, c, er⟩ := r
    cases er with
    | some e => cases h
    | none =>
      obtain ⟨_, m, g1, g2, g3, _, _, post, g6⟩ := gn_back 4096 (l.drop at_) 0 0 v c (fun x hx => hb x (List.mem_of_mem_drop hx)) hr
      simp only [Int.pow_zero, Int.mul_one, Int.zero_add] at g1
      simp only at h ⊢
      have hlen := congrArg List.length g6
      rw [List.length_drop, List.length_append] at hlen
      by_cases hg : (at_ : Int) + c + v > (l.length : Int)
      · rw [if_pos hg] at h; cases h
      · rw [if_neg hg] at h ⊢
        have e1 : ((at_ : Int) + c + v).toNat = at_ + (enc m).length + m := by omega
        have e2 : ((at_ : Int) + c).toNat = at_ + (enc m).length := by omega
        have hp : l.drop (at_ + (enc m).length) = post := by rw [← List.drop_drop, g6, List.drop_left]
        have hcut : (l.take (at_ + (enc m).length + m)).drop (at_ + (enc m).length) = post.take m := by
          rw [List.drop_take, hp]; congr 1; omega
        have hcl : (post.take m).length = m := by rw [List.length_take]; omega
        have hcb : bytesOk (post.take m) := fun x hx => hb x (List.mem_of_mem_drop (i := at_) (by rw [g6]; exact List.mem_append_right _ (List.mem_of_mem_take hx)))
        refine ⟨hbf, ?_, by simp only; omega⟩
        simp only [e1, e2, hcut]
        unfold txt
        rw [strOfNums_size, hcl, bytes_str hcb, ← List.drop_drop, hp, List.append_assoc, List.take_append_drop, g6]
theorem keys_back {l : List Int} (hb : bytesOk l) : ∀ (m at_ : Nat) (bad : Bool) (acc : List ByteArray), at_ ≤ l.length → (readKeys l m at_ bad acc).2.2 = false →
    bad = false ∧ ∃ ks', (readKeys l m at_ bad acc).1 = acc ++ ks' ∧ ks'.length = m ∧ l.drop at_ = keysB ks' ++ l.drop (readKeys l m at_ bad acc).2.1 ∧ (readKeys l m at_ bad acc).2.1 ≤ l.length ∧ ∀ x ∈ ks', x.size ≤ 4096
  | 0, at_, bad, acc, ha, h => ⟨h, [], by simp [readKeys], rfl, by simp [readKeys, keysB], ha, by simp⟩
  | m + 1, at_, bad, acc, ha, h => by
    unfold readKeys at h ⊢
    by_cases hbad : bad = true
    · rw [if_pos hbad] at h; cases h
    · rw [if_neg hbad] at h ⊢
      obtain ⟨h1, ks', h2, h3, h4, h5, h6⟩ := keys_back hb m _ _ _ (txtOf_at hb ha bad) h
      obtain ⟨t1, t2, t3⟩ := txt_back hb ha h1
      refine ⟨t1, (txtOf l at_ bad).1 :: ks', by rw [h2, List.append_assoc]; rfl, by simp [h3], ?_, h5, fun x hx => ?_⟩
      · rw [t2, h4, keysB_cons, List.append_assoc]
      · rcases List.mem_cons.1 hx with hx | hx
        · rw [hx]; exact txt_size hb at_ bad
        · exact h6 x hx
theorem whole_back {l : List Int} (hb : bytesOk l) (h : wholeOf l = true) : ∃ c t d m : Nat, (headOf l).cl.1 = c ∧ (headOf l).tm.1 = t ∧ (headOf l).kd.1 = d ∧ (headOf l).n.1 = m ∧ l = putB c t d m (headOf l).nm.1 (headOf l).pt.1 (keysOfL l).1 ∧ ∀ x ∈ (keysOfL l).1, x.size ≤ 4096 := by
  unfold wholeOf at h
  simp only [Bool.and_eq_true, Bool.not_eq_true', decide_eq_true_eq] at h
  obtain ⟨hnb, hend⟩ := h
  have a1 : (headOf l).cl.2.1 ≤ l.length := (numOf_at hb 65536 (Nat.zero_le _) false).1
  have a2 : (headOf l).tm.2.1 ≤ l.length := (numOf_at hb 65536 a1 _).1
  have a3 : (headOf l).kd.2.1 ≤ l.length := (numOf_at hb 65536 a2 _).1
  have a4 : (headOf l).n.2.1 ≤ l.length := (numOf_at hb 65536 a3 _).1
  have a5 : (headOf l).nm.2.1 ≤ l.length := txtOf_at hb a4 _
  have a6 : (headOf l).pt.2.1 ≤ l.length := txtOf_at hb a5 _
  have a7 : (headOf l).ct.2.1 ≤ l.length := (numOf_at hb 65536 a6 _).1
  obtain ⟨b7, ks', k1, k2, k3, k4, k5⟩ := keys_back hb (headOf l).ct.1.toNat (headOf l).ct.2.1 (headOf l).ct.2.2 [] a7 hnb
  obtain ⟨b6, q, q1, q2, q3, q4⟩ := num_back hb a6 b7
  obtain ⟨b5, p2, p3⟩ := txt_back hb a5 b6
  obtain ⟨b4, n2, n3⟩ := txt_back hb a4 b5
  obtain ⟨b3, m, m1, m2, m3, m4⟩ := num_back hb a3 b4
  obtain ⟨b2, d, d1, d2, d3, d4⟩ := num_back hb a2 b3
  obtain ⟨b1, t, t1, t2, t3, t4⟩ := num_back hb a1 b2
  obtain ⟨_, c, c1, c2, c3, c4⟩ := num_back hb (Nat.zero_le _) b1
  have hk : (keysOfL l).1 = ks' := by rw [← List.nil_append ks']; exact k1
  have hq : q = ks'.length := by
    have : (headOf l).ct.1 = (q : Int) := q1
    rw [k2, this]; rfl
  have hl : l.drop (keysOfL l).2.1 = [] := List.drop_eq_nil_of_le hend
  refine ⟨c, t, d, m, c1, t1, d1, m1, ?_, by rw [hk]; exact k5⟩
  have e1 : l.drop (headOf l).ct.2.1 = keysB ks' := by
    have := k3
    rw [show (readKeys l (headOf l).ct.1.toNat (headOf l).ct.2.1 (headOf l).ct.2.2 []).2.1 = (keysOfL l).2.1 from rfl, hl, List.append_nil] at this
    exact this
  have e2 : l.drop (headOf l).pt.2.1 = enc q ++ l.drop (headOf l).ct.2.1 := q3
  have e3 : l.drop (headOf l).nm.2.1 = txt (headOf l).pt.1 ++ l.drop (headOf l).pt.2.1 := p2
  have e4 : l.drop (headOf l).n.2.1 = txt (headOf l).nm.1 ++ l.drop (headOf l).nm.2.1 := n2
  have e5 : l.drop (headOf l).kd.2.1 = enc m ++ l.drop (headOf l).n.2.1 := m3
  have e6 : l.drop (headOf l).tm.2.1 = enc d ++ l.drop (headOf l).kd.2.1 := d3
  have e7 : l.drop (headOf l).cl.2.1 = enc t ++ l.drop (headOf l).tm.2.1 := t3
  have e8 : l.drop 0 = enc c ++ l.drop (headOf l).cl.2.1 := c3
  rw [List.drop_zero] at e8
  rw [hk]
  unfold putB headB
  conv => lhs; rw [e8, e7, e6, e5, e4, e3, e2, e1, hq]
  simp only [List.append_assoc]
theorem keysB_len' : ∀ (ks : List ByteArray), (∀ x ∈ ks, x.size ≤ 5000) → (keysB ks).length ≤ 5010 * ks.length
  | [], _ => by simp [keysB]
  | x :: r, h => by
    have h1 := txt_len x (h x (by simp))
    have h2 := keysB_len' r (fun y hy => h y (by simp [hy]))
    unfold keysB
    rw [List.length_append, List.length_cons]
    omega
theorem headB_len' (c t d m : Nat) (nm pt : ByteArray) (hc : c ≤ 1000000) (ht : t ≤ 1000000) (hd : d ≤ 1000000) (hm : m ≤ 1000000) (hn : nm.size ≤ 5000) (hp : pt.size ≤ 5000) : (headB c t d m nm pt).length ≤ 10060 := by
  have h1 := enc_len10 c hc
  have h2 := enc_len10 t ht
  have h3 := enc_len10 d hd
  have h4 := enc_len10 m hm
  have h5 := txt_len nm hn
  have h6 := txt_len pt hp
  unfold headB
  simp only [List.length_append]
  omega
theorem all_ok {l : List Int} (hb : bytesOk l) : (l.all fun x => decide (0 ≤ x) && decide (x ≤ 255)) = true := by
  rw [List.all_eq_true]
  intro x hx
  have := hb x hx
  simp [this.1, this.2]
theorem put_get {l : List Int} (hb : bytesOk l) (hl : l.length ≤ 1000000) {r1 r2 r3 : Int} {r4 r5 : ByteArray} {r6 : List ByteArray} {r7 : Int} (h : order_Get.f 1000 l = some (r1, r2, r3, r4, r5, r6, r7, none)) : order_Put.f 1000 r1 r2 r3 r4 r5 r6 r7 = some (l, none) := by
  have hn : (headOf l).nm.1.size ≤ 4096 := txt_size hb _ _
  have hp : (headOf l).pt.1.size ≤ 4096 := txt_size hb _ _
  have hk : (keysOfL l).1.length ≤ 65536 := by
    unfold keysOfL
    have h1 := readKeys_len l (headOf l).ct.1.toNat (headOf l).ct.2.1 (headOf l).ct.2.2 []
    have h2 : (headOf l).ct.1.toNat ≤ 65536 := num_most hb _ _
    simp only [List.length_nil] at h1
    omega
  unfold order_Get.f at h
  rw [if_pos ⟨all_ok hb, hl⟩, check_f 1000 _ _ _ _ _ _ _ (by omega) (by omega) (by omega) (by omega), Option.bind_some] at h
  by_cases hw : wholeOf l = true ∧ (if mayB (headOf l).cl.1 (headOf l).tm.1 (headOf l).kd.1 (headOf l).nm.1 (headOf l).pt.1 (keysOfL l).1 (headOf l).n.1 = true then none else some 1) = (none : Option Int)
  · rw [if_pos hw] at h
    simp only [Option.some.injEq, Prod.mk.injEq, and_true] at h
    obtain ⟨rfl, rfl, rfl, rfl, rfl, rfl, rfl⟩ := h
    have hm : mayB (headOf l).cl.1 (headOf l).tm.1 (headOf l).kd.1 (headOf l).nm.1 (headOf l).pt.1 (keysOfL l).1 (headOf l).n.1 = true := by
      by_cases hm : mayB (headOf l).cl.1 (headOf l).tm.1 (headOf l).kd.1 (headOf l).nm.1 (headOf l).pt.1 (keysOfL l).1 (headOf l).n.1 = true
      · exact hm
      · rw [if_neg hm] at hw; cases hw.2
    obtain ⟨c, t, d, m, c1, t1, d1, m1, h5, h6⟩ := whole_back hb hw.1
    obtain ⟨_, _, _, _, hks⟩ := may_bounds hm
    have hkl : (keysOfL l).1.length ≤ 16 := by
      unfold keysOk at hks
      simp only [Bool.and_eq_true, decide_eq_true_eq] at hks
      exact hks.1
    rw [put_f 1000 _ _ _ _ _ _ _ (by omega) (by omega) (by omega) (fun x hx => by have := h6 x hx; omega) (Nat.le_refl _), if_pos hm, c1, t1, d1, m1]
    simp only [Int.toNat_natCast]
    rw [← h5]
  · rw [if_neg hw] at h
    simp at h
theorem get_put {c t d n : Int} {nm pt : ByteArray} {ks : List ByteArray} (hm : mayB c t d nm pt ks n = true) (hn : nm.size ≤ 4096) (hp : pt.size ≤ 4096) (hs : ∀ x ∈ ks, x.size ≤ 4096) (hl : ks.length ≤ 100) (x : Int) (hx : 0 ≤ x ∧ x ≤ 255) :
    order_Get.f 1000 (putB c.toNat t.toNat d.toNat n.toNat nm pt ks) = some (c, t, d, nm, pt, ks, n, none) ∧ order_Get.f 1000 (putB c.toNat t.toNat d.toNat n.toNat nm pt ks ++ [x]) = some (0, 0, 0, ⟨#[]⟩, ⟨#[]⟩, [], 0, some 2) := by
  obtain ⟨b1, b2, b3, b4, _⟩ := may_bounds hm
  obtain ⟨c, rfl⟩ : ∃ c' : Nat, c = c' := ⟨c.toNat, by omega⟩
  obtain ⟨t, rfl⟩ : ∃ t' : Nat, t = t' := ⟨t.toNat, by omega⟩
  obtain ⟨d, rfl⟩ : ∃ d' : Nat, d = d' := ⟨d.toNat, by omega⟩
  obtain ⟨n, rfl⟩ : ∃ n' : Nat, n = n' := ⟨n.toNat, by omega⟩
  simp only [Int.toNat_natCast]
  have hbo : bytesOk (putB c t d n nm pt ks) := ok_put c t d n nm pt ks (by omega) (by omega) (by omega) (by omega) (by omega) (by omega) (by omega) (fun x hx => by have := hs x hx; omega)
  have hlen : (putB c t d n nm pt ks).length ≤ 900000 := by
    have h1 := headB_len' c t d n nm pt (by omega) (by omega) (by omega) (by omega) (by omega) (by omega)
    have h2 := keysB_len' ks (fun x hx => by have := hs x hx; omega)
    have h3 := enc_len10 ks.length (by omega)
    unfold putB
    rw [List.length_append, List.length_append]
    have : 5010 * ks.length ≤ 5010 * 100 := Nat.mul_le_mul_left _ hl
    omega
  have r0 := put_read c t d n nm pt ks [] (by omega) (by omega) (by omega) (by omega) hn hp (by omega) hs
  have r1 := put_read c t d n nm pt ks [x] (by omega) (by omega) (by omega) (by omega) hn hp (by omega) hs
  rw [List.append_nil] at r0
  constructor
  · obtain ⟨e1, e2, e3, e4, e5, e6, e7⟩ := r0
    unfold order_Get.f
    rw [if_pos ⟨all_ok hbo, by omega⟩]
    unfold wholeOf
    rw [e1, e2, e3, e4, e5, e6, e7]
    simp only
    rw [check_f 1000 _ _ _ _ _ _ _ (by omega) (by omega) (by omega) (by omega), Option.bind_some, if_pos hm, if_pos ⟨by simp, rfl⟩]
  · obtain ⟨e1, e2, e3, e4, e5, e6, e7⟩ := r1
    have hbx : bytesOk (putB c t d n nm pt ks ++ [x]) := ok_append hbo (fun y hy => by rw [List.mem_singleton.1 hy]; exact hx)
    unfold order_Get.f
    rw [if_pos ⟨all_ok hbx, by rw [List.length_append, List.length_singleton]; omega⟩]
    unfold wholeOf
    rw [e1, e2, e3, e4, e5, e6, e7]
    simp only
    rw [check_f 1000 _ _ _ _ _ _ _ (by omega) (by omega) (by omega) (by omega), Option.bind_some, if_neg (fun h => by
      have h1 := h.1
      simp only [Bool.not_false, Bool.true_and, decide_eq_true_eq, List.length_append, List.length_singleton] at h1
      omega)]
theorem nil_R' (W : World) (n : Nat) (hn : W.heap.size = n) : Kd.R (Kd.int .u8) 5 (W.alloc (.cells #[] 5)) n (fun k => k = n) (.slice (some ⟨n, 0, none⟩) 0 0) [] := by
  subst hn
  exact nil_R W
end Go.Proofs.YtghfofjlafeliaaDoor.PureO
namespace Go.Proofs.YtghfofjlafeliaaDoor.PureO
open Go.RowKit Go.Proofs.YtghfofjlafeliaaDoor.PureRoute Go.Proofs.YtghfofjlafeliaaDoor.Order Go.Proofs.YtghfofjlafeliaaDoor.OrderNK Go.Proofs.YtghfofjlafeliaaDoor.Route Go.Proofs.YtghfofjlafeliaaDoor.Or Go.Proofs.YtghfofjlafeliaaDoorW.PrintWords Go.Proofs.YtghfofjlafeliaaDoorW.PrintLast Go.Proofs.YtghfofjlafeliaaDoorW.PrintMore
attribute [local go_sem] eqlErr neqErr eqlErrNil neqErrNil
set_option linter.unusedSimpArgs false
set_option linter.unusedVariables false
set_option maxHeartbeats 16000000 in
set_option maxRecDepth 100000 in
theorem back_calls (c t d : Int) (nm pt : ByteArray) (A5 : Option Addr) (c5 : Nat) (ks : List ByteArray) (n : Int) (A1 : Option Addr) (c1 : Nat) (b : List Int) (w : World) (hC : Kd.C Kd.string w A5 ks.length ks) (hc : ks.length ≤ c5) (hB : Kd.C (Kd.int .u8) w A1 b.length b) (hcb : b.length ≤ c1) (hby : Order.bytesOk b) (more : Int) (hmore : 0 ≤ more ∧ more ≤ 255) :
    Calls Tryd.prog 5 #[.agg #[.int .i64 c, .int .i64 t, .int .i64 d, .string nm, .string pt, .slice A5 ks.length c5, .int .i64 n], .slice A1 b.length c1, .int .u8 more] w fun e w' => e = .returned (.bool true) ∧ Below w.heap.size w w' := by
  have HC := Lib.hid hC
  have HB := Lib.hid hB
  have HUP := Lib.hid (up_f 1000 (Nat.le_refl _))
  have HSH := Lib.hid (short_f 200 d n nm pt ks (Nat.le_refl _))
  have HBY := Lib.hid hby
  have HCC := Lib.hid hc
  have HMO := Lib.hid hmore
  have HG0 := Lib.hid (heap_alloc_new w (.cells #[.int .i64 c, .int .i64 t, .int .i64 d, .string nm, .string pt, .slice A5 ks.length c5, .int .i64 n] 26))
  have HB0 := Lib.hid ((Below.refl w.heap.size w).alloc (Nat.le_refl _) (.cells #[.int .i64 c, .int .i64 t, .int .i64 d, .string nm, .string pt, .slice A5 ks.length c5, .int .i64 n] 26))
  clear hC hB hby hmore
  go_enter Tryd.func5, Tryd.ntmps5
  go_wp2_with fail
  refine (becketlaw08_up.calls 1000 true _ HUP.out).mono ?_
  rintro e w1 ⟨rfl, hb⟩
  have HG1 := Lib.hid (blk_below HG0.out hb)
  have HB1 := Lib.hid (HB0.out.trans (hb.mono HB0.out.size))
  clear hb HG0 HB0
  have k2 := ((blk_cell HG1.out 2).trans rfl : w1.cell? ⟨w.heap.size, 2, none⟩ = some (.int .i64 d))
  have k3 := ((blk_cell HG1.out 3).trans rfl : w1.cell? ⟨w.heap.size, 3, none⟩ = some (.string nm))
  have k4 := ((blk_cell HG1.out 4).trans rfl : w1.cell? ⟨w.heap.size, 4, none⟩ = some (.string pt))
  have k5 := ((blk_cell HG1.out 5).trans rfl : w1.cell? ⟨w.heap.size, 5, none⟩ = some (.slice A5 ks.length c5))
  have k6 := ((blk_cell HG1.out 6).trans rfl : w1.cell? ⟨w.heap.size, 6, none⟩ = some (.int .i64 n))
  go_wp2_with fail
  clear k2 k3 k4 k5 k6
  refine (becketref08_Short.calls 200 d nm pt A5 c5 ks n _ w1 (Kd.C_below HC.out HB1.out) HCC.out HSH.out).mono ?_
  rintro e w2 ⟨rfl, hb⟩
  have HG2 := Lib.hid (blk_below HG1.out hb)
  have HB2 := Lib.hid (HB1.out.trans (hb.mono HB1.out.size))
  clear hb HG1 HB1
  by_cases hs : shortB nm pt ks = true
  rotate_left
  · have hs' : shortB nm pt ks = false := by simpa using hs
    rw [hs']
    clear hs hs'
    go_wp2
    go_ret
    exact ⟨rfl, HB2.out⟩
  rw [hs]
  have HSB := Lib.hid (shortB_iff hs)
  clear hs
  by_cases g0 : (5000 : Int) < (b.length : Int)
  · have hd : decide ((5000 : Int) < (b.length : Int)) = true := decide_eq_true g0
    clear g0
    go_wp2
    go_ret
    exact ⟨rfl, HB2.out⟩
  have hd : decide ((5000 : Int) < (b.length : Int)) = false := decide_eq_false g0
  have HLB := Lib.hid g0
  clear g0
  have k0 := ((blk_cell HG2.out 0).trans rfl : w2.cell? ⟨w.heap.size, 0, none⟩ = some (.int .i64 c))
  have k1 := ((blk_cell HG2.out 1).trans rfl : w2.cell? ⟨w.heap.size, 1, none⟩ = some (.int .i64 t))
  have k2 := ((blk_cell HG2.out 2).trans rfl : w2.cell? ⟨w.heap.size, 2, none⟩ = some (.int .i64 d))
  have k3 := ((blk_cell HG2.out 3).trans rfl : w2.cell? ⟨w.heap.size, 3, none⟩ = some (.string nm))
  have k4 := ((blk_cell HG2.out 4).trans rfl : w2.cell? ⟨w.heap.size, 4, none⟩ = some (.string pt))
  have k5 := ((blk_cell HG2.out 5).trans rfl : w2.cell? ⟨w.heap.size, 5, none⟩ = some (.slice A5 ks.length c5))
  have k6 := ((blk_cell HG2.out 6).trans rfl : w2.cell? ⟨w.heap.size, 6, none⟩ = some (.int .i64 n))
  go_wp2_with fail
  clear k0 k1 k2 k3 k4 k5 k6
  have hput := put_f 1000 c t d nm pt ks n (by have := HSB.out.1; omega) (by have := HSB.out.2.1; omega) HSB.out.2.2.1 (fun x hx => by have := HSB.out.2.2.2 x hx; omega) (Nat.le_refl _)
  obtain ⟨q0, q1, q2, q3, q4, q5, q6, q7, hgb, hgl⟩ := get_total HBY.out (by have := HLB.out; omega)
  have HGB := Lib.hid hgb
  have HGL := Lib.hid hgl
  clear hgb hgl
  by_cases hm : mayB c t d nm pt ks n = true
  · rw [if_pos hm] at hput
    have hgp := get_put hm (by have := HSB.out.1; omega) (by have := HSB.out.2.1; omega) (fun x hx => by have := HSB.out.2.2.2 x hx; omega) HSB.out.2.2.1 more HMO.out
    have hplen : (putB c.toNat t.toNat d.toNat n.toNat nm pt ks).length ≤ 900000 := by
      obtain ⟨b1, b2, b3, b4, _⟩ := may_bounds hm
      have h1 := headB_len' c.toNat t.toNat d.toNat n.toNat nm pt (by omega) (by omega) (by omega) (by omega) (by have := HSB.out.1; omega) (by have := HSB.out.2.1; omega)
      have h2 := keysB_len' ks (fun x hx => by have := HSB.out.2.2.2 x hx; omega)
      have h3 := enc_len10 ks.length (by have := HSB.out.2.2.1; omega)
      unfold putB
      rw [List.length_append, List.length_append]
      have : 5010 * ks.length ≤ 5010 * 100 := Nat.mul_le_mul_left _ HSB.out.2.2.1
      omega
    generalize putB c.toNat t.toNat d.toNat n.toNat nm pt ks = pl at hput hgp hplen
    have HPUT := Lib.hid hput
    have HGP := Lib.hid hgp
    have HPL := Lib.hid hplen
    clear hput hgp hplen hm
    refine (order_Put.calls 1000 c t d nm pt A5 c5 ks n pl none w2 (Kd.C_below HC.out HB2.out) HCC.out HPUT.out).mono ?_
    rintro e w3 ⟨vp, rfl, hr, hb⟩
    obtain ⟨Ap, cp, rfl⟩ := Kd.R_slice hr
    rw [errW_none]
    have HP3 := Lib.hid (Kd.R_reads' hr).2.2
    have HP3c := Lib.hid (Kd.R_reads' hr).2.1
    have HG3 := Lib.hid (blk_below HG2.out hb)
    have HB3 := Lib.hid (HB2.out.trans (hb.mono HB2.out.size))
    clear hr hb HG2 HB2
    go_wp2_with fail
    refine (order_Get.calls 1000 Ap cp pl c t d nm pt ks n none w3 HP3.out HP3c.out HGP.out.1).mono ?_
    rintro e w4 ⟨vx, rfl, hr, hb⟩
    obtain ⟨Ax, cx, rfl⟩ := Kd.R_slice hr
    rw [errW_none]
    have HX4 := Lib.hid (Kd.R_alloc hr (.cells #[.int .i64 c, .int .i64 t, .int .i64 d, .string nm, .string pt, .slice Ax ks.length cx, .int .i64 n] 26))
    have HGX := Lib.hid (heap_alloc_new w4 (.cells #[.int .i64 c, .int .i64 t, .int .i64 d, .string nm, .string pt, .slice Ax ks.length cx, .int .i64 n] 26))
    have hb4 : Below w3.heap.size w3 (w4.alloc (.cells #[.int .i64 c, .int .i64 t, .int .i64 d, .string nm, .string pt, .slice Ax ks.length cx, .int .i64 n] 26)) := hb.alloc hb.size _
    have HP4 := Lib.hid (Kd.C_below HP3.out hb4)
    have HG4 := Lib.hid (blk_below HG3.out hb4)
    have HB4 := Lib.hid (HB3.out.trans (hb4.mono HB3.out.size))
    clear hr hb hb4 HP3 HG3 HB3
    have hall : ∃ w5, w5 = w4.alloc (.cells #[.int .i64 c, .int .i64 t, .int .i64 d, .string nm, .string pt, .slice Ax ks.length cx, .int .i64 n] 26) := ⟨_, rfl⟩
    obtain ⟨w5, hw5⟩ := hall
    rw [← hw5] at HX4 HGX HP4 HG4 HB4
    have HW5 := Lib.hid hw5
    clear hw5
    have HP5' : Hid (Kd.C (Kd.int .u8) ((w4.alloc (.cells #[.int .i64 c, .int .i64 t, .int .i64 d, .string nm, .string pt, .slice Ax ks.length cx, .int .i64 n] 26)).alloc (.cells #[] 5)) Ap pl.length pl) := by rw [← HW5.out]; exact Lib.hid (Kd.C_alloc HP4.out _)
    have HN5 : Hid (Kd.R (Kd.int .u8) 5 ((w4.alloc (.cells #[.int .i64 c, .int .i64 t, .int .i64 d, .string nm, .string pt, .slice Ax ks.length cx, .int .i64 n] 26)).alloc (.cells #[] 5)) (w4.heap.size + 1) (fun k => k = w4.heap.size + 1) (.slice (some ⟨w4.heap.size + 1, 0, none⟩) 0 0) []) := Lib.hid (nil_R' _ _ (by simp))
    go_wp2_with (at_builtin; refine Kd.R_append_row (w0 := w4.alloc (.cells #[.int .i64 c, .int .i64 t, .int .i64 d, .string nm, .string pt, .slice Ax ks.length cx, .int .i64 n] 26)) (Value.int .u8) 0 (h1 := fun _ => rfl) (w4.heap.size + 1) rfl (.tmp 44) (.tmp 45) 32 5 (.int .u8 0) 1 rfl Tryd.underlying32 (by kernel_rfl) rfl (by decide) (.slice (some ⟨w4.heap.size + 1, 0, none⟩) 0 0) [] pl Ap pl.length cp (fun k => w4.heap.size + 1 ≤ k) rfl rfl ?fresh ?own ?src ?bel (by simp) ?len ?go)
    case fresh => intro k hk; first | omega | (simp at hk; omega)
    case own => exact Kd.R_mono HN5.out (fun k hk => by omega)
    case src => exact HP5'.out
    case bel => exact (Below.refl _ _).alloc (by simp) _
    case len => have := HPL.out; first | omega | (simp; omega)
    case go =>
    intro v6 w6 hown hbel hgr hat
    replace hown : Kd.R (Kd.int .u8) 5 w6 (w4.heap.size + 1) (fun k => w4.heap.size + 1 ≤ k) v6 pl := hown
    obtain ⟨A6, c6, rfl⟩ := Kd.R_slice hown
    have HO6 := Lib.hid hown
    have HB6 := Lib.hid hbel
    clear hown hbel hgr hat HN5 HP5'
    go_wp2_with (at_builtin; refine Kd.R_append (Kd.int .u8) (w0 := w4.alloc (.cells #[.int .i64 c, .int .i64 t, .int .i64 d, .string nm, .string pt, .slice Ax ks.length cx, .int .i64 n] 26)) (w4.heap.size + 1) rfl (.tmp 46) (.tmp 48) 32 5 (.int .u8 0) 1 rfl Tryd.underlying32 (by kernel_rfl) rfl (by decide) (by omega) (.slice A6 pl.length c6) pl more [.int .u8 more] (fun k => w4.heap.size + 1 ≤ k) (fun _ => False) rfl rfl rfl (fun _ h => False.elim h) ?aF ?aO ?aB ?aS ?aL ?go)
    case aF => exact fun k hk => by have h1 := HB6.out.size; have h2 : (w4.alloc (.cells #[.int .i64 c, .int .i64 t, .int .i64 d, .string nm, .string pt, .slice Ax ks.length cx, .int .i64 n] 26)).heap.size = w4.heap.size + 1 := by simp
                                    omega
    case aO => exact HO6.out
    case aB => exact HB6.out
    case aS => have h1 := HB6.out.size; have h2 : (w4.alloc (.cells #[.int .i64 c, .int .i64 t, .int .i64 d, .string nm, .string pt, .slice Ax ks.length cx, .int .i64 n] 26)).heap.size = w4.heap.size + 1 := by simp
               omega
    case aL => have := HPL.out; omega
    case go =>
    intro v7 w7 hown hbel hgr hat
    obtain ⟨A7, c7, rfl⟩ := Kd.R_slice hown
    have hbel' : Below w5.heap.size w5 w7 := by rw [HW5.out]; exact hbel.mono (by simp)
    have HO7 := Lib.hid (Kd.R_reads' hown).2.2
    have HO7c := Lib.hid (Kd.R_reads' hown).2.1
    have HX7 := Lib.hid (Kd.R_below HX4.out hbel')
    have HGX7 := Lib.hid (blk_below HGX.out hbel')
    have HG7 := Lib.hid (blk_below HG4.out hbel')
    have HB7 := Lib.hid (HB4.out.trans (hbel'.mono HB4.out.size))
    obtain ⟨pm, hpm⟩ : ∃ x, x = pl ++ [more] := ⟨_, rfl⟩
    rw [← hpm] at HO7 HO7c
    have hgm := HGP.out.2
    rw [← hpm] at hgm
    have HGM := Lib.hid hgm
    have hpl : pl.length + 1 = pm.length := by rw [hpm]; simp
    have HPM := Lib.hid hpl
    clear hown hbel hbel' hgr hat HO6 HB6 HX4 HGX HG4 HB4 HP4 hgm hpl
    rw [← hpm]
    clear hpm
    go_wp2_with fail
    refine (order_Get.calls 1000 A7 c7 pm 0 0 0 ⟨#[]⟩ ⟨#[]⟩ [] 0 (some 2) w7 HO7.out HO7c.out HGM.out).mono ?_
    rintro e w8 ⟨vz, rfl, hr, hb⟩
    obtain ⟨Az, cz, rfl⟩ := Kd.R_slice hr
    rw [errW_some]
    have hb8 : Below w7.heap.size w7 (w8.alloc (.cells #[.int .i64 0, .int .i64 0, .int .i64 0, .string ⟨#[]⟩, .string ⟨#[]⟩, .slice Az 0 cz, .int .i64 0] 26)) := hb.alloc hb.size _
    have HX8 := Lib.hid (Kd.R_below HX7.out hb8)
    have HGX8 := Lib.hid (blk_below HGX7.out hb8)
    have HG8 := Lib.hid (blk_below HG7.out hb8)
    have HB8 := Lib.hid (HB7.out.trans (hb8.mono HB7.out.size))
    have HSAME : Hid (becketref08_Same.f 100001 c t d nm pt ks n c t d nm pt ks n = some true) := Lib.hid (by rw [same_f 100001 c t d n c t d n nm pt nm pt ks ks (by have := HSB.out.2.2.1; omega) (Nat.le_refl _)]; simp)
    clear hr hb hb8 HX7 HGX7 HG7 HB7 HO7 HO7c
    have x0 := ((blk_cell HGX8.out 0).trans rfl : (w8.alloc (.cells #[.int .i64 0, .int .i64 0, .int .i64 0, .string ⟨#[]⟩, .string ⟨#[]⟩, .slice Az 0 cz, .int .i64 0] 26)).cell? ⟨w4.heap.size, 0, none⟩ = some (.int .i64 c))
    have x1 := ((blk_cell HGX8.out 1).trans rfl : (w8.alloc (.cells #[.int .i64 0, .int .i64 0, .int .i64 0, .string ⟨#[]⟩, .string ⟨#[]⟩, .slice Az 0 cz, .int .i64 0] 26)).cell? ⟨w4.heap.size, 1, none⟩ = some (.int .i64 t))
    have x2 := ((blk_cell HGX8.out 2).trans rfl : (w8.alloc (.cells #[.int .i64 0, .int .i64 0, .int .i64 0, .string ⟨#[]⟩, .string ⟨#[]⟩, .slice Az 0 cz, .int .i64 0] 26)).cell? ⟨w4.heap.size, 2, none⟩ = some (.int .i64 d))
    have x3 := ((blk_cell HGX8.out 3).trans rfl : (w8.alloc (.cells #[.int .i64 0, .int .i64 0, .int .i64 0, .string ⟨#[]⟩, .string ⟨#[]⟩, .slice Az 0 cz, .int .i64 0] 26)).cell? ⟨w4.heap.size, 3, none⟩ = some (.string nm))
    have x4 := ((blk_cell HGX8.out 4).trans rfl : (w8.alloc (.cells #[.int .i64 0, .int .i64 0, .int .i64 0, .string ⟨#[]⟩, .string ⟨#[]⟩, .slice Az 0 cz, .int .i64 0] 26)).cell? ⟨w4.heap.size, 4, none⟩ = some (.string pt))
    have x5 := ((blk_cell HGX8.out 5).trans rfl : (w8.alloc (.cells #[.int .i64 0, .int .i64 0, .int .i64 0, .string ⟨#[]⟩, .string ⟨#[]⟩, .slice Az 0 cz, .int .i64 0] 26)).cell? ⟨w4.heap.size, 5, none⟩ = some (.slice Ax ks.length cx))
    have x6 := ((blk_cell HGX8.out 6).trans rfl : (w8.alloc (.cells #[.int .i64 0, .int .i64 0, .int .i64 0, .string ⟨#[]⟩, .string ⟨#[]⟩, .slice Az 0 cz, .int .i64 0] 26)).cell? ⟨w4.heap.size, 6, none⟩ = some (.int .i64 n))
    have k0 := ((blk_cell HG8.out 0).trans rfl : (w8.alloc (.cells #[.int .i64 0, .int .i64 0, .int .i64 0, .string ⟨#[]⟩, .string ⟨#[]⟩, .slice Az 0 cz, .int .i64 0] 26)).cell? ⟨w.heap.size, 0, none⟩ = some (.int .i64 c))
    have k1 := ((blk_cell HG8.out 1).trans rfl : (w8.alloc (.cells #[.int .i64 0, .int .i64 0, .int .i64 0, .string ⟨#[]⟩, .string ⟨#[]⟩, .slice Az 0 cz, .int .i64 0] 26)).cell? ⟨w.heap.size, 1, none⟩ = some (.int .i64 t))
    have k2 := ((blk_cell HG8.out 2).trans rfl : (w8.alloc (.cells #[.int .i64 0, .int .i64 0, .int .i64 0, .string ⟨#[]⟩, .string ⟨#[]⟩, .slice Az 0 cz, .int .i64 0] 26)).cell? ⟨w.heap.size, 2, none⟩ = some (.int .i64 d))
    have k3 := ((blk_cell HG8.out 3).trans rfl : (w8.alloc (.cells #[.int .i64 0, .int .i64 0, .int .i64 0, .string ⟨#[]⟩, .string ⟨#[]⟩, .slice Az 0 cz, .int .i64 0] 26)).cell? ⟨w.heap.size, 3, none⟩ = some (.string nm))
    have k4 := ((blk_cell HG8.out 4).trans rfl : (w8.alloc (.cells #[.int .i64 0, .int .i64 0, .int .i64 0, .string ⟨#[]⟩, .string ⟨#[]⟩, .slice Az 0 cz, .int .i64 0] 26)).cell? ⟨w.heap.size, 4, none⟩ = some (.string pt))
    have k5 := ((blk_cell HG8.out 5).trans rfl : (w8.alloc (.cells #[.int .i64 0, .int .i64 0, .int .i64 0, .string ⟨#[]⟩, .string ⟨#[]⟩, .slice Az 0 cz, .int .i64 0] 26)).cell? ⟨w.heap.size, 5, none⟩ = some (.slice A5 ks.length c5))
    have k6 := ((blk_cell HG8.out 6).trans rfl : (w8.alloc (.cells #[.int .i64 0, .int .i64 0, .int .i64 0, .string ⟨#[]⟩, .string ⟨#[]⟩, .slice Az 0 cz, .int .i64 0] 26)).cell? ⟨w.heap.size, 6, none⟩ = some (.int .i64 n))
    go_wp2_with fail
    clear x0 x1 x2 x3 x4 x5 x6 k0 k1 k2 k3 k4 k5 k6
    refine (becketref08_Same.calls 100001 c t d nm pt Ax cx ks n c t d nm pt A5 c5 ks n true _ (Kd.R_reads' HX8.out).2.2 (Kd.R_reads' HX8.out).2.1 (Kd.C_below HC.out HB8.out) HCC.out HSAME.out).mono ?_
    rintro e w9 ⟨rfl, hb⟩
    have HB9 := Lib.hid (HB8.out.trans (hb.mono HB8.out.size))
    clear hb
    go_wp2_with fail
    refine (order_Get.calls 1000 A1 c1 b q0 q1 q2 q3 q4 q5 q6 q7 w9 (Kd.C_below HB.out HB9.out) hcb HGB.out).mono ?_
    rintro e wy ⟨vy, rfl, hr, hb⟩
    obtain ⟨Ay, cy, rfl⟩ := Kd.R_slice hr
    have HY := Lib.hid (Kd.R_alloc hr (.cells #[.int .i64 q0, .int .i64 q1, .int .i64 q2, .string q3, .string q4, .slice Ay q5.length cy, .int .i64 q6] 26))
    have HGY := Lib.hid (heap_alloc_new wy (.cells #[.int .i64 q0, .int .i64 q1, .int .i64 q2, .string q3, .string q4, .slice Ay q5.length cy, .int .i64 q6] 26))
    have hby : Below w9.heap.size w9 (wy.alloc (.cells #[.int .i64 q0, .int .i64 q1, .int .i64 q2, .string q3, .string q4, .slice Ay q5.length cy, .int .i64 q6] 26)) := hb.alloc hb.size _
    have HBY2 := Lib.hid (HB9.out.trans (hby.mono HB9.out.size))
    clear hr hb hby
    cases q7 with
    | some z =>
      rw [errW_some]
      go_wp2
      go_ret
      exact ⟨rfl, HBY2.out⟩
    | none =>
      rw [errW_none]
      have y0 := ((blk_cell HGY.out 0).trans rfl : (wy.alloc (.cells #[.int .i64 q0, .int .i64 q1, .int .i64 q2, .string q3, .string q4, .slice Ay q5.length cy, .int .i64 q6] 26)).cell? ⟨wy.heap.size, 0, none⟩ = some (.int .i64 q0))
      have y1 := ((blk_cell HGY.out 1).trans rfl : (wy.alloc (.cells #[.int .i64 q0, .int .i64 q1, .int .i64 q2, .string q3, .string q4, .slice Ay q5.length cy, .int .i64 q6] 26)).cell? ⟨wy.heap.size, 1, none⟩ = some (.int .i64 q1))
      have y2 := ((blk_cell HGY.out 2).trans rfl : (wy.alloc (.cells #[.int .i64 q0, .int .i64 q1, .int .i64 q2, .string q3, .string q4, .slice Ay q5.length cy, .int .i64 q6] 26)).cell? ⟨wy.heap.size, 2, none⟩ = some (.int .i64 q2))
      have y3 := ((blk_cell HGY.out 3).trans rfl : (wy.alloc (.cells #[.int .i64 q0, .int .i64 q1, .int .i64 q2, .string q3, .string q4, .slice Ay q5.length cy, .int .i64 q6] 26)).cell? ⟨wy.heap.size, 3, none⟩ = some (.string q3))
      have y4 := ((blk_cell HGY.out 4).trans rfl : (wy.alloc (.cells #[.int .i64 q0, .int .i64 q1, .int .i64 q2, .string q3, .string q4, .slice Ay q5.length cy, .int .i64 q6] 26)).cell? ⟨wy.heap.size, 4, none⟩ = some (.string q4))
      have y5 := ((blk_cell HGY.out 5).trans rfl : (wy.alloc (.cells #[.int .i64 q0, .int .i64 q1, .int .i64 q2, .string q3, .string q4, .slice Ay q5.length cy, .int .i64 q6] 26)).cell? ⟨wy.heap.size, 5, none⟩ = some (.slice Ay q5.length cy))
      have y6 := ((blk_cell HGY.out 6).trans rfl : (wy.alloc (.cells #[.int .i64 q0, .int .i64 q1, .int .i64 q2, .string q3, .string q4, .slice Ay q5.length cy, .int .i64 q6] 26)).cell? ⟨wy.heap.size, 6, none⟩ = some (.int .i64 q6))
      go_wp2_with fail
      clear y0 y1 y2 y3 y4 y5 y6
      refine (order_Put.calls 1000 q0 q1 q2 q3 q4 Ay cy q5 q6 b none _ (Kd.R_reads' HY.out).2.2 (Kd.R_reads' HY.out).2.1 (put_get HBY.out (by have := HLB.out; omega) HGB.out)).mono ?_
      rintro e wz ⟨vz, rfl, hr, hb⟩
      obtain ⟨Az, cz, rfl⟩ := Kd.R_slice hr
      rw [errW_none]
      have hcv := own_string (P := Tryd.prog) Tryd.underlying32 Tryd.underlying5 Tryd.underlying9 (Kd.own_of_R hr)
      have HBZ := Lib.hid (HBY2.out.trans (hb.mono HBY2.out.size))
      have hcB := Kd.C_string (P := Tryd.prog) (c := c1) Tryd.underlying32 Tryd.underlying5 Tryd.underlying9 (Kd.C_below HB.out HBZ.out)
      clear hr hb
      go_wp2
      go_ret
      exact ⟨rfl, HBZ.out⟩
  · rw [if_neg hm] at hput
    have HPUT := Lib.hid hput
    clear hput hm
    refine (order_Put.calls 1000 c t d nm pt A5 c5 ks n [] (some 1) w2 (Kd.C_below HC.out HB2.out) HCC.out HPUT.out).mono ?_
    rintro e w3 ⟨vp, rfl, hr, hb⟩
    obtain ⟨Ap, cp, rfl⟩ := Kd.R_slice hr
    rw [errW_some]
    have HB3 := Lib.hid (HB2.out.trans (hb.mono HB2.out.size))
    clear hr hb HG2 HB2
    go_wp2_with fail
    refine (order_Get.calls 1000 A1 c1 b q0 q1 q2 q3 q4 q5 q6 q7 w3 (Kd.C_below HB.out HB3.out) hcb HGB.out).mono ?_
    rintro e wy ⟨vy, rfl, hr, hb⟩
    obtain ⟨Ay, cy, rfl⟩ := Kd.R_slice hr
    have HY := Lib.hid (Kd.R_alloc hr (.cells #[.int .i64 q0, .int .i64 q1, .int .i64 q2, .string q3, .string q4, .slice Ay q5.length cy, .int .i64 q6] 26))
    have HGY := Lib.hid (heap_alloc_new wy (.cells #[.int .i64 q0, .int .i64 q1, .int .i64 q2, .string q3, .string q4, .slice Ay q5.length cy, .int .i64 q6] 26))
    have hby : Below w3.heap.size w3 (wy.alloc (.cells #[.int .i64 q0, .int .i64 q1, .int .i64 q2, .string q3, .string q4, .slice Ay q5.length cy, .int .i64 q6] 26)) := hb.alloc hb.size _
    have HBY2 := Lib.hid (HB3.out.trans (hby.mono HB3.out.size))
    clear hr hb hby
    cases q7 with
    | some z =>
      rw [errW_some]
      go_wp2
      go_ret
      exact ⟨rfl, HBY2.out⟩
    | none =>
      rw [errW_none]
      have y0 := ((blk_cell HGY.out 0).trans rfl : (wy.alloc (.cells #[.int .i64 q0, .int .i64 q1, .int .i64 q2, .string q3, .string q4, .slice Ay q5.length cy, .int .i64 q6] 26)).cell? ⟨wy.heap.size, 0, none⟩ = some (.int .i64 q0))
      have y1 := ((blk_cell HGY.out 1).trans rfl : (wy.alloc (.cells #[.int .i64 q0, .int .i64 q1, .int .i64 q2, .string q3, .string q4, .slice Ay q5.length cy, .int .i64 q6] 26)).cell? ⟨wy.heap.size, 1, none⟩ = some (.int .i64 q1))
      have y2 := ((blk_cell HGY.out 2).trans rfl : (wy.alloc (.cells #[.int .i64 q0, .int .i64 q1, .int .i64 q2, .string q3, .string q4, .slice Ay q5.length cy, .int .i64 q6] 26)).cell? ⟨wy.heap.size, 2, none⟩ = some (.int .i64 q2))
      have y3 := ((blk_cell HGY.out 3).trans rfl : (wy.alloc (.cells #[.int .i64 q0, .int .i64 q1, .int .i64 q2, .string q3, .string q4, .slice Ay q5.length cy, .int .i64 q6] 26)).cell? ⟨wy.heap.size, 3, none⟩ = some (.string q3))
      have y4 := ((blk_cell HGY.out 4).trans rfl : (wy.alloc (.cells #[.int .i64 q0, .int .i64 q1, .int .i64 q2, .string q3, .string q4, .slice Ay q5.length cy, .int .i64 q6] 26)).cell? ⟨wy.heap.size, 4, none⟩ = some (.string q4))
      have y5 := ((blk_cell HGY.out 5).trans rfl : (wy.alloc (.cells #[.int .i64 q0, .int .i64 q1, .int .i64 q2, .string q3, .string q4, .slice Ay q5.length cy, .int .i64 q6] 26)).cell? ⟨wy.heap.size, 5, none⟩ = some (.slice Ay q5.length cy))
      have y6 := ((blk_cell HGY.out 6).trans rfl : (wy.alloc (.cells #[.int .i64 q0, .int .i64 q1, .int .i64 q2, .string q3, .string q4, .slice Ay q5.length cy, .int .i64 q6] 26)).cell? ⟨wy.heap.size, 6, none⟩ = some (.int .i64 q6))
      go_wp2_with fail
      clear y0 y1 y2 y3 y4 y5 y6
      refine (order_Put.calls 1000 q0 q1 q2 q3 q4 Ay cy q5 q6 b none _ (Kd.R_reads' HY.out).2.2 (Kd.R_reads' HY.out).2.1 (put_get HBY.out (by have := HLB.out; omega) HGB.out)).mono ?_
      rintro e wz ⟨vz, rfl, hr, hb⟩
      obtain ⟨Az, cz, rfl⟩ := Kd.R_slice hr
      rw [errW_none]
      have hcv := own_string (P := Tryd.prog) Tryd.underlying32 Tryd.underlying5 Tryd.underlying9 (Kd.own_of_R hr)
      have HBZ := Lib.hid (HBY2.out.trans (hb.mono HBY2.out.size))
      have hcB := Kd.C_string (P := Tryd.prog) (c := c1) Tryd.underlying32 Tryd.underlying5 Tryd.underlying9 (Kd.C_below HB.out HBZ.out)
      clear hr hb
      go_wp2
      go_ret
      exact ⟨rfl, HBZ.out⟩
end Go.Proofs.YtghfofjlafeliaaDoor.PureO
