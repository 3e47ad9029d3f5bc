-- Cut by a program of this session (wip/shake.py) out of a text of this seat: what this claim doesn't reach is struck out. Lean checks it.
import Derived.Test.YtpbbgbikebcnbaaPureMICx
namespace Go.Proofs.Ytpbbgbikebcnbaa.MsgP
open Go.RowKit Go.Proofs.Ytpbbgbikebcnbaa.Ms Go.Proofs.Ytpbbgbikebcnbaa.Mw Go.Proofs.Ytpbbgbikebcnbaa.MsgL Go.Proofs.YtpbbgbikebcnbaaW.PrintWords Go.Proofs.YtpbbgbikebcnbaaW.PrintLast Go.Proofs.YtpbbgbikebcnbaaW.PrintMore
set_option linter.unusedVariables false
set_option linter.unusedSimpArgs false
theorem bytes_str {x : List Int} (hx : bytesOk x) : bytesOf (strOfNums x) = x := str_inj (fun y hy => by
  unfold bytesOf at hy
  obtain ⟨z, _, rfl⟩ := List.mem_map.1 hy
  exact ⟨by omega, by have := z.toNat_lt; omega⟩) hx (by rw [str_bytesOf])
theorem strOfNums_size (x : List Int) : (strOfNums x).size = x.length := by simp [strOfNums, ByteArray.size]
theorem txt_bk {l : List Int} (h : LOk l) {a : Nat} {bad : Bool} (ha : a ≤ l.length) (hb : (txtOf l a bad).2.2 = false) : bad = false ∧ l.drop a = txt (txtOf l a bad).1 ++ l.drop (txtOf l a bad).2.1 := by
 unfold txtOf at hb ⊢
 by_cases hbad : bad = true
 ·rw [if_pos hbad] at hb; cases hb
 ·rw [if_neg hbad] at hb ⊢
  have hbf : bad = false := by simpa using hbad
  generalize hr : gn 4096 0 0 (l.drop a) = r at hb ⊢
  obtain ⟨v, c, er⟩ := r
  cases er with
  | some e => cases hb
  | none =>
   obtain ⟨_, m, g1, g2, g3, _, _, post, g6⟩ := gn_back 4096 (l.drop a) 0 0 v c (fun x hx => h.b x (List.mem_of_mem_drop hx)) hr
   simp only [Int.pow_zero, Int.mul_one, Int.zero_add] at g1
   simp only at hb ⊢
   have hlen := congrArg List.length g6
   rw [List.length_drop, List.length_append] at hlen
   by_cases hg : (a : Int) + c + v > (l.length : Int)
   ·rw [if_pos hg] at hb; cases hb
   ·rw [if_neg hg] at hb ⊢
    have e1 : ((a : Int) + c + v).toNat = a + (enc m).length + m := by omega
    have e2 : ((a : Int) + c).toNat = a + (enc m).length := by omega
    have hp : l.drop (a + (enc m).length) = post := by rw [← List.drop_drop, g6, List.drop_left]
    have hcut : (l.take (a + (enc m).length + m)).drop (a + (enc m).length) = post.take m := by
     rw [List.drop_take, hp]; congr 1; omega
    have hcl : (post.take m).length = m := by rw [List.length_take]; omega
    have hcb : bytesOk (post.take m) := fun x hx => h.b x (List.mem_of_mem_drop (i := a) (by rw [g6]; exact List.mem_append_right _ (List.mem_of_mem_take hx)))
    refine ⟨hbf, ?_⟩
    simp only [e1, e2, hcut]
    unfold txt
    rw [strOfNums_size, hcl, bytes_str hcb, ← List.drop_drop, hp, List.append_assoc, List.take_append_drop, g6]
end Go.Proofs.Ytpbbgbikebcnbaa.MsgP
