-- Cut by a program of this session (wip/shake.py) out of a text of this seat: what this claim doesn't reach is struck out. Lean checks it.
import Derived.Test.YtpbbgbikebcnbaaPureMCCx
import Derived.Test.YtpbbgbikebcnbaaPureMECx
namespace Go.Proofs.Ytpbbgbikebcnbaa.MsgP
open Go.RowKit Go.Proofs.Ytpbbgbikebcnbaa.Ms Go.Proofs.Ytpbbgbikebcnbaa.Mw Go.Proofs.Ytpbbgbikebcnbaa.MsgL Go.Proofs.YtpbbgbikebcnbaaW.PrintWords Go.Proofs.YtpbbgbikebcnbaaW.PrintLast Go.Proofs.YtpbbgbikebcnbaaW.PrintMore
set_option linter.unusedVariables false
set_option linter.unusedSimpArgs false
def Ag {α : Type} (x y : α × Nat × Bool) : Prop := x.2.2 = y.2.2 ∧ (x.2.2 = false → x = y)
theorem Ag.refl {α : Type} (x : α × Nat × Bool) : Ag x x := ⟨rfl, fun _ => rfl⟩
theorem Ag.two {α : Type} {x y : α × Nat × Bool} (h1 : x.2.2 = true) (h2 : y.2.2 = true) : Ag x y := ⟨h1.trans h2.symm, fun h => by rw [h1] at h; cases h⟩
theorem Ag.or {α : Type} {x y : α × Nat × Bool} (h : Ag x y) : (x.2.2 = true ∧ y.2.2 = true) ∨ x = y := by
 cases hb : x.2.2 with
 | true => exact .inl ⟨rfl, by rw [← h.1, hb]⟩
 | false => exact .inr (h.2 hb)
theorem numOf_bad (l : List Int) (m : Int) (a : Nat) : (numOf l m a true).2.2 = true := rfl
theorem text_ag {l : List Int} (h : LOk l) {a : Nat} (ha : a ≤ l.length) (b : Bool) : Ag (txtOf l a b) (rtxt l a b) := by
 obtain ⟨h1, h2, h3, _⟩ := rtxt_txt h.b (bad := b) ha
 refine ⟨h2.symm, fun hb => ?_⟩
 have h4 := h3 hb
 generalize txtOf l a b = x at *
 generalize rtxt l a b = y at *
 obtain ⟨x1, x2, x3⟩ := x
 obtain ⟨y1, y2, y3⟩ := y
 simp only at h1 h2 h4
 rw [h1, h2, h4]
end Go.Proofs.Ytpbbgbikebcnbaa.MsgP

namespace Go.Proofs.Ytpbbgbikebcnbaa.MsgP
open Go.RowKit Go.Proofs.Ytpbbgbikebcnbaa.Ms Go.Proofs.Ytpbbgbikebcnbaa.Mw Go.Proofs.Ytpbbgbikebcnbaa.MsgL Go.Proofs.YtpbbgbikebcnbaaW.PrintWords Go.Proofs.YtpbbgbikebcnbaaW.PrintLast Go.Proofs.YtpbbgbikebcnbaaW.PrintMore
set_option linter.unusedVariables false
set_option linter.unusedSimpArgs false
def At (l : List Int) (a : Nat) (post : List Int) : Prop := a ≤ l.length ∧ l.drop a = post
theorem At.step {l : List Int} {a : Nat} {x post : List Int} (h : At l a (x ++ post)) : At l (a + x.length) post := by
 obtain ⟨h1, h2⟩ := h
 have hl := congrArg List.length h2
 rw [List.length_drop, List.length_append] at hl
 exact ⟨by omega, by rw [← List.drop_drop, h2, List.drop_left]⟩
theorem txt_fwd {l : List Int} {a : Nat} {s : ByteArray} {post : List Int} (hs : s.size ≤ 4096) (h : At l a (txt s ++ post)) : ∃ a', txtOf l a false = (s, a', false) ∧ At l a' post := by
 refine ⟨a + (txt s).length, ?_, h.step⟩
 have e : txt s ++ post = enc s.size ++ (bytesOf s ++ post) := by unfold txt; rw [List.append_assoc]
 have hl := congrArg List.length h.2
 rw [List.length_drop, e, List.length_append, List.length_append, bytesOf_length] at hl
 have ha := h.1
 have hp := enc_pos s.size
 unfold txtOf
 rw [if_neg (by simp), h.2, e, gn_written s.size (by omega) 4096 (by omega) _]
 simp only
 rw [if_neg (by omega)]
 have t1 : ((a : Int) + ((enc s.size).length : Int) + ((s.size : Nat) : Int)).toNat = a + (enc s.size).length + s.size := by omega
 have t2 : ((a : Int) + ((enc s.size).length : Int)).toNat = a + (enc s.size).length := by omega
 rw [t1, t2]
 have hd : l.drop (a + (enc s.size).length) = bytesOf s ++ post := by rw [← List.drop_drop, h.2, e, List.drop_left]
 have hcut : (l.take (a + (enc s.size).length + s.size)).drop (a + (enc s.size).length) = bytesOf s := by
  rw [List.drop_take, hd, show a + (enc s.size).length + s.size - (a + (enc s.size).length) = (bytesOf s).length from by rw [bytesOf_length]; omega, List.take_left]
 rw [hcut, str_bytesOf]
 congr 2
 unfold txt
 rw [List.length_append, bytesOf_length]
 omega
def s1000 (n : Int) : Prop := 0 ≤ n ∧ n ≤ 1000
def okP1 (p : S95) : Prop := s1000 p.f0 ∧ s1000 p.f1 ∧ p.f2.size ≤ 4096 ∧ p.f3.length ≤ 1000 ∧ ∀ x ∈ p.f3, s1000 x
def okC1 (c : S61) : Prop := s1000 c.f0 ∧ s1000 c.f1 ∧ c.f2.length ≤ 1000 ∧ ∀ p ∈ c.f2, okP1 p
structure Ok1 (a b c d : Int) (s : ByteArray) (ps : List S95) (cs : List S61) : Prop where
 ha : s1000 a
 hb : s1000 b
 hc : s1000 c
 hd : s1000 d
 hs : s.size ≤ 4096
 hps : ps.length ≤ 1000
 hp : ∀ p ∈ ps, okP1 p
 hcs : cs.length ≤ 1000
 hcc : ∀ c ∈ cs, okC1 c
end Go.Proofs.Ytpbbgbikebcnbaa.MsgP

namespace Go.Proofs.Ytpbbgbikebcnbaa.MsgP
open Go.RowKit Go.Proofs.Ytpbbgbikebcnbaa.Ms Go.Proofs.Ytpbbgbikebcnbaa.Mw Go.Proofs.Ytpbbgbikebcnbaa.MsgL Go.Proofs.YtpbbgbikebcnbaaW.PrintWords Go.Proofs.YtpbbgbikebcnbaaW.PrintLast Go.Proofs.YtpbbgbikebcnbaaW.PrintMore
set_option linter.unusedVariables false
set_option linter.unusedSimpArgs false
theorem LOk.nil : LOk [] := ⟨fun x hx => (by cases hx), by decide⟩
theorem may_up : mayM 3 2 1 3 (⟨#[97]⟩ : ByteArray) [] [] = true := by decide
theorem up_f (K : Nat) (hK : BigK K) (k : Nat) (hk : K + 2010 ≤ k) : becketlaw12_up.f k = some true := by
 unfold becketlaw12_up.f
 rw [put_any 3 2 1 3 (⟨#[97]⟩ : ByteArray) [] [] k (by omega), if_pos may_up, Option.bind_some, get_f LOk.nil K hK k hk, Option.bind_some]
 have e : msgE 3 2 1 3 (⟨#[97]⟩ : ByteArray) [] [] = [3, 2, 1, 3, 1, 97, 0, 0] := by
  unfold msgE proofsE txt
  rw [show (3 : Int).toNat = 3 from rfl, show (2 : Int).toNat = 2 from rfl, show (1 : Int).toNat = 1 from rfl, show (⟨#[97]⟩ : ByteArray).size = 1 from rfl, show ([] : List S95).length = 0 from rfl, show ([] : List S61).length = 0 from rfl, enc_small (by decide : 3 < 128), enc_small (by decide : 2 < 128), enc_small (by decide : 1 < 128), enc_small (by decide : 0 < 128)]
  rfl
 rw [if_pos ⟨e, rfl, rfl⟩]
theorem KB_ok : BigK 1010010 := by unfold BigK; decide
def KZ : Nat := 1010010 + 2010 + 30000
theorem KZ_big : 1010010 + 2010 ≤ KZ := by unfold KZ; decide
theorem ok_append {a b : List Int} (ha : bytesOk a) (hb : bytesOk b) : bytesOk (a ++ b) := fun x hx => (List.mem_append.1 hx).elim (ha x) (hb x)
theorem ok_enc {n : Nat} (h : n ≤ 1000000) : bytesOk (enc n) := enc_bytes 9 n (Nat.lt_of_le_of_lt h (by decide))
theorem ok_bytesOf (s : ByteArray) : bytesOk (bytesOf s) := fun y hy => by
 unfold bytesOf at hy
 obtain ⟨z, _, rfl⟩ := List.mem_map.1 hy
 exact ⟨by omega, by have := z.toNat_lt; omega⟩
theorem ok_txt {s : ByteArray} (h : s.size ≤ 1000000) : bytesOk (txt s) := ok_append (ok_enc h) (ok_bytesOf s)
theorem ok_flat {α : Type} (f : α → List Int) : ∀ l : List α, (∀ x ∈ l, bytesOk (f x)) → bytesOk (l.flatMap f)
 | [], _ => fun x hx => by simp at hx
 | x :: r, h => by
  rw [List.flatMap_cons]
  exact ok_append (h x (by simp)) (ok_flat f r (fun y hy => h y (by simp [hy])))
end Go.Proofs.Ytpbbgbikebcnbaa.MsgP
