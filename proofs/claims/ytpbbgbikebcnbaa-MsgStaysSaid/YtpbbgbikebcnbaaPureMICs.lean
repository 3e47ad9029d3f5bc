-- Cut by a program of this session (wip/shake.py) out of a text of this seat: what this claim doesn't reach is struck out. Lean checks it.
import Derived.Test.YtpbbgbikebcnbaaPureMDCs
import Derived.Test.YtpbbgbikebcnbaaPureMCCs
namespace Go.Proofs.Ytpbbgbikebcnbaa.MsgP
open Go.RowKit Go.Proofs.Ytpbbgbikebcnbaa.Ms Go.Proofs.Ytpbbgbikebcnbaa.Mw Go.Proofs.Ytpbbgbikebcnbaa.MsgL Go.Proofs.YtpbbgbikebcnbaaW.PrintWords Go.Proofs.YtpbbgbikebcnbaaW.PrintLast Go.Proofs.YtpbbgbikebcnbaaW.PrintMore
set_option linter.unusedVariables false
set_option linter.unusedSimpArgs false
end Go.Proofs.Ytpbbgbikebcnbaa.MsgP

namespace Go.Proofs.Ytpbbgbikebcnbaa.MsgP
open Go.RowKit Go.Proofs.Ytpbbgbikebcnbaa.Ms Go.Proofs.Ytpbbgbikebcnbaa.Mw Go.Proofs.Ytpbbgbikebcnbaa.MsgL Go.Proofs.YtpbbgbikebcnbaaW.PrintWords Go.Proofs.YtpbbgbikebcnbaaW.PrintLast Go.Proofs.YtpbbgbikebcnbaaW.PrintMore
set_option linter.unusedVariables false
set_option linter.unusedSimpArgs false
def Ag {α : Type} (x y : α × Nat × Bool) : Prop := x.2.2 = y.2.2 ∧ (x.2.2 = false → x = y)
theorem Ag.refl {α : Type} (x : α × Nat × Bool) : Ag x x := ⟨rfl, fun _ => rfl⟩
theorem Ag.or {α : Type} {x y : α × Nat × Bool} (h : Ag x y) : (x.2.2 = true ∧ y.2.2 = true) ∨ x = y := by
  cases hb : x.2.2 with
  | true => exact .inl ⟨rfl, by rw [← h.1, hb]⟩
  | false => exact .inr (h.2 hb)
end Go.Proofs.Ytpbbgbikebcnbaa.MsgP

namespace Go.Proofs.Ytpbbgbikebcnbaa.MsgP
open Go.RowKit Go.Proofs.Ytpbbgbikebcnbaa.Ms Go.Proofs.Ytpbbgbikebcnbaa.Mw Go.Proofs.Ytpbbgbikebcnbaa.MsgL Go.Proofs.YtpbbgbikebcnbaaW.PrintWords Go.Proofs.YtpbbgbikebcnbaaW.PrintLast Go.Proofs.YtpbbgbikebcnbaaW.PrintMore
set_option linter.unusedVariables false
set_option linter.unusedSimpArgs false
def At (l : List Int) (a : Nat) (post : List Int) : Prop := a ≤ l.length ∧ l.drop a = post
theorem At.step {l : List Int} {a : Nat} {x post : List Int} (h : At l a (x ++ post)) : At l (a + x.length) post := by
  obtain ⟨h1, h2⟩ := h
  have hl := congrArg List.length h2
  rw [List.length_drop, List.length_append] at hl
  exact ⟨by omega, by rw [← List.drop_drop, h2, List.drop_left]⟩
def s1000 (n : Int) : Prop := 0 ≤ n ∧ n ≤ 1000
def okP1 (p : S95) : Prop := s1000 p.f0 ∧ s1000 p.f1 ∧ p.f2.size ≤ 4096 ∧ p.f3.length ≤ 1000 ∧ ∀ x ∈ p.f3, s1000 x
def okC1 (c : S61) : Prop := s1000 c.f0 ∧ s1000 c.f1 ∧ c.f2.length ≤ 1000 ∧ ∀ p ∈ c.f2, okP1 p
structure Ok1 (a b c d : Int) (s : ByteArray) (ps : List S95) (cs : List S61) : Prop where
  ha : s1000 a
  hb : s1000 b
  hc : s1000 c
  hd : s1000 d
  hs : s.size ≤ 4096
  hps : ps.length ≤ 1000
  hp : ∀ p ∈ ps, okP1 p
  hcs : cs.length ≤ 1000
  hcc : ∀ c ∈ cs, okC1 c
end Go.Proofs.Ytpbbgbikebcnbaa.MsgP

namespace Go.Proofs.Ytpbbgbikebcnbaa.MsgP
open Go.RowKit Go.Proofs.Ytpbbgbikebcnbaa.Ms Go.Proofs.Ytpbbgbikebcnbaa.Mw Go.Proofs.Ytpbbgbikebcnbaa.MsgL Go.Proofs.YtpbbgbikebcnbaaW.PrintWords Go.Proofs.YtpbbgbikebcnbaaW.PrintLast Go.Proofs.YtpbbgbikebcnbaaW.PrintMore
set_option linter.unusedVariables false
set_option linter.unusedSimpArgs false
theorem LOk.nil : LOk [] := ⟨fun x hx => (by cases hx), by decide⟩
theorem may_up : mayM 3 2 1 3 (⟨#[97]⟩ : ByteArray) [] [] = true := by decide
theorem up_f (K : Nat) (hK : BigK K) (k : Nat) (hk : K + 2010 ≤ k) : becketlaw12_up.f k = some true := by
  unfold becketlaw12_up.f
  rw [put_any 3 2 1 3 (⟨#[97]⟩ : ByteArray) [] [] k (by omega), if_pos may_up, Option.bind_some, get_f LOk.nil K hK k hk, Option.bind_some]
  have e : msgE 3 2 1 3 (⟨#[97]⟩ : ByteArray) [] [] = [3, 2, 1, 3, 1, 97, 0, 0] := by
    unfold msgE proofsE txt
    rw [show (3 : Int).toNat = 3 from rfl, show (2 : Int).toNat = 2 from rfl, show (1 : Int).toNat = 1 from rfl, show (⟨#[97]⟩ : ByteArray).size = 1 from rfl, show ([] : List S95).length = 0 from rfl, show ([] : List S61).length = 0 from rfl, enc_small (by decide : 3 < 128), enc_small (by decide : 2 < 128), enc_small (by decide : 1 < 128), enc_small (by decide : 0 < 128)]
    rfl
  rw [if_pos ⟨e, rfl, rfl⟩]
theorem KB_ok : BigK 1010010 := by unfold BigK; decide
theorem sameM_refl (a b c d : Int) (s : ByteArray) (ps : List S95) (cs : List S61) : sameM a b c d s ps cs a b c d s ps cs = true := by
  unfold sameM
  rw [(samePs_iff ps ps).2 rfl, (sameCs_iff cs cs).2 rfl]
  simp
def KZ : Nat := 1010010 + 2010 + 30000
theorem KZ_big : 1010010 + 2010 ≤ KZ := by unfold KZ; decide
theorem upZ : becketlaw12_up.f KZ = some true := up_f 1010010 KB_ok KZ KZ_big
end Go.Proofs.Ytpbbgbikebcnbaa.MsgP
