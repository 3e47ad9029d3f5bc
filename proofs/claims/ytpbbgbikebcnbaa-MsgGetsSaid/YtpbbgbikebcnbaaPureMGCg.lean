-- Cut by a program of this session (wip/shake.py) out of a text of this seat: what this claim doesn't reach is struck out. Lean checks it.
import Derived.Test.YtpbbgbikebcnbaaPureMFCg
namespace Go.Proofs.Ytpbbgbikebcnbaa.MsgP
open Go.RowKit Go.Proofs.Ytpbbgbikebcnbaa.Ms Go.Proofs.Ytpbbgbikebcnbaa.Mw Go.Proofs.Ytpbbgbikebcnbaa.MsgL Go.Proofs.YtpbbgbikebcnbaaW.PrintWords Go.Proofs.YtpbbgbikebcnbaaW.PrintLast Go.Proofs.YtpbbgbikebcnbaaW.PrintMore
set_option linter.unusedVariables false
set_option linter.unusedSimpArgs false
def At (l : List Int) (a : Nat) (post : List Int) : Prop := a ≤ l.length ∧ l.drop a = post
theorem At.step {l : List Int} {a : Nat} {x post : List Int} (h : At l a (x ++ post)) : At l (a + x.length) post := by
  obtain ⟨h1, h2⟩ := h
  have hl := congrArg List.length h2
  rw [List.length_drop, List.length_append] at hl
  exact ⟨by omega, by rw [← List.drop_drop, h2, List.drop_left]⟩
def s1000 (n : Int) : Prop := 0 ≤ n ∧ n ≤ 1000
def okP1 (p : S95) : Prop := s1000 p.f0 ∧ s1000 p.f1 ∧ p.f2.size ≤ 4096 ∧ p.f3.length ≤ 1000 ∧ ∀ x ∈ p.f3, s1000 x
def okC1 (c : S61) : Prop := s1000 c.f0 ∧ s1000 c.f1 ∧ c.f2.length ≤ 1000 ∧ ∀ p ∈ c.f2, okP1 p
structure Ok1 (a b c d : Int) (s : ByteArray) (ps : List S95) (cs : List S61) : Prop where
  ha : s1000 a
  hb : s1000 b
  hc : s1000 c
  hd : s1000 d
  hs : s.size ≤ 4096
  hps : ps.length ≤ 1000
  hp : ∀ p ∈ ps, okP1 p
  hcs : cs.length ≤ 1000
  hcc : ∀ c ∈ cs, okC1 c
end Go.Proofs.Ytpbbgbikebcnbaa.MsgP
