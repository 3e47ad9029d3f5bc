-- Cut by a program of this session (wip/shake.py) out of a text of this seat: what this claim doesn't reach is struck out. Lean checks it.
import Derived.Test.YtkaoojcafefjjaaNetBCp
import Derived.Lib.Hide
import Derived.BigRegion
namespace Go.Proofs.Ytkaoojcafefjjaa.Net
open Go.RowKit Go.Proofs.Ytkaoojcafefjjaa.Ms Go.Proofs.YtkaoojcafefjjaaW.PrintWords Go.Proofs.YtkaoojcafefjjaaW.PrintLast Go.Proofs.YtkaoojcafefjjaaW.PrintMore
attribute [local go_sem] Go.Proofs.Ytkaoojcafefjjaa.Ms.eqlErr Go.Proofs.Ytkaoojcafefjjaa.Ms.neqErr Go.Proofs.Ytkaoojcafefjjaa.Ms.eqlErrNil Go.Proofs.Ytkaoojcafefjjaa.Ms.neqErrNil
set_option linter.unusedVariables false
set_option linter.unusedSimpArgs false
theorem nil_RF (W : World) : Kd.R k41 41 (W.alloc (.cells #[] 41)) W.heap.size (fun k => k = W.heap.size) (.slice (some ⟨W.heap.size, 0, none⟩) 0 0) [] := by
  refine ⟨fun k hk => ?_, [], ?_, Reps.none _ _⟩
  · have : W.heap.size = k := by simpa [Value.ownBlock] using hk
    exact this.symm
  · exact World.ownsRow_lit (base := W.heap.size) (e := 41) (size := 3) W #[] 0 (Nat.le_refl _) (by simp [maxLen]) (by simp)
theorem lit_RF (W : World) (x : S41) : Kd.R k41 41 (W.alloc (.cells #[.int .i64 x.f0, .int .i64 x.f1, .string x.f2] 41)) W.heap.size (fun k => k = W.heap.size) (.slice (some ⟨W.heap.size, 0, none⟩) 1 1) [x] := by
  refine ⟨fun k hk => ?_, [.int .i64 x.f0, .int .i64 x.f1, .string x.f2], ?_, ⟨rfl, fun j p hj => ?_⟩⟩
  · have : W.heap.size = k := by simpa [Value.ownBlock] using hk
    exact this.symm
  · exact World.ownsRow_lit (base := W.heap.size) (e := 41) (size := 3) W #[.int .i64 x.f0, .int .i64 x.f1, .string x.f2] 1 (Nat.le_refl _) (by simp [maxLen]) (by simp)
  · have hj0 : j = 0 := by
      have := (List.getElem?_eq_some_iff.1 hj).1
      simpa using this
    subst hj0
    have hp : x = p := by simpa using hj
    subst hp
    exact k41_mkM _ _ _ x
theorem nil_RF' (W : World) (n : Nat) (hn : W.heap.size = n) : Kd.R k41 41 (W.alloc (.cells #[] 41)) n (fun k => k = n) (.slice (some ⟨n, 0, none⟩) 0 0) [] := by
  subst hn
  exact nil_RF W
theorem lit_RF' (W : World) (x : S41) (n : Nat) (hn : W.heap.size = n) : Kd.R k41 41 (W.alloc (.cells #[.int .i64 x.f0, .int .i64 x.f1, .string x.f2] 41)) n (fun k => k = n) (.slice (some ⟨n, 0, none⟩) 1 1) [x] := by
  subst hn
  exact lit_RF W x
end Go.Proofs.Ytkaoojcafefjjaa.Net
