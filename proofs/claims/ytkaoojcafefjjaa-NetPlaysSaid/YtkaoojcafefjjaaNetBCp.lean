-- Cut by a program of this session (wip/shake.py) out of a text of this seat: what this claim doesn't reach is struck out. Lean checks it.
import Derived.Test.YtkaoojcafefjjaaMsxCp
import Derived.Lib.Hide
import Derived.BigRegion
namespace Go.Proofs.Ytkaoojcafefjjaa.Net
open Go.RowKit Go.Proofs.Ytkaoojcafefjjaa.Ms Go.Proofs.YtkaoojcafefjjaaW.PrintWords Go.Proofs.YtkaoojcafefjjaaW.PrintLast Go.Proofs.YtkaoojcafefjjaaW.PrintMore
attribute [local go_sem] Go.Proofs.Ytkaoojcafefjjaa.Ms.eqlErr Go.Proofs.Ytkaoojcafefjjaa.Ms.neqErr Go.Proofs.Ytkaoojcafefjjaa.Ms.eqlErrNil Go.Proofs.Ytkaoojcafefjjaa.Ms.neqErrNil
set_option linter.unusedVariables false
set_option linter.unusedSimpArgs false
theorem R_tail {α : Type} {d : Kd α} {e : Nat} {w : World} {base : Nat} {ok : Nat → Prop} {g n c o : Nat} {xs : List α} (h : d.R e w base ok (.slice (some ⟨g, 0, none⟩) n c) xs) (ho : n * d.sz ≤ o) (u : Value) : d.R e (w.setCell ⟨g, o, none⟩ u) base ok (.slice (some ⟨g, 0, none⟩) n c) xs := by
  obtain ⟨hok, inner, ⟨hl, hown⟩, hr⟩ := h
  refine ⟨hok, inner, ⟨hl, ?_⟩, hr.1, fun j p hj => ?_⟩
  · rcases hown with ⟨h1, _⟩ | ⟨g', cap, cur, he, hb, hh, h1, h2, h3, h4⟩
    · cases h1
    · injection he with e1 e2 e3
      injection e1 with e1
      injection e1 with e1 _ _
      subst e1 e2 e3
      refine .inr ⟨g, c, cur.setIfInBounds o u, rfl, hb, blk_set hh o u, h1, h2, by rw [Array.size_setIfInBounds]; exact h3, ?_⟩
      rw [← h4, Array.toList_setIfInBounds]
      exact List.take_set_of_le ho
  · exact d.M_step (hr.2 j p hj) (fun k hk hlt => Below.heap_setCell w ⟨g, o, none⟩ u k (fun e => hk.2 (by rw [e]; rfl)))
theorem R_tails {α : Type} {d : Kd α} {e : Nat} {base : Nat} {ok : Nat → Prop} {g n c : Nat} {xs : List α} : ∀ (vs : List Value) (o : Nat) (w : World), d.R e w base ok (.slice (some ⟨g, 0, none⟩) n c) xs → n * d.sz ≤ o → d.R e (w.setCells g o vs) base ok (.slice (some ⟨g, 0, none⟩) n c) xs
  | [], _, _, h, _ => h
  | v :: r, o, w, h, ho => R_tails r (o + 1) _ (R_tail h ho v) (by omega)
theorem setCells_kept {ok : Nat → Prop} {w0 : World} {g : Nat} (hg : ok g) : ∀ (vs : List Value) (o : Nat) (w : World), Kept w0 w ok → Kept w0 (w.setCells g o vs) ok
  | [], _, _, h => h
  | v :: r, o, w, h => setCells_kept hg r (o + 1) _ (h.setCell (.inl hg) v)
theorem setCells_below {B : Nat} {w0 : World} {g : Nat} (hg : B ≤ g) : ∀ (vs : List Value) (o : Nat) (w : World), Below B w0 w → Below B w0 (w.setCells g o vs)
  | [], _, _, h => h
  | v :: r, o, w, h => setCells_below hg r (o + 1) _ (h.setCell hg v)
theorem run_clear_one {P : Program} (w : World) (t e ty : TypeId) (z : Value) (ht : P.underlying t = some (.slice e)) (hv : ∀ w, (zeroValue e).run P w = .ok z w) (h1 : ∀ u ∈ z.cells.toList, u.oneCell' = true) (b o c : Nat)
    (hc : ∀ j, j < z.cells.size → (w.cell? ⟨b, o + j, none⟩).isSome = true) (hf : ∀ j, j < z.cells.size → w.frozen? ⟨b, o + j, none⟩ = false) :
    (Builtin.clear_ #[t] ty #[.slice (some ⟨b, o, none⟩) 1 c]).run P w = .ok (.tuple #[]) (w.setCells b o z.cells.toList) := by
  have hzc : (Builtin.zeroCells z.cells 1).toList = z.cells.toList := by
    simp only [Builtin.zeroCells, Nat.one_mul]
    apply List.ext_getElem
    · simp
    · intro i h1 h2
      have h3 : i < z.cells.size := by simpa using h2
      simp [Nat.mod_eq_of_lt h3, h3]
  have hst := run_storeCells_cells (P := P) b o z.cells.toList 0 w (by simpa using hc) (by simpa using hf) h1
  simp only [Nat.add_zero] at hst
  simp [Builtin.clear_, run_underlying ht, hv, hzc, hst]
theorem R_cells {α : Type} {d : Kd α} {e : Nat} {w : World} {base : Nat} {ok : Nat → Prop} {g n c : Nat} {xs : List α} (h : d.R e w base ok (.slice (some ⟨g, 0, none⟩) n c) xs) : base ≤ g ∧ ok g ∧ ∃ cur, w.heap[g]? = some (.cells cur e (0, 0)) ∧ cur.size = c * d.sz := by
  obtain ⟨hok, inner, ⟨hl, hown⟩, hr⟩ := h
  rcases hown with ⟨h1, _⟩ | ⟨g', cap, cur, he, hb, hh, h1, h2, h3, h4⟩
  · cases h1
  · injection he with e1 e2 e3
    injection e1 with e1
    injection e1 with e1 _ _
    subst e1 e2 e3
    exact ⟨hb, hok g rfl, cur, hh, h3⟩
set_option maxHeartbeats 1000000 in
theorem clone_calls (A0 : Option Addr) (c0 : Nat) (l0 : List S41) (w : World) (hr0 : Kd.C k41 w A0 l0.length l0) (hn : l0.length ≤ 100000) :
    Calls Try.prog 19 #[.slice A0 l0.length c0] w fun e w' => ∃ v0_ : Value, e = .returned (v0_) ∧ Kd.R k41 41 w' w.heap.size (fun _ => True) v0_ l0 ∧ Below w.heap.size w w' := by
  have HR := Lib.hid hr0
  have HN := Lib.hid hn
  clear hr0 hn
  have heq := fun (w : World) => Lib.run_eql_slice_nil (P := Try.prog) w 38 41 A0 l0.length c0 0 0 Try.underlying38
  cases A0 with
  | none =>
    have hn : l0 = [] := by
      rcases Nat.eq_zero_or_pos l0.length with h0 | h0
      · exact List.eq_nil_of_length_eq_zero h0
      · obtain ⟨ad, he, _⟩ := HR.out.2.2 h0
        cases he
    subst hn
    clear HN HR
    have heq0 : ∀ w : World, (binOp .eql 38 (.slice none 0 c0) (.slice none 0 0)).run Try.prog w = .ok (.bool true) w := fun w => heq w
    clear heq
    go_enter Try.func19, Try.ntmps19
    go_wp2
    go_ret
    exact ⟨_, rfl, Kd.R_nil _ _ _ _ _, Below.refl _ _⟩
  | some ad =>
    have hu := Try.underlying38
    go_enter Try.func19, Try.ntmps19
    go_wp2_with (at_builtin; refine Kd.R_append_rows k41 (Rr := k41.K w) (w0 := w) w.heap.size rfl (.tmp 5) (.tmp 6) 38 41 (.agg #[.int .i64 0, .int .i64 0, .string ⟨#[]⟩]) 32 rfl Try.underlying38 info41 rfl (by decide) (by omega) _ [] l0 (some ad) l0.length c0 (fun _ => True) (fun _ => False) rfl rfl ?own ?src ?km (fun _ h => h.elim) (fun _ _ => trivial) ?bel ?base ?len ?go)
    case own => exact ⟨fun _ _ => trivial, [], World.ownsRow_made w #[] 0 (Nat.le_refl _) (by simp [maxLen]) rfl, Reps.none _ _⟩
    case src => exact Kd.C_below HR.out ((Below.refl _ _).alloc (Nat.le_refl _) _)
    case km => intro x cs h; rw [k41_open h]; exact k41_mkM _ _ _ x
    case bel => exact (Below.refl _ _).alloc (Nat.le_refl _) _
    case base => simp
    case len => have := HN.out; simp; omega
    case go =>
      intro v1 w1 hown hb hg hat
      go_wp2
      go_ret
      exact ⟨_, rfl, hown, hb⟩
end Go.Proofs.Ytkaoojcafefjjaa.Net
