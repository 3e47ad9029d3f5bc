/-
  Rows of slices that lie elsewhere; blocks of bytes. No condition is added.
-/
import Derived.Test.YtbnhoacchibbnaaLog6
namespace Go.Proofs.Ytbnhoacchibbnaa.Log
open Go.RowKit Go.Proofs.Ytbnhoacchibbnaa.Lw Go.Proofs.Ytbnhoacchibbnaa.Tape Go.Proofs.YtbnhoacchibbnaaW.PrintWords Go.Proofs.YtbnhoacchibbnaaW.PrintLast Go.Proofs.YtbnhoacchibbnaaW.PrintMore
set_option linter.unusedVariables false
set_option linter.unusedSimpArgs false
/-! ### rows of headers -/
def henc (x : Option Addr × Nat × List Int) : Value := .slice x.1 x.2.2.length x.2.1
/-- Rows of slices that lie elsewhere: only their headers are the row's own. -/
abbrev hdrK : Kd (Option Addr × Nat × List Int) := Kd.scalar henc (fun _ => rfl)

/-- A row of slices: its headers lie within N (from B on), what they hold within N or ahead of B. -/
def HRow (W : World) (B : Nat) (N : Nat → Prop) (v : Value) (ms : List (List Int)) : Prop :=
  ∃ hs : List (Option Addr × Nat × List Int), Kd.R hdrK 22 W B N v hs ∧ ms = hs.map (fun x => x.2.2) ∧ ∀ x ∈ hs, x.2.2.length ≤ x.2.1 ∧ Kd.F (Kd.int .u8) W (fun k => (N k ∨ k < B) ∧ some k ≠ v.ownBlock) x.1 x.2.2.length x.2.2
section
variable {W W' : World} {B : Nat} {N N' S : Nat → Prop} {v : Value} {ms : List (List Int)}
theorem HRow.nil (W : World) (B : Nat) (N : Nat → Prop) : HRow W B N (.slice none 0 0) [] := ⟨[], Kd.R_nil _ _ _ _ _, rfl, by simp⟩
theorem HRow.kept (h : HRow W B N v ms) (hk : Kept W W' S) (hS : ∀ k, S k → ¬ N k ∧ B ≤ k) : HRow W' B N v ms := by
  obtain ⟨hs, h1, h2, h3⟩ := h
  refine ⟨hs, Kd.R_kept h1 hk (fun k hk hs => (hS k hs).1 hk), h2, fun x hx => ⟨(h3 x hx).1, Kd.F_kept (h3 x hx).2 hk (fun k hk hs => ?_)⟩⟩
  have := hS k hs
  rcases hk.1 with h | h
  · exact this.1 h
  · omega
theorem HRow.below (h : HRow W B N v ms) (hb : Below W.heap.size W W') : HRow W' B N v ms := by
  obtain ⟨hs, h1, h2, h3⟩ := h
  exact ⟨hs, Kd.R_below h1 hb, h2, fun x hx => ⟨(h3 x hx).1, Kd.F_below (h3 x hx).2 hb⟩⟩
theorem HRow.mono (h : HRow W B N v ms) (hn : ∀ k, N k → N' k) : HRow W B N' v ms := by
  obtain ⟨hs, h1, h2, h3⟩ := h
  exact ⟨hs, Kd.R_mono h1 hn, h2, fun x hx => ⟨(h3 x hx).1, Kd.F_mono (h3 x hx).2 (fun k hk => ⟨hk.1.imp (hn k) id, hk.2⟩)⟩⟩
theorem HRow.bound (h : HRow W B N v ms) : HRow W B (fun k => N k ∧ k < W.heap.size) v ms := by
  obtain ⟨hs, h1, h2, h3⟩ := h
  refine ⟨hs, Kd.R_mono (Kd.R_bound h1) (fun k hk => ⟨hk.1, hk.2.2.1⟩), h2, fun x hx => ⟨(h3 x hx).1, Kd.F_mono (Kd.F_bound (h3 x hx).2) (fun k hk => ⟨?_, hk.1.2⟩)⟩⟩
  rcases hk.1.1 with h | h
  · exact .inl ⟨h, hk.2⟩
  · exact .inr h
theorem HRow.slice (h : HRow W B N v ms) : ∃ A c, v = .slice A ms.length c := by
  obtain ⟨hs, h1, rfl, _⟩ := h
  obtain ⟨A, c, rfl⟩ := Kd.R_slice h1
  exact ⟨A, c, by rw [List.length_map]⟩
theorem HRow.reads {A : Option Addr} {n c : Nat} (h : HRow W B N (.slice A n c) ms) : n = ms.length ∧ n ≤ c ∧ Kd.C (Kd.slice 5 (Kd.int .u8)) W A ms.length ms := by
  obtain ⟨hs, h1, rfl, h3⟩ := h
  obtain ⟨e, hc, hC⟩ := Kd.R_reads' h1
  rw [List.length_map]
  refine ⟨e, hc, by rw [List.length_map], hC.2.1, fun hn => ?_⟩
  obtain ⟨ad, e2, hcell⟩ := hC.2.2 hn
  refine ⟨ad, e2, fun j p hj => ?_⟩
  rw [List.getElem?_map, Option.map_eq_some_iff] at hj
  obtain ⟨x, hx, rfl⟩ := hj
  obtain ⟨cs, h4, h5, h6⟩ := hcell j x hx
  have h7 := h3 x (List.mem_of_getElem? hx)
  exact ⟨cs, h4, ⟨x.1, x.2.1, h5, h7.1, Kd.F_now h7.2⟩, h6⟩
/-- One more slice behind a row: what is known once the headers are there. -/
theorem HRow.push {hs : List (Option Addr × Nat × List Int)} {x : Option Addr × Nat × List Int} {v1 : Value} (hN : ∀ k, N k → N' k) (h1 : Kd.R hdrK 22 W B N v hs) (h3 : ∀ x ∈ hs, x.2.2.length ≤ x.2.1 ∧ Kd.F (Kd.int .u8) W (fun k => (N k ∨ k < B) ∧ some k ≠ v.ownBlock) x.1 x.2.2.length x.2.2)
    (hx : x.2.2.length ≤ x.2.1 ∧ Kd.F (Kd.int .u8) W (fun k => (N k ∨ k < B) ∧ some k ≠ v.ownBlock) x.1 x.2.2.length x.2.2) (hr : Kd.R hdrK 22 W' B N' v1 (hs ++ [x])) (hg : W.grownBy W' v.ownBlock) (hat : v1.ownBlock = v.ownBlock ∨ ∃ b, v1.ownBlock = some b ∧ W.heap.size ≤ b) :
    HRow W' B N' v1 (hs.map (fun x => x.2.2) ++ [x.2.2]) := by
  refine ⟨hs ++ [x], hr, by simp, fun y hy => ?_⟩
  have hy' : y.2.2.length ≤ y.2.1 ∧ Kd.F (Kd.int .u8) W (fun k => (N k ∨ k < B) ∧ some k ≠ v.ownBlock) y.1 y.2.2.length y.2.2 := (List.mem_append.1 hy).elim (h3 y) (fun h => by rw [List.mem_singleton.1 h]; exact hx)
  exact ⟨hy'.1, Kd.F_mono (Kd.F_after (ok := fun k => N k ∨ k < B) hy'.2 hg hat) (fun k hk => ⟨hk.1.imp (hN k) id, hk.2⟩)⟩
end
/-- What came in is read in every later world, whatever has been written from there on. -/
theorem came_F {w W : World} {A : Option Addr} {m : List Int} {ok : Nat → Prop} (h : Kd.C (Kd.int .u8) w A m.length m) (hb : Below w.heap.size w W) (hok : ∀ k, k < w.heap.size → ok k) : Kd.F (Kd.int .u8) W ok A m.length m :=
  Kd.F_mono (Kd.F_below (Kd.C_F (Kd.heap_int .u8) h) hb) hok
theorem Kept.base {w W : World} {B : Nat} {S : Nat → Prop} (h : Kept w W S) (hb : Below B w W) : Kept w W (fun k => S k ∧ B ≤ k) :=
  ⟨h.1, fun k hk hn => if h2 : k < B then hb.block k h2 else h.2 k hk (fun hs => hn ⟨hs, by omega⟩)⟩

/-- A block of bytes. -/
def BB (W : World) (g n : Nat) : Prop := ∃ cur, W.heap[g]? = some (.cells cur 5) ∧ ∀ j, j < n → ∃ z : Int, cur[j]? = some (.int .u8 z)
theorem BB.kept {W W' : World} {S : Nat → Prop} {g n : Nat} (h : BB W g n) (hk : Kept W W' S) (hne : ¬ S g) : BB W' g n := by
  obtain ⟨cur, h1, h2⟩ := h
  exact ⟨cur, blk_kept h1 hk hne, h2⟩
theorem BB.cell {W : World} {g n : Nat} (h : BB W g n) (j : Nat) (hj : j < n) : (∃ z : Int, W.cell? ⟨g, j, none⟩ = some (.int .u8 z)) ∧ W.frozen? ⟨g, j, none⟩ = false := by
  obtain ⟨cur, h1, h2⟩ := h
  obtain ⟨z, hz⟩ := h2 j hj
  exact ⟨⟨z, (blk_cell h1 j).trans hz⟩, blk_frozen h1 j⟩
theorem BB.set {W : World} {g g' n : Nat} (h : BB W g n) (j : Nat) (z : Int) : BB (W.setCell ⟨g', j, none⟩ (.int .u8 z)) g n := by
  obtain ⟨cur, h1, h2⟩ := h
  by_cases hg : g = g'
  · subst hg
    refine ⟨cur.setIfInBounds j (.int .u8 z), blk_set h1 j _, fun i hi => ?_⟩
    obtain ⟨y, hy⟩ := h2 i hi
    rw [Array.getElem?_setIfInBounds]
    split
    · split
      · exact ⟨z, rfl⟩
      · rename_i h3 h4
        rw [Array.getElem?_eq_none (by omega)] at hy
        cases hy
    · exact ⟨y, hy⟩
  · exact ⟨cur, (Below.heap_setCell W ⟨g', j, none⟩ _ g hg).trans h1, h2⟩
theorem BB.of_R {W : World} {B n : Nat} {ok : Nat → Prop} {v : Value} {m : List Int} (h : Kd.R (Kd.int .u8) 5 W B ok v m) (hp : 0 < m.length) : ∃ g c, v = .slice (some ⟨g, 0, none⟩) m.length c ∧ BB W g m.length ∧ ok g := by
  obtain ⟨hl, h2⟩ := Kd.own_of_R h
  rcases h2 with ⟨_, h3⟩ | ⟨g, cap, cur, rfl, hg, hh, h4, h5, h6, h7⟩
  · omega
  · refine ⟨g, cap, rfl, ⟨cur, hh, fun j hj => ⟨m.getD j 0, ?_⟩⟩, h.1 g rfl⟩
    have h8 : (cur.toList.take (m.length * 1))[j]? = (encs (Value.int .u8) m)[j]? := by rw [h7]
    rw [Nat.mul_one, List.getElem?_take_of_lt hj] at h8
    rw [← Array.getElem?_toList, h8]
    simp [encs, hj]

/-- A row of slices of the call's own, one by one. -/
theorem rr_get {W : World} {B : Nat} {ok : Nat → Prop} {A : Option Addr} {n c : Nat} {rs : List (List Int)} (h : Kd.R (Kd.slice 5 (Kd.int .u8)) 22 W B ok (.slice A n c) rs) (i : Nat) (hi : i < rs.length) :
    ∃ ad Ai ci, A = some ad ∧ W.cell? (ad.add i) = some (.slice Ai rs[i].length ci) ∧ rs[i].length ≤ ci ∧ (0 < rs[i].length → ∃ g, Ai = some ⟨g, 0, none⟩ ∧ BB W g rs[i].length ∧ ok g ∧ g ≠ ad.block) := by
  obtain ⟨A', c', e, hl, hr⟩ := OwnRow.reads h.2
  injection e with e1 e2 e3
  subst e1
  obtain ⟨ad, cs, rfl, _, ⟨v, rfl, hv⟩, hcell⟩ := ReadsRow.get_ hr [] (i : Int) (by omega) (by omega)
  have hget : rs.getD (i : Int).toNat [] = rs[i] := by simp [List.getD, hi]
  rw [hget] at hv
  have hx := hcell 0 _ rfl
  rw [Int.toNat_natCast, show (Kd.slice 5 (Kd.int .u8)).sz = 1 from rfl, Nat.mul_one, Nat.add_zero] at hx
  obtain ⟨Ai, ci, rfl⟩ := Kd.R_slice hv
  refine ⟨ad, Ai, ci, rfl, hx, (Kd.R_reads' hv).2.1, fun hp => ?_⟩
  obtain ⟨g, c2, e4, hb, ho⟩ := BB.of_R (n := rs[i].length) hv hp
  injection e4 with e5 e6 e7
  exact ⟨g, e5, hb, ho.1, fun e => ho.2 (by rw [e]; rfl)⟩

theorem hs_reads {W : World} {A : Option Addr} {hs : List (Option Addr × Nat × List Int)} (hC : Kd.C hdrK W A hs.length hs) (h3 : ∀ x ∈ hs, x.2.2.length ≤ x.2.1 ∧ Kd.C (Kd.int .u8) W x.1 x.2.2.length x.2.2) : Kd.C (Kd.slice 5 (Kd.int .u8)) W A (hs.map (fun x => x.2.2)).length (hs.map (fun x => x.2.2)) := by
  refine ⟨rfl, by rw [List.length_map]; exact hC.2.1, fun hn => ?_⟩
  rw [List.length_map] at hn
  obtain ⟨ad, e2, hcell⟩ := hC.2.2 hn
  refine ⟨ad, e2, fun j p hj => ?_⟩
  rw [List.getElem?_map, Option.map_eq_some_iff] at hj
  obtain ⟨x, hx, rfl⟩ := hj
  obtain ⟨cs, h4, h5, h6⟩ := hcell j x hx
  have h7 := h3 x (List.mem_of_getElem? hx)
  exact ⟨cs, h4, ⟨x.1, x.2.1, h5, h7.1, h7.2⟩, h6⟩
end Go.Proofs.Ytbnhoacchibbnaa.Log
