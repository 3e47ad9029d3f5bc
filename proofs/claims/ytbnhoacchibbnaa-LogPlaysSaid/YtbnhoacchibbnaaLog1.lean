/-
  The log's functions, each by its contract: record, Open. No condition is added.
-/
import Derived.Test.YtbnhoacchibbnaaLogW
import Derived.Test.YtbnhoacchibbnaaLogTape
namespace Go.Proofs.Ytbnhoacchibbnaa.Log
open Go.RowKit Go.Proofs.Ytbnhoacchibbnaa.Lw Go.Proofs.Ytbnhoacchibbnaa.Tape Go.Proofs.YtbnhoacchibbnaaW.PrintWords Go.Proofs.YtbnhoacchibbnaaW.PrintLast Go.Proofs.YtbnhoacchibbnaaW.PrintMore
attribute [local go_sem] eqlErr neqErr eqlErrNil neqErrNil
set_option linter.unusedVariables false
set_option linter.unusedSimpArgs false
/-- Slices that are cuts of rows of the call's own. -/
def cutk {α : Type} (e : Nat) (d : Kd α) : Kd (List α) where
  sz := 1
  E := e :: d.E
  K := (Kd.slice e d).K
  M := fun w base ok xs cs => ∃ v, cs = [v] ∧ d.Q e w base ok v xs
  K_len := (Kd.slice e d).K_len
  K_one := (Kd.slice e d).K_one
  K_below := (Kd.slice e d).K_below
  K_of_M := by
    rintro w base ok x cs ⟨v, rfl, h⟩
    obtain ⟨A, c, rfl, hl, hr⟩ := Kd.Q_reads h
    exact ⟨A, c, rfl, hl, hr⟩
  M_mono := by
    rintro w base ok ok' x cs hok ⟨v, rfl, h⟩
    exact ⟨v, rfl, Kd.Q_mono h hok⟩
  M_bound := by
    rintro w base ok x cs ⟨v, rfl, h⟩
    exact ⟨v, rfl, Kd.Q_bound h⟩
  M_move := by
    rintro w w1 base ok x cs hm ⟨v, rfl, h⟩
    exact ⟨v, rfl, Kd.Q_move h hm⟩
  M_lower := by
    rintro w base base' ok x cs hb ⟨v, rfl, h⟩
    exact ⟨v, rfl, Kd.Q_lower h hb⟩
def recK : Kd (List Int) := cutk 5 (Kd.int .u8)

/-- A log in memory: its struct at block q, of the tape at g; its records lie in rows of its own. What is its own lies from B on, within ok. -/
def LogAt (W : World) (B : Nat) (ok : Nat → Prop) (q g : Nat) (rs : List (List Int)) (torn : Bool) : Prop :=
  B ≤ q ∧ ok q ∧ ∃ v, W.heap[q]? = some (.cells #[.pointer (some ⟨g, 0, none⟩), v, .bool torn] 97 (0, 0)) ∧ Kd.R recK 22 W B (fun k => ok k ∧ k ≠ q) v rs
section
variable {W W' : World} {B q g : Nat} {ok ok' S : Nat → Prop} {rs : List (List Int)} {torn : Bool}
theorem LogAt.open_ (h : LogAt W B ok q g rs torn) :
    ∃ A c, W.heap[q]? = some (.cells #[.pointer (some ⟨g, 0, none⟩), .slice A rs.length c, .bool torn] 97 (0, 0)) ∧ Kd.R recK 22 W B (fun k => ok k ∧ k ≠ q) (.slice A rs.length c) rs ∧ B ≤ q ∧ ok q := by
  obtain ⟨hB, hok, v, hb, hr⟩ := h
  obtain ⟨A, c, rfl⟩ := Kd.R_slice hr
  exact ⟨A, c, hb, hr, hB, hok⟩
theorem LogAt.mono (h : LogAt W B ok q g rs torn) (hk : ∀ k, ok k → ok' k) : LogAt W B ok' q g rs torn := by
  obtain ⟨hB, hok, v, hb, hr⟩ := h
  exact ⟨hB, hk _ hok, v, hb, Kd.R_mono hr (fun k h => ⟨hk k h.1, h.2⟩)⟩
theorem LogAt.below (h : LogAt W B ok q g rs torn) (hb : Below W.heap.size W W') : LogAt W' B ok q g rs torn := by
  obtain ⟨hB, hok, v, hg, hr⟩ := h
  exact ⟨hB, hok, v, blk_below hg hb, Kd.R_below hr hb⟩
theorem LogAt.bound (h : LogAt W B ok q g rs torn) : LogAt W B (fun k => ok k ∧ B ≤ k ∧ k < W.heap.size) q g rs torn := by
  obtain ⟨hB, hok, v, hg, hr⟩ := h
  exact ⟨hB, ⟨hok, hB, blk_lt hg⟩, v, hg, Kd.R_mono (Kd.R_bound hr) (fun k h => ⟨⟨h.1.1, h.2.1, h.2.2.1⟩, h.1.2⟩)⟩
theorem LogAt.kept (h : LogAt W B ok q g rs torn) (hk : Kept W W' S) (hne : ∀ k, ok k → ¬ S k) : LogAt W' B ok q g rs torn := by
  obtain ⟨hB, hok, v, hg, hr⟩ := h
  exact ⟨hB, hok, v, blk_kept hg hk (hne q hok), Kd.R_kept hr hk (fun k h => hne k h.1)⟩
theorem LogAt.lower {B' : Nat} (h : LogAt W B ok q g rs torn) (hb : B' ≤ B) : LogAt W B' ok q g rs torn := by
  obtain ⟨hB, hok, v, hg, hr⟩ := h
  exact ⟨Nat.le_trans hb hB, hok, v, hg, Kd.R_lower hr hb⟩
end

/-- The record at a place: from where to where it lies. -/
def recAt (b : List Int) (a : Nat) : Option (Nat × Nat) :=
  match gat (a : Int) (gn 65536 0 0 (b.drop a)) with
  | (n, nx, none) => if n = 0 ∨ (b.length : Int) - nx < n then none else some (nx.toNat, (nx + n).toNat)
  | (_, _, some _) => none

theorem recAt_some {b : List Int} {a s t : Nat} (hb : bytesOk b) (ha : a ≤ b.length) (h : recAt b a = some (s, t)) : a < s ∧ s < t ∧ t ≤ b.length ∧ t ≤ s + 65536 ∧ ∃ n : Nat, gat (a : Int) (gn 65536 0 0 (b.drop a)) = ((n : Int), (s : Int), none) ∧ t = s + n ∧ b = b.take a ++ (enc n ++ b.drop s) ∧ s = a + (enc n).length := by
  unfold recAt at h
  generalize hq : gat (a : Int) (gn 65536 0 0 (b.drop a)) = q at h
  obtain ⟨n, nx, er⟩ := q
  cases er with
  | some _ => simp at h
  | none =>
    have hq0 := hq
    unfold gat at hq
    generalize hr : gn 65536 0 0 (b.drop a) = r at hq
    obtain ⟨r1, r2, r3⟩ := r
    cases r3 with
    | some _ => simp at hq
    | none =>
      simp only [Option.isNone_none, if_true, Prod.mk.injEq, and_true] at hq
      obtain ⟨rfl, rfl⟩ := hq
      obtain ⟨_, m, h1, h2, h3, h4, h5, post, h6⟩ := gn_back 65536 (b.drop a) 0 0 r1 r2 (fun x hx => hb x (List.mem_of_mem_drop hx)) hr
      simp only [Int.pow_zero, Int.mul_one, Int.zero_add] at h1
      have hp := enc_pos m
      have hlen : b.length = a + (enc m).length + post.length := by
        have := congrArg List.length h6
        rw [List.length_drop, List.length_append] at this
        omega
      simp only at h
      by_cases hc : r1 = 0 ∨ (b.length : Int) - ((a : Int) + r2) < r1
      · rw [if_pos hc] at h; cases h
      · rw [if_neg hc] at h
        injection h with h
        injection h with e1 e2
        have e3 : s = a + (enc m).length := by omega
        refine ⟨by omega, by omega, by omega, by omega, m, ?_, by omega, ?_, e3⟩
        · congr 1; congr 1; omega
        · have : b.drop s = post := by
            rw [e3, ← List.drop_drop, h6, List.drop_left]
          rw [this, ← h6, List.take_append_drop]

theorem gat_ok {b : List Int} {a : Nat} {n nx : Int} (hb : bytesOk b) (ha : a ≤ b.length) (h : gat (a : Int) (gn 65536 0 0 (b.drop a)) = (n, nx, none)) : 0 ≤ n ∧ n ≤ 65536 ∧ (a : Int) < nx ∧ nx ≤ b.length := by
  unfold gat at h
  generalize hr : gn 65536 0 0 (b.drop a) = r at h
  obtain ⟨r1, r2, r3⟩ := r
  cases r3 with
  | some _ => simp at h
  | none =>
    simp only [Option.isNone_none, if_true, Prod.mk.injEq, and_true] at h
    obtain ⟨rfl, rfl⟩ := h
    obtain ⟨_, m, h1, h2, h3, h4, h5, post, h6⟩ := gn_back 65536 (b.drop a) 0 0 r1 r2 (fun x hx => hb x (List.mem_of_mem_drop hx)) hr
    simp only [Int.pow_zero, Int.mul_one, Int.zero_add] at h1
    have hp := enc_pos m
    have hlen : b.length = a + (enc m).length + post.length := by
      have := congrArg List.length h6
      rw [List.length_drop, List.length_append] at this
      omega
    omega
theorem wr_id {v : Int} (h0 : 0 ≤ v) (h1 : v ≤ 4000000) : wrap64 v = v := by unfold wrap64; omega

/-- What is scanned from a place on. -/
def scan (b : List Int) (a : Nat) : List (List Int) × Nat :=
  match recAt b a with
  | none => ([], a)
  | some (s, t) => if h : a < t ∧ t ≤ b.length then ((b.take t).drop s :: (scan b t).1, (scan b t).2) else ([], a)
termination_by b.length - a
decreasing_by all_goals omega
theorem scan_none {b : List Int} {a : Nat} (h : recAt b a = none) : scan b a = ([], a) := by rw [scan, h]
theorem scan_some {b : List Int} {a s t : Nat} (hb : bytesOk b) (ha : a ≤ b.length) (h : recAt b a = some (s, t)) : scan b a = ((b.take t).drop s :: (scan b t).1, (scan b t).2) := by
  have := recAt_some hb ha h
  rw [scan, h]
  simp only
  rw [dif_pos ⟨by omega, by omega⟩]

theorem cut_mid {P : Program} (t e : TypeId) {i : TypeInfo} (hu : P.underlying t = some (.slice e)) (hi : P.info? e = some i) (hsz : i.size = 1) (A : Option Addr) (n c a b : Nat) (h1 : a ≤ b) (h2 : b ≤ n) (h3 : n ≤ c) (W : World) :
    (Instr.slice t (.slice A n c) (some (.int .i64 (a : Int))) (some (.int .i64 (b : Int))) none).run P W = .ok (.slice (if c = a then A else A.map (·.add (a * 1))) (b - a) (c - a)) W := by
  have hel : P.elem t = e := by simp [Program.elem, hu]
  have hu' : P.underlying t = some (.slice (P.elem t)) := by rw [hel]; exact hu
  rw [run_slice_lh W t A n c hu' .i64 .i64 (a : Int) (b : Int) (by omega) (by omega) (by omega), hel]
  simp [sizeOf, typeInfo, hi, hsz, sliced, Result.andThen]

/-- What record tells. -/
def RecR (w : World) (B : Nat) (ok : Nat → Prop) (b : List Int) (a : Nat) (v u : Value) : Prop :=
  match recAt b a with
  | none => v = .slice none 0 0 ∧ u = .int .i64 (a : Int)
  | some (s, t) => (∃ g o n c, v = .slice (some ⟨g, o, none⟩) n c) ∧ u = .int .i64 (t : Int) ∧ Kd.Q (Kd.int .u8) 5 w B ok v ((b.take t).drop s)

set_option maxHeartbeats 4000000 in
theorem record_calls (w : World) (B : Nat) (ok : Nat → Prop) (A : Option Addr) (c : Nat) (b : List Int) (hr : Kd.R (Kd.int .u8) 5 w B ok (.slice A b.length c) b) (hb : bytesOk b) (hl : b.length ≤ 2000000) (a : Nat) (ha : a ≤ b.length) :
    Calls Try.prog 46 #[.slice A b.length c, .int .i64 (a : Int)] w fun e w' => ∃ v u, e = .returned (.tuple #[v, u]) ∧ Drawn0 w w' ∧ RecR w' B ok b a v u := by
  have hC := (Kd.R_reads' hr).2.2
  have hc := (Kd.R_reads' hr).2.1
  have hf := getnum_f b a 65536 hb ha (by omega) (2 * b.length + 4) (by omega)
  have HR := Lib.hid hr
  have HC := Lib.hid hC
  have HF := Lib.hid hf
  clear hr hC hf
  unfold RecR
  have HD := Lib.hid hb
  generalize hg : gat (a : Int) (gn 65536 0 0 (b.drop a)) = g at HF
  obtain ⟨n, nx, er⟩ := g
  cases hq : recAt b a with
  | none =>
    have hn : er ≠ none → True := fun _ => trivial
    unfold recAt at hq
    rw [hg] at hq
    cases er with
    | some z =>
      clear hq hn hb
      go_enter Try.func46, Try.ntmps46
      go_wp2_with (go_at_call 61; refine (wire_GetNum.calls _ A c b _ _ _ _ _ _ HC.out hc HF.out).mono ?_; rintro e w' ⟨rfl, hd⟩; have HDr := Lib.hid hd; clear hd; rw [errW_some])
      go_ret2
      exact ⟨_, _, rfl, HDr.out, rfl, rfl⟩
    | none =>
      obtain ⟨k1, k2, k3, k4⟩ := gat_ok hb ha hg
      simp only at hq
      have hcond : n = 0 ∨ (b.length : Int) - nx < n := by
        by_cases hc : n = 0 ∨ (b.length : Int) - nx < n
        · exact hc
        · rw [if_neg hc] at hq; cases hq
      have hv : wrap64 n = n := wr_id k1 (by omega)
      have hw : wrap64 ((b.length : Int) - nx) = (b.length : Int) - nx := wr_id (by omega) (by omega)
      clear hq hn hb
      go_enter Try.func46, Try.ntmps46
      by_cases h0 : n = 0
      · clear hcond hv hw
        go_wp2_with (go_at_call 61; refine (wire_GetNum.calls _ A c b _ _ _ _ _ _ HC.out hc HF.out).mono ?_; rintro e w' ⟨rfl, hd⟩; have HDr := Lib.hid hd; clear hd; rw [errW_none])
        go_ret2
        exact ⟨_, _, rfl, HDr.out, rfl, rfl⟩
      · have h1 : (b.length : Int) - nx < n := hcond.resolve_left h0
        clear hcond
        go_wp2_with (go_at_call 61; refine (wire_GetNum.calls _ A c b _ _ _ _ _ _ HC.out hc HF.out).mono ?_; rintro e w' ⟨rfl, hd⟩; have HDr := Lib.hid hd; clear hd; rw [errW_none])
        go_ret2
        exact ⟨_, _, rfl, HDr.out, rfl, rfl⟩
  | some st =>
    obtain ⟨s, t⟩ := st
    obtain ⟨h1, h2, h3, h4, n', h5, h6, h7, h8⟩ := recAt_some hb ha hq
    rw [hg] at h5
    injection h5 with e1 e2
    injection e2 with e2 e3
    subst e1 e2 e3
    have hv : wrap64 (n' : Int) = (n' : Int) := wr_id (by omega) (by omega)
    have hw : wrap64 ((b.length : Int) - (s : Int)) = (b.length : Int) - (s : Int) := wr_id (by omega) (by omega)
    have hx : wrap64 ((s : Int) + (n' : Int)) = (t : Int) := by rw [h6, wr_id (by omega) (by omega)]; omega
    have h0 : ¬ (n' : Int) = 0 := by omega
    have hgt : ¬ (b.length : Int) - (s : Int) < (n' : Int) := by omega
    have hQ : Kd.Q (Kd.int .u8) 5 w B ok (.slice (A.map (·.add s)) (s + n' - s) (c - s)) ((b.take t).drop s) := by
      have := Kd.Q_drop (k := s) (Kd.Q_take (Kd.Q_of_R HR.out) h3) (by rw [List.length_take]; omega)
      rw [if_neg (by omega), show (Kd.int IntKind.u8).sz = 1 from rfl, Nat.mul_one, h6] at this
      rw [h6]
      exact this
    have ht : (s : Int) + (n' : Int) = (t : Int) := by omega
    have hd0 : ((n' : Int) == 0) = false := by simpa using h0
    have hd1 : decide ((b.length : Int) - (s : Int) < (n' : Int)) = false := decide_eq_false hgt
    have hpos : 0 < b.length := by omega
    have HQ := Lib.hid hQ
    have H6 := Lib.hid (And.intro h2 (And.intro h3 hc))
    have HT := Lib.hid ht
    clear hQ hq h8 h7 h6 h4 h3 h2 h1 hb ht
    go_enter Try.func46, Try.ntmps46
    go_wp2_with (go_at_call 61; refine (wire_GetNum.calls _ A c b _ _ _ _ _ _ HC.out hc HF.out).mono ?_; rintro e w' ⟨rfl, hd⟩; have HDr := Lib.hid hd; clear hd; rw [errW_none])
    go_ret2
    obtain ⟨m, rfl⟩ := HDr.out
    refine ⟨.slice (A.map (·.add s)) (s + n' - s) (c - s), .int .i64 ((s : Int) + (n' : Int)), rfl, ⟨m, rfl⟩, ?_, by rw [HT.out], Kd.Q_drewN HQ.out m⟩
    obtain ⟨g, o, cap, hv, _⟩ := Kd.Q_form HQ.out (by have := H6.out; rw [List.length_drop, List.length_take]; omega)
    exact ⟨g, o, _, cap, hv⟩
end Go.Proofs.Ytbnhoacchibbnaa.Log
