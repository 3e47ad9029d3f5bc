/-
  A log and its tape, together. No condition is added.
-/
import Derived.Test.YtbnhoacchibbnaaLog5
namespace Go.Proofs.Ytbnhoacchibbnaa.Log
open Go.RowKit Go.Proofs.Ytbnhoacchibbnaa.Lw Go.Proofs.Ytbnhoacchibbnaa.Tape Go.Proofs.YtbnhoacchibbnaaW.PrintWords Go.Proofs.YtbnhoacchibbnaaW.PrintLast Go.Proofs.YtbnhoacchibbnaaW.PrintMore
attribute [local go_sem] eqlErr neqErr eqlErrNil neqErrNil
set_option linter.unusedVariables false
set_option linter.unusedSimpArgs false
/-- A log and its tape, apart from each other and from N. -/
def XT (W : World) (B : Nat) (N : Nat → Prop) (q g : Nat) (rs : List (List Int)) (torn : Bool) (l : List Int) (s : Nat) : Prop :=
  ∃ okL okT : Nat → Prop, LogAt W B okL q g rs torn ∧ TapeAt W B okT g l s ∧ (∀ k, okL k → ¬ okT k) ∧ (∀ k, N k → ¬ okL k ∧ ¬ okT k)
theorem XT.below {W W' : World} {B q g s : Nat} {N : Nat → Prop} {rs : List (List Int)} {torn : Bool} {l : List Int} (h : XT W B N q g rs torn l s) (hb : Below W.heap.size W W') : XT W' B N q g rs torn l s := by
  obtain ⟨okL, okT, h1, h2, h3, h4⟩ := h
  exact ⟨okL, okT, h1.below hb, h2.below hb, h3, h4⟩
theorem XT.less {W : World} {B q g s : Nat} {N N' : Nat → Prop} {rs : List (List Int)} {torn : Bool} {l : List Int} (h : XT W B N q g rs torn l s) (hn : ∀ k, N' k → N k) : XT W B N' q g rs torn l s := by
  obtain ⟨okL, okT, h1, h2, h3, h4⟩ := h
  exact ⟨okL, okT, h1, h2, h3, fun k hk => h4 k (hn k hk)⟩
/-- What is new is apart, too. -/
theorem XT.more {W : World} {B q g s : Nat} {N : Nat → Prop} {rs : List (List Int)} {torn : Bool} {l : List Int} (h : XT W B N q g rs torn l s) : XT W B (fun k => N k ∨ W.heap.size ≤ k) q g rs torn l s := by
  obtain ⟨okL, okT, h1, h2, h3, h4⟩ := h
  refine ⟨_, _, h1.bound, h2.bound, fun k hk hk2 => h3 k hk.1 hk2.1, fun k hk => ?_⟩
  rcases hk with hk | hk
  · exact ⟨fun h5 => (h4 k hk).1 h5.1, fun h5 => (h4 k hk).2 h5.1⟩
  · exact ⟨fun h5 => by have := h5.2.2; omega, fun h5 => by have := h5.2.2; omega⟩
theorem XT.kept {W W' : World} {B q g s : Nat} {N S : Nat → Prop} {rs : List (List Int)} {torn : Bool} {l : List Int} (h : XT W B N q g rs torn l s) (hk : Kept W W' S) (hS : ∀ k, S k → N k) : XT W' B N q g rs torn l s := by
  obtain ⟨okL, okT, h1, h2, h3, h4⟩ := h
  exact ⟨okL, okT, h1.kept hk (fun k a b => (h4 k (hS k b)).1 a), h2.kept hk (fun k a b => (h4 k (hS k b)).2 a), h3, h4⟩
theorem XT.q_le {W : World} {B q g s : Nat} {N : Nat → Prop} {rs : List (List Int)} {torn : Bool} {l : List Int} (h : XT W B N q g rs torn l s) : s ≤ l.length ∧ l.length ≤ 1048576 := by
  obtain ⟨okL, okT, h1, h2, h3, h4⟩ := h
  exact ⟨h2.2.2.1, h2.2.2.2.1⟩

theorem xt_to {w w' : World} {B q g : Nat} {N okL okT : Nat → Prop} {rs : List (List Int)} {torn : Bool} {l : List Int} {s : Nat} (h4 : ∀ k, N k → ¬ okL k ∧ ¬ okT k) (h : LogTo w w' B q g okL okT rs torn l s) :
    XT w' B (fun k => N k ∧ k < w.heap.size) q g rs torn l s ∧ Kept w w' (fun k => ¬ N k) ∧ Below B w w' := by
  obtain ⟨okL', okT', a, b, c, d, e, f, g'⟩ := h
  refine ⟨⟨okL', okT', a, b, c, fun k hk => ⟨fun h5 => ?_, fun h5 => ?_⟩⟩, f.mono (fun k hk hn => hk.elim (h4 k hn).1 (h4 k hn).2), g'⟩
  · rcases d k h5 with h6 | h6
    · exact (h4 k hk.1).1 h6
    · have := hk.2; omega
  · rcases e k h5 with h6 | h6
    · exact (h4 k hk.1).2 h6
    · have := hk.2; omega

theorem xt_Append (w : World) (B q g : Nat) (N : Nat → Prop) (rs : List (List Int)) (l : List Int) (s : Nat) (h : XT w B N q g rs false l s) (hBw : B ≤ w.heap.size) (hrl : rs.length ≤ 2000000)
    (A0 : Option Addr) (c0 : Nat) (m : List Int) (hm : ∀ w', Kept w w' (fun k => ¬ N k) → Below B w w' → Kd.C (Kd.int .u8) w' A0 m.length m) (hmc : m.length ≤ c0) (h1 : 1 ≤ m.length) (h2 : m.length ≤ 65536) (hfit : l.length + (frame m).length ≤ 1048576) :
    Calls Try.prog 21 #[.pointer (some ⟨q, 0, none⟩), .slice A0 m.length c0] w fun e w' => e = .returned .nilIface ∧ XT w' B (fun k => N k ∧ k < w.heap.size) q g (rs ++ [m]) false (l ++ frame m) (l ++ frame m).length ∧ Kept w w' (fun k => ¬ N k) ∧ Below B w w' := by
  obtain ⟨okL, okT, hL, hT, hne, h4⟩ := h
  refine (log_Append w B q g okL okT rs l s hL hT hne hBw hrl A0 c0 m (fun w' hk hb => hm w' (hk.mono (fun k hk hn => (h4 k hn).2 hk)) hb) hmc h1 h2 hfit).mono ?_
  rintro e w' ⟨rfl, ht⟩
  exact ⟨rfl, xt_to h4 ht⟩

theorem xt_Torn (w : World) (B q g : Nat) (N : Nat → Prop) (rs : List (List Int)) (l : List Int) (s : Nat) (h : XT w B N q g rs false l s) (hBw : B ≤ w.heap.size)
    (A0 : Option Addr) (c0 : Nat) (m : List Int) (hm : Kd.C (Kd.int .u8) w A0 m.length m) (h1 : 1 ≤ m.length) (h2 : m.length ≤ 65536) (hfit : l.length + (frame m).length ≤ 1048576) (n : Int) (hn : n ≤ 9223372036854775807) :
    Calls Try.prog 22 #[.pointer (some ⟨q, 0, none⟩), .slice A0 m.length c0, .int .i64 n] w fun e w' => e = .returned .nilIface ∧ XT w' B (fun k => N k ∧ k < w.heap.size) q g rs true ((l ++ frame m).take (crashLeft (l ++ frame m).length s n)) (crashLeft (l ++ frame m).length s n) ∧ Kept w w' (fun k => ¬ N k) ∧ Below B w w' := by
  obtain ⟨okL, okT, hL, hT, hne, h4⟩ := h
  refine (log_Torn w B q g okL okT rs l s hL hT hne hBw A0 c0 m hm h1 h2 hfit n hn).mono ?_
  rintro e w' ⟨rfl, ht⟩
  exact ⟨rfl, xt_to h4 ht⟩

theorem xt_Append_no (w : World) (B q g : Nat) (N : Nat → Prop) (rs : List (List Int)) (torn : Bool) (l : List Int) (s : Nat) (h : XT w B N q g rs torn l s) (A0 : Option Addr) (n0 c0 : Nat) (r : Int) (hr : (torn = true ∧ r = 6) ∨ (torn = false ∧ (n0 < 1 ∨ 65536 < n0) ∧ r = 1)) :
    Calls Try.prog 21 #[.pointer (some ⟨q, 0, none⟩), .slice A0 n0 c0] w fun e w' => e = .returned (errW (some r)) ∧ w = w' := by
  obtain ⟨okL, okT, hL, hT, hne, h4⟩ := h
  exact log_Append_no w B q g okL rs torn hL A0 n0 c0 r hr
theorem xt_Torn_no (w : World) (B q g : Nat) (N : Nat → Prop) (rs : List (List Int)) (torn : Bool) (l : List Int) (s : Nat) (h : XT w B N q g rs torn l s) (A0 : Option Addr) (n0 c0 : Nat) (n r : Int) (hr : (torn = true ∧ r = 6) ∨ (torn = false ∧ (n0 < 1 ∨ 65536 < n0) ∧ r = 1)) :
    Calls Try.prog 22 #[.pointer (some ⟨q, 0, none⟩), .slice A0 n0 c0, .int .i64 n] w fun e w' => e = .returned (errW (some r)) ∧ w = w' := by
  obtain ⟨okL, okT, hL, hT, hne, h4⟩ := h
  exact log_Torn_no w B q g okL rs torn hL A0 n0 c0 n r hr
theorem xt_Bytes (w : World) (B q g : Nat) (N : Nat → Prop) (rs : List (List Int)) (torn : Bool) (l : List Int) (s : Nat) (h : XT w B N q g rs torn l s) :
    Calls Try.prog 18 #[.pointer (some ⟨g, 0, none⟩)] w fun e w' => ∃ A c, e = .returned (.slice A l.length c) ∧ Kd.R (Kd.int .u8) 5 w' w.heap.size (fun _ => True) (.slice A l.length c) l ∧ Below w.heap.size w w' := by
  obtain ⟨okL, okT, hL, hT, hne, h4⟩ := h
  refine (tape_Bytes _ _ _ _ _ _ hT).mono ?_
  rintro e w1 ⟨v, rfl, hr, hb⟩
  obtain ⟨A, c, rfl⟩ := Kd.R_slice hr
  exact ⟨A, c, rfl, hr, hb⟩
theorem xt_Records (w : World) (B q g : Nat) (N : Nat → Prop) (rs : List (List Int)) (torn : Bool) (l : List Int) (s : Nat) (h : XT w B N q g rs torn l s) (hlen : rs.length ≤ 2000000) (hm : ∀ m ∈ rs, m.length ≤ 100000) :
    Calls Try.prog 20 #[.pointer (some ⟨q, 0, none⟩)] w fun e w' => ∃ A c, e = .returned (.slice A rs.length c) ∧ Kd.R (Kd.slice 5 (Kd.int .u8)) 22 w' w.heap.size (fun _ => True) (.slice A rs.length c) rs ∧ Below w.heap.size w w' := by
  obtain ⟨okL, okT, hL, hT, hne, h4⟩ := h
  exact log_Records w B q g okL rs torn hL hlen hm

/-- Open, with a log that was there before: both stay, apart. -/
theorem xt_Open (w : World) (B q g : Nat) (N : Nat → Prop) (rs : List (List Int)) (torn : Bool) (l : List Int) (s : Nat) (h : XT w B N q g rs torn l s) (hb : bytesOk l) (hB : B ≤ w.heap.size) :
    Calls Try.prog 17 #[.pointer (some ⟨g, 0, none⟩)] w fun e w' => ∃ q2 : Nat, e = .returned (.tuple #[.pointer (some ⟨q2, 0, none⟩), .nilIface]) ∧
      XT w' B (fun k => N k ∧ k < w.heap.size) q2 g (scan l 0).1 false (l.take (scan l 0).2) (scan l 0).2 ∧ XT w' B (fun k => N k ∧ k < w.heap.size) q g rs torn (l.take (scan l 0).2) (scan l 0).2 ∧ Kept w w' (fun k => ¬ N k) ∧ Below B w w' := by
  obtain ⟨okL, okT, hL, hT, hne, h4⟩ := h
  refine (log_Open w B okT g l s hT hb).mono ?_
  rintro e w' ⟨q2, okL2, okT', rfl, hL2, hT2, h1, h2, h3, h5⟩
  refine ⟨q2, rfl, ⟨okL2, okT', hL2.lower hB, hT2, fun k hk => (h1 k hk).1, fun k hk => ⟨fun h6 => ?_, fun h6 => ?_⟩⟩, ⟨fun k => okL k ∧ B ≤ k ∧ k < w.heap.size, okT', hL.bound.kept h3 (fun k hk h6 => hne k hk.1 h6), hT2, fun k hk h6 => ?_, fun k hk => ⟨fun h6 => (h4 k hk.1).1 h6.1, fun h6 => ?_⟩⟩, h3.mono (fun k hk hn => (h4 k hn).2 hk), h5⟩
  · have := (h1 k h6).2; have := hk.2; omega
  · rcases h2 k h6 with h7 | h7
    · exact (h4 k hk.1).2 h7
    · have := hk.2; omega
  · rcases h2 k h6 with h7 | h7
    · exact hne k hk.1 h7
    · have := hk.2.2; omega
  · rcases h2 k h6 with h7 | h7
    · exact (h4 k hk.1).2 h7
    · have := hk.2; omega

/-- The first Open, of a new tape. -/
theorem xt_first (w : World) (B g : Nat) (okT : Nat → Prop) (s : Nat) (h : TapeAt w B okT g [] s) (hB : B ≤ w.heap.size) :
    Calls Try.prog 17 #[.pointer (some ⟨g, 0, none⟩)] w fun e w' => ∃ q : Nat, e = .returned (.tuple #[.pointer (some ⟨q, 0, none⟩), .nilIface]) ∧ XT w' B (fun _ => False) q g [] false [] 0 ∧ Below B w w' := by
  refine (log_Open w B okT g [] s h lit_bytes_nil).mono ?_
  rintro e w' ⟨q, okL, okT', rfl, hL, hT, h1, h2, h3, h5⟩
  rw [show scan [] 0 = ([], 0) from scan_none rfl] at hL hT
  exact ⟨q, rfl, ⟨okL, okT', hL.lower hB, hT, fun k hk => (h1 k hk).1, fun k hk => hk.elim⟩, h5⟩

theorem frames_le (c : Nat) : ∀ ms : List (List Int), (∀ m ∈ ms, m.length ≤ c) → c < 18446744073709551616 → (frames ms).length ≤ (c + 10) * ms.length
  | [], _, _ => by simp [frames]
  | m :: ms, h, hc => by
    have ih := frames_le c ms (fun x hx => h x (List.mem_cons_of_mem _ hx)) hc
    have h1 := h m (List.mem_cons_self ..)
    have h2 := enc_len 9 m.length (pow70 (by omega))
    simp only [frames, List.length_append, frame_len, List.length_cons, Nat.mul_add, Nat.mul_one]
    omega

/-- A slice of slices of bytes that came in. -/
def Recs (W : World) (A : Option Addr) (n : Nat) (rs : List (List Int)) : Prop := Kd.C (Kd.slice 5 (Kd.int .u8)) W A n rs ∧ ∀ m ∈ rs, bytesOk m
theorem rec_get {W0 W : World} {A : Option Addr} {rs : List (List Int)} (h : ReadsRow ((Kd.slice 5 (Kd.int .u8)).K W0) 1 W A rs.length rs) (i : Nat) (hi : i < rs.length) :
    ∃ ad Am cm, A = some ad ∧ rs[i].length ≤ cm ∧ Kd.C (Kd.int .u8) W0 Am rs[i].length rs[i] ∧ W.cell? (ad.add i) = some (.slice Am rs[i].length cm) := by
  obtain ⟨ad, cs, rfl, _, hK, hcell⟩ := ReadsRow.get_ h [] (i : Int) (by omega) (by omega)
  obtain ⟨Am, cm, rfl, hmc, hmC⟩ := (show ∃ A c, cs = [.slice A (rs.getD (i : Int).toNat []).length c] ∧ (rs.getD (i : Int).toNat []).length ≤ c ∧ Kd.C (Kd.int .u8) W0 A (rs.getD (i : Int).toNat []).length (rs.getD (i : Int).toNat []) from hK)
  have hx := hcell 0 _ rfl
  have hget : rs.getD (i : Int).toNat [] = rs[i] := by simp [List.getD, hi]
  rw [hget] at hmc hmC hx
  refine ⟨ad, Am, cm, rfl, hmc, hmC, ?_⟩
  rw [← hx, Int.toNat_natCast, Nat.mul_one, Nat.add_zero]
end Go.Proofs.Ytbnhoacchibbnaa.Log
