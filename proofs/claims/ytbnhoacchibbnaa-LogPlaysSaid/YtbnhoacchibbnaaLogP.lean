/-
  What a tape's bytes hold, in plain lists. No condition is added.
-/
import Derived.Test.YtbnhoacchibbnaaLog1
namespace Go.Proofs.Ytbnhoacchibbnaa.Log
open Go.RowKit Go.Proofs.Ytbnhoacchibbnaa.Lw Go.Proofs.Ytbnhoacchibbnaa.Tape Go.Proofs.YtbnhoacchibbnaaW.PrintWords Go.Proofs.YtbnhoacchibbnaaW.PrintLast Go.Proofs.YtbnhoacchibbnaaW.PrintMore
set_option linter.unusedVariables false
set_option linter.unusedSimpArgs false
/-- A record as it stands on a tape. -/
def frame (m : List Int) : List Int := enc m.length ++ m
def frames : List (List Int) → List Int
  | [] => []
  | m :: ms => frame m ++ frames ms
def recOk (m : List Int) : Prop := 1 ≤ m.length ∧ m.length ≤ 65536

theorem frames_append (a b : List (List Int)) : frames (a ++ b) = frames a ++ frames b := by
  induction a with
  | nil => rfl
  | cons m ms ih => simp only [List.cons_append, frames, ih, List.append_assoc]
theorem frames_one (a : List (List Int)) (m : List Int) : frames (a ++ [m]) = frames a ++ frame m := by
  rw [frames_append]; simp [frames]
theorem frame_len (m : List Int) : (frame m).length = (enc m.length).length + m.length := by simp [frame]

theorem recAt_frame (p m q : List Int) (hm : recOk m) : recAt (p ++ (frame m ++ q)) p.length = some (p.length + (enc m.length).length, p.length + (enc m.length).length + m.length) := by
  obtain ⟨h1, h2⟩ := hm
  unfold recAt frame
  rw [List.drop_left, List.append_assoc, gn_written m.length (by omega) 65536 (by omega)]
  simp only [gat, Option.isNone_none, if_true]
  rw [if_neg (by simp only [List.length_append]; omega)]
  have e1 : ((p.length : Int) + ((enc m.length).length : Int)).toNat = p.length + (enc m.length).length := by omega
  have e2 : ((p.length : Int) + ((enc m.length).length : Int) + (m.length : Int)).toNat = p.length + (enc m.length).length + m.length := by omega
  rw [e1, e2]

theorem scan_frame (p m q : List Int) (hm : recOk m) : scan (p ++ (frame m ++ q)) p.length = (m :: (scan (p ++ (frame m ++ q)) (p.length + (frame m).length)).1, (scan (p ++ (frame m ++ q)) (p.length + (frame m).length)).2) := by
  have e : p.length + (enc m.length).length + m.length = p.length + (frame m).length := by rw [frame_len]; omega
  have ht : (p ++ (frame m ++ q)).take (p.length + (frame m).length) = p ++ frame m := by
    rw [← List.append_assoc, List.take_left' (by simp)]
  have hd : (p ++ frame m).drop (p.length + (enc m.length).length) = m := by
    rw [← List.drop_drop, List.drop_left, frame, List.drop_left]
  rw [scan, recAt_frame p m q hm]
  simp only
  rw [dif_pos ⟨by have := hm.1; omega, by simp only [List.length_append, frame_len]; omega⟩, e, ht, hd]

theorem scan_frames : ∀ (rs : List (List Int)) (p q : List Int), (∀ m ∈ rs, recOk m) → scan (p ++ (frames rs ++ q)) p.length = (rs ++ (scan (p ++ (frames rs ++ q)) (p.length + (frames rs).length)).1, (scan (p ++ (frames rs ++ q)) (p.length + (frames rs).length)).2)
  | [], p, q, _ => by simp [frames]
  | m :: ms, p, q, h => by
    have ih := scan_frames ms (p ++ frame m) q (fun x hx => h x (List.mem_cons_of_mem _ hx))
    have e : p ++ (frames (m :: ms) ++ q) = p ++ (frame m ++ (frames ms ++ q)) := by simp [frames, List.append_assoc]
    have e2 : p.length + (frames (m :: ms)).length = (p ++ frame m).length + (frames ms).length := by simp [frames]; omega
    rw [e, scan_frame p m (frames ms ++ q) (h m (List.mem_cons_self ..)), e2]
    have e3 : p ++ (frame m ++ (frames ms ++ q)) = p ++ frame m ++ (frames ms ++ q) := by simp [List.append_assoc]
    rw [e3, ← List.length_append, ih]
    simp

theorem recAt_end (b : List Int) : recAt b b.length = none := by
  unfold recAt
  rw [List.drop_length]
  rfl

theorem recAt_form {p q : List Int} {s t : Nat} (hb : bytesOk (p ++ q)) (h : recAt (p ++ q) p.length = some (s, t)) : ∃ m q', recOk m ∧ q = frame m ++ q' := by
  obtain ⟨h1, h2, h3, h4, n, _, h6, h7, h8⟩ := recAt_some hb (by simp) h
  rw [List.take_left] at h7
  have h9 := List.append_cancel_left h7
  have hl : ((p ++ q).drop s).length = p.length + q.length - s := by simp
  have h3' : t ≤ p.length + q.length := by simpa using h3
  refine ⟨((p ++ q).drop s).take n, ((p ++ q).drop s).drop n, ⟨by rw [List.length_take, hl]; omega, by rw [List.length_take]; omega⟩, ?_⟩
  have hn : (((p ++ q).drop s).take n).length = n := by rw [List.length_take, hl]; omega
  rw [frame, hn, List.append_assoc, List.take_append_drop]
  exact h9

theorem scan_form (n : Nat) : ∀ (p q : List Int), q.length ≤ n → bytesOk (p ++ q) → ∃ rs q', (∀ m ∈ rs, recOk m) ∧ q = frames rs ++ q' ∧ scan (p ++ q) p.length = (rs, p.length + (frames rs).length) := by
  induction n with
  | zero =>
    intro p q hn hb
    obtain rfl : q = [] := List.length_eq_zero_iff.1 (by omega)
    refine ⟨[], [], by simp, rfl, ?_⟩
    rw [List.append_nil, scan_none (recAt_end p)]
    rfl
  | succ n ih =>
    intro p q hn hb
    cases h : recAt (p ++ q) p.length with
    | none => exact ⟨[], q, by simp, rfl, by rw [scan_none h]; rfl⟩
    | some st =>
      obtain ⟨s, t⟩ := st
      obtain ⟨m, q', hm, rfl⟩ := recAt_form hb h
      have hp := enc_pos m.length
      obtain ⟨rs, q'', h1, rfl, h3⟩ := ih (p ++ frame m) q' (by rw [List.length_append, frame_len] at hn; omega) (by rw [List.append_assoc]; exact hb)
      refine ⟨m :: rs, q'', fun x hx => (List.mem_cons.1 hx).elim (fun e => e ▸ hm) (h1 x), by simp [frames, List.append_assoc], ?_⟩
      rw [scan_frame p m _ hm]
      rw [List.append_assoc, List.length_append] at h3
      rw [h3]
      simp [frames]; omega

/-- What is whole, scanned again. -/
theorem scan_whole (rs : List (List Int)) (h : ∀ m ∈ rs, recOk m) : scan (frames rs) 0 = (rs, (frames rs).length) := by
  have := scan_frames rs [] [] h
  rw [List.nil_append, List.append_nil, List.length_nil, Nat.zero_add, scan_none (recAt_end _)] at this
  rw [this]; simp

theorem scan_take {b : List Int} (hb : bytesOk b) : scan (b.take (scan b 0).2) 0 = scan b 0 ∧ (scan b 0).2 ≤ b.length := by
  obtain ⟨rs, q, h1, h2, h3⟩ := scan_form b.length [] b (Nat.le_refl _) hb
  rw [List.nil_append, List.length_nil, Nat.zero_add] at h3
  have e : b.take (scan b 0).2 = frames rs := by rw [h3]; simp only; rw [h2, List.take_left]
  refine ⟨?_, ?_⟩
  · rw [e, h3, scan_whole rs h1]
  · rw [h3, h2]; simp

theorem recAt_cut (p m : List Int) (k : Nat) (hm : recOk m) (hk : k < (frame m).length) (hb : bytesOk (p ++ frame m)) : recAt (p ++ (frame m).take k) p.length = none := by
  cases h : recAt (p ++ (frame m).take k) p.length with
  | none => rfl
  | some st =>
    exfalso
    obtain ⟨s, t⟩ := st
    have hb' : bytesOk (p ++ (frame m).take k) := fun x hx => hb x (by
      rcases List.mem_append.1 hx with hx | hx
      · exact List.mem_append_left _ hx
      · exact List.mem_append_right _ (List.mem_of_mem_take hx))
    obtain ⟨m', q, hm', hq⟩ := recAt_form hb' h
    have e : frame m = enc m'.length ++ (m' ++ (q ++ (frame m).drop k)) := by
      rw [← List.append_assoc, ← List.append_assoc]
      have : enc m'.length ++ m' ++ q = (frame m).take k := by rw [hq, frame]
      rw [this, List.take_append_drop]
    have g1 := gn_written m'.length (by have := hm'.2; omega) 65536 (by have := hm'.2; omega) (m' ++ (q ++ (frame m).drop k))
    have g2 := gn_written m.length (by have := hm.2; omega) 65536 (by have := hm.2; omega) m
    rw [← e] at g1
    rw [show frame m = enc m.length ++ m from rfl, g2] at g1
    injection g1 with g1 _
    have g3 : m.length = m'.length := by omega
    have := congrArg List.length hq
    rw [List.length_take, Nat.min_eq_left (Nat.le_of_lt hk), List.length_append, frame_len] at this
    rw [frame_len, g3] at hk
    omega

theorem bytes_frames (rs : List (List Int)) (h0 : ∀ m ∈ rs, recOk m) (h : ∀ m ∈ rs, bytesOk m) : bytesOk (frames rs) := by
  induction rs with
  | nil => intro x hx; cases hx
  | cons m ms ih =>
    intro x hx
    rcases List.mem_append.1 hx with hx | hx
    · rcases List.mem_append.1 hx with hx | hx
      · exact enc_bytes 9 m.length (pow70 (by have := (h0 m (List.mem_cons_self ..)).2; omega)) x hx
      · exact h m (List.mem_cons_self ..) x hx
    · exact ih (fun y hy => h0 y (List.mem_cons_of_mem _ hy)) (fun y hy => h y (List.mem_cons_of_mem _ hy)) x hx

theorem scan_torn (rs : List (List Int)) (m : List Int) (k : Nat) (h : ∀ r ∈ rs, recOk r) (hm : recOk m) (hb : ∀ r ∈ rs, bytesOk r) (hbm : bytesOk m) :
    scan (frames rs ++ (frame m).take k) 0 = if k < (frame m).length then (rs, (frames rs).length) else (rs ++ [m], (frames (rs ++ [m])).length) := by
  split
  · rename_i hk
    have := scan_frames rs [] ((frame m).take k) h
    rw [List.nil_append, List.length_nil, Nat.zero_add, scan_none (recAt_cut (frames rs) m k hm hk (by
      rw [← frames_one]
      exact bytes_frames _ (fun r hr => (List.mem_append.1 hr).elim (h r) (fun h => (List.mem_singleton.1 h) ▸ hm)) (fun r hr => (List.mem_append.1 hr).elim (hb r) (fun h => (List.mem_singleton.1 h) ▸ hbm))))] at this
    rw [this]; simp
  · rename_i hk
    rw [List.take_of_length_le (by omega), ← frames_one]
    exact scan_whole _ (fun r hr => (List.mem_append.1 hr).elim (h r) (fun h => (List.mem_singleton.1 h) ▸ hm))
end Go.Proofs.Ytbnhoacchibbnaa.Log
