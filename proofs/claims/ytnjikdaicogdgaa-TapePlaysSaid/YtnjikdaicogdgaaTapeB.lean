import Derived.Test.YtnjikdaicogdgaaTapeFns
namespace Go.Proofs.Ytnjikdaicogdgaa.Tape
open Go.RowKit Go.Proofs.Ytnjikdaicogdgaa.La Go.Proofs.YtnjikdaicogdgaaW.PrintWords Go.Proofs.YtnjikdaicogdgaaW.PrintLast Go.Proofs.YtnjikdaicogdgaaW.PrintMore
attribute [local go_sem] eqlErr neqErr eqlErrNil neqErrNil
set_option linter.unusedVariables false
/-- A literal's row, as it is read. -/
theorem lit_C (W : World) (cs : List Int) (h : cs.length ≤ 9223372036854775807) : Kd.C (Kd.int .u8) (W.alloc (.cells (cs.map (Value.int .u8)).toArray 5)) (some ⟨W.heap.size, 0, none⟩) cs.length cs := by
  refine ⟨rfl, h, fun _ => ⟨_, rfl, fun j p hj => ⟨[.int .u8 p], rfl, rfl, fun i u hi => ?_⟩⟩⟩
  have hi0 : i = 0 := by
    have := (List.getElem?_eq_some_iff.1 hi).1
    simpa using this
  subst hi0
  have hu : u = .int .u8 p := by simpa using hi.symm
  subst hu
  have := blk_cell (blk_new W (.cells (cs.map (Value.int .u8)).toArray 5)) j
  show (W.alloc _).cell? ((⟨W.heap.size, 0, none⟩ : Addr).add (j * 1 + 0)) = _
  rw [Addr.add_lit, Nat.mul_one, Nat.add_zero, Nat.zero_add, this]
  simp [hj]

theorem TapeTo.tape {w w' : World} {B : Nat} {ok : Nat → Prop} {g : Nat} {l : List Int} {s : Nat} (h : TapeTo w w' B ok g l s) : TapeAt w' B (fun _ => True) g l s := h.1.mono (fun _ _ => trivial)

/-- A tape at the first block behind w0, and all that was there as it was. -/
def TS (w0 W : World) (l : List Int) (s : Nat) : Prop := TapeAt W w0.heap.size (fun _ => True) w0.heap.size l s ∧ Below w0.heap.size w0 W

theorem TS.below {w0 W W' : World} {l : List Int} {s : Nat} (h : TS w0 W l s) (hb : Below W.heap.size W W') : TS w0 W' l s := ⟨h.1.below hb, h.2.trans (hb.mono h.2.size)⟩
theorem TS.alloc {w0 W : World} {l : List Int} {s : Nat} (h : TS w0 W l s) (m : Obj) : TS w0 (W.alloc m) l s := h.below ((Below.refl _ W).alloc (Nat.le_refl _) _)
theorem TS.drew {w0 W : World} {l : List Int} {s : Nat} (h : TS w0 W l s) : TS w0 W.drew l s := h.below (Below.refl _ W).drew
theorem TS.to {w0 W W' : World} {l l' : List Int} {s s' : Nat} (h : TS w0 W l s) (ht : TapeTo W W' w0.heap.size (fun _ => True) w0.heap.size l' s') : TS w0 W' l' s' := ⟨ht.tape, h.2.trans ht.2.2⟩
theorem TS.len {w0 W : World} {l : List Int} {s : Nat} (h : TS w0 W l s) : s ≤ l.length ∧ l.length ≤ 1048576 := ⟨h.1.2.2.1, h.1.2.2.2.1⟩

theorem ts_New (w : World) : Calls Try.prog 16 #[] w fun e w' => e = .returned (.pointer (some ⟨w.heap.size, 0, none⟩)) ∧ TS w w' [] 0 := by
  refine (tape_New _).mono ?_
  rintro e w1 ⟨rfl, ht, hb⟩
  exact ⟨rfl, ht.mono (fun _ _ => trivial), hb⟩

theorem ts_Sync (w0 W : World) (l : List Int) (s : Nat) (h : TS w0 W l s) : Calls Try.prog 20 #[.pointer (some ⟨w0.heap.size, 0, none⟩)] W fun e w' => e = .returned (.tuple #[]) ∧ TS w0 w' l l.length := by
  refine (tape_Sync _ _ _ _ _ _ h.1).mono ?_
  rintro e w1 ⟨rfl, ht⟩
  exact ⟨rfl, h.to ht⟩

theorem ts_Synced (w0 W : World) (l : List Int) (s : Nat) (h : TS w0 W l s) : Calls Try.prog 22 #[.pointer (some ⟨w0.heap.size, 0, none⟩)] W fun e w' => e = .returned (.int .i64 (s : Int)) ∧ W = w' := tape_Synced _ _ _ _ _ _ h.1

theorem ts_Crash (w0 W : World) (l : List Int) (s : Nat) (h : TS w0 W l s) (n : Int) (hn : n ≤ 9223372036854775807) : Calls Try.prog 21 #[.pointer (some ⟨w0.heap.size, 0, none⟩), .int .i64 n] W fun e w' => e = .returned (.tuple #[]) ∧ TS w0 w' (l.take (crashLeft l.length s n)) (crashLeft l.length s n) := by
  refine (tape_Crash _ _ _ _ _ _ h.1 n hn).mono ?_
  rintro e w1 ⟨rfl, ht⟩
  exact ⟨rfl, h.to ht⟩

theorem ts_Append (w0 W : World) (l : List Int) (s : Nat) (h : TS w0 W l s) (A0 : Option Addr) (c0 n0 : Nat) (m : List Int) (hn : n0 = m.length) (hm : Kd.C (Kd.int .u8) W A0 m.length m) (hfit : l.length + m.length ≤ 1048576) :
    Calls Try.prog 18 #[.pointer (some ⟨w0.heap.size, 0, none⟩), .slice A0 n0 c0] W fun e w' => e = .returned .nilIface ∧ TS w0 w' (l ++ m) s := by
  subst hn
  refine (tape_Append _ _ _ _ _ _ h.1 h.2.size A0 c0 m hm hfit).mono ?_
  rintro e w1 ⟨rfl, ht⟩
  exact ⟨rfl, h.to ht⟩

theorem ts_Append_full (w0 W : World) (l : List Int) (s : Nat) (h : TS w0 W l s) (A0 : Option Addr) (n0 c0 : Nat) (hbig : 1048576 < l.length + n0) (hn : n0 ≤ 9223372036854775807) :
    Calls Try.prog 18 #[.pointer (some ⟨w0.heap.size, 0, none⟩), .slice A0 n0 c0] W fun e w' => e = .returned (.iface 30 (.int .i64 5)) ∧ W = w' := by rw [← errW_some]; exact tape_Append_full _ _ _ _ _ _ h.1 A0 n0 c0 hbig hn

theorem ts_Cut_no (w0 W : World) (l : List Int) (s : Nat) (h : TS w0 W l s) (n : Int) (hn : n < 0 ∨ (l.length : Int) < n) :
    Calls Try.prog 26 #[.pointer (some ⟨w0.heap.size, 0, none⟩), .int .i64 n] W fun e w' => e = .returned (.iface 30 (.int .i64 1)) ∧ W = w' := by rw [← errW_some]; exact tape_Cut_no _ _ _ _ _ _ h.1 n hn

theorem ts_Cut (w0 W : World) (l : List Int) (s : Nat) (h : TS w0 W l s) (n : Int) (hn : ¬ n < 0) (hn' : ¬ (l.length : Int) < n) :
    Calls Try.prog 26 #[.pointer (some ⟨w0.heap.size, 0, none⟩), .int .i64 n] W fun e w' => e = .returned .nilIface ∧ TS w0 w' (l.take n.toNat) n.toNat := by
  obtain ⟨k, rfl⟩ : ∃ k : Nat, n = k := ⟨n.toNat, by omega⟩
  refine (tape_Cut _ _ _ _ _ _ h.1 k (by omega)).mono ?_
  rintro e w1 ⟨rfl, ht⟩
  exact ⟨rfl, h.to ht⟩

/-- What Bytes tells is a text, once it is read as one. -/
theorem ts_Bytes (w0 W : World) (l : List Int) (s : Nat) (h : TS w0 W l s) : Calls Try.prog 19 #[.pointer (some ⟨w0.heap.size, 0, none⟩)] W fun e w' => ∃ A c, e = .returned (.slice A l.length c) ∧ Kd.R (Kd.int .u8) 5 w' W.heap.size (fun _ => True) (.slice A l.length c) l ∧ TS w0 w' l s ∧ Below W.heap.size W w' := by
  refine (tape_Bytes _ _ _ _ _ _ h.1).mono ?_
  rintro e w1 ⟨v, rfl, hr, hb⟩
  obtain ⟨A, c, rfl⟩ := Kd.R_slice hr
  exact ⟨A, c, rfl, hr, h.below hb, hb⟩

set_option maxHeartbeats 1000000 in
theorem up_calls (w : World) : Calls Try.prog 15 #[] w fun e w' => e = .returned (.bool true) ∧ Below w.heap.size w w' := by
  go_enter Try.func15, Try.ntmps15
  go_wp2_with fail
  refine (ts_New _).mono ?_
  rintro e w1 ⟨rfl, ht⟩
  have HT := Lib.hid ht
  clear ht
  go_wp2_with fail
  refine (ts_Append w _ [] 0 (HT.out.alloc _) _ 2 _ [1, 2] rfl (lit_C w1 [1, 2] (by simp)) (by simp)).mono ?_
  rintro e w2 ⟨rfl, ht⟩
  have HT2 := Lib.hid ht
  clear ht HT
  go_wp2_with fail
  refine (ts_Sync w _ _ _ HT2.out).mono ?_
  rintro e w3 ⟨rfl, ht⟩
  have HT3 := Lib.hid ht
  clear ht HT2
  go_wp2_with fail
  refine (ts_Append w _ _ _ (HT3.out.alloc _) _ 2 _ [3, 4] rfl (lit_C w3 [3, 4] (by simp)) (by simp)).mono ?_
  rintro e w4 ⟨rfl, ht⟩
  have HT4 := Lib.hid ht
  clear ht HT3
  go_wp2_with fail
  refine (ts_Crash w _ _ _ HT4.out 1 (by omega)).mono ?_
  rintro e w5 ⟨rfl, ht⟩
  have HT5 : Hid (TS w w5 [1, 2, 3] 3) := Lib.hid ht
  clear ht HT4
  go_wp2_with fail
  refine (ts_Bytes w _ _ _ HT5.out).mono ?_
  rintro e w6 ⟨A, c, rfl, hr, ht, hb⟩
  have HT6 := Lib.hid ht
  have hcv := own_string (P := Try.prog) Try.underlying29 Try.underlying5 Try.underlying9 (Kd.own_of_R hr)
  rw [show strOfNums [1, 2, 3] = ({ data := #[1, 2, 3] } : ByteArray) from by decide] at hcv
  simp only [List.length_cons, List.length_nil, Nat.zero_add, Nat.reduceAdd] at hcv
  clear hr ht hb HT5
  go_wp2_with fail
  refine (ts_Synced w _ _ _ HT6.out).mono ?_
  rintro e w7 ⟨rfl, rfl⟩
  go_wp2
  go_ret
  exact ⟨rfl, HT6.out.2⟩
end Go.Proofs.Ytnjikdaicogdgaa.Tape
