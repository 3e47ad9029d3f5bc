/-
  The log's functions, each by its contract: Open without a tape, Records. No condition is added.
-/
import Derived.Test.YtbnhoacchibbnaaLog3
namespace Go.Proofs.Ytbnhoacchibbnaa.Log
open Go.RowKit Go.Proofs.Ytbnhoacchibbnaa.Lw Go.Proofs.Ytbnhoacchibbnaa.Tape Go.Proofs.YtbnhoacchibbnaaW.PrintWords Go.Proofs.YtbnhoacchibbnaaW.PrintLast Go.Proofs.YtbnhoacchibbnaaW.PrintMore
attribute [local go_sem] eqlErr neqErr eqlErrNil neqErrNil
set_option linter.unusedVariables false
set_option linter.unusedSimpArgs false
theorem log_Open_nil (w : World) : Calls Try.prog 17 #[.pointer none] w fun e w' => e = .returned (.tuple #[.pointer none, errW (some 1)]) ∧ w = w' := by
  go_enter Try.func17, Try.ntmps17
  go_wp2
  go_ret2
  exact ⟨rfl, rfl⟩

set_option maxHeartbeats 4000000 in
set_option maxRecDepth 100000 in
theorem log_Records (w : World) (B q g : Nat) (okL : Nat → Prop) (rs : List (List Int)) (torn : Bool) (hL : LogAt w B okL q g rs torn) (hlen : rs.length ≤ 2000000) (hm : ∀ m ∈ rs, m.length ≤ 100000) :
    Calls Try.prog 20 #[.pointer (some ⟨q, 0, none⟩)] w fun e w' => ∃ A c, e = .returned (.slice A rs.length c) ∧ Kd.R (Kd.slice 5 (Kd.int .u8)) 22 w' w.heap.size (fun _ => True) (.slice A rs.length c) rs ∧ Below w.heap.size w w' := by
  obtain ⟨Ar, cr, hbk, hrs, hBq, hq⟩ := hL.open_
  have k1 : w.cell? ⟨q, 1, none⟩ = some (.slice Ar rs.length cr) := (blk_cell hbk 1).trans rfl
  have HR := Lib.hid hrs
  have HLN := Lib.hid hlen
  have HMM := Lib.hid hm
  clear hbk hrs hL hBq hq hlen hm
  go_enter Try.func20, Try.ntmps20
  go_wp2_with fail
  go_loopg [3, 11] rs.length (fun kq v3 v11 w' => ∃ (i : Nat) (xs : List (List Int)) (A : Option Addr) (c : Nat), v3 = .slice A i c ∧ v11 = .int .i64 (i : Int) ∧ Hid (i = rs.length - kq ∧ kq ≤ rs.length ∧ xs = rs.take i ∧ xs.length = i) ∧ Hid (Kd.R (Kd.slice 5 (Kd.int .u8)) 22 w' w.heap.size (fun _ => True) (.slice A i c) xs) ∧ Hid (Below w.heap.size w w'))
  case atStart => exact ⟨0, [], none, 0, rfl, rfl, Lib.hid ⟨by omega, Nat.le_refl _, rfl, rfl⟩, Lib.hid (Kd.R_nil _ _ _ _ _), Lib.hid (Below.refl _ _)⟩
  case round =>
    obtain ⟨i, xs, Ao, co, rfl, rfl, HI, HO, HB⟩ := hrel
    cases gk with
    | zero =>
      have hi : i = rs.length := by have := HI.out; omega
      have hd : decide ((i : Int) < (rs.length : Int)) = false := decide_eq_false (by omega)
      go_wp2
      go_ret
      have hx := HI.out.2.2.1
      rw [hi, List.take_length] at hx
      subst hx
      rw [hi] at HO
      rw [hi]
      exact ⟨_, _, rfl, HO.out, HB.out⟩
    | succ k1' =>
      have hi1 : i < rs.length := by have := HI.out; omega
      have hd : decide ((i : Int) < (rs.length : Int)) = true := decide_eq_true (by omega)
      have hRr := (Kd.R_reads' (Kd.R_below HR.out HB.out)).2.2
      obtain ⟨ad, cs, rfl, _, hK, hcell⟩ := Kd.C_get hRr [] (i : Int) (by omega) (by omega)
      obtain ⟨Am, cm, rfl, hmc, hmC⟩ := (show ∃ A c, cs = [.slice A (rs.getD (i : Int).toNat []).length c] ∧ (rs.getD (i : Int).toNat []).length ≤ c ∧ Kd.C (Kd.int .u8) wr A (rs.getD (i : Int).toNat []).length (rs.getD (i : Int).toNat []) from hK)
      have hx := hcell 0 _ rfl
      have hget : rs.getD (i : Int).toNat [] = rs[i] := by simp [List.getD, hi1]
      rw [hget] at hmc hmC hx
      have hmem : rs[i] ∈ rs := List.getElem_mem hi1
      have htk : rs.take (i + 1) = rs.take i ++ [rs[i]] := (List.take_append_getElem hi1).symm
      generalize rs[i] = m at hmc hmC hx hmem htk
      have HM := Lib.hid hmC
      have HMc := Lib.hid hmc
      have HBw := Lib.hid HB.out.size
      have HTK := Lib.hid htk
      have HCl : Hid (slices_Clone_byte_byte.f m = some m) := Lib.hid (by unfold slices_Clone_byte_byte.f; rw [if_pos (by have := HMM.out m hmem; omega)])
      have HLen : Hid ((xs.length + 1) * 24 ≤ 140737488355328) := Lib.hid (by have := HLN.out; have := HI.out; omega)
      have hxl : xs.length = i := HI.out.2.2.2
      have hwi : wrap64 ((i : Int) + 1) = ((i + 1 : Nat) : Int) := by unfold wrap64; have := HLN.out; omega
      have HWI := Lib.hid hwi
      clear hRr hK hcell hmc hmC hmem htk hget hwi
      replace hx : wr.cell? (ad.add i) = some (.slice Am m.length cm) := by rw [← hx, Int.toNat_natCast, show recK.sz = 1 from rfl, Nat.mul_one, Nat.add_zero]
      go_wp2_with fail
      refine (slices_Clone_byte_byte.calls Am cm m m _ HM.out HMc.out HCl.out).mono ?_
      rintro e w3 ⟨v3, rfl, hr, hb⟩
      replace hr : Kd.R (Kd.int .u8) 5 w3 wr.heap.size (fun _ => True) v3 m := hr
      obtain ⟨A3, c3, rfl⟩ := Kd.R_slice hr
      have HO3 := Lib.hid hr
      have HB3 := Lib.hid hb
      clear hr hb
      go_wp2_with (at_builtin; refine Kd.R_append (Kd.slice 5 (Kd.int .u8)) (w0 := w) w.heap.size rfl (.tmp 15) (.tmp 18) 34 22 (.slice none 0 0) 24 rfl Try.underlying34 (by kernel_rfl) rfl (by decide) (by omega) (.slice Ao i co) xs m [.slice A3 m.length c3] (fun _ => True) (fun k => wr.heap.size ≤ k) rfl rfl ?aP ?aK ?aF ?aO ?aB ?aS ?aL ?go)
      case aP => exact ⟨_, rfl, Kd.R_lower (Kd.R_mono (Kd.R_bound HO3.out) (fun k hk => hk.2.1)) HBw.out⟩
      case aK => exact fun k hk => ⟨trivial, fun e => by have h1 := Kd.R_lt HO.out k e.symm; have hk2 : wr.heap.size ≤ k := hk; omega⟩
      case aF => exact fun k hk => trivial
      case aO => exact Kd.R_below HO.out HB3.out
      case aB => exact HB.out.trans (HB3.out.mono HBw.out)
      case aS => exact Nat.le_trans HBw.out HB3.out.size
      case aL => have := HLen.out; omega
      case go =>
      intro v4 w4 hown hbel hgr hat
      obtain ⟨A4, c4, rfl⟩ := Kd.R_slice hown
      have HO4 := Lib.hid hown
      have HB4 := Lib.hid hbel
      clear hown hbel hgr hat
      rw [List.length_append, List.length_singleton, hxl] at HO4
      rw [List.length_append, List.length_singleton, hxl]
      have hwi := HWI.out
      go_wp2_with fail
      go_roundg k1'
      case measure => omega
      case rel => exact ⟨i + 1, xs ++ [m], A4, c4, rfl, by rw [hwi], Lib.hid ⟨by have := HI.out; omega, by have := HI.out; omega, by rw [HTK.out, HI.out.2.2.1], by simp [hxl]⟩, HO4, HB4⟩
end Go.Proofs.Ytbnhoacchibbnaa.Log
