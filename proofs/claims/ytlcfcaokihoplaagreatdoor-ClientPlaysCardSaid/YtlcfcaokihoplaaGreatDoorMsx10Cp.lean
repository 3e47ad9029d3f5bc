-- Cut.
import Derived.Test.YtlcfcaokihoplaaGreatDoorMsx1Cp
import Derived.Test.YtlcfcaokihoplaaGreatDoorMsx8Cp
import Derived.Test.YtlcfcaokihoplaaGreatDoorMsx9Cp
namespace Go.Proofs.YtlcfcaokihoplaaGreatDoor.Ms
open Go.RowKit Go.Proofs.YzW.PrintWords Go.Proofs.YzW.PrintLast Go.Proofs.YzW.PrintMore
attribute [local go_sem] cg_ ce_ cw_ cv_ by_ bx_ cf_ cd_
set_option linter.unusedVariables false
set_option linter.unusedSimpArgs false
attribute [local go_sem] eqlErr neqErr eqlErrNil neqErrNil
open Go.Proofs.YtlcfcaokihoplaaGreatDoor.Mw
mutual
def aa_.j0 : Nat → Bool → Int → ByteArray → ByteArray → List ByteArray → Int → Option (Bool)
 | 0, _, _, _, _, _, _ => none
 | k + 1, x29, x169000, x169001, x169002, x169003, x169004 => if x29 = true then (some false) else (aa_.l0 k 0 x169000 x169001 x169002 x169003 x169004)
def aa_.l0 : Nat → Int → Int → ByteArray → ByteArray → List ByteArray → Int → Option (Bool)
 | 0, _, _, _, _, _, _ => none
 | k + 1, x3, x169000, x169001, x169002, x169003, x169004 => if x3 < (x169003.length : Int) then (if 0 ≤ x3 then (if ((rdOf ByteArray.empty x169003 x3).size : Int) < 1 then (some false) else (if ((rdOf ByteArray.empty x169003 x3).size : Int) > 64 then (some false) else (aa_.l0 k (wrap64 (x3 + 1)) x169000 x169001 x169002 x169003 x169004))) else (none)) else ((dj_.f k x169001).bind fun t171 => ((ct_.f k x169002).bind fun t172 => (if x169000 = 1 then (aa_.j2 k t171 t172 x169000 (x169000 == 1) x169000 x169001 x169002 x169003 x169004) else (if x169000 = 3 then (aa_.j2 k t171 t172 x169000 (x169000 == 3) x169000 x169001 x169002 x169003 x169004) else (if x169000 = 4 then (aa_.j2 k t171 t172 x169000 (x169000 == 4) x169000 x169001 x169002 x169003 x169004) else (aa_.j2 k t171 t172 x169000 (x169000 == 7) x169000 x169001 x169002 x169003 x169004))))))
def aa_.j2 : Nat → Bool → Bool → Int → Bool → Int → ByteArray → ByteArray → List ByteArray → Int → Option (Bool)
 | 0, _, _, _, _, _, _, _, _, _ => none
 | k + 1, x4, x5, x60, x61, x169000, x169001, x169002, x169003, x169004 => if x61 = true then (if x4 = true then (if x169002.toList = ([] : List UInt8) then (if (x169003.length : Int) = 0 then (some (x169004 == 0)) else (some false)) else (some false)) else (some false)) else (if x60 = 2 then (if x4 = true then (if x5 = true then (some (x169004 == 0)) else (some false)) else (some false)) else (if x60 = 6 then (if x4 = true then (if x5 = true then (if (x169003.length : Int) = 0 then (some (x169004 == 0)) else (some false)) else (some false)) else (some false)) else (if x60 = 8 then (if x169001.toList = ([] : List UInt8) then (if x169002.toList = ([] : List UInt8) then (some ((x169003.length : Int) == 0)) else (some false)) else (some false)) else (if x169001.toList = ([] : List UInt8) then (if x169002.toList = ([] : List UInt8) then (if (x169003.length : Int) = 0 then (some (x169004 == 0)) else (some false)) else (some false)) else (some false)))))
end
def aa_.f (k : Nat) (a0_0 : Int) (a0_1 : ByteArray) (a0_2 : ByteArray) (l0_3 : List ByteArray) (a0_4 : Int) : Option (Bool) := if a0_0 < 1 then (aa_.j0 k true a0_0 a0_1 a0_2 l0_3 a0_4) else (if a0_0 > 9 then (aa_.j0 k true a0_0 a0_1 a0_2 l0_3 a0_4) else (if a0_4 < 0 then (aa_.j0 k true a0_0 a0_1 a0_2 l0_3 a0_4) else (if a0_4 > 100 then (aa_.j0 k true a0_0 a0_1 a0_2 l0_3 a0_4) else (aa_.j0 k (decide ((l0_3.length : Int) > 16)) a0_0 a0_1 a0_2 l0_3 a0_4))))
set_option maxHeartbeats 8000000 in
set_option maxRecDepth 100000 in
theorem aa_.calls (k : Nat) (a0_0 : Int) (a0_1 : ByteArray) (a0_2 : ByteArray) (A0_3 : Option Addr) (c0_3 : Nat) (l0_3 : List ByteArray) (a0_4 : Int) (r : Bool) (w : World) (hr0_3 : Kd.C Kd.string w A0_3 l0_3.length l0_3) (hc0_3 : l0_3.length ≤ c0_3) (h : aa_.f k a0_0 a0_1 a0_2 l0_3 a0_4 = some r) :
  Calls Tryz.prog 33 #[.agg #[.int .i64 a0_0, .string a0_1, .string a0_2, .slice A0_3 l0_3.length c0_3, .int .i64 a0_4]] w fun e w' => e = .returned (.bool r) ∧ Below w.heap.size w w' := by
 have hu36 := Tryz.underlying36
 have HR0_3 := c_.mk hr0_3
 have HC0_3 := c_.mk hc0_3
 clear hr0_3 hc0_3
 have HB := c_.mk (Below.refl w.heap.size w)
 have H : (if a0_0 < 1 then (aa_.j0 k true a0_0 a0_1 a0_2 l0_3 a0_4) else (if a0_0 > 9 then (aa_.j0 k true a0_0 a0_1 a0_2 l0_3 a0_4) else (if a0_4 < 0 then (aa_.j0 k true a0_0 a0_1 a0_2 l0_3 a0_4) else (if a0_4 > 100 then (aa_.j0 k true a0_0 a0_1 a0_2 l0_3 a0_4) else (aa_.j0 k (decide ((l0_3.length : Int) > 16)) a0_0 a0_1 a0_2 l0_3 a0_4))))) = some r := h
 clear h
 have HC2 := c_.mk H
 clear H
 go_enter Tryz.func33, Tryz.ntmps33
 go_upto_region 1 with (first | ((with_reducible refine be_ (N := 1) rfl ?_); (try (refine cm_ (by rfl) ?_; dsimp only)); refine bd_ ?hg (N := 1) ?hd (cs := #[.int .i64 a0_0, .string a0_1, .string a0_2, .slice A0_3 l0_3.length c0_3, .int .i64 a0_4]) (t := 36) ?hr ?_; (case hd => rfl); (case hg => rfl); (case hr => first | (go_simp; done) | (go_simp; rfl)); intro gb168 hg w3 hbox hb; have n0_ := c_.mk (ac_ (HB.out) hb); have n1_ := c_.mk (hbox); have n2_ := c_.mk ((by rw [hg]; exact (v_ (HB.out)) : w.heap.size ≤ gb168)); have n3_ := c_.mk ((by rw [hg]; exact (v_ (HB.out)) : w.heap.size ≤ gb168)); clear HB; have HB := n0_; have BK168 := n1_; have GW168 := n2_; have GE168 := n3_; clear n0_ n1_ n2_ n3_; clear hb hbox hg))
 (try simp only [Act.put, sA_, sB_, sC_])
 go_cut [29] (fun v29 wc => ∃ (kq : Nat) (x29_1 : Bool), v29 = .bool x29_1 ∧ c_ (aa_.j0 kq x29_1 a0_0 a0_1 a0_2 l0_3 a0_4 = some r) ∧ c_ (kq ≤ k) ∧ c_ (wc.heap[gb168]? = some (.cells #[.int .i64 a0_0, .string a0_1, .string a0_2, (.slice A0_3 l0_3.length c0_3), .int .i64 a0_4] 36 (0, 0))) ∧ c_ (Below w.heap.size w wc))
 case first =>
  have H := HC2.out
  clear HC2
  by_cases c4 : a0_0 < 1
  ·rw [if_pos c4] at H
   have c4b0 : decide (a0_0 < 1) = true := decide_eq_true c4
   clear c4
   (first | rw [c4b0] | (simp only [af_, ag_]; rw [c4b0]) | skip)
   have H' := c_.mk H
   clear H
   have hcz5_0 : w3.cell? ⟨gb168, 0, none⟩ = some (.int .i64 a0_0) := (b_ BK168.out 0).trans rfl
   have hcz5_1 : w3.cell? ⟨gb168, 1, none⟩ = some (.string a0_1) := (b_ BK168.out 1).trans rfl
   have hcz5_2 : w3.cell? ⟨gb168, 2, none⟩ = some (.string a0_2) := (b_ BK168.out 2).trans rfl
   have hcz5_3 : w3.cell? ⟨gb168, 3, none⟩ = some (.slice A0_3 l0_3.length c0_3) := (b_ BK168.out 3).trans rfl
   have hcz5_4 : w3.cell? ⟨gb168, 4, none⟩ = some (.int .i64 a0_4) := (b_ BK168.out 4).trans rfl
   have hfz5_0 := a_ BK168.out 0
   have hfz5_1 := a_ BK168.out 1
   have hfz5_2 := a_ BK168.out 2
   have hfz5_3 := a_ BK168.out 3
   have hfz5_4 := a_ BK168.out 4
   go_wp2
   go_meet
   case rel => exact ⟨_, (true), (by first | rfl | (simp; done) | (simp [*]; done) | (simp; exact bg_ _)), H', ⟨by first | omega | exact Nat.le_refl _⟩, ⟨BK168.out⟩, ⟨HB.out⟩⟩
  ·rw [if_neg c4] at H
   have c4b0 : decide (a0_0 < 1) = false := decide_eq_false c4
   clear c4
   (first | rw [c4b0] | (simp only [af_, ag_]; rw [c4b0]) | skip)
   by_cases c6 : a0_0 > 9
   ·rw [if_pos c6] at H
    have c6b0 : decide (9 < a0_0) = true := decide_eq_true c6
    clear c6
    have H' := c_.mk H
    clear H
    have hcz7_0 : w3.cell? ⟨gb168, 0, none⟩ = some (.int .i64 a0_0) := (b_ BK168.out 0).trans rfl
    have hcz7_1 : w3.cell? ⟨gb168, 1, none⟩ = some (.string a0_1) := (b_ BK168.out 1).trans rfl
    have hcz7_2 : w3.cell? ⟨gb168, 2, none⟩ = some (.string a0_2) := (b_ BK168.out 2).trans rfl
    have hcz7_3 : w3.cell? ⟨gb168, 3, none⟩ = some (.slice A0_3 l0_3.length c0_3) := (b_ BK168.out 3).trans rfl
    have hcz7_4 : w3.cell? ⟨gb168, 4, none⟩ = some (.int .i64 a0_4) := (b_ BK168.out 4).trans rfl
    have hfz7_0 := a_ BK168.out 0
    have hfz7_1 := a_ BK168.out 1
    have hfz7_2 := a_ BK168.out 2
    have hfz7_3 := a_ BK168.out 3
    have hfz7_4 := a_ BK168.out 4
    go_wp2
    go_meet
    case rel => exact ⟨_, (true), (by first | rfl | (simp; done) | (simp [*]; done) | (simp; exact bg_ _)), H', ⟨by first | omega | exact Nat.le_refl _⟩, ⟨BK168.out⟩, ⟨HB.out⟩⟩
   ·rw [if_neg c6] at H
    have c6b0 : decide (9 < a0_0) = false := decide_eq_false c6
    clear c6
    by_cases c8 : a0_4 < 0
    ·rw [if_pos c8] at H
     have c8b0 : decide (a0_4 < 0) = true := decide_eq_true c8
     clear c8
     have H' := c_.mk H
     clear H
     have hcz9_0 : w3.cell? ⟨gb168, 0, none⟩ = some (.int .i64 a0_0) := (b_ BK168.out 0).trans rfl
     have hcz9_1 : w3.cell? ⟨gb168, 1, none⟩ = some (.string a0_1) := (b_ BK168.out 1).trans rfl
     have hcz9_2 : w3.cell? ⟨gb168, 2, none⟩ = some (.string a0_2) := (b_ BK168.out 2).trans rfl
     have hcz9_3 : w3.cell? ⟨gb168, 3, none⟩ = some (.slice A0_3 l0_3.length c0_3) := (b_ BK168.out 3).trans rfl
     have hcz9_4 : w3.cell? ⟨gb168, 4, none⟩ = some (.int .i64 a0_4) := (b_ BK168.out 4).trans rfl
     have hfz9_0 := a_ BK168.out 0
     have hfz9_1 := a_ BK168.out 1
     have hfz9_2 := a_ BK168.out 2
     have hfz9_3 := a_ BK168.out 3
     have hfz9_4 := a_ BK168.out 4
     go_wp2
     go_meet
     case rel => exact ⟨_, (true), (by first | rfl | (simp; done) | (simp [*]; done) | (simp; exact bg_ _)), H', ⟨by first | omega | exact Nat.le_refl _⟩, ⟨BK168.out⟩, ⟨HB.out⟩⟩
    ·rw [if_neg c8] at H
     have c8b0 : decide (a0_4 < 0) = false := decide_eq_false c8
     clear c8
     by_cases c10 : a0_4 > 100
     ·rw [if_pos c10] at H
      have c10b0 : decide (100 < a0_4) = true := decide_eq_true c10
      clear c10
      have H' := c_.mk H
      clear H
      have hcz11_0 : w3.cell? ⟨gb168, 0, none⟩ = some (.int .i64 a0_0) := (b_ BK168.out 0).trans rfl
      have hcz11_1 : w3.cell? ⟨gb168, 1, none⟩ = some (.string a0_1) := (b_ BK168.out 1).trans rfl
      have hcz11_2 : w3.cell? ⟨gb168, 2, none⟩ = some (.string a0_2) := (b_ BK168.out 2).trans rfl
      have hcz11_3 : w3.cell? ⟨gb168, 3, none⟩ = some (.slice A0_3 l0_3.length c0_3) := (b_ BK168.out 3).trans rfl
      have hcz11_4 : w3.cell? ⟨gb168, 4, none⟩ = some (.int .i64 a0_4) := (b_ BK168.out 4).trans rfl
      have hfz11_0 := a_ BK168.out 0
      have hfz11_1 := a_ BK168.out 1
      have hfz11_2 := a_ BK168.out 2
      have hfz11_3 := a_ BK168.out 3
      have hfz11_4 := a_ BK168.out 4
      go_wp2
      go_meet
      case rel => exact ⟨_, (true), (by first | rfl | (simp; done) | (simp [*]; done) | (simp; exact bg_ _)), H', ⟨by first | omega | exact Nat.le_refl _⟩, ⟨BK168.out⟩, ⟨HB.out⟩⟩
     ·rw [if_neg c10] at H
      have c10b0 : decide (100 < a0_4) = false := decide_eq_false c10
      clear c10
      have H' := c_.mk H
      clear H
      have hcz12_0 : w3.cell? ⟨gb168, 0, none⟩ = some (.int .i64 a0_0) := (b_ BK168.out 0).trans rfl
      have hcz12_1 : w3.cell? ⟨gb168, 1, none⟩ = some (.string a0_1) := (b_ BK168.out 1).trans rfl
      have hcz12_2 : w3.cell? ⟨gb168, 2, none⟩ = some (.string a0_2) := (b_ BK168.out 2).trans rfl
      have hcz12_3 : w3.cell? ⟨gb168, 3, none⟩ = some (.slice A0_3 l0_3.length c0_3) := (b_ BK168.out 3).trans rfl
      have hcz12_4 : w3.cell? ⟨gb168, 4, none⟩ = some (.int .i64 a0_4) := (b_ BK168.out 4).trans rfl
      have hfz12_0 := a_ BK168.out 0
      have hfz12_1 := a_ BK168.out 1
      have hfz12_2 := a_ BK168.out 2
      have hfz12_3 := a_ BK168.out 3
      have hfz12_4 := a_ BK168.out 4
      go_wp2
      go_meet
      case rel => exact ⟨_, (decide ((l0_3.length : Int) > 16)), (by first | rfl | (simp; done) | (simp [*]; done) | (simp; exact bg_ _)), H', ⟨by first | omega | exact Nat.le_refl _⟩, ⟨BK168.out⟩, ⟨HB.out⟩⟩
 case rest =>
  clear HC2
  try clear c1
  try clear p2
  try clear c3
  try clear c4
  try clear c4b0
  try clear c6
  try clear c6b0
  try clear c8
  try clear c8b0
  try clear c10
  try clear c10b0
  try clear hcz11_0
  try clear hcz11_1
  try clear hcz11_2
  try clear hcz11_3
  try clear hcz11_4
  try clear hcz12_0
  try clear hcz12_1
  try clear hcz12_2
  try clear hcz12_3
  try clear hcz12_4
  try clear hcz5_0
  try clear hcz5_1
  try clear hcz5_2
  try clear hcz5_3
  try clear hcz5_4
  try clear hcz7_0
  try clear hcz7_1
  try clear hcz7_2
  try clear hcz7_3
  try clear hcz7_4
  try clear hcz9_0
  try clear hcz9_1
  try clear hcz9_2
  try clear hcz9_3
  try clear hcz9_4
  try clear hfz11_0
  try clear hfz11_1
  try clear hfz11_2
  try clear hfz11_3
  try clear hfz11_4
  try clear hfz12_0
  try clear hfz12_1
  try clear hfz12_2
  try clear hfz12_3
  try clear hfz12_4
  try clear hfz5_0
  try clear hfz5_1
  try clear hfz5_2
  try clear hfz5_3
  try clear hfz5_4
  try clear hfz7_0
  try clear hfz7_1
  try clear hfz7_2
  try clear hfz7_3
  try clear hfz7_4
  try clear hfz9_0
  try clear hfz9_1
  try clear hfz9_2
  try clear hfz9_3
  try clear hfz9_4
  obtain ⟨kq, x29_1, rfl, HA, HJ1, BK168, HB⟩ := hcut
  cases kq with
  | zero => exact absurd HA.out (by simp [aa_.j0])
  | succ kj1 =>
   have H := HA.out
   clear HA
   simp only [aa_.j0] at H
   by_cases c13 : x29_1 = true
   ·subst c13
    have H1 : (some false) = some r := by first | (rw [if_pos rfl] at H; with_reducible exact H) | exact (if_pos rfl).symm.trans H | (simp only [if_true, eq_self_iff_true] at H ⊢; exact H)
    clear H
    have H := H1
    clear H1
    obtain rfl := Option.some.inj H
    go_wp2
    go_ret
    exact ⟨by first | rfl | (simp [i_, g_] <;> rfl) | (simp [*, i_, g_] <;> rfl), HB.out⟩
   ·replace c13 := Bool.eq_false_iff.mpr c13
    subst c13
    have H1 : (aa_.l0 kj1 0 a0_0 a0_1 a0_2 l0_3 a0_4) = some r := by rw [if_neg (show ¬ (false = true) by decide)] at H; exact H
    clear H
    have H := H1
    clear H1
    have H' := c_.mk H
    clear H
    go_wp2
    go_loopg [3] kj1 (fun kq v3 w' => ∃ (x3_2 : Int), v3 = .int .i64 x3_2 ∧ c_ (aa_.l0 kq x3_2 a0_0 a0_1 a0_2 l0_3 a0_4 = some r) ∧ c_ (kq ≤ kj1) ∧ c_ (w'.heap[gb168]? = some (.cells #[.int .i64 a0_0, .string a0_1, .string a0_2, (.slice A0_3 l0_3.length c0_3), .int .i64 a0_4] 36 (0, 0))) ∧ c_ (Below w.heap.size w w'))
    case atStart => exact ⟨(0), (by first | rfl | (simp; done) | (simp [*]; done) | (simp; exact bg_ _)), H', ⟨Nat.le_refl _⟩, ⟨BK168.out⟩, ⟨HB.out⟩⟩
    case round =>
     clear H'
     try clear c1
     try clear p2
     try clear c3
     try clear c4
     try clear c4b0
     try clear c6
     try clear c6b0
     try clear c8
     try clear c8b0
     try clear c10
     try clear c10b0
     try clear c13
     try clear hcz11_0
     try clear hcz11_1
     try clear hcz11_2
     try clear hcz11_3
     try clear hcz11_4
     try clear hcz12_0
     try clear hcz12_1
     try clear hcz12_2
     try clear hcz12_3
     try clear hcz12_4
     try clear hcz5_0
     try clear hcz5_1
     try clear hcz5_2
     try clear hcz5_3
     try clear hcz5_4
     try clear hcz7_0
     try clear hcz7_1
     try clear hcz7_2
     try clear hcz7_3
     try clear hcz7_4
     try clear hcz9_0
     try clear hcz9_1
     try clear hcz9_2
     try clear hcz9_3
     try clear hcz9_4
     try clear hfz11_0
     try clear hfz11_1
     try clear hfz11_2
     try clear hfz11_3
     try clear hfz11_4
     try clear hfz12_0
     try clear hfz12_1
     try clear hfz12_2
     try clear hfz12_3
     try clear hfz12_4
     try clear hfz5_0
     try clear hfz5_1
     try clear hfz5_2
     try clear hfz5_3
     try clear hfz5_4
     try clear hfz7_0
     try clear hfz7_1
     try clear hfz7_2
     try clear hfz7_3
     try clear hfz7_4
     try clear hfz9_0
     try clear hfz9_1
     try clear hfz9_2
     try clear hfz9_3
     try clear hfz9_4
     try clear p2
     obtain ⟨x3_2, rfl, HA, HK2, BK168, HB⟩ := hrel
     cases gk with
     | zero => exact absurd HA.out (by simp [aa_.l0])
     | succ k2 =>
      have H := HA.out
      clear HA
      simp only [aa_.l0] at H
      by_cases c14 : x3_2 < (l0_3.length : Int)
      ·rw [if_pos c14] at H
       have c14b0 : decide (x3_2 < (l0_3.length : Int)) = true := decide_eq_true c14
       clear c14
       by_cases c15 : 0 ≤ x3_2
       ·rw [if_pos c15] at H
        have c15b0 : decide (0 ≤ x3_2) = true := decide_eq_true c15
        clear c15
        by_cases c16 : ((rdOf ByteArray.empty l0_3 x3_2).size : Int) < 1
        ·rw [if_pos c16] at H
         have c16b0 : decide (((rdOf ByteArray.empty l0_3 x3_2).size : Int) < 1) = true := decide_eq_true c16
         have c16b1 : decide ((rdOf ByteArray.empty l0_3 x3_2).size < 1) = true := decide_eq_true (by omega)
         clear c16
         obtain rfl := Option.some.inj H
         have hcz17_0 : wr.cell? ⟨gb168, 0, none⟩ = some (.int .i64 a0_0) := (b_ BK168.out 0).trans rfl
         have hcz17_1 : wr.cell? ⟨gb168, 1, none⟩ = some (.string a0_1) := (b_ BK168.out 1).trans rfl
         have hcz17_2 : wr.cell? ⟨gb168, 2, none⟩ = some (.string a0_2) := (b_ BK168.out 2).trans rfl
         have hcz17_3 : wr.cell? ⟨gb168, 3, none⟩ = some (.slice A0_3 l0_3.length c0_3) := (b_ BK168.out 3).trans rfl
         have hcz17_4 : wr.cell? ⟨gb168, 4, none⟩ = some (.int .i64 a0_4) := (b_ BK168.out 4).trans rfl
         have hfz17_0 := a_ BK168.out 0
         have hfz17_1 := a_ BK168.out 1
         have hfz17_2 := a_ BK168.out 2
         have hfz17_3 := a_ BK168.out 3
         have hfz17_4 := a_ BK168.out 4
         have p169 : 0 ≤ (x3_2 : Int) := of_decide_eq_true (by first | (with_reducible assumption) | assumption)
         have q169 : x3_2 < (l0_3.length : Int) := of_decide_eq_true (by first | (with_reducible assumption) | assumption)
         obtain ⟨ad169, e169, hx169_0⟩ := Kd.at_string HR0_3.out x3_2 p169 q169
         cases e169
         replace hx169_0 := (HB.out.cell (World.block_lt_of_cell? w _ hx169_0)).trans hx169_0
         replace p169 := eq_true p169
         replace q169 := eq_true q169
         go_wp2
         go_ret
         exact ⟨by first | rfl | (simp [i_, g_] <;> rfl) | (simp [*, i_, g_] <;> rfl), HB.out⟩
        ·rw [if_neg c16] at H
         have c16b0 : decide (((rdOf ByteArray.empty l0_3 x3_2).size : Int) < 1) = false := decide_eq_false c16
         have c16b1 : decide ((rdOf ByteArray.empty l0_3 x3_2).size < 1) = false := decide_eq_false (by omega)
         clear c16
         by_cases c18 : ((rdOf ByteArray.empty l0_3 x3_2).size : Int) > 64
         ·rw [if_pos c18] at H
          have c18b0 : decide (64 < ((rdOf ByteArray.empty l0_3 x3_2).size : Int)) = true := decide_eq_true c18
          have c18b1 : decide (64 < (rdOf ByteArray.empty l0_3 x3_2).size) = true := decide_eq_true (by omega)
          clear c18
          obtain rfl := Option.some.inj H
          have hcz19_0 : wr.cell? ⟨gb168, 0, none⟩ = some (.int .i64 a0_0) := (b_ BK168.out 0).trans rfl
          have hcz19_1 : wr.cell? ⟨gb168, 1, none⟩ = some (.string a0_1) := (b_ BK168.out 1).trans rfl
          have hcz19_2 : wr.cell? ⟨gb168, 2, none⟩ = some (.string a0_2) := (b_ BK168.out 2).trans rfl
          have hcz19_3 : wr.cell? ⟨gb168, 3, none⟩ = some (.slice A0_3 l0_3.length c0_3) := (b_ BK168.out 3).trans rfl
          have hcz19_4 : wr.cell? ⟨gb168, 4, none⟩ = some (.int .i64 a0_4) := (b_ BK168.out 4).trans rfl
          have hfz19_0 := a_ BK168.out 0
          have hfz19_1 := a_ BK168.out 1
          have hfz19_2 := a_ BK168.out 2
          have hfz19_3 := a_ BK168.out 3
          have hfz19_4 := a_ BK168.out 4
          have p169 : 0 ≤ (x3_2 : Int) := of_decide_eq_true (by first | (with_reducible assumption) | assumption)
          have q169 : x3_2 < (l0_3.length : Int) := of_decide_eq_true (by first | (with_reducible assumption) | assumption)
          obtain ⟨ad169, e169, hx169_0⟩ := Kd.at_string HR0_3.out x3_2 p169 q169
          cases e169
          replace hx169_0 := (HB.out.cell (World.block_lt_of_cell? w _ hx169_0)).trans hx169_0
          replace p169 := eq_true p169
          replace q169 := eq_true q169
          have p170 : 0 ≤ (x3_2 : Int) := of_decide_eq_true (by first | (with_reducible assumption) | assumption)
          have q170 : x3_2 < (l0_3.length : Int) := of_decide_eq_true (by first | (with_reducible assumption) | assumption)
          obtain ⟨ad170, e170, hx170_0⟩ := Kd.at_string HR0_3.out x3_2 p170 q170
          obtain rfl : ad169 = ad170 := (by injection e170)
          replace hx170_0 := (HB.out.cell (World.block_lt_of_cell? w _ hx170_0)).trans hx170_0
          replace p170 := eq_true p170
          replace q170 := eq_true q170
          go_wp2
          go_ret
          exact ⟨by first | rfl | (simp [i_, g_] <;> rfl) | (simp [*, i_, g_] <;> rfl), HB.out⟩
         ·rw [if_neg c18] at H
          have c18b0 : decide (64 < ((rdOf ByteArray.empty l0_3 x3_2).size : Int)) = false := decide_eq_false c18
          have c18b1 : decide (64 < (rdOf ByteArray.empty l0_3 x3_2).size) = false := decide_eq_false (by omega)
          clear c18
          have H' := c_.mk H
          clear H
          have hcz20_0 : wr.cell? ⟨gb168, 0, none⟩ = some (.int .i64 a0_0) := (b_ BK168.out 0).trans rfl
          have hcz20_1 : wr.cell? ⟨gb168, 1, none⟩ = some (.string a0_1) := (b_ BK168.out 1).trans rfl
          have hcz20_2 : wr.cell? ⟨gb168, 2, none⟩ = some (.string a0_2) := (b_ BK168.out 2).trans rfl
          have hcz20_3 : wr.cell? ⟨gb168, 3, none⟩ = some (.slice A0_3 l0_3.length c0_3) := (b_ BK168.out 3).trans rfl
          have hcz20_4 : wr.cell? ⟨gb168, 4, none⟩ = some (.int .i64 a0_4) := (b_ BK168.out 4).trans rfl
          have hfz20_0 := a_ BK168.out 0
          have hfz20_1 := a_ BK168.out 1
          have hfz20_2 := a_ BK168.out 2
          have hfz20_3 := a_ BK168.out 3
          have hfz20_4 := a_ BK168.out 4
          have p169 : 0 ≤ (x3_2 : Int) := of_decide_eq_true (by first | (with_reducible assumption) | assumption)
          have q169 : x3_2 < (l0_3.length : Int) := of_decide_eq_true (by first | (with_reducible assumption) | assumption)
          obtain ⟨ad169, e169, hx169_0⟩ := Kd.at_string HR0_3.out x3_2 p169 q169
          cases e169
          replace hx169_0 := (HB.out.cell (World.block_lt_of_cell? w _ hx169_0)).trans hx169_0
          replace p169 := eq_true p169
          replace q169 := eq_true q169
          have p170 : 0 ≤ (x3_2 : Int) := of_decide_eq_true (by first | (with_reducible assumption) | assumption)
          have q170 : x3_2 < (l0_3.length : Int) := of_decide_eq_true (by first | (with_reducible assumption) | assumption)
          obtain ⟨ad170, e170, hx170_0⟩ := Kd.at_string HR0_3.out x3_2 p170 q170
          obtain rfl : ad169 = ad170 := (by injection e170)
          replace hx170_0 := (HB.out.cell (World.block_lt_of_cell? w _ hx170_0)).trans hx170_0
          replace p170 := eq_true p170
          replace q170 := eq_true q170
          go_wp2
          go_roundg k2
          case measure => have := HJ1.out; have := HK2.out; omega
          case rel => exact ⟨(wrap64 (x3_2 + 1)), (by first | rfl | (simp; done) | (simp [*]; done) | (simp; exact bg_ _)), H', ⟨by have := HJ1.out; have := HK2.out; omega⟩, ⟨BK168.out⟩, ⟨HB.out⟩⟩
       ·rw [if_neg c15] at H
        exact absurd H (by simp)
      ·rw [if_neg c14] at H
       have c14b0 : decide (x3_2 < (l0_3.length : Int)) = false := decide_eq_false c14
       clear c14
       replace H := Option.bind_eq_some_iff.mp H
       obtain ⟨t171, A210, H⟩ := H
       replace H : ((ct_.f k2 a0_2).bind fun t172 => (if a0_0 = 1 then (aa_.j2 k2 t171 t172 a0_0 (a0_0 == 1) a0_0 a0_1 a0_2 l0_3 a0_4) else (if a0_0 = 3 then (aa_.j2 k2 t171 t172 a0_0 (a0_0 == 3) a0_0 a0_1 a0_2 l0_3 a0_4) else (if a0_0 = 4 then (aa_.j2 k2 t171 t172 a0_0 (a0_0 == 4) a0_0 a0_1 a0_2 l0_3 a0_4) else (aa_.j2 k2 t171 t172 a0_0 (a0_0 == 7) a0_0 a0_1 a0_2 l0_3 a0_4))))) = some r := H
       have A21 := c_.mk A210
       clear A210
       replace H := Option.bind_eq_some_iff.mp H
       obtain ⟨t172, A220, H⟩ := H
       replace H : (if a0_0 = 1 then (aa_.j2 k2 t171 t172 a0_0 (a0_0 == 1) a0_0 a0_1 a0_2 l0_3 a0_4) else (if a0_0 = 3 then (aa_.j2 k2 t171 t172 a0_0 (a0_0 == 3) a0_0 a0_1 a0_2 l0_3 a0_4) else (if a0_0 = 4 then (aa_.j2 k2 t171 t172 a0_0 (a0_0 == 4) a0_0 a0_1 a0_2 l0_3 a0_4) else (aa_.j2 k2 t171 t172 a0_0 (a0_0 == 7) a0_0 a0_1 a0_2 l0_3 a0_4)))) = some r := H
       have A22 := c_.mk A220
       clear A220
       have HC23 := c_.mk H
       clear H
       have hcz24_0 : wr.cell? ⟨gb168, 0, none⟩ = some (.int .i64 a0_0) := (b_ BK168.out 0).trans rfl
       have hcz24_1 : wr.cell? ⟨gb168, 1, none⟩ = some (.string a0_1) := (b_ BK168.out 1).trans rfl
       have hcz24_2 : wr.cell? ⟨gb168, 2, none⟩ = some (.string a0_2) := (b_ BK168.out 2).trans rfl
       have hcz24_3 : wr.cell? ⟨gb168, 3, none⟩ = some (.slice A0_3 l0_3.length c0_3) := (b_ BK168.out 3).trans rfl
       have hcz24_4 : wr.cell? ⟨gb168, 4, none⟩ = some (.int .i64 a0_4) := (b_ BK168.out 4).trans rfl
       have hfz24_0 := a_ BK168.out 0
       have hfz24_1 := a_ BK168.out 1
       have hfz24_2 := a_ BK168.out 2
       have hfz24_3 := a_ BK168.out 3
       have hfz24_4 := a_ BK168.out 4
       go_upto_if 61 with (first | ((with_reducible refine ah_ (f := 49) rfl ?_); refine bm_ (some 55) rfl rfl Tryz.func49 (by kernel_rfl) rfl #[.string a0_1] rfl (by (try simp only [List.map_toArray, List.map_cons, List.map_nil]); first | done | rfl | (simp only [List.length_drop, List.length_take]; rfl)) ?_; (with_reducible refine (dj_.calls k2 a0_1 t171 _ A21.out).mono ?_); rintro e w' ⟨rfl, ⟨nd, rfl⟩⟩; refine ⟨_, rfl, ?_⟩) | ((with_reducible refine ah_ (f := 50) rfl ?_); refine bm_ (some 58) rfl rfl Tryz.func50 (by kernel_rfl) rfl #[.string a0_2] rfl (by (try simp only [List.map_toArray, List.map_cons, List.map_nil]); first | done | rfl | (simp only [List.length_drop, List.length_take]; rfl)) ?_; (with_reducible refine (ct_.calls k2 a0_2 t172 _ A22.out).mono ?_); rintro e w25 ⟨rfl, hb⟩; refine ⟨_, rfl, ?_⟩; have n0_ := c_.mk (s_ (g := gb168) (o := .cells #[.int .i64 a0_0, .string a0_1, .string a0_2, .slice A0_3 l0_3.length c0_3, .int .i64 a0_4] 36 (0, 0)) (by (with_reducible repeat (first | refine u_ ?_ _ | refine o_ ?_ | refine x_ ?_ _)); exact BK168.out) hb); have n1_ := c_.mk (ac_ (by repeat (first | (with_reducible first | exact HB.out | apply l_ | apply d_ | apply m_ | refine f_ ?_ GE168.out) | exact HB.out)) hb); clear BK168; clear HB; have BK168 := n0_; have HB := n1_; clear n0_ n1_; (try clear hb); (try clear hb2); (try clear hk); (try clear hi); have hcz26_0 : w25.cell? ⟨gb168, 0, none⟩ = some (.int .i64 a0_0) := (b_ BK168.out 0).trans rfl; have hcz26_1 : w25.cell? ⟨gb168, 1, none⟩ = some (.string a0_1) := (b_ BK168.out 1).trans rfl; have hcz26_2 : w25.cell? ⟨gb168, 2, none⟩ = some (.string a0_2) := (b_ BK168.out 2).trans rfl; have hcz26_3 : w25.cell? ⟨gb168, 3, none⟩ = some (.slice A0_3 l0_3.length c0_3) := (b_ BK168.out 3).trans rfl; have hcz26_4 : w25.cell? ⟨gb168, 4, none⟩ = some (.int .i64 a0_4) := (b_ BK168.out 4).trans rfl; have hfz26_0 := a_ BK168.out 0; have hfz26_1 := a_ BK168.out 1; have hfz26_2 := a_ BK168.out 2; have hfz26_3 := a_ BK168.out 3; have hfz26_4 := a_ BK168.out 4))
       (try simp only [Act.put, sA_, sB_, sC_])
       go_cut [61] (fun v61 wc => ∃ (kq : Nat) (x61_22 : Bool), v61 = .bool x61_22 ∧ c_ (aa_.j2 kq t171 t172 a0_0 x61_22 a0_0 a0_1 a0_2 l0_3 a0_4 = some r) ∧ c_ (kq ≤ k2) ∧ c_ (wc.heap[gb168]? = some (.cells #[.int .i64 a0_0, .string a0_1, .string a0_2, (.slice A0_3 l0_3.length c0_3), .int .i64 a0_4] 36 (0, 0))) ∧ c_ (Below w.heap.size w wc))
       case first =>
        have H := HC23.out
        clear HC23
        by_cases c27 : a0_0 = 1
        ·rw [if_pos c27] at H
         have c27b0 : (a0_0 == 1) = true := beq_iff_eq.mpr c27
         have c27b1 : (a0_0 != 1) = false := bne_eq_false_iff_eq.mpr c27
         clear c27
         (first | rw [c27b0] | (simp only [af_, ag_]; rw [c27b0]) | skip)
         have H' := c_.mk H
         clear H
         go_wp2
         go_meet
         case rel => exact ⟨_, ((a0_0 == 1)), (by first | rfl | (simp; done) | (simp [*]; done) | (simp; exact bg_ _)), H', ⟨by have := HJ1.out; have := HK2.out; first | omega | exact Nat.le_refl _⟩, ⟨BK168.out⟩, ⟨HB.out⟩⟩
        ·rw [if_neg c27] at H
         have c27b0 : (a0_0 == 1) = false := beq_eq_false_iff_ne.mpr c27
         have c27b1 : (a0_0 != 1) = true := bne_iff_ne.mpr c27
         (first | rw [c27b0] | (simp only [af_, ag_]; rw [c27b0]) | skip)
         by_cases c28 : a0_0 = 3
         ·rw [if_pos c28] at H
          have c28b0 : (a0_0 == 3) = true := beq_iff_eq.mpr c28
          have c28b1 : (a0_0 != 3) = false := bne_eq_false_iff_eq.mpr c28
          clear c28
          have H' := c_.mk H
          clear H
          go_wp2
          go_meet
          case rel => exact ⟨_, ((a0_0 == 3)), (by first | rfl | (simp; done) | (simp [*]; done) | (simp; exact bg_ _)), H', ⟨by have := HJ1.out; have := HK2.out; first | omega | exact Nat.le_refl _⟩, ⟨BK168.out⟩, ⟨HB.out⟩⟩
         ·rw [if_neg c28] at H
          have c28b0 : (a0_0 == 3) = false := beq_eq_false_iff_ne.mpr c28
          have c28b1 : (a0_0 != 3) = true := bne_iff_ne.mpr c28
          by_cases c29 : a0_0 = 4
          ·rw [if_pos c29] at H
           have c29b0 : (a0_0 == 4) = true := beq_iff_eq.mpr c29
           have c29b1 : (a0_0 != 4) = false := bne_eq_false_iff_eq.mpr c29
           clear c29
           have H' := c_.mk H
           clear H
           go_wp2
           go_meet
           case rel => exact ⟨_, ((a0_0 == 4)), (by first | rfl | (simp; done) | (simp [*]; done) | (simp; exact bg_ _)), H', ⟨by have := HJ1.out; have := HK2.out; first | omega | exact Nat.le_refl _⟩, ⟨BK168.out⟩, ⟨HB.out⟩⟩
          ·rw [if_neg c29] at H
           have c29b0 : (a0_0 == 4) = false := beq_eq_false_iff_ne.mpr c29
           have c29b1 : (a0_0 != 4) = true := bne_iff_ne.mpr c29
           have H' := c_.mk H
           clear H
           go_wp2
           go_meet
           case rel => exact ⟨_, ((a0_0 == 7)), (by first | rfl | (simp; done) | (simp [*]; done) | (simp; exact bg_ _)), H', ⟨by have := HJ1.out; have := HK2.out; first | omega | exact Nat.le_refl _⟩, ⟨BK168.out⟩, ⟨HB.out⟩⟩
       case rest =>
        clear HC23
        try clear c1
        try clear p1
        try clear q1
        try clear hx1
        try clear c2
        try clear p2
        try clear c3
        try clear c4
        try clear c4b0
        try clear c5
        try clear c6
        try clear c6b0
        try clear p6
        try clear c8
        try clear c8b0
        try clear c10
        try clear c10b0
        try clear c13
        try clear c14
        try clear c14b0
        try clear c15
        try clear c15b0
        try clear c16
        try clear c16b0
        try clear c16b1
        try clear p16
        try clear q16
        try clear hx16
        try clear p17
        try clear q17
        try clear hx17
        try clear c18
        try clear c18b0
        try clear c18b1
        try clear c27
        try clear c27b0
        try clear c27b1
        try clear c28
        try clear c28b0
        try clear c28b1
        try clear c29
        try clear c29b0
        try clear c29b1
        try clear hcz11_0
        try clear hcz11_1
        try clear hcz11_2
        try clear hcz11_3
        try clear hcz11_4
        try clear hcz12_0
        try clear hcz12_1
        try clear hcz12_2
        try clear hcz12_3
        try clear hcz12_4
        try clear hcz17_0
        try clear hcz17_1
        try clear hcz17_2
        try clear hcz17_3
        try clear hcz17_4
        try clear hcz19_0
        try clear hcz19_1
        try clear hcz19_2
        try clear hcz19_3
        try clear hcz19_4
        try clear hcz20_0
        try clear hcz20_1
        try clear hcz20_2
        try clear hcz20_3
        try clear hcz20_4
        try clear hcz24_0
        try clear hcz24_1
        try clear hcz24_2
        try clear hcz24_3
        try clear hcz24_4
        try clear hcz26_0
        try clear hcz26_1
        try clear hcz26_2
        try clear hcz26_3
        try clear hcz26_4
        try clear hcz5_0
        try clear hcz5_1
        try clear hcz5_2
        try clear hcz5_3
        try clear hcz5_4
        try clear hcz7_0
        try clear hcz7_1
        try clear hcz7_2
        try clear hcz7_3
        try clear hcz7_4
        try clear hcz9_0
        try clear hcz9_1
        try clear hcz9_2
        try clear hcz9_3
        try clear hcz9_4
        try clear hfz11_0
        try clear hfz11_1
        try clear hfz11_2
        try clear hfz11_3
        try clear hfz11_4
        try clear hfz12_0
        try clear hfz12_1
        try clear hfz12_2
        try clear hfz12_3
        try clear hfz12_4
        try clear hfz17_0
        try clear hfz17_1
        try clear hfz17_2
        try clear hfz17_3
        try clear hfz17_4
        try clear hfz19_0
        try clear hfz19_1
        try clear hfz19_2
        try clear hfz19_3
        try clear hfz19_4
        try clear hfz20_0
        try clear hfz20_1
        try clear hfz20_2
        try clear hfz20_3
        try clear hfz20_4
        try clear hfz24_0
        try clear hfz24_1
        try clear hfz24_2
        try clear hfz24_3
        try clear hfz24_4
        try clear hfz26_0
        try clear hfz26_1
        try clear hfz26_2
        try clear hfz26_3
        try clear hfz26_4
        try clear hfz5_0
        try clear hfz5_1
        try clear hfz5_2
        try clear hfz5_3
        try clear hfz5_4
        try clear hfz7_0
        try clear hfz7_1
        try clear hfz7_2
        try clear hfz7_3
        try clear hfz7_4
        try clear hfz9_0
        try clear hfz9_1
        try clear hfz9_2
        try clear hfz9_3
        try clear hfz9_4
        try clear hx169_0
        try clear hx170_0
        try clear p169
        try clear p170
        try clear p2
        try clear q169
        try clear q170
        obtain ⟨kq, x61_22, rfl, HA, HJ22, BK168, HB⟩ := hcut
        cases kq with
        | zero => exact absurd HA.out (by simp [aa_.j2])
        | succ kj22 =>
         have H := HA.out
         clear HA
         simp only [aa_.j2] at H
         by_cases c30 : x61_22 = true
         ·subst c30
          have H1 : (if t171 = true then (if a0_2.toList = ([] : List UInt8) then (if (l0_3.length : Int) = 0 then (some (a0_4 == 0)) else (some false)) else (some false)) else (some false)) = some r := by first | (rw [if_pos rfl] at H; with_reducible exact H) | exact (if_pos rfl).symm.trans H | (simp only [if_true, eq_self_iff_true] at H ⊢; exact H)
          clear H
          have H := H1
          clear H1
          by_cases c31 : t171 = true
          ·subst c31
           have H1 : (if a0_2.toList = ([] : List UInt8) then (if (l0_3.length : Int) = 0 then (some (a0_4 == 0)) else (some false)) else (some false)) = some r := by first | (rw [if_pos rfl] at H; with_reducible exact H) | exact (if_pos rfl).symm.trans H | (simp only [if_true, eq_self_iff_true] at H ⊢; exact H)
           clear H
           have H := H1
           clear H1
           by_cases c32 : a0_2.toList = ([] : List UInt8)
           ·rw [if_pos c32] at H
            have c32b0 : (a0_2.toList == ([] : List UInt8)) = true := beq_iff_eq.mpr c32
            have c32b1 : (a0_2.toList != ([] : List UInt8)) = false := bne_eq_false_iff_eq.mpr c32
            clear c32
            by_cases c33 : (l0_3.length : Int) = 0
            ·rw [if_pos c33] at H
             have c33b0 : ((l0_3.length : Int) == 0) = true := beq_iff_eq.mpr c33
             have c33b1 : ((l0_3.length : Int) != 0) = false := bne_eq_false_iff_eq.mpr c33
             clear c33
             obtain rfl := Option.some.inj H
             have hcz34_0 : wc.cell? ⟨gb168, 0, none⟩ = some (.int .i64 a0_0) := (b_ BK168.out 0).trans rfl
             have hcz34_1 : wc.cell? ⟨gb168, 1, none⟩ = some (.string a0_1) := (b_ BK168.out 1).trans rfl
             have hcz34_2 : wc.cell? ⟨gb168, 2, none⟩ = some (.string a0_2) := (b_ BK168.out 2).trans rfl
             have hcz34_3 : wc.cell? ⟨gb168, 3, none⟩ = some (.slice A0_3 l0_3.length c0_3) := (b_ BK168.out 3).trans rfl
             have hcz34_4 : wc.cell? ⟨gb168, 4, none⟩ = some (.int .i64 a0_4) := (b_ BK168.out 4).trans rfl
             have hfz34_0 := a_ BK168.out 0
             have hfz34_1 := a_ BK168.out 1
             have hfz34_2 := a_ BK168.out 2
             have hfz34_3 := a_ BK168.out 3
             have hfz34_4 := a_ BK168.out 4
             go_wp2
             go_ret
             exact ⟨by first | rfl | (simp [i_, g_] <;> rfl) | (simp [*, i_, g_] <;> rfl), HB.out⟩
            ·rw [if_neg c33] at H
             have c33b0 : ((l0_3.length : Int) == 0) = false := beq_eq_false_iff_ne.mpr c33
             have c33b1 : ((l0_3.length : Int) != 0) = true := bne_iff_ne.mpr c33
             have c33b2 : ¬ (l0_3 = []) := fun h_ => c33 (by rw [h_]; rfl)
             obtain rfl := Option.some.inj H
             have hcz35_0 : wc.cell? ⟨gb168, 0, none⟩ = some (.int .i64 a0_0) := (b_ BK168.out 0).trans rfl
             have hcz35_1 : wc.cell? ⟨gb168, 1, none⟩ = some (.string a0_1) := (b_ BK168.out 1).trans rfl
             have hcz35_2 : wc.cell? ⟨gb168, 2, none⟩ = some (.string a0_2) := (b_ BK168.out 2).trans rfl
             have hcz35_3 : wc.cell? ⟨gb168, 3, none⟩ = some (.slice A0_3 l0_3.length c0_3) := (b_ BK168.out 3).trans rfl
             have hcz35_4 : wc.cell? ⟨gb168, 4, none⟩ = some (.int .i64 a0_4) := (b_ BK168.out 4).trans rfl
             have hfz35_0 := a_ BK168.out 0
             have hfz35_1 := a_ BK168.out 1
             have hfz35_2 := a_ BK168.out 2
             have hfz35_3 := a_ BK168.out 3
             have hfz35_4 := a_ BK168.out 4
             go_wp2
             go_ret
             exact ⟨by first | rfl | (simp [i_, g_] <;> rfl) | (simp [*, i_, g_] <;> rfl), HB.out⟩
           ·rw [if_neg c32] at H
            have c32b0 : (a0_2.toList == ([] : List UInt8)) = false := beq_eq_false_iff_ne.mpr c32
            have c32b1 : (a0_2.toList != ([] : List UInt8)) = true := bne_iff_ne.mpr c32
            obtain rfl := Option.some.inj H
            have hcz36_0 : wc.cell? ⟨gb168, 0, none⟩ = some (.int .i64 a0_0) := (b_ BK168.out 0).trans rfl
            have hcz36_1 : wc.cell? ⟨gb168, 1, none⟩ = some (.string a0_1) := (b_ BK168.out 1).trans rfl
            have hcz36_2 : wc.cell? ⟨gb168, 2, none⟩ = some (.string a0_2) := (b_ BK168.out 2).trans rfl
            have hcz36_3 : wc.cell? ⟨gb168, 3, none⟩ = some (.slice A0_3 l0_3.length c0_3) := (b_ BK168.out 3).trans rfl
            have hcz36_4 : wc.cell? ⟨gb168, 4, none⟩ = some (.int .i64 a0_4) := (b_ BK168.out 4).trans rfl
            have hfz36_0 := a_ BK168.out 0
            have hfz36_1 := a_ BK168.out 1
            have hfz36_2 := a_ BK168.out 2
            have hfz36_3 := a_ BK168.out 3
            have hfz36_4 := a_ BK168.out 4
            go_wp2
            go_ret
            exact ⟨by first | rfl | (simp [i_, g_] <;> rfl) | (simp [*, i_, g_] <;> rfl), HB.out⟩
          ·replace c31 := Bool.eq_false_iff.mpr c31
           subst c31
           have H1 : (some false) = some r := by rw [if_neg (show ¬ (false = true) by decide)] at H; exact H
           clear H
           have H := H1
           clear H1
           obtain rfl := Option.some.inj H
           go_wp2
           go_ret
           exact ⟨by first | rfl | (simp [i_, g_] <;> rfl) | (simp [*, i_, g_] <;> rfl), HB.out⟩
         ·replace c30 := Bool.eq_false_iff.mpr c30
          subst c30
          have H1 : (if a0_0 = 2 then (if t171 = true then (if t172 = true then (some (a0_4 == 0)) else (some false)) else (some false)) else (if a0_0 = 6 then (if t171 = true then (if t172 = true then (if (l0_3.length : Int) = 0 then (some (a0_4 == 0)) else (some false)) else (some false)) else (some false)) else (if a0_0 = 8 then (if a0_1.toList = ([] : List UInt8) then (if a0_2.toList = ([] : List UInt8) then (some ((l0_3.length : Int) == 0)) else (some false)) else (some false)) else (if a0_1.toList = ([] : List UInt8) then (if a0_2.toList = ([] : List UInt8) then (if (l0_3.length : Int) = 0 then (some (a0_4 == 0)) else (some false)) else (some false)) else (some false))))) = some r := by rw [if_neg (show ¬ (false = true) by decide)] at H; exact H
          clear H
          have H := H1
          clear H1
          by_cases c37 : a0_0 = 2
          ·rw [if_pos c37] at H
           have c37b0 : (a0_0 == 2) = true := beq_iff_eq.mpr c37
           have c37b1 : (a0_0 != 2) = false := bne_eq_false_iff_eq.mpr c37
           clear c37
           by_cases c38 : t171 = true
           ·subst c38
            have H1 : (if t172 = true then (some (a0_4 == 0)) else (some false)) = some r := by first | (rw [if_pos rfl] at H; with_reducible exact H) | exact (if_pos rfl).symm.trans H | (simp only [if_true, eq_self_iff_true] at H ⊢; exact H)
            clear H
            have H := H1
            clear H1
            by_cases c39 : t172 = true
            ·subst c39
             have H1 : (some (a0_4 == 0)) = some r := by first | (rw [if_pos rfl] at H; with_reducible exact H) | exact (if_pos rfl).symm.trans H | (simp only [if_true, eq_self_iff_true] at H ⊢; exact H)
             clear H
             have H := H1
             clear H1
             obtain rfl := Option.some.inj H
             have hcz40_0 : wc.cell? ⟨gb168, 0, none⟩ = some (.int .i64 a0_0) := (b_ BK168.out 0).trans rfl
             have hcz40_1 : wc.cell? ⟨gb168, 1, none⟩ = some (.string a0_1) := (b_ BK168.out 1).trans rfl
             have hcz40_2 : wc.cell? ⟨gb168, 2, none⟩ = some (.string a0_2) := (b_ BK168.out 2).trans rfl
             have hcz40_3 : wc.cell? ⟨gb168, 3, none⟩ = some (.slice A0_3 l0_3.length c0_3) := (b_ BK168.out 3).trans rfl
             have hcz40_4 : wc.cell? ⟨gb168, 4, none⟩ = some (.int .i64 a0_4) := (b_ BK168.out 4).trans rfl
             have hfz40_0 := a_ BK168.out 0
             have hfz40_1 := a_ BK168.out 1
             have hfz40_2 := a_ BK168.out 2
             have hfz40_3 := a_ BK168.out 3
             have hfz40_4 := a_ BK168.out 4
             go_wp2
             go_ret
             exact ⟨by first | rfl | (simp [i_, g_] <;> rfl) | (simp [*, i_, g_] <;> rfl), HB.out⟩
            ·replace c39 := Bool.eq_false_iff.mpr c39
             subst c39
             have H1 : (some false) = some r := by rw [if_neg (show ¬ (false = true) by decide)] at H; exact H
             clear H
             have H := H1
             clear H1
             obtain rfl := Option.some.inj H
             go_wp2
             go_ret
             exact ⟨by first | rfl | (simp [i_, g_] <;> rfl) | (simp [*, i_, g_] <;> rfl), HB.out⟩
           ·replace c38 := Bool.eq_false_iff.mpr c38
            subst c38
            have H1 : (some false) = some r := by rw [if_neg (show ¬ (false = true) by decide)] at H; exact H
            clear H
            have H := H1
            clear H1
            obtain rfl := Option.some.inj H
            go_wp2
            go_ret
            exact ⟨by first | rfl | (simp [i_, g_] <;> rfl) | (simp [*, i_, g_] <;> rfl), HB.out⟩
          ·rw [if_neg c37] at H
           have c37b0 : (a0_0 == 2) = false := beq_eq_false_iff_ne.mpr c37
           have c37b1 : (a0_0 != 2) = true := bne_iff_ne.mpr c37
           by_cases c41 : a0_0 = 6
           ·rw [if_pos c41] at H
            have c41b0 : (a0_0 == 6) = true := beq_iff_eq.mpr c41
            have c41b1 : (a0_0 != 6) = false := bne_eq_false_iff_eq.mpr c41
            clear c41
            by_cases c42 : t171 = true
            ·subst c42
             have H1 : (if t172 = true then (if (l0_3.length : Int) = 0 then (some (a0_4 == 0)) else (some false)) else (some false)) = some r := by first | (rw [if_pos rfl] at H; with_reducible exact H) | exact (if_pos rfl).symm.trans H | (simp only [if_true, eq_self_iff_true] at H ⊢; exact H)
             clear H
             have H := H1
             clear H1
             by_cases c43 : t172 = true
             ·subst c43
              have H1 : (if (l0_3.length : Int) = 0 then (some (a0_4 == 0)) else (some false)) = some r := by first | (rw [if_pos rfl] at H; with_reducible exact H) | exact (if_pos rfl).symm.trans H | (simp only [if_true, eq_self_iff_true] at H ⊢; exact H)
              clear H
              have H := H1
              clear H1
              by_cases c44 : (l0_3.length : Int) = 0
              ·rw [if_pos c44] at H
               have c44b0 : ((l0_3.length : Int) == 0) = true := beq_iff_eq.mpr c44
               have c44b1 : ((l0_3.length : Int) != 0) = false := bne_eq_false_iff_eq.mpr c44
               clear c44
               obtain rfl := Option.some.inj H
               have hcz45_0 : wc.cell? ⟨gb168, 0, none⟩ = some (.int .i64 a0_0) := (b_ BK168.out 0).trans rfl
               have hcz45_1 : wc.cell? ⟨gb168, 1, none⟩ = some (.string a0_1) := (b_ BK168.out 1).trans rfl
               have hcz45_2 : wc.cell? ⟨gb168, 2, none⟩ = some (.string a0_2) := (b_ BK168.out 2).trans rfl
               have hcz45_3 : wc.cell? ⟨gb168, 3, none⟩ = some (.slice A0_3 l0_3.length c0_3) := (b_ BK168.out 3).trans rfl
               have hcz45_4 : wc.cell? ⟨gb168, 4, none⟩ = some (.int .i64 a0_4) := (b_ BK168.out 4).trans rfl
               have hfz45_0 := a_ BK168.out 0
               have hfz45_1 := a_ BK168.out 1
               have hfz45_2 := a_ BK168.out 2
               have hfz45_3 := a_ BK168.out 3
               have hfz45_4 := a_ BK168.out 4
               go_wp2
               go_ret
               exact ⟨by first | rfl | (simp [i_, g_] <;> rfl) | (simp [*, i_, g_] <;> rfl), HB.out⟩
              ·rw [if_neg c44] at H
               have c44b0 : ((l0_3.length : Int) == 0) = false := beq_eq_false_iff_ne.mpr c44
               have c44b1 : ((l0_3.length : Int) != 0) = true := bne_iff_ne.mpr c44
               have c44b2 : ¬ (l0_3 = []) := fun h_ => c44 (by rw [h_]; rfl)
               obtain rfl := Option.some.inj H
               have hcz46_0 : wc.cell? ⟨gb168, 0, none⟩ = some (.int .i64 a0_0) := (b_ BK168.out 0).trans rfl
               have hcz46_1 : wc.cell? ⟨gb168, 1, none⟩ = some (.string a0_1) := (b_ BK168.out 1).trans rfl
               have hcz46_2 : wc.cell? ⟨gb168, 2, none⟩ = some (.string a0_2) := (b_ BK168.out 2).trans rfl
               have hcz46_3 : wc.cell? ⟨gb168, 3, none⟩ = some (.slice A0_3 l0_3.length c0_3) := (b_ BK168.out 3).trans rfl
               have hcz46_4 : wc.cell? ⟨gb168, 4, none⟩ = some (.int .i64 a0_4) := (b_ BK168.out 4).trans rfl
               have hfz46_0 := a_ BK168.out 0
               have hfz46_1 := a_ BK168.out 1
               have hfz46_2 := a_ BK168.out 2
               have hfz46_3 := a_ BK168.out 3
               have hfz46_4 := a_ BK168.out 4
               go_wp2
               go_ret
               exact ⟨by first | rfl | (simp [i_, g_] <;> rfl) | (simp [*, i_, g_] <;> rfl), HB.out⟩
             ·replace c43 := Bool.eq_false_iff.mpr c43
              subst c43
              have H1 : (some false) = some r := by rw [if_neg (show ¬ (false = true) by decide)] at H; exact H
              clear H
              have H := H1
              clear H1
              obtain rfl := Option.some.inj H
              go_wp2
              go_ret
              exact ⟨by first | rfl | (simp [i_, g_] <;> rfl) | (simp [*, i_, g_] <;> rfl), HB.out⟩
            ·replace c42 := Bool.eq_false_iff.mpr c42
             subst c42
             have H1 : (some false) = some r := by rw [if_neg (show ¬ (false = true) by decide)] at H; exact H
             clear H
             have H := H1
             clear H1
             obtain rfl := Option.some.inj H
             go_wp2
             go_ret
             exact ⟨by first | rfl | (simp [i_, g_] <;> rfl) | (simp [*, i_, g_] <;> rfl), HB.out⟩
           ·rw [if_neg c41] at H
            have c41b0 : (a0_0 == 6) = false := beq_eq_false_iff_ne.mpr c41
            have c41b1 : (a0_0 != 6) = true := bne_iff_ne.mpr c41
            by_cases c47 : a0_0 = 8
            ·rw [if_pos c47] at H
             have c47b0 : (a0_0 == 8) = true := beq_iff_eq.mpr c47
             have c47b1 : (a0_0 != 8) = false := bne_eq_false_iff_eq.mpr c47
             clear c47
             by_cases c48 : a0_1.toList = ([] : List UInt8)
             ·rw [if_pos c48] at H
              have c48b0 : (a0_1.toList == ([] : List UInt8)) = true := beq_iff_eq.mpr c48
              have c48b1 : (a0_1.toList != ([] : List UInt8)) = false := bne_eq_false_iff_eq.mpr c48
              clear c48
              by_cases c49 : a0_2.toList = ([] : List UInt8)
              ·rw [if_pos c49] at H
               have c49b0 : (a0_2.toList == ([] : List UInt8)) = true := beq_iff_eq.mpr c49
               have c49b1 : (a0_2.toList != ([] : List UInt8)) = false := bne_eq_false_iff_eq.mpr c49
               clear c49
               obtain rfl := Option.some.inj H
               have hcz50_0 : wc.cell? ⟨gb168, 0, none⟩ = some (.int .i64 a0_0) := (b_ BK168.out 0).trans rfl
               have hcz50_1 : wc.cell? ⟨gb168, 1, none⟩ = some (.string a0_1) := (b_ BK168.out 1).trans rfl
               have hcz50_2 : wc.cell? ⟨gb168, 2, none⟩ = some (.string a0_2) := (b_ BK168.out 2).trans rfl
               have hcz50_3 : wc.cell? ⟨gb168, 3, none⟩ = some (.slice A0_3 l0_3.length c0_3) := (b_ BK168.out 3).trans rfl
               have hcz50_4 : wc.cell? ⟨gb168, 4, none⟩ = some (.int .i64 a0_4) := (b_ BK168.out 4).trans rfl
               have hfz50_0 := a_ BK168.out 0
               have hfz50_1 := a_ BK168.out 1
               have hfz50_2 := a_ BK168.out 2
               have hfz50_3 := a_ BK168.out 3
               have hfz50_4 := a_ BK168.out 4
               go_wp2
               go_ret
               exact ⟨by first | rfl | (simp [i_, g_] <;> rfl) | (simp [*, i_, g_] <;> rfl), HB.out⟩
              ·rw [if_neg c49] at H
               have c49b0 : (a0_2.toList == ([] : List UInt8)) = false := beq_eq_false_iff_ne.mpr c49
               have c49b1 : (a0_2.toList != ([] : List UInt8)) = true := bne_iff_ne.mpr c49
               obtain rfl := Option.some.inj H
               have hcz51_0 : wc.cell? ⟨gb168, 0, none⟩ = some (.int .i64 a0_0) := (b_ BK168.out 0).trans rfl
               have hcz51_1 : wc.cell? ⟨gb168, 1, none⟩ = some (.string a0_1) := (b_ BK168.out 1).trans rfl
               have hcz51_2 : wc.cell? ⟨gb168, 2, none⟩ = some (.string a0_2) := (b_ BK168.out 2).trans rfl
               have hcz51_3 : wc.cell? ⟨gb168, 3, none⟩ = some (.slice A0_3 l0_3.length c0_3) := (b_ BK168.out 3).trans rfl
               have hcz51_4 : wc.cell? ⟨gb168, 4, none⟩ = some (.int .i64 a0_4) := (b_ BK168.out 4).trans rfl
               have hfz51_0 := a_ BK168.out 0
               have hfz51_1 := a_ BK168.out 1
               have hfz51_2 := a_ BK168.out 2
               have hfz51_3 := a_ BK168.out 3
               have hfz51_4 := a_ BK168.out 4
               go_wp2
               go_ret
               exact ⟨by first | rfl | (simp [i_, g_] <;> rfl) | (simp [*, i_, g_] <;> rfl), HB.out⟩
             ·rw [if_neg c48] at H
              have c48b0 : (a0_1.toList == ([] : List UInt8)) = false := beq_eq_false_iff_ne.mpr c48
              have c48b1 : (a0_1.toList != ([] : List UInt8)) = true := bne_iff_ne.mpr c48
              obtain rfl := Option.some.inj H
              have hcz52_0 : wc.cell? ⟨gb168, 0, none⟩ = some (.int .i64 a0_0) := (b_ BK168.out 0).trans rfl
              have hcz52_1 : wc.cell? ⟨gb168, 1, none⟩ = some (.string a0_1) := (b_ BK168.out 1).trans rfl
              have hcz52_2 : wc.cell? ⟨gb168, 2, none⟩ = some (.string a0_2) := (b_ BK168.out 2).trans rfl
              have hcz52_3 : wc.cell? ⟨gb168, 3, none⟩ = some (.slice A0_3 l0_3.length c0_3) := (b_ BK168.out 3).trans rfl
              have hcz52_4 : wc.cell? ⟨gb168, 4, none⟩ = some (.int .i64 a0_4) := (b_ BK168.out 4).trans rfl
              have hfz52_0 := a_ BK168.out 0
              have hfz52_1 := a_ BK168.out 1
              have hfz52_2 := a_ BK168.out 2
              have hfz52_3 := a_ BK168.out 3
              have hfz52_4 := a_ BK168.out 4
              go_wp2
              go_ret
              exact ⟨by first | rfl | (simp [i_, g_] <;> rfl) | (simp [*, i_, g_] <;> rfl), HB.out⟩
            ·rw [if_neg c47] at H
             have c47b0 : (a0_0 == 8) = false := beq_eq_false_iff_ne.mpr c47
             have c47b1 : (a0_0 != 8) = true := bne_iff_ne.mpr c47
             by_cases c53 : a0_1.toList = ([] : List UInt8)
             ·rw [if_pos c53] at H
              have c53b0 : (a0_1.toList == ([] : List UInt8)) = true := beq_iff_eq.mpr c53
              have c53b1 : (a0_1.toList != ([] : List UInt8)) = false := bne_eq_false_iff_eq.mpr c53
              clear c53
              by_cases c54 : a0_2.toList = ([] : List UInt8)
              ·rw [if_pos c54] at H
               have c54b0 : (a0_2.toList == ([] : List UInt8)) = true := beq_iff_eq.mpr c54
               have c54b1 : (a0_2.toList != ([] : List UInt8)) = false := bne_eq_false_iff_eq.mpr c54
               clear c54
               by_cases c55 : (l0_3.length : Int) = 0
               ·rw [if_pos c55] at H
                have c55b0 : ((l0_3.length : Int) == 0) = true := beq_iff_eq.mpr c55
                have c55b1 : ((l0_3.length : Int) != 0) = false := bne_eq_false_iff_eq.mpr c55
                clear c55
                obtain rfl := Option.some.inj H
                have hcz56_0 : wc.cell? ⟨gb168, 0, none⟩ = some (.int .i64 a0_0) := (b_ BK168.out 0).trans rfl
                have hcz56_1 : wc.cell? ⟨gb168, 1, none⟩ = some (.string a0_1) := (b_ BK168.out 1).trans rfl
                have hcz56_2 : wc.cell? ⟨gb168, 2, none⟩ = some (.string a0_2) := (b_ BK168.out 2).trans rfl
                have hcz56_3 : wc.cell? ⟨gb168, 3, none⟩ = some (.slice A0_3 l0_3.length c0_3) := (b_ BK168.out 3).trans rfl
                have hcz56_4 : wc.cell? ⟨gb168, 4, none⟩ = some (.int .i64 a0_4) := (b_ BK168.out 4).trans rfl
                have hfz56_0 := a_ BK168.out 0
                have hfz56_1 := a_ BK168.out 1
                have hfz56_2 := a_ BK168.out 2
                have hfz56_3 := a_ BK168.out 3
                have hfz56_4 := a_ BK168.out 4
                go_wp2
                go_ret
                exact ⟨by first | rfl | (simp [i_, g_] <;> rfl) | (simp [*, i_, g_] <;> rfl), HB.out⟩
               ·rw [if_neg c55] at H
                have c55b0 : ((l0_3.length : Int) == 0) = false := beq_eq_false_iff_ne.mpr c55
                have c55b1 : ((l0_3.length : Int) != 0) = true := bne_iff_ne.mpr c55
                have c55b2 : ¬ (l0_3 = []) := fun h_ => c55 (by rw [h_]; rfl)
                obtain rfl := Option.some.inj H
                have hcz57_0 : wc.cell? ⟨gb168, 0, none⟩ = some (.int .i64 a0_0) := (b_ BK168.out 0).trans rfl
                have hcz57_1 : wc.cell? ⟨gb168, 1, none⟩ = some (.string a0_1) := (b_ BK168.out 1).trans rfl
                have hcz57_2 : wc.cell? ⟨gb168, 2, none⟩ = some (.string a0_2) := (b_ BK168.out 2).trans rfl
                have hcz57_3 : wc.cell? ⟨gb168, 3, none⟩ = some (.slice A0_3 l0_3.length c0_3) := (b_ BK168.out 3).trans rfl
                have hcz57_4 : wc.cell? ⟨gb168, 4, none⟩ = some (.int .i64 a0_4) := (b_ BK168.out 4).trans rfl
                have hfz57_0 := a_ BK168.out 0
                have hfz57_1 := a_ BK168.out 1
                have hfz57_2 := a_ BK168.out 2
                have hfz57_3 := a_ BK168.out 3
                have hfz57_4 := a_ BK168.out 4
                go_wp2
                go_ret
                exact ⟨by first | rfl | (simp [i_, g_] <;> rfl) | (simp [*, i_, g_] <;> rfl), HB.out⟩
              ·rw [if_neg c54] at H
               have c54b0 : (a0_2.toList == ([] : List UInt8)) = false := beq_eq_false_iff_ne.mpr c54
               have c54b1 : (a0_2.toList != ([] : List UInt8)) = true := bne_iff_ne.mpr c54
               obtain rfl := Option.some.inj H
               have hcz58_0 : wc.cell? ⟨gb168, 0, none⟩ = some (.int .i64 a0_0) := (b_ BK168.out 0).trans rfl
               have hcz58_1 : wc.cell? ⟨gb168, 1, none⟩ = some (.string a0_1) := (b_ BK168.out 1).trans rfl
               have hcz58_2 : wc.cell? ⟨gb168, 2, none⟩ = some (.string a0_2) := (b_ BK168.out 2).trans rfl
               have hcz58_3 : wc.cell? ⟨gb168, 3, none⟩ = some (.slice A0_3 l0_3.length c0_3) := (b_ BK168.out 3).trans rfl
               have hcz58_4 : wc.cell? ⟨gb168, 4, none⟩ = some (.int .i64 a0_4) := (b_ BK168.out 4).trans rfl
               have hfz58_0 := a_ BK168.out 0
               have hfz58_1 := a_ BK168.out 1
               have hfz58_2 := a_ BK168.out 2
               have hfz58_3 := a_ BK168.out 3
               have hfz58_4 := a_ BK168.out 4
               go_wp2
               go_ret
               exact ⟨by first | rfl | (simp [i_, g_] <;> rfl) | (simp [*, i_, g_] <;> rfl), HB.out⟩
             ·rw [if_neg c53] at H
              have c53b0 : (a0_1.toList == ([] : List UInt8)) = false := beq_eq_false_iff_ne.mpr c53
              have c53b1 : (a0_1.toList != ([] : List UInt8)) = true := bne_iff_ne.mpr c53
              obtain rfl := Option.some.inj H
              have hcz59_0 : wc.cell? ⟨gb168, 0, none⟩ = some (.int .i64 a0_0) := (b_ BK168.out 0).trans rfl
              have hcz59_1 : wc.cell? ⟨gb168, 1, none⟩ = some (.string a0_1) := (b_ BK168.out 1).trans rfl
              have hcz59_2 : wc.cell? ⟨gb168, 2, none⟩ = some (.string a0_2) := (b_ BK168.out 2).trans rfl
              have hcz59_3 : wc.cell? ⟨gb168, 3, none⟩ = some (.slice A0_3 l0_3.length c0_3) := (b_ BK168.out 3).trans rfl
              have hcz59_4 : wc.cell? ⟨gb168, 4, none⟩ = some (.int .i64 a0_4) := (b_ BK168.out 4).trans rfl
              have hfz59_0 := a_ BK168.out 0
              have hfz59_1 := a_ BK168.out 1
              have hfz59_2 := a_ BK168.out 2
              have hfz59_3 := a_ BK168.out 3
              have hfz59_4 := a_ BK168.out 4
              go_wp2
              go_ret
              exact ⟨by first | rfl | (simp [i_, g_] <;> rfl) | (simp [*, i_, g_] <;> rfl), HB.out⟩
end Go.Proofs.YtlcfcaokihoplaaGreatDoor.Ms
