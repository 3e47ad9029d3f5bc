-- Cut by a program of this session (wip/shake.py) out of a text of this seat: what this claim doesn't reach is struck out. Lean checks it.
import Derived.Test.YtpbbgbikebcnbaaMsx0Cx
import Derived.Test.YtpbbgbikebcnbaaMsx5Cx
namespace Go.Proofs.Ytpbbgbikebcnbaa.Ms
open Go.RowKit Go.Proofs.YtpbbgbikebcnbaaW.PrintWords Go.Proofs.YtpbbgbikebcnbaaW.PrintLast Go.Proofs.YtpbbgbikebcnbaaW.PrintMore
attribute [local go_sem] max2_int min2_int max_two min_two max_three min_three max_four min_four   -- for this text's walks alone
set_option linter.unusedVariables false
set_option linter.unusedSimpArgs false
attribute [local go_sem] eqlErr neqErr eqlErrNil neqErrNil
open Go.Proofs.Ytpbbgbikebcnbaa.Mw
mutual
def becketref04_Short.l0 : Nat → List (S58) → Int → Option (Bool)
  | 0, _, _ => none
  | k + 1, x0, x3 => if x3 < (x0.length : Int) then (if 0 ≤ x3 then (if (((rd_T58 x0 x3).f0).size : Int) > 2000 then (becketref04_Short.j1 k x0 x3 true) else (becketref04_Short.j1 k x0 x3 (decide ((((rd_T58 x0 x3).f2).length : Int) > 1200)))) else (none)) else (some true)
def becketref04_Short.j1 : Nat → List (S58) → Int → Bool → Option (Bool)
  | 0, _, _, _ => none
  | k + 1, x0, x3, x29 => if x29 = true then (some false) else (becketref04_Short.l1 k x0 x3 0)
def becketref04_Short.l1 : Nat → List (S58) → Int → Int → Option (Bool)
  | 0, _, _, _ => none
  | k + 1, x0, x3, x4 => if 0 ≤ x3 then (if x3 < (x0.length : Int) then (if x4 < (((rd_T58 x0 x3).f2).length : Int) then (if 0 ≤ x4 then (if ((rdOf ByteArray.empty ((rd_T58 x0 x3).f2) x4).size : Int) > 2000 then (some false) else (becketref04_Short.l1 k x0 x3 (wrap64 (x4 + 1)))) else (none)) else (becketref04_Short.l0 k x0 (wrap64 (x3 + 1)))) else (none)) else (none)
end
def becketref04_Short.f (k : Nat) (l0 : List (S58)) : Option (Bool) := if (l0.length : Int) > 100 then (some false) else (becketref04_Short.l0 k l0 0)
set_option maxHeartbeats 8000000 in
set_option maxRecDepth 100000 in
theorem becketref04_Short.calls (k : Nat) (A0 : Option Addr) (c0 : Nat) (l0 : List (S58)) (r : Bool) (w : World) (hr0 : Kd.C k58 w A0 l0.length l0) (hc0 : l0.length ≤ c0) (h : becketref04_Short.f k l0 = some r) :
    Calls Try.prog 20 #[.slice A0 l0.length c0] w fun e w' => e = .returned (.bool r) ∧ Drawn0 w w' := by
  have HR0 := Aside0.mk hr0
  have HC0 := Aside0.mk hc0
  clear hr0 hc0
  have H : (if (l0.length : Int) > 100 then (some false) else (becketref04_Short.l0 k l0 0)) = some r := h
  clear h
  by_cases c2 : (l0.length : Int) > 100
  · rw [if_pos c2] at H
    have c2b0 : decide (100 < (l0.length : Int)) = true := decide_eq_true c2
    have c2b1 : decide (100 < l0.length) = true := decide_eq_true (by omega)
    clear c2
    obtain rfl := Option.some.inj H
    go_enter Try.func20, Try.ntmps20
    go_wp2
    go_ret
    exact ⟨by first | rfl | (simp; done) | (simp [*]; done), by repeat (first | exact Drawn0.refl _ | apply Drawn0.step)⟩
  · rw [if_neg c2] at H
    have c2b0 : decide (100 < (l0.length : Int)) = false := decide_eq_false c2
    have c2b1 : decide (100 < l0.length) = false := decide_eq_false (by omega)
    clear c2
    have H' := Aside0.mk H
    clear H
    go_enter Try.func20, Try.ntmps20
    go_wp2
    go_loopg [3] k (fun kq v3 w' => ∃ (x3_1 : Int), v3 = .int .i64 x3_1 ∧ Aside0 (becketref04_Short.l0 kq l0 x3_1 = some r) ∧ Aside0 (kq ≤ k) ∧ Drawn0 w w')
    case atStart => exact ⟨(0), (by first | rfl | (simp; done) | (simp [*]; done)), H', ⟨Nat.le_refl _⟩, by repeat (first | exact Drawn0.refl _ | apply Drawn0.step)⟩
    case round =>
      clear H'
      try clear c2
      try clear c2b0
      try clear c2b1
      try clear p2
      obtain ⟨x3_1, rfl, HA, HK1, ⟨m1, rfl⟩⟩ := hrel
      cases gk with
      | zero => exact absurd HA.out (by simp [becketref04_Short.l0])
      | succ k1 =>
        have H := HA.out
        clear HA
        simp only [becketref04_Short.l0] at H
        by_cases c3 : x3_1 < (l0.length : Int)
        · rw [if_pos c3] at H
          have c3b0 : decide (x3_1 < (l0.length : Int)) = true := decide_eq_true c3
          clear c3
          have HC4 := Aside0.mk H
          clear H
          go_upto_region 6 with (fail)
          go_cut [29] (fun v29 wc => ∃ (kq : Nat) (x29_3 : Bool), v29 = .bool x29_3 ∧ Aside0 (becketref04_Short.j1 kq l0 x3_1 x29_3 = some r) ∧ Aside0 (kq ≤ k1) ∧ Drawn0 w wc)
          case first =>
            have H := HC4.out
            clear HC4
            by_cases c5 : 0 ≤ x3_1
            · rw [if_pos c5] at H
              have c5b0 : decide (0 ≤ x3_1) = true := decide_eq_true c5
              clear c5
              (first | rw [c5b0] | (simp only [i64_w, i32_w]; rw [c5b0]) | skip)
              by_cases c6 : (((rd_T58 l0 x3_1).f0).size : Int) > 2000
              · rw [if_pos c6] at H
                have c6b0 : decide (2000 < (((rd_T58 l0 x3_1).f0).size : Int)) = true := decide_eq_true c6
                have c6b1 : decide (2000 < ((rd_T58 l0 x3_1).f0).size) = true := decide_eq_true (by omega)
                clear c6
                have H' := Aside0.mk H
                clear H
                have p635 : 0 ≤ (x3_1 : Int) := of_decide_eq_true (by first | (with_reducible assumption) | assumption)
                have q635 : x3_1 < (l0.length : Int) := of_decide_eq_true (by first | (with_reducible assumption) | assumption)
                obtain ⟨ad635, A635_2, c635_2, e635, hx635_0, hx635_1, hx635_2, hl635_2, hi635_2⟩ := at_T58 HR0.out x3_1 p635 q635
                cases e635
                have HR635_2 := Aside0.mk hi635_2
                have HC635_2 := Aside0.mk hl635_2
                clear hi635_2 hl635_2
                replace p635 := eq_true p635
                replace q635 := eq_true q635
                go_wp2
                go_meet
                case rel => exact ⟨_, (true), (by first | rfl | (simp; done) | (simp [*]; done)), H', ⟨by have := HK1.out; first | omega | exact Nat.le_refl _⟩, by repeat (first | exact Drawn0.refl _ | apply Drawn0.step)⟩
              · rw [if_neg c6] at H
                have c6b0 : decide (2000 < (((rd_T58 l0 x3_1).f0).size : Int)) = false := decide_eq_false c6
                have c6b1 : decide (2000 < ((rd_T58 l0 x3_1).f0).size) = false := decide_eq_false (by omega)
                clear c6
                have H' := Aside0.mk H
                clear H
                have p635 : 0 ≤ (x3_1 : Int) := of_decide_eq_true (by first | (with_reducible assumption) | assumption)
                have q635 : x3_1 < (l0.length : Int) := of_decide_eq_true (by first | (with_reducible assumption) | assumption)
                obtain ⟨ad635, A635_2, c635_2, e635, hx635_0, hx635_1, hx635_2, hl635_2, hi635_2⟩ := at_T58 HR0.out x3_1 p635 q635
                cases e635
                have HR635_2 := Aside0.mk hi635_2
                have HC635_2 := Aside0.mk hl635_2
                clear hi635_2 hl635_2
                replace p635 := eq_true p635
                replace q635 := eq_true q635
                have p636 : 0 ≤ (x3_1 : Int) := of_decide_eq_true (by first | (with_reducible assumption) | assumption)
                have q636 : x3_1 < (l0.length : Int) := of_decide_eq_true (by first | (with_reducible assumption) | assumption)
                obtain ⟨ad636, A636_2, c636_2, e636, hx636_0, hx636_1, hx636_2, hl636_2, hi636_2⟩ := at_T58 HR0.out x3_1 p636 q636
                obtain rfl : ad635 = ad636 := (by injection e636)
                have HR636_2 := Aside0.mk hi636_2
                have HC636_2 := Aside0.mk hl636_2
                clear hi636_2 hl636_2
                replace p636 := eq_true p636
                replace q636 := eq_true q636
                have ea_ := Option.some.inj (hx635_2.symm.trans hx636_2)
                injection ea_ with ea_ en_ ec_
                subst ea_
                subst ec_
                clear en_
                go_wp2
                go_meet
                case rel => exact ⟨_, (decide ((((rd_T58 l0 x3_1).f2).length : Int) > 1200)), (by first | rfl | (simp; done) | (simp [*]; done)), H', ⟨by have := HK1.out; first | omega | exact Nat.le_refl _⟩, by repeat (first | exact Drawn0.refl _ | apply Drawn0.step)⟩
            · rw [if_neg c5] at H
              exact absurd H (by simp)
          case rest =>
            clear HC4
            try clear c2
            try clear c2b0
            try clear c2b1
            try clear p2
            try clear c3
            try clear c3b0
            try clear c5
            try clear c5b0
            try clear c6
            try clear c6b0
            try clear c6b1
            try clear p6
            try clear q6
            try clear hx6
            try clear hx635_0
            try clear hx635_1
            try clear hx635_2
            try clear hx636_0
            try clear hx636_1
            try clear hx636_2
            try clear p2
            try clear p635
            try clear p636
            try clear q635
            try clear q636
            obtain ⟨kq, x29_3, rfl, HA, HJ3, ⟨mc3, rfl⟩⟩ := hcut
            cases kq with
            | zero => exact absurd HA.out (by simp [becketref04_Short.j1])
            | succ kj3 =>
              have H := HA.out
              clear HA
              simp only [becketref04_Short.j1] at H
              by_cases c7 : x29_3 = true
              · subst c7
                have H1 : (some false) = some r := by first | (rw [if_pos rfl] at H; with_reducible exact H) | exact (if_pos rfl).symm.trans H | (simp only [if_true, eq_self_iff_true] at H ⊢; exact H)
                clear H
                have H := H1
                clear H1
                obtain rfl := Option.some.inj H
                go_wp2
                go_ret
                exact ⟨by first | rfl | (simp; done) | (simp [*]; done), by repeat (first | exact Drawn0.refl _ | apply Drawn0.step)⟩
              · replace c7 := Bool.eq_false_iff.mpr c7
                subst c7
                have H1 : (becketref04_Short.l1 kj3 l0 x3_1 0) = some r := by rw [if_neg (show ¬ (false = true) by decide)] at H; exact H
                clear H
                have H := H1
                clear H1
                have H' := Aside0.mk H
                clear H
                go_wp2
                go_loopg [4] kj3 (fun kq v4 w' => ∃ (x4_3 : Int), v4 = .int .i64 x4_3 ∧ Aside0 (becketref04_Short.l1 kq l0 x3_1 x4_3 = some r) ∧ Aside0 (kq ≤ kj3) ∧ Drawn0 w w')
                case atStart => exact ⟨(0), (by first | rfl | (simp; done) | (simp [*]; done)), H', ⟨Nat.le_refl _⟩, by repeat (first | exact Drawn0.refl _ | apply Drawn0.step)⟩
                case round =>
                  clear H'
                  try clear c2
                  try clear c2b0
                  try clear c2b1
                  try clear p2
                  try clear c3
                  try clear c3b0
                  try clear c5
                  try clear c5b0
                  try clear c6
                  try clear c6b0
                  try clear c6b1
                  try clear p6
                  try clear q6
                  try clear hx6
                  try clear c7
                  try clear hx635_0
                  try clear hx635_1
                  try clear hx635_2
                  try clear hx636_0
                  try clear hx636_1
                  try clear hx636_2
                  try clear p2
                  try clear p6
                  try clear p635
                  try clear p636
                  try clear q6
                  try clear q635
                  try clear q636
                  obtain ⟨x4_3, rfl, HA, HK3, ⟨m3, rfl⟩⟩ := hrel
                  cases gk with
                  | zero => exact absurd HA.out (by simp [becketref04_Short.l1])
                  | succ k3 =>
                    have H := HA.out
                    clear HA
                    simp only [becketref04_Short.l1] at H
                    by_cases c8 : 0 ≤ x3_1
                    · rw [if_pos c8] at H
                      have c8b0 : decide (0 ≤ x3_1) = true := decide_eq_true c8
                      clear c8
                      by_cases c9 : x3_1 < (l0.length : Int)
                      · rw [if_pos c9] at H
                        have c9b0 : decide (x3_1 < (l0.length : Int)) = true := decide_eq_true c9
                        clear c9
                        by_cases c10 : x4_3 < (((rd_T58 l0 x3_1).f2).length : Int)
                        · rw [if_pos c10] at H
                          have c10b0 : decide (x4_3 < (((rd_T58 l0 x3_1).f2).length : Int)) = true := decide_eq_true c10
                          clear c10
                          by_cases c11 : 0 ≤ x4_3
                          · rw [if_pos c11] at H
                            have c11b0 : decide (0 ≤ x4_3) = true := decide_eq_true c11
                            clear c11
                            by_cases c12 : ((rdOf ByteArray.empty ((rd_T58 l0 x3_1).f2) x4_3).size : Int) > 2000
                            · rw [if_pos c12] at H
                              have c12b0 : decide (2000 < ((rdOf ByteArray.empty ((rd_T58 l0 x3_1).f2) x4_3).size : Int)) = true := decide_eq_true c12
                              have c12b1 : decide (2000 < (rdOf ByteArray.empty ((rd_T58 l0 x3_1).f2) x4_3).size) = true := decide_eq_true (by omega)
                              clear c12
                              obtain rfl := Option.some.inj H
                              have p637 : 0 ≤ (x3_1 : Int) := of_decide_eq_true (by first | (with_reducible assumption) | assumption)
                              have q637 : x3_1 < (l0.length : Int) := of_decide_eq_true (by first | (with_reducible assumption) | assumption)
                              obtain ⟨ad637, A637_2, c637_2, e637, hx637_0, hx637_1, hx637_2, hl637_2, hi637_2⟩ := at_T58 HR0.out x3_1 p637 q637
                              cases e637
                              have HR637_2 := Aside0.mk hi637_2
                              have HC637_2 := Aside0.mk hl637_2
                              clear hi637_2 hl637_2
                              replace p637 := eq_true p637
                              replace q637 := eq_true q637
                              have p638 : 0 ≤ (x3_1 : Int) := of_decide_eq_true (by first | (with_reducible assumption) | assumption)
                              have q638 : x3_1 < (l0.length : Int) := of_decide_eq_true (by first | (with_reducible assumption) | assumption)
                              obtain ⟨ad638, A638_2, c638_2, e638, hx638_0, hx638_1, hx638_2, hl638_2, hi638_2⟩ := at_T58 HR0.out x3_1 p638 q638
                              obtain rfl : ad637 = ad638 := (by injection e638)
                              have HR638_2 := Aside0.mk hi638_2
                              have HC638_2 := Aside0.mk hl638_2
                              clear hi638_2 hl638_2
                              replace p638 := eq_true p638
                              replace q638 := eq_true q638
                              have ea_ := Option.some.inj (hx637_2.symm.trans hx638_2)
                              injection ea_ with ea_ en_ ec_
                              subst ea_
                              subst ec_
                              clear en_
                              have p639 : 0 ≤ (x4_3 : Int) := of_decide_eq_true (by first | (with_reducible assumption) | assumption)
                              have q639 : x4_3 < (((rd_T58 l0 x3_1).f2).length : Int) := of_decide_eq_true (by first | (with_reducible assumption) | assumption)
                              obtain ⟨ad639, e639, hx639_0⟩ := Kd.at_string HR638_2.out x4_3 p639 q639
                              cases e639
                              replace p639 := eq_true p639
                              replace q639 := eq_true q639
                              go_wp2
                              go_ret
                              exact ⟨by first | rfl | (simp; done) | (simp [*]; done), by repeat (first | exact Drawn0.refl _ | apply Drawn0.step)⟩
                            · rw [if_neg c12] at H
                              have c12b0 : decide (2000 < ((rdOf ByteArray.empty ((rd_T58 l0 x3_1).f2) x4_3).size : Int)) = false := decide_eq_false c12
                              have c12b1 : decide (2000 < (rdOf ByteArray.empty ((rd_T58 l0 x3_1).f2) x4_3).size) = false := decide_eq_false (by omega)
                              clear c12
                              have H' := Aside0.mk H
                              clear H
                              have p637 : 0 ≤ (x3_1 : Int) := of_decide_eq_true (by first | (with_reducible assumption) | assumption)
                              have q637 : x3_1 < (l0.length : Int) := of_decide_eq_true (by first | (with_reducible assumption) | assumption)
                              obtain ⟨ad637, A637_2, c637_2, e637, hx637_0, hx637_1, hx637_2, hl637_2, hi637_2⟩ := at_T58 HR0.out x3_1 p637 q637
                              cases e637
                              have HR637_2 := Aside0.mk hi637_2
                              have HC637_2 := Aside0.mk hl637_2
                              clear hi637_2 hl637_2
                              replace p637 := eq_true p637
                              replace q637 := eq_true q637
                              have p638 : 0 ≤ (x3_1 : Int) := of_decide_eq_true (by first | (with_reducible assumption) | assumption)
                              have q638 : x3_1 < (l0.length : Int) := of_decide_eq_true (by first | (with_reducible assumption) | assumption)
                              obtain ⟨ad638, A638_2, c638_2, e638, hx638_0, hx638_1, hx638_2, hl638_2, hi638_2⟩ := at_T58 HR0.out x3_1 p638 q638
                              obtain rfl : ad637 = ad638 := (by injection e638)
                              have HR638_2 := Aside0.mk hi638_2
                              have HC638_2 := Aside0.mk hl638_2
                              clear hi638_2 hl638_2
                              replace p638 := eq_true p638
                              replace q638 := eq_true q638
                              have ea_ := Option.some.inj (hx637_2.symm.trans hx638_2)
                              injection ea_ with ea_ en_ ec_
                              subst ea_
                              subst ec_
                              clear en_
                              have p639 : 0 ≤ (x4_3 : Int) := of_decide_eq_true (by first | (with_reducible assumption) | assumption)
                              have q639 : x4_3 < (((rd_T58 l0 x3_1).f2).length : Int) := of_decide_eq_true (by first | (with_reducible assumption) | assumption)
                              obtain ⟨ad639, e639, hx639_0⟩ := Kd.at_string HR638_2.out x4_3 p639 q639
                              cases e639
                              replace p639 := eq_true p639
                              replace q639 := eq_true q639
                              go_wp2
                              go_roundg k3
                              case measure => have := HK1.out; have := HJ3.out; have := HK3.out; omega
                              case rel => exact ⟨(wrap64 (x4_3 + 1)), (by first | rfl | (simp; done) | (simp [*]; done)), H', ⟨by have := HK1.out; have := HJ3.out; have := HK3.out; omega⟩, by repeat (first | exact Drawn0.refl _ | apply Drawn0.step)⟩
                          · rw [if_neg c11] at H
                            exact absurd H (by simp)
                        · rw [if_neg c10] at H
                          have c10b0 : decide (x4_3 < (((rd_T58 l0 x3_1).f2).length : Int)) = false := decide_eq_false c10
                          clear c10
                          have H' := Aside0.mk H
                          clear H
                          have p637 : 0 ≤ (x3_1 : Int) := of_decide_eq_true (by first | (with_reducible assumption) | assumption)
                          have q637 : x3_1 < (l0.length : Int) := of_decide_eq_true (by first | (with_reducible assumption) | assumption)
                          obtain ⟨ad637, A637_2, c637_2, e637, hx637_0, hx637_1, hx637_2, hl637_2, hi637_2⟩ := at_T58 HR0.out x3_1 p637 q637
                          cases e637
                          have HR637_2 := Aside0.mk hi637_2
                          have HC637_2 := Aside0.mk hl637_2
                          clear hi637_2 hl637_2
                          replace p637 := eq_true p637
                          replace q637 := eq_true q637
                          go_wp2
                          go_roundg k3
                          case measure => have := HK1.out; have := HJ3.out; have := HK3.out; omega
                          case rel => exact ⟨(wrap64 (x3_1 + 1)), (by first | rfl | (simp; done) | (simp [*]; done)), H', ⟨by have := HK1.out; have := HJ3.out; have := HK3.out; omega⟩, by repeat (first | exact Drawn0.refl _ | apply Drawn0.step)⟩
                      · rw [if_neg c9] at H
                        exact absurd H (by simp)
                    · rw [if_neg c8] at H
                      exact absurd H (by simp)
        · rw [if_neg c3] at H
          have c3b0 : decide (x3_1 < (l0.length : Int)) = false := decide_eq_false c3
          clear c3
          obtain rfl := Option.some.inj H
          go_wp2
          go_ret
          exact ⟨by first | rfl | (simp; done) | (simp [*]; done), by repeat (first | exact Drawn0.refl _ | apply Drawn0.step)⟩
def longB (s : ByteArray) : Bool := decide (4096 < s.size)
def entryBad (x : S58) : Bool := decide (x.f1 < 0) || (longB x.f0 || x.f2.any longB)
def fitsB (c n : Int) (names keys : List ByteArray) (es : List S58) : Bool := decide (0 ≤ c) && (decide (0 ≤ n) && (!(names.any longB) && (!(keys.any longB) && !(es.any entryBad))))
theorem long_calls (s : ByteArray) (w : World) : Calls Try.prog 52 #[.string s] w fun e w' => e = .returned (.bool (longB s)) ∧ Below w.heap.size w w' := by
  have hP : longB s = decide (4096 < s.size) := rfl
  rw [hP]
  by_cases h : 4096 < s.size
  · have d : decide ((4096 : Int) < (s.size : Int)) = true := decide_eq_true (by omega)
    rw [decide_eq_true h]
    clear h hP
    go_enter Try.func52, Try.ntmps52
    go_wp2
    go_ret
    exact ⟨rfl, Below.refl _ _⟩
  · have d : decide ((4096 : Int) < (s.size : Int)) = false := decide_eq_false (by omega)
    rw [decide_eq_false h]
    clear h hP
    go_enter Try.func52, Try.ntmps52
    go_wp2
    go_ret
    exact ⟨rfl, Below.refl _ _⟩
theorem longs_calls (A : Option Addr) (c : Nat) (l : List ByteArray) (w : World) (hC : Kd.C Kd.string w A l.length l) : Calls Try.prog 69 #[.slice A l.length c, .func (.func 52) #[] #[]] w fun e w' => e = .returned (.bool (l.any longB)) ∧ Below w.heap.size w w' :=
  Go.Proofs.Ytpbbgbikebcnbaa.MsgC.has_str Kd.string rfl longB 52 (enters_of Try.func52 (by kernel_rfl) rfl) A c l w hC (fun W2 x u _ hk => by
      obtain rfl : u = .string x := List.head_eq_of_cons_eq hk
      exact long_calls x W2)
set_option maxHeartbeats 4000000 in
theorem fits1_calls (x : S58) (A : Option Addr) (c : Nat) (w : World) (hC : Kd.C Kd.string w A x.f2.length x.f2) (hc : x.f2.length ≤ c) :
    Calls Try.prog 68 #[.agg #[.string x.f0, .int .i64 x.f1, .slice A x.f2.length c]] w fun e w' => e = .returned (.bool (entryBad x)) ∧ Below w.heap.size w w' := by
  obtain ⟨s, v, l⟩ := x
  dsimp only at hC hc ⊢
  have HN := Lib.hid (fun (s : ByteArray) (W : World) => long_calls s W)
  have HH := Lib.hid (fun (W : World) (hW : Below w.heap.size w W) => longs_calls A c l W (Kd.C_below hC hW))
  have hP : entryBad ⟨s, v, l⟩ = (decide (v < 0) || (longB s || l.any longB)) := rfl
  rw [hP]
  generalize hq1 : longB s = q1
  have HQ1 := Lib.hid hq1
  generalize l.any longB = q2 at HH ⊢
  have hB0 := Lib.hid ((Below.refl w.heap.size w).alloc (Nat.le_refl _) (.cells #[.string s, .int .i64 v, .slice A l.length c] 58))
  clear hP hq1 hC
  by_cases h1 : v < 0
  · have d1 : decide (v < 0) = true := decide_eq_true h1
    rw [d1]
    clear h1
    go_enter Try.func68, Try.ntmps68
    go_wp2
    go_ret
    exact ⟨rfl, hB0.out⟩
  have d1 : decide (v < 0) = false := decide_eq_false h1
  rw [d1]
  clear h1
  go_enter Try.func68, Try.ntmps68
  go_wp2_with fail
  refine (HN.out s _).mono ?_
  rintro e w1 ⟨rfl, hb⟩
  have HB1 := Lib.hid (hB0.out.trans (hb.mono hB0.out.size))
  have HK := Lib.hid (blk_below (heap_alloc_new w (.cells #[.string s, .int .i64 v, .slice A l.length c] 58)) hb)
  have k2 := ((blk_cell HK.out 2).trans rfl : w1.cell? ⟨w.heap.size, 2, none⟩ = some (.slice A l.length c))
  clear hb
  rw [HQ1.out]
  cases q1 with
  | true =>
    go_wp2
    go_ret
    exact ⟨rfl, HB1.out⟩
  | false =>
    go_wp2_with fail
    refine (HH.out _ HB1.out).mono ?_
    rintro e w3 ⟨rfl, hb⟩
    have HB := Lib.hid hb
    clear hb
    go_wp2
    go_ret
    exact ⟨by simp, HB1.out.trans (HB.out.mono HB1.out.size)⟩
def msg_fits.f (a0 a1 : Int) (l0 l1 : List ByteArray) (l2 : List S58) : Option Bool := some (fitsB a0 a1 l0 l1 l2)
set_option maxHeartbeats 4000000 in
theorem msg_fits.calls (a0_0 : Int) (a0_1 : Int) (A0_2 : Option Addr) (c0_2 : Nat) (l0_2 : List ByteArray) (A0_3 : Option Addr) (c0_3 : Nat) (l0_3 : List ByteArray) (A0_4 : Option Addr) (c0_4 : Nat) (l0_4 : List S58) (r : Bool) (w : World) (hr0_2 : Kd.C Kd.string w A0_2 l0_2.length l0_2) (hc0_2 : l0_2.length ≤ c0_2) (hr0_3 : Kd.C Kd.string w A0_3 l0_3.length l0_3) (hc0_3 : l0_3.length ≤ c0_3) (hr0_4 : Kd.C k58 w A0_4 l0_4.length l0_4) (hc0_4 : l0_4.length ≤ c0_4) (h : msg_fits.f a0_0 a0_1 l0_2 l0_3 l0_4 = some r) :
    Calls Try.prog 48 #[.agg #[.int .i64 a0_0, .int .i64 a0_1, .slice A0_2 l0_2.length c0_2, .slice A0_3 l0_3.length c0_3, .slice A0_4 l0_4.length c0_4]] w fun e w' => e = .returned (.bool r) ∧ Below w.heap.size w w' := by
  obtain rfl := Option.some.inj h
  have H2 := Lib.hid (fun (W : World) (hW : Below w.heap.size w W) => longs_calls A0_2 c0_2 l0_2 W (Kd.C_below hr0_2 hW))
  have H3 := Lib.hid (fun (W : World) (hW : Below w.heap.size w W) => longs_calls A0_3 c0_3 l0_3 W (Kd.C_below hr0_3 hW))
  have h4 : ∀ W : World, Below w.heap.size w W → Calls Try.prog 70 #[.slice A0_4 l0_4.length c0_4, .func (.func 68) #[] #[]] W fun e w' => e = .returned (.bool (l0_4.any entryBad)) ∧ Below W.heap.size W w' := fun W hW =>
    Go.Proofs.Ytpbbgbikebcnbaa.MsgC.has_entry k58 rfl entryBad 68 (enters_of Try.func68 (by kernel_rfl) rfl) A0_4 c0_4 l0_4 W (Kd.C_below hr0_4 hW) (fun W2 x u0 u1 u2 _ hk => by
      obtain ⟨A3, c3, he, h1, h2⟩ := k58_open hk
      simp only [List.cons.injEq, and_true] at he
      obtain ⟨rfl, rfl, rfl⟩ := he
      exact fits1_calls x A3 c3 W2 h2 h1)
  have H4 := Lib.hid h4
  have hP : fitsB a0_0 a0_1 l0_2 l0_3 l0_4 = (decide (0 ≤ a0_0) && (decide (0 ≤ a0_1) && (!(l0_2.any longB) && (!(l0_3.any longB) && !(l0_4.any entryBad))))) := rfl
  rw [hP]
  clear hP h4 hr0_2 hr0_3 hr0_4 h
  generalize l0_2.any longB = q2 at H2 ⊢
  generalize l0_3.any longB = q3 at H3 ⊢
  generalize l0_4.any entryBad = q4 at H4 ⊢
  have HK0 := Lib.hid (heap_alloc_new w (.cells #[.int .i64 a0_0, .int .i64 a0_1, .slice A0_2 l0_2.length c0_2, .slice A0_3 l0_3.length c0_3, .slice A0_4 l0_4.length c0_4] 48))
  have hB0 := Lib.hid ((Below.refl w.heap.size w).alloc (Nat.le_refl _) (.cells #[.int .i64 a0_0, .int .i64 a0_1, .slice A0_2 l0_2.length c0_2, .slice A0_3 l0_3.length c0_3, .slice A0_4 l0_4.length c0_4] 48))
  by_cases h1 : 0 ≤ a0_0
  all_goals
    by_cases h2 : 0 ≤ a0_1
    all_goals
      first | (have d1 : decide (0 ≤ a0_0) = true := decide_eq_true h1; rw [d1]) | (have d1 : decide (0 ≤ a0_0) = false := decide_eq_false h1; rw [d1])
      first | (have d2 : decide (0 ≤ a0_1) = true := decide_eq_true h2; rw [d2]) | (have d2 : decide (0 ≤ a0_1) = false := decide_eq_false h2; rw [d2])
      clear h1 h2
      go_enter Try.func48, Try.ntmps48
      go_wp2_with fail
      first
      | (go_ret
         exact ⟨by simp, hB0.out⟩)
      | (refine (H2.out _ hB0.out).mono ?_
         rintro e w1 ⟨rfl, hb⟩
         have HB1 := Lib.hid (hB0.out.trans (hb.mono hB0.out.size))
         have HK1 := Lib.hid (blk_below HK0.out hb)
         have k3 := ((blk_cell HK1.out 3).trans rfl : w1.cell? ⟨w.heap.size, 3, none⟩ = some (.slice A0_3 l0_3.length c0_3))
         have k4 := ((blk_cell HK1.out 4).trans rfl : w1.cell? ⟨w.heap.size, 4, none⟩ = some (.slice A0_4 l0_4.length c0_4))
         clear hb
         cases q2 with
         | true =>
           go_wp2
           go_ret
           exact ⟨rfl, HB1.out⟩
         | false =>
           go_wp2_with fail
           clear k3 k4
           refine (H3.out _ HB1.out).mono ?_
           rintro e w2 ⟨rfl, hb⟩
           have HB2 := Lib.hid (HB1.out.trans (hb.mono HB1.out.size))
           have HK2 := Lib.hid (blk_below HK1.out hb)
           have k4 := ((blk_cell HK2.out 4).trans rfl : w2.cell? ⟨w.heap.size, 4, none⟩ = some (.slice A0_4 l0_4.length c0_4))
           clear hb
           cases q3 with
           | true =>
             go_wp2
             go_ret
             exact ⟨rfl, HB2.out⟩
           | false =>
             go_wp2_with fail
             refine (H4.out _ HB2.out).mono ?_
             rintro e w3 ⟨rfl, hb⟩
             have HB3 := Lib.hid (HB2.out.trans (hb.mono HB2.out.size))
             clear hb
             go_wp2
             go_ret
             exact ⟨by simp, HB3.out⟩)
def msg_list.l0 : Nat → List Int → List ByteArray → Int → Int → Option (List Int)
  | 0, _, _, _, _ => none
  | k + 1, x0, x12, x13, x14 => if x14 < x13 then (if 0 ≤ x14 then (if x14 < (x12.length : Int) then ((wire_Text.f k x0 (rdOf ByteArray.empty x12 x14)).bind fun t647 => (msg_list.l0 k t647 x12 x13 (wrap64 (x14 + 1)))) else (none)) else (none)) else (some x0)
def msg_list.f (k : Nat) (l0 : List Int) (l1 : List ByteArray) : Option (List Int) := (msg_numbers.f k l0 (([(l1.length : Int)] : List Int))).bind fun t643 => (msg_list.l0 k t643 l1 (l1.length : Int) 0)
set_option maxHeartbeats 8000000 in
set_option maxRecDepth 100000 in
theorem msg_list.calls (k : Nat) (P0_ : Nat → Prop) (A0 : Option Addr) (c0 : Nat) (l0 : List Int) (A1 : Option Addr) (c1 : Nat) (l1 : List ByteArray) (r : List Int) (w : World) (hs0 : Kd.V (Kd.int .u8) 5 w w.heap.size (fun k_ => P0_ k_) (.slice A0 l0.length c0) l0) (hr1 : Kd.C Kd.string w A1 l1.length l1) (hc1 : l1.length ≤ c1) (h : msg_list.f k l0 l1 = some r) :
    Calls Try.prog 71 #[.slice A0 l0.length c0, .slice A1 l1.length c1] w fun e w' => ∃ v0_ : Value, e = .returned (v0_) ∧ Kd.V (Kd.int .u8) 5 w' w.heap.size (fun k_ => (P0_ k_ ∨ w.heap.size ≤ k_)) v0_ r ∧ Below w.heap.size w w' := by
  have HO0 := Aside0.mk (show Kd.V (Kd.int .u8) 5 w w.heap.size (fun k_ => (P0_ k_ ∨ w.heap.size ≤ k_)) (.slice A0 l0.length c0) l0 from Kd.V_mono hs0 (fun k_ hk => .inl hk))
  have HR1 := Aside0.mk hr1
  have HC1 := Aside0.mk hc1
  clear hr1 hc1
  have HB := Aside0.mk (Below.refl w.heap.size w)
  have H : ((msg_numbers.f k l0 (([(l1.length : Int)] : List Int))).bind fun t643 => (msg_list.l0 k t643 l1 (l1.length : Int) 0)) = some r := h
  clear h
  obtain ⟨y640, hy640⟩ : ∃ y_ : List Int, y_ = (([(l1.length : Int)] : List Int)) := ⟨_, rfl⟩
  replace H : ((msg_numbers.f k l0 y640).bind fun t643 => (msg_list.l0 k t643 l1 (l1.length : Int) 0)) = some r := by first | (rw [hy640]; with_reducible exact H) | (have H2_ := (Option.bind_some _ _).symm.trans H; rw [hy640]; with_reducible exact H2_) | (have H2_ := (Option.bind_some _ _).symm.trans H; with_reducible exact H2_) | with_reducible exact H | (rw [hy640]; exact H) | exact H
  have Ny640 := Aside0.mk hy640
  clear hy640
  replace H := Option.bind_eq_some_iff.mp H
  obtain ⟨t643, A30, H⟩ := H
  replace H : (msg_list.l0 k t643 l1 (l1.length : Int) 0) = some r := H
  have A3 := Aside0.mk A30
  clear A30
  have H' := Aside0.mk H
  clear H
  go_enter Try.func71, Try.ntmps71
  go_wp2_with (first | ((with_reducible refine gate_dst (N := 10) rfl ?_); refine Kd.R_lit (Kd.int .i64) _ 3 ?hg (N := 10) ?hd (xs := ([(l1.length : Int)] : List Int)) (inner := [.int .i64 (l1.length : Int)]) (ok := fun _ => True) (okp := fun _ => True) ?hr ?hp (fun _ hk => hk) trivial (Below.refl _ _) (Nat.le_refl _) (by simp) ?_; (case hd => rfl); (case hg => rfl); (case hr => first | (go_simp; done) | (go_simp; rfl)); (case hp => exact (Reps.one (show Kd.M (Kd.int .i64) _ _ _ (l1.length : Int) [.int .i64 (l1.length : Int)] from rfl) (Reps.none _ _))); intro v641 w4 ho5 hb hg_ hnew_; clear hg_ hnew_; (first | rw [← Ny640.out] at ho5 | (simp only [Int.reduceToNat] at ho5; rw [← Ny640.out] at ho5)); have n0_ := Aside0.mk (Kd.V_elder' (HO0.out) (Kd.R_base ho5) hb); have n1_ := Aside0.mk (Kd.R_lower (Kd.R_newM (M := fun k_ => (w.heap.size ≤ k_)) ho5 (below_size (HB.out)) (fun k_ h_ => h_)) (below_size (HB.out))); have n2_ := Aside0.mk (below_step (HB.out) hb); clear HO0; clear HB; have HO0 := n0_; have HO642 := n1_; have HB := n2_; clear n0_ n1_ n2_; clear hb ho5; obtain ⟨Ao6, co6, eo6⟩ := Kd.R_slice HO642.out; subst eo6) | ((with_reducible refine gate_callee (f := 32) rfl ?_); refine goesL_ (some 11) rfl rfl Try.func32 (by kernel_rfl) rfl #[.slice A0 l0.length c0, .slice Ao6 y640.length co6] rfl (by (try simp only [List.map_toArray, List.map_cons, List.map_nil]); first | done | rfl | (simp only [List.length_drop, List.length_take]; rfl)) ?_; (with_reducible refine (msg_numbers.calls k (fun k_ => ((P0_ k_ ∨ w.heap.size ≤ k_) ∧ some k_ ≠ (.slice Ao6 y640.length co6 : Value).ownBlock)) _ _ l0 _ _ y640 t643 _ ?side1 ?side2 ?side3 A3.out).mono ?_); (case side1 => exact HO0.out); (case side2 => repeat (first | exact (Kd.R_reads' HO642.out).2.2 | (with_reducible refine Kd.C_alloc ?_ _) | (with_reducible refine Kd.C_drewN ?_ _) | (with_reducible refine Kd.C_drew ?_))); (case side3 => exact (Kd.R_reads' HO642.out).2.1); rintro e w7 ⟨v644, rfl, ho0, hb⟩; refine ⟨_, rfl, ?_⟩; have n0_ := Aside0.mk (Kd.V_below (HO0.out) hb); have n1_ := Aside0.mk (Kd.R_below (HO642.out) hb); have n2_ := Aside0.mk (Kd.V_lower (Kd.V_mono (ok' := fun k_ => (P0_ k_ ∨ w.heap.size ≤ k_) ∧ some k_ ≠ (.slice Ao6 y640.length co6 : Value).ownBlock) ho0 (fun k_ hk_ => ⟨Or.elim hk_ (fun hs_ => hs_.1) (fun hn_ => (.inr (Nat.le_trans (below_size (HB.out)) hn_))), Or.elim hk_ (fun hs_ => hs_.2) (fun hn_ => (Kd.fresh' (Kd.R_lt (HO642.out)) k_ hn_))⟩)) (below_size (HB.out))); have n3_ := Aside0.mk (below_step (HB.out) hb); clear HO0; clear HO642; clear HB; have HO0 := n0_; have HO642 := n1_; have HO645 := n2_; have HB := n3_; clear n0_ n1_ n2_ n3_; (try clear hb); (try clear hb2); (try clear hk); (try clear hi); (try clear ho0)))
  go_loopg [0, 14] k (fun kq v0 v14 w' => ∃ (x0_1 : List Int) (x14_1 : Int), v14 = .int .i64 x14_1 ∧ Aside0 (msg_list.l0 kq x0_1 l1 (l1.length : Int) x14_1 = some r) ∧ Aside0 (kq ≤ k) ∧ Aside0 (Kd.V (Kd.int .u8) 5 w' w.heap.size (fun k_ => (P0_ k_ ∨ w.heap.size ≤ k_)) v0 x0_1) ∧ Aside0 (Below w.heap.size w w'))
  case atStart => exact ⟨(t643), (0), (by first | rfl | (simp; done) | (simp [*]; done)), H', ⟨Nat.le_refl _⟩, ⟨Kd.V_mono HO645.out (fun _ hk => hk.1)⟩, ⟨HB.out⟩⟩
  case round =>
    clear H'
    try clear c1
    try clear p2
    try clear c3
    try clear c7
    obtain ⟨x0_1, x14_1, rfl, HA, HK1, HO_0, HB⟩ := hrel
    cases gk with
    | zero => exact absurd HA.out (by simp [msg_list.l0])
    | succ k1 =>
      have H := HA.out
      clear HA
      simp only [msg_list.l0] at H
      by_cases c8 : x14_1 < (l1.length : Int)
      · rw [if_pos c8] at H
        have c8b0 : decide (x14_1 < (l1.length : Int)) = true := decide_eq_true c8
        clear c8
        by_cases c9 : 0 ≤ x14_1
        · rw [if_pos c9] at H
          have c9b0 : decide (0 ≤ x14_1) = true := decide_eq_true c9
          clear c9
          by_cases c10 : x14_1 < (l1.length : Int)
          · rw [if_pos c10] at H
            have c10b0 : decide (x14_1 < (l1.length : Int)) = true := decide_eq_true c10
            clear c10
            replace H := Option.bind_eq_some_iff.mp H
            obtain ⟨t647, A110, H⟩ := H
            replace H : (msg_list.l0 k1 t647 l1 (l1.length : Int) (wrap64 (x14_1 + 1))) = some r := H
            have A11 := Aside0.mk A110
            clear A110
            have H' := Aside0.mk H
            clear H
            have p646 : 0 ≤ (x14_1 : Int) := of_decide_eq_true (by first | (with_reducible assumption) | assumption)
            have q646 : x14_1 < (l1.length : Int) := of_decide_eq_true (by first | (with_reducible assumption) | assumption)
            obtain ⟨ad646, e646, hx646_0⟩ := Kd.at_string HR1.out x14_1 p646 q646
            cases e646
            replace hx646_0 := (HB.out.cell (World.block_lt_of_cell? w _ hx646_0)).trans hx646_0
            replace p646 := eq_true p646
            replace q646 := eq_true q646
            obtain ⟨Ao12, co12, eo12⟩ := Kd.V_slice HO_0.out
            subst eo12
            go_wp2_with (first | ((with_reducible refine gate_callee (f := 31) rfl ?_); refine goesL_ (some 20) rfl rfl Try.func31 (by kernel_rfl) rfl #[.slice Ao12 x0_1.length co12, .string (rdOf ByteArray.empty l1 x14_1)] rfl (by (try simp only [List.map_toArray, List.map_cons, List.map_nil]); first | done | rfl | (simp only [List.length_drop, List.length_take]; rfl)) ?_; (with_reducible refine (wire_Text.calls k1 _ _ x0_1 (rdOf ByteArray.empty l1 x14_1) t647 _ ?side1 ?side2 A11.out).mono ?_); (case side1 => repeat (first | exact (Kd.V_reads' HO_0.out).2.2 | (with_reducible refine Kd.C_alloc ?_ _) | (with_reducible refine Kd.C_drewN ?_ _) | (with_reducible refine Kd.C_drew ?_))); (case side2 => exact (Kd.V_reads' HO_0.out).2.1); rintro e w13 ⟨v648, rfl, ho0, hb⟩; refine ⟨_, rfl, ?_⟩; have n0_ := Aside0.mk (Kd.V_elder' (HO_0.out) (Kd.R_base ho0) hb); have n1_ := Aside0.mk (Kd.R_lower (Kd.R_newM (M := fun k_ => (w.heap.size ≤ k_)) ho0 (below_size (HB.out)) (fun k_ h_ => h_)) (below_size (HB.out))); have n2_ := Aside0.mk (below_step (HB.out) hb); clear HO_0; clear HB; have HO_0 := n0_; have HO649 := n1_; have HB := n2_; clear n0_ n1_ n2_; (try clear hb); (try clear hb2); (try clear hk); (try clear hi); (try clear ho0)))
            go_roundg k1
            case measure => have := HK1.out; omega
            case rel => exact ⟨(t647), (wrap64 (x14_1 + 1)), (by first | rfl | (simp; done) | (simp [*]; done)), H', ⟨by have := HK1.out; omega⟩, ⟨Kd.V_mono (Kd.R_V (Kd.R_mono HO649.out (fun _ hk => hk.1))) (fun k_ hk => by first | exact ⟨(.inr (hk.1)), hk.2⟩ | exact (.inr (hk)))⟩, ⟨HB.out⟩⟩
          · rw [if_neg c10] at H
            exact absurd H (by simp)
        · rw [if_neg c9] at H
          exact absurd H (by simp)
      · rw [if_neg c8] at H
        have c8b0 : decide (x14_1 < (l1.length : Int)) = false := decide_eq_false c8
        clear c8
        obtain rfl := Option.some.inj H
        go_wp2
        go_ret
        exact ⟨_, by first | rfl | (simp [errW_none, errW_some] <;> rfl) | (simp [*, errW_none, errW_some] <;> rfl), HO_0.out, HB.out⟩
end Go.Proofs.Ytpbbgbikebcnbaa.Ms
