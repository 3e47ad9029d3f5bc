-- Cut by a program of this session (wip/shake.py) out of a text of this seat: what this claim doesn't reach is struck out. Lean checks it.
import Derived.Test.YtpbbgbikebcnbaaMsx0Cg
import Derived.Test.YtpbbgbikebcnbaaMsx10Cg
import Derived.Test.YtpbbgbikebcnbaaMsx14Cg
namespace Go.Proofs.Ytpbbgbikebcnbaa.Ms
open Go.RowKit Go.Proofs.YtpbbgbikebcnbaaW.PrintWords Go.Proofs.YtpbbgbikebcnbaaW.PrintLast Go.Proofs.YtpbbgbikebcnbaaW.PrintMore
attribute [local go_sem] max2_int min2_int max_two min_two max_three min_three max_four min_four   -- for this text's walks alone
set_option linter.unusedVariables false
set_option linter.unusedSimpArgs false
attribute [local go_sem] eqlErr neqErr eqlErrNil neqErrNil
open Go.Proofs.Ytpbbgbikebcnbaa.Mw
mutual
def becketref12_Get.l0 : Nat → List Int → Int → Int → List Int → Int → Bool → Int → Int → Int → Int → ByteArray → List (S95) → List (S61) → Option (Int × Int × Int × Int × ByteArray × (List (S95)) × (List (S61)) × Bool)
  | 0, _, _, _, _, _, _, _, _, _, _, _, _, _ => none
  | k + 1, x0, x6, x7, x413000, x413001, x413002, x414000, x414001, x414002, x414003, x414004, x414005, x414006 => if x7 < x6 then (becketref12_Get.j1 k x0 x6 x7 (!x413002) x413000 x413001 x413002 x414000 x414001 x414002 x414003 x414004 x414005 x414006) else (becketref12_Get.j1 k x0 x6 x7 false x413000 x413001 x413002 x414000 x414001 x414002 x414003 x414004 x414005 x414006)
def becketref12_Get.j1 : Nat → List Int → Int → Int → Bool → List Int → Int → Bool → Int → Int → Int → Int → ByteArray → List (S95) → List (S61) → Option (Int × Int × Int × Int × ByteArray × (List (S95)) × (List (S61)) × Bool)
  | 0, _, _, _, _, _, _, _, _, _, _, _, _, _, _ => none
  | k + 1, x0, x6, x7, x42, x413000, x413001, x413002, x414000, x414001, x414002, x414003, x414004, x414005, x414006 => if x42 = true then ((becketref01_Reader_Num.f x413000 x413001 x413002 1000).bind fun bt438 => ((becketref01_Reader_Num.f x413000 bt438.2.1 bt438.2.2 1000).bind fun bt441 => ((becketref12_get.f k x413000 bt441.2.1 bt441.2.2).bind fun bt444 => (if x414006.length < 3518437208883 then (becketref12_Get.l0 k x0 x6 (wrap64 (x7 + 1)) x413000 bt444.2.1 bt444.2.2 x414000 x414001 x414002 x414003 x414004 x414005 (x414006 ++ [(⟨bt438.1, bt441.1, bt444.1⟩ : S61)])) else (none))))) else (if x413002 = true then (becketref12_Get.j2 k true x414000 x414001 x414002 x414003 x414004 x414005 x414006) else (becketref12_Get.j2 k (decide (x413001 < (x0.length : Int))) x414000 x414001 x414002 x414003 x414004 x414005 x414006))
def becketref12_Get.j2 : Nat → Bool → Int → Int → Int → Int → ByteArray → List (S95) → List (S61) → Option (Int × Int × Int × Int × ByteArray × (List (S95)) × (List (S61)) × Bool)
  | 0, _, _, _, _, _, _, _, _ => none
  | k + 1, x72, x414000, x414001, x414002, x414003, x414004, x414005, x414006 => if x72 = true then (some (0, 0, 0, 0, (⟨#[]⟩ : ByteArray), ([] : List (S95)), ([] : List (S61)), false)) else ((becketref12_May.f k x414000 x414001 x414002 x414003 x414004 x414005 x414006).bind fun t452 => (if t452 = true then (some (x414000, x414001, x414002, x414003, x414004, x414005, x414006, true)) else (some (0, 0, 0, 0, (⟨#[]⟩ : ByteArray), ([] : List (S95)), ([] : List (S61)), false))))
end
def becketref12_Get.f (k : Nat) (l0 : List Int) : Option (Int × Int × Int × Int × ByteArray × (List (S95)) × (List (S61)) × Bool) := (becketref01_Reader_Num.f l0 0 false 1000).bind fun bt414 => ((becketref01_Reader_Num.f l0 bt414.2.1 bt414.2.2 1000).bind fun bt417 => ((becketref01_Reader_Num.f l0 bt417.2.1 bt417.2.2 1000).bind fun bt420 => ((becketref01_Reader_Num.f l0 bt420.2.1 bt420.2.2 1000).bind fun bt423 => ((becketref01_Reader_Text.f l0 bt423.2.1 bt423.2.2).bind fun bt426 => ((becketref12_get.f k l0 bt426.2.1 bt426.2.2).bind fun bt429 => ((becketref01_Reader_Num.f l0 bt429.2.1 bt429.2.2 1000).bind fun bt434 => (becketref12_Get.l0 k l0 bt434.1 0 l0 bt434.2.1 bt434.2.2 bt414.1 bt417.1 bt420.1 bt423.1 bt426.1 bt429.1 ([] : List (S61)))))))))
set_option maxHeartbeats 8000000 in
set_option maxRecDepth 100000 in
theorem becketref12_Get.calls (k : Nat) (A0 : Option Addr) (c0 : Nat) (l0 : List Int) (r1 : Int) (r2 : Int) (r3 : Int) (r4 : Int) (r5 : ByteArray) (r6 : List (S95)) (r7 : List (S61)) (r8 : Bool) (w : World) (hr0 : Kd.C (Kd.int .u8) w A0 l0.length l0) (hc0 : l0.length ≤ c0) (h : becketref12_Get.f k l0 = some (r1, r2, r3, r4, r5, r6, r7, r8)) :
    Calls Try.prog 17 #[.slice A0 l0.length c0] w fun e w' => ∃ v5_ v6_ : Value, e = .returned (.tuple #[.agg #[.int .i64 r1, .int .i64 r2, .int .i64 r3, .int .i64 r4, .string r5, v5_, v6_], .bool r8]) ∧ Kd.S k95 95 w' w.heap.size (fun _ => True) v5_ r6 ∧ Kd.R k61 61 w' w.heap.size (fun k_ => some k_ ≠ (v5_ : Value).ownBlock) v6_ r7 ∧ Below w.heap.size w w' := by
  have hu25 := Try.underlying25
  have hu79 := Try.underlying79
  have hu61 := Try.underlying61
  have HR0 := Aside0.mk hr0
  have HC0 := Aside0.mk hc0
  clear hr0 hc0
  have HB := Aside0.mk (Below.refl w.heap.size w)
  have H : ((becketref01_Reader_Num.f l0 0 false 1000).bind fun bt414 => ((becketref01_Reader_Num.f l0 bt414.2.1 bt414.2.2 1000).bind fun bt417 => ((becketref01_Reader_Num.f l0 bt417.2.1 bt417.2.2 1000).bind fun bt420 => ((becketref01_Reader_Num.f l0 bt420.2.1 bt420.2.2 1000).bind fun bt423 => ((becketref01_Reader_Text.f l0 bt423.2.1 bt423.2.2).bind fun bt426 => ((becketref12_get.f k l0 bt426.2.1 bt426.2.2).bind fun bt429 => ((becketref01_Reader_Num.f l0 bt429.2.1 bt429.2.2 1000).bind fun bt434 => (becketref12_Get.l0 k l0 bt434.1 0 l0 bt434.2.1 bt434.2.2 bt414.1 bt417.1 bt420.1 bt423.1 bt426.1 bt429.1 ([] : List (S61)))))))))) = some (r1, r2, r3, r4, r5, r6, r7, r8) := h
  clear h
  replace H := Option.bind_eq_some_iff.mp H
  obtain ⟨⟨t414, t415, t416⟩, A20, H⟩ := H
  replace H : ((becketref01_Reader_Num.f l0 t415 t416 1000).bind fun bt417 => ((becketref01_Reader_Num.f l0 bt417.2.1 bt417.2.2 1000).bind fun bt420 => ((becketref01_Reader_Num.f l0 bt420.2.1 bt420.2.2 1000).bind fun bt423 => ((becketref01_Reader_Text.f l0 bt423.2.1 bt423.2.2).bind fun bt426 => ((becketref12_get.f k l0 bt426.2.1 bt426.2.2).bind fun bt429 => ((becketref01_Reader_Num.f l0 bt429.2.1 bt429.2.2 1000).bind fun bt434 => (becketref12_Get.l0 k l0 bt434.1 0 l0 bt434.2.1 bt434.2.2 t414 bt417.1 bt420.1 bt423.1 bt426.1 bt429.1 ([] : List (S61))))))))) = some (r1, r2, r3, r4, r5, r6, r7, r8) := H
  have A2 := Aside0.mk A20
  clear A20
  replace H := Option.bind_eq_some_iff.mp H
  obtain ⟨⟨t417, t418, t419⟩, A30, H⟩ := H
  replace H : ((becketref01_Reader_Num.f l0 t418 t419 1000).bind fun bt420 => ((becketref01_Reader_Num.f l0 bt420.2.1 bt420.2.2 1000).bind fun bt423 => ((becketref01_Reader_Text.f l0 bt423.2.1 bt423.2.2).bind fun bt426 => ((becketref12_get.f k l0 bt426.2.1 bt426.2.2).bind fun bt429 => ((becketref01_Reader_Num.f l0 bt429.2.1 bt429.2.2 1000).bind fun bt434 => (becketref12_Get.l0 k l0 bt434.1 0 l0 bt434.2.1 bt434.2.2 t414 t417 bt420.1 bt423.1 bt426.1 bt429.1 ([] : List (S61)))))))) = some (r1, r2, r3, r4, r5, r6, r7, r8) := H
  have A3 := Aside0.mk A30
  clear A30
  replace H := Option.bind_eq_some_iff.mp H
  obtain ⟨⟨t420, t421, t422⟩, A40, H⟩ := H
  replace H : ((becketref01_Reader_Num.f l0 t421 t422 1000).bind fun bt423 => ((becketref01_Reader_Text.f l0 bt423.2.1 bt423.2.2).bind fun bt426 => ((becketref12_get.f k l0 bt426.2.1 bt426.2.2).bind fun bt429 => ((becketref01_Reader_Num.f l0 bt429.2.1 bt429.2.2 1000).bind fun bt434 => (becketref12_Get.l0 k l0 bt434.1 0 l0 bt434.2.1 bt434.2.2 t414 t417 t420 bt423.1 bt426.1 bt429.1 ([] : List (S61))))))) = some (r1, r2, r3, r4, r5, r6, r7, r8) := H
  have A4 := Aside0.mk A40
  clear A40
  replace H := Option.bind_eq_some_iff.mp H
  obtain ⟨⟨t423, t424, t425⟩, A50, H⟩ := H
  replace H : ((becketref01_Reader_Text.f l0 t424 t425).bind fun bt426 => ((becketref12_get.f k l0 bt426.2.1 bt426.2.2).bind fun bt429 => ((becketref01_Reader_Num.f l0 bt429.2.1 bt429.2.2 1000).bind fun bt434 => (becketref12_Get.l0 k l0 bt434.1 0 l0 bt434.2.1 bt434.2.2 t414 t417 t420 t423 bt426.1 bt429.1 ([] : List (S61)))))) = some (r1, r2, r3, r4, r5, r6, r7, r8) := H
  have A5 := Aside0.mk A50
  clear A50
  replace H := Option.bind_eq_some_iff.mp H
  obtain ⟨⟨t426, t427, t428⟩, A60, H⟩ := H
  replace H : ((becketref12_get.f k l0 t427 t428).bind fun bt429 => ((becketref01_Reader_Num.f l0 bt429.2.1 bt429.2.2 1000).bind fun bt434 => (becketref12_Get.l0 k l0 bt434.1 0 l0 bt434.2.1 bt434.2.2 t414 t417 t420 t423 t426 bt429.1 ([] : List (S61))))) = some (r1, r2, r3, r4, r5, r6, r7, r8) := H
  have A6 := Aside0.mk A60
  clear A60
  replace H := Option.bind_eq_some_iff.mp H
  obtain ⟨⟨t429, t432, t433⟩, A70, H⟩ := H
  replace H : ((becketref01_Reader_Num.f l0 t432 t433 1000).bind fun bt434 => (becketref12_Get.l0 k l0 bt434.1 0 l0 bt434.2.1 bt434.2.2 t414 t417 t420 t423 t426 t429 ([] : List (S61)))) = some (r1, r2, r3, r4, r5, r6, r7, r8) := H
  have A7 := Aside0.mk A70
  clear A70
  replace H := Option.bind_eq_some_iff.mp H
  obtain ⟨⟨t434, t435, t436⟩, A80, H⟩ := H
  replace H : (becketref12_Get.l0 k l0 t434 0 l0 t435 t436 t414 t417 t420 t423 t426 t429 ([] : List (S61))) = some (r1, r2, r3, r4, r5, r6, r7, r8) := H
  have A8 := Aside0.mk A80
  clear A80
  have H' := Aside0.mk H
  clear H
  go_enter Try.func17, Try.ntmps17
  go_wp2_with (first | ((with_reducible refine gate_dst (N := 2) rfl ?_); (try (refine gate_guard (by rfl) ?_; dsimp only)); refine box_event ?hg (N := 2) ?hd (cs := #[.int .i64 0, .int .i64 0, .int .i64 0, .int .i64 0, .string (⟨#[]⟩ : ByteArray), .slice none 0 0, .slice none 0 0]) (t := 25) ?hr ?_; (case hd => rfl); (case hg => rfl); (case hr => first | (go_simp; done) | (go_simp; rfl)); intro gb411 hg w9 hbox hb; have n0_ := Aside0.mk (below_step (by repeat (first | (with_reducible first | exact HB.out | apply below_alloc | apply pw_below_drewN | apply below_drew1) | exact HB.out)) hb); have n1_ := Aside0.mk (hbox); have n2_ := Aside0.mk ((by rw [hg]; exact (below_size (by repeat (first | (with_reducible first | exact HB.out | apply below_alloc | apply pw_below_drewN | apply below_drew1) | exact HB.out))) : w.heap.size ≤ gb411)); have n3_ := Aside0.mk ((by rw [hg]; exact (below_size (by repeat (first | (with_reducible first | exact HB.out | apply below_alloc | apply pw_below_drewN | apply below_drew1) | exact HB.out))) : w.heap.size ≤ gb411)); clear HB; have HB := n0_; have BK411 := n1_; have GW411 := n2_; have GE411 := n3_; clear n0_ n1_ n2_ n3_; clear hb hbox hg) | ((with_reducible refine gate_dst (N := 12) rfl ?_); (try (refine gate_guard (by rfl) ?_; dsimp only)); refine box_event ?hg (N := 12) ?hd (cs := #[.slice A0 l0.length c0, .int .i64 0, .bool false]) (t := 79) ?hr ?_; (case hd => rfl); (case hg => rfl); (case hr => first | (go_simp; done) | (go_simp; rfl)); intro gb412 hg w10 hbox hb; have n0_ := Aside0.mk (blk_below (g := gb411) (o := .cells #[.int .i64 0, .int .i64 0, .int .i64 0, .int .i64 0, .string (⟨#[]⟩ : ByteArray), .slice none 0 0, .slice none 0 0] 25 (0, 0)) (by (with_reducible repeat (first | refine blk_drewN ?_ _ | refine blk_drew ?_ | refine blk_alloc ?_ _)); exact BK411.out) hb); have n1_ := Aside0.mk (below_step (by repeat (first | (with_reducible first | exact HB.out | apply below_alloc | apply pw_below_drewN | apply below_drew1 | refine below_set ?_ GE411.out) | exact HB.out)) hb); have n2_ := Aside0.mk ((⟨_, _, hbox, (by rw [hg]; exact (below_size (by repeat (first | (with_reducible first | exact HB.out | apply below_alloc | apply pw_below_drewN | apply below_drew1 | refine below_set ?_ GE411.out) | exact HB.out)))), ⟨HR0.out, HC0.out⟩⟩ : IsS79 w w10 gb412 l0 0 false)); have n3_ := Aside0.mk ((by rw [hg]; exact (below_size (by repeat (first | (with_reducible first | exact HB.out | apply below_alloc | apply pw_below_drewN | apply below_drew1 | refine below_set ?_ GE411.out) | exact HB.out))) : w.heap.size ≤ gb412)); have n4_ := Aside0.mk ((by rw [hg]; exact (below_size (by repeat (first | (with_reducible first | exact HB.out | apply below_alloc | apply pw_below_drewN | apply below_drew1 | refine below_set ?_ GE411.out) | exact HB.out))) : w.heap.size ≤ gb412)); have n5_ := Aside0.mk ((by rw [hg]; exact Nat.ne_of_lt (blk_lt (g := gb411) (o := .cells #[.int .i64 0, .int .i64 0, .int .i64 0, .int .i64 0, .string (⟨#[]⟩ : ByteArray), .slice none 0 0, .slice none 0 0] 25 (0, 0)) (by (with_reducible repeat (first | refine blk_drewN ?_ _ | refine blk_drew ?_ | refine blk_alloc ?_ _)); exact BK411.out)) : gb411 ≠ gb412)); have n6_ := Aside0.mk ((by rw [hg]; exact Nat.ne_of_gt (blk_lt (g := gb411) (o := .cells #[.int .i64 0, .int .i64 0, .int .i64 0, .int .i64 0, .string (⟨#[]⟩ : ByteArray), .slice none 0 0, .slice none 0 0] 25 (0, 0)) (by (with_reducible repeat (first | refine blk_drewN ?_ _ | refine blk_drew ?_ | refine blk_alloc ?_ _)); exact BK411.out)) : gb412 ≠ gb411)); clear BK411; clear HB; have BK411 := n0_; have HB := n1_; have HI412 := n2_; have GW412 := n3_; have GE412 := n4_; have NB411_412 := n5_; have NB412_411 := n6_; clear n0_ n1_ n2_ n3_ n4_ n5_ n6_; clear hb hbox hg) | ((with_reducible refine gate_dst (N := 5) rfl ?_); (try (refine gate_guard (by rfl) ?_; dsimp only)); refine box_event ?hg (N := 5) ?hd (cs := #[.int .i64 0, .int .i64 0, .int .i64 0, .int .i64 0, .string (⟨#[]⟩ : ByteArray), .slice none 0 0, .slice none 0 0]) (t := 25) ?hr ?_; (case hd => rfl); (case hg => rfl); (case hr => first | (go_simp; done) | (go_simp; rfl)); intro gb413 hg w11 hbox hb; have n0_ := Aside0.mk (blk_below (g := gb411) (o := .cells #[.int .i64 0, .int .i64 0, .int .i64 0, .int .i64 0, .string (⟨#[]⟩ : ByteArray), .slice none 0 0, .slice none 0 0] 25 (0, 0)) (by (with_reducible repeat (first | refine blk_drewN ?_ _ | refine blk_drew ?_ | refine blk_alloc ?_ _)); exact BK411.out) hb); have n1_ := Aside0.mk (IsS79.below (by repeat (first | (with_reducible first | exact HI412.out | apply IsS79.alloc | apply IsS79.drewN | apply IsS79.drew | apply IsS79.set_1 | apply IsS79.set_2 | refine IsS79.far ?_ NB412_411.out _) | exact HI412.out)) hb); have n2_ := Aside0.mk (below_step (by repeat (first | (with_reducible first | exact HB.out | apply below_alloc | apply pw_below_drewN | apply below_drew1 | refine below_set ?_ (IsS79.ge HI412.out) | refine below_set ?_ GE411.out) | exact HB.out)) hb); have n3_ := Aside0.mk (hbox); have n4_ := Aside0.mk ((by rw [hg]; exact (below_size (by repeat (first | (with_reducible first | exact HB.out | apply below_alloc | apply pw_below_drewN | apply below_drew1 | refine below_set ?_ (IsS79.ge HI412.out) | refine below_set ?_ GE411.out) | exact HB.out))) : w.heap.size ≤ gb413)); have n5_ := Aside0.mk ((by rw [hg]; exact (below_size (by repeat (first | (with_reducible first | exact HB.out | apply below_alloc | apply pw_below_drewN | apply below_drew1 | refine below_set ?_ (IsS79.ge HI412.out) | refine below_set ?_ GE411.out) | exact HB.out))) : w.heap.size ≤ gb413)); have n6_ := Aside0.mk ((by rw [hg]; exact Nat.ne_of_lt (blk_lt (g := gb411) (o := .cells #[.int .i64 0, .int .i64 0, .int .i64 0, .int .i64 0, .string (⟨#[]⟩ : ByteArray), .slice none 0 0, .slice none 0 0] 25 (0, 0)) (by (with_reducible repeat (first | refine blk_drewN ?_ _ | refine blk_drew ?_ | refine blk_alloc ?_ _)); exact BK411.out)) : gb411 ≠ gb413)); have n7_ := Aside0.mk ((by rw [hg]; exact Nat.ne_of_gt (blk_lt (g := gb411) (o := .cells #[.int .i64 0, .int .i64 0, .int .i64 0, .int .i64 0, .string (⟨#[]⟩ : ByteArray), .slice none 0 0, .slice none 0 0] 25 (0, 0)) (by (with_reducible repeat (first | refine blk_drewN ?_ _ | refine blk_drew ?_ | refine blk_alloc ?_ _)); exact BK411.out)) : gb413 ≠ gb411)); have n8_ := Aside0.mk ((by rw [hg]; exact Nat.ne_of_lt (IsS79.lt (show IsS79 w _ gb412 l0 0 false from by repeat (first | (with_reducible first | exact HI412.out | apply IsS79.alloc | apply IsS79.drewN | apply IsS79.drew | apply IsS79.set_1 | apply IsS79.set_2 | refine IsS79.far ?_ NB412_411.out _) | exact HI412.out))) : gb412 ≠ gb413)); have n9_ := Aside0.mk ((by rw [hg]; exact Nat.ne_of_gt (IsS79.lt (show IsS79 w _ gb412 l0 0 false from by repeat (first | (with_reducible first | exact HI412.out | apply IsS79.alloc | apply IsS79.drewN | apply IsS79.drew | apply IsS79.set_1 | apply IsS79.set_2 | refine IsS79.far ?_ NB412_411.out _) | exact HI412.out))) : gb413 ≠ gb412)); clear BK411; clear HI412; clear HB; have BK411 := n0_; have HI412 := n1_; have HB := n2_; have BK413 := n3_; have GW413 := n4_; have GE413 := n5_; have NB411_413 := n6_; have NB413_411 := n7_; have NB412_413 := n8_; have NB413_412 := n9_; clear n0_ n1_ n2_ n3_ n4_ n5_ n6_ n7_ n8_ n9_; clear hb hbox hg) | ((with_reducible refine gate_callee (f := 42) rfl ?_); refine goesL_ (some 14) rfl rfl Try.func42 (by kernel_rfl) rfl #[.pointer (some ⟨gb412, 0, none⟩), .int .u64 1000] rfl (by (try simp only [List.map_toArray, List.map_cons, List.map_nil]); first | done | rfl | (simp only [List.length_drop, List.length_take]; rfl)) ?_; (with_reducible refine (becketref01_Reader_Num.calls gb412 l0 0 false 1000 t414 t415 t416 w _ ?side1 ?side2 A2.out).mono ?_); (case side1 => repeat (first | (with_reducible first | exact HI412.out | apply IsS79.alloc | apply IsS79.drewN | apply IsS79.drew | apply IsS79.set_1 | apply IsS79.set_2 | refine IsS79.far ?_ NB412_411.out _ | refine IsS79.far ?_ NB412_413.out _) | exact HI412.out)); (case side2 => repeat (first | (with_reducible first | exact HB.out | apply below_alloc | apply pw_below_drewN | apply below_drew1 | refine below_set ?_ (IsS79.ge HI412.out) | refine below_set ?_ GE411.out | refine below_set ?_ GE413.out) | exact HB.out)); rintro e w12 ⟨rfl, hi, hb, hk⟩; refine ⟨_, rfl, ?_⟩; have n0_ := Aside0.mk (KeepBut.blk hk (g' := gb411) (o := .cells #[.int .i64 0, .int .i64 0, .int .i64 0, .int .i64 0, .string (⟨#[]⟩ : ByteArray), .slice none 0 0, .slice none 0 0] 25 (0, 0)) (by (with_reducible repeat (first | refine blk_drewN ?_ _ | refine blk_drew ?_ | refine blk_alloc ?_ _)); exact BK411.out) NB411_412.out (by simp)); have n1_ := Aside0.mk (KeepBut.blk hk (g' := gb413) (o := .cells #[.int .i64 0, .int .i64 0, .int .i64 0, .int .i64 0, .string (⟨#[]⟩ : ByteArray), .slice none 0 0, .slice none 0 0] 25 (0, 0)) (by (with_reducible repeat (first | refine blk_drewN ?_ _ | refine blk_drew ?_ | refine blk_alloc ?_ _)); exact BK413.out) NB413_412.out (by simp)); have n2_ := Aside0.mk (hb); have n3_ := Aside0.mk (hi); clear BK411; clear BK413; clear HB; clear HI412; have BK411 := n0_; have BK413 := n1_; have HB := n2_; have HI412 := n3_; clear n0_ n1_ n2_ n3_; (try clear hb); (try clear hb2); (try clear hk); (try clear hi); have hnb13 := NB413_411.out; have hnc13 := NB411_413.out; have hnb14 := NB413_412.out; have hnc14 := NB412_413.out; have hcz15_0 : w12.cell? ⟨gb413, 0, none⟩ = some (.int .i64 0) := (blk_cell BK413.out 0).trans rfl; have hcz15_1 : w12.cell? ⟨gb413, 1, none⟩ = some (.int .i64 0) := (blk_cell BK413.out 1).trans rfl; have hcz15_2 : w12.cell? ⟨gb413, 2, none⟩ = some (.int .i64 0) := (blk_cell BK413.out 2).trans rfl; have hcz15_3 : w12.cell? ⟨gb413, 3, none⟩ = some (.int .i64 0) := (blk_cell BK413.out 3).trans rfl; have hcz15_4 : w12.cell? ⟨gb413, 4, none⟩ = some (.string (⟨#[]⟩ : ByteArray)) := (blk_cell BK413.out 4).trans rfl; have hcz15_5 : w12.cell? ⟨gb413, 5, none⟩ = some (.slice none 0 0) := (blk_cell BK413.out 5).trans rfl; have hcz15_6 : w12.cell? ⟨gb413, 6, none⟩ = some (.slice none 0 0) := (blk_cell BK413.out 6).trans rfl; have hfz15_0 := blk_frozen BK413.out 0; have hfz15_1 := blk_frozen BK413.out 1; have hfz15_2 := blk_frozen BK413.out 2; have hfz15_3 := blk_frozen BK413.out 3; have hfz15_4 := blk_frozen BK413.out 4; have hfz15_5 := blk_frozen BK413.out 5; have hfz15_6 := blk_frozen BK413.out 6) | ((with_reducible refine gate_callee (f := 42) rfl ?_); refine goesL_ (some 17) rfl rfl Try.func42 (by kernel_rfl) rfl #[.pointer (some ⟨gb412, 0, none⟩), .int .u64 1000] rfl (by (try simp only [List.map_toArray, List.map_cons, List.map_nil]); first | done | rfl | (simp only [List.length_drop, List.length_take]; rfl)) ?_; (with_reducible refine (becketref01_Reader_Num.calls gb412 l0 t415 t416 1000 t417 t418 t419 w _ ?side1 ?side2 A3.out).mono ?_); (case side1 => repeat (first | (with_reducible first | exact HI412.out | apply IsS79.alloc | apply IsS79.drewN | apply IsS79.drew | apply IsS79.set_1 | apply IsS79.set_2 | refine IsS79.far ?_ NB412_411.out _ | refine IsS79.far ?_ NB412_413.out _) | exact HI412.out)); (case side2 => repeat (first | (with_reducible first | exact HB.out | apply below_alloc | apply pw_below_drewN | apply below_drew1 | refine below_set ?_ (IsS79.ge HI412.out) | refine below_set ?_ GE411.out | refine below_set ?_ GE413.out) | exact HB.out)); rintro e w16 ⟨rfl, hi, hb, hk⟩; refine ⟨_, rfl, ?_⟩; have n0_ := Aside0.mk (KeepBut.blk hk (g' := gb411) (o := .cells #[.int .i64 0, .int .i64 0, .int .i64 0, .int .i64 0, .string (⟨#[]⟩ : ByteArray), .slice none 0 0, .slice none 0 0] 25 (0, 0)) (by (with_reducible repeat (first | refine blk_drewN ?_ _ | refine blk_drew ?_ | refine blk_alloc ?_ _)); refine blk_far ?_ NB411_413.out _; (with_reducible repeat (first | refine blk_drewN ?_ _ | refine blk_drew ?_ | refine blk_alloc ?_ _)); exact BK411.out) NB411_412.out (by simp)); have n1_ := Aside0.mk (KeepBut.blk hk (g' := gb413) (o := .cells #[.int .i64 t414, .int .i64 0, .int .i64 0, .int .i64 0, .string (⟨#[]⟩ : ByteArray), .slice none 0 0, .slice none 0 0] 25 (0, 0)) (by (with_reducible repeat (first | refine blk_drewN ?_ _ | refine blk_drew ?_ | refine blk_alloc ?_ _)); refine blk_put (cs := #[.int .i64 0, .int .i64 0, .int .i64 0, .int .i64 0, .string (⟨#[]⟩ : ByteArray), .slice none 0 0, .slice none 0 0]) ?_ 0 _ rfl; (with_reducible repeat (first | refine blk_drewN ?_ _ | refine blk_drew ?_ | refine blk_alloc ?_ _)); exact BK413.out) NB413_412.out (by simp)); have n2_ := Aside0.mk (hb); have n3_ := Aside0.mk (hi); clear BK411; clear BK413; clear HB; clear HI412; have BK411 := n0_; have BK413 := n1_; have HB := n2_; have HI412 := n3_; clear n0_ n1_ n2_ n3_; (try clear hb); (try clear hb2); (try clear hk); (try clear hi); have hcz17_0 : w16.cell? ⟨gb413, 0, none⟩ = some (.int .i64 t414) := (blk_cell BK413.out 0).trans rfl; have hcz17_1 : w16.cell? ⟨gb413, 1, none⟩ = some (.int .i64 0) := (blk_cell BK413.out 1).trans rfl; have hcz17_2 : w16.cell? ⟨gb413, 2, none⟩ = some (.int .i64 0) := (blk_cell BK413.out 2).trans rfl; have hcz17_3 : w16.cell? ⟨gb413, 3, none⟩ = some (.int .i64 0) := (blk_cell BK413.out 3).trans rfl; have hcz17_4 : w16.cell? ⟨gb413, 4, none⟩ = some (.string (⟨#[]⟩ : ByteArray)) := (blk_cell BK413.out 4).trans rfl; have hcz17_5 : w16.cell? ⟨gb413, 5, none⟩ = some (.slice none 0 0) := (blk_cell BK413.out 5).trans rfl; have hcz17_6 : w16.cell? ⟨gb413, 6, none⟩ = some (.slice none 0 0) := (blk_cell BK413.out 6).trans rfl; have hfz17_0 := blk_frozen BK413.out 0; have hfz17_1 := blk_frozen BK413.out 1; have hfz17_2 := blk_frozen BK413.out 2; have hfz17_3 := blk_frozen BK413.out 3; have hfz17_4 := blk_frozen BK413.out 4; have hfz17_5 := blk_frozen BK413.out 5; have hfz17_6 := blk_frozen BK413.out 6) | ((with_reducible refine gate_callee (f := 42) rfl ?_); refine goesL_ (some 20) rfl rfl Try.func42 (by kernel_rfl) rfl #[.pointer (some ⟨gb412, 0, none⟩), .int .u64 1000] rfl (by (try simp only [List.map_toArray, List.map_cons, List.map_nil]); first | done | rfl | (simp only [List.length_drop, List.length_take]; rfl)) ?_; (with_reducible refine (becketref01_Reader_Num.calls gb412 l0 t418 t419 1000 t420 t421 t422 w _ ?side1 ?side2 A4.out).mono ?_); (case side1 => repeat (first | (with_reducible first | exact HI412.out | apply IsS79.alloc | apply IsS79.drewN | apply IsS79.drew | apply IsS79.set_1 | apply IsS79.set_2 | refine IsS79.far ?_ NB412_411.out _ | refine IsS79.far ?_ NB412_413.out _) | exact HI412.out)); (case side2 => repeat (first | (with_reducible first | exact HB.out | apply below_alloc | apply pw_below_drewN | apply below_drew1 | refine below_set ?_ (IsS79.ge HI412.out) | refine below_set ?_ GE411.out | refine below_set ?_ GE413.out) | exact HB.out)); rintro e w18 ⟨rfl, hi, hb, hk⟩; refine ⟨_, rfl, ?_⟩; have n0_ := Aside0.mk (KeepBut.blk hk (g' := gb411) (o := .cells #[.int .i64 0, .int .i64 0, .int .i64 0, .int .i64 0, .string (⟨#[]⟩ : ByteArray), .slice none 0 0, .slice none 0 0] 25 (0, 0)) (by (with_reducible repeat (first | refine blk_drewN ?_ _ | refine blk_drew ?_ | refine blk_alloc ?_ _)); refine blk_far ?_ NB411_413.out _; (with_reducible repeat (first | refine blk_drewN ?_ _ | refine blk_drew ?_ | refine blk_alloc ?_ _)); exact BK411.out) NB411_412.out (by simp)); have n1_ := Aside0.mk (KeepBut.blk hk (g' := gb413) (o := .cells #[.int .i64 t414, .int .i64 t417, .int .i64 0, .int .i64 0, .string (⟨#[]⟩ : ByteArray), .slice none 0 0, .slice none 0 0] 25 (0, 0)) (by (with_reducible repeat (first | refine blk_drewN ?_ _ | refine blk_drew ?_ | refine blk_alloc ?_ _)); refine blk_put (cs := #[.int .i64 t414, .int .i64 0, .int .i64 0, .int .i64 0, .string (⟨#[]⟩ : ByteArray), .slice none 0 0, .slice none 0 0]) ?_ 1 _ rfl; (with_reducible repeat (first | refine blk_drewN ?_ _ | refine blk_drew ?_ | refine blk_alloc ?_ _)); exact BK413.out) NB413_412.out (by simp)); have n2_ := Aside0.mk (hb); have n3_ := Aside0.mk (hi); clear BK411; clear BK413; clear HB; clear HI412; have BK411 := n0_; have BK413 := n1_; have HB := n2_; have HI412 := n3_; clear n0_ n1_ n2_ n3_; (try clear hb); (try clear hb2); (try clear hk); (try clear hi); have hcz19_0 : w18.cell? ⟨gb413, 0, none⟩ = some (.int .i64 t414) := (blk_cell BK413.out 0).trans rfl; have hcz19_1 : w18.cell? ⟨gb413, 1, none⟩ = some (.int .i64 t417) := (blk_cell BK413.out 1).trans rfl; have hcz19_2 : w18.cell? ⟨gb413, 2, none⟩ = some (.int .i64 0) := (blk_cell BK413.out 2).trans rfl; have hcz19_3 : w18.cell? ⟨gb413, 3, none⟩ = some (.int .i64 0) := (blk_cell BK413.out 3).trans rfl; have hcz19_4 : w18.cell? ⟨gb413, 4, none⟩ = some (.string (⟨#[]⟩ : ByteArray)) := (blk_cell BK413.out 4).trans rfl; have hcz19_5 : w18.cell? ⟨gb413, 5, none⟩ = some (.slice none 0 0) := (blk_cell BK413.out 5).trans rfl; have hcz19_6 : w18.cell? ⟨gb413, 6, none⟩ = some (.slice none 0 0) := (blk_cell BK413.out 6).trans rfl; have hfz19_0 := blk_frozen BK413.out 0; have hfz19_1 := blk_frozen BK413.out 1; have hfz19_2 := blk_frozen BK413.out 2; have hfz19_3 := blk_frozen BK413.out 3; have hfz19_4 := blk_frozen BK413.out 4; have hfz19_5 := blk_frozen BK413.out 5; have hfz19_6 := blk_frozen BK413.out 6) | ((with_reducible refine gate_callee (f := 42) rfl ?_); refine goesL_ (some 23) rfl rfl Try.func42 (by kernel_rfl) rfl #[.pointer (some ⟨gb412, 0, none⟩), .int .u64 1000] rfl (by (try simp only [List.map_toArray, List.map_cons, List.map_nil]); first | done | rfl | (simp only [List.length_drop, List.length_take]; rfl)) ?_; (with_reducible refine (becketref01_Reader_Num.calls gb412 l0 t421 t422 1000 t423 t424 t425 w _ ?side1 ?side2 A5.out).mono ?_); (case side1 => repeat (first | (with_reducible first | exact HI412.out | apply IsS79.alloc | apply IsS79.drewN | apply IsS79.drew | apply IsS79.set_1 | apply IsS79.set_2 | refine IsS79.far ?_ NB412_411.out _ | refine IsS79.far ?_ NB412_413.out _) | exact HI412.out)); (case side2 => repeat (first | (with_reducible first | exact HB.out | apply below_alloc | apply pw_below_drewN | apply below_drew1 | refine below_set ?_ (IsS79.ge HI412.out) | refine below_set ?_ GE411.out | refine below_set ?_ GE413.out) | exact HB.out)); rintro e w20 ⟨rfl, hi, hb, hk⟩; refine ⟨_, rfl, ?_⟩; have n0_ := Aside0.mk (KeepBut.blk hk (g' := gb411) (o := .cells #[.int .i64 0, .int .i64 0, .int .i64 0, .int .i64 0, .string (⟨#[]⟩ : ByteArray), .slice none 0 0, .slice none 0 0] 25 (0, 0)) (by (with_reducible repeat (first | refine blk_drewN ?_ _ | refine blk_drew ?_ | refine blk_alloc ?_ _)); refine blk_far ?_ NB411_413.out _; (with_reducible repeat (first | refine blk_drewN ?_ _ | refine blk_drew ?_ | refine blk_alloc ?_ _)); exact BK411.out) NB411_412.out (by simp)); have n1_ := Aside0.mk (KeepBut.blk hk (g' := gb413) (o := .cells #[.int .i64 t414, .int .i64 t417, .int .i64 t420, .int .i64 0, .string (⟨#[]⟩ : ByteArray), .slice none 0 0, .slice none 0 0] 25 (0, 0)) (by (with_reducible repeat (first | refine blk_drewN ?_ _ | refine blk_drew ?_ | refine blk_alloc ?_ _)); refine blk_put (cs := #[.int .i64 t414, .int .i64 t417, .int .i64 0, .int .i64 0, .string (⟨#[]⟩ : ByteArray), .slice none 0 0, .slice none 0 0]) ?_ 2 _ rfl; (with_reducible repeat (first | refine blk_drewN ?_ _ | refine blk_drew ?_ | refine blk_alloc ?_ _)); exact BK413.out) NB413_412.out (by simp)); have n2_ := Aside0.mk (hb); have n3_ := Aside0.mk (hi); clear BK411; clear BK413; clear HB; clear HI412; have BK411 := n0_; have BK413 := n1_; have HB := n2_; have HI412 := n3_; clear n0_ n1_ n2_ n3_; (try clear hb); (try clear hb2); (try clear hk); (try clear hi); have hcz21_0 : w20.cell? ⟨gb413, 0, none⟩ = some (.int .i64 t414) := (blk_cell BK413.out 0).trans rfl; have hcz21_1 : w20.cell? ⟨gb413, 1, none⟩ = some (.int .i64 t417) := (blk_cell BK413.out 1).trans rfl; have hcz21_2 : w20.cell? ⟨gb413, 2, none⟩ = some (.int .i64 t420) := (blk_cell BK413.out 2).trans rfl; have hcz21_3 : w20.cell? ⟨gb413, 3, none⟩ = some (.int .i64 0) := (blk_cell BK413.out 3).trans rfl; have hcz21_4 : w20.cell? ⟨gb413, 4, none⟩ = some (.string (⟨#[]⟩ : ByteArray)) := (blk_cell BK413.out 4).trans rfl; have hcz21_5 : w20.cell? ⟨gb413, 5, none⟩ = some (.slice none 0 0) := (blk_cell BK413.out 5).trans rfl; have hcz21_6 : w20.cell? ⟨gb413, 6, none⟩ = some (.slice none 0 0) := (blk_cell BK413.out 6).trans rfl; have hfz21_0 := blk_frozen BK413.out 0; have hfz21_1 := blk_frozen BK413.out 1; have hfz21_2 := blk_frozen BK413.out 2; have hfz21_3 := blk_frozen BK413.out 3; have hfz21_4 := blk_frozen BK413.out 4; have hfz21_5 := blk_frozen BK413.out 5; have hfz21_6 := blk_frozen BK413.out 6) | ((with_reducible refine gate_callee (f := 43) rfl ?_); refine goesL_ (some 26) rfl rfl Try.func43 (by kernel_rfl) rfl #[.pointer (some ⟨gb412, 0, none⟩)] rfl (by (try simp only [List.map_toArray, List.map_cons, List.map_nil]); first | done | rfl | (simp only [List.length_drop, List.length_take]; rfl)) ?_; (with_reducible refine (becketref01_Reader_Text.calls gb412 l0 t424 t425 t426 t427 t428 w _ ?side1 ?side2 A6.out).mono ?_); (case side1 => repeat (first | (with_reducible first | exact HI412.out | apply IsS79.alloc | apply IsS79.drewN | apply IsS79.drew | apply IsS79.set_1 | apply IsS79.set_2 | refine IsS79.far ?_ NB412_411.out _ | refine IsS79.far ?_ NB412_413.out _) | exact HI412.out)); (case side2 => repeat (first | (with_reducible first | exact HB.out | apply below_alloc | apply pw_below_drewN | apply below_drew1 | refine below_set ?_ (IsS79.ge HI412.out) | refine below_set ?_ GE411.out | refine below_set ?_ GE413.out) | exact HB.out)); rintro e w22 ⟨rfl, hi, hb, hk⟩; refine ⟨_, rfl, ?_⟩; have n0_ := Aside0.mk (KeepBut.blk hk (g' := gb411) (o := .cells #[.int .i64 0, .int .i64 0, .int .i64 0, .int .i64 0, .string (⟨#[]⟩ : ByteArray), .slice none 0 0, .slice none 0 0] 25 (0, 0)) (by (with_reducible repeat (first | refine blk_drewN ?_ _ | refine blk_drew ?_ | refine blk_alloc ?_ _)); refine blk_far ?_ NB411_413.out _; (with_reducible repeat (first | refine blk_drewN ?_ _ | refine blk_drew ?_ | refine blk_alloc ?_ _)); exact BK411.out) NB411_412.out (by simp)); have n1_ := Aside0.mk (KeepBut.blk hk (g' := gb413) (o := .cells #[.int .i64 t414, .int .i64 t417, .int .i64 t420, .int .i64 t423, .string (⟨#[]⟩ : ByteArray), .slice none 0 0, .slice none 0 0] 25 (0, 0)) (by (with_reducible repeat (first | refine blk_drewN ?_ _ | refine blk_drew ?_ | refine blk_alloc ?_ _)); refine blk_put (cs := #[.int .i64 t414, .int .i64 t417, .int .i64 t420, .int .i64 0, .string (⟨#[]⟩ : ByteArray), .slice none 0 0, .slice none 0 0]) ?_ 3 _ rfl; (with_reducible repeat (first | refine blk_drewN ?_ _ | refine blk_drew ?_ | refine blk_alloc ?_ _)); exact BK413.out) NB413_412.out (by simp)); have n2_ := Aside0.mk (hb); have n3_ := Aside0.mk (hi); clear BK411; clear BK413; clear HB; clear HI412; have BK411 := n0_; have BK413 := n1_; have HB := n2_; have HI412 := n3_; clear n0_ n1_ n2_ n3_; (try clear hb); (try clear hb2); (try clear hk); (try clear hi); have hcz23_0 : w22.cell? ⟨gb413, 0, none⟩ = some (.int .i64 t414) := (blk_cell BK413.out 0).trans rfl; have hcz23_1 : w22.cell? ⟨gb413, 1, none⟩ = some (.int .i64 t417) := (blk_cell BK413.out 1).trans rfl; have hcz23_2 : w22.cell? ⟨gb413, 2, none⟩ = some (.int .i64 t420) := (blk_cell BK413.out 2).trans rfl; have hcz23_3 : w22.cell? ⟨gb413, 3, none⟩ = some (.int .i64 t423) := (blk_cell BK413.out 3).trans rfl; have hcz23_4 : w22.cell? ⟨gb413, 4, none⟩ = some (.string (⟨#[]⟩ : ByteArray)) := (blk_cell BK413.out 4).trans rfl; have hcz23_5 : w22.cell? ⟨gb413, 5, none⟩ = some (.slice none 0 0) := (blk_cell BK413.out 5).trans rfl; have hcz23_6 : w22.cell? ⟨gb413, 6, none⟩ = some (.slice none 0 0) := (blk_cell BK413.out 6).trans rfl; have hfz23_0 := blk_frozen BK413.out 0; have hfz23_1 := blk_frozen BK413.out 1; have hfz23_2 := blk_frozen BK413.out 2; have hfz23_3 := blk_frozen BK413.out 3; have hfz23_4 := blk_frozen BK413.out 4; have hfz23_5 := blk_frozen BK413.out 5; have hfz23_6 := blk_frozen BK413.out 6) | ((with_reducible refine gate_callee (f := 44) rfl ?_); refine goesL_ (some 29) rfl rfl Try.func44 (by kernel_rfl) rfl #[.pointer (some ⟨gb412, 0, none⟩)] rfl (by (try simp only [List.map_toArray, List.map_cons, List.map_nil]); first | done | rfl | (simp only [List.length_drop, List.length_take]; rfl)) ?_; (with_reducible refine (becketref12_get.calls k gb412 l0 t427 t428 t429 t432 t433 w _ ?side1 ?side2 A7.out).mono ?_); (case side1 => repeat (first | (with_reducible first | exact HI412.out | apply IsS79.alloc | apply IsS79.drewN | apply IsS79.drew | apply IsS79.set_1 | apply IsS79.set_2 | refine IsS79.far ?_ NB412_411.out _ | refine IsS79.far ?_ NB412_413.out _) | exact HI412.out)); (case side2 => repeat (first | (with_reducible first | exact HB.out | apply below_alloc | apply pw_below_drewN | apply below_drew1 | refine below_set ?_ (IsS79.ge HI412.out) | refine below_set ?_ GE411.out | refine below_set ?_ GE413.out) | exact HB.out)); rintro e w24 ⟨v430, rfl, ho0, hi, hb, hk⟩; refine ⟨_, rfl, ?_⟩; have n0_ := Aside0.mk (KeepBut.blk hk (g' := gb411) (o := .cells #[.int .i64 0, .int .i64 0, .int .i64 0, .int .i64 0, .string (⟨#[]⟩ : ByteArray), .slice none 0 0, .slice none 0 0] 25 (0, 0)) (by (with_reducible repeat (first | refine blk_drewN ?_ _ | refine blk_drew ?_ | refine blk_alloc ?_ _)); refine blk_far ?_ NB411_413.out _; (with_reducible repeat (first | refine blk_drewN ?_ _ | refine blk_drew ?_ | refine blk_alloc ?_ _)); exact BK411.out) NB411_412.out (by simp)); have n1_ := Aside0.mk (KeepBut.blk hk (g' := gb413) (o := .cells #[.int .i64 t414, .int .i64 t417, .int .i64 t420, .int .i64 t423, .string t426, .slice none 0 0, .slice none 0 0] 25 (0, 0)) (by (with_reducible repeat (first | refine blk_drewN ?_ _ | refine blk_drew ?_ | refine blk_alloc ?_ _)); refine blk_put (cs := #[.int .i64 t414, .int .i64 t417, .int .i64 t420, .int .i64 t423, .string (⟨#[]⟩ : ByteArray), .slice none 0 0, .slice none 0 0]) ?_ 4 _ rfl; (with_reducible repeat (first | refine blk_drewN ?_ _ | refine blk_drew ?_ | refine blk_alloc ?_ _)); exact BK413.out) NB413_412.out (by simp)); have n2_ := Aside0.mk (Kd.S_lower ho0 (below_size (by repeat (first | (with_reducible first | exact HB.out | apply below_alloc | apply pw_below_drewN | apply below_drew1 | refine below_set ?_ (IsS79.ge HI412.out) | refine below_set ?_ GE411.out | refine below_set ?_ GE413.out) | exact HB.out)))); have n3_ := Aside0.mk (hb); have n4_ := Aside0.mk (hi); clear BK411; clear BK413; clear HB; clear HI412; have BK411 := n0_; have BK413 := n1_; have HO431 := n2_; have HB := n3_; have HI412 := n4_; clear n0_ n1_ n2_ n3_ n4_; (try clear hb); (try clear hb2); (try clear hk); (try clear hi); (try clear ho0); obtain ⟨Ao25, co25, eo25⟩ := Kd.S_slice HO431.out; subst eo25; have hcz26_0 : w24.cell? ⟨gb413, 0, none⟩ = some (.int .i64 t414) := (blk_cell BK413.out 0).trans rfl; have hcz26_1 : w24.cell? ⟨gb413, 1, none⟩ = some (.int .i64 t417) := (blk_cell BK413.out 1).trans rfl; have hcz26_2 : w24.cell? ⟨gb413, 2, none⟩ = some (.int .i64 t420) := (blk_cell BK413.out 2).trans rfl; have hcz26_3 : w24.cell? ⟨gb413, 3, none⟩ = some (.int .i64 t423) := (blk_cell BK413.out 3).trans rfl; have hcz26_4 : w24.cell? ⟨gb413, 4, none⟩ = some (.string t426) := (blk_cell BK413.out 4).trans rfl; have hcz26_5 : w24.cell? ⟨gb413, 5, none⟩ = some (.slice none 0 0) := (blk_cell BK413.out 5).trans rfl; have hcz26_6 : w24.cell? ⟨gb413, 6, none⟩ = some (.slice none 0 0) := (blk_cell BK413.out 6).trans rfl; have hfz26_0 := blk_frozen BK413.out 0; have hfz26_1 := blk_frozen BK413.out 1; have hfz26_2 := blk_frozen BK413.out 2; have hfz26_3 := blk_frozen BK413.out 3; have hfz26_4 := blk_frozen BK413.out 4; have hfz26_5 := blk_frozen BK413.out 5; have hfz26_6 := blk_frozen BK413.out 6) | ((with_reducible refine gate_callee (f := 42) rfl ?_); refine goesL_ (some 32) rfl rfl Try.func42 (by kernel_rfl) rfl #[.pointer (some ⟨gb412, 0, none⟩), .int .u64 1000] rfl (by (try simp only [List.map_toArray, List.map_cons, List.map_nil]); first | done | rfl | (simp only [List.length_drop, List.length_take]; rfl)) ?_; (with_reducible refine (becketref01_Reader_Num.calls gb412 l0 t432 t433 1000 t434 t435 t436 w _ ?side1 ?side2 A8.out).mono ?_); (case side1 => repeat (first | (with_reducible first | exact HI412.out | apply IsS79.alloc | apply IsS79.drewN | apply IsS79.drew | apply IsS79.set_1 | apply IsS79.set_2 | refine IsS79.far ?_ NB412_411.out _ | refine IsS79.far ?_ NB412_413.out _) | exact HI412.out)); (case side2 => repeat (first | (with_reducible first | exact HB.out | apply below_alloc | apply pw_below_drewN | apply below_drew1 | refine below_set ?_ (IsS79.ge HI412.out) | refine below_set ?_ GE411.out | refine below_set ?_ GE413.out) | exact HB.out)); rintro e w27 ⟨rfl, hi, hb, hk⟩; refine ⟨_, rfl, ?_⟩; have n0_ := Aside0.mk (KeepBut.blk hk (g' := gb411) (o := .cells #[.int .i64 0, .int .i64 0, .int .i64 0, .int .i64 0, .string (⟨#[]⟩ : ByteArray), .slice none 0 0, .slice none 0 0] 25 (0, 0)) (by (with_reducible repeat (first | refine blk_drewN ?_ _ | refine blk_drew ?_ | refine blk_alloc ?_ _)); refine blk_far ?_ NB411_413.out _; (with_reducible repeat (first | refine blk_drewN ?_ _ | refine blk_drew ?_ | refine blk_alloc ?_ _)); exact BK411.out) NB411_412.out (by simp)); have n1_ := Aside0.mk (KeepBut.blk hk (g' := gb413) (o := .cells #[.int .i64 t414, .int .i64 t417, .int .i64 t420, .int .i64 t423, .string t426, .slice Ao25 t429.length co25, .slice none 0 0] 25 (0, 0)) (by (with_reducible repeat (first | refine blk_drewN ?_ _ | refine blk_drew ?_ | refine blk_alloc ?_ _)); refine blk_put (cs := #[.int .i64 t414, .int .i64 t417, .int .i64 t420, .int .i64 t423, .string t426, .slice none 0 0, .slice none 0 0]) ?_ 5 _ rfl; (with_reducible repeat (first | refine blk_drewN ?_ _ | refine blk_drew ?_ | refine blk_alloc ?_ _)); exact BK413.out) NB413_412.out (by simp)); have n2_ := Aside0.mk (Kd.S_mono (Kd.S_keep (IsS79.apartS (show IsS79 w _ gb412 l0 t432 t433 from by repeat (first | (with_reducible first | exact HI412.out | apply IsS79.alloc | apply IsS79.drewN | apply IsS79.drew | apply IsS79.set_1 | apply IsS79.set_2 | refine IsS79.far ?_ NB412_411.out _ | refine IsS79.far ?_ NB412_413.out _) | exact HI412.out)) (by (with_reducible repeat (first | apply Kd.S_alloc | apply Kd.S_drewN | apply Kd.S_drew)); exact (Kd.S_mono (Kd.S_far (p := ⟨gb413, 5, none⟩) (Kd.S_types HO431.out BK413.out (by decide)) (fun _ hk => hk.2) (.slice Ao25 t429.length co25)) (fun _ h_ => h_.1))) (by decide)) hk (fun _ h => h.2)) (fun _ h => h.1)); have n3_ := Aside0.mk (hb); have n4_ := Aside0.mk (hi); clear BK411; clear BK413; clear HO431; clear HB; clear HI412; have BK411 := n0_; have BK413 := n1_; have HO431 := n2_; have HB := n3_; have HI412 := n4_; clear n0_ n1_ n2_ n3_ n4_; (try clear hb); (try clear hb2); (try clear hk); (try clear hi)))
  go_loopg [7] k (fun kq v7 w' => ∃ (x7_1 : Int) (x413001_1 : Int) (x413002_1 : Bool) (x414006_1 : List (S61)) (u414006 : Value), v7 = .int .i64 x7_1 ∧ Aside0 (becketref12_Get.l0 kq l0 t434 x7_1 l0 x413001_1 x413002_1 t414 t417 t420 t423 t426 t429 x414006_1 = some (r1, r2, r3, r4, r5, r6, r7, r8)) ∧ Aside0 (kq ≤ k) ∧ Aside0 (Kd.S k95 95 w' w.heap.size (fun _ => True) (.slice Ao25 t429.length co25) t429) ∧ Aside0 (Kd.R k61 61 w' w.heap.size (fun k_ => some k_ ≠ ((.slice Ao25 t429.length co25) : Value).ownBlock) u414006 x414006_1) ∧ Aside0 (w'.heap[gb411]? = some (.cells #[.int .i64 0, .int .i64 0, .int .i64 0, .int .i64 0, .string (⟨#[]⟩ : ByteArray), (.slice none 0 0), (.slice none 0 0)] 25 (0, 0))) ∧ Aside0 (w'.heap[gb413]? = some (.cells #[.int .i64 t414, .int .i64 t417, .int .i64 t420, .int .i64 t423, .string t426, (.slice Ao25 t429.length co25), u414006] 25 (0, 0))) ∧ Aside0 (IsS79 w w' gb412 l0 x413001_1 x413002_1) ∧ Aside0 (Below w.heap.size w w'))
  case atStart => exact ⟨(0), (t435), (t436), (([] : List (S61))), (.slice none 0 0), (by first | rfl | (simp; done) | (simp [*]; done)), H', ⟨Nat.le_refl _⟩, ⟨by (with_reducible repeat (first | apply Kd.S_alloc | apply Kd.S_drewN | apply Kd.S_drew)); exact HO431.out⟩, ⟨by first | exact Kd.R_nil _ _ _ _ _ | exact Kd.N_nil _ _ _ _ _ | exact Kd.V_nil _ _ _ _ _ | exact Kd.Q_nil _ _ _ _ _ | exact Kd.S_nil _ _ _ _ _⟩, ⟨by (with_reducible repeat (first | refine blk_drewN ?_ _ | refine blk_drew ?_ | refine blk_alloc ?_ _)); exact BK411.out⟩, ⟨by (with_reducible repeat (first | refine blk_drewN ?_ _ | refine blk_drew ?_ | refine blk_alloc ?_ _)); exact BK413.out⟩, ⟨by repeat (first | (with_reducible first | exact HI412.out | apply IsS79.alloc | apply IsS79.drewN | apply IsS79.drew | apply IsS79.set_1 | apply IsS79.set_2 | refine IsS79.far ?_ NB412_411.out _ | refine IsS79.far ?_ NB412_413.out _) | exact HI412.out)⟩, ⟨by repeat (first | (with_reducible first | exact HB.out | apply below_alloc | apply pw_below_drewN | apply below_drew1 | refine below_set ?_ (IsS79.ge HI412.out) | refine below_set ?_ GE411.out | refine below_set ?_ GE413.out) | exact HB.out)⟩⟩
  case round =>
    clear H'
    try clear c1
    try clear p2
    try clear c4
    try clear c13
    try clear c14
    try clear c17
    try clear hcz15_0
    try clear hcz15_1
    try clear hcz15_2
    try clear hcz15_3
    try clear hcz15_4
    try clear hcz15_5
    try clear hcz15_6
    try clear hcz17_0
    try clear hcz17_1
    try clear hcz17_2
    try clear hcz17_3
    try clear hcz17_4
    try clear hcz17_5
    try clear hcz17_6
    try clear hcz19_0
    try clear hcz19_1
    try clear hcz19_2
    try clear hcz19_3
    try clear hcz19_4
    try clear hcz19_5
    try clear hcz19_6
    try clear hcz21_0
    try clear hcz21_1
    try clear hcz21_2
    try clear hcz21_3
    try clear hcz21_4
    try clear hcz21_5
    try clear hcz21_6
    try clear hcz23_0
    try clear hcz23_1
    try clear hcz23_2
    try clear hcz23_3
    try clear hcz23_4
    try clear hcz23_5
    try clear hcz23_6
    try clear hcz26_0
    try clear hcz26_1
    try clear hcz26_2
    try clear hcz26_3
    try clear hcz26_4
    try clear hcz26_5
    try clear hcz26_6
    try clear hfz15_0
    try clear hfz15_1
    try clear hfz15_2
    try clear hfz15_3
    try clear hfz15_4
    try clear hfz15_5
    try clear hfz15_6
    try clear hfz17_0
    try clear hfz17_1
    try clear hfz17_2
    try clear hfz17_3
    try clear hfz17_4
    try clear hfz17_5
    try clear hfz17_6
    try clear hfz19_0
    try clear hfz19_1
    try clear hfz19_2
    try clear hfz19_3
    try clear hfz19_4
    try clear hfz19_5
    try clear hfz19_6
    try clear hfz21_0
    try clear hfz21_1
    try clear hfz21_2
    try clear hfz21_3
    try clear hfz21_4
    try clear hfz21_5
    try clear hfz21_6
    try clear hfz23_0
    try clear hfz23_1
    try clear hfz23_2
    try clear hfz23_3
    try clear hfz23_4
    try clear hfz23_5
    try clear hfz23_6
    try clear hfz26_0
    try clear hfz26_1
    try clear hfz26_2
    try clear hfz26_3
    try clear hfz26_4
    try clear hfz26_5
    try clear hfz26_6
    obtain ⟨x7_1, x413001_1, x413002_1, x414006_1, u414006, rfl, HA, HK1, HO_414005, HO_414006, BK411, BK413, HI412, HB⟩ := hrel
    cases gk with
    | zero => exact absurd HA.out (by simp [becketref12_Get.l0])
    | succ k1 =>
      have H := HA.out
      clear HA
      simp only [becketref12_Get.l0] at H
      have HC28 := Aside0.mk H
      clear H
      go_upto_region 11 with (fail)
      go_cut [42] (fun v42 wc => ∃ (kq : Nat) (x42_27 : Bool), v42 = .bool x42_27 ∧ Aside0 (becketref12_Get.j1 kq l0 t434 x7_1 x42_27 l0 x413001_1 x413002_1 t414 t417 t420 t423 t426 t429 x414006_1 = some (r1, r2, r3, r4, r5, r6, r7, r8)) ∧ Aside0 (kq ≤ k1) ∧ Aside0 (Kd.S k95 95 wc w.heap.size (fun _ => True) (.slice Ao25 t429.length co25) t429) ∧ Aside0 (Kd.R k61 61 wc w.heap.size (fun k_ => some k_ ≠ ((.slice Ao25 t429.length co25) : Value).ownBlock) u414006 x414006_1) ∧ Aside0 (wc.heap[gb411]? = some (.cells #[.int .i64 0, .int .i64 0, .int .i64 0, .int .i64 0, .string (⟨#[]⟩ : ByteArray), (.slice none 0 0), (.slice none 0 0)] 25 (0, 0))) ∧ Aside0 (wc.heap[gb413]? = some (.cells #[.int .i64 t414, .int .i64 t417, .int .i64 t420, .int .i64 t423, .string t426, (.slice Ao25 t429.length co25), u414006] 25 (0, 0))) ∧ Aside0 (IsS79 w wc gb412 l0 x413001_1 x413002_1) ∧ Aside0 (Below w.heap.size w wc))
      case first =>
        have H := HC28.out
        clear HC28
        by_cases c29 : x7_1 < t434
        · rw [if_pos c29] at H
          have c29b0 : decide (x7_1 < t434) = true := decide_eq_true c29
          clear c29
          (first | rw [c29b0] | (simp only [i64_w, i32_w]; rw [c29b0]) | skip)
          have H' := Aside0.mk H
          clear H
          obtain ⟨ASz30_0, cSz30_0, HGz30, hgz30, HSz30_0⟩ := HI412.out
          have hcz30_0 := cellS79_0 HGz30
          have hcz30_1 := cellS79_1 HGz30
          have hcz30_2 := cellS79_2 HGz30
          have hfz30_1 := blk_frozen HGz30 1
          have hfz30_2 := blk_frozen HGz30 2
          clear HGz30 hgz30
          go_wp2
          go_meet
          case rel => exact ⟨_, (!x413002_1), (by first | rfl | (simp; done) | (simp [*]; done)), H', ⟨by have := HK1.out; first | omega | exact Nat.le_refl _⟩, ⟨by (with_reducible repeat (first | apply Kd.S_alloc | apply Kd.S_drewN | apply Kd.S_drew)); exact HO_414005.out⟩, ⟨by (with_reducible repeat (first | apply Kd.R_alloc | apply Kd.R_drewN | apply Kd.R_drew)); exact HO_414006.out⟩, ⟨by (with_reducible repeat (first | refine blk_drewN ?_ _ | refine blk_drew ?_ | refine blk_alloc ?_ _)); exact BK411.out⟩, ⟨by (with_reducible repeat (first | refine blk_drewN ?_ _ | refine blk_drew ?_ | refine blk_alloc ?_ _)); exact BK413.out⟩, ⟨by repeat (first | (with_reducible first | exact HI412.out | apply IsS79.alloc | apply IsS79.drewN | apply IsS79.drew | apply IsS79.set_1 | apply IsS79.set_2 | refine IsS79.far ?_ NB412_411.out _ | refine IsS79.far ?_ NB412_413.out _) | exact HI412.out)⟩, ⟨by repeat (first | (with_reducible first | exact HB.out | apply below_alloc | apply pw_below_drewN | apply below_drew1 | refine below_set ?_ (IsS79.ge HI412.out) | refine below_set ?_ GE411.out | refine below_set ?_ GE413.out) | exact HB.out)⟩⟩
        · rw [if_neg c29] at H
          have c29b0 : decide (x7_1 < t434) = false := decide_eq_false c29
          clear c29
          (first | rw [c29b0] | (simp only [i64_w, i32_w]; rw [c29b0]) | skip)
          have H' := Aside0.mk H
          clear H
          go_wp2
          go_meet
          case rel => exact ⟨_, (false), (by first | rfl | (simp; done) | (simp [*]; done)), H', ⟨by have := HK1.out; first | omega | exact Nat.le_refl _⟩, ⟨by (with_reducible repeat (first | apply Kd.S_alloc | apply Kd.S_drewN | apply Kd.S_drew)); exact HO_414005.out⟩, ⟨by (with_reducible repeat (first | apply Kd.R_alloc | apply Kd.R_drewN | apply Kd.R_drew)); exact HO_414006.out⟩, ⟨by (with_reducible repeat (first | refine blk_drewN ?_ _ | refine blk_drew ?_ | refine blk_alloc ?_ _)); exact BK411.out⟩, ⟨by (with_reducible repeat (first | refine blk_drewN ?_ _ | refine blk_drew ?_ | refine blk_alloc ?_ _)); exact BK413.out⟩, ⟨by repeat (first | (with_reducible first | exact HI412.out | apply IsS79.alloc | apply IsS79.drewN | apply IsS79.drew | apply IsS79.set_1 | apply IsS79.set_2 | refine IsS79.far ?_ NB412_411.out _ | refine IsS79.far ?_ NB412_413.out _) | exact HI412.out)⟩, ⟨by repeat (first | (with_reducible first | exact HB.out | apply below_alloc | apply pw_below_drewN | apply below_drew1 | refine below_set ?_ (IsS79.ge HI412.out) | refine below_set ?_ GE411.out | refine below_set ?_ GE413.out) | exact HB.out)⟩⟩
      case rest =>
        clear HC28
        try clear c1
        try clear c2
        try clear p2
        try clear c4
        try clear c13
        try clear c14
        try clear c17
        try clear c29
        try clear c29b0
        try clear hcz15_0
        try clear hcz15_1
        try clear hcz15_2
        try clear hcz15_3
        try clear hcz15_4
        try clear hcz15_5
        try clear hcz15_6
        try clear hcz17_0
        try clear hcz17_1
        try clear hcz17_2
        try clear hcz17_3
        try clear hcz17_4
        try clear hcz17_5
        try clear hcz17_6
        try clear hcz19_0
        try clear hcz19_1
        try clear hcz19_2
        try clear hcz19_3
        try clear hcz19_4
        try clear hcz19_5
        try clear hcz19_6
        try clear hcz21_0
        try clear hcz21_1
        try clear hcz21_2
        try clear hcz21_3
        try clear hcz21_4
        try clear hcz21_5
        try clear hcz21_6
        try clear hcz23_0
        try clear hcz23_1
        try clear hcz23_2
        try clear hcz23_3
        try clear hcz23_4
        try clear hcz23_5
        try clear hcz23_6
        try clear hcz26_0
        try clear hcz26_1
        try clear hcz26_2
        try clear hcz26_3
        try clear hcz26_4
        try clear hcz26_5
        try clear hcz26_6
        try clear hcz30_0
        try clear hcz30_1
        try clear hcz30_2
        try clear hfz15_0
        try clear hfz15_1
        try clear hfz15_2
        try clear hfz15_3
        try clear hfz15_4
        try clear hfz15_5
        try clear hfz15_6
        try clear hfz17_0
        try clear hfz17_1
        try clear hfz17_2
        try clear hfz17_3
        try clear hfz17_4
        try clear hfz17_5
        try clear hfz17_6
        try clear hfz19_0
        try clear hfz19_1
        try clear hfz19_2
        try clear hfz19_3
        try clear hfz19_4
        try clear hfz19_5
        try clear hfz19_6
        try clear hfz21_0
        try clear hfz21_1
        try clear hfz21_2
        try clear hfz21_3
        try clear hfz21_4
        try clear hfz21_5
        try clear hfz21_6
        try clear hfz23_0
        try clear hfz23_1
        try clear hfz23_2
        try clear hfz23_3
        try clear hfz23_4
        try clear hfz23_5
        try clear hfz23_6
        try clear hfz26_0
        try clear hfz26_1
        try clear hfz26_2
        try clear hfz26_3
        try clear hfz26_4
        try clear hfz26_5
        try clear hfz26_6
        try clear hfz30_1
        try clear hfz30_2
        try clear p2
        obtain ⟨kq, x42_27, rfl, HA, HJ27, HO_414005, HO_414006, BK411, BK413, HI412, HB⟩ := hcut
        cases kq with
        | zero => exact absurd HA.out (by simp [becketref12_Get.j1])
        | succ kj27 =>
          have H := HA.out
          clear HA
          simp only [becketref12_Get.j1] at H
          by_cases c31 : x42_27 = true
          · subst c31
            have H1 : ((becketref01_Reader_Num.f l0 x413001_1 x413002_1 1000).bind fun bt438 => ((becketref01_Reader_Num.f l0 bt438.2.1 bt438.2.2 1000).bind fun bt441 => ((becketref12_get.f kj27 l0 bt441.2.1 bt441.2.2).bind fun bt444 => (if x414006_1.length < 3518437208883 then (becketref12_Get.l0 kj27 l0 t434 (wrap64 (x7_1 + 1)) l0 bt444.2.1 bt444.2.2 t414 t417 t420 t423 t426 t429 (x414006_1 ++ [(⟨bt438.1, bt441.1, bt444.1⟩ : S61)])) else (none))))) = some (r1, r2, r3, r4, r5, r6, r7, r8) := by first | (rw [if_pos rfl] at H; with_reducible exact H) | exact (if_pos rfl).symm.trans H | (simp only [if_true, eq_self_iff_true] at H ⊢; exact H)
            clear H
            have H := H1
            clear H1
            replace H := Option.bind_eq_some_iff.mp H
            obtain ⟨⟨t438, t439, t440⟩, A320, H⟩ := H
            replace H : ((becketref01_Reader_Num.f l0 t439 t440 1000).bind fun bt441 => ((becketref12_get.f kj27 l0 bt441.2.1 bt441.2.2).bind fun bt444 => (if x414006_1.length < 3518437208883 then (becketref12_Get.l0 kj27 l0 t434 (wrap64 (x7_1 + 1)) l0 bt444.2.1 bt444.2.2 t414 t417 t420 t423 t426 t429 (x414006_1 ++ [(⟨t438, bt441.1, bt444.1⟩ : S61)])) else (none)))) = some (r1, r2, r3, r4, r5, r6, r7, r8) := H
            have A32 := Aside0.mk A320
            clear A320
            replace H := Option.bind_eq_some_iff.mp H
            obtain ⟨⟨t441, t442, t443⟩, A330, H⟩ := H
            replace H : ((becketref12_get.f kj27 l0 t442 t443).bind fun bt444 => (if x414006_1.length < 3518437208883 then (becketref12_Get.l0 kj27 l0 t434 (wrap64 (x7_1 + 1)) l0 bt444.2.1 bt444.2.2 t414 t417 t420 t423 t426 t429 (x414006_1 ++ [(⟨t438, t441, bt444.1⟩ : S61)])) else (none))) = some (r1, r2, r3, r4, r5, r6, r7, r8) := H
            have A33 := Aside0.mk A330
            clear A330
            replace H := Option.bind_eq_some_iff.mp H
            obtain ⟨⟨t444, t447, t448⟩, A340, H⟩ := H
            replace H : (if x414006_1.length < 3518437208883 then (becketref12_Get.l0 kj27 l0 t434 (wrap64 (x7_1 + 1)) l0 t447 t448 t414 t417 t420 t423 t426 t429 (x414006_1 ++ [(⟨t438, t441, t444⟩ : S61)])) else (none)) = some (r1, r2, r3, r4, r5, r6, r7, r8) := H
            have A34 := Aside0.mk A340
            clear A340
            by_cases c35 : x414006_1.length < 3518437208883
            · rw [if_pos c35] at H
              have LMc35 := Aside0.mk c35
              clear c35
              obtain ⟨y449, hy449⟩ : ∃ y_ : List (S61), y_ = (x414006_1 ++ [(⟨t438, t441, t444⟩ : S61)]) := ⟨_, rfl⟩
              replace H : (becketref12_Get.l0 kj27 l0 t434 (wrap64 (x7_1 + 1)) l0 t447 t448 t414 t417 t420 t423 t426 t429 y449) = some (r1, r2, r3, r4, r5, r6, r7, r8) := by first | (rw [hy449]; with_reducible exact H) | (have H2_ := (Option.bind_some _ _).symm.trans H; rw [hy449]; with_reducible exact H2_) | (have H2_ := (Option.bind_some _ _).symm.trans H; with_reducible exact H2_) | with_reducible exact H | (rw [hy449]; exact H) | exact H
              have Ny449 := Aside0.mk hy449
              clear hy449
              have H' := Aside0.mk H
              clear H
              go_wp2_with (first | ((with_reducible refine gate_dst (N := 8) rfl ?_); (try (refine gate_guard (by rfl) ?_; dsimp only)); refine box_event ?hg (N := 8) ?hd (cs := #[.int .i64 0, .int .i64 0, .slice none 0 0]) (t := 61) ?hr ?_; (case hd => rfl); (case hg => rfl); (case hr => first | (go_simp; done) | (go_simp; rfl)); intro gb437 hg w36 hbox hb; have n0_ := Aside0.mk (Kd.S_below (by (with_reducible repeat (first | apply Kd.S_alloc | apply Kd.S_drewN | apply Kd.S_drew)); exact HO_414005.out) hb); have n1_ := Aside0.mk (Kd.R_below (Kd.R_elderB (by (with_reducible repeat (first | apply Kd.R_alloc | apply Kd.R_drewN | apply Kd.R_drew)); exact HO_414006.out) gb437 (Nat.le_of_eq hg.symm)) hb); have n2_ := Aside0.mk (blk_below (g := gb411) (o := .cells #[.int .i64 0, .int .i64 0, .int .i64 0, .int .i64 0, .string (⟨#[]⟩ : ByteArray), .slice none 0 0, .slice none 0 0] 25 (0, 0)) (by (with_reducible repeat (first | refine blk_drewN ?_ _ | refine blk_drew ?_ | refine blk_alloc ?_ _)); exact BK411.out) hb); have n3_ := Aside0.mk (blk_below (g := gb413) (o := .cells #[.int .i64 t414, .int .i64 t417, .int .i64 t420, .int .i64 t423, .string t426, .slice Ao25 t429.length co25, u414006] 25 (0, 0)) (by (with_reducible repeat (first | refine blk_drewN ?_ _ | refine blk_drew ?_ | refine blk_alloc ?_ _)); exact BK413.out) hb); have n4_ := Aside0.mk (IsS79.below (by repeat (first | (with_reducible first | exact HI412.out | apply IsS79.alloc | apply IsS79.drewN | apply IsS79.drew | apply IsS79.set_1 | apply IsS79.set_2 | refine IsS79.far ?_ NB412_411.out _ | refine IsS79.far ?_ NB412_413.out _) | exact HI412.out)) hb); have n5_ := Aside0.mk (below_step (by repeat (first | (with_reducible first | exact HB.out | apply below_alloc | apply pw_below_drewN | apply below_drew1 | refine below_set ?_ (IsS79.ge HI412.out) | refine below_set ?_ GE411.out | refine below_set ?_ GE413.out) | exact HB.out)) hb); have n6_ := Aside0.mk (hbox); have n7_ := Aside0.mk ((by rw [hg]; exact (below_size (by repeat (first | (with_reducible first | exact HB.out | apply below_alloc | apply pw_below_drewN | apply below_drew1 | refine below_set ?_ (IsS79.ge HI412.out) | refine below_set ?_ GE411.out | refine below_set ?_ GE413.out) | exact HB.out))) : w.heap.size ≤ gb437)); have n8_ := Aside0.mk ((by rw [hg]; exact (below_size (by repeat (first | (with_reducible first | exact HB.out | apply below_alloc | apply pw_below_drewN | apply below_drew1 | refine below_set ?_ (IsS79.ge HI412.out) | refine below_set ?_ GE411.out | refine below_set ?_ GE413.out) | exact HB.out))) : w.heap.size ≤ gb437)); have n9_ := Aside0.mk ((by rw [hg]; exact Nat.ne_of_lt (blk_lt (g := gb411) (o := .cells #[.int .i64 0, .int .i64 0, .int .i64 0, .int .i64 0, .string (⟨#[]⟩ : ByteArray), .slice none 0 0, .slice none 0 0] 25 (0, 0)) (by (with_reducible repeat (first | refine blk_drewN ?_ _ | refine blk_drew ?_ | refine blk_alloc ?_ _)); exact BK411.out)) : gb411 ≠ gb437)); have n10_ := Aside0.mk ((by rw [hg]; exact Nat.ne_of_gt (blk_lt (g := gb411) (o := .cells #[.int .i64 0, .int .i64 0, .int .i64 0, .int .i64 0, .string (⟨#[]⟩ : ByteArray), .slice none 0 0, .slice none 0 0] 25 (0, 0)) (by (with_reducible repeat (first | refine blk_drewN ?_ _ | refine blk_drew ?_ | refine blk_alloc ?_ _)); exact BK411.out)) : gb437 ≠ gb411)); have n11_ := Aside0.mk ((by rw [hg]; exact Nat.ne_of_lt (blk_lt (g := gb413) (o := .cells #[.int .i64 t414, .int .i64 t417, .int .i64 t420, .int .i64 t423, .string t426, .slice Ao25 t429.length co25, u414006] 25 (0, 0)) (by (with_reducible repeat (first | refine blk_drewN ?_ _ | refine blk_drew ?_ | refine blk_alloc ?_ _)); exact BK413.out)) : gb413 ≠ gb437)); have n12_ := Aside0.mk ((by rw [hg]; exact Nat.ne_of_gt (blk_lt (g := gb413) (o := .cells #[.int .i64 t414, .int .i64 t417, .int .i64 t420, .int .i64 t423, .string t426, .slice Ao25 t429.length co25, u414006] 25 (0, 0)) (by (with_reducible repeat (first | refine blk_drewN ?_ _ | refine blk_drew ?_ | refine blk_alloc ?_ _)); exact BK413.out)) : gb437 ≠ gb413)); have n13_ := Aside0.mk ((by rw [hg]; exact Nat.ne_of_lt (IsS79.lt (show IsS79 w _ gb412 l0 x413001_1 x413002_1 from by repeat (first | (with_reducible first | exact HI412.out | apply IsS79.alloc | apply IsS79.drewN | apply IsS79.drew | apply IsS79.set_1 | apply IsS79.set_2 | refine IsS79.far ?_ NB412_411.out _ | refine IsS79.far ?_ NB412_413.out _) | exact HI412.out))) : gb412 ≠ gb437)); have n14_ := Aside0.mk ((by rw [hg]; exact Nat.ne_of_gt (IsS79.lt (show IsS79 w _ gb412 l0 x413001_1 x413002_1 from by repeat (first | (with_reducible first | exact HI412.out | apply IsS79.alloc | apply IsS79.drewN | apply IsS79.drew | apply IsS79.set_1 | apply IsS79.set_2 | refine IsS79.far ?_ NB412_411.out _ | refine IsS79.far ?_ NB412_413.out _) | exact HI412.out))) : gb437 ≠ gb412)); clear HO_414005; clear HO_414006; clear BK411; clear BK413; clear HI412; clear HB; have HO_414005 := n0_; have HO_414006 := n1_; have BK411 := n2_; have BK413 := n3_; have HI412 := n4_; have HB := n5_; have BK437 := n6_; have GW437 := n7_; have GE437 := n8_; have NB411_437 := n9_; have NB437_411 := n10_; have NB413_437 := n11_; have NB437_413 := n12_; have NB412_437 := n13_; have NB437_412 := n14_; clear n0_ n1_ n2_ n3_ n4_ n5_ n6_ n7_ n8_ n9_ n10_ n11_ n12_ n13_ n14_; clear hb hbox hg) | ((with_reducible refine gate_callee (f := 42) rfl ?_); refine goesL_ (some 46) rfl rfl Try.func42 (by kernel_rfl) rfl #[.pointer (some ⟨gb412, 0, none⟩), .int .u64 1000] rfl (by (try simp only [List.map_toArray, List.map_cons, List.map_nil]); first | done | rfl | (simp only [List.length_drop, List.length_take]; rfl)) ?_; (with_reducible refine (becketref01_Reader_Num.calls gb412 l0 x413001_1 x413002_1 1000 t438 t439 t440 w _ ?side1 ?side2 A32.out).mono ?_); (case side1 => repeat (first | (with_reducible first | exact HI412.out | apply IsS79.alloc | apply IsS79.drewN | apply IsS79.drew | apply IsS79.set_1 | apply IsS79.set_2 | refine IsS79.far ?_ NB412_411.out _ | refine IsS79.far ?_ NB412_413.out _ | refine IsS79.far ?_ NB412_437.out _) | exact HI412.out)); (case side2 => repeat (first | (with_reducible first | exact HB.out | apply below_alloc | apply pw_below_drewN | apply below_drew1 | refine below_set ?_ (IsS79.ge HI412.out) | refine below_set ?_ GE411.out | refine below_set ?_ GE413.out | refine below_set ?_ GE437.out) | exact HB.out)); rintro e w37 ⟨rfl, hi, hb, hk⟩; refine ⟨_, rfl, ?_⟩; have n0_ := Aside0.mk (Kd.S_mono (Kd.S_keep (IsS79.apartS (show IsS79 w _ gb412 l0 x413001_1 x413002_1 from by repeat (first | (with_reducible first | exact HI412.out | apply IsS79.alloc | apply IsS79.drewN | apply IsS79.drew | apply IsS79.set_1 | apply IsS79.set_2 | refine IsS79.far ?_ NB412_411.out _ | refine IsS79.far ?_ NB412_413.out _ | refine IsS79.far ?_ NB412_437.out _) | exact HI412.out)) (by (with_reducible repeat (first | apply Kd.S_alloc | apply Kd.S_drewN | apply Kd.S_drew)); exact HO_414005.out) (by decide)) hk (fun _ h => h.2)) (fun _ h => h.1)); have n1_ := Aside0.mk (Kd.R_mono (Kd.R_keep (IsS79.apart (show IsS79 w _ gb412 l0 x413001_1 x413002_1 from by repeat (first | (with_reducible first | exact HI412.out | apply IsS79.alloc | apply IsS79.drewN | apply IsS79.drew | apply IsS79.set_1 | apply IsS79.set_2 | refine IsS79.far ?_ NB412_411.out _ | refine IsS79.far ?_ NB412_413.out _ | refine IsS79.far ?_ NB412_437.out _) | exact HI412.out)) (by (with_reducible repeat (first | apply Kd.R_alloc | apply Kd.R_drewN | apply Kd.R_drew)); exact HO_414006.out) (by decide)) hk (fun _ h => h.2)) (fun _ h => h.1)); have n2_ := Aside0.mk (KeepBut.blk hk (g' := gb411) (o := .cells #[.int .i64 0, .int .i64 0, .int .i64 0, .int .i64 0, .string (⟨#[]⟩ : ByteArray), .slice none 0 0, .slice none 0 0] 25 (0, 0)) (by (with_reducible repeat (first | refine blk_drewN ?_ _ | refine blk_drew ?_ | refine blk_alloc ?_ _)); exact BK411.out) NB411_412.out (by simp)); have n3_ := Aside0.mk (KeepBut.blk hk (g' := gb413) (o := .cells #[.int .i64 t414, .int .i64 t417, .int .i64 t420, .int .i64 t423, .string t426, .slice Ao25 t429.length co25, u414006] 25 (0, 0)) (by (with_reducible repeat (first | refine blk_drewN ?_ _ | refine blk_drew ?_ | refine blk_alloc ?_ _)); exact BK413.out) NB413_412.out (by simp)); have n4_ := Aside0.mk (KeepBut.blk hk (g' := gb437) (o := .cells #[.int .i64 0, .int .i64 0, .slice none 0 0] 61 (0, 0)) (by (with_reducible repeat (first | refine blk_drewN ?_ _ | refine blk_drew ?_ | refine blk_alloc ?_ _)); exact BK437.out) NB437_412.out (by simp)); have n5_ := Aside0.mk (hb); have n6_ := Aside0.mk (hi); clear HO_414005; clear HO_414006; clear BK411; clear BK413; clear BK437; clear HB; clear HI412; have HO_414005 := n0_; have HO_414006 := n1_; have BK411 := n2_; have BK413 := n3_; have BK437 := n4_; have HB := n5_; have HI412 := n6_; clear n0_ n1_ n2_ n3_ n4_ n5_ n6_; (try clear hb); (try clear hb2); (try clear hk); (try clear hi); have hnb38 := NB437_411.out; have hnc38 := NB411_437.out; have hnb39 := NB437_413.out; have hnc39 := NB413_437.out; have hnb40 := NB437_412.out; have hnc40 := NB412_437.out; have hcz41_0 : w37.cell? ⟨gb437, 0, none⟩ = some (.int .i64 0) := (blk_cell BK437.out 0).trans rfl; have hcz41_1 : w37.cell? ⟨gb437, 1, none⟩ = some (.int .i64 0) := (blk_cell BK437.out 1).trans rfl; have hcz41_2 : w37.cell? ⟨gb437, 2, none⟩ = some (.slice none 0 0) := (blk_cell BK437.out 2).trans rfl; have hfz41_0 := blk_frozen BK437.out 0; have hfz41_1 := blk_frozen BK437.out 1; have hfz41_2 := blk_frozen BK437.out 2) | ((with_reducible refine gate_callee (f := 42) rfl ?_); refine goesL_ (some 49) rfl rfl Try.func42 (by kernel_rfl) rfl #[.pointer (some ⟨gb412, 0, none⟩), .int .u64 1000] rfl (by (try simp only [List.map_toArray, List.map_cons, List.map_nil]); first | done | rfl | (simp only [List.length_drop, List.length_take]; rfl)) ?_; (with_reducible refine (becketref01_Reader_Num.calls gb412 l0 t439 t440 1000 t441 t442 t443 w _ ?side1 ?side2 A33.out).mono ?_); (case side1 => repeat (first | (with_reducible first | exact HI412.out | apply IsS79.alloc | apply IsS79.drewN | apply IsS79.drew | apply IsS79.set_1 | apply IsS79.set_2 | refine IsS79.far ?_ NB412_411.out _ | refine IsS79.far ?_ NB412_413.out _ | refine IsS79.far ?_ NB412_437.out _) | exact HI412.out)); (case side2 => repeat (first | (with_reducible first | exact HB.out | apply below_alloc | apply pw_below_drewN | apply below_drew1 | refine below_set ?_ (IsS79.ge HI412.out) | refine below_set ?_ GE411.out | refine below_set ?_ GE413.out | refine below_set ?_ GE437.out) | exact HB.out)); rintro e w42 ⟨rfl, hi, hb, hk⟩; refine ⟨_, rfl, ?_⟩; have n0_ := Aside0.mk (Kd.S_mono (Kd.S_keep (IsS79.apartS (show IsS79 w _ gb412 l0 t439 t440 from by repeat (first | (with_reducible first | exact HI412.out | apply IsS79.alloc | apply IsS79.drewN | apply IsS79.drew | apply IsS79.set_1 | apply IsS79.set_2 | refine IsS79.far ?_ NB412_411.out _ | refine IsS79.far ?_ NB412_413.out _ | refine IsS79.far ?_ NB412_437.out _) | exact HI412.out)) (by (with_reducible repeat (first | apply Kd.S_alloc | apply Kd.S_drewN | apply Kd.S_drew)); exact (Kd.S_mono (Kd.S_far (p := ⟨gb437, 0, none⟩) (Kd.S_types HO_414005.out BK437.out (by decide)) (fun _ hk => hk.2) (.int .i64 t438)) (fun _ h_ => h_.1))) (by decide)) hk (fun _ h => h.2)) (fun _ h => h.1)); have n1_ := Aside0.mk (Kd.R_mono (Kd.R_keep (IsS79.apart (show IsS79 w _ gb412 l0 t439 t440 from by repeat (first | (with_reducible first | exact HI412.out | apply IsS79.alloc | apply IsS79.drewN | apply IsS79.drew | apply IsS79.set_1 | apply IsS79.set_2 | refine IsS79.far ?_ NB412_411.out _ | refine IsS79.far ?_ NB412_413.out _ | refine IsS79.far ?_ NB412_437.out _) | exact HI412.out)) (by (with_reducible repeat (first | apply Kd.R_alloc | apply Kd.R_drewN | apply Kd.R_drew)); exact (Kd.R_mono (Kd.R_far (p := ⟨gb437, 0, none⟩) (Kd.R_mono HO_414006.out (fun k_ hk => (⟨hk, hk.2⟩ : _ ∧ k_ ≠ gb437))) (fun _ hk => hk.2) (.int .i64 t438)) (fun _ h_ => h_.1))) (by decide)) hk (fun _ h => h.2)) (fun _ h => h.1)); have n2_ := Aside0.mk (KeepBut.blk hk (g' := gb411) (o := .cells #[.int .i64 0, .int .i64 0, .int .i64 0, .int .i64 0, .string (⟨#[]⟩ : ByteArray), .slice none 0 0, .slice none 0 0] 25 (0, 0)) (by (with_reducible repeat (first | refine blk_drewN ?_ _ | refine blk_drew ?_ | refine blk_alloc ?_ _)); refine blk_far ?_ NB411_437.out _; (with_reducible repeat (first | refine blk_drewN ?_ _ | refine blk_drew ?_ | refine blk_alloc ?_ _)); exact BK411.out) NB411_412.out (by simp)); have n3_ := Aside0.mk (KeepBut.blk hk (g' := gb413) (o := .cells #[.int .i64 t414, .int .i64 t417, .int .i64 t420, .int .i64 t423, .string t426, .slice Ao25 t429.length co25, u414006] 25 (0, 0)) (by (with_reducible repeat (first | refine blk_drewN ?_ _ | refine blk_drew ?_ | refine blk_alloc ?_ _)); refine blk_far ?_ NB413_437.out _; (with_reducible repeat (first | refine blk_drewN ?_ _ | refine blk_drew ?_ | refine blk_alloc ?_ _)); exact BK413.out) NB413_412.out (by simp)); have n4_ := Aside0.mk (KeepBut.blk hk (g' := gb437) (o := .cells #[.int .i64 t438, .int .i64 0, .slice none 0 0] 61 (0, 0)) (by (with_reducible repeat (first | refine blk_drewN ?_ _ | refine blk_drew ?_ | refine blk_alloc ?_ _)); refine blk_put (cs := #[.int .i64 0, .int .i64 0, .slice none 0 0]) ?_ 0 _ rfl; (with_reducible repeat (first | refine blk_drewN ?_ _ | refine blk_drew ?_ | refine blk_alloc ?_ _)); exact BK437.out) NB437_412.out (by simp)); have n5_ := Aside0.mk (hb); have n6_ := Aside0.mk (hi); clear HO_414005; clear HO_414006; clear BK411; clear BK413; clear BK437; clear HB; clear HI412; have HO_414005 := n0_; have HO_414006 := n1_; have BK411 := n2_; have BK413 := n3_; have BK437 := n4_; have HB := n5_; have HI412 := n6_; clear n0_ n1_ n2_ n3_ n4_ n5_ n6_; (try clear hb); (try clear hb2); (try clear hk); (try clear hi); have hcz43_0 : w42.cell? ⟨gb437, 0, none⟩ = some (.int .i64 t438) := (blk_cell BK437.out 0).trans rfl; have hcz43_1 : w42.cell? ⟨gb437, 1, none⟩ = some (.int .i64 0) := (blk_cell BK437.out 1).trans rfl; have hcz43_2 : w42.cell? ⟨gb437, 2, none⟩ = some (.slice none 0 0) := (blk_cell BK437.out 2).trans rfl; have hfz43_0 := blk_frozen BK437.out 0; have hfz43_1 := blk_frozen BK437.out 1; have hfz43_2 := blk_frozen BK437.out 2) | ((with_reducible refine gate_callee (f := 44) rfl ?_); refine goesL_ (some 52) rfl rfl Try.func44 (by kernel_rfl) rfl #[.pointer (some ⟨gb412, 0, none⟩)] rfl (by (try simp only [List.map_toArray, List.map_cons, List.map_nil]); first | done | rfl | (simp only [List.length_drop, List.length_take]; rfl)) ?_; (with_reducible refine (becketref12_get.calls kj27 gb412 l0 t442 t443 t444 t447 t448 w _ ?side1 ?side2 A34.out).mono ?_); (case side1 => repeat (first | (with_reducible first | exact HI412.out | apply IsS79.alloc | apply IsS79.drewN | apply IsS79.drew | apply IsS79.set_1 | apply IsS79.set_2 | refine IsS79.far ?_ NB412_411.out _ | refine IsS79.far ?_ NB412_413.out _ | refine IsS79.far ?_ NB412_437.out _) | exact HI412.out)); (case side2 => repeat (first | (with_reducible first | exact HB.out | apply below_alloc | apply pw_below_drewN | apply below_drew1 | refine below_set ?_ (IsS79.ge HI412.out) | refine below_set ?_ GE411.out | refine below_set ?_ GE413.out | refine below_set ?_ GE437.out) | exact HB.out)); rintro e w44 ⟨v445, rfl, ho0, hi, hb, hk⟩; refine ⟨_, rfl, ?_⟩; have n0_ := Aside0.mk (Kd.S_mono (Kd.S_told (Kd.S_oldK (IsS79.apartS (show IsS79 w _ gb412 l0 t442 t443 from by repeat (first | (with_reducible first | exact HI412.out | apply IsS79.alloc | apply IsS79.drewN | apply IsS79.drew | apply IsS79.set_1 | apply IsS79.set_2 | refine IsS79.far ?_ NB412_411.out _ | refine IsS79.far ?_ NB412_413.out _ | refine IsS79.far ?_ NB412_437.out _) | exact HI412.out)) (by (with_reducible repeat (first | apply Kd.S_alloc | apply Kd.S_drewN | apply Kd.S_drew)); exact (Kd.S_mono (Kd.S_far (p := ⟨gb437, 1, none⟩) (Kd.S_types HO_414005.out BK437.out (by decide)) (fun _ hk => hk.2) (.int .i64 t441)) (fun _ h_ => h_.1))) (by decide)) hk) (Kd.S_base ho0)) (fun _ h_ => h_.1)); have n1_ := Aside0.mk (Kd.R_mono (Kd.R_told (Kd.R_oldK (IsS79.apart (show IsS79 w _ gb412 l0 t442 t443 from by repeat (first | (with_reducible first | exact HI412.out | apply IsS79.alloc | apply IsS79.drewN | apply IsS79.drew | apply IsS79.set_1 | apply IsS79.set_2 | refine IsS79.far ?_ NB412_411.out _ | refine IsS79.far ?_ NB412_413.out _ | refine IsS79.far ?_ NB412_437.out _) | exact HI412.out)) (by (with_reducible repeat (first | apply Kd.R_alloc | apply Kd.R_drewN | apply Kd.R_drew)); exact (Kd.R_mono (Kd.R_far (p := ⟨gb437, 1, none⟩) (Kd.R_mono HO_414006.out (fun k_ hk => (⟨hk, hk.2⟩ : _ ∧ k_ ≠ gb437))) (fun _ hk => hk.2) (.int .i64 t441)) (fun _ h_ => h_.1))) (by decide)) hk) (Kd.S_base ho0)) (fun _ h_ => h_.1)); have n2_ := Aside0.mk (KeepBut.blk hk (g' := gb411) (o := .cells #[.int .i64 0, .int .i64 0, .int .i64 0, .int .i64 0, .string (⟨#[]⟩ : ByteArray), .slice none 0 0, .slice none 0 0] 25 (0, 0)) (by (with_reducible repeat (first | refine blk_drewN ?_ _ | refine blk_drew ?_ | refine blk_alloc ?_ _)); refine blk_far ?_ NB411_437.out _; (with_reducible repeat (first | refine blk_drewN ?_ _ | refine blk_drew ?_ | refine blk_alloc ?_ _)); exact BK411.out) NB411_412.out (by simp)); have n3_ := Aside0.mk (KeepBut.blk hk (g' := gb413) (o := .cells #[.int .i64 t414, .int .i64 t417, .int .i64 t420, .int .i64 t423, .string t426, .slice Ao25 t429.length co25, u414006] 25 (0, 0)) (by (with_reducible repeat (first | refine blk_drewN ?_ _ | refine blk_drew ?_ | refine blk_alloc ?_ _)); refine blk_far ?_ NB413_437.out _; (with_reducible repeat (first | refine blk_drewN ?_ _ | refine blk_drew ?_ | refine blk_alloc ?_ _)); exact BK413.out) NB413_412.out (by simp)); have n4_ := Aside0.mk (KeepBut.blk hk (g' := gb437) (o := .cells #[.int .i64 t438, .int .i64 t441, .slice none 0 0] 61 (0, 0)) (by (with_reducible repeat (first | refine blk_drewN ?_ _ | refine blk_drew ?_ | refine blk_alloc ?_ _)); refine blk_put (cs := #[.int .i64 t438, .int .i64 0, .slice none 0 0]) ?_ 1 _ rfl; (with_reducible repeat (first | refine blk_drewN ?_ _ | refine blk_drew ?_ | refine blk_alloc ?_ _)); exact BK437.out) NB437_412.out (by simp)); have n5_ := Aside0.mk (Kd.S_lower (Kd.S_new' ho0 (Kd.S_lt (by (with_reducible repeat (first | apply Kd.S_alloc | apply Kd.S_drewN | apply Kd.S_drew)); exact (Kd.S_mono (Kd.S_far (p := ⟨gb437, 1, none⟩) (Kd.S_types HO_414005.out BK437.out (by decide)) (fun _ hk => hk.2) (.int .i64 t441)) (fun _ h_ => h_.1))))) (below_size (by repeat (first | (with_reducible first | exact HB.out | apply below_alloc | apply pw_below_drewN | apply below_drew1 | refine below_set ?_ (IsS79.ge HI412.out) | refine below_set ?_ GE411.out | refine below_set ?_ GE413.out | refine below_set ?_ GE437.out) | exact HB.out)))); have n6_ := Aside0.mk (hb); have n7_ := Aside0.mk (hi); clear HO_414005; clear HO_414006; clear BK411; clear BK413; clear BK437; clear HB; clear HI412; have HO_414005 := n0_; have HO_414006 := n1_; have BK411 := n2_; have BK413 := n3_; have BK437 := n4_; have HO446 := n5_; have HB := n6_; have HI412 := n7_; clear n0_ n1_ n2_ n3_ n4_ n5_ n6_ n7_; (try clear hb); (try clear hb2); (try clear hk); (try clear hi); (try clear ho0); obtain ⟨Ao45, co45, eo45⟩ := Kd.S_slice HO446.out; subst eo45; have hcz46_0 : w44.cell? ⟨gb437, 0, none⟩ = some (.int .i64 t438) := (blk_cell BK437.out 0).trans rfl; have hcz46_1 : w44.cell? ⟨gb437, 1, none⟩ = some (.int .i64 t441) := (blk_cell BK437.out 1).trans rfl; have hcz46_2 : w44.cell? ⟨gb437, 2, none⟩ = some (.slice none 0 0) := (blk_cell BK437.out 2).trans rfl; have hfz46_0 := blk_frozen BK437.out 0; have hfz46_1 := blk_frozen BK437.out 1; have hfz46_2 := blk_frozen BK437.out 2) | ((with_reducible refine gate_store (t := 22) (p := 53) rfl ?_); refine store_event (t := 22) (p := 53) (v := ?vo_w47) (w1 := (w44.setCell ⟨gb437, 2, none⟩ (.slice Ao45 t444.length co45))) ?hg ?ho ?hn ?hr ?_; (case ho => rfl); (case hg => rfl); (case hn => rfl); (case hr => first | (go_simp; done) | (go_simp; rfl)); intro w47 hw; have n0_ : Aside0 (Kd.S k95 95 w47 w.heap.size (fun k_ => some k_ ≠ (.slice Ao45 t444.length co45 : Value).ownBlock) (.slice Ao25 t429.length co25) t429) := ⟨(by rw [hw]; exact (by (with_reducible repeat (first | apply Kd.S_alloc | apply Kd.S_drewN | apply Kd.S_drew)); exact Kd.S_mono (Kd.S_far (p := ⟨gb437, 2, none⟩) (Kd.S_types HO_414005.out BK437.out (by decide)) (fun _ hk => hk.2) (.slice Ao45 t444.length co45)) (fun _ hk => hk.1.2)))⟩; have n1_ : Aside0 (Kd.R k61 61 w47 w.heap.size (fun k_ => some k_ ≠ (.slice Ao25 t429.length co25 : Value).ownBlock ∧ some k_ ≠ (.slice Ao45 t444.length co45 : Value).ownBlock ∧ k_ ≠ gb437) u414006 x414006_1) := ⟨(by rw [hw]; exact (by (with_reducible repeat (first | apply Kd.R_alloc | apply Kd.R_drewN | apply Kd.R_drew)); exact Kd.R_mono (Kd.R_far (p := ⟨gb437, 2, none⟩) (Kd.R_mono HO_414006.out (fun k_ hk => (⟨hk, hk.1.2⟩ : _ ∧ k_ ≠ gb437))) (fun _ hk => hk.2) (.slice Ao45 t444.length co45)) (fun _ hk => ⟨hk.1.1.1, ⟨hk.1.2, hk.1.1.2⟩⟩)))⟩; have n2_ : Aside0 (Kd.S k95 95 w47 w.heap.size (fun k_ => some k_ ≠ (.slice Ao25 t429.length co25 : Value).ownBlock) (.slice Ao45 t444.length co45) t444) := ⟨(by rw [hw]; exact (by (with_reducible repeat (first | apply Kd.S_alloc | apply Kd.S_drewN | apply Kd.S_drew)); exact Kd.S_mono (Kd.S_far (p := ⟨gb437, 2, none⟩) (Kd.S_types HO446.out BK437.out (by decide)) (fun _ hk => hk.2) (.slice Ao45 t444.length co45)) (fun _ hk => hk.1.2)))⟩; have n3_ : Aside0 (w47.heap[gb411]? = some (.cells #[.int .i64 0, .int .i64 0, .int .i64 0, .int .i64 0, .string (⟨#[]⟩ : ByteArray), .slice none 0 0, .slice none 0 0] 25 (0, 0))) := ⟨(by rw [hw]; exact (by (with_reducible repeat (first | refine blk_drewN ?_ _ | refine blk_drew ?_ | refine blk_alloc ?_ _)); refine blk_far ?_ NB411_437.out _; (with_reducible repeat (first | refine blk_drewN ?_ _ | refine blk_drew ?_ | refine blk_alloc ?_ _)); exact BK411.out))⟩; have n4_ : Aside0 (w47.heap[gb413]? = some (.cells #[.int .i64 t414, .int .i64 t417, .int .i64 t420, .int .i64 t423, .string t426, .slice Ao25 t429.length co25, u414006] 25 (0, 0))) := ⟨(by rw [hw]; exact (by (with_reducible repeat (first | refine blk_drewN ?_ _ | refine blk_drew ?_ | refine blk_alloc ?_ _)); refine blk_far ?_ NB413_437.out _; (with_reducible repeat (first | refine blk_drewN ?_ _ | refine blk_drew ?_ | refine blk_alloc ?_ _)); exact BK413.out))⟩; have n5_ : Aside0 (w47.heap[gb437]? = some (.cells #[.int .i64 t438, .int .i64 t441, .slice Ao45 t444.length co45] 61 (0, 0))) := ⟨(by rw [hw]; exact (by (with_reducible repeat (first | refine blk_drewN ?_ _ | refine blk_drew ?_ | refine blk_alloc ?_ _)); refine blk_put (cs := #[.int .i64 t438, .int .i64 t441, .slice none 0 0]) ?_ 2 _ rfl; (with_reducible repeat (first | refine blk_drewN ?_ _ | refine blk_drew ?_ | refine blk_alloc ?_ _)); exact BK437.out))⟩; have n6_ : Aside0 (IsS79 w w47 gb412 l0 t447 t448) := ⟨(by rw [hw]; exact (by repeat (first | (with_reducible first | exact HI412.out | apply IsS79.alloc | apply IsS79.drewN | apply IsS79.drew | apply IsS79.set_1 | apply IsS79.set_2 | refine IsS79.far ?_ NB412_411.out _ | refine IsS79.far ?_ NB412_413.out _ | refine IsS79.far ?_ NB412_437.out _) | exact HI412.out)))⟩; have n7_ : Aside0 (Below w.heap.size w w47) := ⟨(by rw [hw]; exact (by repeat (first | (with_reducible first | exact HB.out | apply below_alloc | apply pw_below_drewN | apply below_drew1 | refine below_set ?_ (IsS79.ge HI412.out) | refine below_set ?_ GE411.out | refine below_set ?_ GE413.out | refine below_set ?_ GE437.out) | exact HB.out)))⟩; clear hw; clear HO_414005; clear HO_414006; clear HO446; clear BK411; clear BK413; clear BK437; clear HI412; clear HB; have HO_414005 := n0_; have HO_414006 := n1_; have HO446 := n2_; have BK411 := n3_; have BK413 := n4_; have BK437 := n5_; have HI412 := n6_; have HB := n7_; clear n0_ n1_ n2_ n3_ n4_ n5_ n6_ n7_; have hnb48 := NB413_411.out; have hnc48 := NB411_413.out; have hnb49 := NB413_412.out; have hnc49 := NB412_413.out; have hcz50_0 : w47.cell? ⟨gb413, 0, none⟩ = some (.int .i64 t414) := (blk_cell BK413.out 0).trans rfl; have hcz50_1 : w47.cell? ⟨gb413, 1, none⟩ = some (.int .i64 t417) := (blk_cell BK413.out 1).trans rfl; have hcz50_2 : w47.cell? ⟨gb413, 2, none⟩ = some (.int .i64 t420) := (blk_cell BK413.out 2).trans rfl; have hcz50_3 : w47.cell? ⟨gb413, 3, none⟩ = some (.int .i64 t423) := (blk_cell BK413.out 3).trans rfl; have hcz50_4 : w47.cell? ⟨gb413, 4, none⟩ = some (.string t426) := (blk_cell BK413.out 4).trans rfl; have hcz50_5 : w47.cell? ⟨gb413, 5, none⟩ = some (.slice Ao25 t429.length co25) := (blk_cell BK413.out 5).trans rfl; have hcz50_6 : w47.cell? ⟨gb413, 6, none⟩ = some (u414006) := (blk_cell BK413.out 6).trans rfl; have hfz50_0 := blk_frozen BK413.out 0; have hfz50_1 := blk_frozen BK413.out 1; have hfz50_2 := blk_frozen BK413.out 2; have hfz50_3 := blk_frozen BK413.out 3; have hfz50_4 := blk_frozen BK413.out 4; have hfz50_5 := blk_frozen BK413.out 5; have hfz50_6 := blk_frozen BK413.out 6; have hcz51_0 : w47.cell? ⟨gb437, 0, none⟩ = some (.int .i64 t438) := (blk_cell BK437.out 0).trans rfl; have hcz51_1 : w47.cell? ⟨gb437, 1, none⟩ = some (.int .i64 t441) := (blk_cell BK437.out 1).trans rfl; have hcz51_2 : w47.cell? ⟨gb437, 2, none⟩ = some (.slice Ao45 t444.length co45) := (blk_cell BK437.out 2).trans rfl; have hfz51_0 := blk_frozen BK437.out 0; have hfz51_1 := blk_frozen BK437.out 1; have hfz51_2 := blk_frozen BK437.out 2) | ((with_reducible refine gate_builtin (b := .append) (xs := #[.tmp 55, .tmp 57]) rfl ?_); (try (refine gate_guard (by rfl) ?_; dsimp only)); at_builtin; refine Kd.R_append k61 (w0 := w) w.heap.size rfl (.tmp 55) (.tmp 57) 23 61 (.agg #[(.int .i64 0), (.int .i64 0), (.slice none 0 0)]) 40 rfl Try.underlying23 info61 rfl (by decide) (by omega) u414006 x414006_1 (⟨t438, t441, t444⟩ : S61) [.int .i64 t438, .int .i64 t441, .slice Ao45 t444.length co45] (fun k_ => some k_ ≠ (.slice Ao25 t429.length co25 : Value).ownBlock ∧ k_ ≠ gb437) (fun k_ => ((fun k_ => some k_ ≠ (.slice Ao25 t429.length co25 : Value).ownBlock ∧ k_ ≠ gb437)) k_ ∧ some k_ ≠ (u414006 : Value).ownBlock) rfl rfl ?aP (fun _ hk => hk) ?aF ?aO ?aB ?aS ?aL ?_; (case aP => exact k61_mkM _ _ _ (⟨t438, t441, t444⟩ : S61) (Kd.R_mono (Kd.R_types (Kd.R_apart' ((Kd.S_R HO446.out)) (Kd.R_typed HO_414006.out) (by decide)) BK437.out (by decide)) (fun k_ hk => ⟨⟨hk.1.1, hk.2⟩, hk.1.2⟩))); (case aB => exact (by repeat (first | (with_reducible first | exact HB.out | apply below_alloc | apply pw_below_drewN | apply below_drew1 | refine below_set ?_ (IsS79.ge HI412.out) | refine below_set ?_ GE411.out | refine below_set ?_ GE413.out | refine below_set ?_ GE437.out) | exact HB.out))); (case aF => exact (fun k_ hk => ⟨Kd.fresh' (Kd.S_lt (by (with_reducible repeat (first | apply Kd.S_alloc | apply Kd.S_drewN | apply Kd.S_drew)); exact HO_414005.out)) k_ hk, Kd.freshB (g := gb437) (o := .cells #[.int .i64 t438, .int .i64 t441, .slice Ao45 t444.length co45] 61 (0, 0)) (by (with_reducible repeat (first | refine blk_drewN ?_ _ | refine blk_drew ?_ | refine blk_alloc ?_ _)); exact BK437.out) k_ hk⟩)); (case aO => exact (by (with_reducible repeat (first | apply Kd.R_alloc | apply Kd.R_drewN | apply Kd.R_drew)); exact Kd.R_mono HO_414006.out (fun _ hk => ⟨hk.1, hk.2.2⟩))); (case aS => exact (below_size (by repeat (first | (with_reducible first | exact HB.out | apply below_alloc | apply pw_below_drewN | apply below_drew1 | refine below_set ?_ (IsS79.ge HI412.out) | refine below_set ?_ GE411.out | refine below_set ?_ GE413.out | refine below_set ?_ GE437.out) | exact HB.out)))); (case aL => have := LMc35.out; omega); intro v450 w52 ho hb hg hat; rw [← Ny449.out] at ho; have n0_ := Aside0.mk (Kd.S_over' (by (with_reducible repeat (first | apply Kd.S_alloc | apply Kd.S_drewN | apply Kd.S_drew)); exact HO_414005.out) (Kd.R_typed (by (with_reducible repeat (first | apply Kd.R_alloc | apply Kd.R_drewN | apply Kd.R_drew)); exact HO_414006.out)) (by decide) hg); have n1_ := Aside0.mk (blk_grown (g := gb411) (o := .cells #[.int .i64 0, .int .i64 0, .int .i64 0, .int .i64 0, .string (⟨#[]⟩ : ByteArray), .slice none 0 0, .slice none 0 0] 25 (0, 0)) (by (with_reducible repeat (first | refine blk_drewN ?_ _ | refine blk_drew ?_ | refine blk_alloc ?_ _)); exact BK411.out) hg (Kd.R_ne HO_414006.out BK411.out (by decide))); have n2_ := Aside0.mk (blk_grown (g := gb413) (o := .cells #[.int .i64 t414, .int .i64 t417, .int .i64 t420, .int .i64 t423, .string t426, .slice Ao25 t429.length co25, u414006] 25 (0, 0)) (by (with_reducible repeat (first | refine blk_drewN ?_ _ | refine blk_drew ?_ | refine blk_alloc ?_ _)); exact BK413.out) hg (Kd.R_ne HO_414006.out BK413.out (by decide))); have n3_ := Aside0.mk (IsS79.grown (by repeat (first | (with_reducible first | exact HI412.out | apply IsS79.alloc | apply IsS79.drewN | apply IsS79.drew | apply IsS79.set_1 | apply IsS79.set_2 | refine IsS79.far ?_ NB412_411.out _ | refine IsS79.far ?_ NB412_413.out _ | refine IsS79.far ?_ NB412_437.out _) | exact HI412.out)) hg (IsS79.own_ne HI412.out HO_414006.out (by decide))); have n4_ := Aside0.mk (blk_grown (g := gb437) (o := .cells #[.int .i64 t438, .int .i64 t441, .slice Ao45 t444.length co45] 61 (0, 0)) (by (with_reducible repeat (first | refine blk_drewN ?_ _ | refine blk_drew ?_ | refine blk_alloc ?_ _)); exact BK437.out) hg (Kd.R_away HO_414006.out (fun _ hk => hk.2.2))); have n5_ := Aside0.mk (hb); have n6_ := Aside0.mk (ho); clear HO_414005; clear BK411; clear BK413; clear HI412; clear BK437; clear HB; clear HO_414006; clear HO446; have HO_414005 := n0_; have BK411 := n1_; have BK413 := n2_; have HI412 := n3_; have BK437 := n4_; have HB := n5_; have HO451 := n6_; clear n0_ n1_ n2_ n3_ n4_ n5_ n6_; clear ho hb hg hat; obtain ⟨Ao53, co53, eo53⟩ := Kd.R_slice HO451.out; subst eo53; have hcz54_0 : w52.cell? ⟨gb413, 0, none⟩ = some (.int .i64 t414) := (blk_cell BK413.out 0).trans rfl; have hcz54_1 : w52.cell? ⟨gb413, 1, none⟩ = some (.int .i64 t417) := (blk_cell BK413.out 1).trans rfl; have hcz54_2 : w52.cell? ⟨gb413, 2, none⟩ = some (.int .i64 t420) := (blk_cell BK413.out 2).trans rfl; have hcz54_3 : w52.cell? ⟨gb413, 3, none⟩ = some (.int .i64 t423) := (blk_cell BK413.out 3).trans rfl; have hcz54_4 : w52.cell? ⟨gb413, 4, none⟩ = some (.string t426) := (blk_cell BK413.out 4).trans rfl; have hcz54_5 : w52.cell? ⟨gb413, 5, none⟩ = some (.slice Ao25 t429.length co25) := (blk_cell BK413.out 5).trans rfl; have hcz54_6 : w52.cell? ⟨gb413, 6, none⟩ = some (u414006) := (blk_cell BK413.out 6).trans rfl; have hfz54_0 := blk_frozen BK413.out 0; have hfz54_1 := blk_frozen BK413.out 1; have hfz54_2 := blk_frozen BK413.out 2; have hfz54_3 := blk_frozen BK413.out 3; have hfz54_4 := blk_frozen BK413.out 4; have hfz54_5 := blk_frozen BK413.out 5; have hfz54_6 := blk_frozen BK413.out 6))
              go_roundg kj27
              case measure => have := HK1.out; have := HJ27.out; omega
              case rel => exact ⟨(wrap64 (x7_1 + 1)), (t447), (t448), (y449), (.slice Ao53 y449.length co53), (by first | rfl | (simp; done) | (simp [*]; done)), H', ⟨by have := HK1.out; have := HJ27.out; omega⟩, ⟨by (with_reducible repeat (first | apply Kd.S_alloc | apply Kd.S_drewN | apply Kd.S_drew)); exact Kd.S_mono (Kd.S_far (p := ⟨gb413, 6, none⟩) (Kd.S_types HO_414005.out BK413.out (by decide)) (fun _ hk => hk.2) (.slice Ao53 y449.length co53)) (fun _ hk => trivial)⟩, ⟨by (with_reducible repeat (first | apply Kd.R_alloc | apply Kd.R_drewN | apply Kd.R_drew)); exact Kd.R_mono (Kd.R_far (p := ⟨gb413, 6, none⟩) (Kd.R_types HO451.out BK413.out (by decide)) (fun _ hk => hk.2) (.slice Ao53 y449.length co53)) (fun _ hk => hk.1.1)⟩, ⟨by (with_reducible repeat (first | refine blk_drewN ?_ _ | refine blk_drew ?_ | refine blk_alloc ?_ _)); refine blk_far ?_ NB411_413.out _; (with_reducible repeat (first | refine blk_drewN ?_ _ | refine blk_drew ?_ | refine blk_alloc ?_ _)); exact BK411.out⟩, ⟨by (with_reducible repeat (first | refine blk_drewN ?_ _ | refine blk_drew ?_ | refine blk_alloc ?_ _)); refine blk_put (cs := #[.int .i64 t414, .int .i64 t417, .int .i64 t420, .int .i64 t423, .string t426, .slice Ao25 t429.length co25, u414006]) ?_ 6 _ rfl; (with_reducible repeat (first | refine blk_drewN ?_ _ | refine blk_drew ?_ | refine blk_alloc ?_ _)); exact BK413.out⟩, ⟨by repeat (first | (with_reducible first | exact HI412.out | apply IsS79.alloc | apply IsS79.drewN | apply IsS79.drew | apply IsS79.set_1 | apply IsS79.set_2 | refine IsS79.far ?_ NB412_411.out _ | refine IsS79.far ?_ NB412_413.out _ | refine IsS79.far ?_ NB412_437.out _) | exact HI412.out)⟩, ⟨by repeat (first | (with_reducible first | exact HB.out | apply below_alloc | apply pw_below_drewN | apply below_drew1 | refine below_set ?_ (IsS79.ge HI412.out) | refine below_set ?_ GE411.out | refine below_set ?_ GE413.out | refine below_set ?_ GE437.out) | exact HB.out)⟩⟩
            · rw [if_neg c35] at H
              exact absurd H (by simp)
          · replace c31 := Bool.eq_false_iff.mpr c31
            subst c31
            have H1 : (if x413002_1 = true then (becketref12_Get.j2 kj27 true t414 t417 t420 t423 t426 t429 x414006_1) else (becketref12_Get.j2 kj27 (decide (x413001_1 < (l0.length : Int))) t414 t417 t420 t423 t426 t429 x414006_1)) = some (r1, r2, r3, r4, r5, r6, r7, r8) := by rw [if_neg (show ¬ (false = true) by decide)] at H; exact H
            clear H
            have H := H1
            clear H1
            have HC55 := Aside0.mk H
            clear H
            go_upto_region 18 with (fail)
            go_cut [72] (fun v72 wc => ∃ (kq : Nat) (x72_54 : Bool), v72 = .bool x72_54 ∧ Aside0 (becketref12_Get.j2 kq x72_54 t414 t417 t420 t423 t426 t429 x414006_1 = some (r1, r2, r3, r4, r5, r6, r7, r8)) ∧ Aside0 (kq ≤ kj27) ∧ Aside0 (Kd.S k95 95 wc w.heap.size (fun _ => True) (.slice Ao25 t429.length co25) t429) ∧ Aside0 (Kd.R k61 61 wc w.heap.size (fun k_ => some k_ ≠ ((.slice Ao25 t429.length co25) : Value).ownBlock) u414006 x414006_1) ∧ Aside0 (wc.heap[gb411]? = some (.cells #[.int .i64 0, .int .i64 0, .int .i64 0, .int .i64 0, .string (⟨#[]⟩ : ByteArray), (.slice none 0 0), (.slice none 0 0)] 25 (0, 0))) ∧ Aside0 (wc.heap[gb413]? = some (.cells #[.int .i64 t414, .int .i64 t417, .int .i64 t420, .int .i64 t423, .string t426, (.slice Ao25 t429.length co25), u414006] 25 (0, 0))) ∧ Aside0 (Below w.heap.size w wc))
            case first =>
              have H := HC55.out
              clear HC55
              by_cases c56 : x413002_1 = true
              · subst c56
                have H1 : (becketref12_Get.j2 kj27 true t414 t417 t420 t423 t426 t429 x414006_1) = some (r1, r2, r3, r4, r5, r6, r7, r8) := by first | (rw [if_pos rfl] at H; with_reducible exact H) | exact (if_pos rfl).symm.trans H | (simp only [if_true, eq_self_iff_true] at H ⊢; exact H)
                clear H
                have H := H1
                clear H1
                have H' := Aside0.mk H
                clear H
                obtain ⟨ASz57_0, cSz57_0, HGz57, hgz57, HSz57_0⟩ := HI412.out
                have hcz57_0 := cellS79_0 HGz57
                have hcz57_1 := cellS79_1 HGz57
                have hcz57_2 := cellS79_2 HGz57
                have hfz57_1 := blk_frozen HGz57 1
                have hfz57_2 := blk_frozen HGz57 2
                clear HGz57 hgz57
                go_wp2
                go_meet
                case rel => exact ⟨_, (true), (by first | rfl | (simp; done) | (simp [*]; done)), H', ⟨by have := HK1.out; have := HJ27.out; first | omega | exact Nat.le_refl _⟩, ⟨by (with_reducible repeat (first | apply Kd.S_alloc | apply Kd.S_drewN | apply Kd.S_drew)); exact HO_414005.out⟩, ⟨by (with_reducible repeat (first | apply Kd.R_alloc | apply Kd.R_drewN | apply Kd.R_drew)); exact HO_414006.out⟩, ⟨by (with_reducible repeat (first | refine blk_drewN ?_ _ | refine blk_drew ?_ | refine blk_alloc ?_ _)); exact BK411.out⟩, ⟨by (with_reducible repeat (first | refine blk_drewN ?_ _ | refine blk_drew ?_ | refine blk_alloc ?_ _)); exact BK413.out⟩, ⟨by repeat (first | (with_reducible first | exact HB.out | apply below_alloc | apply pw_below_drewN | apply below_drew1 | refine below_set ?_ (IsS79.ge HI412.out) | refine below_set ?_ GE411.out | refine below_set ?_ GE413.out) | exact HB.out)⟩⟩
              · replace c56 := Bool.eq_false_iff.mpr c56
                subst c56
                have H1 : (becketref12_Get.j2 kj27 (decide (x413001_1 < (l0.length : Int))) t414 t417 t420 t423 t426 t429 x414006_1) = some (r1, r2, r3, r4, r5, r6, r7, r8) := by rw [if_neg (show ¬ (false = true) by decide)] at H; exact H
                clear H
                have H := H1
                clear H1
                have H' := Aside0.mk H
                clear H
                obtain ⟨ASz58_0, cSz58_0, HGz58, hgz58, HSz58_0⟩ := HI412.out
                have hcz58_0 := cellS79_0 HGz58
                have hcz58_1 := cellS79_1 HGz58
                have hcz58_2 := cellS79_2 HGz58
                have hfz58_1 := blk_frozen HGz58 1
                have hfz58_2 := blk_frozen HGz58 2
                clear HGz58 hgz58
                go_wp2
                go_meet
                case rel => exact ⟨_, (decide (x413001_1 < (l0.length : Int))), (by first | rfl | (simp; done) | (simp [*]; done)), H', ⟨by have := HK1.out; have := HJ27.out; first | omega | exact Nat.le_refl _⟩, ⟨by (with_reducible repeat (first | apply Kd.S_alloc | apply Kd.S_drewN | apply Kd.S_drew)); exact HO_414005.out⟩, ⟨by (with_reducible repeat (first | apply Kd.R_alloc | apply Kd.R_drewN | apply Kd.R_drew)); exact HO_414006.out⟩, ⟨by (with_reducible repeat (first | refine blk_drewN ?_ _ | refine blk_drew ?_ | refine blk_alloc ?_ _)); exact BK411.out⟩, ⟨by (with_reducible repeat (first | refine blk_drewN ?_ _ | refine blk_drew ?_ | refine blk_alloc ?_ _)); exact BK413.out⟩, ⟨by repeat (first | (with_reducible first | exact HB.out | apply below_alloc | apply pw_below_drewN | apply below_drew1 | refine below_set ?_ (IsS79.ge HI412.out) | refine below_set ?_ GE411.out | refine below_set ?_ GE413.out) | exact HB.out)⟩⟩
            case rest =>
              clear HC55
              try clear c1
              try clear c2
              try clear p2
              try clear c3
              try clear c4
              try clear c5
              try clear p6
              try clear c13
              try clear c14
              try clear c17
              try clear c29
              try clear c29b0
              try clear c31
              try clear c35
              try clear c38
              try clear c39
              try clear c40
              try clear c42
              try clear c43
              try clear c44
              try clear c48
              try clear c49
              try clear c56
              try clear hcz15_0
              try clear hcz15_1
              try clear hcz15_2
              try clear hcz15_3
              try clear hcz15_4
              try clear hcz15_5
              try clear hcz15_6
              try clear hcz17_0
              try clear hcz17_1
              try clear hcz17_2
              try clear hcz17_3
              try clear hcz17_4
              try clear hcz17_5
              try clear hcz17_6
              try clear hcz19_0
              try clear hcz19_1
              try clear hcz19_2
              try clear hcz19_3
              try clear hcz19_4
              try clear hcz19_5
              try clear hcz19_6
              try clear hcz21_0
              try clear hcz21_1
              try clear hcz21_2
              try clear hcz21_3
              try clear hcz21_4
              try clear hcz21_5
              try clear hcz21_6
              try clear hcz23_0
              try clear hcz23_1
              try clear hcz23_2
              try clear hcz23_3
              try clear hcz23_4
              try clear hcz23_5
              try clear hcz23_6
              try clear hcz26_0
              try clear hcz26_1
              try clear hcz26_2
              try clear hcz26_3
              try clear hcz26_4
              try clear hcz26_5
              try clear hcz26_6
              try clear hcz30_0
              try clear hcz30_1
              try clear hcz30_2
              try clear hcz41_0
              try clear hcz41_1
              try clear hcz41_2
              try clear hcz43_0
              try clear hcz43_1
              try clear hcz43_2
              try clear hcz46_0
              try clear hcz46_1
              try clear hcz46_2
              try clear hcz50_0
              try clear hcz50_1
              try clear hcz50_2
              try clear hcz50_3
              try clear hcz50_4
              try clear hcz50_5
              try clear hcz50_6
              try clear hcz51_0
              try clear hcz51_1
              try clear hcz51_2
              try clear hcz54_0
              try clear hcz54_1
              try clear hcz54_2
              try clear hcz54_3
              try clear hcz54_4
              try clear hcz54_5
              try clear hcz54_6
              try clear hcz57_0
              try clear hcz57_1
              try clear hcz57_2
              try clear hcz58_0
              try clear hcz58_1
              try clear hcz58_2
              try clear hfz15_0
              try clear hfz15_1
              try clear hfz15_2
              try clear hfz15_3
              try clear hfz15_4
              try clear hfz15_5
              try clear hfz15_6
              try clear hfz17_0
              try clear hfz17_1
              try clear hfz17_2
              try clear hfz17_3
              try clear hfz17_4
              try clear hfz17_5
              try clear hfz17_6
              try clear hfz19_0
              try clear hfz19_1
              try clear hfz19_2
              try clear hfz19_3
              try clear hfz19_4
              try clear hfz19_5
              try clear hfz19_6
              try clear hfz21_0
              try clear hfz21_1
              try clear hfz21_2
              try clear hfz21_3
              try clear hfz21_4
              try clear hfz21_5
              try clear hfz21_6
              try clear hfz23_0
              try clear hfz23_1
              try clear hfz23_2
              try clear hfz23_3
              try clear hfz23_4
              try clear hfz23_5
              try clear hfz23_6
              try clear hfz26_0
              try clear hfz26_1
              try clear hfz26_2
              try clear hfz26_3
              try clear hfz26_4
              try clear hfz26_5
              try clear hfz26_6
              try clear hfz30_1
              try clear hfz30_2
              try clear hfz41_0
              try clear hfz41_1
              try clear hfz41_2
              try clear hfz43_0
              try clear hfz43_1
              try clear hfz43_2
              try clear hfz46_0
              try clear hfz46_1
              try clear hfz46_2
              try clear hfz50_0
              try clear hfz50_1
              try clear hfz50_2
              try clear hfz50_3
              try clear hfz50_4
              try clear hfz50_5
              try clear hfz50_6
              try clear hfz51_0
              try clear hfz51_1
              try clear hfz51_2
              try clear hfz54_0
              try clear hfz54_1
              try clear hfz54_2
              try clear hfz54_3
              try clear hfz54_4
              try clear hfz54_5
              try clear hfz54_6
              try clear hfz57_1
              try clear hfz57_2
              try clear hfz58_1
              try clear hfz58_2
              try clear p2
              obtain ⟨kq, x72_54, rfl, HA, HJ54, HO_414005, HO_414006, BK411, BK413, HB⟩ := hcut
              cases kq with
              | zero => exact absurd HA.out (by simp [becketref12_Get.j2])
              | succ kj54 =>
                have H := HA.out
                clear HA
                simp only [becketref12_Get.j2] at H
                by_cases c59 : x72_54 = true
                · subst c59
                  have H1 : (some (0, 0, 0, 0, (⟨#[]⟩ : ByteArray), ([] : List (S95)), ([] : List (S61)), false)) = some (r1, r2, r3, r4, r5, r6, r7, r8) := by first | (rw [if_pos rfl] at H; with_reducible exact H) | exact (if_pos rfl).symm.trans H | (simp only [if_true, eq_self_iff_true] at H ⊢; exact H)
                  clear H
                  have H := H1
                  clear H1
                  simp only [Option.some.injEq, Prod.mk.injEq] at H
                  obtain ⟨rfl, rfl, rfl, rfl, rfl, rfl, rfl, rfl⟩ := H
                  have hnb60 := NB411_413.out
                  have hnc60 := NB413_411.out
                  have hcz61_0 : wc.cell? ⟨gb411, 0, none⟩ = some (.int .i64 0) := (blk_cell BK411.out 0).trans rfl
                  have hcz61_1 : wc.cell? ⟨gb411, 1, none⟩ = some (.int .i64 0) := (blk_cell BK411.out 1).trans rfl
                  have hcz61_2 : wc.cell? ⟨gb411, 2, none⟩ = some (.int .i64 0) := (blk_cell BK411.out 2).trans rfl
                  have hcz61_3 : wc.cell? ⟨gb411, 3, none⟩ = some (.int .i64 0) := (blk_cell BK411.out 3).trans rfl
                  have hcz61_4 : wc.cell? ⟨gb411, 4, none⟩ = some (.string (⟨#[]⟩ : ByteArray)) := (blk_cell BK411.out 4).trans rfl
                  have hcz61_5 : wc.cell? ⟨gb411, 5, none⟩ = some (.slice none 0 0) := (blk_cell BK411.out 5).trans rfl
                  have hcz61_6 : wc.cell? ⟨gb411, 6, none⟩ = some (.slice none 0 0) := (blk_cell BK411.out 6).trans rfl
                  have hfz61_0 := blk_frozen BK411.out 0
                  have hfz61_1 := blk_frozen BK411.out 1
                  have hfz61_2 := blk_frozen BK411.out 2
                  have hfz61_3 := blk_frozen BK411.out 3
                  have hfz61_4 := blk_frozen BK411.out 4
                  have hfz61_5 := blk_frozen BK411.out 5
                  have hfz61_6 := blk_frozen BK411.out 6
                  go_wp2
                  refine bodyPost_ret (results_ct rfl _ _ gb411 25 #[.int .i64 0, .int .i64 0, .int .i64 0, .int .i64 0, .string (⟨#[]⟩ : ByteArray), .slice none 0 0, .slice none 0 0] (0, 0) _ rfl (by (with_reducible repeat (first | refine blk_drewN ?_ _ | refine blk_drew ?_ | refine blk_alloc ?_ _)); refine blk_put (cs := #[.int .i64 0, .int .i64 0, .int .i64 0, .int .i64 0, .string (⟨#[]⟩ : ByteArray), .slice none 0 0, .slice none 0 0]) ?_ 6 _ rfl; (with_reducible repeat (first | refine blk_drewN ?_ _ | refine blk_drew ?_ | refine blk_alloc ?_ _)); refine blk_put (cs := #[.int .i64 0, .int .i64 0, .int .i64 0, .int .i64 0, .string (⟨#[]⟩ : ByteArray), .slice none 0 0, .slice none 0 0]) ?_ 5 _ rfl; (with_reducible repeat (first | refine blk_drewN ?_ _ | refine blk_drew ?_ | refine blk_alloc ?_ _)); refine blk_put (cs := #[.int .i64 0, .int .i64 0, .int .i64 0, .int .i64 0, .string (⟨#[]⟩ : ByteArray), .slice none 0 0, .slice none 0 0]) ?_ 4 _ rfl; (with_reducible repeat (first | refine blk_drewN ?_ _ | refine blk_drew ?_ | refine blk_alloc ?_ _)); refine blk_put (cs := #[.int .i64 0, .int .i64 0, .int .i64 0, .int .i64 0, .string (⟨#[]⟩ : ByteArray), .slice none 0 0, .slice none 0 0]) ?_ 3 _ rfl; (with_reducible repeat (first | refine blk_drewN ?_ _ | refine blk_drew ?_ | refine blk_alloc ?_ _)); refine blk_put (cs := #[.int .i64 0, .int .i64 0, .int .i64 0, .int .i64 0, .string (⟨#[]⟩ : ByteArray), .slice none 0 0, .slice none 0 0]) ?_ 2 _ rfl; (with_reducible repeat (first | refine blk_drewN ?_ _ | refine blk_drew ?_ | refine blk_alloc ?_ _)); refine blk_put (cs := #[.int .i64 0, .int .i64 0, .int .i64 0, .int .i64 0, .string (⟨#[]⟩ : ByteArray), .slice none 0 0, .slice none 0 0]) ?_ 1 _ rfl; (with_reducible repeat (first | refine blk_drewN ?_ _ | refine blk_drew ?_ | refine blk_alloc ?_ _)); refine blk_put (cs := #[.int .i64 0, .int .i64 0, .int .i64 0, .int .i64 0, .string (⟨#[]⟩ : ByteArray), .slice none 0 0, .slice none 0 0]) ?_ 0 _ rfl; (with_reducible repeat (first | refine blk_drewN ?_ _ | refine blk_drew ?_ | refine blk_alloc ?_ _)); exact BK411.out) Try.underlying25 rfl (by kernel_rfl)) rfl ?_
                  exact ⟨_, _, by first | rfl | (simp [errW_none, errW_some] <;> rfl) | (simp [*, errW_none, errW_some] <;> rfl), by first | exact Kd.S_nil _ _ _ _ _ | exact Kd.N_nil _ _ _ _ _ | exact Kd.V_nil _ _ _ _ _ | exact Kd.Q_nil _ _ _ _ _ | exact Kd.R_nil _ _ _ _ _, by first | exact Kd.R_nil _ _ _ _ _ | exact Kd.N_nil _ _ _ _ _ | exact Kd.V_nil _ _ _ _ _ | exact Kd.Q_nil _ _ _ _ _ | exact Kd.S_nil _ _ _ _ _, by repeat (first | (with_reducible first | exact HB.out | apply below_alloc | apply pw_below_drewN | apply below_drew1 | refine below_set ?_ GE411.out | refine below_set ?_ GE413.out) | exact HB.out)⟩
                · replace c59 := Bool.eq_false_iff.mpr c59
                  subst c59
                  have H1 : ((becketref12_May.f kj54 t414 t417 t420 t423 t426 t429 x414006_1).bind fun t452 => (if t452 = true then (some (t414, t417, t420, t423, t426, t429, x414006_1, true)) else (some (0, 0, 0, 0, (⟨#[]⟩ : ByteArray), ([] : List (S95)), ([] : List (S61)), false)))) = some (r1, r2, r3, r4, r5, r6, r7, r8) := by rw [if_neg (show ¬ (false = true) by decide)] at H; exact H
                  clear H
                  have H := H1
                  clear H1
                  replace H := Option.bind_eq_some_iff.mp H
                  obtain ⟨t452, A620, H⟩ := H
                  replace H : (if t452 = true then (some (t414, t417, t420, t423, t426, t429, x414006_1, true)) else (some (0, 0, 0, 0, (⟨#[]⟩ : ByteArray), ([] : List (S95)), ([] : List (S61)), false))) = some (r1, r2, r3, r4, r5, r6, r7, r8) := H
                  have A62 := Aside0.mk A620
                  clear A620
                  by_cases c63 : t452 = true
                  · subst c63
                    have H1 : (some (t414, t417, t420, t423, t426, t429, x414006_1, true)) = some (r1, r2, r3, r4, r5, r6, r7, r8) := by first | (rw [if_pos rfl] at H; with_reducible exact H) | exact (if_pos rfl).symm.trans H | (simp only [if_true, eq_self_iff_true] at H ⊢; exact H)
                    clear H
                    have H := H1
                    clear H1
                    simp only [Option.some.injEq, Prod.mk.injEq] at H
                    obtain ⟨rfl, rfl, rfl, rfl, rfl, rfl, rfl, rfl⟩ := H
                    have hnb64 := NB413_411.out
                    have hnc64 := NB411_413.out
                    have hcz65_0 : wc.cell? ⟨gb413, 0, none⟩ = some (.int .i64 t414) := (blk_cell BK413.out 0).trans rfl
                    have hcz65_1 : wc.cell? ⟨gb413, 1, none⟩ = some (.int .i64 t417) := (blk_cell BK413.out 1).trans rfl
                    have hcz65_2 : wc.cell? ⟨gb413, 2, none⟩ = some (.int .i64 t420) := (blk_cell BK413.out 2).trans rfl
                    have hcz65_3 : wc.cell? ⟨gb413, 3, none⟩ = some (.int .i64 t423) := (blk_cell BK413.out 3).trans rfl
                    have hcz65_4 : wc.cell? ⟨gb413, 4, none⟩ = some (.string t426) := (blk_cell BK413.out 4).trans rfl
                    have hcz65_5 : wc.cell? ⟨gb413, 5, none⟩ = some (.slice Ao25 t429.length co25) := (blk_cell BK413.out 5).trans rfl
                    have hcz65_6 : wc.cell? ⟨gb413, 6, none⟩ = some (u414006) := (blk_cell BK413.out 6).trans rfl
                    have hfz65_0 := blk_frozen BK413.out 0
                    have hfz65_1 := blk_frozen BK413.out 1
                    have hfz65_2 := blk_frozen BK413.out 2
                    have hfz65_3 := blk_frozen BK413.out 3
                    have hfz65_4 := blk_frozen BK413.out 4
                    have hfz65_5 := blk_frozen BK413.out 5
                    have hfz65_6 := blk_frozen BK413.out 6
                    obtain ⟨Ao66, co66, eo66⟩ := Kd.R_slice HO_414006.out
                    subst eo66
                    go_wp2_with (first | ((with_reducible refine gate_callee (f := 14) rfl ?_); refine goesL_ (some 75) rfl rfl Try.func14 (by kernel_rfl) rfl #[.agg #[.int .i64 t414, .int .i64 t417, .int .i64 t420, .int .i64 t423, .string t426, .slice Ao25 t429.length co25, .slice Ao66 x414006_1.length co66]] rfl (by (try simp only [List.map_toArray, List.map_cons, List.map_nil]); first | done | rfl | (simp only [List.length_drop, List.length_take]; rfl)) ?_; (with_reducible refine (becketref12_May.calls kj54 t414 t417 t420 t423 t426 _ _ t429 _ _ x414006_1 true _ ?side1 ?side2 ?side3 ?side4 A62.out).mono ?_); (case side1 => repeat (first | exact (Kd.S_reads' HO_414005.out).2.2 | (with_reducible refine Kd.C_alloc ?_ _) | (with_reducible refine Kd.C_drewN ?_ _) | (with_reducible refine Kd.C_drew ?_))); (case side2 => exact (Kd.S_reads' HO_414005.out).2.1); (case side3 => repeat (first | exact (Kd.R_reads' HO_414006.out).2.2 | (with_reducible refine Kd.C_alloc ?_ _) | (with_reducible refine Kd.C_drewN ?_ _) | (with_reducible refine Kd.C_drew ?_))); (case side4 => exact (Kd.R_reads' HO_414006.out).2.1); rintro e w67 ⟨rfl, hb⟩; refine ⟨_, rfl, ?_⟩; have n0_ := Aside0.mk (Kd.S_below (by (with_reducible repeat (first | apply Kd.S_alloc | apply Kd.S_drewN | apply Kd.S_drew)); exact HO_414005.out) hb); have n1_ := Aside0.mk (Kd.R_below (by (with_reducible repeat (first | apply Kd.R_alloc | apply Kd.R_drewN | apply Kd.R_drew)); exact HO_414006.out) hb); have n2_ := Aside0.mk (blk_below (g := gb411) (o := .cells #[.int .i64 0, .int .i64 0, .int .i64 0, .int .i64 0, .string (⟨#[]⟩ : ByteArray), .slice none 0 0, .slice none 0 0] 25 (0, 0)) (by (with_reducible repeat (first | refine blk_drewN ?_ _ | refine blk_drew ?_ | refine blk_alloc ?_ _)); exact BK411.out) hb); have n3_ := Aside0.mk (blk_below (g := gb413) (o := .cells #[.int .i64 t414, .int .i64 t417, .int .i64 t420, .int .i64 t423, .string t426, .slice Ao25 t429.length co25, .slice Ao66 x414006_1.length co66] 25 (0, 0)) (by (with_reducible repeat (first | refine blk_drewN ?_ _ | refine blk_drew ?_ | refine blk_alloc ?_ _)); exact BK413.out) hb); have n4_ := Aside0.mk (below_step (by repeat (first | (with_reducible first | exact HB.out | apply below_alloc | apply pw_below_drewN | apply below_drew1 | refine below_set ?_ GE411.out | refine below_set ?_ GE413.out) | exact HB.out)) hb); clear HO_414005; clear HO_414006; clear BK411; clear BK413; clear HB; have HO_414005 := n0_; have HO_414006 := n1_; have BK411 := n2_; have BK413 := n3_; have HB := n4_; clear n0_ n1_ n2_ n3_ n4_; (try clear hb); (try clear hb2); (try clear hk); (try clear hi); have hcz68_0 : w67.cell? ⟨gb413, 0, none⟩ = some (.int .i64 t414) := (blk_cell BK413.out 0).trans rfl; have hcz68_1 : w67.cell? ⟨gb413, 1, none⟩ = some (.int .i64 t417) := (blk_cell BK413.out 1).trans rfl; have hcz68_2 : w67.cell? ⟨gb413, 2, none⟩ = some (.int .i64 t420) := (blk_cell BK413.out 2).trans rfl; have hcz68_3 : w67.cell? ⟨gb413, 3, none⟩ = some (.int .i64 t423) := (blk_cell BK413.out 3).trans rfl; have hcz68_4 : w67.cell? ⟨gb413, 4, none⟩ = some (.string t426) := (blk_cell BK413.out 4).trans rfl; have hcz68_5 : w67.cell? ⟨gb413, 5, none⟩ = some (.slice Ao25 t429.length co25) := (blk_cell BK413.out 5).trans rfl; have hcz68_6 : w67.cell? ⟨gb413, 6, none⟩ = some (.slice Ao66 x414006_1.length co66) := (blk_cell BK413.out 6).trans rfl; have hfz68_0 := blk_frozen BK413.out 0; have hfz68_1 := blk_frozen BK413.out 1; have hfz68_2 := blk_frozen BK413.out 2; have hfz68_3 := blk_frozen BK413.out 3; have hfz68_4 := blk_frozen BK413.out 4; have hfz68_5 := blk_frozen BK413.out 5; have hfz68_6 := blk_frozen BK413.out 6; have hcz69_0 : w67.cell? ⟨gb411, 0, none⟩ = some (.int .i64 0) := (blk_cell BK411.out 0).trans rfl; have hcz69_1 : w67.cell? ⟨gb411, 1, none⟩ = some (.int .i64 0) := (blk_cell BK411.out 1).trans rfl; have hcz69_2 : w67.cell? ⟨gb411, 2, none⟩ = some (.int .i64 0) := (blk_cell BK411.out 2).trans rfl; have hcz69_3 : w67.cell? ⟨gb411, 3, none⟩ = some (.int .i64 0) := (blk_cell BK411.out 3).trans rfl; have hcz69_4 : w67.cell? ⟨gb411, 4, none⟩ = some (.string (⟨#[]⟩ : ByteArray)) := (blk_cell BK411.out 4).trans rfl; have hcz69_5 : w67.cell? ⟨gb411, 5, none⟩ = some (.slice none 0 0) := (blk_cell BK411.out 5).trans rfl; have hcz69_6 : w67.cell? ⟨gb411, 6, none⟩ = some (.slice none 0 0) := (blk_cell BK411.out 6).trans rfl; have hfz69_0 := blk_frozen BK411.out 0; have hfz69_1 := blk_frozen BK411.out 1; have hfz69_2 := blk_frozen BK411.out 2; have hfz69_3 := blk_frozen BK411.out 3; have hfz69_4 := blk_frozen BK411.out 4; have hfz69_5 := blk_frozen BK411.out 5; have hfz69_6 := blk_frozen BK411.out 6))
                    refine bodyPost_ret (results_ct rfl _ _ gb411 25 #[.int .i64 t414, .int .i64 t417, .int .i64 t420, .int .i64 t423, .string t426, .slice Ao25 t429.length co25, .slice Ao66 x414006_1.length co66] (0, 0) _ rfl (by (with_reducible repeat (first | refine blk_drewN ?_ _ | refine blk_drew ?_ | refine blk_alloc ?_ _)); refine blk_put (cs := #[.int .i64 t414, .int .i64 t417, .int .i64 t420, .int .i64 t423, .string t426, .slice Ao25 t429.length co25, .slice none 0 0]) ?_ 6 _ rfl; (with_reducible repeat (first | refine blk_drewN ?_ _ | refine blk_drew ?_ | refine blk_alloc ?_ _)); refine blk_put (cs := #[.int .i64 t414, .int .i64 t417, .int .i64 t420, .int .i64 t423, .string t426, .slice none 0 0, .slice none 0 0]) ?_ 5 _ rfl; (with_reducible repeat (first | refine blk_drewN ?_ _ | refine blk_drew ?_ | refine blk_alloc ?_ _)); refine blk_put (cs := #[.int .i64 t414, .int .i64 t417, .int .i64 t420, .int .i64 t423, .string (⟨#[]⟩ : ByteArray), .slice none 0 0, .slice none 0 0]) ?_ 4 _ rfl; (with_reducible repeat (first | refine blk_drewN ?_ _ | refine blk_drew ?_ | refine blk_alloc ?_ _)); refine blk_put (cs := #[.int .i64 t414, .int .i64 t417, .int .i64 t420, .int .i64 0, .string (⟨#[]⟩ : ByteArray), .slice none 0 0, .slice none 0 0]) ?_ 3 _ rfl; (with_reducible repeat (first | refine blk_drewN ?_ _ | refine blk_drew ?_ | refine blk_alloc ?_ _)); refine blk_put (cs := #[.int .i64 t414, .int .i64 t417, .int .i64 0, .int .i64 0, .string (⟨#[]⟩ : ByteArray), .slice none 0 0, .slice none 0 0]) ?_ 2 _ rfl; (with_reducible repeat (first | refine blk_drewN ?_ _ | refine blk_drew ?_ | refine blk_alloc ?_ _)); refine blk_put (cs := #[.int .i64 t414, .int .i64 0, .int .i64 0, .int .i64 0, .string (⟨#[]⟩ : ByteArray), .slice none 0 0, .slice none 0 0]) ?_ 1 _ rfl; (with_reducible repeat (first | refine blk_drewN ?_ _ | refine blk_drew ?_ | refine blk_alloc ?_ _)); refine blk_put (cs := #[.int .i64 0, .int .i64 0, .int .i64 0, .int .i64 0, .string (⟨#[]⟩ : ByteArray), .slice none 0 0, .slice none 0 0]) ?_ 0 _ rfl; (with_reducible repeat (first | refine blk_drewN ?_ _ | refine blk_drew ?_ | refine blk_alloc ?_ _)); exact BK411.out) Try.underlying25 rfl (by kernel_rfl)) rfl ?_
                    exact ⟨_, _, by first | rfl | (simp [errW_none, errW_some] <;> rfl) | (simp [*, errW_none, errW_some] <;> rfl), by (with_reducible repeat (first | apply Kd.S_alloc | apply Kd.S_drewN | apply Kd.S_drew)); exact Kd.S_mono (Kd.S_far (p := ⟨gb411, 6, none⟩) (Kd.S_far (p := ⟨gb411, 5, none⟩) (Kd.S_far (p := ⟨gb411, 4, none⟩) (Kd.S_far (p := ⟨gb411, 3, none⟩) (Kd.S_far (p := ⟨gb411, 2, none⟩) (Kd.S_far (p := ⟨gb411, 1, none⟩) (Kd.S_far (p := ⟨gb411, 0, none⟩) (Kd.S_types HO_414005.out BK411.out (by decide)) (fun _ hk => hk.2) (.int .i64 t414)) (fun _ hk => hk.2) (.int .i64 t417)) (fun _ hk => hk.2) (.int .i64 t420)) (fun _ hk => hk.2) (.int .i64 t423)) (fun _ hk => hk.2) (.string t426)) (fun _ hk => hk.2) (.slice Ao25 t429.length co25)) (fun _ hk => hk.2) (.slice Ao66 x414006_1.length co66)) (fun _ hk => trivial), by (with_reducible repeat (first | apply Kd.R_alloc | apply Kd.R_drewN | apply Kd.R_drew)); exact Kd.R_mono (Kd.R_far (p := ⟨gb411, 6, none⟩) (Kd.R_far (p := ⟨gb411, 5, none⟩) (Kd.R_far (p := ⟨gb411, 4, none⟩) (Kd.R_far (p := ⟨gb411, 3, none⟩) (Kd.R_far (p := ⟨gb411, 2, none⟩) (Kd.R_far (p := ⟨gb411, 1, none⟩) (Kd.R_far (p := ⟨gb411, 0, none⟩) (Kd.R_types HO_414006.out BK411.out (by decide)) (fun _ hk => hk.2) (.int .i64 t414)) (fun _ hk => hk.2) (.int .i64 t417)) (fun _ hk => hk.2) (.int .i64 t420)) (fun _ hk => hk.2) (.int .i64 t423)) (fun _ hk => hk.2) (.string t426)) (fun _ hk => hk.2) (.slice Ao25 t429.length co25)) (fun _ hk => hk.2) (.slice Ao66 x414006_1.length co66)) (fun _ hk => hk.1), by repeat (first | (with_reducible first | exact HB.out | apply below_alloc | apply pw_below_drewN | apply below_drew1 | refine below_set ?_ GE411.out | refine below_set ?_ GE413.out) | exact HB.out)⟩
                  · replace c63 := Bool.eq_false_iff.mpr c63
                    subst c63
                    have H1 : (some (0, 0, 0, 0, (⟨#[]⟩ : ByteArray), ([] : List (S95)), ([] : List (S61)), false)) = some (r1, r2, r3, r4, r5, r6, r7, r8) := by rw [if_neg (show ¬ (false = true) by decide)] at H; exact H
                    clear H
                    have H := H1
                    clear H1
                    simp only [Option.some.injEq, Prod.mk.injEq] at H
                    obtain ⟨rfl, rfl, rfl, rfl, rfl, rfl, rfl, rfl⟩ := H
                    have hnb70 := NB413_411.out
                    have hnc70 := NB411_413.out
                    have hcz71_0 : wc.cell? ⟨gb413, 0, none⟩ = some (.int .i64 t414) := (blk_cell BK413.out 0).trans rfl
                    have hcz71_1 : wc.cell? ⟨gb413, 1, none⟩ = some (.int .i64 t417) := (blk_cell BK413.out 1).trans rfl
                    have hcz71_2 : wc.cell? ⟨gb413, 2, none⟩ = some (.int .i64 t420) := (blk_cell BK413.out 2).trans rfl
                    have hcz71_3 : wc.cell? ⟨gb413, 3, none⟩ = some (.int .i64 t423) := (blk_cell BK413.out 3).trans rfl
                    have hcz71_4 : wc.cell? ⟨gb413, 4, none⟩ = some (.string t426) := (blk_cell BK413.out 4).trans rfl
                    have hcz71_5 : wc.cell? ⟨gb413, 5, none⟩ = some (.slice Ao25 t429.length co25) := (blk_cell BK413.out 5).trans rfl
                    have hcz71_6 : wc.cell? ⟨gb413, 6, none⟩ = some (u414006) := (blk_cell BK413.out 6).trans rfl
                    have hfz71_0 := blk_frozen BK413.out 0
                    have hfz71_1 := blk_frozen BK413.out 1
                    have hfz71_2 := blk_frozen BK413.out 2
                    have hfz71_3 := blk_frozen BK413.out 3
                    have hfz71_4 := blk_frozen BK413.out 4
                    have hfz71_5 := blk_frozen BK413.out 5
                    have hfz71_6 := blk_frozen BK413.out 6
                    obtain ⟨Ao72, co72, eo72⟩ := Kd.R_slice HO_414006.out
                    subst eo72
                    go_wp2_with (first | ((with_reducible refine gate_callee (f := 14) rfl ?_); refine goesL_ (some 75) rfl rfl Try.func14 (by kernel_rfl) rfl #[.agg #[.int .i64 t414, .int .i64 t417, .int .i64 t420, .int .i64 t423, .string t426, .slice Ao25 t429.length co25, .slice Ao72 x414006_1.length co72]] rfl (by (try simp only [List.map_toArray, List.map_cons, List.map_nil]); first | done | rfl | (simp only [List.length_drop, List.length_take]; rfl)) ?_; (with_reducible refine (becketref12_May.calls kj54 t414 t417 t420 t423 t426 _ _ t429 _ _ x414006_1 false _ ?side1 ?side2 ?side3 ?side4 A62.out).mono ?_); (case side1 => repeat (first | exact (Kd.S_reads' HO_414005.out).2.2 | (with_reducible refine Kd.C_alloc ?_ _) | (with_reducible refine Kd.C_drewN ?_ _) | (with_reducible refine Kd.C_drew ?_))); (case side2 => exact (Kd.S_reads' HO_414005.out).2.1); (case side3 => repeat (first | exact (Kd.R_reads' HO_414006.out).2.2 | (with_reducible refine Kd.C_alloc ?_ _) | (with_reducible refine Kd.C_drewN ?_ _) | (with_reducible refine Kd.C_drew ?_))); (case side4 => exact (Kd.R_reads' HO_414006.out).2.1); rintro e w73 ⟨rfl, hb⟩; refine ⟨_, rfl, ?_⟩; have n0_ := Aside0.mk (Kd.S_below (by (with_reducible repeat (first | apply Kd.S_alloc | apply Kd.S_drewN | apply Kd.S_drew)); exact HO_414005.out) hb); have n1_ := Aside0.mk (Kd.R_below (by (with_reducible repeat (first | apply Kd.R_alloc | apply Kd.R_drewN | apply Kd.R_drew)); exact HO_414006.out) hb); have n2_ := Aside0.mk (blk_below (g := gb411) (o := .cells #[.int .i64 0, .int .i64 0, .int .i64 0, .int .i64 0, .string (⟨#[]⟩ : ByteArray), .slice none 0 0, .slice none 0 0] 25 (0, 0)) (by (with_reducible repeat (first | refine blk_drewN ?_ _ | refine blk_drew ?_ | refine blk_alloc ?_ _)); exact BK411.out) hb); have n3_ := Aside0.mk (blk_below (g := gb413) (o := .cells #[.int .i64 t414, .int .i64 t417, .int .i64 t420, .int .i64 t423, .string t426, .slice Ao25 t429.length co25, .slice Ao72 x414006_1.length co72] 25 (0, 0)) (by (with_reducible repeat (first | refine blk_drewN ?_ _ | refine blk_drew ?_ | refine blk_alloc ?_ _)); exact BK413.out) hb); have n4_ := Aside0.mk (below_step (by repeat (first | (with_reducible first | exact HB.out | apply below_alloc | apply pw_below_drewN | apply below_drew1 | refine below_set ?_ GE411.out | refine below_set ?_ GE413.out) | exact HB.out)) hb); clear HO_414005; clear HO_414006; clear BK411; clear BK413; clear HB; have HO_414005 := n0_; have HO_414006 := n1_; have BK411 := n2_; have BK413 := n3_; have HB := n4_; clear n0_ n1_ n2_ n3_ n4_; (try clear hb); (try clear hb2); (try clear hk); (try clear hi); have hcz74_0 : w73.cell? ⟨gb411, 0, none⟩ = some (.int .i64 0) := (blk_cell BK411.out 0).trans rfl; have hcz74_1 : w73.cell? ⟨gb411, 1, none⟩ = some (.int .i64 0) := (blk_cell BK411.out 1).trans rfl; have hcz74_2 : w73.cell? ⟨gb411, 2, none⟩ = some (.int .i64 0) := (blk_cell BK411.out 2).trans rfl; have hcz74_3 : w73.cell? ⟨gb411, 3, none⟩ = some (.int .i64 0) := (blk_cell BK411.out 3).trans rfl; have hcz74_4 : w73.cell? ⟨gb411, 4, none⟩ = some (.string (⟨#[]⟩ : ByteArray)) := (blk_cell BK411.out 4).trans rfl; have hcz74_5 : w73.cell? ⟨gb411, 5, none⟩ = some (.slice none 0 0) := (blk_cell BK411.out 5).trans rfl; have hcz74_6 : w73.cell? ⟨gb411, 6, none⟩ = some (.slice none 0 0) := (blk_cell BK411.out 6).trans rfl; have hfz74_0 := blk_frozen BK411.out 0; have hfz74_1 := blk_frozen BK411.out 1; have hfz74_2 := blk_frozen BK411.out 2; have hfz74_3 := blk_frozen BK411.out 3; have hfz74_4 := blk_frozen BK411.out 4; have hfz74_5 := blk_frozen BK411.out 5; have hfz74_6 := blk_frozen BK411.out 6))
                    refine bodyPost_ret (results_ct rfl _ _ gb411 25 #[.int .i64 0, .int .i64 0, .int .i64 0, .int .i64 0, .string (⟨#[]⟩ : ByteArray), .slice none 0 0, .slice none 0 0] (0, 0) _ rfl (by (with_reducible repeat (first | refine blk_drewN ?_ _ | refine blk_drew ?_ | refine blk_alloc ?_ _)); refine blk_put (cs := #[.int .i64 0, .int .i64 0, .int .i64 0, .int .i64 0, .string (⟨#[]⟩ : ByteArray), .slice none 0 0, .slice none 0 0]) ?_ 6 _ rfl; (with_reducible repeat (first | refine blk_drewN ?_ _ | refine blk_drew ?_ | refine blk_alloc ?_ _)); refine blk_put (cs := #[.int .i64 0, .int .i64 0, .int .i64 0, .int .i64 0, .string (⟨#[]⟩ : ByteArray), .slice none 0 0, .slice none 0 0]) ?_ 5 _ rfl; (with_reducible repeat (first | refine blk_drewN ?_ _ | refine blk_drew ?_ | refine blk_alloc ?_ _)); refine blk_put (cs := #[.int .i64 0, .int .i64 0, .int .i64 0, .int .i64 0, .string (⟨#[]⟩ : ByteArray), .slice none 0 0, .slice none 0 0]) ?_ 4 _ rfl; (with_reducible repeat (first | refine blk_drewN ?_ _ | refine blk_drew ?_ | refine blk_alloc ?_ _)); refine blk_put (cs := #[.int .i64 0, .int .i64 0, .int .i64 0, .int .i64 0, .string (⟨#[]⟩ : ByteArray), .slice none 0 0, .slice none 0 0]) ?_ 3 _ rfl; (with_reducible repeat (first | refine blk_drewN ?_ _ | refine blk_drew ?_ | refine blk_alloc ?_ _)); refine blk_put (cs := #[.int .i64 0, .int .i64 0, .int .i64 0, .int .i64 0, .string (⟨#[]⟩ : ByteArray), .slice none 0 0, .slice none 0 0]) ?_ 2 _ rfl; (with_reducible repeat (first | refine blk_drewN ?_ _ | refine blk_drew ?_ | refine blk_alloc ?_ _)); refine blk_put (cs := #[.int .i64 0, .int .i64 0, .int .i64 0, .int .i64 0, .string (⟨#[]⟩ : ByteArray), .slice none 0 0, .slice none 0 0]) ?_ 1 _ rfl; (with_reducible repeat (first | refine blk_drewN ?_ _ | refine blk_drew ?_ | refine blk_alloc ?_ _)); refine blk_put (cs := #[.int .i64 0, .int .i64 0, .int .i64 0, .int .i64 0, .string (⟨#[]⟩ : ByteArray), .slice none 0 0, .slice none 0 0]) ?_ 0 _ rfl; (with_reducible repeat (first | refine blk_drewN ?_ _ | refine blk_drew ?_ | refine blk_alloc ?_ _)); exact BK411.out) Try.underlying25 rfl (by kernel_rfl)) rfl ?_
                    exact ⟨_, _, by first | rfl | (simp [errW_none, errW_some] <;> rfl) | (simp [*, errW_none, errW_some] <;> rfl), by first | exact Kd.S_nil _ _ _ _ _ | exact Kd.N_nil _ _ _ _ _ | exact Kd.V_nil _ _ _ _ _ | exact Kd.Q_nil _ _ _ _ _ | exact Kd.R_nil _ _ _ _ _, by first | exact Kd.R_nil _ _ _ _ _ | exact Kd.N_nil _ _ _ _ _ | exact Kd.V_nil _ _ _ _ _ | exact Kd.Q_nil _ _ _ _ _ | exact Kd.S_nil _ _ _ _ _, by repeat (first | (with_reducible first | exact HB.out | apply below_alloc | apply pw_below_drewN | apply below_drew1 | refine below_set ?_ GE411.out | refine below_set ?_ GE413.out) | exact HB.out)⟩
end Go.Proofs.Ytpbbgbikebcnbaa.Ms
