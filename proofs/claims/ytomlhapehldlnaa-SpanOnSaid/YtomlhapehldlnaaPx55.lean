-- Written by wip/gprint.py, a program of this session over the kit's print; Lean checks it.
import Derived.Test.YtomlhapehldlnaaPx0
import Derived.Test.YtomlhapehldlnaaPx28
import Derived.Test.YtomlhapehldlnaaPx29
import Derived.Test.YtomlhapehldlnaaPx30
import Derived.Test.YtomlhapehldlnaaPx40
import Derived.Test.YtomlhapehldlnaaPx41
namespace Go.Proofs.Ytomlhapehldlnaa.P
open Go.RowKit Go.Proofs.YtomlhapehldlnaaW.PrintWords Go.Proofs.YtomlhapehldlnaaW.PrintLast Go.Proofs.YtomlhapehldlnaaW.PrintMore
attribute [local go_sem] max2_int min2_int max_two min_two max_three min_three max_four min_four   -- for this text's walks alone
set_option linter.unusedVariables false
set_option linter.unusedSimpArgs false

/-! ### banksmanlaw10_SpanOn: function 7 -/
mutual
def banksmanlaw10_SpanOn.j0 : Nat → Bool → Bool → Int → List Int → List Int → Bool → Int → List Int → List Int → Bool → Int → List Int → List Int → Bool → Option (Bool)
  | 0, _, _, _, _, _, _, _, _, _, _, _, _, _, _ => none
  | k + 1, x7, x25, x366000, x366001, x366002, x366003, x367000, x367001, x367002, x367003, x368000, x368001, x368002, x368003 => if x25 = true then (some x7) else ((span_Covers.f x366000 x366001 x366002 x366003 x367000 x367001 x367002 x367003).bind fun t372 => (if t372 = true then ((span_Covers.f x367000 x367001 x367002 x367003 x368000 x368001 x368002 x368003).bind fun t373 => (if t373 = true then ((span_Covers.f x366000 x366001 x366002 x366003 x368000 x368001 x368002 x368003).bind fun t374 => (banksmanlaw10_SpanOn.j1 k x7 t374 x366000 x366001 x366002 x366003 x367000 x367001 x367002 x367003 x368000 x368001 x368002 x368003)) else (banksmanlaw10_SpanOn.j1 k x7 true x366000 x366001 x366002 x366003 x367000 x367001 x367002 x367003 x368000 x368001 x368002 x368003))) else (banksmanlaw10_SpanOn.j1 k x7 true x366000 x366001 x366002 x366003 x367000 x367001 x367002 x367003 x368000 x368001 x368002 x368003)))
def banksmanlaw10_SpanOn.j1 : Nat → Bool → Bool → Int → List Int → List Int → Bool → Int → List Int → List Int → Bool → Int → List Int → List Int → Bool → Option (Bool)
  | 0, _, _, _, _, _, _, _, _, _, _, _, _, _, _ => none
  | k + 1, x7, x8, x366000, x366001, x366002, x366003, x367000, x367001, x367002, x367003, x368000, x368001, x368002, x368003 => (span_Covers.f x366000 x366001 x366002 x366003 x367000 x367001 x367002 x367003).bind fun t375 => (if t375 = true then ((span_Meets.f x367000 x367001 x367002 x367003 x368000 x368001 x368002 x368003).bind fun t376 => (if t376 = true then ((span_Meets.f x366000 x366001 x366002 x366003 x368000 x368001 x368002 x368003).bind fun t377 => (banksmanlaw10_SpanOn.j2 k x7 x8 t377 x366000 x366001 x366002 x366003 x367000 x367001 x367002 x367003)) else (banksmanlaw10_SpanOn.j2 k x7 x8 true x366000 x366001 x366002 x366003 x367000 x367001 x367002 x367003))) else (banksmanlaw10_SpanOn.j2 k x7 x8 true x366000 x366001 x366002 x366003 x367000 x367001 x367002 x367003))
def banksmanlaw10_SpanOn.j2 : Nat → Bool → Bool → Bool → Int → List Int → List Int → Bool → Int → List Int → List Int → Bool → Option (Bool)
  | 0, _, _, _, _, _, _, _, _, _, _, _ => none
  | k + 1, x7, x8, x9, x366000, x366001, x366002, x366003, x367000, x367001, x367002, x367003 => (span_Meets.f x366000 x366001 x366002 x366003 x366000 x366001 x366002 x366003).bind fun t378 => ((span_Empty.f x366000 x366001 x366002 x366003).bind fun t379 => ((span_Covers.f x366000 x366001 x366002 x366003 x367000 x367001 x367002 x367003).bind fun t380 => (if t380 = true then ((span_Empty.f x367000 x367001 x367002 x367003).bind fun t381 => (if t381 = true then (if x7 = true then (if x8 = true then (if x9 = true then (if (t378 == (!t379)) = true then (some true) else (some false)) else (some false)) else (some false)) else (some false)) else ((span_Meets.f x366000 x366001 x366002 x366003 x367000 x367001 x367002 x367003).bind fun t382 => (if x7 = true then (if x8 = true then (if x9 = true then (if (t378 == (!t379)) = true then (some t382) else (some false)) else (some false)) else (some false)) else (some false))))) else (if x7 = true then (if x8 = true then (if x9 = true then (if (t378 == (!t379)) = true then (some true) else (some false)) else (some false)) else (some false)) else (some false)))))
end
def banksmanlaw10_SpanOn.f (k : Nat) (a0_0 : Int) (l0_1 : List Int) (l0_2 : List Int) (a0_3 : Bool) (a1_0 : Int) (l1_1 : List Int) (l1_2 : List Int) (a1_3 : Bool) (a2_0 : Int) (l2_1 : List Int) (l2_2 : List Int) (a2_3 : Bool) : Option (Bool) := (banksmanlaw10_awake.f).bind fun t368 => ((banksmanlaw10_short.f a0_0 l0_1 l0_2 a0_3).bind fun t369 => (if t369 = true then ((banksmanlaw10_short.f a1_0 l1_1 l1_2 a1_3).bind fun t370 => (if t370 = true then ((banksmanlaw10_short.f a2_0 l2_1 l2_2 a2_3).bind fun t371 => (banksmanlaw10_SpanOn.j0 k t368 (!t371) a0_0 l0_1 l0_2 a0_3 a1_0 l1_1 l1_2 a1_3 a2_0 l2_1 l2_2 a2_3)) else (banksmanlaw10_SpanOn.j0 k t368 true a0_0 l0_1 l0_2 a0_3 a1_0 l1_1 l1_2 a1_3 a2_0 l2_1 l2_2 a2_3))) else (banksmanlaw10_SpanOn.j0 k t368 true a0_0 l0_1 l0_2 a0_3 a1_0 l1_1 l1_2 a1_3 a2_0 l2_1 l2_2 a2_3)))
def banksmanlaw10_SpanOn.T6 : Bool × List (List Nat × List Nat) := (true, [([], []), ([], []), ([0, 1], [0, 1]), ([], []), ([3, 2], [3]), ([4], [4]), ([2, 5], [2, 5]), ([6, 4, 0, 1, 2, 3, 4, 5, 6], [6])])
def banksmanlaw10_SpanOn.B6 : List Nat := [0, 0, 3, 0, 15, 31, 63, 127]
theorem banksmanlaw10_SpanOn.tab6 : rtab .any (opsOf Try.f7 6) = banksmanlaw10_SpanOn.T6 := by kernel_rfl
theorem banksmanlaw10_SpanOn.bits6 : waitsOk banksmanlaw10_SpanOn.T6.2 banksmanlaw10_SpanOn.B6 = true := by kernel_rfl
set_option maxHeartbeats 8000000 in
set_option maxRecDepth 100000 in
theorem banksmanlaw10_SpanOn.calls (k : Nat) (a0_0 : Int) (A0_1 : Option Addr) (c0_1 : Nat) (l0_1 : List Int) (A0_2 : Option Addr) (c0_2 : Nat) (l0_2 : List Int) (a0_3 : Bool) (a1_0 : Int) (A1_1 : Option Addr) (c1_1 : Nat) (l1_1 : List Int) (A1_2 : Option Addr) (c1_2 : Nat) (l1_2 : List Int) (a1_3 : Bool) (a2_0 : Int) (A2_1 : Option Addr) (c2_1 : Nat) (l2_1 : List Int) (A2_2 : Option Addr) (c2_2 : Nat) (l2_2 : List Int) (a2_3 : Bool) (r : Bool) (w : World) (hr0_1 : Kd.C (Kd.int .u8) w A0_1 l0_1.length l0_1) (hc0_1 : l0_1.length ≤ c0_1) (hr0_2 : Kd.C (Kd.int .u8) w A0_2 l0_2.length l0_2) (hc0_2 : l0_2.length ≤ c0_2) (hr1_1 : Kd.C (Kd.int .u8) w A1_1 l1_1.length l1_1) (hc1_1 : l1_1.length ≤ c1_1) (hr1_2 : Kd.C (Kd.int .u8) w A1_2 l1_2.length l1_2) (hc1_2 : l1_2.length ≤ c1_2) (hr2_1 : Kd.C (Kd.int .u8) w A2_1 l2_1.length l2_1) (hc2_1 : l2_1.length ≤ c2_1) (hr2_2 : Kd.C (Kd.int .u8) w A2_2 l2_2.length l2_2) (hc2_2 : l2_2.length ≤ c2_2) (h : banksmanlaw10_SpanOn.f k a0_0 l0_1 l0_2 a0_3 a1_0 l1_1 l1_2 a1_3 a2_0 l2_1 l2_2 a2_3 = some r) (HTr_ : r = true) :
    Calls Try.prog 7 #[.agg #[.int .i64 a0_0, .slice A0_1 l0_1.length c0_1, .slice A0_2 l0_2.length c0_2, .bool a0_3], .agg #[.int .i64 a1_0, .slice A1_1 l1_1.length c1_1, .slice A1_2 l1_2.length c1_2, .bool a1_3], .agg #[.int .i64 a2_0, .slice A2_1 l2_1.length c2_1, .slice A2_2 l2_2.length c2_2, .bool a2_3]] w fun e w' => e = .returned (.bool r) ∧ Below w.heap.size w w' := by
  have hu24 := Try.underlying24
  have HR0_1 := Aside0.mk hr0_1
  have HC0_1 := Aside0.mk hc0_1
  clear hr0_1 hc0_1
  have HR0_2 := Aside0.mk hr0_2
  have HC0_2 := Aside0.mk hc0_2
  clear hr0_2 hc0_2
  have HR1_1 := Aside0.mk hr1_1
  have HC1_1 := Aside0.mk hc1_1
  clear hr1_1 hc1_1
  have HR1_2 := Aside0.mk hr1_2
  have HC1_2 := Aside0.mk hc1_2
  clear hr1_2 hc1_2
  have HR2_1 := Aside0.mk hr2_1
  have HC2_1 := Aside0.mk hc2_1
  clear hr2_1 hc2_1
  have HR2_2 := Aside0.mk hr2_2
  have HC2_2 := Aside0.mk hc2_2
  clear hr2_2 hc2_2
  have HB := Aside0.mk (Below.refl w.heap.size w)
  have H : ((banksmanlaw10_awake.f).bind fun t368 => ((banksmanlaw10_short.f a0_0 l0_1 l0_2 a0_3).bind fun t369 => (if t369 = true then ((banksmanlaw10_short.f a1_0 l1_1 l1_2 a1_3).bind fun t370 => (if t370 = true then ((banksmanlaw10_short.f a2_0 l2_1 l2_2 a2_3).bind fun t371 => (banksmanlaw10_SpanOn.j0 k t368 (!t371) a0_0 l0_1 l0_2 a0_3 a1_0 l1_1 l1_2 a1_3 a2_0 l2_1 l2_2 a2_3)) else (banksmanlaw10_SpanOn.j0 k t368 true a0_0 l0_1 l0_2 a0_3 a1_0 l1_1 l1_2 a1_3 a2_0 l2_1 l2_2 a2_3))) else (banksmanlaw10_SpanOn.j0 k t368 true a0_0 l0_1 l0_2 a0_3 a1_0 l1_1 l1_2 a1_3 a2_0 l2_1 l2_2 a2_3)))) = some r := h
  clear h
  replace H := Option.bind_eq_some_iff.mp H
  obtain ⟨t368, A40, H⟩ := H
  replace H : ((banksmanlaw10_short.f a0_0 l0_1 l0_2 a0_3).bind fun t369 => (if t369 = true then ((banksmanlaw10_short.f a1_0 l1_1 l1_2 a1_3).bind fun t370 => (if t370 = true then ((banksmanlaw10_short.f a2_0 l2_1 l2_2 a2_3).bind fun t371 => (banksmanlaw10_SpanOn.j0 k t368 (!t371) a0_0 l0_1 l0_2 a0_3 a1_0 l1_1 l1_2 a1_3 a2_0 l2_1 l2_2 a2_3)) else (banksmanlaw10_SpanOn.j0 k t368 true a0_0 l0_1 l0_2 a0_3 a1_0 l1_1 l1_2 a1_3 a2_0 l2_1 l2_2 a2_3))) else (banksmanlaw10_SpanOn.j0 k t368 true a0_0 l0_1 l0_2 a0_3 a1_0 l1_1 l1_2 a1_3 a2_0 l2_1 l2_2 a2_3))) = some r := H
  have A4 := Aside0.mk A40
  clear A40
  have HC5 := Aside0.mk H
  clear H
  go_enter Try.func7, Try.ntmps7
  go_upto_region 2 with (first | ((with_reducible refine gate_dst (N := 3) rfl ?_); refine box_event ?hg (N := 3) ?hd (cs := #[.int .i64 a0_0, .slice A0_1 l0_1.length c0_1, .slice A0_2 l0_2.length c0_2, .bool a0_3]) (t := 24) ?hr ?_; (case hd => rfl); (case hg => rfl); (case hr => first | (go_simp; done) | (go_simp; rfl)); intro gb365 hg w6 hbox hb; have n0_ := Aside0.mk (below_step (by repeat (first | (with_reducible first | exact HB.out | apply below_alloc | apply pw_below_drewN | apply below_drew1) | exact HB.out)) hb); have n1_ := Aside0.mk (hbox); have n2_ := Aside0.mk ((by rw [hg]; exact (below_size (by repeat (first | (with_reducible first | exact HB.out | apply below_alloc | apply pw_below_drewN | apply below_drew1) | exact HB.out))) : w.heap.size ≤ gb365)); have n3_ := Aside0.mk ((by rw [hg]; exact (below_size (by repeat (first | (with_reducible first | exact HB.out | apply below_alloc | apply pw_below_drewN | apply below_drew1) | exact HB.out))) : w.heap.size ≤ gb365)); clear HB; have HB := n0_; have BK365 := n1_; have GW365 := n2_; have GE365 := n3_; clear n0_ n1_ n2_ n3_; clear hb hbox hg) | ((with_reducible refine gate_dst (N := 4) rfl ?_); refine box_event ?hg (N := 4) ?hd (cs := #[.int .i64 a1_0, .slice A1_1 l1_1.length c1_1, .slice A1_2 l1_2.length c1_2, .bool a1_3]) (t := 24) ?hr ?_; (case hd => rfl); (case hg => rfl); (case hr => first | (go_simp; done) | (go_simp; rfl)); intro gb366 hg w7 hbox hb; have n0_ := Aside0.mk (blk_below (g := gb365) (o := .cells #[.int .i64 a0_0, .slice A0_1 l0_1.length c0_1, .slice A0_2 l0_2.length c0_2, .bool a0_3] 24 (0, 0)) (by (with_reducible repeat (first | refine blk_drewN ?_ _ | refine blk_drew ?_ | refine blk_alloc ?_ _)); exact BK365.out) hb); have n1_ := Aside0.mk (below_step (by repeat (first | (with_reducible first | exact HB.out | apply below_alloc | apply pw_below_drewN | apply below_drew1 | refine below_set ?_ GE365.out) | exact HB.out)) hb); have n2_ := Aside0.mk (hbox); have n3_ := Aside0.mk ((by rw [hg]; exact (below_size (by repeat (first | (with_reducible first | exact HB.out | apply below_alloc | apply pw_below_drewN | apply below_drew1 | refine below_set ?_ GE365.out) | exact HB.out))) : w.heap.size ≤ gb366)); have n4_ := Aside0.mk ((by rw [hg]; exact (below_size (by repeat (first | (with_reducible first | exact HB.out | apply below_alloc | apply pw_below_drewN | apply below_drew1 | refine below_set ?_ GE365.out) | exact HB.out))) : w.heap.size ≤ gb366)); have n5_ := Aside0.mk ((by rw [hg]; exact Nat.ne_of_lt (blk_lt (g := gb365) (o := .cells #[.int .i64 a0_0, .slice A0_1 l0_1.length c0_1, .slice A0_2 l0_2.length c0_2, .bool a0_3] 24 (0, 0)) (by (with_reducible repeat (first | refine blk_drewN ?_ _ | refine blk_drew ?_ | refine blk_alloc ?_ _)); exact BK365.out)) : gb365 ≠ gb366)); have n6_ := Aside0.mk ((by rw [hg]; exact Nat.ne_of_gt (blk_lt (g := gb365) (o := .cells #[.int .i64 a0_0, .slice A0_1 l0_1.length c0_1, .slice A0_2 l0_2.length c0_2, .bool a0_3] 24 (0, 0)) (by (with_reducible repeat (first | refine blk_drewN ?_ _ | refine blk_drew ?_ | refine blk_alloc ?_ _)); exact BK365.out)) : gb366 ≠ gb365)); clear BK365; clear HB; have BK365 := n0_; have HB := n1_; have BK366 := n2_; have GW366 := n3_; have GE366 := n4_; have NB365_366 := n5_; have NB366_365 := n6_; clear n0_ n1_ n2_ n3_ n4_ n5_ n6_; clear hb hbox hg) | ((with_reducible refine gate_dst (N := 5) rfl ?_); refine box_event ?hg (N := 5) ?hd (cs := #[.int .i64 a2_0, .slice A2_1 l2_1.length c2_1, .slice A2_2 l2_2.length c2_2, .bool a2_3]) (t := 24) ?hr ?_; (case hd => rfl); (case hg => rfl); (case hr => first | (go_simp; done) | (go_simp; rfl)); intro gb367 hg w8 hbox hb; have n0_ := Aside0.mk (blk_below (g := gb365) (o := .cells #[.int .i64 a0_0, .slice A0_1 l0_1.length c0_1, .slice A0_2 l0_2.length c0_2, .bool a0_3] 24 (0, 0)) (by (with_reducible repeat (first | refine blk_drewN ?_ _ | refine blk_drew ?_ | refine blk_alloc ?_ _)); exact BK365.out) hb); have n1_ := Aside0.mk (blk_below (g := gb366) (o := .cells #[.int .i64 a1_0, .slice A1_1 l1_1.length c1_1, .slice A1_2 l1_2.length c1_2, .bool a1_3] 24 (0, 0)) (by (with_reducible repeat (first | refine blk_drewN ?_ _ | refine blk_drew ?_ | refine blk_alloc ?_ _)); exact BK366.out) hb); have n2_ := Aside0.mk (below_step (by repeat (first | (with_reducible first | exact HB.out | apply below_alloc | apply pw_below_drewN | apply below_drew1 | refine below_set ?_ GE365.out | refine below_set ?_ GE366.out) | exact HB.out)) hb); have n3_ := Aside0.mk (hbox); have n4_ := Aside0.mk ((by rw [hg]; exact (below_size (by repeat (first | (with_reducible first | exact HB.out | apply below_alloc | apply pw_below_drewN | apply below_drew1 | refine below_set ?_ GE365.out | refine below_set ?_ GE366.out) | exact HB.out))) : w.heap.size ≤ gb367)); have n5_ := Aside0.mk ((by rw [hg]; exact (below_size (by repeat (first | (with_reducible first | exact HB.out | apply below_alloc | apply pw_below_drewN | apply below_drew1 | refine below_set ?_ GE365.out | refine below_set ?_ GE366.out) | exact HB.out))) : w.heap.size ≤ gb367)); have n6_ := Aside0.mk ((by rw [hg]; exact Nat.ne_of_lt (blk_lt (g := gb365) (o := .cells #[.int .i64 a0_0, .slice A0_1 l0_1.length c0_1, .slice A0_2 l0_2.length c0_2, .bool a0_3] 24 (0, 0)) (by (with_reducible repeat (first | refine blk_drewN ?_ _ | refine blk_drew ?_ | refine blk_alloc ?_ _)); exact BK365.out)) : gb365 ≠ gb367)); have n7_ := Aside0.mk ((by rw [hg]; exact Nat.ne_of_gt (blk_lt (g := gb365) (o := .cells #[.int .i64 a0_0, .slice A0_1 l0_1.length c0_1, .slice A0_2 l0_2.length c0_2, .bool a0_3] 24 (0, 0)) (by (with_reducible repeat (first | refine blk_drewN ?_ _ | refine blk_drew ?_ | refine blk_alloc ?_ _)); exact BK365.out)) : gb367 ≠ gb365)); have n8_ := Aside0.mk ((by rw [hg]; exact Nat.ne_of_lt (blk_lt (g := gb366) (o := .cells #[.int .i64 a1_0, .slice A1_1 l1_1.length c1_1, .slice A1_2 l1_2.length c1_2, .bool a1_3] 24 (0, 0)) (by (with_reducible repeat (first | refine blk_drewN ?_ _ | refine blk_drew ?_ | refine blk_alloc ?_ _)); exact BK366.out)) : gb366 ≠ gb367)); have n9_ := Aside0.mk ((by rw [hg]; exact Nat.ne_of_gt (blk_lt (g := gb366) (o := .cells #[.int .i64 a1_0, .slice A1_1 l1_1.length c1_1, .slice A1_2 l1_2.length c1_2, .bool a1_3] 24 (0, 0)) (by (with_reducible repeat (first | refine blk_drewN ?_ _ | refine blk_drew ?_ | refine blk_alloc ?_ _)); exact BK366.out)) : gb367 ≠ gb366)); clear BK365; clear BK366; clear HB; have BK365 := n0_; have BK366 := n1_; have HB := n2_; have BK367 := n3_; have GW367 := n4_; have GE367 := n5_; have NB365_367 := n6_; have NB367_365 := n7_; have NB366_367 := n8_; have NB367_366 := n9_; clear n0_ n1_ n2_ n3_ n4_ n5_ n6_ n7_ n8_ n9_; clear hb hbox hg) | ((with_reducible refine gate_callee (f := 8) rfl ?_); refine goesL_ (some 12) rfl rfl Try.func8 (by kernel_rfl) rfl #[] rfl (by (try simp only [List.map_toArray, List.map_cons, List.map_nil]); first | done | rfl | (simp only [List.length_drop, List.length_take]; rfl)) ?_; (with_reducible refine (banksmanlaw10_awake.calls  t368 _ A4.out).mono ?_); rintro e w9 ⟨rfl, hb⟩; refine ⟨_, rfl, ?_⟩; have n0_ := Aside0.mk (blk_below (g := gb365) (o := .cells #[.int .i64 a0_0, .slice A0_1 l0_1.length c0_1, .slice A0_2 l0_2.length c0_2, .bool a0_3] 24 (0, 0)) (by (with_reducible repeat (first | refine blk_drewN ?_ _ | refine blk_drew ?_ | refine blk_alloc ?_ _)); exact BK365.out) hb); have n1_ := Aside0.mk (blk_below (g := gb366) (o := .cells #[.int .i64 a1_0, .slice A1_1 l1_1.length c1_1, .slice A1_2 l1_2.length c1_2, .bool a1_3] 24 (0, 0)) (by (with_reducible repeat (first | refine blk_drewN ?_ _ | refine blk_drew ?_ | refine blk_alloc ?_ _)); exact BK366.out) hb); have n2_ := Aside0.mk (blk_below (g := gb367) (o := .cells #[.int .i64 a2_0, .slice A2_1 l2_1.length c2_1, .slice A2_2 l2_2.length c2_2, .bool a2_3] 24 (0, 0)) (by (with_reducible repeat (first | refine blk_drewN ?_ _ | refine blk_drew ?_ | refine blk_alloc ?_ _)); exact BK367.out) hb); have n3_ := Aside0.mk (below_step (by repeat (first | (with_reducible first | exact HB.out | apply below_alloc | apply pw_below_drewN | apply below_drew1 | refine below_set ?_ GE365.out | refine below_set ?_ GE366.out | refine below_set ?_ GE367.out) | exact HB.out)) hb); clear BK365; clear BK366; clear BK367; clear HB; have BK365 := n0_; have BK366 := n1_; have BK367 := n2_; have HB := n3_; clear n0_ n1_ n2_ n3_; (try clear hb); (try clear hb2); (try clear hk); (try clear hi)))
  (try simp only [Act.put, List.setIfInBounds_toArray, List.set_cons_zero, List.set_cons_succ])
  go_cut [25] (fun v25 wc => ∃ (kq : Nat) (x25_4 : Bool), v25 = .bool x25_4 ∧ Aside0 (banksmanlaw10_SpanOn.j0 kq t368 x25_4 a0_0 l0_1 l0_2 a0_3 a1_0 l1_1 l1_2 a1_3 a2_0 l2_1 l2_2 a2_3 = some r) ∧ Aside0 (kq ≤ k) ∧ Aside0 (wc.heap[gb365]? = some (.cells #[.int .i64 a0_0, (.slice A0_1 l0_1.length c0_1), (.slice A0_2 l0_2.length c0_2), .bool a0_3] 24 (0, 0))) ∧ Aside0 (wc.heap[gb366]? = some (.cells #[.int .i64 a1_0, (.slice A1_1 l1_1.length c1_1), (.slice A1_2 l1_2.length c1_2), .bool a1_3] 24 (0, 0))) ∧ Aside0 (wc.heap[gb367]? = some (.cells #[.int .i64 a2_0, (.slice A2_1 l2_1.length c2_1), (.slice A2_2 l2_2.length c2_2), .bool a2_3] 24 (0, 0))) ∧ Aside0 (Below w.heap.size w wc))
  case first =>
    have H := HC5.out
    clear HC5
    replace H := Option.bind_eq_some_iff.mp H
    obtain ⟨t369, A100, H⟩ := H
    replace H : (if t369 = true then ((banksmanlaw10_short.f a1_0 l1_1 l1_2 a1_3).bind fun t370 => (if t370 = true then ((banksmanlaw10_short.f a2_0 l2_1 l2_2 a2_3).bind fun t371 => (banksmanlaw10_SpanOn.j0 k t368 (!t371) a0_0 l0_1 l0_2 a0_3 a1_0 l1_1 l1_2 a1_3 a2_0 l2_1 l2_2 a2_3)) else (banksmanlaw10_SpanOn.j0 k t368 true a0_0 l0_1 l0_2 a0_3 a1_0 l1_1 l1_2 a1_3 a2_0 l2_1 l2_2 a2_3))) else (banksmanlaw10_SpanOn.j0 k t368 true a0_0 l0_1 l0_2 a0_3 a1_0 l1_1 l1_2 a1_3 a2_0 l2_1 l2_2 a2_3)) = some r := H
    have A10 := Aside0.mk A100
    clear A100
    by_cases c11 : t369 = true
    · subst c11
      have H1 : ((banksmanlaw10_short.f a1_0 l1_1 l1_2 a1_3).bind fun t370 => (if t370 = true then ((banksmanlaw10_short.f a2_0 l2_1 l2_2 a2_3).bind fun t371 => (banksmanlaw10_SpanOn.j0 k t368 (!t371) a0_0 l0_1 l0_2 a0_3 a1_0 l1_1 l1_2 a1_3 a2_0 l2_1 l2_2 a2_3)) else (banksmanlaw10_SpanOn.j0 k t368 true a0_0 l0_1 l0_2 a0_3 a1_0 l1_1 l1_2 a1_3 a2_0 l2_1 l2_2 a2_3))) = some r := by rw [if_pos rfl] at H; exact H
      clear H
      have H := H1
      clear H1
      replace H := Option.bind_eq_some_iff.mp H
      obtain ⟨t370, A120, H⟩ := H
      replace H : (if t370 = true then ((banksmanlaw10_short.f a2_0 l2_1 l2_2 a2_3).bind fun t371 => (banksmanlaw10_SpanOn.j0 k t368 (!t371) a0_0 l0_1 l0_2 a0_3 a1_0 l1_1 l1_2 a1_3 a2_0 l2_1 l2_2 a2_3)) else (banksmanlaw10_SpanOn.j0 k t368 true a0_0 l0_1 l0_2 a0_3 a1_0 l1_1 l1_2 a1_3 a2_0 l2_1 l2_2 a2_3)) = some r := H
      have A12 := Aside0.mk A120
      clear A120
      by_cases c13 : t370 = true
      · subst c13
        have H1 : ((banksmanlaw10_short.f a2_0 l2_1 l2_2 a2_3).bind fun t371 => (banksmanlaw10_SpanOn.j0 k t368 (!t371) a0_0 l0_1 l0_2 a0_3 a1_0 l1_1 l1_2 a1_3 a2_0 l2_1 l2_2 a2_3)) = some r := by rw [if_pos rfl] at H; exact H
        clear H
        have H := H1
        clear H1
        replace H := Option.bind_eq_some_iff.mp H
        obtain ⟨t371, A140, H⟩ := H
        replace H : (banksmanlaw10_SpanOn.j0 k t368 (!t371) a0_0 l0_1 l0_2 a0_3 a1_0 l1_1 l1_2 a1_3 a2_0 l2_1 l2_2 a2_3) = some r := H
        have A14 := Aside0.mk A140
        clear A140
        have H' := Aside0.mk H
        clear H
        have hnb15 := NB365_366.out
        have hnc15 := NB366_365.out
        have hnb16 := NB365_367.out
        have hnc16 := NB367_365.out
        have hcz17_0 : w9.cell? ⟨gb365, 0, none⟩ = some (.int .i64 a0_0) := (blk_cell BK365.out 0).trans rfl
        have hcz17_1 : w9.cell? ⟨gb365, 1, none⟩ = some (.slice A0_1 l0_1.length c0_1) := (blk_cell BK365.out 1).trans rfl
        have hcz17_2 : w9.cell? ⟨gb365, 2, none⟩ = some (.slice A0_2 l0_2.length c0_2) := (blk_cell BK365.out 2).trans rfl
        have hcz17_3 : w9.cell? ⟨gb365, 3, none⟩ = some (.bool a0_3) := (blk_cell BK365.out 3).trans rfl
        have hfz17_0 := blk_frozen BK365.out 0
        have hfz17_1 := blk_frozen BK365.out 1
        have hfz17_2 := blk_frozen BK365.out 2
        have hfz17_3 := blk_frozen BK365.out 3
        go_wp2_with (first | ((with_reducible refine gate_callee (f := 9) rfl ?_); refine goesL_ (some 14) rfl rfl Try.func9 (by kernel_rfl) rfl #[.agg #[.int .i64 a0_0, .slice A0_1 l0_1.length c0_1, .slice A0_2 l0_2.length c0_2, .bool a0_3]] rfl (by (try simp only [List.map_toArray, List.map_cons, List.map_nil]); first | done | rfl | (simp only [List.length_drop, List.length_take]; rfl)) ?_; (with_reducible refine (banksmanlaw10_short.calls a0_0 _ _ l0_1 _ _ l0_2 a0_3 true _ ?side1 ?side2 ?side3 ?side4 A10.out).mono ?_); (case side1 => repeat (first | exact (Kd.C_below HR0_1.out HB.out) | (with_reducible refine Kd.C_alloc ?_ _) | (with_reducible refine Kd.C_drewN ?_ _) | (with_reducible refine Kd.C_drew ?_))); (case side2 => exact HC0_1.out); (case side3 => repeat (first | exact (Kd.C_below HR0_2.out HB.out) | (with_reducible refine Kd.C_alloc ?_ _) | (with_reducible refine Kd.C_drewN ?_ _) | (with_reducible refine Kd.C_drew ?_))); (case side4 => exact HC0_2.out); rintro e w18 ⟨rfl, hb⟩; refine ⟨_, rfl, ?_⟩; have n0_ := Aside0.mk (blk_below (g := gb365) (o := .cells #[.int .i64 a0_0, .slice A0_1 l0_1.length c0_1, .slice A0_2 l0_2.length c0_2, .bool a0_3] 24 (0, 0)) (by (with_reducible repeat (first | refine blk_drewN ?_ _ | refine blk_drew ?_ | refine blk_alloc ?_ _)); exact BK365.out) hb); have n1_ := Aside0.mk (blk_below (g := gb366) (o := .cells #[.int .i64 a1_0, .slice A1_1 l1_1.length c1_1, .slice A1_2 l1_2.length c1_2, .bool a1_3] 24 (0, 0)) (by (with_reducible repeat (first | refine blk_drewN ?_ _ | refine blk_drew ?_ | refine blk_alloc ?_ _)); exact BK366.out) hb); have n2_ := Aside0.mk (blk_below (g := gb367) (o := .cells #[.int .i64 a2_0, .slice A2_1 l2_1.length c2_1, .slice A2_2 l2_2.length c2_2, .bool a2_3] 24 (0, 0)) (by (with_reducible repeat (first | refine blk_drewN ?_ _ | refine blk_drew ?_ | refine blk_alloc ?_ _)); exact BK367.out) hb); have n3_ := Aside0.mk (below_step (by repeat (first | (with_reducible first | exact HB.out | apply below_alloc | apply pw_below_drewN | apply below_drew1 | refine below_set ?_ GE365.out | refine below_set ?_ GE366.out | refine below_set ?_ GE367.out) | exact HB.out)) hb); clear BK365; clear BK366; clear BK367; clear HB; have BK365 := n0_; have BK366 := n1_; have BK367 := n2_; have HB := n3_; clear n0_ n1_ n2_ n3_; (try clear hb); (try clear hb2); (try clear hk); (try clear hi); have hnb19 := NB366_367.out; have hnc19 := NB367_366.out; have hcz20_0 : w18.cell? ⟨gb366, 0, none⟩ = some (.int .i64 a1_0) := (blk_cell BK366.out 0).trans rfl; have hcz20_1 : w18.cell? ⟨gb366, 1, none⟩ = some (.slice A1_1 l1_1.length c1_1) := (blk_cell BK366.out 1).trans rfl; have hcz20_2 : w18.cell? ⟨gb366, 2, none⟩ = some (.slice A1_2 l1_2.length c1_2) := (blk_cell BK366.out 2).trans rfl; have hcz20_3 : w18.cell? ⟨gb366, 3, none⟩ = some (.bool a1_3) := (blk_cell BK366.out 3).trans rfl; have hfz20_0 := blk_frozen BK366.out 0; have hfz20_1 := blk_frozen BK366.out 1; have hfz20_2 := blk_frozen BK366.out 2; have hfz20_3 := blk_frozen BK366.out 3) | (go_at_call 9; (with_reducible refine (banksmanlaw10_short.calls a1_0 _ _ l1_1 _ _ l1_2 a1_3 true _ ?side1 ?side2 ?side3 ?side4 A12.out).mono ?_); (case side1 => repeat (first | exact (Kd.C_below HR1_1.out HB.out) | (with_reducible refine Kd.C_alloc ?_ _) | (with_reducible refine Kd.C_drewN ?_ _) | (with_reducible refine Kd.C_drew ?_))); (case side2 => exact HC1_1.out); (case side3 => repeat (first | exact (Kd.C_below HR1_2.out HB.out) | (with_reducible refine Kd.C_alloc ?_ _) | (with_reducible refine Kd.C_drewN ?_ _) | (with_reducible refine Kd.C_drew ?_))); (case side4 => exact HC1_2.out); rintro e w21 ⟨rfl, hb⟩; have n0_ := Aside0.mk (blk_below (g := gb365) (o := .cells #[.int .i64 a0_0, .slice A0_1 l0_1.length c0_1, .slice A0_2 l0_2.length c0_2, .bool a0_3] 24 (0, 0)) (by (with_reducible repeat (first | refine blk_drewN ?_ _ | refine blk_drew ?_ | refine blk_alloc ?_ _)); exact BK365.out) hb); have n1_ := Aside0.mk (blk_below (g := gb366) (o := .cells #[.int .i64 a1_0, .slice A1_1 l1_1.length c1_1, .slice A1_2 l1_2.length c1_2, .bool a1_3] 24 (0, 0)) (by (with_reducible repeat (first | refine blk_drewN ?_ _ | refine blk_drew ?_ | refine blk_alloc ?_ _)); exact BK366.out) hb); have n2_ := Aside0.mk (blk_below (g := gb367) (o := .cells #[.int .i64 a2_0, .slice A2_1 l2_1.length c2_1, .slice A2_2 l2_2.length c2_2, .bool a2_3] 24 (0, 0)) (by (with_reducible repeat (first | refine blk_drewN ?_ _ | refine blk_drew ?_ | refine blk_alloc ?_ _)); exact BK367.out) hb); have n3_ := Aside0.mk (below_step (by repeat (first | (with_reducible first | exact HB.out | apply below_alloc | apply pw_below_drewN | apply below_drew1 | refine below_set ?_ GE365.out | refine below_set ?_ GE366.out | refine below_set ?_ GE367.out) | exact HB.out)) hb); clear BK365; clear BK366; clear BK367; clear HB; have BK365 := n0_; have BK366 := n1_; have BK367 := n2_; have HB := n3_; clear n0_ n1_ n2_ n3_; (try clear hb); (try clear hb2); (try clear hk); (try clear hi); have hcz22_0 : w21.cell? ⟨gb367, 0, none⟩ = some (.int .i64 a2_0) := (blk_cell BK367.out 0).trans rfl; have hcz22_1 : w21.cell? ⟨gb367, 1, none⟩ = some (.slice A2_1 l2_1.length c2_1) := (blk_cell BK367.out 1).trans rfl; have hcz22_2 : w21.cell? ⟨gb367, 2, none⟩ = some (.slice A2_2 l2_2.length c2_2) := (blk_cell BK367.out 2).trans rfl; have hcz22_3 : w21.cell? ⟨gb367, 3, none⟩ = some (.bool a2_3) := (blk_cell BK367.out 3).trans rfl; have hfz22_0 := blk_frozen BK367.out 0; have hfz22_1 := blk_frozen BK367.out 1; have hfz22_2 := blk_frozen BK367.out 2; have hfz22_3 := blk_frozen BK367.out 3) | (go_at_call 9; (with_reducible refine (banksmanlaw10_short.calls a2_0 _ _ l2_1 _ _ l2_2 a2_3 t371 _ ?side1 ?side2 ?side3 ?side4 A14.out).mono ?_); (case side1 => repeat (first | exact (Kd.C_below HR2_1.out HB.out) | (with_reducible refine Kd.C_alloc ?_ _) | (with_reducible refine Kd.C_drewN ?_ _) | (with_reducible refine Kd.C_drew ?_))); (case side2 => exact HC2_1.out); (case side3 => repeat (first | exact (Kd.C_below HR2_2.out HB.out) | (with_reducible refine Kd.C_alloc ?_ _) | (with_reducible refine Kd.C_drewN ?_ _) | (with_reducible refine Kd.C_drew ?_))); (case side4 => exact HC2_2.out); rintro e w23 ⟨rfl, hb⟩; have n0_ := Aside0.mk (blk_below (g := gb365) (o := .cells #[.int .i64 a0_0, .slice A0_1 l0_1.length c0_1, .slice A0_2 l0_2.length c0_2, .bool a0_3] 24 (0, 0)) (by (with_reducible repeat (first | refine blk_drewN ?_ _ | refine blk_drew ?_ | refine blk_alloc ?_ _)); exact BK365.out) hb); have n1_ := Aside0.mk (blk_below (g := gb366) (o := .cells #[.int .i64 a1_0, .slice A1_1 l1_1.length c1_1, .slice A1_2 l1_2.length c1_2, .bool a1_3] 24 (0, 0)) (by (with_reducible repeat (first | refine blk_drewN ?_ _ | refine blk_drew ?_ | refine blk_alloc ?_ _)); exact BK366.out) hb); have n2_ := Aside0.mk (blk_below (g := gb367) (o := .cells #[.int .i64 a2_0, .slice A2_1 l2_1.length c2_1, .slice A2_2 l2_2.length c2_2, .bool a2_3] 24 (0, 0)) (by (with_reducible repeat (first | refine blk_drewN ?_ _ | refine blk_drew ?_ | refine blk_alloc ?_ _)); exact BK367.out) hb); have n3_ := Aside0.mk (below_step (by repeat (first | (with_reducible first | exact HB.out | apply below_alloc | apply pw_below_drewN | apply below_drew1 | refine below_set ?_ GE365.out | refine below_set ?_ GE366.out | refine below_set ?_ GE367.out) | exact HB.out)) hb); clear BK365; clear BK366; clear BK367; clear HB; have BK365 := n0_; have BK366 := n1_; have BK367 := n2_; have HB := n3_; clear n0_ n1_ n2_ n3_; (try clear hb); (try clear hb2); (try clear hk); (try clear hi)))
        go_meet
        case rel => exact ⟨_, (!t371), (by first | rfl | (simp; done) | (simp [*]; done)), H', ⟨by first | omega | exact Nat.le_refl _⟩, ⟨by (with_reducible repeat (first | refine blk_drewN ?_ _ | refine blk_drew ?_ | refine blk_alloc ?_ _)); exact BK365.out⟩, ⟨by (with_reducible repeat (first | refine blk_drewN ?_ _ | refine blk_drew ?_ | refine blk_alloc ?_ _)); exact BK366.out⟩, ⟨by (with_reducible repeat (first | refine blk_drewN ?_ _ | refine blk_drew ?_ | refine blk_alloc ?_ _)); exact BK367.out⟩, ⟨by repeat (first | (with_reducible first | exact HB.out | apply below_alloc | apply pw_below_drewN | apply below_drew1 | refine below_set ?_ GE365.out | refine below_set ?_ GE366.out | refine below_set ?_ GE367.out) | exact HB.out)⟩⟩
      · replace c13 := Bool.eq_false_iff.mpr c13
        subst c13
        have H1 : (banksmanlaw10_SpanOn.j0 k t368 true a0_0 l0_1 l0_2 a0_3 a1_0 l1_1 l1_2 a1_3 a2_0 l2_1 l2_2 a2_3) = some r := by rw [if_neg (show ¬ (false = true) by decide)] at H; exact H
        clear H
        have H := H1
        clear H1
        have H' := Aside0.mk H
        clear H
        have hnb24 := NB365_366.out
        have hnc24 := NB366_365.out
        have hnb25 := NB365_367.out
        have hnc25 := NB367_365.out
        have hcz26_0 : w9.cell? ⟨gb365, 0, none⟩ = some (.int .i64 a0_0) := (blk_cell BK365.out 0).trans rfl
        have hcz26_1 : w9.cell? ⟨gb365, 1, none⟩ = some (.slice A0_1 l0_1.length c0_1) := (blk_cell BK365.out 1).trans rfl
        have hcz26_2 : w9.cell? ⟨gb365, 2, none⟩ = some (.slice A0_2 l0_2.length c0_2) := (blk_cell BK365.out 2).trans rfl
        have hcz26_3 : w9.cell? ⟨gb365, 3, none⟩ = some (.bool a0_3) := (blk_cell BK365.out 3).trans rfl
        have hfz26_0 := blk_frozen BK365.out 0
        have hfz26_1 := blk_frozen BK365.out 1
        have hfz26_2 := blk_frozen BK365.out 2
        have hfz26_3 := blk_frozen BK365.out 3
        go_wp2_with (first | ((with_reducible refine gate_callee (f := 9) rfl ?_); refine goesL_ (some 14) rfl rfl Try.func9 (by kernel_rfl) rfl #[.agg #[.int .i64 a0_0, .slice A0_1 l0_1.length c0_1, .slice A0_2 l0_2.length c0_2, .bool a0_3]] rfl (by (try simp only [List.map_toArray, List.map_cons, List.map_nil]); first | done | rfl | (simp only [List.length_drop, List.length_take]; rfl)) ?_; (with_reducible refine (banksmanlaw10_short.calls a0_0 _ _ l0_1 _ _ l0_2 a0_3 true _ ?side1 ?side2 ?side3 ?side4 A10.out).mono ?_); (case side1 => repeat (first | exact (Kd.C_below HR0_1.out HB.out) | (with_reducible refine Kd.C_alloc ?_ _) | (with_reducible refine Kd.C_drewN ?_ _) | (with_reducible refine Kd.C_drew ?_))); (case side2 => exact HC0_1.out); (case side3 => repeat (first | exact (Kd.C_below HR0_2.out HB.out) | (with_reducible refine Kd.C_alloc ?_ _) | (with_reducible refine Kd.C_drewN ?_ _) | (with_reducible refine Kd.C_drew ?_))); (case side4 => exact HC0_2.out); rintro e w27 ⟨rfl, hb⟩; refine ⟨_, rfl, ?_⟩; have n0_ := Aside0.mk (blk_below (g := gb365) (o := .cells #[.int .i64 a0_0, .slice A0_1 l0_1.length c0_1, .slice A0_2 l0_2.length c0_2, .bool a0_3] 24 (0, 0)) (by (with_reducible repeat (first | refine blk_drewN ?_ _ | refine blk_drew ?_ | refine blk_alloc ?_ _)); exact BK365.out) hb); have n1_ := Aside0.mk (blk_below (g := gb366) (o := .cells #[.int .i64 a1_0, .slice A1_1 l1_1.length c1_1, .slice A1_2 l1_2.length c1_2, .bool a1_3] 24 (0, 0)) (by (with_reducible repeat (first | refine blk_drewN ?_ _ | refine blk_drew ?_ | refine blk_alloc ?_ _)); exact BK366.out) hb); have n2_ := Aside0.mk (blk_below (g := gb367) (o := .cells #[.int .i64 a2_0, .slice A2_1 l2_1.length c2_1, .slice A2_2 l2_2.length c2_2, .bool a2_3] 24 (0, 0)) (by (with_reducible repeat (first | refine blk_drewN ?_ _ | refine blk_drew ?_ | refine blk_alloc ?_ _)); exact BK367.out) hb); have n3_ := Aside0.mk (below_step (by repeat (first | (with_reducible first | exact HB.out | apply below_alloc | apply pw_below_drewN | apply below_drew1 | refine below_set ?_ GE365.out | refine below_set ?_ GE366.out | refine below_set ?_ GE367.out) | exact HB.out)) hb); clear BK365; clear BK366; clear BK367; clear HB; have BK365 := n0_; have BK366 := n1_; have BK367 := n2_; have HB := n3_; clear n0_ n1_ n2_ n3_; (try clear hb); (try clear hb2); (try clear hk); (try clear hi); have hnb28 := NB366_367.out; have hnc28 := NB367_366.out; have hcz29_0 : w27.cell? ⟨gb366, 0, none⟩ = some (.int .i64 a1_0) := (blk_cell BK366.out 0).trans rfl; have hcz29_1 : w27.cell? ⟨gb366, 1, none⟩ = some (.slice A1_1 l1_1.length c1_1) := (blk_cell BK366.out 1).trans rfl; have hcz29_2 : w27.cell? ⟨gb366, 2, none⟩ = some (.slice A1_2 l1_2.length c1_2) := (blk_cell BK366.out 2).trans rfl; have hcz29_3 : w27.cell? ⟨gb366, 3, none⟩ = some (.bool a1_3) := (blk_cell BK366.out 3).trans rfl; have hfz29_0 := blk_frozen BK366.out 0; have hfz29_1 := blk_frozen BK366.out 1; have hfz29_2 := blk_frozen BK366.out 2; have hfz29_3 := blk_frozen BK366.out 3) | (go_at_call 9; (with_reducible refine (banksmanlaw10_short.calls a1_0 _ _ l1_1 _ _ l1_2 a1_3 false _ ?side1 ?side2 ?side3 ?side4 A12.out).mono ?_); (case side1 => repeat (first | exact (Kd.C_below HR1_1.out HB.out) | (with_reducible refine Kd.C_alloc ?_ _) | (with_reducible refine Kd.C_drewN ?_ _) | (with_reducible refine Kd.C_drew ?_))); (case side2 => exact HC1_1.out); (case side3 => repeat (first | exact (Kd.C_below HR1_2.out HB.out) | (with_reducible refine Kd.C_alloc ?_ _) | (with_reducible refine Kd.C_drewN ?_ _) | (with_reducible refine Kd.C_drew ?_))); (case side4 => exact HC1_2.out); rintro e w30 ⟨rfl, hb⟩; have n0_ := Aside0.mk (blk_below (g := gb365) (o := .cells #[.int .i64 a0_0, .slice A0_1 l0_1.length c0_1, .slice A0_2 l0_2.length c0_2, .bool a0_3] 24 (0, 0)) (by (with_reducible repeat (first | refine blk_drewN ?_ _ | refine blk_drew ?_ | refine blk_alloc ?_ _)); exact BK365.out) hb); have n1_ := Aside0.mk (blk_below (g := gb366) (o := .cells #[.int .i64 a1_0, .slice A1_1 l1_1.length c1_1, .slice A1_2 l1_2.length c1_2, .bool a1_3] 24 (0, 0)) (by (with_reducible repeat (first | refine blk_drewN ?_ _ | refine blk_drew ?_ | refine blk_alloc ?_ _)); exact BK366.out) hb); have n2_ := Aside0.mk (blk_below (g := gb367) (o := .cells #[.int .i64 a2_0, .slice A2_1 l2_1.length c2_1, .slice A2_2 l2_2.length c2_2, .bool a2_3] 24 (0, 0)) (by (with_reducible repeat (first | refine blk_drewN ?_ _ | refine blk_drew ?_ | refine blk_alloc ?_ _)); exact BK367.out) hb); have n3_ := Aside0.mk (below_step (by repeat (first | (with_reducible first | exact HB.out | apply below_alloc | apply pw_below_drewN | apply below_drew1 | refine below_set ?_ GE365.out | refine below_set ?_ GE366.out | refine below_set ?_ GE367.out) | exact HB.out)) hb); clear BK365; clear BK366; clear BK367; clear HB; have BK365 := n0_; have BK366 := n1_; have BK367 := n2_; have HB := n3_; clear n0_ n1_ n2_ n3_; (try clear hb); (try clear hb2); (try clear hk); (try clear hi)))
        go_meet
        case rel => exact ⟨_, (true), (by first | rfl | (simp; done) | (simp [*]; done)), H', ⟨by first | omega | exact Nat.le_refl _⟩, ⟨by (with_reducible repeat (first | refine blk_drewN ?_ _ | refine blk_drew ?_ | refine blk_alloc ?_ _)); exact BK365.out⟩, ⟨by (with_reducible repeat (first | refine blk_drewN ?_ _ | refine blk_drew ?_ | refine blk_alloc ?_ _)); exact BK366.out⟩, ⟨by (with_reducible repeat (first | refine blk_drewN ?_ _ | refine blk_drew ?_ | refine blk_alloc ?_ _)); exact BK367.out⟩, ⟨by repeat (first | (with_reducible first | exact HB.out | apply below_alloc | apply pw_below_drewN | apply below_drew1 | refine below_set ?_ GE365.out | refine below_set ?_ GE366.out | refine below_set ?_ GE367.out) | exact HB.out)⟩⟩
    · replace c11 := Bool.eq_false_iff.mpr c11
      subst c11
      have H1 : (banksmanlaw10_SpanOn.j0 k t368 true a0_0 l0_1 l0_2 a0_3 a1_0 l1_1 l1_2 a1_3 a2_0 l2_1 l2_2 a2_3) = some r := by rw [if_neg (show ¬ (false = true) by decide)] at H; exact H
      clear H
      have H := H1
      clear H1
      have H' := Aside0.mk H
      clear H
      have hnb31 := NB365_366.out
      have hnc31 := NB366_365.out
      have hnb32 := NB365_367.out
      have hnc32 := NB367_365.out
      have hcz33_0 : w9.cell? ⟨gb365, 0, none⟩ = some (.int .i64 a0_0) := (blk_cell BK365.out 0).trans rfl
      have hcz33_1 : w9.cell? ⟨gb365, 1, none⟩ = some (.slice A0_1 l0_1.length c0_1) := (blk_cell BK365.out 1).trans rfl
      have hcz33_2 : w9.cell? ⟨gb365, 2, none⟩ = some (.slice A0_2 l0_2.length c0_2) := (blk_cell BK365.out 2).trans rfl
      have hcz33_3 : w9.cell? ⟨gb365, 3, none⟩ = some (.bool a0_3) := (blk_cell BK365.out 3).trans rfl
      have hfz33_0 := blk_frozen BK365.out 0
      have hfz33_1 := blk_frozen BK365.out 1
      have hfz33_2 := blk_frozen BK365.out 2
      have hfz33_3 := blk_frozen BK365.out 3
      go_wp2_with (first | ((with_reducible refine gate_callee (f := 9) rfl ?_); refine goesL_ (some 14) rfl rfl Try.func9 (by kernel_rfl) rfl #[.agg #[.int .i64 a0_0, .slice A0_1 l0_1.length c0_1, .slice A0_2 l0_2.length c0_2, .bool a0_3]] rfl (by (try simp only [List.map_toArray, List.map_cons, List.map_nil]); first | done | rfl | (simp only [List.length_drop, List.length_take]; rfl)) ?_; (with_reducible refine (banksmanlaw10_short.calls a0_0 _ _ l0_1 _ _ l0_2 a0_3 false _ ?side1 ?side2 ?side3 ?side4 A10.out).mono ?_); (case side1 => repeat (first | exact (Kd.C_below HR0_1.out HB.out) | (with_reducible refine Kd.C_alloc ?_ _) | (with_reducible refine Kd.C_drewN ?_ _) | (with_reducible refine Kd.C_drew ?_))); (case side2 => exact HC0_1.out); (case side3 => repeat (first | exact (Kd.C_below HR0_2.out HB.out) | (with_reducible refine Kd.C_alloc ?_ _) | (with_reducible refine Kd.C_drewN ?_ _) | (with_reducible refine Kd.C_drew ?_))); (case side4 => exact HC0_2.out); rintro e w34 ⟨rfl, hb⟩; refine ⟨_, rfl, ?_⟩; have n0_ := Aside0.mk (blk_below (g := gb365) (o := .cells #[.int .i64 a0_0, .slice A0_1 l0_1.length c0_1, .slice A0_2 l0_2.length c0_2, .bool a0_3] 24 (0, 0)) (by (with_reducible repeat (first | refine blk_drewN ?_ _ | refine blk_drew ?_ | refine blk_alloc ?_ _)); exact BK365.out) hb); have n1_ := Aside0.mk (blk_below (g := gb366) (o := .cells #[.int .i64 a1_0, .slice A1_1 l1_1.length c1_1, .slice A1_2 l1_2.length c1_2, .bool a1_3] 24 (0, 0)) (by (with_reducible repeat (first | refine blk_drewN ?_ _ | refine blk_drew ?_ | refine blk_alloc ?_ _)); exact BK366.out) hb); have n2_ := Aside0.mk (blk_below (g := gb367) (o := .cells #[.int .i64 a2_0, .slice A2_1 l2_1.length c2_1, .slice A2_2 l2_2.length c2_2, .bool a2_3] 24 (0, 0)) (by (with_reducible repeat (first | refine blk_drewN ?_ _ | refine blk_drew ?_ | refine blk_alloc ?_ _)); exact BK367.out) hb); have n3_ := Aside0.mk (below_step (by repeat (first | (with_reducible first | exact HB.out | apply below_alloc | apply pw_below_drewN | apply below_drew1 | refine below_set ?_ GE365.out | refine below_set ?_ GE366.out | refine below_set ?_ GE367.out) | exact HB.out)) hb); clear BK365; clear BK366; clear BK367; clear HB; have BK365 := n0_; have BK366 := n1_; have BK367 := n2_; have HB := n3_; clear n0_ n1_ n2_ n3_; (try clear hb); (try clear hb2); (try clear hk); (try clear hi)))
      go_meet
      case rel => exact ⟨_, (true), (by first | rfl | (simp; done) | (simp [*]; done)), H', ⟨by first | omega | exact Nat.le_refl _⟩, ⟨by (with_reducible repeat (first | refine blk_drewN ?_ _ | refine blk_drew ?_ | refine blk_alloc ?_ _)); exact BK365.out⟩, ⟨by (with_reducible repeat (first | refine blk_drewN ?_ _ | refine blk_drew ?_ | refine blk_alloc ?_ _)); exact BK366.out⟩, ⟨by (with_reducible repeat (first | refine blk_drewN ?_ _ | refine blk_drew ?_ | refine blk_alloc ?_ _)); exact BK367.out⟩, ⟨by repeat (first | (with_reducible first | exact HB.out | apply below_alloc | apply pw_below_drewN | apply below_drew1 | refine below_set ?_ GE365.out | refine below_set ?_ GE366.out | refine below_set ?_ GE367.out) | exact HB.out)⟩⟩
  case rest =>
    clear HC5
    try clear c1
    try clear c2
    try clear p2
    try clear c3
    try clear c7
    try clear c8
    try clear c9
    try clear c11
    try clear c13
    try clear c15
    try clear c16
    try clear c19
    try clear c24
    try clear c25
    try clear c28
    try clear c31
    try clear c32
    try clear hcz17_0
    try clear hcz17_1
    try clear hcz17_2
    try clear hcz17_3
    try clear hcz20_0
    try clear hcz20_1
    try clear hcz20_2
    try clear hcz20_3
    try clear hcz22_0
    try clear hcz22_1
    try clear hcz22_2
    try clear hcz22_3
    try clear hcz26_0
    try clear hcz26_1
    try clear hcz26_2
    try clear hcz26_3
    try clear hcz29_0
    try clear hcz29_1
    try clear hcz29_2
    try clear hcz29_3
    try clear hcz33_0
    try clear hcz33_1
    try clear hcz33_2
    try clear hcz33_3
    try clear hfz17_0
    try clear hfz17_1
    try clear hfz17_2
    try clear hfz17_3
    try clear hfz20_0
    try clear hfz20_1
    try clear hfz20_2
    try clear hfz20_3
    try clear hfz22_0
    try clear hfz22_1
    try clear hfz22_2
    try clear hfz22_3
    try clear hfz26_0
    try clear hfz26_1
    try clear hfz26_2
    try clear hfz26_3
    try clear hfz29_0
    try clear hfz29_1
    try clear hfz29_2
    try clear hfz29_3
    try clear hfz33_0
    try clear hfz33_1
    try clear hfz33_2
    try clear hfz33_3
    obtain ⟨kq, x25_4, rfl, HA, HJ4, BK365, BK366, BK367, HB⟩ := hcut
    cases kq with
    | zero => exact absurd HA.out (by simp [banksmanlaw10_SpanOn.j0])
    | succ kj4 =>
      have H := HA.out
      clear HA
      simp only [banksmanlaw10_SpanOn.j0] at H
      by_cases c35 : x25_4 = true
      · subst c35
        have H1 : (some t368) = some r := by rw [if_pos rfl] at H; exact H
        clear H
        have H := H1
        clear H1
        obtain rfl := Option.some.inj H
        go_wp2
        go_ret
        exact ⟨by first | rfl | (simp [errW_none, errW_some] <;> rfl) | (simp [*, errW_none, errW_some] <;> rfl), by repeat (first | (with_reducible first | exact HB.out | apply below_alloc | apply pw_below_drewN | apply below_drew1 | refine below_set ?_ GE365.out | refine below_set ?_ GE366.out | refine below_set ?_ GE367.out) | exact HB.out)⟩
      · replace c35 := Bool.eq_false_iff.mpr c35
        subst c35
        have H1 : ((span_Covers.f a0_0 l0_1 l0_2 a0_3 a1_0 l1_1 l1_2 a1_3).bind fun t372 => (if t372 = true then ((span_Covers.f a1_0 l1_1 l1_2 a1_3 a2_0 l2_1 l2_2 a2_3).bind fun t373 => (if t373 = true then ((span_Covers.f a0_0 l0_1 l0_2 a0_3 a2_0 l2_1 l2_2 a2_3).bind fun t374 => (banksmanlaw10_SpanOn.j1 kj4 t368 t374 a0_0 l0_1 l0_2 a0_3 a1_0 l1_1 l1_2 a1_3 a2_0 l2_1 l2_2 a2_3)) else (banksmanlaw10_SpanOn.j1 kj4 t368 true a0_0 l0_1 l0_2 a0_3 a1_0 l1_1 l1_2 a1_3 a2_0 l2_1 l2_2 a2_3))) else (banksmanlaw10_SpanOn.j1 kj4 t368 true a0_0 l0_1 l0_2 a0_3 a1_0 l1_1 l1_2 a1_3 a2_0 l2_1 l2_2 a2_3))) = some r := by rw [if_neg (show ¬ (false = true) by decide)] at H; exact H
        clear H
        have H := H1
        clear H1
        have HC36 := Aside0.mk H
        clear H
        go_upto_region 4 with (fail)
        go_cut [8] (fun v8 wc => ∃ (kq : Nat) (x8_35 : Bool), v8 = .bool x8_35 ∧ Aside0 (banksmanlaw10_SpanOn.j1 kq t368 x8_35 a0_0 l0_1 l0_2 a0_3 a1_0 l1_1 l1_2 a1_3 a2_0 l2_1 l2_2 a2_3 = some r) ∧ Aside0 (kq ≤ kj4) ∧ Aside0 (wc.heap[gb365]? = some (.cells #[.int .i64 a0_0, (.slice A0_1 l0_1.length c0_1), (.slice A0_2 l0_2.length c0_2), .bool a0_3] 24 (0, 0))) ∧ Aside0 (wc.heap[gb366]? = some (.cells #[.int .i64 a1_0, (.slice A1_1 l1_1.length c1_1), (.slice A1_2 l1_2.length c1_2), .bool a1_3] 24 (0, 0))) ∧ Aside0 (wc.heap[gb367]? = some (.cells #[.int .i64 a2_0, (.slice A2_1 l2_1.length c2_1), (.slice A2_2 l2_2.length c2_2), .bool a2_3] 24 (0, 0))) ∧ Aside0 (Below w.heap.size w wc))
        case first =>
          have H := HC36.out
          clear HC36
          replace H := Option.bind_eq_some_iff.mp H
          obtain ⟨t372, A370, H⟩ := H
          replace H : (if t372 = true then ((span_Covers.f a1_0 l1_1 l1_2 a1_3 a2_0 l2_1 l2_2 a2_3).bind fun t373 => (if t373 = true then ((span_Covers.f a0_0 l0_1 l0_2 a0_3 a2_0 l2_1 l2_2 a2_3).bind fun t374 => (banksmanlaw10_SpanOn.j1 kj4 t368 t374 a0_0 l0_1 l0_2 a0_3 a1_0 l1_1 l1_2 a1_3 a2_0 l2_1 l2_2 a2_3)) else (banksmanlaw10_SpanOn.j1 kj4 t368 true a0_0 l0_1 l0_2 a0_3 a1_0 l1_1 l1_2 a1_3 a2_0 l2_1 l2_2 a2_3))) else (banksmanlaw10_SpanOn.j1 kj4 t368 true a0_0 l0_1 l0_2 a0_3 a1_0 l1_1 l1_2 a1_3 a2_0 l2_1 l2_2 a2_3)) = some r := H
          have A37 := Aside0.mk A370
          clear A370
          by_cases c38 : t372 = true
          · subst c38
            have H1 : ((span_Covers.f a1_0 l1_1 l1_2 a1_3 a2_0 l2_1 l2_2 a2_3).bind fun t373 => (if t373 = true then ((span_Covers.f a0_0 l0_1 l0_2 a0_3 a2_0 l2_1 l2_2 a2_3).bind fun t374 => (banksmanlaw10_SpanOn.j1 kj4 t368 t374 a0_0 l0_1 l0_2 a0_3 a1_0 l1_1 l1_2 a1_3 a2_0 l2_1 l2_2 a2_3)) else (banksmanlaw10_SpanOn.j1 kj4 t368 true a0_0 l0_1 l0_2 a0_3 a1_0 l1_1 l1_2 a1_3 a2_0 l2_1 l2_2 a2_3))) = some r := by rw [if_pos rfl] at H; exact H
            clear H
            have H := H1
            clear H1
            replace H := Option.bind_eq_some_iff.mp H
            obtain ⟨t373, A390, H⟩ := H
            replace H : (if t373 = true then ((span_Covers.f a0_0 l0_1 l0_2 a0_3 a2_0 l2_1 l2_2 a2_3).bind fun t374 => (banksmanlaw10_SpanOn.j1 kj4 t368 t374 a0_0 l0_1 l0_2 a0_3 a1_0 l1_1 l1_2 a1_3 a2_0 l2_1 l2_2 a2_3)) else (banksmanlaw10_SpanOn.j1 kj4 t368 true a0_0 l0_1 l0_2 a0_3 a1_0 l1_1 l1_2 a1_3 a2_0 l2_1 l2_2 a2_3)) = some r := H
            have A39 := Aside0.mk A390
            clear A390
            by_cases c40 : t373 = true
            · subst c40
              have H1 : ((span_Covers.f a0_0 l0_1 l0_2 a0_3 a2_0 l2_1 l2_2 a2_3).bind fun t374 => (banksmanlaw10_SpanOn.j1 kj4 t368 t374 a0_0 l0_1 l0_2 a0_3 a1_0 l1_1 l1_2 a1_3 a2_0 l2_1 l2_2 a2_3)) = some r := by rw [if_pos rfl] at H; exact H
              clear H
              have H := H1
              clear H1
              replace H := Option.bind_eq_some_iff.mp H
              obtain ⟨t374, A410, H⟩ := H
              replace H : (banksmanlaw10_SpanOn.j1 kj4 t368 t374 a0_0 l0_1 l0_2 a0_3 a1_0 l1_1 l1_2 a1_3 a2_0 l2_1 l2_2 a2_3) = some r := H
              have A41 := Aside0.mk A410
              clear A410
              have H' := Aside0.mk H
              clear H
              have hnb42 := NB365_366.out
              have hnc42 := NB366_365.out
              have hnb43 := NB365_367.out
              have hnc43 := NB367_365.out
              have hcz44_0 : wc.cell? ⟨gb365, 0, none⟩ = some (.int .i64 a0_0) := (blk_cell BK365.out 0).trans rfl
              have hcz44_1 : wc.cell? ⟨gb365, 1, none⟩ = some (.slice A0_1 l0_1.length c0_1) := (blk_cell BK365.out 1).trans rfl
              have hcz44_2 : wc.cell? ⟨gb365, 2, none⟩ = some (.slice A0_2 l0_2.length c0_2) := (blk_cell BK365.out 2).trans rfl
              have hcz44_3 : wc.cell? ⟨gb365, 3, none⟩ = some (.bool a0_3) := (blk_cell BK365.out 3).trans rfl
              have hfz44_0 := blk_frozen BK365.out 0
              have hfz44_1 := blk_frozen BK365.out 1
              have hfz44_2 := blk_frozen BK365.out 2
              have hfz44_3 := blk_frozen BK365.out 3
              have hnb45 := NB366_367.out
              have hnc45 := NB367_366.out
              have hcz46_0 : wc.cell? ⟨gb366, 0, none⟩ = some (.int .i64 a1_0) := (blk_cell BK366.out 0).trans rfl
              have hcz46_1 : wc.cell? ⟨gb366, 1, none⟩ = some (.slice A1_1 l1_1.length c1_1) := (blk_cell BK366.out 1).trans rfl
              have hcz46_2 : wc.cell? ⟨gb366, 2, none⟩ = some (.slice A1_2 l1_2.length c1_2) := (blk_cell BK366.out 2).trans rfl
              have hcz46_3 : wc.cell? ⟨gb366, 3, none⟩ = some (.bool a1_3) := (blk_cell BK366.out 3).trans rfl
              have hfz46_0 := blk_frozen BK366.out 0
              have hfz46_1 := blk_frozen BK366.out 1
              have hfz46_2 := blk_frozen BK366.out 2
              have hfz46_3 := blk_frozen BK366.out 3
              go_wp2_with (first | ((with_reducible refine gate_callee (f := 22) rfl ?_); refine goesL_ (some 29) rfl rfl Try.func22 (by kernel_rfl) rfl #[.agg #[.int .i64 a0_0, .slice A0_1 l0_1.length c0_1, .slice A0_2 l0_2.length c0_2, .bool a0_3], .agg #[.int .i64 a1_0, .slice A1_1 l1_1.length c1_1, .slice A1_2 l1_2.length c1_2, .bool a1_3]] rfl (by (try simp only [List.map_toArray, List.map_cons, List.map_nil]); first | done | rfl | (simp only [List.length_drop, List.length_take]; rfl)) ?_; (with_reducible refine (span_Covers.calls a0_0 _ _ l0_1 _ _ l0_2 a0_3 a1_0 _ _ l1_1 _ _ l1_2 a1_3 true _ ?side1 ?side2 ?side3 ?side4 ?side5 ?side6 ?side7 ?side8 A37.out).mono ?_); (case side1 => repeat (first | exact (Kd.C_below HR0_1.out HB.out) | (with_reducible refine Kd.C_alloc ?_ _) | (with_reducible refine Kd.C_drewN ?_ _) | (with_reducible refine Kd.C_drew ?_))); (case side2 => exact HC0_1.out); (case side3 => repeat (first | exact (Kd.C_below HR0_2.out HB.out) | (with_reducible refine Kd.C_alloc ?_ _) | (with_reducible refine Kd.C_drewN ?_ _) | (with_reducible refine Kd.C_drew ?_))); (case side4 => exact HC0_2.out); (case side5 => repeat (first | exact (Kd.C_below HR1_1.out HB.out) | (with_reducible refine Kd.C_alloc ?_ _) | (with_reducible refine Kd.C_drewN ?_ _) | (with_reducible refine Kd.C_drew ?_))); (case side6 => exact HC1_1.out); (case side7 => repeat (first | exact (Kd.C_below HR1_2.out HB.out) | (with_reducible refine Kd.C_alloc ?_ _) | (with_reducible refine Kd.C_drewN ?_ _) | (with_reducible refine Kd.C_drew ?_))); (case side8 => exact HC1_2.out); rintro e w47 ⟨rfl, hb⟩; refine ⟨_, rfl, ?_⟩; have n0_ := Aside0.mk (blk_below (g := gb365) (o := .cells #[.int .i64 a0_0, .slice A0_1 l0_1.length c0_1, .slice A0_2 l0_2.length c0_2, .bool a0_3] 24 (0, 0)) (by (with_reducible repeat (first | refine blk_drewN ?_ _ | refine blk_drew ?_ | refine blk_alloc ?_ _)); exact BK365.out) hb); have n1_ := Aside0.mk (blk_below (g := gb366) (o := .cells #[.int .i64 a1_0, .slice A1_1 l1_1.length c1_1, .slice A1_2 l1_2.length c1_2, .bool a1_3] 24 (0, 0)) (by (with_reducible repeat (first | refine blk_drewN ?_ _ | refine blk_drew ?_ | refine blk_alloc ?_ _)); exact BK366.out) hb); have n2_ := Aside0.mk (blk_below (g := gb367) (o := .cells #[.int .i64 a2_0, .slice A2_1 l2_1.length c2_1, .slice A2_2 l2_2.length c2_2, .bool a2_3] 24 (0, 0)) (by (with_reducible repeat (first | refine blk_drewN ?_ _ | refine blk_drew ?_ | refine blk_alloc ?_ _)); exact BK367.out) hb); have n3_ := Aside0.mk (below_step (by repeat (first | (with_reducible first | exact HB.out | apply below_alloc | apply pw_below_drewN | apply below_drew1 | refine below_set ?_ GE365.out | refine below_set ?_ GE366.out | refine below_set ?_ GE367.out) | exact HB.out)) hb); clear BK365; clear BK366; clear BK367; clear HB; have BK365 := n0_; have BK366 := n1_; have BK367 := n2_; have HB := n3_; clear n0_ n1_ n2_ n3_; (try clear hb); (try clear hb2); (try clear hk); (try clear hi); have hcz48_0 : w47.cell? ⟨gb366, 0, none⟩ = some (.int .i64 a1_0) := (blk_cell BK366.out 0).trans rfl; have hcz48_1 : w47.cell? ⟨gb366, 1, none⟩ = some (.slice A1_1 l1_1.length c1_1) := (blk_cell BK366.out 1).trans rfl; have hcz48_2 : w47.cell? ⟨gb366, 2, none⟩ = some (.slice A1_2 l1_2.length c1_2) := (blk_cell BK366.out 2).trans rfl; have hcz48_3 : w47.cell? ⟨gb366, 3, none⟩ = some (.bool a1_3) := (blk_cell BK366.out 3).trans rfl; have hfz48_0 := blk_frozen BK366.out 0; have hfz48_1 := blk_frozen BK366.out 1; have hfz48_2 := blk_frozen BK366.out 2; have hfz48_3 := blk_frozen BK366.out 3; have hcz49_0 : w47.cell? ⟨gb367, 0, none⟩ = some (.int .i64 a2_0) := (blk_cell BK367.out 0).trans rfl; have hcz49_1 : w47.cell? ⟨gb367, 1, none⟩ = some (.slice A2_1 l2_1.length c2_1) := (blk_cell BK367.out 1).trans rfl; have hcz49_2 : w47.cell? ⟨gb367, 2, none⟩ = some (.slice A2_2 l2_2.length c2_2) := (blk_cell BK367.out 2).trans rfl; have hcz49_3 : w47.cell? ⟨gb367, 3, none⟩ = some (.bool a2_3) := (blk_cell BK367.out 3).trans rfl; have hfz49_0 := blk_frozen BK367.out 0; have hfz49_1 := blk_frozen BK367.out 1; have hfz49_2 := blk_frozen BK367.out 2; have hfz49_3 := blk_frozen BK367.out 3) | (go_at_call 22; (with_reducible refine (span_Covers.calls a1_0 _ _ l1_1 _ _ l1_2 a1_3 a2_0 _ _ l2_1 _ _ l2_2 a2_3 true _ ?side1 ?side2 ?side3 ?side4 ?side5 ?side6 ?side7 ?side8 A39.out).mono ?_); (case side1 => repeat (first | exact (Kd.C_below HR1_1.out HB.out) | (with_reducible refine Kd.C_alloc ?_ _) | (with_reducible refine Kd.C_drewN ?_ _) | (with_reducible refine Kd.C_drew ?_))); (case side2 => exact HC1_1.out); (case side3 => repeat (first | exact (Kd.C_below HR1_2.out HB.out) | (with_reducible refine Kd.C_alloc ?_ _) | (with_reducible refine Kd.C_drewN ?_ _) | (with_reducible refine Kd.C_drew ?_))); (case side4 => exact HC1_2.out); (case side5 => repeat (first | exact (Kd.C_below HR2_1.out HB.out) | (with_reducible refine Kd.C_alloc ?_ _) | (with_reducible refine Kd.C_drewN ?_ _) | (with_reducible refine Kd.C_drew ?_))); (case side6 => exact HC2_1.out); (case side7 => repeat (first | exact (Kd.C_below HR2_2.out HB.out) | (with_reducible refine Kd.C_alloc ?_ _) | (with_reducible refine Kd.C_drewN ?_ _) | (with_reducible refine Kd.C_drew ?_))); (case side8 => exact HC2_2.out); rintro e w50 ⟨rfl, hb⟩; have n0_ := Aside0.mk (blk_below (g := gb365) (o := .cells #[.int .i64 a0_0, .slice A0_1 l0_1.length c0_1, .slice A0_2 l0_2.length c0_2, .bool a0_3] 24 (0, 0)) (by (with_reducible repeat (first | refine blk_drewN ?_ _ | refine blk_drew ?_ | refine blk_alloc ?_ _)); exact BK365.out) hb); have n1_ := Aside0.mk (blk_below (g := gb366) (o := .cells #[.int .i64 a1_0, .slice A1_1 l1_1.length c1_1, .slice A1_2 l1_2.length c1_2, .bool a1_3] 24 (0, 0)) (by (with_reducible repeat (first | refine blk_drewN ?_ _ | refine blk_drew ?_ | refine blk_alloc ?_ _)); exact BK366.out) hb); have n2_ := Aside0.mk (blk_below (g := gb367) (o := .cells #[.int .i64 a2_0, .slice A2_1 l2_1.length c2_1, .slice A2_2 l2_2.length c2_2, .bool a2_3] 24 (0, 0)) (by (with_reducible repeat (first | refine blk_drewN ?_ _ | refine blk_drew ?_ | refine blk_alloc ?_ _)); exact BK367.out) hb); have n3_ := Aside0.mk (below_step (by repeat (first | (with_reducible first | exact HB.out | apply below_alloc | apply pw_below_drewN | apply below_drew1 | refine below_set ?_ GE365.out | refine below_set ?_ GE366.out | refine below_set ?_ GE367.out) | exact HB.out)) hb); clear BK365; clear BK366; clear BK367; clear HB; have BK365 := n0_; have BK366 := n1_; have BK367 := n2_; have HB := n3_; clear n0_ n1_ n2_ n3_; (try clear hb); (try clear hb2); (try clear hk); (try clear hi); have hcz51_0 : w50.cell? ⟨gb365, 0, none⟩ = some (.int .i64 a0_0) := (blk_cell BK365.out 0).trans rfl; have hcz51_1 : w50.cell? ⟨gb365, 1, none⟩ = some (.slice A0_1 l0_1.length c0_1) := (blk_cell BK365.out 1).trans rfl; have hcz51_2 : w50.cell? ⟨gb365, 2, none⟩ = some (.slice A0_2 l0_2.length c0_2) := (blk_cell BK365.out 2).trans rfl; have hcz51_3 : w50.cell? ⟨gb365, 3, none⟩ = some (.bool a0_3) := (blk_cell BK365.out 3).trans rfl; have hfz51_0 := blk_frozen BK365.out 0; have hfz51_1 := blk_frozen BK365.out 1; have hfz51_2 := blk_frozen BK365.out 2; have hfz51_3 := blk_frozen BK365.out 3; have hcz52_0 : w50.cell? ⟨gb367, 0, none⟩ = some (.int .i64 a2_0) := (blk_cell BK367.out 0).trans rfl; have hcz52_1 : w50.cell? ⟨gb367, 1, none⟩ = some (.slice A2_1 l2_1.length c2_1) := (blk_cell BK367.out 1).trans rfl; have hcz52_2 : w50.cell? ⟨gb367, 2, none⟩ = some (.slice A2_2 l2_2.length c2_2) := (blk_cell BK367.out 2).trans rfl; have hcz52_3 : w50.cell? ⟨gb367, 3, none⟩ = some (.bool a2_3) := (blk_cell BK367.out 3).trans rfl; have hfz52_0 := blk_frozen BK367.out 0; have hfz52_1 := blk_frozen BK367.out 1; have hfz52_2 := blk_frozen BK367.out 2; have hfz52_3 := blk_frozen BK367.out 3) | (go_at_call 22; (with_reducible refine (span_Covers.calls a0_0 _ _ l0_1 _ _ l0_2 a0_3 a2_0 _ _ l2_1 _ _ l2_2 a2_3 t374 _ ?side1 ?side2 ?side3 ?side4 ?side5 ?side6 ?side7 ?side8 A41.out).mono ?_); (case side1 => repeat (first | exact (Kd.C_below HR0_1.out HB.out) | (with_reducible refine Kd.C_alloc ?_ _) | (with_reducible refine Kd.C_drewN ?_ _) | (with_reducible refine Kd.C_drew ?_))); (case side2 => exact HC0_1.out); (case side3 => repeat (first | exact (Kd.C_below HR0_2.out HB.out) | (with_reducible refine Kd.C_alloc ?_ _) | (with_reducible refine Kd.C_drewN ?_ _) | (with_reducible refine Kd.C_drew ?_))); (case side4 => exact HC0_2.out); (case side5 => repeat (first | exact (Kd.C_below HR2_1.out HB.out) | (with_reducible refine Kd.C_alloc ?_ _) | (with_reducible refine Kd.C_drewN ?_ _) | (with_reducible refine Kd.C_drew ?_))); (case side6 => exact HC2_1.out); (case side7 => repeat (first | exact (Kd.C_below HR2_2.out HB.out) | (with_reducible refine Kd.C_alloc ?_ _) | (with_reducible refine Kd.C_drewN ?_ _) | (with_reducible refine Kd.C_drew ?_))); (case side8 => exact HC2_2.out); rintro e w53 ⟨rfl, hb⟩; have n0_ := Aside0.mk (blk_below (g := gb365) (o := .cells #[.int .i64 a0_0, .slice A0_1 l0_1.length c0_1, .slice A0_2 l0_2.length c0_2, .bool a0_3] 24 (0, 0)) (by (with_reducible repeat (first | refine blk_drewN ?_ _ | refine blk_drew ?_ | refine blk_alloc ?_ _)); exact BK365.out) hb); have n1_ := Aside0.mk (blk_below (g := gb366) (o := .cells #[.int .i64 a1_0, .slice A1_1 l1_1.length c1_1, .slice A1_2 l1_2.length c1_2, .bool a1_3] 24 (0, 0)) (by (with_reducible repeat (first | refine blk_drewN ?_ _ | refine blk_drew ?_ | refine blk_alloc ?_ _)); exact BK366.out) hb); have n2_ := Aside0.mk (blk_below (g := gb367) (o := .cells #[.int .i64 a2_0, .slice A2_1 l2_1.length c2_1, .slice A2_2 l2_2.length c2_2, .bool a2_3] 24 (0, 0)) (by (with_reducible repeat (first | refine blk_drewN ?_ _ | refine blk_drew ?_ | refine blk_alloc ?_ _)); exact BK367.out) hb); have n3_ := Aside0.mk (below_step (by repeat (first | (with_reducible first | exact HB.out | apply below_alloc | apply pw_below_drewN | apply below_drew1 | refine below_set ?_ GE365.out | refine below_set ?_ GE366.out | refine below_set ?_ GE367.out) | exact HB.out)) hb); clear BK365; clear BK366; clear BK367; clear HB; have BK365 := n0_; have BK366 := n1_; have BK367 := n2_; have HB := n3_; clear n0_ n1_ n2_ n3_; (try clear hb); (try clear hb2); (try clear hk); (try clear hi)))
              go_meet
              case rel => exact ⟨_, (t374), (by first | rfl | (simp; done) | (simp [*]; done)), H', ⟨by have := HJ4.out; first | omega | exact Nat.le_refl _⟩, ⟨by (with_reducible repeat (first | refine blk_drewN ?_ _ | refine blk_drew ?_ | refine blk_alloc ?_ _)); exact BK365.out⟩, ⟨by (with_reducible repeat (first | refine blk_drewN ?_ _ | refine blk_drew ?_ | refine blk_alloc ?_ _)); exact BK366.out⟩, ⟨by (with_reducible repeat (first | refine blk_drewN ?_ _ | refine blk_drew ?_ | refine blk_alloc ?_ _)); exact BK367.out⟩, ⟨by repeat (first | (with_reducible first | exact HB.out | apply below_alloc | apply pw_below_drewN | apply below_drew1 | refine below_set ?_ GE365.out | refine below_set ?_ GE366.out | refine below_set ?_ GE367.out) | exact HB.out)⟩⟩
            · replace c40 := Bool.eq_false_iff.mpr c40
              subst c40
              have H1 : (banksmanlaw10_SpanOn.j1 kj4 t368 true a0_0 l0_1 l0_2 a0_3 a1_0 l1_1 l1_2 a1_3 a2_0 l2_1 l2_2 a2_3) = some r := by rw [if_neg (show ¬ (false = true) by decide)] at H; exact H
              clear H
              have H := H1
              clear H1
              have H' := Aside0.mk H
              clear H
              have hnb54 := NB365_366.out
              have hnc54 := NB366_365.out
              have hnb55 := NB365_367.out
              have hnc55 := NB367_365.out
              have hcz56_0 : wc.cell? ⟨gb365, 0, none⟩ = some (.int .i64 a0_0) := (blk_cell BK365.out 0).trans rfl
              have hcz56_1 : wc.cell? ⟨gb365, 1, none⟩ = some (.slice A0_1 l0_1.length c0_1) := (blk_cell BK365.out 1).trans rfl
              have hcz56_2 : wc.cell? ⟨gb365, 2, none⟩ = some (.slice A0_2 l0_2.length c0_2) := (blk_cell BK365.out 2).trans rfl
              have hcz56_3 : wc.cell? ⟨gb365, 3, none⟩ = some (.bool a0_3) := (blk_cell BK365.out 3).trans rfl
              have hfz56_0 := blk_frozen BK365.out 0
              have hfz56_1 := blk_frozen BK365.out 1
              have hfz56_2 := blk_frozen BK365.out 2
              have hfz56_3 := blk_frozen BK365.out 3
              have hnb57 := NB366_367.out
              have hnc57 := NB367_366.out
              have hcz58_0 : wc.cell? ⟨gb366, 0, none⟩ = some (.int .i64 a1_0) := (blk_cell BK366.out 0).trans rfl
              have hcz58_1 : wc.cell? ⟨gb366, 1, none⟩ = some (.slice A1_1 l1_1.length c1_1) := (blk_cell BK366.out 1).trans rfl
              have hcz58_2 : wc.cell? ⟨gb366, 2, none⟩ = some (.slice A1_2 l1_2.length c1_2) := (blk_cell BK366.out 2).trans rfl
              have hcz58_3 : wc.cell? ⟨gb366, 3, none⟩ = some (.bool a1_3) := (blk_cell BK366.out 3).trans rfl
              have hfz58_0 := blk_frozen BK366.out 0
              have hfz58_1 := blk_frozen BK366.out 1
              have hfz58_2 := blk_frozen BK366.out 2
              have hfz58_3 := blk_frozen BK366.out 3
              go_wp2_with (first | ((with_reducible refine gate_callee (f := 22) rfl ?_); refine goesL_ (some 29) rfl rfl Try.func22 (by kernel_rfl) rfl #[.agg #[.int .i64 a0_0, .slice A0_1 l0_1.length c0_1, .slice A0_2 l0_2.length c0_2, .bool a0_3], .agg #[.int .i64 a1_0, .slice A1_1 l1_1.length c1_1, .slice A1_2 l1_2.length c1_2, .bool a1_3]] rfl (by (try simp only [List.map_toArray, List.map_cons, List.map_nil]); first | done | rfl | (simp only [List.length_drop, List.length_take]; rfl)) ?_; (with_reducible refine (span_Covers.calls a0_0 _ _ l0_1 _ _ l0_2 a0_3 a1_0 _ _ l1_1 _ _ l1_2 a1_3 true _ ?side1 ?side2 ?side3 ?side4 ?side5 ?side6 ?side7 ?side8 A37.out).mono ?_); (case side1 => repeat (first | exact (Kd.C_below HR0_1.out HB.out) | (with_reducible refine Kd.C_alloc ?_ _) | (with_reducible refine Kd.C_drewN ?_ _) | (with_reducible refine Kd.C_drew ?_))); (case side2 => exact HC0_1.out); (case side3 => repeat (first | exact (Kd.C_below HR0_2.out HB.out) | (with_reducible refine Kd.C_alloc ?_ _) | (with_reducible refine Kd.C_drewN ?_ _) | (with_reducible refine Kd.C_drew ?_))); (case side4 => exact HC0_2.out); (case side5 => repeat (first | exact (Kd.C_below HR1_1.out HB.out) | (with_reducible refine Kd.C_alloc ?_ _) | (with_reducible refine Kd.C_drewN ?_ _) | (with_reducible refine Kd.C_drew ?_))); (case side6 => exact HC1_1.out); (case side7 => repeat (first | exact (Kd.C_below HR1_2.out HB.out) | (with_reducible refine Kd.C_alloc ?_ _) | (with_reducible refine Kd.C_drewN ?_ _) | (with_reducible refine Kd.C_drew ?_))); (case side8 => exact HC1_2.out); rintro e w59 ⟨rfl, hb⟩; refine ⟨_, rfl, ?_⟩; have n0_ := Aside0.mk (blk_below (g := gb365) (o := .cells #[.int .i64 a0_0, .slice A0_1 l0_1.length c0_1, .slice A0_2 l0_2.length c0_2, .bool a0_3] 24 (0, 0)) (by (with_reducible repeat (first | refine blk_drewN ?_ _ | refine blk_drew ?_ | refine blk_alloc ?_ _)); exact BK365.out) hb); have n1_ := Aside0.mk (blk_below (g := gb366) (o := .cells #[.int .i64 a1_0, .slice A1_1 l1_1.length c1_1, .slice A1_2 l1_2.length c1_2, .bool a1_3] 24 (0, 0)) (by (with_reducible repeat (first | refine blk_drewN ?_ _ | refine blk_drew ?_ | refine blk_alloc ?_ _)); exact BK366.out) hb); have n2_ := Aside0.mk (blk_below (g := gb367) (o := .cells #[.int .i64 a2_0, .slice A2_1 l2_1.length c2_1, .slice A2_2 l2_2.length c2_2, .bool a2_3] 24 (0, 0)) (by (with_reducible repeat (first | refine blk_drewN ?_ _ | refine blk_drew ?_ | refine blk_alloc ?_ _)); exact BK367.out) hb); have n3_ := Aside0.mk (below_step (by repeat (first | (with_reducible first | exact HB.out | apply below_alloc | apply pw_below_drewN | apply below_drew1 | refine below_set ?_ GE365.out | refine below_set ?_ GE366.out | refine below_set ?_ GE367.out) | exact HB.out)) hb); clear BK365; clear BK366; clear BK367; clear HB; have BK365 := n0_; have BK366 := n1_; have BK367 := n2_; have HB := n3_; clear n0_ n1_ n2_ n3_; (try clear hb); (try clear hb2); (try clear hk); (try clear hi); have hcz60_0 : w59.cell? ⟨gb366, 0, none⟩ = some (.int .i64 a1_0) := (blk_cell BK366.out 0).trans rfl; have hcz60_1 : w59.cell? ⟨gb366, 1, none⟩ = some (.slice A1_1 l1_1.length c1_1) := (blk_cell BK366.out 1).trans rfl; have hcz60_2 : w59.cell? ⟨gb366, 2, none⟩ = some (.slice A1_2 l1_2.length c1_2) := (blk_cell BK366.out 2).trans rfl; have hcz60_3 : w59.cell? ⟨gb366, 3, none⟩ = some (.bool a1_3) := (blk_cell BK366.out 3).trans rfl; have hfz60_0 := blk_frozen BK366.out 0; have hfz60_1 := blk_frozen BK366.out 1; have hfz60_2 := blk_frozen BK366.out 2; have hfz60_3 := blk_frozen BK366.out 3; have hcz61_0 : w59.cell? ⟨gb367, 0, none⟩ = some (.int .i64 a2_0) := (blk_cell BK367.out 0).trans rfl; have hcz61_1 : w59.cell? ⟨gb367, 1, none⟩ = some (.slice A2_1 l2_1.length c2_1) := (blk_cell BK367.out 1).trans rfl; have hcz61_2 : w59.cell? ⟨gb367, 2, none⟩ = some (.slice A2_2 l2_2.length c2_2) := (blk_cell BK367.out 2).trans rfl; have hcz61_3 : w59.cell? ⟨gb367, 3, none⟩ = some (.bool a2_3) := (blk_cell BK367.out 3).trans rfl; have hfz61_0 := blk_frozen BK367.out 0; have hfz61_1 := blk_frozen BK367.out 1; have hfz61_2 := blk_frozen BK367.out 2; have hfz61_3 := blk_frozen BK367.out 3) | (go_at_call 22; (with_reducible refine (span_Covers.calls a1_0 _ _ l1_1 _ _ l1_2 a1_3 a2_0 _ _ l2_1 _ _ l2_2 a2_3 false _ ?side1 ?side2 ?side3 ?side4 ?side5 ?side6 ?side7 ?side8 A39.out).mono ?_); (case side1 => repeat (first | exact (Kd.C_below HR1_1.out HB.out) | (with_reducible refine Kd.C_alloc ?_ _) | (with_reducible refine Kd.C_drewN ?_ _) | (with_reducible refine Kd.C_drew ?_))); (case side2 => exact HC1_1.out); (case side3 => repeat (first | exact (Kd.C_below HR1_2.out HB.out) | (with_reducible refine Kd.C_alloc ?_ _) | (with_reducible refine Kd.C_drewN ?_ _) | (with_reducible refine Kd.C_drew ?_))); (case side4 => exact HC1_2.out); (case side5 => repeat (first | exact (Kd.C_below HR2_1.out HB.out) | (with_reducible refine Kd.C_alloc ?_ _) | (with_reducible refine Kd.C_drewN ?_ _) | (with_reducible refine Kd.C_drew ?_))); (case side6 => exact HC2_1.out); (case side7 => repeat (first | exact (Kd.C_below HR2_2.out HB.out) | (with_reducible refine Kd.C_alloc ?_ _) | (with_reducible refine Kd.C_drewN ?_ _) | (with_reducible refine Kd.C_drew ?_))); (case side8 => exact HC2_2.out); rintro e w62 ⟨rfl, hb⟩; have n0_ := Aside0.mk (blk_below (g := gb365) (o := .cells #[.int .i64 a0_0, .slice A0_1 l0_1.length c0_1, .slice A0_2 l0_2.length c0_2, .bool a0_3] 24 (0, 0)) (by (with_reducible repeat (first | refine blk_drewN ?_ _ | refine blk_drew ?_ | refine blk_alloc ?_ _)); exact BK365.out) hb); have n1_ := Aside0.mk (blk_below (g := gb366) (o := .cells #[.int .i64 a1_0, .slice A1_1 l1_1.length c1_1, .slice A1_2 l1_2.length c1_2, .bool a1_3] 24 (0, 0)) (by (with_reducible repeat (first | refine blk_drewN ?_ _ | refine blk_drew ?_ | refine blk_alloc ?_ _)); exact BK366.out) hb); have n2_ := Aside0.mk (blk_below (g := gb367) (o := .cells #[.int .i64 a2_0, .slice A2_1 l2_1.length c2_1, .slice A2_2 l2_2.length c2_2, .bool a2_3] 24 (0, 0)) (by (with_reducible repeat (first | refine blk_drewN ?_ _ | refine blk_drew ?_ | refine blk_alloc ?_ _)); exact BK367.out) hb); have n3_ := Aside0.mk (below_step (by repeat (first | (with_reducible first | exact HB.out | apply below_alloc | apply pw_below_drewN | apply below_drew1 | refine below_set ?_ GE365.out | refine below_set ?_ GE366.out | refine below_set ?_ GE367.out) | exact HB.out)) hb); clear BK365; clear BK366; clear BK367; clear HB; have BK365 := n0_; have BK366 := n1_; have BK367 := n2_; have HB := n3_; clear n0_ n1_ n2_ n3_; (try clear hb); (try clear hb2); (try clear hk); (try clear hi)))
              go_meet
              case rel => exact ⟨_, (true), (by first | rfl | (simp; done) | (simp [*]; done)), H', ⟨by have := HJ4.out; first | omega | exact Nat.le_refl _⟩, ⟨by (with_reducible repeat (first | refine blk_drewN ?_ _ | refine blk_drew ?_ | refine blk_alloc ?_ _)); exact BK365.out⟩, ⟨by (with_reducible repeat (first | refine blk_drewN ?_ _ | refine blk_drew ?_ | refine blk_alloc ?_ _)); exact BK366.out⟩, ⟨by (with_reducible repeat (first | refine blk_drewN ?_ _ | refine blk_drew ?_ | refine blk_alloc ?_ _)); exact BK367.out⟩, ⟨by repeat (first | (with_reducible first | exact HB.out | apply below_alloc | apply pw_below_drewN | apply below_drew1 | refine below_set ?_ GE365.out | refine below_set ?_ GE366.out | refine below_set ?_ GE367.out) | exact HB.out)⟩⟩
          · replace c38 := Bool.eq_false_iff.mpr c38
            subst c38
            have H1 : (banksmanlaw10_SpanOn.j1 kj4 t368 true a0_0 l0_1 l0_2 a0_3 a1_0 l1_1 l1_2 a1_3 a2_0 l2_1 l2_2 a2_3) = some r := by rw [if_neg (show ¬ (false = true) by decide)] at H; exact H
            clear H
            have H := H1
            clear H1
            have H' := Aside0.mk H
            clear H
            have hnb63 := NB365_366.out
            have hnc63 := NB366_365.out
            have hnb64 := NB365_367.out
            have hnc64 := NB367_365.out
            have hcz65_0 : wc.cell? ⟨gb365, 0, none⟩ = some (.int .i64 a0_0) := (blk_cell BK365.out 0).trans rfl
            have hcz65_1 : wc.cell? ⟨gb365, 1, none⟩ = some (.slice A0_1 l0_1.length c0_1) := (blk_cell BK365.out 1).trans rfl
            have hcz65_2 : wc.cell? ⟨gb365, 2, none⟩ = some (.slice A0_2 l0_2.length c0_2) := (blk_cell BK365.out 2).trans rfl
            have hcz65_3 : wc.cell? ⟨gb365, 3, none⟩ = some (.bool a0_3) := (blk_cell BK365.out 3).trans rfl
            have hfz65_0 := blk_frozen BK365.out 0
            have hfz65_1 := blk_frozen BK365.out 1
            have hfz65_2 := blk_frozen BK365.out 2
            have hfz65_3 := blk_frozen BK365.out 3
            have hnb66 := NB366_367.out
            have hnc66 := NB367_366.out
            have hcz67_0 : wc.cell? ⟨gb366, 0, none⟩ = some (.int .i64 a1_0) := (blk_cell BK366.out 0).trans rfl
            have hcz67_1 : wc.cell? ⟨gb366, 1, none⟩ = some (.slice A1_1 l1_1.length c1_1) := (blk_cell BK366.out 1).trans rfl
            have hcz67_2 : wc.cell? ⟨gb366, 2, none⟩ = some (.slice A1_2 l1_2.length c1_2) := (blk_cell BK366.out 2).trans rfl
            have hcz67_3 : wc.cell? ⟨gb366, 3, none⟩ = some (.bool a1_3) := (blk_cell BK366.out 3).trans rfl
            have hfz67_0 := blk_frozen BK366.out 0
            have hfz67_1 := blk_frozen BK366.out 1
            have hfz67_2 := blk_frozen BK366.out 2
            have hfz67_3 := blk_frozen BK366.out 3
            go_wp2_with (first | ((with_reducible refine gate_callee (f := 22) rfl ?_); refine goesL_ (some 29) rfl rfl Try.func22 (by kernel_rfl) rfl #[.agg #[.int .i64 a0_0, .slice A0_1 l0_1.length c0_1, .slice A0_2 l0_2.length c0_2, .bool a0_3], .agg #[.int .i64 a1_0, .slice A1_1 l1_1.length c1_1, .slice A1_2 l1_2.length c1_2, .bool a1_3]] rfl (by (try simp only [List.map_toArray, List.map_cons, List.map_nil]); first | done | rfl | (simp only [List.length_drop, List.length_take]; rfl)) ?_; (with_reducible refine (span_Covers.calls a0_0 _ _ l0_1 _ _ l0_2 a0_3 a1_0 _ _ l1_1 _ _ l1_2 a1_3 false _ ?side1 ?side2 ?side3 ?side4 ?side5 ?side6 ?side7 ?side8 A37.out).mono ?_); (case side1 => repeat (first | exact (Kd.C_below HR0_1.out HB.out) | (with_reducible refine Kd.C_alloc ?_ _) | (with_reducible refine Kd.C_drewN ?_ _) | (with_reducible refine Kd.C_drew ?_))); (case side2 => exact HC0_1.out); (case side3 => repeat (first | exact (Kd.C_below HR0_2.out HB.out) | (with_reducible refine Kd.C_alloc ?_ _) | (with_reducible refine Kd.C_drewN ?_ _) | (with_reducible refine Kd.C_drew ?_))); (case side4 => exact HC0_2.out); (case side5 => repeat (first | exact (Kd.C_below HR1_1.out HB.out) | (with_reducible refine Kd.C_alloc ?_ _) | (with_reducible refine Kd.C_drewN ?_ _) | (with_reducible refine Kd.C_drew ?_))); (case side6 => exact HC1_1.out); (case side7 => repeat (first | exact (Kd.C_below HR1_2.out HB.out) | (with_reducible refine Kd.C_alloc ?_ _) | (with_reducible refine Kd.C_drewN ?_ _) | (with_reducible refine Kd.C_drew ?_))); (case side8 => exact HC1_2.out); rintro e w68 ⟨rfl, hb⟩; refine ⟨_, rfl, ?_⟩; have n0_ := Aside0.mk (blk_below (g := gb365) (o := .cells #[.int .i64 a0_0, .slice A0_1 l0_1.length c0_1, .slice A0_2 l0_2.length c0_2, .bool a0_3] 24 (0, 0)) (by (with_reducible repeat (first | refine blk_drewN ?_ _ | refine blk_drew ?_ | refine blk_alloc ?_ _)); exact BK365.out) hb); have n1_ := Aside0.mk (blk_below (g := gb366) (o := .cells #[.int .i64 a1_0, .slice A1_1 l1_1.length c1_1, .slice A1_2 l1_2.length c1_2, .bool a1_3] 24 (0, 0)) (by (with_reducible repeat (first | refine blk_drewN ?_ _ | refine blk_drew ?_ | refine blk_alloc ?_ _)); exact BK366.out) hb); have n2_ := Aside0.mk (blk_below (g := gb367) (o := .cells #[.int .i64 a2_0, .slice A2_1 l2_1.length c2_1, .slice A2_2 l2_2.length c2_2, .bool a2_3] 24 (0, 0)) (by (with_reducible repeat (first | refine blk_drewN ?_ _ | refine blk_drew ?_ | refine blk_alloc ?_ _)); exact BK367.out) hb); have n3_ := Aside0.mk (below_step (by repeat (first | (with_reducible first | exact HB.out | apply below_alloc | apply pw_below_drewN | apply below_drew1 | refine below_set ?_ GE365.out | refine below_set ?_ GE366.out | refine below_set ?_ GE367.out) | exact HB.out)) hb); clear BK365; clear BK366; clear BK367; clear HB; have BK365 := n0_; have BK366 := n1_; have BK367 := n2_; have HB := n3_; clear n0_ n1_ n2_ n3_; (try clear hb); (try clear hb2); (try clear hk); (try clear hi)))
            go_meet
            case rel => exact ⟨_, (true), (by first | rfl | (simp; done) | (simp [*]; done)), H', ⟨by have := HJ4.out; first | omega | exact Nat.le_refl _⟩, ⟨by (with_reducible repeat (first | refine blk_drewN ?_ _ | refine blk_drew ?_ | refine blk_alloc ?_ _)); exact BK365.out⟩, ⟨by (with_reducible repeat (first | refine blk_drewN ?_ _ | refine blk_drew ?_ | refine blk_alloc ?_ _)); exact BK366.out⟩, ⟨by (with_reducible repeat (first | refine blk_drewN ?_ _ | refine blk_drew ?_ | refine blk_alloc ?_ _)); exact BK367.out⟩, ⟨by repeat (first | (with_reducible first | exact HB.out | apply below_alloc | apply pw_below_drewN | apply below_drew1 | refine below_set ?_ GE365.out | refine below_set ?_ GE366.out | refine below_set ?_ GE367.out) | exact HB.out)⟩⟩
        case rest =>
          clear HC36
          try clear c1
          try clear c2
          try clear p2
          try clear c3
          try clear c4
          try clear c5
          try clear c6
          try clear c7
          try clear c8
          try clear c9
          try clear c11
          try clear c13
          try clear c15
          try clear c16
          try clear c19
          try clear c22
          try clear c24
          try clear c25
          try clear c28
          try clear c31
          try clear c32
          try clear c35
          try clear c38
          try clear c40
          try clear c42
          try clear c43
          try clear c45
          try clear c54
          try clear c55
          try clear c57
          try clear c63
          try clear c64
          try clear c66
          try clear hcz17_0
          try clear hcz17_1
          try clear hcz17_2
          try clear hcz17_3
          try clear hcz20_0
          try clear hcz20_1
          try clear hcz20_2
          try clear hcz20_3
          try clear hcz22_0
          try clear hcz22_1
          try clear hcz22_2
          try clear hcz22_3
          try clear hcz26_0
          try clear hcz26_1
          try clear hcz26_2
          try clear hcz26_3
          try clear hcz29_0
          try clear hcz29_1
          try clear hcz29_2
          try clear hcz29_3
          try clear hcz33_0
          try clear hcz33_1
          try clear hcz33_2
          try clear hcz33_3
          try clear hcz44_0
          try clear hcz44_1
          try clear hcz44_2
          try clear hcz44_3
          try clear hcz46_0
          try clear hcz46_1
          try clear hcz46_2
          try clear hcz46_3
          try clear hcz48_0
          try clear hcz48_1
          try clear hcz48_2
          try clear hcz48_3
          try clear hcz49_0
          try clear hcz49_1
          try clear hcz49_2
          try clear hcz49_3
          try clear hcz51_0
          try clear hcz51_1
          try clear hcz51_2
          try clear hcz51_3
          try clear hcz52_0
          try clear hcz52_1
          try clear hcz52_2
          try clear hcz52_3
          try clear hcz56_0
          try clear hcz56_1
          try clear hcz56_2
          try clear hcz56_3
          try clear hcz58_0
          try clear hcz58_1
          try clear hcz58_2
          try clear hcz58_3
          try clear hcz60_0
          try clear hcz60_1
          try clear hcz60_2
          try clear hcz60_3
          try clear hcz61_0
          try clear hcz61_1
          try clear hcz61_2
          try clear hcz61_3
          try clear hcz65_0
          try clear hcz65_1
          try clear hcz65_2
          try clear hcz65_3
          try clear hcz67_0
          try clear hcz67_1
          try clear hcz67_2
          try clear hcz67_3
          try clear hfz17_0
          try clear hfz17_1
          try clear hfz17_2
          try clear hfz17_3
          try clear hfz20_0
          try clear hfz20_1
          try clear hfz20_2
          try clear hfz20_3
          try clear hfz22_0
          try clear hfz22_1
          try clear hfz22_2
          try clear hfz22_3
          try clear hfz26_0
          try clear hfz26_1
          try clear hfz26_2
          try clear hfz26_3
          try clear hfz29_0
          try clear hfz29_1
          try clear hfz29_2
          try clear hfz29_3
          try clear hfz33_0
          try clear hfz33_1
          try clear hfz33_2
          try clear hfz33_3
          try clear hfz44_0
          try clear hfz44_1
          try clear hfz44_2
          try clear hfz44_3
          try clear hfz46_0
          try clear hfz46_1
          try clear hfz46_2
          try clear hfz46_3
          try clear hfz48_0
          try clear hfz48_1
          try clear hfz48_2
          try clear hfz48_3
          try clear hfz49_0
          try clear hfz49_1
          try clear hfz49_2
          try clear hfz49_3
          try clear hfz51_0
          try clear hfz51_1
          try clear hfz51_2
          try clear hfz51_3
          try clear hfz52_0
          try clear hfz52_1
          try clear hfz52_2
          try clear hfz52_3
          try clear hfz56_0
          try clear hfz56_1
          try clear hfz56_2
          try clear hfz56_3
          try clear hfz58_0
          try clear hfz58_1
          try clear hfz58_2
          try clear hfz58_3
          try clear hfz60_0
          try clear hfz60_1
          try clear hfz60_2
          try clear hfz60_3
          try clear hfz61_0
          try clear hfz61_1
          try clear hfz61_2
          try clear hfz61_3
          try clear hfz65_0
          try clear hfz65_1
          try clear hfz65_2
          try clear hfz65_3
          try clear hfz67_0
          try clear hfz67_1
          try clear hfz67_2
          try clear hfz67_3
          try clear p2
          obtain ⟨kq, x8_35, rfl, HA, HJ35, BK365, BK366, BK367, HB⟩ := hcut
          cases kq with
          | zero => exact absurd HA.out (by simp [banksmanlaw10_SpanOn.j1])
          | succ kj35 =>
            have H := HA.out
            clear HA
            simp only [banksmanlaw10_SpanOn.j1] at H
            have HC69 := Aside0.mk H
            clear H
            go_upto_region 5 with (fail)
            go_cut [9] (fun v9 wc => ∃ (kq : Nat) (x9_68 : Bool), v9 = .bool x9_68 ∧ Aside0 (banksmanlaw10_SpanOn.j2 kq t368 x8_35 x9_68 a0_0 l0_1 l0_2 a0_3 a1_0 l1_1 l1_2 a1_3 = some r) ∧ Aside0 (kq ≤ kj35) ∧ Aside0 (wc.heap[gb365]? = some (.cells #[.int .i64 a0_0, (.slice A0_1 l0_1.length c0_1), (.slice A0_2 l0_2.length c0_2), .bool a0_3] 24 (0, 0))) ∧ Aside0 (wc.heap[gb366]? = some (.cells #[.int .i64 a1_0, (.slice A1_1 l1_1.length c1_1), (.slice A1_2 l1_2.length c1_2), .bool a1_3] 24 (0, 0))) ∧ Aside0 (wc.heap[gb367]? = some (.cells #[.int .i64 a2_0, (.slice A2_1 l2_1.length c2_1), (.slice A2_2 l2_2.length c2_2), .bool a2_3] 24 (0, 0))) ∧ Aside0 (Below w.heap.size w wc))
            case first =>
              have H := HC69.out
              clear HC69
              replace H := Option.bind_eq_some_iff.mp H
              obtain ⟨t375, A700, H⟩ := H
              replace H : (if t375 = true then ((span_Meets.f a1_0 l1_1 l1_2 a1_3 a2_0 l2_1 l2_2 a2_3).bind fun t376 => (if t376 = true then ((span_Meets.f a0_0 l0_1 l0_2 a0_3 a2_0 l2_1 l2_2 a2_3).bind fun t377 => (banksmanlaw10_SpanOn.j2 kj35 t368 x8_35 t377 a0_0 l0_1 l0_2 a0_3 a1_0 l1_1 l1_2 a1_3)) else (banksmanlaw10_SpanOn.j2 kj35 t368 x8_35 true a0_0 l0_1 l0_2 a0_3 a1_0 l1_1 l1_2 a1_3))) else (banksmanlaw10_SpanOn.j2 kj35 t368 x8_35 true a0_0 l0_1 l0_2 a0_3 a1_0 l1_1 l1_2 a1_3)) = some r := H
              have A70 := Aside0.mk A700
              clear A700
              by_cases c71 : t375 = true
              · subst c71
                have H1 : ((span_Meets.f a1_0 l1_1 l1_2 a1_3 a2_0 l2_1 l2_2 a2_3).bind fun t376 => (if t376 = true then ((span_Meets.f a0_0 l0_1 l0_2 a0_3 a2_0 l2_1 l2_2 a2_3).bind fun t377 => (banksmanlaw10_SpanOn.j2 kj35 t368 x8_35 t377 a0_0 l0_1 l0_2 a0_3 a1_0 l1_1 l1_2 a1_3)) else (banksmanlaw10_SpanOn.j2 kj35 t368 x8_35 true a0_0 l0_1 l0_2 a0_3 a1_0 l1_1 l1_2 a1_3))) = some r := by rw [if_pos rfl] at H; exact H
                clear H
                have H := H1
                clear H1
                replace H := Option.bind_eq_some_iff.mp H
                obtain ⟨t376, A720, H⟩ := H
                replace H : (if t376 = true then ((span_Meets.f a0_0 l0_1 l0_2 a0_3 a2_0 l2_1 l2_2 a2_3).bind fun t377 => (banksmanlaw10_SpanOn.j2 kj35 t368 x8_35 t377 a0_0 l0_1 l0_2 a0_3 a1_0 l1_1 l1_2 a1_3)) else (banksmanlaw10_SpanOn.j2 kj35 t368 x8_35 true a0_0 l0_1 l0_2 a0_3 a1_0 l1_1 l1_2 a1_3)) = some r := H
                have A72 := Aside0.mk A720
                clear A720
                by_cases c73 : t376 = true
                · subst c73
                  have H1 : ((span_Meets.f a0_0 l0_1 l0_2 a0_3 a2_0 l2_1 l2_2 a2_3).bind fun t377 => (banksmanlaw10_SpanOn.j2 kj35 t368 x8_35 t377 a0_0 l0_1 l0_2 a0_3 a1_0 l1_1 l1_2 a1_3)) = some r := by rw [if_pos rfl] at H; exact H
                  clear H
                  have H := H1
                  clear H1
                  replace H := Option.bind_eq_some_iff.mp H
                  obtain ⟨t377, A740, H⟩ := H
                  replace H : (banksmanlaw10_SpanOn.j2 kj35 t368 x8_35 t377 a0_0 l0_1 l0_2 a0_3 a1_0 l1_1 l1_2 a1_3) = some r := H
                  have A74 := Aside0.mk A740
                  clear A740
                  have H' := Aside0.mk H
                  clear H
                  have hnb75 := NB365_366.out
                  have hnc75 := NB366_365.out
                  have hnb76 := NB365_367.out
                  have hnc76 := NB367_365.out
                  have hcz77_0 : wc.cell? ⟨gb365, 0, none⟩ = some (.int .i64 a0_0) := (blk_cell BK365.out 0).trans rfl
                  have hcz77_1 : wc.cell? ⟨gb365, 1, none⟩ = some (.slice A0_1 l0_1.length c0_1) := (blk_cell BK365.out 1).trans rfl
                  have hcz77_2 : wc.cell? ⟨gb365, 2, none⟩ = some (.slice A0_2 l0_2.length c0_2) := (blk_cell BK365.out 2).trans rfl
                  have hcz77_3 : wc.cell? ⟨gb365, 3, none⟩ = some (.bool a0_3) := (blk_cell BK365.out 3).trans rfl
                  have hfz77_0 := blk_frozen BK365.out 0
                  have hfz77_1 := blk_frozen BK365.out 1
                  have hfz77_2 := blk_frozen BK365.out 2
                  have hfz77_3 := blk_frozen BK365.out 3
                  have hnb78 := NB366_367.out
                  have hnc78 := NB367_366.out
                  have hcz79_0 : wc.cell? ⟨gb366, 0, none⟩ = some (.int .i64 a1_0) := (blk_cell BK366.out 0).trans rfl
                  have hcz79_1 : wc.cell? ⟨gb366, 1, none⟩ = some (.slice A1_1 l1_1.length c1_1) := (blk_cell BK366.out 1).trans rfl
                  have hcz79_2 : wc.cell? ⟨gb366, 2, none⟩ = some (.slice A1_2 l1_2.length c1_2) := (blk_cell BK366.out 2).trans rfl
                  have hcz79_3 : wc.cell? ⟨gb366, 3, none⟩ = some (.bool a1_3) := (blk_cell BK366.out 3).trans rfl
                  have hfz79_0 := blk_frozen BK366.out 0
                  have hfz79_1 := blk_frozen BK366.out 1
                  have hfz79_2 := blk_frozen BK366.out 2
                  have hfz79_3 := blk_frozen BK366.out 3
                  go_wp2_with (first | ((with_reducible refine gate_callee (f := 22) rfl ?_); refine goesL_ (some 44) rfl rfl Try.func22 (by kernel_rfl) rfl #[.agg #[.int .i64 a0_0, .slice A0_1 l0_1.length c0_1, .slice A0_2 l0_2.length c0_2, .bool a0_3], .agg #[.int .i64 a1_0, .slice A1_1 l1_1.length c1_1, .slice A1_2 l1_2.length c1_2, .bool a1_3]] rfl (by (try simp only [List.map_toArray, List.map_cons, List.map_nil]); first | done | rfl | (simp only [List.length_drop, List.length_take]; rfl)) ?_; (with_reducible refine (span_Covers.calls a0_0 _ _ l0_1 _ _ l0_2 a0_3 a1_0 _ _ l1_1 _ _ l1_2 a1_3 true _ ?side1 ?side2 ?side3 ?side4 ?side5 ?side6 ?side7 ?side8 A70.out).mono ?_); (case side1 => repeat (first | exact (Kd.C_below HR0_1.out HB.out) | (with_reducible refine Kd.C_alloc ?_ _) | (with_reducible refine Kd.C_drewN ?_ _) | (with_reducible refine Kd.C_drew ?_))); (case side2 => exact HC0_1.out); (case side3 => repeat (first | exact (Kd.C_below HR0_2.out HB.out) | (with_reducible refine Kd.C_alloc ?_ _) | (with_reducible refine Kd.C_drewN ?_ _) | (with_reducible refine Kd.C_drew ?_))); (case side4 => exact HC0_2.out); (case side5 => repeat (first | exact (Kd.C_below HR1_1.out HB.out) | (with_reducible refine Kd.C_alloc ?_ _) | (with_reducible refine Kd.C_drewN ?_ _) | (with_reducible refine Kd.C_drew ?_))); (case side6 => exact HC1_1.out); (case side7 => repeat (first | exact (Kd.C_below HR1_2.out HB.out) | (with_reducible refine Kd.C_alloc ?_ _) | (with_reducible refine Kd.C_drewN ?_ _) | (with_reducible refine Kd.C_drew ?_))); (case side8 => exact HC1_2.out); rintro e w80 ⟨rfl, hb⟩; refine ⟨_, rfl, ?_⟩; have n0_ := Aside0.mk (blk_below (g := gb365) (o := .cells #[.int .i64 a0_0, .slice A0_1 l0_1.length c0_1, .slice A0_2 l0_2.length c0_2, .bool a0_3] 24 (0, 0)) (by (with_reducible repeat (first | refine blk_drewN ?_ _ | refine blk_drew ?_ | refine blk_alloc ?_ _)); exact BK365.out) hb); have n1_ := Aside0.mk (blk_below (g := gb366) (o := .cells #[.int .i64 a1_0, .slice A1_1 l1_1.length c1_1, .slice A1_2 l1_2.length c1_2, .bool a1_3] 24 (0, 0)) (by (with_reducible repeat (first | refine blk_drewN ?_ _ | refine blk_drew ?_ | refine blk_alloc ?_ _)); exact BK366.out) hb); have n2_ := Aside0.mk (blk_below (g := gb367) (o := .cells #[.int .i64 a2_0, .slice A2_1 l2_1.length c2_1, .slice A2_2 l2_2.length c2_2, .bool a2_3] 24 (0, 0)) (by (with_reducible repeat (first | refine blk_drewN ?_ _ | refine blk_drew ?_ | refine blk_alloc ?_ _)); exact BK367.out) hb); have n3_ := Aside0.mk (below_step (by repeat (first | (with_reducible first | exact HB.out | apply below_alloc | apply pw_below_drewN | apply below_drew1 | refine below_set ?_ GE365.out | refine below_set ?_ GE366.out | refine below_set ?_ GE367.out) | exact HB.out)) hb); clear BK365; clear BK366; clear BK367; clear HB; have BK365 := n0_; have BK366 := n1_; have BK367 := n2_; have HB := n3_; clear n0_ n1_ n2_ n3_; (try clear hb); (try clear hb2); (try clear hk); (try clear hi); have hcz81_0 : w80.cell? ⟨gb366, 0, none⟩ = some (.int .i64 a1_0) := (blk_cell BK366.out 0).trans rfl; have hcz81_1 : w80.cell? ⟨gb366, 1, none⟩ = some (.slice A1_1 l1_1.length c1_1) := (blk_cell BK366.out 1).trans rfl; have hcz81_2 : w80.cell? ⟨gb366, 2, none⟩ = some (.slice A1_2 l1_2.length c1_2) := (blk_cell BK366.out 2).trans rfl; have hcz81_3 : w80.cell? ⟨gb366, 3, none⟩ = some (.bool a1_3) := (blk_cell BK366.out 3).trans rfl; have hfz81_0 := blk_frozen BK366.out 0; have hfz81_1 := blk_frozen BK366.out 1; have hfz81_2 := blk_frozen BK366.out 2; have hfz81_3 := blk_frozen BK366.out 3; have hcz82_0 : w80.cell? ⟨gb367, 0, none⟩ = some (.int .i64 a2_0) := (blk_cell BK367.out 0).trans rfl; have hcz82_1 : w80.cell? ⟨gb367, 1, none⟩ = some (.slice A2_1 l2_1.length c2_1) := (blk_cell BK367.out 1).trans rfl; have hcz82_2 : w80.cell? ⟨gb367, 2, none⟩ = some (.slice A2_2 l2_2.length c2_2) := (blk_cell BK367.out 2).trans rfl; have hcz82_3 : w80.cell? ⟨gb367, 3, none⟩ = some (.bool a2_3) := (blk_cell BK367.out 3).trans rfl; have hfz82_0 := blk_frozen BK367.out 0; have hfz82_1 := blk_frozen BK367.out 1; have hfz82_2 := blk_frozen BK367.out 2; have hfz82_3 := blk_frozen BK367.out 3) | (go_at_call 20; (with_reducible refine (span_Meets.calls a1_0 _ _ l1_1 _ _ l1_2 a1_3 a2_0 _ _ l2_1 _ _ l2_2 a2_3 true _ ?side1 ?side2 ?side3 ?side4 ?side5 ?side6 ?side7 ?side8 A72.out).mono ?_); (case side1 => repeat (first | exact (Kd.C_below HR1_1.out HB.out) | (with_reducible refine Kd.C_alloc ?_ _) | (with_reducible refine Kd.C_drewN ?_ _) | (with_reducible refine Kd.C_drew ?_))); (case side2 => exact HC1_1.out); (case side3 => repeat (first | exact (Kd.C_below HR1_2.out HB.out) | (with_reducible refine Kd.C_alloc ?_ _) | (with_reducible refine Kd.C_drewN ?_ _) | (with_reducible refine Kd.C_drew ?_))); (case side4 => exact HC1_2.out); (case side5 => repeat (first | exact (Kd.C_below HR2_1.out HB.out) | (with_reducible refine Kd.C_alloc ?_ _) | (with_reducible refine Kd.C_drewN ?_ _) | (with_reducible refine Kd.C_drew ?_))); (case side6 => exact HC2_1.out); (case side7 => repeat (first | exact (Kd.C_below HR2_2.out HB.out) | (with_reducible refine Kd.C_alloc ?_ _) | (with_reducible refine Kd.C_drewN ?_ _) | (with_reducible refine Kd.C_drew ?_))); (case side8 => exact HC2_2.out); rintro e w83 ⟨rfl, hb⟩; have n0_ := Aside0.mk (blk_below (g := gb365) (o := .cells #[.int .i64 a0_0, .slice A0_1 l0_1.length c0_1, .slice A0_2 l0_2.length c0_2, .bool a0_3] 24 (0, 0)) (by (with_reducible repeat (first | refine blk_drewN ?_ _ | refine blk_drew ?_ | refine blk_alloc ?_ _)); exact BK365.out) hb); have n1_ := Aside0.mk (blk_below (g := gb366) (o := .cells #[.int .i64 a1_0, .slice A1_1 l1_1.length c1_1, .slice A1_2 l1_2.length c1_2, .bool a1_3] 24 (0, 0)) (by (with_reducible repeat (first | refine blk_drewN ?_ _ | refine blk_drew ?_ | refine blk_alloc ?_ _)); exact BK366.out) hb); have n2_ := Aside0.mk (blk_below (g := gb367) (o := .cells #[.int .i64 a2_0, .slice A2_1 l2_1.length c2_1, .slice A2_2 l2_2.length c2_2, .bool a2_3] 24 (0, 0)) (by (with_reducible repeat (first | refine blk_drewN ?_ _ | refine blk_drew ?_ | refine blk_alloc ?_ _)); exact BK367.out) hb); have n3_ := Aside0.mk (below_step (by repeat (first | (with_reducible first | exact HB.out | apply below_alloc | apply pw_below_drewN | apply below_drew1 | refine below_set ?_ GE365.out | refine below_set ?_ GE366.out | refine below_set ?_ GE367.out) | exact HB.out)) hb); clear BK365; clear BK366; clear BK367; clear HB; have BK365 := n0_; have BK366 := n1_; have BK367 := n2_; have HB := n3_; clear n0_ n1_ n2_ n3_; (try clear hb); (try clear hb2); (try clear hk); (try clear hi); have hcz84_0 : w83.cell? ⟨gb365, 0, none⟩ = some (.int .i64 a0_0) := (blk_cell BK365.out 0).trans rfl; have hcz84_1 : w83.cell? ⟨gb365, 1, none⟩ = some (.slice A0_1 l0_1.length c0_1) := (blk_cell BK365.out 1).trans rfl; have hcz84_2 : w83.cell? ⟨gb365, 2, none⟩ = some (.slice A0_2 l0_2.length c0_2) := (blk_cell BK365.out 2).trans rfl; have hcz84_3 : w83.cell? ⟨gb365, 3, none⟩ = some (.bool a0_3) := (blk_cell BK365.out 3).trans rfl; have hfz84_0 := blk_frozen BK365.out 0; have hfz84_1 := blk_frozen BK365.out 1; have hfz84_2 := blk_frozen BK365.out 2; have hfz84_3 := blk_frozen BK365.out 3; have hcz85_0 : w83.cell? ⟨gb367, 0, none⟩ = some (.int .i64 a2_0) := (blk_cell BK367.out 0).trans rfl; have hcz85_1 : w83.cell? ⟨gb367, 1, none⟩ = some (.slice A2_1 l2_1.length c2_1) := (blk_cell BK367.out 1).trans rfl; have hcz85_2 : w83.cell? ⟨gb367, 2, none⟩ = some (.slice A2_2 l2_2.length c2_2) := (blk_cell BK367.out 2).trans rfl; have hcz85_3 : w83.cell? ⟨gb367, 3, none⟩ = some (.bool a2_3) := (blk_cell BK367.out 3).trans rfl; have hfz85_0 := blk_frozen BK367.out 0; have hfz85_1 := blk_frozen BK367.out 1; have hfz85_2 := blk_frozen BK367.out 2; have hfz85_3 := blk_frozen BK367.out 3) | (go_at_call 20; (with_reducible refine (span_Meets.calls a0_0 _ _ l0_1 _ _ l0_2 a0_3 a2_0 _ _ l2_1 _ _ l2_2 a2_3 t377 _ ?side1 ?side2 ?side3 ?side4 ?side5 ?side6 ?side7 ?side8 A74.out).mono ?_); (case side1 => repeat (first | exact (Kd.C_below HR0_1.out HB.out) | (with_reducible refine Kd.C_alloc ?_ _) | (with_reducible refine Kd.C_drewN ?_ _) | (with_reducible refine Kd.C_drew ?_))); (case side2 => exact HC0_1.out); (case side3 => repeat (first | exact (Kd.C_below HR0_2.out HB.out) | (with_reducible refine Kd.C_alloc ?_ _) | (with_reducible refine Kd.C_drewN ?_ _) | (with_reducible refine Kd.C_drew ?_))); (case side4 => exact HC0_2.out); (case side5 => repeat (first | exact (Kd.C_below HR2_1.out HB.out) | (with_reducible refine Kd.C_alloc ?_ _) | (with_reducible refine Kd.C_drewN ?_ _) | (with_reducible refine Kd.C_drew ?_))); (case side6 => exact HC2_1.out); (case side7 => repeat (first | exact (Kd.C_below HR2_2.out HB.out) | (with_reducible refine Kd.C_alloc ?_ _) | (with_reducible refine Kd.C_drewN ?_ _) | (with_reducible refine Kd.C_drew ?_))); (case side8 => exact HC2_2.out); rintro e w86 ⟨rfl, hb⟩; have n0_ := Aside0.mk (blk_below (g := gb365) (o := .cells #[.int .i64 a0_0, .slice A0_1 l0_1.length c0_1, .slice A0_2 l0_2.length c0_2, .bool a0_3] 24 (0, 0)) (by (with_reducible repeat (first | refine blk_drewN ?_ _ | refine blk_drew ?_ | refine blk_alloc ?_ _)); exact BK365.out) hb); have n1_ := Aside0.mk (blk_below (g := gb366) (o := .cells #[.int .i64 a1_0, .slice A1_1 l1_1.length c1_1, .slice A1_2 l1_2.length c1_2, .bool a1_3] 24 (0, 0)) (by (with_reducible repeat (first | refine blk_drewN ?_ _ | refine blk_drew ?_ | refine blk_alloc ?_ _)); exact BK366.out) hb); have n2_ := Aside0.mk (blk_below (g := gb367) (o := .cells #[.int .i64 a2_0, .slice A2_1 l2_1.length c2_1, .slice A2_2 l2_2.length c2_2, .bool a2_3] 24 (0, 0)) (by (with_reducible repeat (first | refine blk_drewN ?_ _ | refine blk_drew ?_ | refine blk_alloc ?_ _)); exact BK367.out) hb); have n3_ := Aside0.mk (below_step (by repeat (first | (with_reducible first | exact HB.out | apply below_alloc | apply pw_below_drewN | apply below_drew1 | refine below_set ?_ GE365.out | refine below_set ?_ GE366.out | refine below_set ?_ GE367.out) | exact HB.out)) hb); clear BK365; clear BK366; clear BK367; clear HB; have BK365 := n0_; have BK366 := n1_; have BK367 := n2_; have HB := n3_; clear n0_ n1_ n2_ n3_; (try clear hb); (try clear hb2); (try clear hk); (try clear hi)))
                  go_meet
                  case rel => exact ⟨_, (t377), (by first | rfl | (simp; done) | (simp [*]; done)), H', ⟨by have := HJ4.out; have := HJ35.out; first | omega | exact Nat.le_refl _⟩, ⟨by (with_reducible repeat (first | refine blk_drewN ?_ _ | refine blk_drew ?_ | refine blk_alloc ?_ _)); exact BK365.out⟩, ⟨by (with_reducible repeat (first | refine blk_drewN ?_ _ | refine blk_drew ?_ | refine blk_alloc ?_ _)); exact BK366.out⟩, ⟨by (with_reducible repeat (first | refine blk_drewN ?_ _ | refine blk_drew ?_ | refine blk_alloc ?_ _)); exact BK367.out⟩, ⟨by repeat (first | (with_reducible first | exact HB.out | apply below_alloc | apply pw_below_drewN | apply below_drew1 | refine below_set ?_ GE365.out | refine below_set ?_ GE366.out | refine below_set ?_ GE367.out) | exact HB.out)⟩⟩
                · replace c73 := Bool.eq_false_iff.mpr c73
                  subst c73
                  have H1 : (banksmanlaw10_SpanOn.j2 kj35 t368 x8_35 true a0_0 l0_1 l0_2 a0_3 a1_0 l1_1 l1_2 a1_3) = some r := by rw [if_neg (show ¬ (false = true) by decide)] at H; exact H
                  clear H
                  have H := H1
                  clear H1
                  have H' := Aside0.mk H
                  clear H
                  have hnb87 := NB365_366.out
                  have hnc87 := NB366_365.out
                  have hnb88 := NB365_367.out
                  have hnc88 := NB367_365.out
                  have hcz89_0 : wc.cell? ⟨gb365, 0, none⟩ = some (.int .i64 a0_0) := (blk_cell BK365.out 0).trans rfl
                  have hcz89_1 : wc.cell? ⟨gb365, 1, none⟩ = some (.slice A0_1 l0_1.length c0_1) := (blk_cell BK365.out 1).trans rfl
                  have hcz89_2 : wc.cell? ⟨gb365, 2, none⟩ = some (.slice A0_2 l0_2.length c0_2) := (blk_cell BK365.out 2).trans rfl
                  have hcz89_3 : wc.cell? ⟨gb365, 3, none⟩ = some (.bool a0_3) := (blk_cell BK365.out 3).trans rfl
                  have hfz89_0 := blk_frozen BK365.out 0
                  have hfz89_1 := blk_frozen BK365.out 1
                  have hfz89_2 := blk_frozen BK365.out 2
                  have hfz89_3 := blk_frozen BK365.out 3
                  have hnb90 := NB366_367.out
                  have hnc90 := NB367_366.out
                  have hcz91_0 : wc.cell? ⟨gb366, 0, none⟩ = some (.int .i64 a1_0) := (blk_cell BK366.out 0).trans rfl
                  have hcz91_1 : wc.cell? ⟨gb366, 1, none⟩ = some (.slice A1_1 l1_1.length c1_1) := (blk_cell BK366.out 1).trans rfl
                  have hcz91_2 : wc.cell? ⟨gb366, 2, none⟩ = some (.slice A1_2 l1_2.length c1_2) := (blk_cell BK366.out 2).trans rfl
                  have hcz91_3 : wc.cell? ⟨gb366, 3, none⟩ = some (.bool a1_3) := (blk_cell BK366.out 3).trans rfl
                  have hfz91_0 := blk_frozen BK366.out 0
                  have hfz91_1 := blk_frozen BK366.out 1
                  have hfz91_2 := blk_frozen BK366.out 2
                  have hfz91_3 := blk_frozen BK366.out 3
                  go_wp2_with (first | ((with_reducible refine gate_callee (f := 22) rfl ?_); refine goesL_ (some 44) rfl rfl Try.func22 (by kernel_rfl) rfl #[.agg #[.int .i64 a0_0, .slice A0_1 l0_1.length c0_1, .slice A0_2 l0_2.length c0_2, .bool a0_3], .agg #[.int .i64 a1_0, .slice A1_1 l1_1.length c1_1, .slice A1_2 l1_2.length c1_2, .bool a1_3]] rfl (by (try simp only [List.map_toArray, List.map_cons, List.map_nil]); first | done | rfl | (simp only [List.length_drop, List.length_take]; rfl)) ?_; (with_reducible refine (span_Covers.calls a0_0 _ _ l0_1 _ _ l0_2 a0_3 a1_0 _ _ l1_1 _ _ l1_2 a1_3 true _ ?side1 ?side2 ?side3 ?side4 ?side5 ?side6 ?side7 ?side8 A70.out).mono ?_); (case side1 => repeat (first | exact (Kd.C_below HR0_1.out HB.out) | (with_reducible refine Kd.C_alloc ?_ _) | (with_reducible refine Kd.C_drewN ?_ _) | (with_reducible refine Kd.C_drew ?_))); (case side2 => exact HC0_1.out); (case side3 => repeat (first | exact (Kd.C_below HR0_2.out HB.out) | (with_reducible refine Kd.C_alloc ?_ _) | (with_reducible refine Kd.C_drewN ?_ _) | (with_reducible refine Kd.C_drew ?_))); (case side4 => exact HC0_2.out); (case side5 => repeat (first | exact (Kd.C_below HR1_1.out HB.out) | (with_reducible refine Kd.C_alloc ?_ _) | (with_reducible refine Kd.C_drewN ?_ _) | (with_reducible refine Kd.C_drew ?_))); (case side6 => exact HC1_1.out); (case side7 => repeat (first | exact (Kd.C_below HR1_2.out HB.out) | (with_reducible refine Kd.C_alloc ?_ _) | (with_reducible refine Kd.C_drewN ?_ _) | (with_reducible refine Kd.C_drew ?_))); (case side8 => exact HC1_2.out); rintro e w92 ⟨rfl, hb⟩; refine ⟨_, rfl, ?_⟩; have n0_ := Aside0.mk (blk_below (g := gb365) (o := .cells #[.int .i64 a0_0, .slice A0_1 l0_1.length c0_1, .slice A0_2 l0_2.length c0_2, .bool a0_3] 24 (0, 0)) (by (with_reducible repeat (first | refine blk_drewN ?_ _ | refine blk_drew ?_ | refine blk_alloc ?_ _)); exact BK365.out) hb); have n1_ := Aside0.mk (blk_below (g := gb366) (o := .cells #[.int .i64 a1_0, .slice A1_1 l1_1.length c1_1, .slice A1_2 l1_2.length c1_2, .bool a1_3] 24 (0, 0)) (by (with_reducible repeat (first | refine blk_drewN ?_ _ | refine blk_drew ?_ | refine blk_alloc ?_ _)); exact BK366.out) hb); have n2_ := Aside0.mk (blk_below (g := gb367) (o := .cells #[.int .i64 a2_0, .slice A2_1 l2_1.length c2_1, .slice A2_2 l2_2.length c2_2, .bool a2_3] 24 (0, 0)) (by (with_reducible repeat (first | refine blk_drewN ?_ _ | refine blk_drew ?_ | refine blk_alloc ?_ _)); exact BK367.out) hb); have n3_ := Aside0.mk (below_step (by repeat (first | (with_reducible first | exact HB.out | apply below_alloc | apply pw_below_drewN | apply below_drew1 | refine below_set ?_ GE365.out | refine below_set ?_ GE366.out | refine below_set ?_ GE367.out) | exact HB.out)) hb); clear BK365; clear BK366; clear BK367; clear HB; have BK365 := n0_; have BK366 := n1_; have BK367 := n2_; have HB := n3_; clear n0_ n1_ n2_ n3_; (try clear hb); (try clear hb2); (try clear hk); (try clear hi); have hcz93_0 : w92.cell? ⟨gb366, 0, none⟩ = some (.int .i64 a1_0) := (blk_cell BK366.out 0).trans rfl; have hcz93_1 : w92.cell? ⟨gb366, 1, none⟩ = some (.slice A1_1 l1_1.length c1_1) := (blk_cell BK366.out 1).trans rfl; have hcz93_2 : w92.cell? ⟨gb366, 2, none⟩ = some (.slice A1_2 l1_2.length c1_2) := (blk_cell BK366.out 2).trans rfl; have hcz93_3 : w92.cell? ⟨gb366, 3, none⟩ = some (.bool a1_3) := (blk_cell BK366.out 3).trans rfl; have hfz93_0 := blk_frozen BK366.out 0; have hfz93_1 := blk_frozen BK366.out 1; have hfz93_2 := blk_frozen BK366.out 2; have hfz93_3 := blk_frozen BK366.out 3; have hcz94_0 : w92.cell? ⟨gb367, 0, none⟩ = some (.int .i64 a2_0) := (blk_cell BK367.out 0).trans rfl; have hcz94_1 : w92.cell? ⟨gb367, 1, none⟩ = some (.slice A2_1 l2_1.length c2_1) := (blk_cell BK367.out 1).trans rfl; have hcz94_2 : w92.cell? ⟨gb367, 2, none⟩ = some (.slice A2_2 l2_2.length c2_2) := (blk_cell BK367.out 2).trans rfl; have hcz94_3 : w92.cell? ⟨gb367, 3, none⟩ = some (.bool a2_3) := (blk_cell BK367.out 3).trans rfl; have hfz94_0 := blk_frozen BK367.out 0; have hfz94_1 := blk_frozen BK367.out 1; have hfz94_2 := blk_frozen BK367.out 2; have hfz94_3 := blk_frozen BK367.out 3) | (go_at_call 20; (with_reducible refine (span_Meets.calls a1_0 _ _ l1_1 _ _ l1_2 a1_3 a2_0 _ _ l2_1 _ _ l2_2 a2_3 false _ ?side1 ?side2 ?side3 ?side4 ?side5 ?side6 ?side7 ?side8 A72.out).mono ?_); (case side1 => repeat (first | exact (Kd.C_below HR1_1.out HB.out) | (with_reducible refine Kd.C_alloc ?_ _) | (with_reducible refine Kd.C_drewN ?_ _) | (with_reducible refine Kd.C_drew ?_))); (case side2 => exact HC1_1.out); (case side3 => repeat (first | exact (Kd.C_below HR1_2.out HB.out) | (with_reducible refine Kd.C_alloc ?_ _) | (with_reducible refine Kd.C_drewN ?_ _) | (with_reducible refine Kd.C_drew ?_))); (case side4 => exact HC1_2.out); (case side5 => repeat (first | exact (Kd.C_below HR2_1.out HB.out) | (with_reducible refine Kd.C_alloc ?_ _) | (with_reducible refine Kd.C_drewN ?_ _) | (with_reducible refine Kd.C_drew ?_))); (case side6 => exact HC2_1.out); (case side7 => repeat (first | exact (Kd.C_below HR2_2.out HB.out) | (with_reducible refine Kd.C_alloc ?_ _) | (with_reducible refine Kd.C_drewN ?_ _) | (with_reducible refine Kd.C_drew ?_))); (case side8 => exact HC2_2.out); rintro e w95 ⟨rfl, hb⟩; have n0_ := Aside0.mk (blk_below (g := gb365) (o := .cells #[.int .i64 a0_0, .slice A0_1 l0_1.length c0_1, .slice A0_2 l0_2.length c0_2, .bool a0_3] 24 (0, 0)) (by (with_reducible repeat (first | refine blk_drewN ?_ _ | refine blk_drew ?_ | refine blk_alloc ?_ _)); exact BK365.out) hb); have n1_ := Aside0.mk (blk_below (g := gb366) (o := .cells #[.int .i64 a1_0, .slice A1_1 l1_1.length c1_1, .slice A1_2 l1_2.length c1_2, .bool a1_3] 24 (0, 0)) (by (with_reducible repeat (first | refine blk_drewN ?_ _ | refine blk_drew ?_ | refine blk_alloc ?_ _)); exact BK366.out) hb); have n2_ := Aside0.mk (blk_below (g := gb367) (o := .cells #[.int .i64 a2_0, .slice A2_1 l2_1.length c2_1, .slice A2_2 l2_2.length c2_2, .bool a2_3] 24 (0, 0)) (by (with_reducible repeat (first | refine blk_drewN ?_ _ | refine blk_drew ?_ | refine blk_alloc ?_ _)); exact BK367.out) hb); have n3_ := Aside0.mk (below_step (by repeat (first | (with_reducible first | exact HB.out | apply below_alloc | apply pw_below_drewN | apply below_drew1 | refine below_set ?_ GE365.out | refine below_set ?_ GE366.out | refine below_set ?_ GE367.out) | exact HB.out)) hb); clear BK365; clear BK366; clear BK367; clear HB; have BK365 := n0_; have BK366 := n1_; have BK367 := n2_; have HB := n3_; clear n0_ n1_ n2_ n3_; (try clear hb); (try clear hb2); (try clear hk); (try clear hi)))
                  go_meet
                  case rel => exact ⟨_, (true), (by first | rfl | (simp; done) | (simp [*]; done)), H', ⟨by have := HJ4.out; have := HJ35.out; first | omega | exact Nat.le_refl _⟩, ⟨by (with_reducible repeat (first | refine blk_drewN ?_ _ | refine blk_drew ?_ | refine blk_alloc ?_ _)); exact BK365.out⟩, ⟨by (with_reducible repeat (first | refine blk_drewN ?_ _ | refine blk_drew ?_ | refine blk_alloc ?_ _)); exact BK366.out⟩, ⟨by (with_reducible repeat (first | refine blk_drewN ?_ _ | refine blk_drew ?_ | refine blk_alloc ?_ _)); exact BK367.out⟩, ⟨by repeat (first | (with_reducible first | exact HB.out | apply below_alloc | apply pw_below_drewN | apply below_drew1 | refine below_set ?_ GE365.out | refine below_set ?_ GE366.out | refine below_set ?_ GE367.out) | exact HB.out)⟩⟩
              · replace c71 := Bool.eq_false_iff.mpr c71
                subst c71
                have H1 : (banksmanlaw10_SpanOn.j2 kj35 t368 x8_35 true a0_0 l0_1 l0_2 a0_3 a1_0 l1_1 l1_2 a1_3) = some r := by rw [if_neg (show ¬ (false = true) by decide)] at H; exact H
                clear H
                have H := H1
                clear H1
                have H' := Aside0.mk H
                clear H
                have hnb96 := NB365_366.out
                have hnc96 := NB366_365.out
                have hnb97 := NB365_367.out
                have hnc97 := NB367_365.out
                have hcz98_0 : wc.cell? ⟨gb365, 0, none⟩ = some (.int .i64 a0_0) := (blk_cell BK365.out 0).trans rfl
                have hcz98_1 : wc.cell? ⟨gb365, 1, none⟩ = some (.slice A0_1 l0_1.length c0_1) := (blk_cell BK365.out 1).trans rfl
                have hcz98_2 : wc.cell? ⟨gb365, 2, none⟩ = some (.slice A0_2 l0_2.length c0_2) := (blk_cell BK365.out 2).trans rfl
                have hcz98_3 : wc.cell? ⟨gb365, 3, none⟩ = some (.bool a0_3) := (blk_cell BK365.out 3).trans rfl
                have hfz98_0 := blk_frozen BK365.out 0
                have hfz98_1 := blk_frozen BK365.out 1
                have hfz98_2 := blk_frozen BK365.out 2
                have hfz98_3 := blk_frozen BK365.out 3
                have hnb99 := NB366_367.out
                have hnc99 := NB367_366.out
                have hcz100_0 : wc.cell? ⟨gb366, 0, none⟩ = some (.int .i64 a1_0) := (blk_cell BK366.out 0).trans rfl
                have hcz100_1 : wc.cell? ⟨gb366, 1, none⟩ = some (.slice A1_1 l1_1.length c1_1) := (blk_cell BK366.out 1).trans rfl
                have hcz100_2 : wc.cell? ⟨gb366, 2, none⟩ = some (.slice A1_2 l1_2.length c1_2) := (blk_cell BK366.out 2).trans rfl
                have hcz100_3 : wc.cell? ⟨gb366, 3, none⟩ = some (.bool a1_3) := (blk_cell BK366.out 3).trans rfl
                have hfz100_0 := blk_frozen BK366.out 0
                have hfz100_1 := blk_frozen BK366.out 1
                have hfz100_2 := blk_frozen BK366.out 2
                have hfz100_3 := blk_frozen BK366.out 3
                go_wp2_with (first | ((with_reducible refine gate_callee (f := 22) rfl ?_); refine goesL_ (some 44) rfl rfl Try.func22 (by kernel_rfl) rfl #[.agg #[.int .i64 a0_0, .slice A0_1 l0_1.length c0_1, .slice A0_2 l0_2.length c0_2, .bool a0_3], .agg #[.int .i64 a1_0, .slice A1_1 l1_1.length c1_1, .slice A1_2 l1_2.length c1_2, .bool a1_3]] rfl (by (try simp only [List.map_toArray, List.map_cons, List.map_nil]); first | done | rfl | (simp only [List.length_drop, List.length_take]; rfl)) ?_; (with_reducible refine (span_Covers.calls a0_0 _ _ l0_1 _ _ l0_2 a0_3 a1_0 _ _ l1_1 _ _ l1_2 a1_3 false _ ?side1 ?side2 ?side3 ?side4 ?side5 ?side6 ?side7 ?side8 A70.out).mono ?_); (case side1 => repeat (first | exact (Kd.C_below HR0_1.out HB.out) | (with_reducible refine Kd.C_alloc ?_ _) | (with_reducible refine Kd.C_drewN ?_ _) | (with_reducible refine Kd.C_drew ?_))); (case side2 => exact HC0_1.out); (case side3 => repeat (first | exact (Kd.C_below HR0_2.out HB.out) | (with_reducible refine Kd.C_alloc ?_ _) | (with_reducible refine Kd.C_drewN ?_ _) | (with_reducible refine Kd.C_drew ?_))); (case side4 => exact HC0_2.out); (case side5 => repeat (first | exact (Kd.C_below HR1_1.out HB.out) | (with_reducible refine Kd.C_alloc ?_ _) | (with_reducible refine Kd.C_drewN ?_ _) | (with_reducible refine Kd.C_drew ?_))); (case side6 => exact HC1_1.out); (case side7 => repeat (first | exact (Kd.C_below HR1_2.out HB.out) | (with_reducible refine Kd.C_alloc ?_ _) | (with_reducible refine Kd.C_drewN ?_ _) | (with_reducible refine Kd.C_drew ?_))); (case side8 => exact HC1_2.out); rintro e w101 ⟨rfl, hb⟩; refine ⟨_, rfl, ?_⟩; have n0_ := Aside0.mk (blk_below (g := gb365) (o := .cells #[.int .i64 a0_0, .slice A0_1 l0_1.length c0_1, .slice A0_2 l0_2.length c0_2, .bool a0_3] 24 (0, 0)) (by (with_reducible repeat (first | refine blk_drewN ?_ _ | refine blk_drew ?_ | refine blk_alloc ?_ _)); exact BK365.out) hb); have n1_ := Aside0.mk (blk_below (g := gb366) (o := .cells #[.int .i64 a1_0, .slice A1_1 l1_1.length c1_1, .slice A1_2 l1_2.length c1_2, .bool a1_3] 24 (0, 0)) (by (with_reducible repeat (first | refine blk_drewN ?_ _ | refine blk_drew ?_ | refine blk_alloc ?_ _)); exact BK366.out) hb); have n2_ := Aside0.mk (blk_below (g := gb367) (o := .cells #[.int .i64 a2_0, .slice A2_1 l2_1.length c2_1, .slice A2_2 l2_2.length c2_2, .bool a2_3] 24 (0, 0)) (by (with_reducible repeat (first | refine blk_drewN ?_ _ | refine blk_drew ?_ | refine blk_alloc ?_ _)); exact BK367.out) hb); have n3_ := Aside0.mk (below_step (by repeat (first | (with_reducible first | exact HB.out | apply below_alloc | apply pw_below_drewN | apply below_drew1 | refine below_set ?_ GE365.out | refine below_set ?_ GE366.out | refine below_set ?_ GE367.out) | exact HB.out)) hb); clear BK365; clear BK366; clear BK367; clear HB; have BK365 := n0_; have BK366 := n1_; have BK367 := n2_; have HB := n3_; clear n0_ n1_ n2_ n3_; (try clear hb); (try clear hb2); (try clear hk); (try clear hi)))
                go_meet
                case rel => exact ⟨_, (true), (by first | rfl | (simp; done) | (simp [*]; done)), H', ⟨by have := HJ4.out; have := HJ35.out; first | omega | exact Nat.le_refl _⟩, ⟨by (with_reducible repeat (first | refine blk_drewN ?_ _ | refine blk_drew ?_ | refine blk_alloc ?_ _)); exact BK365.out⟩, ⟨by (with_reducible repeat (first | refine blk_drewN ?_ _ | refine blk_drew ?_ | refine blk_alloc ?_ _)); exact BK366.out⟩, ⟨by (with_reducible repeat (first | refine blk_drewN ?_ _ | refine blk_drew ?_ | refine blk_alloc ?_ _)); exact BK367.out⟩, ⟨by repeat (first | (with_reducible first | exact HB.out | apply below_alloc | apply pw_below_drewN | apply below_drew1 | refine below_set ?_ GE365.out | refine below_set ?_ GE366.out | refine below_set ?_ GE367.out) | exact HB.out)⟩⟩
            case rest =>
              clear HC69
              try clear c1
              try clear c2
              try clear p2
              try clear c3
              try clear c4
              try clear c5
              try clear c6
              try clear c7
              try clear c8
              try clear c9
              try clear c11
              try clear c13
              try clear c15
              try clear c16
              try clear c19
              try clear c22
              try clear c24
              try clear c25
              try clear c28
              try clear c31
              try clear c32
              try clear c35
              try clear c38
              try clear c40
              try clear c42
              try clear c43
              try clear c45
              try clear c54
              try clear c55
              try clear c57
              try clear c63
              try clear c64
              try clear c66
              try clear c71
              try clear c73
              try clear c75
              try clear c76
              try clear c78
              try clear c87
              try clear c88
              try clear c90
              try clear c96
              try clear c97
              try clear c99
              try clear hcz100_0
              try clear hcz100_1
              try clear hcz100_2
              try clear hcz100_3
              try clear hcz17_0
              try clear hcz17_1
              try clear hcz17_2
              try clear hcz17_3
              try clear hcz20_0
              try clear hcz20_1
              try clear hcz20_2
              try clear hcz20_3
              try clear hcz22_0
              try clear hcz22_1
              try clear hcz22_2
              try clear hcz22_3
              try clear hcz26_0
              try clear hcz26_1
              try clear hcz26_2
              try clear hcz26_3
              try clear hcz29_0
              try clear hcz29_1
              try clear hcz29_2
              try clear hcz29_3
              try clear hcz33_0
              try clear hcz33_1
              try clear hcz33_2
              try clear hcz33_3
              try clear hcz44_0
              try clear hcz44_1
              try clear hcz44_2
              try clear hcz44_3
              try clear hcz46_0
              try clear hcz46_1
              try clear hcz46_2
              try clear hcz46_3
              try clear hcz48_0
              try clear hcz48_1
              try clear hcz48_2
              try clear hcz48_3
              try clear hcz49_0
              try clear hcz49_1
              try clear hcz49_2
              try clear hcz49_3
              try clear hcz51_0
              try clear hcz51_1
              try clear hcz51_2
              try clear hcz51_3
              try clear hcz52_0
              try clear hcz52_1
              try clear hcz52_2
              try clear hcz52_3
              try clear hcz56_0
              try clear hcz56_1
              try clear hcz56_2
              try clear hcz56_3
              try clear hcz58_0
              try clear hcz58_1
              try clear hcz58_2
              try clear hcz58_3
              try clear hcz60_0
              try clear hcz60_1
              try clear hcz60_2
              try clear hcz60_3
              try clear hcz61_0
              try clear hcz61_1
              try clear hcz61_2
              try clear hcz61_3
              try clear hcz65_0
              try clear hcz65_1
              try clear hcz65_2
              try clear hcz65_3
              try clear hcz67_0
              try clear hcz67_1
              try clear hcz67_2
              try clear hcz67_3
              try clear hcz77_0
              try clear hcz77_1
              try clear hcz77_2
              try clear hcz77_3
              try clear hcz79_0
              try clear hcz79_1
              try clear hcz79_2
              try clear hcz79_3
              try clear hcz81_0
              try clear hcz81_1
              try clear hcz81_2
              try clear hcz81_3
              try clear hcz82_0
              try clear hcz82_1
              try clear hcz82_2
              try clear hcz82_3
              try clear hcz84_0
              try clear hcz84_1
              try clear hcz84_2
              try clear hcz84_3
              try clear hcz85_0
              try clear hcz85_1
              try clear hcz85_2
              try clear hcz85_3
              try clear hcz89_0
              try clear hcz89_1
              try clear hcz89_2
              try clear hcz89_3
              try clear hcz91_0
              try clear hcz91_1
              try clear hcz91_2
              try clear hcz91_3
              try clear hcz93_0
              try clear hcz93_1
              try clear hcz93_2
              try clear hcz93_3
              try clear hcz94_0
              try clear hcz94_1
              try clear hcz94_2
              try clear hcz94_3
              try clear hcz98_0
              try clear hcz98_1
              try clear hcz98_2
              try clear hcz98_3
              try clear hfz100_0
              try clear hfz100_1
              try clear hfz100_2
              try clear hfz100_3
              try clear hfz17_0
              try clear hfz17_1
              try clear hfz17_2
              try clear hfz17_3
              try clear hfz20_0
              try clear hfz20_1
              try clear hfz20_2
              try clear hfz20_3
              try clear hfz22_0
              try clear hfz22_1
              try clear hfz22_2
              try clear hfz22_3
              try clear hfz26_0
              try clear hfz26_1
              try clear hfz26_2
              try clear hfz26_3
              try clear hfz29_0
              try clear hfz29_1
              try clear hfz29_2
              try clear hfz29_3
              try clear hfz33_0
              try clear hfz33_1
              try clear hfz33_2
              try clear hfz33_3
              try clear hfz44_0
              try clear hfz44_1
              try clear hfz44_2
              try clear hfz44_3
              try clear hfz46_0
              try clear hfz46_1
              try clear hfz46_2
              try clear hfz46_3
              try clear hfz48_0
              try clear hfz48_1
              try clear hfz48_2
              try clear hfz48_3
              try clear hfz49_0
              try clear hfz49_1
              try clear hfz49_2
              try clear hfz49_3
              try clear hfz51_0
              try clear hfz51_1
              try clear hfz51_2
              try clear hfz51_3
              try clear hfz52_0
              try clear hfz52_1
              try clear hfz52_2
              try clear hfz52_3
              try clear hfz56_0
              try clear hfz56_1
              try clear hfz56_2
              try clear hfz56_3
              try clear hfz58_0
              try clear hfz58_1
              try clear hfz58_2
              try clear hfz58_3
              try clear hfz60_0
              try clear hfz60_1
              try clear hfz60_2
              try clear hfz60_3
              try clear hfz61_0
              try clear hfz61_1
              try clear hfz61_2
              try clear hfz61_3
              try clear hfz65_0
              try clear hfz65_1
              try clear hfz65_2
              try clear hfz65_3
              try clear hfz67_0
              try clear hfz67_1
              try clear hfz67_2
              try clear hfz67_3
              try clear hfz77_0
              try clear hfz77_1
              try clear hfz77_2
              try clear hfz77_3
              try clear hfz79_0
              try clear hfz79_1
              try clear hfz79_2
              try clear hfz79_3
              try clear hfz81_0
              try clear hfz81_1
              try clear hfz81_2
              try clear hfz81_3
              try clear hfz82_0
              try clear hfz82_1
              try clear hfz82_2
              try clear hfz82_3
              try clear hfz84_0
              try clear hfz84_1
              try clear hfz84_2
              try clear hfz84_3
              try clear hfz85_0
              try clear hfz85_1
              try clear hfz85_2
              try clear hfz85_3
              try clear hfz89_0
              try clear hfz89_1
              try clear hfz89_2
              try clear hfz89_3
              try clear hfz91_0
              try clear hfz91_1
              try clear hfz91_2
              try clear hfz91_3
              try clear hfz93_0
              try clear hfz93_1
              try clear hfz93_2
              try clear hfz93_3
              try clear hfz94_0
              try clear hfz94_1
              try clear hfz94_2
              try clear hfz94_3
              try clear hfz98_0
              try clear hfz98_1
              try clear hfz98_2
              try clear hfz98_3
              try clear p2
              obtain ⟨kq, x9_68, rfl, HA, HJ68, BK365, BK366, BK367, HB⟩ := hcut
              cases kq with
              | zero => exact absurd HA.out (by simp [banksmanlaw10_SpanOn.j2])
              | succ kj68 =>
                have H := HA.out
                clear HA
                simp only [banksmanlaw10_SpanOn.j2] at H
                replace H := Option.bind_eq_some_iff.mp H
                obtain ⟨t378, A1020, H⟩ := H
                replace H : ((span_Empty.f a0_0 l0_1 l0_2 a0_3).bind fun t379 => ((span_Covers.f a0_0 l0_1 l0_2 a0_3 a1_0 l1_1 l1_2 a1_3).bind fun t380 => (if t380 = true then ((span_Empty.f a1_0 l1_1 l1_2 a1_3).bind fun t381 => (if t381 = true then (if t368 = true then (if x8_35 = true then (if x9_68 = true then (if (t378 == (!t379)) = true then (some true) else (some false)) else (some false)) else (some false)) else (some false)) else ((span_Meets.f a0_0 l0_1 l0_2 a0_3 a1_0 l1_1 l1_2 a1_3).bind fun t382 => (if t368 = true then (if x8_35 = true then (if x9_68 = true then (if (t378 == (!t379)) = true then (some t382) else (some false)) else (some false)) else (some false)) else (some false))))) else (if t368 = true then (if x8_35 = true then (if x9_68 = true then (if (t378 == (!t379)) = true then (some true) else (some false)) else (some false)) else (some false)) else (some false))))) = some r := H
                have A102 := Aside0.mk A1020
                clear A1020
                replace H := Option.bind_eq_some_iff.mp H
                obtain ⟨t379, A1030, H⟩ := H
                replace H : ((span_Covers.f a0_0 l0_1 l0_2 a0_3 a1_0 l1_1 l1_2 a1_3).bind fun t380 => (if t380 = true then ((span_Empty.f a1_0 l1_1 l1_2 a1_3).bind fun t381 => (if t381 = true then (if t368 = true then (if x8_35 = true then (if x9_68 = true then (if (t378 == (!t379)) = true then (some true) else (some false)) else (some false)) else (some false)) else (some false)) else ((span_Meets.f a0_0 l0_1 l0_2 a0_3 a1_0 l1_1 l1_2 a1_3).bind fun t382 => (if t368 = true then (if x8_35 = true then (if x9_68 = true then (if (t378 == (!t379)) = true then (some t382) else (some false)) else (some false)) else (some false)) else (some false))))) else (if t368 = true then (if x8_35 = true then (if x9_68 = true then (if (t378 == (!t379)) = true then (some true) else (some false)) else (some false)) else (some false)) else (some false)))) = some r := H
                have A103 := Aside0.mk A1030
                clear A1030
                replace H := Option.bind_eq_some_iff.mp H
                obtain ⟨t380, A1040, H⟩ := H
                replace H : (if t380 = true then ((span_Empty.f a1_0 l1_1 l1_2 a1_3).bind fun t381 => (if t381 = true then (if t368 = true then (if x8_35 = true then (if x9_68 = true then (if (t378 == (!t379)) = true then (some true) else (some false)) else (some false)) else (some false)) else (some false)) else ((span_Meets.f a0_0 l0_1 l0_2 a0_3 a1_0 l1_1 l1_2 a1_3).bind fun t382 => (if t368 = true then (if x8_35 = true then (if x9_68 = true then (if (t378 == (!t379)) = true then (some t382) else (some false)) else (some false)) else (some false)) else (some false))))) else (if t368 = true then (if x8_35 = true then (if x9_68 = true then (if (t378 == (!t379)) = true then (some true) else (some false)) else (some false)) else (some false)) else (some false))) = some r := H
                have A104 := Aside0.mk A1040
                clear A1040
                by_cases c105 : t380 = true
                · subst c105
                  have H1 : ((span_Empty.f a1_0 l1_1 l1_2 a1_3).bind fun t381 => (if t381 = true then (if t368 = true then (if x8_35 = true then (if x9_68 = true then (if (t378 == (!t379)) = true then (some true) else (some false)) else (some false)) else (some false)) else (some false)) else ((span_Meets.f a0_0 l0_1 l0_2 a0_3 a1_0 l1_1 l1_2 a1_3).bind fun t382 => (if t368 = true then (if x8_35 = true then (if x9_68 = true then (if (t378 == (!t379)) = true then (some t382) else (some false)) else (some false)) else (some false)) else (some false))))) = some r := by rw [if_pos rfl] at H; exact H
                  clear H
                  have H := H1
                  clear H1
                  replace H := Option.bind_eq_some_iff.mp H
                  obtain ⟨t381, A1060, H⟩ := H
                  replace H : (if t381 = true then (if t368 = true then (if x8_35 = true then (if x9_68 = true then (if (t378 == (!t379)) = true then (some true) else (some false)) else (some false)) else (some false)) else (some false)) else ((span_Meets.f a0_0 l0_1 l0_2 a0_3 a1_0 l1_1 l1_2 a1_3).bind fun t382 => (if t368 = true then (if x8_35 = true then (if x9_68 = true then (if (t378 == (!t379)) = true then (some t382) else (some false)) else (some false)) else (some false)) else (some false)))) = some r := H
                  have A106 := Aside0.mk A1060
                  clear A1060
                  by_cases c107 : t381 = true
                  · subst c107
                    have H1 : (if t368 = true then (if x8_35 = true then (if x9_68 = true then (if (t378 == (!t379)) = true then (some true) else (some false)) else (some false)) else (some false)) else (some false)) = some r := by rw [if_pos rfl] at H; exact H
                    clear H
                    have H := H1
                    clear H1
                    by_cases c108 : t368 = true
                    · subst c108
                      have H1 : (if x8_35 = true then (if x9_68 = true then (if (t378 == (!t379)) = true then (some true) else (some false)) else (some false)) else (some false)) = some r := by rw [if_pos rfl] at H; exact H
                      clear H
                      have H := H1
                      clear H1
                      by_cases c109 : x8_35 = true
                      · subst c109
                        have H1 : (if x9_68 = true then (if (t378 == (!t379)) = true then (some true) else (some false)) else (some false)) = some r := by rw [if_pos rfl] at H; exact H
                        clear H
                        have H := H1
                        clear H1
                        by_cases c110 : x9_68 = true
                        · subst c110
                          have H1 : (if (t378 == (!t379)) = true then (some true) else (some false)) = some r := by rw [if_pos rfl] at H; exact H
                          clear H
                          have H := H1
                          clear H1
                          by_cases c111 : (t378 == (!t379)) = true
                          · rw [if_pos c111] at H
                            have c111b0 : (t378 == (!t379)) = true := c111
                            (try (have c111b1 : decide (t378 = (!t379)) = true := by simpa using c111))
                            (try (have c111b2 : (t378 == (!t379)) = true := by simpa using c111))
                            clear c111
                            obtain rfl := Option.some.inj H
                            try go_wp2
                            have n0_ := Aside0.mk (blk_drew BK365.out)
                            have n1_ := Aside0.mk (blk_drew BK366.out)
                            have n2_ := Aside0.mk (blk_drew BK367.out)
                            have n3_ := Aside0.mk (below_drew1 HB.out)
                            clear BK365
                            clear BK366
                            clear BK367
                            clear HB
                            have BK365 := n0_
                            have BK366 := n1_
                            have BK367 := n2_
                            have HB := n3_
                            clear n0_ n1_ n2_ n3_
                            refine start_ (n := 8) (S := fun w' => w'.cell? ⟨gb365, 0, none⟩ = some (.int .i64 a0_0) ∧ w'.cell? ⟨gb365, 1, none⟩ = some (.slice A0_1 l0_1.length c0_1) ∧ w'.cell? ⟨gb365, 2, none⟩ = some (.slice A0_2 l0_2.length c0_2) ∧ w'.cell? ⟨gb365, 3, none⟩ = some (.bool a0_3)) (ds := []) #[false, false, false, false, false, false, false, false] (by kernel_rfl) rfl rfl ⟨(blk_cell BK365.out 0).trans rfl, (blk_cell BK365.out 1).trans rfl, (blk_cell BK365.out 2).trans rfl, (blk_cell BK365.out 3).trans rfl⟩ (fun hHeld => ?_); refine with_tabW banksmanlaw10_SpanOn.tab6 banksmanlaw10_SpanOn.bits6 (fun HT_ HW_ => ?_)
                            generalize wc.drew = w112 at BK365 BK366 BK367 HB hHeld ⊢
                            refine take_ (i := 0) (N := some 57) (v := ?_) (a' := ?_) #[true, false, false, false, false, false, false, false] rfl rfl (take_ofW HT_.out HW_.out (by kernel_rfl)) (fun _ _ _ h => h) (Or.inl ⟨by rfl, ?_⟩) hHeld ?_ ?_
                            rotate_left
                            · rintro w' ⟨s0, s1, s2, s3⟩
                              go_simp
                              with_reducible rfl
                            rotate_left
                            · simp only [Act.put, List.setIfInBounds_toArray, List.set_cons_zero, List.set_cons_succ, i64_w, i32_w]
                              rfl
                            refine take_ (i := 1) (N := some 58) (v := ?_) (a' := ?_) #[true, true, false, false, false, false, false, false] rfl rfl (take_ofW HT_.out HW_.out (by kernel_rfl)) (fun _ _ _ h => h) (Or.inl ⟨by rfl, ?_⟩) hHeld ?_ ?_
                            rotate_left
                            · rintro w' ⟨s0, s1, s2, s3⟩
                              go_simp
                              with_reducible rfl
                            rotate_left
                            · simp only [Act.put, List.setIfInBounds_toArray, List.set_cons_zero, List.set_cons_succ, i64_w, i32_w]
                              rfl
                            refine take_ (i := 3) (N := some 60) (v := ?_) (a' := ?_) #[true, true, false, true, false, false, false, false] rfl rfl (take_ofW HT_.out HW_.out (by kernel_rfl)) (fun _ _ _ h => h) (Or.inl ⟨by rfl, ?_⟩) hHeld ?_ ?_
                            rotate_left
                            · rintro w' ⟨s0, s1, s2, s3⟩
                              go_simp
                              with_reducible rfl
                            rotate_left
                            · simp only [Act.put, List.setIfInBounds_toArray, List.set_cons_zero, List.set_cons_succ, i64_w, i32_w]
                              rfl
                            refine one_ (i := 2) (N := some 59) #[true, true, true, true, false, false, false, false] rfl rfl (one_of HT_.out (by kernel_rfl)) (by decide) (fun K hK => ?_)
                            refine goes_ Try.func20 (by kernel_rfl) rfl #[.agg #[.int .i64 a0_0, .slice A0_1 l0_1.length c0_1, .slice A0_2 l0_2.length c0_2, .bool a0_3], .agg #[.int .i64 a0_0, .slice A0_1 l0_1.length c0_1, .slice A0_2 l0_2.length c0_2, .bool a0_3]] (by rfl) rfl rfl (by (try simp only [List.map_toArray, List.map_cons, List.map_nil]); first | done | rfl | (simp only [List.length_drop, List.length_take]; rfl)) ?_
                            with_reducible refine (span_Meets.calls a0_0 _ _ l0_1 _ _ l0_2 a0_3 a0_0 _ _ l0_1 _ _ l0_2 a0_3 t378 _ ?side1 ?side2 ?side3 ?side4 ?side5 ?side6 ?side7 ?side8 A102.out).mono ?_
                            (case side1 => repeat (first | exact (Kd.C_below HR0_1.out HB.out) | (with_reducible refine Kd.C_alloc ?_ _) | (with_reducible refine Kd.C_drewN ?_ _) | (with_reducible refine Kd.C_drew ?_)))
                            (case side2 => exact HC0_1.out)
                            (case side3 => repeat (first | exact (Kd.C_below HR0_2.out HB.out) | (with_reducible refine Kd.C_alloc ?_ _) | (with_reducible refine Kd.C_drewN ?_ _) | (with_reducible refine Kd.C_drew ?_)))
                            (case side4 => exact HC0_2.out)
                            (case side5 => repeat (first | exact (Kd.C_below HR0_1.out HB.out) | (with_reducible refine Kd.C_alloc ?_ _) | (with_reducible refine Kd.C_drewN ?_ _) | (with_reducible refine Kd.C_drew ?_)))
                            (case side6 => exact HC0_1.out)
                            (case side7 => repeat (first | exact (Kd.C_below HR0_2.out HB.out) | (with_reducible refine Kd.C_alloc ?_ _) | (with_reducible refine Kd.C_drewN ?_ _) | (with_reducible refine Kd.C_drew ?_)))
                            (case side8 => exact HC0_2.out)
                            rintro e w113 ⟨rfl, hb⟩
                            refine ⟨_, rfl, ?_⟩
                            have n0_ := Aside0.mk (blk_below (g := gb365) (o := .cells #[.int .i64 a0_0, .slice A0_1 l0_1.length c0_1, .slice A0_2 l0_2.length c0_2, .bool a0_3] 24 (0, 0)) (by (with_reducible repeat (first | refine blk_drewN ?_ _ | refine blk_drew ?_ | refine blk_alloc ?_ _)); exact BK365.out) hb)
                            have n1_ := Aside0.mk (blk_below (g := gb366) (o := .cells #[.int .i64 a1_0, .slice A1_1 l1_1.length c1_1, .slice A1_2 l1_2.length c1_2, .bool a1_3] 24 (0, 0)) (by (with_reducible repeat (first | refine blk_drewN ?_ _ | refine blk_drew ?_ | refine blk_alloc ?_ _)); exact BK366.out) hb)
                            have n2_ := Aside0.mk (blk_below (g := gb367) (o := .cells #[.int .i64 a2_0, .slice A2_1 l2_1.length c2_1, .slice A2_2 l2_2.length c2_2, .bool a2_3] 24 (0, 0)) (by (with_reducible repeat (first | refine blk_drewN ?_ _ | refine blk_drew ?_ | refine blk_alloc ?_ _)); exact BK367.out) hb)
                            have n3_ := Aside0.mk (below_step (by repeat (first | (with_reducible first | exact HB.out | apply below_alloc | apply pw_below_drewN | apply below_drew1 | refine below_set ?_ GE365.out | refine below_set ?_ GE366.out | refine below_set ?_ GE367.out) | exact HB.out)) hb)
                            clear BK365
                            clear BK366
                            clear BK367
                            clear HB
                            have BK365 := n0_
                            have BK366 := n1_
                            have BK367 := n2_
                            have HB := n3_
                            clear n0_ n1_ n2_ n3_
                            (try clear hb)
                            (try clear hb2)
                            (try clear hk)
                            (try clear hi)
                            refine hK.out _ _ ⟨(blk_cell BK365.out 0).trans rfl, (blk_cell BK365.out 1).trans rfl, (blk_cell BK365.out 2).trans rfl, (blk_cell BK365.out 3).trans rfl⟩ (fun hHeld => ?_)
                            clear hK K
                            refine norm_ (a' := ?_) ?_ ?_
                            rotate_left
                            · show Act.put _ (some 59) _ = _
                              simp only [Act.put, List.setIfInBounds_toArray, List.set_cons_zero, List.set_cons_succ, i64_w, i32_w]
                              rfl
                            refine one_ (i := 4) (N := some 61) #[true, true, true, true, true, false, false, false] rfl rfl (one_of HT_.out (by kernel_rfl)) (by decide) (fun K hK => ?_)
                            refine goes_ Try.func16 (by kernel_rfl) rfl #[.agg #[.int .i64 a0_0, .slice A0_1 l0_1.length c0_1, .slice A0_2 l0_2.length c0_2, .bool a0_3]] (by rfl) rfl rfl (by (try simp only [List.map_toArray, List.map_cons, List.map_nil]); first | done | rfl | (simp only [List.length_drop, List.length_take]; rfl)) ?_
                            with_reducible refine (span_Empty.calls a0_0 _ _ l0_1 _ _ l0_2 a0_3 t379 _ ?side1 ?side2 ?side3 ?side4 A103.out).mono ?_
                            (case side1 => repeat (first | exact (Kd.C_below HR0_1.out HB.out) | (with_reducible refine Kd.C_alloc ?_ _) | (with_reducible refine Kd.C_drewN ?_ _) | (with_reducible refine Kd.C_drew ?_)))
                            (case side2 => exact HC0_1.out)
                            (case side3 => repeat (first | exact (Kd.C_below HR0_2.out HB.out) | (with_reducible refine Kd.C_alloc ?_ _) | (with_reducible refine Kd.C_drewN ?_ _) | (with_reducible refine Kd.C_drew ?_)))
                            (case side4 => exact HC0_2.out)
                            rintro e w114 ⟨rfl, hb⟩
                            refine ⟨_, rfl, ?_⟩
                            have n0_ := Aside0.mk (blk_below (g := gb365) (o := .cells #[.int .i64 a0_0, .slice A0_1 l0_1.length c0_1, .slice A0_2 l0_2.length c0_2, .bool a0_3] 24 (0, 0)) (by (with_reducible repeat (first | refine blk_drewN ?_ _ | refine blk_drew ?_ | refine blk_alloc ?_ _)); exact BK365.out) hb)
                            have n1_ := Aside0.mk (blk_below (g := gb366) (o := .cells #[.int .i64 a1_0, .slice A1_1 l1_1.length c1_1, .slice A1_2 l1_2.length c1_2, .bool a1_3] 24 (0, 0)) (by (with_reducible repeat (first | refine blk_drewN ?_ _ | refine blk_drew ?_ | refine blk_alloc ?_ _)); exact BK366.out) hb)
                            have n2_ := Aside0.mk (blk_below (g := gb367) (o := .cells #[.int .i64 a2_0, .slice A2_1 l2_1.length c2_1, .slice A2_2 l2_2.length c2_2, .bool a2_3] 24 (0, 0)) (by (with_reducible repeat (first | refine blk_drewN ?_ _ | refine blk_drew ?_ | refine blk_alloc ?_ _)); exact BK367.out) hb)
                            have n3_ := Aside0.mk (below_step (by repeat (first | (with_reducible first | exact HB.out | apply below_alloc | apply pw_below_drewN | apply below_drew1 | refine below_set ?_ GE365.out | refine below_set ?_ GE366.out | refine below_set ?_ GE367.out) | exact HB.out)) hb)
                            clear BK365
                            clear BK366
                            clear BK367
                            clear HB
                            have BK365 := n0_
                            have BK366 := n1_
                            have BK367 := n2_
                            have HB := n3_
                            clear n0_ n1_ n2_ n3_
                            (try clear hb)
                            (try clear hb2)
                            (try clear hk)
                            (try clear hi)
                            refine hK.out _ _ ⟨(blk_cell BK365.out 0).trans rfl, (blk_cell BK365.out 1).trans rfl, (blk_cell BK365.out 2).trans rfl, (blk_cell BK365.out 3).trans rfl⟩ (fun hHeld => ?_)
                            clear hK K
                            refine norm_ (a' := ?_) ?_ ?_
                            rotate_left
                            · show Act.put _ (some 61) _ = _
                              simp only [Act.put, List.setIfInBounds_toArray, List.set_cons_zero, List.set_cons_succ, i64_w, i32_w]
                              rfl
                            refine pure_ (i := 5) (N := some 62) (v := ?_) (a' := ?_) #[true, true, true, true, true, true, false, false] rfl rfl (any_of HT_.out (by kernel_rfl)) (fun _ _ _ h => h) (Or.inl ⟨by rfl, ?_⟩) ?_ ?_
                            rotate_left
                            · intro w'
                              go_simp
                              with_reducible rfl
                            rotate_left
                            · simp only [Act.put, List.setIfInBounds_toArray, List.set_cons_zero, List.set_cons_succ, i64_w, i32_w]
                              rfl
                            refine pure_ (i := 6) (N := some 63) (v := ?_) (a' := ?_) #[true, true, true, true, true, true, true, false] rfl rfl (any_of HT_.out (by kernel_rfl)) (fun _ _ _ h => h) (Or.inl ⟨by rfl, ?_⟩) ?_ ?_
                            rotate_left
                            · intro w'
                              go_simp
                              with_reducible rfl
                            rotate_left
                            · simp only [Act.put, List.setIfInBounds_toArray, List.set_cons_zero, List.set_cons_succ, i64_w, i32_w]
                              rfl
                            refine pure_ (i := 7) (N := some 10) (v := ?_) (a' := ?_) #[true, true, true, true, true, true, true, true] rfl rfl (any_of HT_.out (by kernel_rfl)) (fun _ _ _ h => h) (Or.inl ⟨by rfl, ?_⟩) ?_ ?_
                            rotate_left
                            · intro w'
                              go_simp
                              with_reducible rfl
                            rotate_left
                            · simp only [Act.put, List.setIfInBounds_toArray, List.set_cons_zero, List.set_cons_succ, i64_w, i32_w]
                              rfl
                            refine done_ (done_of HT_.out (by kernel_rfl)) ?_
                            have hnb115 := NB365_366.out
                            have hnc115 := NB366_365.out
                            have hnb116 := NB365_367.out
                            have hnc116 := NB367_365.out
                            have hcz117_0 : w114.cell? ⟨gb365, 0, none⟩ = some (.int .i64 a0_0) := (blk_cell BK365.out 0).trans rfl
                            have hcz117_1 : w114.cell? ⟨gb365, 1, none⟩ = some (.slice A0_1 l0_1.length c0_1) := (blk_cell BK365.out 1).trans rfl
                            have hcz117_2 : w114.cell? ⟨gb365, 2, none⟩ = some (.slice A0_2 l0_2.length c0_2) := (blk_cell BK365.out 2).trans rfl
                            have hcz117_3 : w114.cell? ⟨gb365, 3, none⟩ = some (.bool a0_3) := (blk_cell BK365.out 3).trans rfl
                            have hfz117_0 := blk_frozen BK365.out 0
                            have hfz117_1 := blk_frozen BK365.out 1
                            have hfz117_2 := blk_frozen BK365.out 2
                            have hfz117_3 := blk_frozen BK365.out 3
                            have hnb118 := NB366_367.out
                            have hnc118 := NB367_366.out
                            have hcz119_0 : w114.cell? ⟨gb366, 0, none⟩ = some (.int .i64 a1_0) := (blk_cell BK366.out 0).trans rfl
                            have hcz119_1 : w114.cell? ⟨gb366, 1, none⟩ = some (.slice A1_1 l1_1.length c1_1) := (blk_cell BK366.out 1).trans rfl
                            have hcz119_2 : w114.cell? ⟨gb366, 2, none⟩ = some (.slice A1_2 l1_2.length c1_2) := (blk_cell BK366.out 2).trans rfl
                            have hcz119_3 : w114.cell? ⟨gb366, 3, none⟩ = some (.bool a1_3) := (blk_cell BK366.out 3).trans rfl
                            have hfz119_0 := blk_frozen BK366.out 0
                            have hfz119_1 := blk_frozen BK366.out 1
                            have hfz119_2 := blk_frozen BK366.out 2
                            have hfz119_3 := blk_frozen BK366.out 3
                            try go_wp2_with (first | ((with_reducible refine gate_callee (f := 22) rfl ?_); refine goesL_ (some 66) rfl rfl Try.func22 (by kernel_rfl) rfl #[.agg #[.int .i64 a0_0, .slice A0_1 l0_1.length c0_1, .slice A0_2 l0_2.length c0_2, .bool a0_3], .agg #[.int .i64 a1_0, .slice A1_1 l1_1.length c1_1, .slice A1_2 l1_2.length c1_2, .bool a1_3]] rfl (by (try simp only [List.map_toArray, List.map_cons, List.map_nil]); first | done | rfl | (simp only [List.length_drop, List.length_take]; rfl)) ?_; (with_reducible refine (span_Covers.calls a0_0 _ _ l0_1 _ _ l0_2 a0_3 a1_0 _ _ l1_1 _ _ l1_2 a1_3 true _ ?side1 ?side2 ?side3 ?side4 ?side5 ?side6 ?side7 ?side8 A104.out).mono ?_); (case side1 => repeat (first | exact (Kd.C_below HR0_1.out HB.out) | (with_reducible refine Kd.C_alloc ?_ _) | (with_reducible refine Kd.C_drewN ?_ _) | (with_reducible refine Kd.C_drew ?_))); (case side2 => exact HC0_1.out); (case side3 => repeat (first | exact (Kd.C_below HR0_2.out HB.out) | (with_reducible refine Kd.C_alloc ?_ _) | (with_reducible refine Kd.C_drewN ?_ _) | (with_reducible refine Kd.C_drew ?_))); (case side4 => exact HC0_2.out); (case side5 => repeat (first | exact (Kd.C_below HR1_1.out HB.out) | (with_reducible refine Kd.C_alloc ?_ _) | (with_reducible refine Kd.C_drewN ?_ _) | (with_reducible refine Kd.C_drew ?_))); (case side6 => exact HC1_1.out); (case side7 => repeat (first | exact (Kd.C_below HR1_2.out HB.out) | (with_reducible refine Kd.C_alloc ?_ _) | (with_reducible refine Kd.C_drewN ?_ _) | (with_reducible refine Kd.C_drew ?_))); (case side8 => exact HC1_2.out); rintro e w120 ⟨rfl, hb⟩; refine ⟨_, rfl, ?_⟩; have n0_ := Aside0.mk (blk_below (g := gb365) (o := .cells #[.int .i64 a0_0, .slice A0_1 l0_1.length c0_1, .slice A0_2 l0_2.length c0_2, .bool a0_3] 24 (0, 0)) (by (with_reducible repeat (first | refine blk_drewN ?_ _ | refine blk_drew ?_ | refine blk_alloc ?_ _)); exact BK365.out) hb); have n1_ := Aside0.mk (blk_below (g := gb366) (o := .cells #[.int .i64 a1_0, .slice A1_1 l1_1.length c1_1, .slice A1_2 l1_2.length c1_2, .bool a1_3] 24 (0, 0)) (by (with_reducible repeat (first | refine blk_drewN ?_ _ | refine blk_drew ?_ | refine blk_alloc ?_ _)); exact BK366.out) hb); have n2_ := Aside0.mk (blk_below (g := gb367) (o := .cells #[.int .i64 a2_0, .slice A2_1 l2_1.length c2_1, .slice A2_2 l2_2.length c2_2, .bool a2_3] 24 (0, 0)) (by (with_reducible repeat (first | refine blk_drewN ?_ _ | refine blk_drew ?_ | refine blk_alloc ?_ _)); exact BK367.out) hb); have n3_ := Aside0.mk (below_step (by repeat (first | (with_reducible first | exact HB.out | apply below_alloc | apply pw_below_drewN | apply below_drew1 | refine below_set ?_ GE365.out | refine below_set ?_ GE366.out | refine below_set ?_ GE367.out) | exact HB.out)) hb); clear BK365; clear BK366; clear BK367; clear HB; have BK365 := n0_; have BK366 := n1_; have BK367 := n2_; have HB := n3_; clear n0_ n1_ n2_ n3_; (try clear hb); (try clear hb2); (try clear hk); (try clear hi); have hcz121_0 : w120.cell? ⟨gb366, 0, none⟩ = some (.int .i64 a1_0) := (blk_cell BK366.out 0).trans rfl; have hcz121_1 : w120.cell? ⟨gb366, 1, none⟩ = some (.slice A1_1 l1_1.length c1_1) := (blk_cell BK366.out 1).trans rfl; have hcz121_2 : w120.cell? ⟨gb366, 2, none⟩ = some (.slice A1_2 l1_2.length c1_2) := (blk_cell BK366.out 2).trans rfl; have hcz121_3 : w120.cell? ⟨gb366, 3, none⟩ = some (.bool a1_3) := (blk_cell BK366.out 3).trans rfl; have hfz121_0 := blk_frozen BK366.out 0; have hfz121_1 := blk_frozen BK366.out 1; have hfz121_2 := blk_frozen BK366.out 2; have hfz121_3 := blk_frozen BK366.out 3) | (go_at_call 16; (with_reducible refine (span_Empty.calls a1_0 _ _ l1_1 _ _ l1_2 a1_3 true _ ?side1 ?side2 ?side3 ?side4 A106.out).mono ?_); (case side1 => repeat (first | exact (Kd.C_below HR1_1.out HB.out) | (with_reducible refine Kd.C_alloc ?_ _) | (with_reducible refine Kd.C_drewN ?_ _) | (with_reducible refine Kd.C_drew ?_))); (case side2 => exact HC1_1.out); (case side3 => repeat (first | exact (Kd.C_below HR1_2.out HB.out) | (with_reducible refine Kd.C_alloc ?_ _) | (with_reducible refine Kd.C_drewN ?_ _) | (with_reducible refine Kd.C_drew ?_))); (case side4 => exact HC1_2.out); rintro e w122 ⟨rfl, hb⟩; have n0_ := Aside0.mk (blk_below (g := gb365) (o := .cells #[.int .i64 a0_0, .slice A0_1 l0_1.length c0_1, .slice A0_2 l0_2.length c0_2, .bool a0_3] 24 (0, 0)) (by (with_reducible repeat (first | refine blk_drewN ?_ _ | refine blk_drew ?_ | refine blk_alloc ?_ _)); exact BK365.out) hb); have n1_ := Aside0.mk (blk_below (g := gb366) (o := .cells #[.int .i64 a1_0, .slice A1_1 l1_1.length c1_1, .slice A1_2 l1_2.length c1_2, .bool a1_3] 24 (0, 0)) (by (with_reducible repeat (first | refine blk_drewN ?_ _ | refine blk_drew ?_ | refine blk_alloc ?_ _)); exact BK366.out) hb); have n2_ := Aside0.mk (blk_below (g := gb367) (o := .cells #[.int .i64 a2_0, .slice A2_1 l2_1.length c2_1, .slice A2_2 l2_2.length c2_2, .bool a2_3] 24 (0, 0)) (by (with_reducible repeat (first | refine blk_drewN ?_ _ | refine blk_drew ?_ | refine blk_alloc ?_ _)); exact BK367.out) hb); have n3_ := Aside0.mk (below_step (by repeat (first | (with_reducible first | exact HB.out | apply below_alloc | apply pw_below_drewN | apply below_drew1 | refine below_set ?_ GE365.out | refine below_set ?_ GE366.out | refine below_set ?_ GE367.out) | exact HB.out)) hb); clear BK365; clear BK366; clear BK367; clear HB; have BK365 := n0_; have BK366 := n1_; have BK367 := n2_; have HB := n3_; clear n0_ n1_ n2_ n3_; (try clear hb); (try clear hb2); (try clear hk); (try clear hi)))
                            go_ret
                            exact ⟨by first | rfl | (simp [errW_none, errW_some] <;> rfl) | (simp [*, errW_none, errW_some] <;> rfl), by repeat (first | (with_reducible first | exact HB.out | apply below_alloc | apply pw_below_drewN | apply below_drew1 | refine below_set ?_ GE365.out | refine below_set ?_ GE366.out | refine below_set ?_ GE367.out) | exact HB.out)⟩
                          · rw [if_neg c111] at H
                            rw [HTr_] at H
                            exact absurd (Option.some.inj H) (by decide)
                        · replace c110 := Bool.eq_false_iff.mpr c110
                          subst c110
                          have H1 : (some false) = some r := by rw [if_neg (show ¬ (false = true) by decide)] at H; exact H
                          rw [HTr_] at H1
                          exact absurd (Option.some.inj H1) (by decide)
                      · replace c109 := Bool.eq_false_iff.mpr c109
                        subst c109
                        have H1 : (some false) = some r := by rw [if_neg (show ¬ (false = true) by decide)] at H; exact H
                        rw [HTr_] at H1
                        exact absurd (Option.some.inj H1) (by decide)
                    · replace c108 := Bool.eq_false_iff.mpr c108
                      subst c108
                      have H1 : (some false) = some r := by rw [if_neg (show ¬ (false = true) by decide)] at H; exact H
                      rw [HTr_] at H1
                      exact absurd (Option.some.inj H1) (by decide)
                  · replace c107 := Bool.eq_false_iff.mpr c107
                    subst c107
                    have H1 : ((span_Meets.f a0_0 l0_1 l0_2 a0_3 a1_0 l1_1 l1_2 a1_3).bind fun t382 => (if t368 = true then (if x8_35 = true then (if x9_68 = true then (if (t378 == (!t379)) = true then (some t382) else (some false)) else (some false)) else (some false)) else (some false))) = some r := by rw [if_neg (show ¬ (false = true) by decide)] at H; exact H
                    clear H
                    have H := H1
                    clear H1
                    replace H := Option.bind_eq_some_iff.mp H
                    obtain ⟨t382, A1670, H⟩ := H
                    replace H : (if t368 = true then (if x8_35 = true then (if x9_68 = true then (if (t378 == (!t379)) = true then (some t382) else (some false)) else (some false)) else (some false)) else (some false)) = some r := H
                    have A167 := Aside0.mk A1670
                    clear A1670
                    by_cases c168 : t368 = true
                    · subst c168
                      have H1 : (if x8_35 = true then (if x9_68 = true then (if (t378 == (!t379)) = true then (some t382) else (some false)) else (some false)) else (some false)) = some r := by rw [if_pos rfl] at H; exact H
                      clear H
                      have H := H1
                      clear H1
                      by_cases c169 : x8_35 = true
                      · subst c169
                        have H1 : (if x9_68 = true then (if (t378 == (!t379)) = true then (some t382) else (some false)) else (some false)) = some r := by rw [if_pos rfl] at H; exact H
                        clear H
                        have H := H1
                        clear H1
                        by_cases c170 : x9_68 = true
                        · subst c170
                          have H1 : (if (t378 == (!t379)) = true then (some t382) else (some false)) = some r := by rw [if_pos rfl] at H; exact H
                          clear H
                          have H := H1
                          clear H1
                          by_cases c171 : (t378 == (!t379)) = true
                          · rw [if_pos c171] at H
                            have c171b0 : (t378 == (!t379)) = true := c171
                            (try (have c171b1 : decide (t378 = (!t379)) = true := by simpa using c171))
                            (try (have c171b2 : (t378 == (!t379)) = true := by simpa using c171))
                            clear c171
                            obtain rfl := Option.some.inj H
                            try go_wp2
                            have n0_ := Aside0.mk (blk_drew BK365.out)
                            have n1_ := Aside0.mk (blk_drew BK366.out)
                            have n2_ := Aside0.mk (blk_drew BK367.out)
                            have n3_ := Aside0.mk (below_drew1 HB.out)
                            clear BK365
                            clear BK366
                            clear BK367
                            clear HB
                            have BK365 := n0_
                            have BK366 := n1_
                            have BK367 := n2_
                            have HB := n3_
                            clear n0_ n1_ n2_ n3_
                            refine start_ (n := 8) (S := fun w' => w'.cell? ⟨gb365, 0, none⟩ = some (.int .i64 a0_0) ∧ w'.cell? ⟨gb365, 1, none⟩ = some (.slice A0_1 l0_1.length c0_1) ∧ w'.cell? ⟨gb365, 2, none⟩ = some (.slice A0_2 l0_2.length c0_2) ∧ w'.cell? ⟨gb365, 3, none⟩ = some (.bool a0_3)) (ds := []) #[false, false, false, false, false, false, false, false] (by kernel_rfl) rfl rfl ⟨(blk_cell BK365.out 0).trans rfl, (blk_cell BK365.out 1).trans rfl, (blk_cell BK365.out 2).trans rfl, (blk_cell BK365.out 3).trans rfl⟩ (fun hHeld => ?_); refine with_tabW banksmanlaw10_SpanOn.tab6 banksmanlaw10_SpanOn.bits6 (fun HT_ HW_ => ?_)
                            generalize wc.drew = w172 at BK365 BK366 BK367 HB hHeld ⊢
                            refine take_ (i := 0) (N := some 57) (v := ?_) (a' := ?_) #[true, false, false, false, false, false, false, false] rfl rfl (take_ofW HT_.out HW_.out (by kernel_rfl)) (fun _ _ _ h => h) (Or.inl ⟨by rfl, ?_⟩) hHeld ?_ ?_
                            rotate_left
                            · rintro w' ⟨s0, s1, s2, s3⟩
                              go_simp
                              with_reducible rfl
                            rotate_left
                            · simp only [Act.put, List.setIfInBounds_toArray, List.set_cons_zero, List.set_cons_succ, i64_w, i32_w]
                              rfl
                            refine take_ (i := 1) (N := some 58) (v := ?_) (a' := ?_) #[true, true, false, false, false, false, false, false] rfl rfl (take_ofW HT_.out HW_.out (by kernel_rfl)) (fun _ _ _ h => h) (Or.inl ⟨by rfl, ?_⟩) hHeld ?_ ?_
                            rotate_left
                            · rintro w' ⟨s0, s1, s2, s3⟩
                              go_simp
                              with_reducible rfl
                            rotate_left
                            · simp only [Act.put, List.setIfInBounds_toArray, List.set_cons_zero, List.set_cons_succ, i64_w, i32_w]
                              rfl
                            refine take_ (i := 3) (N := some 60) (v := ?_) (a' := ?_) #[true, true, false, true, false, false, false, false] rfl rfl (take_ofW HT_.out HW_.out (by kernel_rfl)) (fun _ _ _ h => h) (Or.inl ⟨by rfl, ?_⟩) hHeld ?_ ?_
                            rotate_left
                            · rintro w' ⟨s0, s1, s2, s3⟩
                              go_simp
                              with_reducible rfl
                            rotate_left
                            · simp only [Act.put, List.setIfInBounds_toArray, List.set_cons_zero, List.set_cons_succ, i64_w, i32_w]
                              rfl
                            refine one_ (i := 2) (N := some 59) #[true, true, true, true, false, false, false, false] rfl rfl (one_of HT_.out (by kernel_rfl)) (by decide) (fun K hK => ?_)
                            refine goes_ Try.func20 (by kernel_rfl) rfl #[.agg #[.int .i64 a0_0, .slice A0_1 l0_1.length c0_1, .slice A0_2 l0_2.length c0_2, .bool a0_3], .agg #[.int .i64 a0_0, .slice A0_1 l0_1.length c0_1, .slice A0_2 l0_2.length c0_2, .bool a0_3]] (by rfl) rfl rfl (by (try simp only [List.map_toArray, List.map_cons, List.map_nil]); first | done | rfl | (simp only [List.length_drop, List.length_take]; rfl)) ?_
                            with_reducible refine (span_Meets.calls a0_0 _ _ l0_1 _ _ l0_2 a0_3 a0_0 _ _ l0_1 _ _ l0_2 a0_3 t378 _ ?side1 ?side2 ?side3 ?side4 ?side5 ?side6 ?side7 ?side8 A102.out).mono ?_
                            (case side1 => repeat (first | exact (Kd.C_below HR0_1.out HB.out) | (with_reducible refine Kd.C_alloc ?_ _) | (with_reducible refine Kd.C_drewN ?_ _) | (with_reducible refine Kd.C_drew ?_)))
                            (case side2 => exact HC0_1.out)
                            (case side3 => repeat (first | exact (Kd.C_below HR0_2.out HB.out) | (with_reducible refine Kd.C_alloc ?_ _) | (with_reducible refine Kd.C_drewN ?_ _) | (with_reducible refine Kd.C_drew ?_)))
                            (case side4 => exact HC0_2.out)
                            (case side5 => repeat (first | exact (Kd.C_below HR0_1.out HB.out) | (with_reducible refine Kd.C_alloc ?_ _) | (with_reducible refine Kd.C_drewN ?_ _) | (with_reducible refine Kd.C_drew ?_)))
                            (case side6 => exact HC0_1.out)
                            (case side7 => repeat (first | exact (Kd.C_below HR0_2.out HB.out) | (with_reducible refine Kd.C_alloc ?_ _) | (with_reducible refine Kd.C_drewN ?_ _) | (with_reducible refine Kd.C_drew ?_)))
                            (case side8 => exact HC0_2.out)
                            rintro e w173 ⟨rfl, hb⟩
                            refine ⟨_, rfl, ?_⟩
                            have n0_ := Aside0.mk (blk_below (g := gb365) (o := .cells #[.int .i64 a0_0, .slice A0_1 l0_1.length c0_1, .slice A0_2 l0_2.length c0_2, .bool a0_3] 24 (0, 0)) (by (with_reducible repeat (first | refine blk_drewN ?_ _ | refine blk_drew ?_ | refine blk_alloc ?_ _)); exact BK365.out) hb)
                            have n1_ := Aside0.mk (blk_below (g := gb366) (o := .cells #[.int .i64 a1_0, .slice A1_1 l1_1.length c1_1, .slice A1_2 l1_2.length c1_2, .bool a1_3] 24 (0, 0)) (by (with_reducible repeat (first | refine blk_drewN ?_ _ | refine blk_drew ?_ | refine blk_alloc ?_ _)); exact BK366.out) hb)
                            have n2_ := Aside0.mk (blk_below (g := gb367) (o := .cells #[.int .i64 a2_0, .slice A2_1 l2_1.length c2_1, .slice A2_2 l2_2.length c2_2, .bool a2_3] 24 (0, 0)) (by (with_reducible repeat (first | refine blk_drewN ?_ _ | refine blk_drew ?_ | refine blk_alloc ?_ _)); exact BK367.out) hb)
                            have n3_ := Aside0.mk (below_step (by repeat (first | (with_reducible first | exact HB.out | apply below_alloc | apply pw_below_drewN | apply below_drew1 | refine below_set ?_ GE365.out | refine below_set ?_ GE366.out | refine below_set ?_ GE367.out) | exact HB.out)) hb)
                            clear BK365
                            clear BK366
                            clear BK367
                            clear HB
                            have BK365 := n0_
                            have BK366 := n1_
                            have BK367 := n2_
                            have HB := n3_
                            clear n0_ n1_ n2_ n3_
                            (try clear hb)
                            (try clear hb2)
                            (try clear hk)
                            (try clear hi)
                            refine hK.out _ _ ⟨(blk_cell BK365.out 0).trans rfl, (blk_cell BK365.out 1).trans rfl, (blk_cell BK365.out 2).trans rfl, (blk_cell BK365.out 3).trans rfl⟩ (fun hHeld => ?_)
                            clear hK K
                            refine norm_ (a' := ?_) ?_ ?_
                            rotate_left
                            · show Act.put _ (some 59) _ = _
                              simp only [Act.put, List.setIfInBounds_toArray, List.set_cons_zero, List.set_cons_succ, i64_w, i32_w]
                              rfl
                            refine one_ (i := 4) (N := some 61) #[true, true, true, true, true, false, false, false] rfl rfl (one_of HT_.out (by kernel_rfl)) (by decide) (fun K hK => ?_)
                            refine goes_ Try.func16 (by kernel_rfl) rfl #[.agg #[.int .i64 a0_0, .slice A0_1 l0_1.length c0_1, .slice A0_2 l0_2.length c0_2, .bool a0_3]] (by rfl) rfl rfl (by (try simp only [List.map_toArray, List.map_cons, List.map_nil]); first | done | rfl | (simp only [List.length_drop, List.length_take]; rfl)) ?_
                            with_reducible refine (span_Empty.calls a0_0 _ _ l0_1 _ _ l0_2 a0_3 t379 _ ?side1 ?side2 ?side3 ?side4 A103.out).mono ?_
                            (case side1 => repeat (first | exact (Kd.C_below HR0_1.out HB.out) | (with_reducible refine Kd.C_alloc ?_ _) | (with_reducible refine Kd.C_drewN ?_ _) | (with_reducible refine Kd.C_drew ?_)))
                            (case side2 => exact HC0_1.out)
                            (case side3 => repeat (first | exact (Kd.C_below HR0_2.out HB.out) | (with_reducible refine Kd.C_alloc ?_ _) | (with_reducible refine Kd.C_drewN ?_ _) | (with_reducible refine Kd.C_drew ?_)))
                            (case side4 => exact HC0_2.out)
                            rintro e w174 ⟨rfl, hb⟩
                            refine ⟨_, rfl, ?_⟩
                            have n0_ := Aside0.mk (blk_below (g := gb365) (o := .cells #[.int .i64 a0_0, .slice A0_1 l0_1.length c0_1, .slice A0_2 l0_2.length c0_2, .bool a0_3] 24 (0, 0)) (by (with_reducible repeat (first | refine blk_drewN ?_ _ | refine blk_drew ?_ | refine blk_alloc ?_ _)); exact BK365.out) hb)
                            have n1_ := Aside0.mk (blk_below (g := gb366) (o := .cells #[.int .i64 a1_0, .slice A1_1 l1_1.length c1_1, .slice A1_2 l1_2.length c1_2, .bool a1_3] 24 (0, 0)) (by (with_reducible repeat (first | refine blk_drewN ?_ _ | refine blk_drew ?_ | refine blk_alloc ?_ _)); exact BK366.out) hb)
                            have n2_ := Aside0.mk (blk_below (g := gb367) (o := .cells #[.int .i64 a2_0, .slice A2_1 l2_1.length c2_1, .slice A2_2 l2_2.length c2_2, .bool a2_3] 24 (0, 0)) (by (with_reducible repeat (first | refine blk_drewN ?_ _ | refine blk_drew ?_ | refine blk_alloc ?_ _)); exact BK367.out) hb)
                            have n3_ := Aside0.mk (below_step (by repeat (first | (with_reducible first | exact HB.out | apply below_alloc | apply pw_below_drewN | apply below_drew1 | refine below_set ?_ GE365.out | refine below_set ?_ GE366.out | refine below_set ?_ GE367.out) | exact HB.out)) hb)
                            clear BK365
                            clear BK366
                            clear BK367
                            clear HB
                            have BK365 := n0_
                            have BK366 := n1_
                            have BK367 := n2_
                            have HB := n3_
                            clear n0_ n1_ n2_ n3_
                            (try clear hb)
                            (try clear hb2)
                            (try clear hk)
                            (try clear hi)
                            refine hK.out _ _ ⟨(blk_cell BK365.out 0).trans rfl, (blk_cell BK365.out 1).trans rfl, (blk_cell BK365.out 2).trans rfl, (blk_cell BK365.out 3).trans rfl⟩ (fun hHeld => ?_)
                            clear hK K
                            refine norm_ (a' := ?_) ?_ ?_
                            rotate_left
                            · show Act.put _ (some 61) _ = _
                              simp only [Act.put, List.setIfInBounds_toArray, List.set_cons_zero, List.set_cons_succ, i64_w, i32_w]
                              rfl
                            refine pure_ (i := 5) (N := some 62) (v := ?_) (a' := ?_) #[true, true, true, true, true, true, false, false] rfl rfl (any_of HT_.out (by kernel_rfl)) (fun _ _ _ h => h) (Or.inl ⟨by rfl, ?_⟩) ?_ ?_
                            rotate_left
                            · intro w'
                              go_simp
                              with_reducible rfl
                            rotate_left
                            · simp only [Act.put, List.setIfInBounds_toArray, List.set_cons_zero, List.set_cons_succ, i64_w, i32_w]
                              rfl
                            refine pure_ (i := 6) (N := some 63) (v := ?_) (a' := ?_) #[true, true, true, true, true, true, true, false] rfl rfl (any_of HT_.out (by kernel_rfl)) (fun _ _ _ h => h) (Or.inl ⟨by rfl, ?_⟩) ?_ ?_
                            rotate_left
                            · intro w'
                              go_simp
                              with_reducible rfl
                            rotate_left
                            · simp only [Act.put, List.setIfInBounds_toArray, List.set_cons_zero, List.set_cons_succ, i64_w, i32_w]
                              rfl
                            refine pure_ (i := 7) (N := some 10) (v := ?_) (a' := ?_) #[true, true, true, true, true, true, true, true] rfl rfl (any_of HT_.out (by kernel_rfl)) (fun _ _ _ h => h) (Or.inl ⟨by rfl, ?_⟩) ?_ ?_
                            rotate_left
                            · intro w'
                              go_simp
                              with_reducible rfl
                            rotate_left
                            · simp only [Act.put, List.setIfInBounds_toArray, List.set_cons_zero, List.set_cons_succ, i64_w, i32_w]
                              rfl
                            refine done_ (done_of HT_.out (by kernel_rfl)) ?_
                            have hnb175 := NB365_366.out
                            have hnc175 := NB366_365.out
                            have hnb176 := NB365_367.out
                            have hnc176 := NB367_365.out
                            have hcz177_0 : w174.cell? ⟨gb365, 0, none⟩ = some (.int .i64 a0_0) := (blk_cell BK365.out 0).trans rfl
                            have hcz177_1 : w174.cell? ⟨gb365, 1, none⟩ = some (.slice A0_1 l0_1.length c0_1) := (blk_cell BK365.out 1).trans rfl
                            have hcz177_2 : w174.cell? ⟨gb365, 2, none⟩ = some (.slice A0_2 l0_2.length c0_2) := (blk_cell BK365.out 2).trans rfl
                            have hcz177_3 : w174.cell? ⟨gb365, 3, none⟩ = some (.bool a0_3) := (blk_cell BK365.out 3).trans rfl
                            have hfz177_0 := blk_frozen BK365.out 0
                            have hfz177_1 := blk_frozen BK365.out 1
                            have hfz177_2 := blk_frozen BK365.out 2
                            have hfz177_3 := blk_frozen BK365.out 3
                            have hnb178 := NB366_367.out
                            have hnc178 := NB367_366.out
                            have hcz179_0 : w174.cell? ⟨gb366, 0, none⟩ = some (.int .i64 a1_0) := (blk_cell BK366.out 0).trans rfl
                            have hcz179_1 : w174.cell? ⟨gb366, 1, none⟩ = some (.slice A1_1 l1_1.length c1_1) := (blk_cell BK366.out 1).trans rfl
                            have hcz179_2 : w174.cell? ⟨gb366, 2, none⟩ = some (.slice A1_2 l1_2.length c1_2) := (blk_cell BK366.out 2).trans rfl
                            have hcz179_3 : w174.cell? ⟨gb366, 3, none⟩ = some (.bool a1_3) := (blk_cell BK366.out 3).trans rfl
                            have hfz179_0 := blk_frozen BK366.out 0
                            have hfz179_1 := blk_frozen BK366.out 1
                            have hfz179_2 := blk_frozen BK366.out 2
                            have hfz179_3 := blk_frozen BK366.out 3
                            try go_wp2_with (first | ((with_reducible refine gate_callee (f := 22) rfl ?_); refine goesL_ (some 66) rfl rfl Try.func22 (by kernel_rfl) rfl #[.agg #[.int .i64 a0_0, .slice A0_1 l0_1.length c0_1, .slice A0_2 l0_2.length c0_2, .bool a0_3], .agg #[.int .i64 a1_0, .slice A1_1 l1_1.length c1_1, .slice A1_2 l1_2.length c1_2, .bool a1_3]] rfl (by (try simp only [List.map_toArray, List.map_cons, List.map_nil]); first | done | rfl | (simp only [List.length_drop, List.length_take]; rfl)) ?_; (with_reducible refine (span_Covers.calls a0_0 _ _ l0_1 _ _ l0_2 a0_3 a1_0 _ _ l1_1 _ _ l1_2 a1_3 true _ ?side1 ?side2 ?side3 ?side4 ?side5 ?side6 ?side7 ?side8 A104.out).mono ?_); (case side1 => repeat (first | exact (Kd.C_below HR0_1.out HB.out) | (with_reducible refine Kd.C_alloc ?_ _) | (with_reducible refine Kd.C_drewN ?_ _) | (with_reducible refine Kd.C_drew ?_))); (case side2 => exact HC0_1.out); (case side3 => repeat (first | exact (Kd.C_below HR0_2.out HB.out) | (with_reducible refine Kd.C_alloc ?_ _) | (with_reducible refine Kd.C_drewN ?_ _) | (with_reducible refine Kd.C_drew ?_))); (case side4 => exact HC0_2.out); (case side5 => repeat (first | exact (Kd.C_below HR1_1.out HB.out) | (with_reducible refine Kd.C_alloc ?_ _) | (with_reducible refine Kd.C_drewN ?_ _) | (with_reducible refine Kd.C_drew ?_))); (case side6 => exact HC1_1.out); (case side7 => repeat (first | exact (Kd.C_below HR1_2.out HB.out) | (with_reducible refine Kd.C_alloc ?_ _) | (with_reducible refine Kd.C_drewN ?_ _) | (with_reducible refine Kd.C_drew ?_))); (case side8 => exact HC1_2.out); rintro e w180 ⟨rfl, hb⟩; refine ⟨_, rfl, ?_⟩; have n0_ := Aside0.mk (blk_below (g := gb365) (o := .cells #[.int .i64 a0_0, .slice A0_1 l0_1.length c0_1, .slice A0_2 l0_2.length c0_2, .bool a0_3] 24 (0, 0)) (by (with_reducible repeat (first | refine blk_drewN ?_ _ | refine blk_drew ?_ | refine blk_alloc ?_ _)); exact BK365.out) hb); have n1_ := Aside0.mk (blk_below (g := gb366) (o := .cells #[.int .i64 a1_0, .slice A1_1 l1_1.length c1_1, .slice A1_2 l1_2.length c1_2, .bool a1_3] 24 (0, 0)) (by (with_reducible repeat (first | refine blk_drewN ?_ _ | refine blk_drew ?_ | refine blk_alloc ?_ _)); exact BK366.out) hb); have n2_ := Aside0.mk (blk_below (g := gb367) (o := .cells #[.int .i64 a2_0, .slice A2_1 l2_1.length c2_1, .slice A2_2 l2_2.length c2_2, .bool a2_3] 24 (0, 0)) (by (with_reducible repeat (first | refine blk_drewN ?_ _ | refine blk_drew ?_ | refine blk_alloc ?_ _)); exact BK367.out) hb); have n3_ := Aside0.mk (below_step (by repeat (first | (with_reducible first | exact HB.out | apply below_alloc | apply pw_below_drewN | apply below_drew1 | refine below_set ?_ GE365.out | refine below_set ?_ GE366.out | refine below_set ?_ GE367.out) | exact HB.out)) hb); clear BK365; clear BK366; clear BK367; clear HB; have BK365 := n0_; have BK366 := n1_; have BK367 := n2_; have HB := n3_; clear n0_ n1_ n2_ n3_; (try clear hb); (try clear hb2); (try clear hk); (try clear hi); have hcz181_0 : w180.cell? ⟨gb366, 0, none⟩ = some (.int .i64 a1_0) := (blk_cell BK366.out 0).trans rfl; have hcz181_1 : w180.cell? ⟨gb366, 1, none⟩ = some (.slice A1_1 l1_1.length c1_1) := (blk_cell BK366.out 1).trans rfl; have hcz181_2 : w180.cell? ⟨gb366, 2, none⟩ = some (.slice A1_2 l1_2.length c1_2) := (blk_cell BK366.out 2).trans rfl; have hcz181_3 : w180.cell? ⟨gb366, 3, none⟩ = some (.bool a1_3) := (blk_cell BK366.out 3).trans rfl; have hfz181_0 := blk_frozen BK366.out 0; have hfz181_1 := blk_frozen BK366.out 1; have hfz181_2 := blk_frozen BK366.out 2; have hfz181_3 := blk_frozen BK366.out 3) | (go_at_call 16; (with_reducible refine (span_Empty.calls a1_0 _ _ l1_1 _ _ l1_2 a1_3 false _ ?side1 ?side2 ?side3 ?side4 A106.out).mono ?_); (case side1 => repeat (first | exact (Kd.C_below HR1_1.out HB.out) | (with_reducible refine Kd.C_alloc ?_ _) | (with_reducible refine Kd.C_drewN ?_ _) | (with_reducible refine Kd.C_drew ?_))); (case side2 => exact HC1_1.out); (case side3 => repeat (first | exact (Kd.C_below HR1_2.out HB.out) | (with_reducible refine Kd.C_alloc ?_ _) | (with_reducible refine Kd.C_drewN ?_ _) | (with_reducible refine Kd.C_drew ?_))); (case side4 => exact HC1_2.out); rintro e w182 ⟨rfl, hb⟩; have n0_ := Aside0.mk (blk_below (g := gb365) (o := .cells #[.int .i64 a0_0, .slice A0_1 l0_1.length c0_1, .slice A0_2 l0_2.length c0_2, .bool a0_3] 24 (0, 0)) (by (with_reducible repeat (first | refine blk_drewN ?_ _ | refine blk_drew ?_ | refine blk_alloc ?_ _)); exact BK365.out) hb); have n1_ := Aside0.mk (blk_below (g := gb366) (o := .cells #[.int .i64 a1_0, .slice A1_1 l1_1.length c1_1, .slice A1_2 l1_2.length c1_2, .bool a1_3] 24 (0, 0)) (by (with_reducible repeat (first | refine blk_drewN ?_ _ | refine blk_drew ?_ | refine blk_alloc ?_ _)); exact BK366.out) hb); have n2_ := Aside0.mk (blk_below (g := gb367) (o := .cells #[.int .i64 a2_0, .slice A2_1 l2_1.length c2_1, .slice A2_2 l2_2.length c2_2, .bool a2_3] 24 (0, 0)) (by (with_reducible repeat (first | refine blk_drewN ?_ _ | refine blk_drew ?_ | refine blk_alloc ?_ _)); exact BK367.out) hb); have n3_ := Aside0.mk (below_step (by repeat (first | (with_reducible first | exact HB.out | apply below_alloc | apply pw_below_drewN | apply below_drew1 | refine below_set ?_ GE365.out | refine below_set ?_ GE366.out | refine below_set ?_ GE367.out) | exact HB.out)) hb); clear BK365; clear BK366; clear BK367; clear HB; have BK365 := n0_; have BK366 := n1_; have BK367 := n2_; have HB := n3_; clear n0_ n1_ n2_ n3_; (try clear hb); (try clear hb2); (try clear hk); (try clear hi); have hcz183_0 : w182.cell? ⟨gb365, 0, none⟩ = some (.int .i64 a0_0) := (blk_cell BK365.out 0).trans rfl; have hcz183_1 : w182.cell? ⟨gb365, 1, none⟩ = some (.slice A0_1 l0_1.length c0_1) := (blk_cell BK365.out 1).trans rfl; have hcz183_2 : w182.cell? ⟨gb365, 2, none⟩ = some (.slice A0_2 l0_2.length c0_2) := (blk_cell BK365.out 2).trans rfl; have hcz183_3 : w182.cell? ⟨gb365, 3, none⟩ = some (.bool a0_3) := (blk_cell BK365.out 3).trans rfl; have hfz183_0 := blk_frozen BK365.out 0; have hfz183_1 := blk_frozen BK365.out 1; have hfz183_2 := blk_frozen BK365.out 2; have hfz183_3 := blk_frozen BK365.out 3; have hcz184_0 : w182.cell? ⟨gb366, 0, none⟩ = some (.int .i64 a1_0) := (blk_cell BK366.out 0).trans rfl; have hcz184_1 : w182.cell? ⟨gb366, 1, none⟩ = some (.slice A1_1 l1_1.length c1_1) := (blk_cell BK366.out 1).trans rfl; have hcz184_2 : w182.cell? ⟨gb366, 2, none⟩ = some (.slice A1_2 l1_2.length c1_2) := (blk_cell BK366.out 2).trans rfl; have hcz184_3 : w182.cell? ⟨gb366, 3, none⟩ = some (.bool a1_3) := (blk_cell BK366.out 3).trans rfl; have hfz184_0 := blk_frozen BK366.out 0; have hfz184_1 := blk_frozen BK366.out 1; have hfz184_2 := blk_frozen BK366.out 2; have hfz184_3 := blk_frozen BK366.out 3) | (go_at_call 20; (with_reducible refine (span_Meets.calls a0_0 _ _ l0_1 _ _ l0_2 a0_3 a1_0 _ _ l1_1 _ _ l1_2 a1_3 t382 _ ?side1 ?side2 ?side3 ?side4 ?side5 ?side6 ?side7 ?side8 A167.out).mono ?_); (case side1 => repeat (first | exact (Kd.C_below HR0_1.out HB.out) | (with_reducible refine Kd.C_alloc ?_ _) | (with_reducible refine Kd.C_drewN ?_ _) | (with_reducible refine Kd.C_drew ?_))); (case side2 => exact HC0_1.out); (case side3 => repeat (first | exact (Kd.C_below HR0_2.out HB.out) | (with_reducible refine Kd.C_alloc ?_ _) | (with_reducible refine Kd.C_drewN ?_ _) | (with_reducible refine Kd.C_drew ?_))); (case side4 => exact HC0_2.out); (case side5 => repeat (first | exact (Kd.C_below HR1_1.out HB.out) | (with_reducible refine Kd.C_alloc ?_ _) | (with_reducible refine Kd.C_drewN ?_ _) | (with_reducible refine Kd.C_drew ?_))); (case side6 => exact HC1_1.out); (case side7 => repeat (first | exact (Kd.C_below HR1_2.out HB.out) | (with_reducible refine Kd.C_alloc ?_ _) | (with_reducible refine Kd.C_drewN ?_ _) | (with_reducible refine Kd.C_drew ?_))); (case side8 => exact HC1_2.out); rintro e w185 ⟨rfl, hb⟩; have n0_ := Aside0.mk (blk_below (g := gb365) (o := .cells #[.int .i64 a0_0, .slice A0_1 l0_1.length c0_1, .slice A0_2 l0_2.length c0_2, .bool a0_3] 24 (0, 0)) (by (with_reducible repeat (first | refine blk_drewN ?_ _ | refine blk_drew ?_ | refine blk_alloc ?_ _)); exact BK365.out) hb); have n1_ := Aside0.mk (blk_below (g := gb366) (o := .cells #[.int .i64 a1_0, .slice A1_1 l1_1.length c1_1, .slice A1_2 l1_2.length c1_2, .bool a1_3] 24 (0, 0)) (by (with_reducible repeat (first | refine blk_drewN ?_ _ | refine blk_drew ?_ | refine blk_alloc ?_ _)); exact BK366.out) hb); have n2_ := Aside0.mk (blk_below (g := gb367) (o := .cells #[.int .i64 a2_0, .slice A2_1 l2_1.length c2_1, .slice A2_2 l2_2.length c2_2, .bool a2_3] 24 (0, 0)) (by (with_reducible repeat (first | refine blk_drewN ?_ _ | refine blk_drew ?_ | refine blk_alloc ?_ _)); exact BK367.out) hb); have n3_ := Aside0.mk (below_step (by repeat (first | (with_reducible first | exact HB.out | apply below_alloc | apply pw_below_drewN | apply below_drew1 | refine below_set ?_ GE365.out | refine below_set ?_ GE366.out | refine below_set ?_ GE367.out) | exact HB.out)) hb); clear BK365; clear BK366; clear BK367; clear HB; have BK365 := n0_; have BK366 := n1_; have BK367 := n2_; have HB := n3_; clear n0_ n1_ n2_ n3_; (try clear hb); (try clear hb2); (try clear hk); (try clear hi)))
                            go_ret
                            exact ⟨by first | rfl | (simp [errW_none, errW_some] <;> rfl) | (simp [*, errW_none, errW_some] <;> rfl), by repeat (first | (with_reducible first | exact HB.out | apply below_alloc | apply pw_below_drewN | apply below_drew1 | refine below_set ?_ GE365.out | refine below_set ?_ GE366.out | refine below_set ?_ GE367.out) | exact HB.out)⟩
                          · rw [if_neg c171] at H
                            rw [HTr_] at H
                            exact absurd (Option.some.inj H) (by decide)
                        · replace c170 := Bool.eq_false_iff.mpr c170
                          subst c170
                          have H1 : (some false) = some r := by rw [if_neg (show ¬ (false = true) by decide)] at H; exact H
                          rw [HTr_] at H1
                          exact absurd (Option.some.inj H1) (by decide)
                      · replace c169 := Bool.eq_false_iff.mpr c169
                        subst c169
                        have H1 : (some false) = some r := by rw [if_neg (show ¬ (false = true) by decide)] at H; exact H
                        rw [HTr_] at H1
                        exact absurd (Option.some.inj H1) (by decide)
                    · replace c168 := Bool.eq_false_iff.mpr c168
                      subst c168
                      have H1 : (some false) = some r := by rw [if_neg (show ¬ (false = true) by decide)] at H; exact H
                      rw [HTr_] at H1
                      exact absurd (Option.some.inj H1) (by decide)
                · replace c105 := Bool.eq_false_iff.mpr c105
                  subst c105
                  have H1 : (if t368 = true then (if x8_35 = true then (if x9_68 = true then (if (t378 == (!t379)) = true then (some true) else (some false)) else (some false)) else (some false)) else (some false)) = some r := by rw [if_neg (show ¬ (false = true) by decide)] at H; exact H
                  clear H
                  have H := H1
                  clear H1
                  by_cases c242 : t368 = true
                  · subst c242
                    have H1 : (if x8_35 = true then (if x9_68 = true then (if (t378 == (!t379)) = true then (some true) else (some false)) else (some false)) else (some false)) = some r := by rw [if_pos rfl] at H; exact H
                    clear H
                    have H := H1
                    clear H1
                    by_cases c243 : x8_35 = true
                    · subst c243
                      have H1 : (if x9_68 = true then (if (t378 == (!t379)) = true then (some true) else (some false)) else (some false)) = some r := by rw [if_pos rfl] at H; exact H
                      clear H
                      have H := H1
                      clear H1
                      by_cases c244 : x9_68 = true
                      · subst c244
                        have H1 : (if (t378 == (!t379)) = true then (some true) else (some false)) = some r := by rw [if_pos rfl] at H; exact H
                        clear H
                        have H := H1
                        clear H1
                        by_cases c245 : (t378 == (!t379)) = true
                        · rw [if_pos c245] at H
                          have c245b0 : (t378 == (!t379)) = true := c245
                          (try (have c245b1 : decide (t378 = (!t379)) = true := by simpa using c245))
                          (try (have c245b2 : (t378 == (!t379)) = true := by simpa using c245))
                          clear c245
                          obtain rfl := Option.some.inj H
                          try go_wp2
                          have n0_ := Aside0.mk (blk_drew BK365.out)
                          have n1_ := Aside0.mk (blk_drew BK366.out)
                          have n2_ := Aside0.mk (blk_drew BK367.out)
                          have n3_ := Aside0.mk (below_drew1 HB.out)
                          clear BK365
                          clear BK366
                          clear BK367
                          clear HB
                          have BK365 := n0_
                          have BK366 := n1_
                          have BK367 := n2_
                          have HB := n3_
                          clear n0_ n1_ n2_ n3_
                          refine start_ (n := 8) (S := fun w' => w'.cell? ⟨gb365, 0, none⟩ = some (.int .i64 a0_0) ∧ w'.cell? ⟨gb365, 1, none⟩ = some (.slice A0_1 l0_1.length c0_1) ∧ w'.cell? ⟨gb365, 2, none⟩ = some (.slice A0_2 l0_2.length c0_2) ∧ w'.cell? ⟨gb365, 3, none⟩ = some (.bool a0_3)) (ds := []) #[false, false, false, false, false, false, false, false] (by kernel_rfl) rfl rfl ⟨(blk_cell BK365.out 0).trans rfl, (blk_cell BK365.out 1).trans rfl, (blk_cell BK365.out 2).trans rfl, (blk_cell BK365.out 3).trans rfl⟩ (fun hHeld => ?_); refine with_tabW banksmanlaw10_SpanOn.tab6 banksmanlaw10_SpanOn.bits6 (fun HT_ HW_ => ?_)
                          generalize wc.drew = w246 at BK365 BK366 BK367 HB hHeld ⊢
                          refine take_ (i := 0) (N := some 57) (v := ?_) (a' := ?_) #[true, false, false, false, false, false, false, false] rfl rfl (take_ofW HT_.out HW_.out (by kernel_rfl)) (fun _ _ _ h => h) (Or.inl ⟨by rfl, ?_⟩) hHeld ?_ ?_
                          rotate_left
                          · rintro w' ⟨s0, s1, s2, s3⟩
                            go_simp
                            with_reducible rfl
                          rotate_left
                          · simp only [Act.put, List.setIfInBounds_toArray, List.set_cons_zero, List.set_cons_succ, i64_w, i32_w]
                            rfl
                          refine take_ (i := 1) (N := some 58) (v := ?_) (a' := ?_) #[true, true, false, false, false, false, false, false] rfl rfl (take_ofW HT_.out HW_.out (by kernel_rfl)) (fun _ _ _ h => h) (Or.inl ⟨by rfl, ?_⟩) hHeld ?_ ?_
                          rotate_left
                          · rintro w' ⟨s0, s1, s2, s3⟩
                            go_simp
                            with_reducible rfl
                          rotate_left
                          · simp only [Act.put, List.setIfInBounds_toArray, List.set_cons_zero, List.set_cons_succ, i64_w, i32_w]
                            rfl
                          refine take_ (i := 3) (N := some 60) (v := ?_) (a' := ?_) #[true, true, false, true, false, false, false, false] rfl rfl (take_ofW HT_.out HW_.out (by kernel_rfl)) (fun _ _ _ h => h) (Or.inl ⟨by rfl, ?_⟩) hHeld ?_ ?_
                          rotate_left
                          · rintro w' ⟨s0, s1, s2, s3⟩
                            go_simp
                            with_reducible rfl
                          rotate_left
                          · simp only [Act.put, List.setIfInBounds_toArray, List.set_cons_zero, List.set_cons_succ, i64_w, i32_w]
                            rfl
                          refine one_ (i := 2) (N := some 59) #[true, true, true, true, false, false, false, false] rfl rfl (one_of HT_.out (by kernel_rfl)) (by decide) (fun K hK => ?_)
                          refine goes_ Try.func20 (by kernel_rfl) rfl #[.agg #[.int .i64 a0_0, .slice A0_1 l0_1.length c0_1, .slice A0_2 l0_2.length c0_2, .bool a0_3], .agg #[.int .i64 a0_0, .slice A0_1 l0_1.length c0_1, .slice A0_2 l0_2.length c0_2, .bool a0_3]] (by rfl) rfl rfl (by (try simp only [List.map_toArray, List.map_cons, List.map_nil]); first | done | rfl | (simp only [List.length_drop, List.length_take]; rfl)) ?_
                          with_reducible refine (span_Meets.calls a0_0 _ _ l0_1 _ _ l0_2 a0_3 a0_0 _ _ l0_1 _ _ l0_2 a0_3 t378 _ ?side1 ?side2 ?side3 ?side4 ?side5 ?side6 ?side7 ?side8 A102.out).mono ?_
                          (case side1 => repeat (first | exact (Kd.C_below HR0_1.out HB.out) | (with_reducible refine Kd.C_alloc ?_ _) | (with_reducible refine Kd.C_drewN ?_ _) | (with_reducible refine Kd.C_drew ?_)))
                          (case side2 => exact HC0_1.out)
                          (case side3 => repeat (first | exact (Kd.C_below HR0_2.out HB.out) | (with_reducible refine Kd.C_alloc ?_ _) | (with_reducible refine Kd.C_drewN ?_ _) | (with_reducible refine Kd.C_drew ?_)))
                          (case side4 => exact HC0_2.out)
                          (case side5 => repeat (first | exact (Kd.C_below HR0_1.out HB.out) | (with_reducible refine Kd.C_alloc ?_ _) | (with_reducible refine Kd.C_drewN ?_ _) | (with_reducible refine Kd.C_drew ?_)))
                          (case side6 => exact HC0_1.out)
                          (case side7 => repeat (first | exact (Kd.C_below HR0_2.out HB.out) | (with_reducible refine Kd.C_alloc ?_ _) | (with_reducible refine Kd.C_drewN ?_ _) | (with_reducible refine Kd.C_drew ?_)))
                          (case side8 => exact HC0_2.out)
                          rintro e w247 ⟨rfl, hb⟩
                          refine ⟨_, rfl, ?_⟩
                          have n0_ := Aside0.mk (blk_below (g := gb365) (o := .cells #[.int .i64 a0_0, .slice A0_1 l0_1.length c0_1, .slice A0_2 l0_2.length c0_2, .bool a0_3] 24 (0, 0)) (by (with_reducible repeat (first | refine blk_drewN ?_ _ | refine blk_drew ?_ | refine blk_alloc ?_ _)); exact BK365.out) hb)
                          have n1_ := Aside0.mk (blk_below (g := gb366) (o := .cells #[.int .i64 a1_0, .slice A1_1 l1_1.length c1_1, .slice A1_2 l1_2.length c1_2, .bool a1_3] 24 (0, 0)) (by (with_reducible repeat (first | refine blk_drewN ?_ _ | refine blk_drew ?_ | refine blk_alloc ?_ _)); exact BK366.out) hb)
                          have n2_ := Aside0.mk (blk_below (g := gb367) (o := .cells #[.int .i64 a2_0, .slice A2_1 l2_1.length c2_1, .slice A2_2 l2_2.length c2_2, .bool a2_3] 24 (0, 0)) (by (with_reducible repeat (first | refine blk_drewN ?_ _ | refine blk_drew ?_ | refine blk_alloc ?_ _)); exact BK367.out) hb)
                          have n3_ := Aside0.mk (below_step (by repeat (first | (with_reducible first | exact HB.out | apply below_alloc | apply pw_below_drewN | apply below_drew1 | refine below_set ?_ GE365.out | refine below_set ?_ GE366.out | refine below_set ?_ GE367.out) | exact HB.out)) hb)
                          clear BK365
                          clear BK366
                          clear BK367
                          clear HB
                          have BK365 := n0_
                          have BK366 := n1_
                          have BK367 := n2_
                          have HB := n3_
                          clear n0_ n1_ n2_ n3_
                          (try clear hb)
                          (try clear hb2)
                          (try clear hk)
                          (try clear hi)
                          refine hK.out _ _ ⟨(blk_cell BK365.out 0).trans rfl, (blk_cell BK365.out 1).trans rfl, (blk_cell BK365.out 2).trans rfl, (blk_cell BK365.out 3).trans rfl⟩ (fun hHeld => ?_)
                          clear hK K
                          refine norm_ (a' := ?_) ?_ ?_
                          rotate_left
                          · show Act.put _ (some 59) _ = _
                            simp only [Act.put, List.setIfInBounds_toArray, List.set_cons_zero, List.set_cons_succ, i64_w, i32_w]
                            rfl
                          refine one_ (i := 4) (N := some 61) #[true, true, true, true, true, false, false, false] rfl rfl (one_of HT_.out (by kernel_rfl)) (by decide) (fun K hK => ?_)
                          refine goes_ Try.func16 (by kernel_rfl) rfl #[.agg #[.int .i64 a0_0, .slice A0_1 l0_1.length c0_1, .slice A0_2 l0_2.length c0_2, .bool a0_3]] (by rfl) rfl rfl (by (try simp only [List.map_toArray, List.map_cons, List.map_nil]); first | done | rfl | (simp only [List.length_drop, List.length_take]; rfl)) ?_
                          with_reducible refine (span_Empty.calls a0_0 _ _ l0_1 _ _ l0_2 a0_3 t379 _ ?side1 ?side2 ?side3 ?side4 A103.out).mono ?_
                          (case side1 => repeat (first | exact (Kd.C_below HR0_1.out HB.out) | (with_reducible refine Kd.C_alloc ?_ _) | (with_reducible refine Kd.C_drewN ?_ _) | (with_reducible refine Kd.C_drew ?_)))
                          (case side2 => exact HC0_1.out)
                          (case side3 => repeat (first | exact (Kd.C_below HR0_2.out HB.out) | (with_reducible refine Kd.C_alloc ?_ _) | (with_reducible refine Kd.C_drewN ?_ _) | (with_reducible refine Kd.C_drew ?_)))
                          (case side4 => exact HC0_2.out)
                          rintro e w248 ⟨rfl, hb⟩
                          refine ⟨_, rfl, ?_⟩
                          have n0_ := Aside0.mk (blk_below (g := gb365) (o := .cells #[.int .i64 a0_0, .slice A0_1 l0_1.length c0_1, .slice A0_2 l0_2.length c0_2, .bool a0_3] 24 (0, 0)) (by (with_reducible repeat (first | refine blk_drewN ?_ _ | refine blk_drew ?_ | refine blk_alloc ?_ _)); exact BK365.out) hb)
                          have n1_ := Aside0.mk (blk_below (g := gb366) (o := .cells #[.int .i64 a1_0, .slice A1_1 l1_1.length c1_1, .slice A1_2 l1_2.length c1_2, .bool a1_3] 24 (0, 0)) (by (with_reducible repeat (first | refine blk_drewN ?_ _ | refine blk_drew ?_ | refine blk_alloc ?_ _)); exact BK366.out) hb)
                          have n2_ := Aside0.mk (blk_below (g := gb367) (o := .cells #[.int .i64 a2_0, .slice A2_1 l2_1.length c2_1, .slice A2_2 l2_2.length c2_2, .bool a2_3] 24 (0, 0)) (by (with_reducible repeat (first | refine blk_drewN ?_ _ | refine blk_drew ?_ | refine blk_alloc ?_ _)); exact BK367.out) hb)
                          have n3_ := Aside0.mk (below_step (by repeat (first | (with_reducible first | exact HB.out | apply below_alloc | apply pw_below_drewN | apply below_drew1 | refine below_set ?_ GE365.out | refine below_set ?_ GE366.out | refine below_set ?_ GE367.out) | exact HB.out)) hb)
                          clear BK365
                          clear BK366
                          clear BK367
                          clear HB
                          have BK365 := n0_
                          have BK366 := n1_
                          have BK367 := n2_
                          have HB := n3_
                          clear n0_ n1_ n2_ n3_
                          (try clear hb)
                          (try clear hb2)
                          (try clear hk)
                          (try clear hi)
                          refine hK.out _ _ ⟨(blk_cell BK365.out 0).trans rfl, (blk_cell BK365.out 1).trans rfl, (blk_cell BK365.out 2).trans rfl, (blk_cell BK365.out 3).trans rfl⟩ (fun hHeld => ?_)
                          clear hK K
                          refine norm_ (a' := ?_) ?_ ?_
                          rotate_left
                          · show Act.put _ (some 61) _ = _
                            simp only [Act.put, List.setIfInBounds_toArray, List.set_cons_zero, List.set_cons_succ, i64_w, i32_w]
                            rfl
                          refine pure_ (i := 5) (N := some 62) (v := ?_) (a' := ?_) #[true, true, true, true, true, true, false, false] rfl rfl (any_of HT_.out (by kernel_rfl)) (fun _ _ _ h => h) (Or.inl ⟨by rfl, ?_⟩) ?_ ?_
                          rotate_left
                          · intro w'
                            go_simp
                            with_reducible rfl
                          rotate_left
                          · simp only [Act.put, List.setIfInBounds_toArray, List.set_cons_zero, List.set_cons_succ, i64_w, i32_w]
                            rfl
                          refine pure_ (i := 6) (N := some 63) (v := ?_) (a' := ?_) #[true, true, true, true, true, true, true, false] rfl rfl (any_of HT_.out (by kernel_rfl)) (fun _ _ _ h => h) (Or.inl ⟨by rfl, ?_⟩) ?_ ?_
                          rotate_left
                          · intro w'
                            go_simp
                            with_reducible rfl
                          rotate_left
                          · simp only [Act.put, List.setIfInBounds_toArray, List.set_cons_zero, List.set_cons_succ, i64_w, i32_w]
                            rfl
                          refine pure_ (i := 7) (N := some 10) (v := ?_) (a' := ?_) #[true, true, true, true, true, true, true, true] rfl rfl (any_of HT_.out (by kernel_rfl)) (fun _ _ _ h => h) (Or.inl ⟨by rfl, ?_⟩) ?_ ?_
                          rotate_left
                          · intro w'
                            go_simp
                            with_reducible rfl
                          rotate_left
                          · simp only [Act.put, List.setIfInBounds_toArray, List.set_cons_zero, List.set_cons_succ, i64_w, i32_w]
                            rfl
                          refine done_ (done_of HT_.out (by kernel_rfl)) ?_
                          have hnb249 := NB365_366.out
                          have hnc249 := NB366_365.out
                          have hnb250 := NB365_367.out
                          have hnc250 := NB367_365.out
                          have hcz251_0 : w248.cell? ⟨gb365, 0, none⟩ = some (.int .i64 a0_0) := (blk_cell BK365.out 0).trans rfl
                          have hcz251_1 : w248.cell? ⟨gb365, 1, none⟩ = some (.slice A0_1 l0_1.length c0_1) := (blk_cell BK365.out 1).trans rfl
                          have hcz251_2 : w248.cell? ⟨gb365, 2, none⟩ = some (.slice A0_2 l0_2.length c0_2) := (blk_cell BK365.out 2).trans rfl
                          have hcz251_3 : w248.cell? ⟨gb365, 3, none⟩ = some (.bool a0_3) := (blk_cell BK365.out 3).trans rfl
                          have hfz251_0 := blk_frozen BK365.out 0
                          have hfz251_1 := blk_frozen BK365.out 1
                          have hfz251_2 := blk_frozen BK365.out 2
                          have hfz251_3 := blk_frozen BK365.out 3
                          have hnb252 := NB366_367.out
                          have hnc252 := NB367_366.out
                          have hcz253_0 : w248.cell? ⟨gb366, 0, none⟩ = some (.int .i64 a1_0) := (blk_cell BK366.out 0).trans rfl
                          have hcz253_1 : w248.cell? ⟨gb366, 1, none⟩ = some (.slice A1_1 l1_1.length c1_1) := (blk_cell BK366.out 1).trans rfl
                          have hcz253_2 : w248.cell? ⟨gb366, 2, none⟩ = some (.slice A1_2 l1_2.length c1_2) := (blk_cell BK366.out 2).trans rfl
                          have hcz253_3 : w248.cell? ⟨gb366, 3, none⟩ = some (.bool a1_3) := (blk_cell BK366.out 3).trans rfl
                          have hfz253_0 := blk_frozen BK366.out 0
                          have hfz253_1 := blk_frozen BK366.out 1
                          have hfz253_2 := blk_frozen BK366.out 2
                          have hfz253_3 := blk_frozen BK366.out 3
                          try go_wp2_with (first | ((with_reducible refine gate_callee (f := 22) rfl ?_); refine goesL_ (some 66) rfl rfl Try.func22 (by kernel_rfl) rfl #[.agg #[.int .i64 a0_0, .slice A0_1 l0_1.length c0_1, .slice A0_2 l0_2.length c0_2, .bool a0_3], .agg #[.int .i64 a1_0, .slice A1_1 l1_1.length c1_1, .slice A1_2 l1_2.length c1_2, .bool a1_3]] rfl (by (try simp only [List.map_toArray, List.map_cons, List.map_nil]); first | done | rfl | (simp only [List.length_drop, List.length_take]; rfl)) ?_; (with_reducible refine (span_Covers.calls a0_0 _ _ l0_1 _ _ l0_2 a0_3 a1_0 _ _ l1_1 _ _ l1_2 a1_3 false _ ?side1 ?side2 ?side3 ?side4 ?side5 ?side6 ?side7 ?side8 A104.out).mono ?_); (case side1 => repeat (first | exact (Kd.C_below HR0_1.out HB.out) | (with_reducible refine Kd.C_alloc ?_ _) | (with_reducible refine Kd.C_drewN ?_ _) | (with_reducible refine Kd.C_drew ?_))); (case side2 => exact HC0_1.out); (case side3 => repeat (first | exact (Kd.C_below HR0_2.out HB.out) | (with_reducible refine Kd.C_alloc ?_ _) | (with_reducible refine Kd.C_drewN ?_ _) | (with_reducible refine Kd.C_drew ?_))); (case side4 => exact HC0_2.out); (case side5 => repeat (first | exact (Kd.C_below HR1_1.out HB.out) | (with_reducible refine Kd.C_alloc ?_ _) | (with_reducible refine Kd.C_drewN ?_ _) | (with_reducible refine Kd.C_drew ?_))); (case side6 => exact HC1_1.out); (case side7 => repeat (first | exact (Kd.C_below HR1_2.out HB.out) | (with_reducible refine Kd.C_alloc ?_ _) | (with_reducible refine Kd.C_drewN ?_ _) | (with_reducible refine Kd.C_drew ?_))); (case side8 => exact HC1_2.out); rintro e w254 ⟨rfl, hb⟩; refine ⟨_, rfl, ?_⟩; have n0_ := Aside0.mk (blk_below (g := gb365) (o := .cells #[.int .i64 a0_0, .slice A0_1 l0_1.length c0_1, .slice A0_2 l0_2.length c0_2, .bool a0_3] 24 (0, 0)) (by (with_reducible repeat (first | refine blk_drewN ?_ _ | refine blk_drew ?_ | refine blk_alloc ?_ _)); exact BK365.out) hb); have n1_ := Aside0.mk (blk_below (g := gb366) (o := .cells #[.int .i64 a1_0, .slice A1_1 l1_1.length c1_1, .slice A1_2 l1_2.length c1_2, .bool a1_3] 24 (0, 0)) (by (with_reducible repeat (first | refine blk_drewN ?_ _ | refine blk_drew ?_ | refine blk_alloc ?_ _)); exact BK366.out) hb); have n2_ := Aside0.mk (blk_below (g := gb367) (o := .cells #[.int .i64 a2_0, .slice A2_1 l2_1.length c2_1, .slice A2_2 l2_2.length c2_2, .bool a2_3] 24 (0, 0)) (by (with_reducible repeat (first | refine blk_drewN ?_ _ | refine blk_drew ?_ | refine blk_alloc ?_ _)); exact BK367.out) hb); have n3_ := Aside0.mk (below_step (by repeat (first | (with_reducible first | exact HB.out | apply below_alloc | apply pw_below_drewN | apply below_drew1 | refine below_set ?_ GE365.out | refine below_set ?_ GE366.out | refine below_set ?_ GE367.out) | exact HB.out)) hb); clear BK365; clear BK366; clear BK367; clear HB; have BK365 := n0_; have BK366 := n1_; have BK367 := n2_; have HB := n3_; clear n0_ n1_ n2_ n3_; (try clear hb); (try clear hb2); (try clear hk); (try clear hi)))
                          go_ret
                          exact ⟨by first | rfl | (simp [errW_none, errW_some] <;> rfl) | (simp [*, errW_none, errW_some] <;> rfl), by repeat (first | (with_reducible first | exact HB.out | apply below_alloc | apply pw_below_drewN | apply below_drew1 | refine below_set ?_ GE365.out | refine below_set ?_ GE366.out | refine below_set ?_ GE367.out) | exact HB.out)⟩
                        · rw [if_neg c245] at H
                          rw [HTr_] at H
                          exact absurd (Option.some.inj H) (by decide)
                      · replace c244 := Bool.eq_false_iff.mpr c244
                        subst c244
                        have H1 : (some false) = some r := by rw [if_neg (show ¬ (false = true) by decide)] at H; exact H
                        rw [HTr_] at H1
                        exact absurd (Option.some.inj H1) (by decide)
                    · replace c243 := Bool.eq_false_iff.mpr c243
                      subst c243
                      have H1 : (some false) = some r := by rw [if_neg (show ¬ (false = true) by decide)] at H; exact H
                      rw [HTr_] at H1
                      exact absurd (Option.some.inj H1) (by decide)
                  · replace c242 := Bool.eq_false_iff.mpr c242
                    subst c242
                    have H1 : (some false) = some r := by rw [if_neg (show ¬ (false = true) by decide)] at H; exact H
                    rw [HTr_] at H1
                    exact absurd (Option.some.inj H1) (by decide)

/-- The law, plainly. -/
def banksmanlaw10_SpanOn.Pure : Prop := ∀ (a0_0 : Int) (l0_1 : List Int) (l0_2 : List Int) (a0_3 : Bool) (a1_0 : Int) (l1_1 : List Int) (l1_2 : List Int) (a1_3 : Bool) (a2_0 : Int) (l2_1 : List Int) (l2_2 : List Int) (a2_3 : Bool), (fun n_ : Int => (Lit.int .i64 n_).wf = true) a0_0 → (fun xs_ : List Int => xs_.length ≤ maxLen ∧ ∀ x ∈ xs_, (fun n_ : Int => (Lit.int .u8 n_).wf = true) x) l0_1 → (fun xs_ : List Int => xs_.length ≤ maxLen ∧ ∀ x ∈ xs_, (fun n_ : Int => (Lit.int .u8 n_).wf = true) x) l0_2 → (fun n_ : Int => (Lit.int .i64 n_).wf = true) a1_0 → (fun xs_ : List Int => xs_.length ≤ maxLen ∧ ∀ x ∈ xs_, (fun n_ : Int => (Lit.int .u8 n_).wf = true) x) l1_1 → (fun xs_ : List Int => xs_.length ≤ maxLen ∧ ∀ x ∈ xs_, (fun n_ : Int => (Lit.int .u8 n_).wf = true) x) l1_2 → (fun n_ : Int => (Lit.int .i64 n_).wf = true) a2_0 → (fun xs_ : List Int => xs_.length ≤ maxLen ∧ ∀ x ∈ xs_, (fun n_ : Int => (Lit.int .u8 n_).wf = true) x) l2_1 → (fun xs_ : List Int => xs_.length ≤ maxLen ∧ ∀ x ∈ xs_, (fun n_ : Int => (Lit.int .u8 n_).wf = true) x) l2_2 → ∃ k, banksmanlaw10_SpanOn.f k a0_0 l0_1 l0_2 a0_3 a1_0 l1_1 l1_2 a1_3 a2_0 l2_1 l2_2 a2_3 = some true

end Go.Proofs.Ytomlhapehldlnaa.P
