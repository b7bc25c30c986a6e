-- Written by wip/gprint.py, a program of this session over the kit's print; Lean checks it.
import Derived.Test.YtomlhapehldlnaaPx0
import Derived.Test.YtomlhapehldlnaaPx1
import Derived.Test.YtomlhapehldlnaaPx38
import Derived.Test.YtomlhapehldlnaaPx40
import Derived.Test.YtomlhapehldlnaaPx48
namespace Go.Proofs.Ytomlhapehldlnaa.P
open Go.RowKit Go.Proofs.YtomlhapehldlnaaW.PrintWords Go.Proofs.YtomlhapehldlnaaW.PrintLast Go.Proofs.YtomlhapehldlnaaW.PrintMore
attribute [local go_sem] max2_int min2_int max_two min_two max_three min_three max_four min_four   -- for this text's walks alone
set_option linter.unusedVariables false
set_option linter.unusedSimpArgs false

/-! ### banksmanlaw10_SpanKeeps: function 6 -/
mutual
def banksmanlaw10_SpanKeeps.j0 : Nat → List (S24) → Int → Int → List Int → Bool → Bool → Int → List Int → List Int → Bool → Option (Bool)
  | 0, _, _, _, _, _, _, _, _, _, _ => none
  | k + 1, x0, x2, x3, x4, x11, x34, x349000, x349001, x349002, x349003 => if x34 = true then (some x11) else ((span_Add.f x0 x349000 x349001 x349002 x349003 x2).bind fun bt352 => (if bt352.2 = 0 then ((span_In.f x349000 x349001 x349002 x349003 x3 x4).bind fun t356 => (banksmanlaw10_SpanKeeps.l0 k x0 x2 x3 x4 x11 bt352.1 t356 0 0 x349000 x349001 x349002 x349003)) else (some x11)))
def banksmanlaw10_SpanKeeps.l0 : Nat → List (S24) → Int → Int → List Int → Bool → List (S24) → Bool → Int → Int → Int → List Int → List Int → Bool → Option (Bool)
  | 0, _, _, _, _, _, _, _, _, _, _, _, _, _ => none
  | k + 1, x0, x2, x3, x4, x11, x12, x14, x15, x16, x349000, x349001, x349002, x349003 => if x16 < (x0.length : Int) then (if x14 = true then (if 0 ≤ x16 then (if ((rd_T24 x0 x16).f0) = x349000 then (banksmanlaw10_SpanKeeps.l0 k x0 x2 x3 x4 x11 x12 true (wrap64 (x15 + 1)) (wrap64 (x16 + 1)) x349000 x349001 x349002 x349003) else (banksmanlaw10_SpanKeeps.l0 k x0 x2 x3 x4 x11 x12 true x15 (wrap64 (x16 + 1)) x349000 x349001 x349002 x349003)) else (none)) else (if 0 ≤ x16 then ((span_In.f ((rd_T24 x0 x16).f0) ((rd_T24 x0 x16).f1) ((rd_T24 x0 x16).f2) ((rd_T24 x0 x16).f3) x3 x4).bind fun t359 => (if ((rd_T24 x0 x16).f0) = x349000 then (banksmanlaw10_SpanKeeps.l0 k x0 x2 x3 x4 x11 x12 t359 (wrap64 (x15 + 1)) (wrap64 (x16 + 1)) x349000 x349001 x349002 x349003) else (banksmanlaw10_SpanKeeps.l0 k x0 x2 x3 x4 x11 x12 t359 x15 (wrap64 (x16 + 1)) x349000 x349001 x349002 x349003))) else (none))) else (banksmanlaw10_SpanKeeps.l1 k x2 x3 x4 x11 x12 x14 x15 false 0 0 x349000 x349001 x349002 x349003)
def banksmanlaw10_SpanKeeps.l1 : Nat → Int → Int → List Int → Bool → List (S24) → Bool → Int → Bool → Int → Int → Int → List Int → List Int → Bool → Option (Bool)
  | 0, _, _, _, _, _, _, _, _, _, _, _, _, _, _ => none
  | k + 1, x2, x3, x4, x11, x12, x14, x15, x17, x18, x19, x349000, x349001, x349002, x349003 => if x19 < (x12.length : Int) then (if x17 = true then (if 0 ≤ x19 then (if ((rd_T24 x12 x19).f0) = x349000 then (banksmanlaw10_SpanKeeps.l1 k x2 x3 x4 x11 x12 x14 x15 true (wrap64 (x18 + 1)) (wrap64 (x19 + 1)) x349000 x349001 x349002 x349003) else (banksmanlaw10_SpanKeeps.l1 k x2 x3 x4 x11 x12 x14 x15 true x18 (wrap64 (x19 + 1)) x349000 x349001 x349002 x349003)) else (none)) else (if 0 ≤ x19 then ((span_In.f ((rd_T24 x12 x19).f0) ((rd_T24 x12 x19).f1) ((rd_T24 x12 x19).f2) ((rd_T24 x12 x19).f3) x3 x4).bind fun t363 => (if ((rd_T24 x12 x19).f0) = x349000 then (banksmanlaw10_SpanKeeps.l1 k x2 x3 x4 x11 x12 x14 x15 t363 (wrap64 (x18 + 1)) (wrap64 (x19 + 1)) x349000 x349001 x349002 x349003) else (banksmanlaw10_SpanKeeps.l1 k x2 x3 x4 x11 x12 x14 x15 t363 x18 (wrap64 (x19 + 1)) x349000 x349001 x349002 x349003))) else (none))) else (if x18 = 1 then (if x11 = true then (if x14 = true then (if x17 = true then (if x15 > x2 then (some true) else (some (decide (x18 ≤ x2)))) else (some false)) else (if x17 = true then (if x3 = x349000 then (if x15 > x2 then (some true) else (some (decide (x18 ≤ x2)))) else (some false)) else (if x15 > x2 then (some true) else (some (decide (x18 ≤ x2)))))) else (some false)) else (if x11 = true then (if x14 = true then (if x17 = true then (if x15 > x2 then (some true) else (some (decide (x18 ≤ x2)))) else (some false)) else (if x17 = true then (some false) else (if x15 > x2 then (some true) else (some (decide (x18 ≤ x2)))))) else (some false)))
end
def banksmanlaw10_SpanKeeps.f (k : Nat) (l0 : List (S24)) (a1_0 : Int) (l1_1 : List Int) (l1_2 : List Int) (a1_3 : Bool) (a2 : Int) (a3 : Int) (l4 : List Int) : Option (Bool) := (banksmanlaw10_awake.f).bind fun t349 => ((banksmanref10_Few.f k l0).bind fun t350 => (if t350 = true then ((banksmanlaw10_short.f a1_0 l1_1 l1_2 a1_3).bind fun t351 => (if t351 = true then (banksmanlaw10_SpanKeeps.j0 k l0 a2 a3 l4 t349 (decide ((l4.length : Int) > 100)) a1_0 l1_1 l1_2 a1_3) else (banksmanlaw10_SpanKeeps.j0 k l0 a2 a3 l4 t349 true a1_0 l1_1 l1_2 a1_3))) else (banksmanlaw10_SpanKeeps.j0 k l0 a2 a3 l4 t349 true a1_0 l1_1 l1_2 a1_3)))
set_option maxHeartbeats 8000000 in
set_option maxRecDepth 100000 in
theorem banksmanlaw10_SpanKeeps.calls (k : Nat) (A0 : Option Addr) (c0 : Nat) (l0 : List (S24)) (a1_0 : Int) (A1_1 : Option Addr) (c1_1 : Nat) (l1_1 : List Int) (A1_2 : Option Addr) (c1_2 : Nat) (l1_2 : List Int) (a1_3 : Bool) (a2 : Int) (a3 : Int) (A4 : Option Addr) (c4 : Nat) (l4 : List Int) (r : Bool) (w : World) (hr0 : Kd.C k24 w A0 l0.length l0) (hc0 : l0.length ≤ c0) (hr1_1 : Kd.C (Kd.int .u8) w A1_1 l1_1.length l1_1) (hc1_1 : l1_1.length ≤ c1_1) (hr1_2 : Kd.C (Kd.int .u8) w A1_2 l1_2.length l1_2) (hc1_2 : l1_2.length ≤ c1_2) (hr4 : Kd.C (Kd.int .u8) w A4 l4.length l4) (hc4 : l4.length ≤ c4) (h : banksmanlaw10_SpanKeeps.f k l0 a1_0 l1_1 l1_2 a1_3 a2 a3 l4 = some r) (HTr_ : r = true) :
    Calls Try.prog 6 #[.slice A0 l0.length c0, .agg #[.int .i64 a1_0, .slice A1_1 l1_1.length c1_1, .slice A1_2 l1_2.length c1_2, .bool a1_3], .int .i64 a2, .int .i64 a3, .slice A4 l4.length c4] w fun e w' => e = .returned (.bool r) ∧ Below w.heap.size w w' := by
  have hu24 := Try.underlying24
  have HR0 := Aside0.mk hr0
  have HC0 := Aside0.mk hc0
  clear hr0 hc0
  have HR1_1 := Aside0.mk hr1_1
  have HC1_1 := Aside0.mk hc1_1
  clear hr1_1 hc1_1
  have HR1_2 := Aside0.mk hr1_2
  have HC1_2 := Aside0.mk hc1_2
  clear hr1_2 hc1_2
  have HR4 := Aside0.mk hr4
  have HC4 := Aside0.mk hc4
  clear hr4 hc4
  have HB := Aside0.mk (Below.refl w.heap.size w)
  have H : ((banksmanlaw10_awake.f).bind fun t349 => ((banksmanref10_Few.f k l0).bind fun t350 => (if t350 = true then ((banksmanlaw10_short.f a1_0 l1_1 l1_2 a1_3).bind fun t351 => (if t351 = true then (banksmanlaw10_SpanKeeps.j0 k l0 a2 a3 l4 t349 (decide ((l4.length : Int) > 100)) a1_0 l1_1 l1_2 a1_3) else (banksmanlaw10_SpanKeeps.j0 k l0 a2 a3 l4 t349 true a1_0 l1_1 l1_2 a1_3))) else (banksmanlaw10_SpanKeeps.j0 k l0 a2 a3 l4 t349 true a1_0 l1_1 l1_2 a1_3)))) = some r := h
  clear h
  replace H := Option.bind_eq_some_iff.mp H
  obtain ⟨t349, A60, H⟩ := H
  replace H : ((banksmanref10_Few.f k l0).bind fun t350 => (if t350 = true then ((banksmanlaw10_short.f a1_0 l1_1 l1_2 a1_3).bind fun t351 => (if t351 = true then (banksmanlaw10_SpanKeeps.j0 k l0 a2 a3 l4 t349 (decide ((l4.length : Int) > 100)) a1_0 l1_1 l1_2 a1_3) else (banksmanlaw10_SpanKeeps.j0 k l0 a2 a3 l4 t349 true a1_0 l1_1 l1_2 a1_3))) else (banksmanlaw10_SpanKeeps.j0 k l0 a2 a3 l4 t349 true a1_0 l1_1 l1_2 a1_3))) = some r := H
  have A6 := Aside0.mk A60
  clear A60
  have HC7 := Aside0.mk H
  clear H
  go_enter Try.func6, Try.ntmps6
  go_upto_region 2 with (first | ((with_reducible refine gate_dst (N := 6) rfl ?_); (try (refine gate_guard (by rfl) ?_; dsimp only)); refine box_event ?hg (N := 6) ?hd (cs := #[.int .i64 a1_0, .slice A1_1 l1_1.length c1_1, .slice A1_2 l1_2.length c1_2, .bool a1_3]) (t := 24) ?hr ?_; (case hd => rfl); (case hg => rfl); (case hr => first | (go_simp; done) | (go_simp; rfl)); intro gb348 hg w8 hbox hb; have n0_ := Aside0.mk (below_step (by repeat (first | (with_reducible first | exact HB.out | apply below_alloc | apply pw_below_drewN | apply below_drew1) | exact HB.out)) hb); have n1_ := Aside0.mk (hbox); have n2_ := Aside0.mk ((by rw [hg]; exact (below_size (by repeat (first | (with_reducible first | exact HB.out | apply below_alloc | apply pw_below_drewN | apply below_drew1) | exact HB.out))) : w.heap.size ≤ gb348)); have n3_ := Aside0.mk ((by rw [hg]; exact (below_size (by repeat (first | (with_reducible first | exact HB.out | apply below_alloc | apply pw_below_drewN | apply below_drew1) | exact HB.out))) : w.heap.size ≤ gb348)); clear HB; have HB := n0_; have BK348 := n1_; have GW348 := n2_; have GE348 := n3_; clear n0_ n1_ n2_ n3_; clear hb hbox hg) | (go_at_call 8; (with_reducible refine (banksmanlaw10_awake.calls  t349 _ A6.out).mono ?_); rintro e w9 ⟨rfl, hb⟩; have n0_ := Aside0.mk (blk_below (g := gb348) (o := .cells #[.int .i64 a1_0, .slice A1_1 l1_1.length c1_1, .slice A1_2 l1_2.length c1_2, .bool a1_3] 24 (0, 0)) (by (with_reducible repeat (first | refine blk_drewN ?_ _ | refine blk_drew ?_ | refine blk_alloc ?_ _)); exact BK348.out) hb); have n1_ := Aside0.mk (below_step (by repeat (first | (with_reducible first | exact HB.out | apply below_alloc | apply pw_below_drewN | apply below_drew1 | refine below_set ?_ GE348.out) | exact HB.out)) hb); clear BK348; clear HB; have BK348 := n0_; have HB := n1_; clear n0_ n1_; (try clear hb); (try clear hb2); (try clear hk); (try clear hi)))
  repeat (go_quiet (first | ((with_reducible refine gate_dst (N := 6) rfl ?_); (try (refine gate_guard (by rfl) ?_; dsimp only)); refine box_event ?hg (N := 6) ?hd (cs := #[.int .i64 a1_0, .slice A1_1 l1_1.length c1_1, .slice A1_2 l1_2.length c1_2, .bool a1_3]) (t := 24) ?hr ?_; (case hd => rfl); (case hg => rfl); (case hr => first | (go_simp; done) | (go_simp; rfl)); intro gb348 hg w8 hbox hb; have n0_ := Aside0.mk (below_step (by repeat (first | (with_reducible first | exact HB.out | apply below_alloc | apply pw_below_drewN | apply below_drew1) | exact HB.out)) hb); have n1_ := Aside0.mk (hbox); have n2_ := Aside0.mk ((by rw [hg]; exact (below_size (by repeat (first | (with_reducible first | exact HB.out | apply below_alloc | apply pw_below_drewN | apply below_drew1) | exact HB.out))) : w.heap.size ≤ gb348)); have n3_ := Aside0.mk ((by rw [hg]; exact (below_size (by repeat (first | (with_reducible first | exact HB.out | apply below_alloc | apply pw_below_drewN | apply below_drew1) | exact HB.out))) : w.heap.size ≤ gb348)); clear HB; have HB := n0_; have BK348 := n1_; have GW348 := n2_; have GE348 := n3_; clear n0_ n1_ n2_ n3_; clear hb hbox hg) | (go_at_call 8; (with_reducible refine (banksmanlaw10_awake.calls  t349 _ A6.out).mono ?_); rintro e w9 ⟨rfl, hb⟩; have n0_ := Aside0.mk (blk_below (g := gb348) (o := .cells #[.int .i64 a1_0, .slice A1_1 l1_1.length c1_1, .slice A1_2 l1_2.length c1_2, .bool a1_3] 24 (0, 0)) (by (with_reducible repeat (first | refine blk_drewN ?_ _ | refine blk_drew ?_ | refine blk_alloc ?_ _)); exact BK348.out) hb); have n1_ := Aside0.mk (below_step (by repeat (first | (with_reducible first | exact HB.out | apply below_alloc | apply pw_below_drewN | apply below_drew1 | refine below_set ?_ GE348.out) | exact HB.out)) hb); clear BK348; clear HB; have BK348 := n0_; have HB := n1_; clear n0_ n1_; (try clear hb); (try clear hb2); (try clear hk); (try clear hi))); go_upto_region 2 with (first | ((with_reducible refine gate_dst (N := 6) rfl ?_); (try (refine gate_guard (by rfl) ?_; dsimp only)); refine box_event ?hg (N := 6) ?hd (cs := #[.int .i64 a1_0, .slice A1_1 l1_1.length c1_1, .slice A1_2 l1_2.length c1_2, .bool a1_3]) (t := 24) ?hr ?_; (case hd => rfl); (case hg => rfl); (case hr => first | (go_simp; done) | (go_simp; rfl)); intro gb348 hg w8 hbox hb; have n0_ := Aside0.mk (below_step (by repeat (first | (with_reducible first | exact HB.out | apply below_alloc | apply pw_below_drewN | apply below_drew1) | exact HB.out)) hb); have n1_ := Aside0.mk (hbox); have n2_ := Aside0.mk ((by rw [hg]; exact (below_size (by repeat (first | (with_reducible first | exact HB.out | apply below_alloc | apply pw_below_drewN | apply below_drew1) | exact HB.out))) : w.heap.size ≤ gb348)); have n3_ := Aside0.mk ((by rw [hg]; exact (below_size (by repeat (first | (with_reducible first | exact HB.out | apply below_alloc | apply pw_below_drewN | apply below_drew1) | exact HB.out))) : w.heap.size ≤ gb348)); clear HB; have HB := n0_; have BK348 := n1_; have GW348 := n2_; have GE348 := n3_; clear n0_ n1_ n2_ n3_; clear hb hbox hg) | (go_at_call 8; (with_reducible refine (banksmanlaw10_awake.calls  t349 _ A6.out).mono ?_); rintro e w9 ⟨rfl, hb⟩; have n0_ := Aside0.mk (blk_below (g := gb348) (o := .cells #[.int .i64 a1_0, .slice A1_1 l1_1.length c1_1, .slice A1_2 l1_2.length c1_2, .bool a1_3] 24 (0, 0)) (by (with_reducible repeat (first | refine blk_drewN ?_ _ | refine blk_drew ?_ | refine blk_alloc ?_ _)); exact BK348.out) hb); have n1_ := Aside0.mk (below_step (by repeat (first | (with_reducible first | exact HB.out | apply below_alloc | apply pw_below_drewN | apply below_drew1 | refine below_set ?_ GE348.out) | exact HB.out)) hb); clear BK348; clear HB; have BK348 := n0_; have HB := n1_; clear n0_ n1_; (try clear hb); (try clear hb2); (try clear hk); (try clear hi))))
  (try simp only [Act.put, List.setIfInBounds_toArray, List.set_cons_zero, List.set_cons_succ])
  go_cut [34] (fun v34 wc => ∃ (kq : Nat) (x34_6 : Bool), v34 = .bool x34_6 ∧ Aside0 (banksmanlaw10_SpanKeeps.j0 kq l0 a2 a3 l4 t349 x34_6 a1_0 l1_1 l1_2 a1_3 = some r) ∧ Aside0 (kq ≤ k) ∧ Aside0 (wc.heap[gb348]? = some (.cells #[.int .i64 a1_0, (.slice A1_1 l1_1.length c1_1), (.slice A1_2 l1_2.length c1_2), .bool a1_3] 24 (0, 0))) ∧ Aside0 (Below w.heap.size w wc))
  case first =>
    have H := HC7.out
    clear HC7
    replace H := Option.bind_eq_some_iff.mp H
    obtain ⟨t350, A100, H⟩ := H
    replace H : (if t350 = true then ((banksmanlaw10_short.f a1_0 l1_1 l1_2 a1_3).bind fun t351 => (if t351 = true then (banksmanlaw10_SpanKeeps.j0 k l0 a2 a3 l4 t349 (decide ((l4.length : Int) > 100)) a1_0 l1_1 l1_2 a1_3) else (banksmanlaw10_SpanKeeps.j0 k l0 a2 a3 l4 t349 true a1_0 l1_1 l1_2 a1_3))) else (banksmanlaw10_SpanKeeps.j0 k l0 a2 a3 l4 t349 true a1_0 l1_1 l1_2 a1_3)) = some r := H
    have A10 := Aside0.mk A100
    clear A100
    by_cases c11 : t350 = true
    · subst c11
      have H1 : ((banksmanlaw10_short.f a1_0 l1_1 l1_2 a1_3).bind fun t351 => (if t351 = true then (banksmanlaw10_SpanKeeps.j0 k l0 a2 a3 l4 t349 (decide ((l4.length : Int) > 100)) a1_0 l1_1 l1_2 a1_3) else (banksmanlaw10_SpanKeeps.j0 k l0 a2 a3 l4 t349 true a1_0 l1_1 l1_2 a1_3))) = some r := by rw [if_pos rfl] at H; exact H
      clear H
      have H := H1
      clear H1
      replace H := Option.bind_eq_some_iff.mp H
      obtain ⟨t351, A120, H⟩ := H
      replace H : (if t351 = true then (banksmanlaw10_SpanKeeps.j0 k l0 a2 a3 l4 t349 (decide ((l4.length : Int) > 100)) a1_0 l1_1 l1_2 a1_3) else (banksmanlaw10_SpanKeeps.j0 k l0 a2 a3 l4 t349 true a1_0 l1_1 l1_2 a1_3)) = some r := H
      have A12 := Aside0.mk A120
      clear A120
      by_cases c13 : t351 = true
      · subst c13
        have H1 : (banksmanlaw10_SpanKeeps.j0 k l0 a2 a3 l4 t349 (decide ((l4.length : Int) > 100)) a1_0 l1_1 l1_2 a1_3) = some r := by rw [if_pos rfl] at H; exact H
        clear H
        have H := H1
        clear H1
        have H' := Aside0.mk H
        clear H
        go_wp2_with (first | (go_at_call 24; (with_reducible refine (banksmanref10_Few.calls k _ _ l0 true _ ?side1 ?side2 A10.out).mono ?_); (case side1 => repeat (first | exact (Kd.C_below HR0.out HB.out) | (with_reducible refine Kd.C_alloc ?_ _) | (with_reducible refine Kd.C_drewN ?_ _) | (with_reducible refine Kd.C_drew ?_))); (case side2 => exact HC0.out); rintro e w' ⟨rfl, ⟨nd, rfl⟩⟩; (try first | exact ⟨rfl, _, World.drewN_drewN _ _ _⟩ | exact ⟨rfl, _, Eq.trans (World.drewN_drewN _ _ _) (congrArg (World.drewN _) (Nat.add_assoc _ _ _))⟩); have hcz14_0 : w9.cell? ⟨gb348, 0, none⟩ = some (.int .i64 a1_0) := (blk_cell BK348.out 0).trans rfl; have hcz14_1 : w9.cell? ⟨gb348, 1, none⟩ = some (.slice A1_1 l1_1.length c1_1) := (blk_cell BK348.out 1).trans rfl; have hcz14_2 : w9.cell? ⟨gb348, 2, none⟩ = some (.slice A1_2 l1_2.length c1_2) := (blk_cell BK348.out 2).trans rfl; have hcz14_3 : w9.cell? ⟨gb348, 3, none⟩ = some (.bool a1_3) := (blk_cell BK348.out 3).trans rfl; have hfz14_0 := blk_frozen BK348.out 0; have hfz14_1 := blk_frozen BK348.out 1; have hfz14_2 := blk_frozen BK348.out 2; have hfz14_3 := blk_frozen BK348.out 3) | (go_at_call 9; (with_reducible refine (banksmanlaw10_short.calls a1_0 _ _ l1_1 _ _ l1_2 a1_3 true _ ?side1 ?side2 ?side3 ?side4 A12.out).mono ?_); (case side1 => repeat (first | exact (Kd.C_below HR1_1.out (by repeat (first | (with_reducible first | exact HB.out | apply below_alloc | apply pw_below_drewN | apply below_drew1 | refine below_set ?_ GE348.out) | exact HB.out))) | (with_reducible refine Kd.C_alloc ?_ _) | (with_reducible refine Kd.C_drewN ?_ _) | (with_reducible refine Kd.C_drew ?_))); (case side2 => exact HC1_1.out); (case side3 => repeat (first | exact (Kd.C_below HR1_2.out (by repeat (first | (with_reducible first | exact HB.out | apply below_alloc | apply pw_below_drewN | apply below_drew1 | refine below_set ?_ GE348.out) | exact HB.out))) | (with_reducible refine Kd.C_alloc ?_ _) | (with_reducible refine Kd.C_drewN ?_ _) | (with_reducible refine Kd.C_drew ?_))); (case side4 => exact HC1_2.out); rintro e w15 ⟨rfl, hb⟩; have n0_ := Aside0.mk (blk_below (g := gb348) (o := .cells #[.int .i64 a1_0, .slice A1_1 l1_1.length c1_1, .slice A1_2 l1_2.length c1_2, .bool a1_3] 24 (0, 0)) (by (with_reducible repeat (first | refine blk_drewN ?_ _ | refine blk_drew ?_ | refine blk_alloc ?_ _)); exact BK348.out) hb); have n1_ := Aside0.mk (below_step (by repeat (first | (with_reducible first | exact HB.out | apply below_alloc | apply pw_below_drewN | apply below_drew1 | refine below_set ?_ GE348.out) | exact HB.out)) hb); clear BK348; clear HB; have BK348 := n0_; have HB := n1_; clear n0_ n1_; (try clear hb); (try clear hb2); (try clear hk); (try clear hi)))
        repeat (go_quiet (first | (go_at_call 24; (with_reducible refine (banksmanref10_Few.calls k _ _ l0 true _ ?side1 ?side2 A10.out).mono ?_); (case side1 => repeat (first | exact (Kd.C_below HR0.out HB.out) | (with_reducible refine Kd.C_alloc ?_ _) | (with_reducible refine Kd.C_drewN ?_ _) | (with_reducible refine Kd.C_drew ?_))); (case side2 => exact HC0.out); rintro e w' ⟨rfl, ⟨nd, rfl⟩⟩; (try first | exact ⟨rfl, _, World.drewN_drewN _ _ _⟩ | exact ⟨rfl, _, Eq.trans (World.drewN_drewN _ _ _) (congrArg (World.drewN _) (Nat.add_assoc _ _ _))⟩); have hcz14_0 : w9.cell? ⟨gb348, 0, none⟩ = some (.int .i64 a1_0) := (blk_cell BK348.out 0).trans rfl; have hcz14_1 : w9.cell? ⟨gb348, 1, none⟩ = some (.slice A1_1 l1_1.length c1_1) := (blk_cell BK348.out 1).trans rfl; have hcz14_2 : w9.cell? ⟨gb348, 2, none⟩ = some (.slice A1_2 l1_2.length c1_2) := (blk_cell BK348.out 2).trans rfl; have hcz14_3 : w9.cell? ⟨gb348, 3, none⟩ = some (.bool a1_3) := (blk_cell BK348.out 3).trans rfl; have hfz14_0 := blk_frozen BK348.out 0; have hfz14_1 := blk_frozen BK348.out 1; have hfz14_2 := blk_frozen BK348.out 2; have hfz14_3 := blk_frozen BK348.out 3) | (go_at_call 9; (with_reducible refine (banksmanlaw10_short.calls a1_0 _ _ l1_1 _ _ l1_2 a1_3 true _ ?side1 ?side2 ?side3 ?side4 A12.out).mono ?_); (case side1 => repeat (first | exact (Kd.C_below HR1_1.out (by repeat (first | (with_reducible first | exact HB.out | apply below_alloc | apply pw_below_drewN | apply below_drew1 | refine below_set ?_ GE348.out) | exact HB.out))) | (with_reducible refine Kd.C_alloc ?_ _) | (with_reducible refine Kd.C_drewN ?_ _) | (with_reducible refine Kd.C_drew ?_))); (case side2 => exact HC1_1.out); (case side3 => repeat (first | exact (Kd.C_below HR1_2.out (by repeat (first | (with_reducible first | exact HB.out | apply below_alloc | apply pw_below_drewN | apply below_drew1 | refine below_set ?_ GE348.out) | exact HB.out))) | (with_reducible refine Kd.C_alloc ?_ _) | (with_reducible refine Kd.C_drewN ?_ _) | (with_reducible refine Kd.C_drew ?_))); (case side4 => exact HC1_2.out); rintro e w15 ⟨rfl, hb⟩; have n0_ := Aside0.mk (blk_below (g := gb348) (o := .cells #[.int .i64 a1_0, .slice A1_1 l1_1.length c1_1, .slice A1_2 l1_2.length c1_2, .bool a1_3] 24 (0, 0)) (by (with_reducible repeat (first | refine blk_drewN ?_ _ | refine blk_drew ?_ | refine blk_alloc ?_ _)); exact BK348.out) hb); have n1_ := Aside0.mk (below_step (by repeat (first | (with_reducible first | exact HB.out | apply below_alloc | apply pw_below_drewN | apply below_drew1 | refine below_set ?_ GE348.out) | exact HB.out)) hb); clear BK348; clear HB; have BK348 := n0_; have HB := n1_; clear n0_ n1_; (try clear hb); (try clear hb2); (try clear hk); (try clear hi))); try go_wp2_with (first | (go_at_call 24; (with_reducible refine (banksmanref10_Few.calls k _ _ l0 true _ ?side1 ?side2 A10.out).mono ?_); (case side1 => repeat (first | exact (Kd.C_below HR0.out HB.out) | (with_reducible refine Kd.C_alloc ?_ _) | (with_reducible refine Kd.C_drewN ?_ _) | (with_reducible refine Kd.C_drew ?_))); (case side2 => exact HC0.out); rintro e w' ⟨rfl, ⟨nd, rfl⟩⟩; (try first | exact ⟨rfl, _, World.drewN_drewN _ _ _⟩ | exact ⟨rfl, _, Eq.trans (World.drewN_drewN _ _ _) (congrArg (World.drewN _) (Nat.add_assoc _ _ _))⟩); have hcz14_0 : w9.cell? ⟨gb348, 0, none⟩ = some (.int .i64 a1_0) := (blk_cell BK348.out 0).trans rfl; have hcz14_1 : w9.cell? ⟨gb348, 1, none⟩ = some (.slice A1_1 l1_1.length c1_1) := (blk_cell BK348.out 1).trans rfl; have hcz14_2 : w9.cell? ⟨gb348, 2, none⟩ = some (.slice A1_2 l1_2.length c1_2) := (blk_cell BK348.out 2).trans rfl; have hcz14_3 : w9.cell? ⟨gb348, 3, none⟩ = some (.bool a1_3) := (blk_cell BK348.out 3).trans rfl; have hfz14_0 := blk_frozen BK348.out 0; have hfz14_1 := blk_frozen BK348.out 1; have hfz14_2 := blk_frozen BK348.out 2; have hfz14_3 := blk_frozen BK348.out 3) | (go_at_call 9; (with_reducible refine (banksmanlaw10_short.calls a1_0 _ _ l1_1 _ _ l1_2 a1_3 true _ ?side1 ?side2 ?side3 ?side4 A12.out).mono ?_); (case side1 => repeat (first | exact (Kd.C_below HR1_1.out (by repeat (first | (with_reducible first | exact HB.out | apply below_alloc | apply pw_below_drewN | apply below_drew1 | refine below_set ?_ GE348.out) | exact HB.out))) | (with_reducible refine Kd.C_alloc ?_ _) | (with_reducible refine Kd.C_drewN ?_ _) | (with_reducible refine Kd.C_drew ?_))); (case side2 => exact HC1_1.out); (case side3 => repeat (first | exact (Kd.C_below HR1_2.out (by repeat (first | (with_reducible first | exact HB.out | apply below_alloc | apply pw_below_drewN | apply below_drew1 | refine below_set ?_ GE348.out) | exact HB.out))) | (with_reducible refine Kd.C_alloc ?_ _) | (with_reducible refine Kd.C_drewN ?_ _) | (with_reducible refine Kd.C_drew ?_))); (case side4 => exact HC1_2.out); rintro e w15 ⟨rfl, hb⟩; have n0_ := Aside0.mk (blk_below (g := gb348) (o := .cells #[.int .i64 a1_0, .slice A1_1 l1_1.length c1_1, .slice A1_2 l1_2.length c1_2, .bool a1_3] 24 (0, 0)) (by (with_reducible repeat (first | refine blk_drewN ?_ _ | refine blk_drew ?_ | refine blk_alloc ?_ _)); exact BK348.out) hb); have n1_ := Aside0.mk (below_step (by repeat (first | (with_reducible first | exact HB.out | apply below_alloc | apply pw_below_drewN | apply below_drew1 | refine below_set ?_ GE348.out) | exact HB.out)) hb); clear BK348; clear HB; have BK348 := n0_; have HB := n1_; clear n0_ n1_; (try clear hb); (try clear hb2); (try clear hk); (try clear hi))))
        go_meet
        case rel => exact ⟨_, (decide ((l4.length : Int) > 100)), (by first | rfl | (simp; done) | (simp [*]; done)), H', ⟨by first | omega | exact Nat.le_refl _⟩, ⟨by (with_reducible repeat (first | refine blk_drewN ?_ _ | refine blk_drew ?_ | refine blk_alloc ?_ _)); exact BK348.out⟩, ⟨by repeat (first | (with_reducible first | exact HB.out | apply below_alloc | apply pw_below_drewN | apply below_drew1 | refine below_set ?_ GE348.out) | exact HB.out)⟩⟩
      · replace c13 := Bool.eq_false_iff.mpr c13
        subst c13
        have H1 : (banksmanlaw10_SpanKeeps.j0 k l0 a2 a3 l4 t349 true a1_0 l1_1 l1_2 a1_3) = some r := by rw [if_neg (show ¬ (false = true) by decide)] at H; exact H
        clear H
        have H := H1
        clear H1
        have H' := Aside0.mk H
        clear H
        go_wp2_with (first | (go_at_call 24; (with_reducible refine (banksmanref10_Few.calls k _ _ l0 true _ ?side1 ?side2 A10.out).mono ?_); (case side1 => repeat (first | exact (Kd.C_below HR0.out HB.out) | (with_reducible refine Kd.C_alloc ?_ _) | (with_reducible refine Kd.C_drewN ?_ _) | (with_reducible refine Kd.C_drew ?_))); (case side2 => exact HC0.out); rintro e w' ⟨rfl, ⟨nd, rfl⟩⟩; (try first | exact ⟨rfl, _, World.drewN_drewN _ _ _⟩ | exact ⟨rfl, _, Eq.trans (World.drewN_drewN _ _ _) (congrArg (World.drewN _) (Nat.add_assoc _ _ _))⟩); have hcz16_0 : w9.cell? ⟨gb348, 0, none⟩ = some (.int .i64 a1_0) := (blk_cell BK348.out 0).trans rfl; have hcz16_1 : w9.cell? ⟨gb348, 1, none⟩ = some (.slice A1_1 l1_1.length c1_1) := (blk_cell BK348.out 1).trans rfl; have hcz16_2 : w9.cell? ⟨gb348, 2, none⟩ = some (.slice A1_2 l1_2.length c1_2) := (blk_cell BK348.out 2).trans rfl; have hcz16_3 : w9.cell? ⟨gb348, 3, none⟩ = some (.bool a1_3) := (blk_cell BK348.out 3).trans rfl; have hfz16_0 := blk_frozen BK348.out 0; have hfz16_1 := blk_frozen BK348.out 1; have hfz16_2 := blk_frozen BK348.out 2; have hfz16_3 := blk_frozen BK348.out 3) | (go_at_call 9; (with_reducible refine (banksmanlaw10_short.calls a1_0 _ _ l1_1 _ _ l1_2 a1_3 false _ ?side1 ?side2 ?side3 ?side4 A12.out).mono ?_); (case side1 => repeat (first | exact (Kd.C_below HR1_1.out (by repeat (first | (with_reducible first | exact HB.out | apply below_alloc | apply pw_below_drewN | apply below_drew1 | refine below_set ?_ GE348.out) | exact HB.out))) | (with_reducible refine Kd.C_alloc ?_ _) | (with_reducible refine Kd.C_drewN ?_ _) | (with_reducible refine Kd.C_drew ?_))); (case side2 => exact HC1_1.out); (case side3 => repeat (first | exact (Kd.C_below HR1_2.out (by repeat (first | (with_reducible first | exact HB.out | apply below_alloc | apply pw_below_drewN | apply below_drew1 | refine below_set ?_ GE348.out) | exact HB.out))) | (with_reducible refine Kd.C_alloc ?_ _) | (with_reducible refine Kd.C_drewN ?_ _) | (with_reducible refine Kd.C_drew ?_))); (case side4 => exact HC1_2.out); rintro e w17 ⟨rfl, hb⟩; have n0_ := Aside0.mk (blk_below (g := gb348) (o := .cells #[.int .i64 a1_0, .slice A1_1 l1_1.length c1_1, .slice A1_2 l1_2.length c1_2, .bool a1_3] 24 (0, 0)) (by (with_reducible repeat (first | refine blk_drewN ?_ _ | refine blk_drew ?_ | refine blk_alloc ?_ _)); exact BK348.out) hb); have n1_ := Aside0.mk (below_step (by repeat (first | (with_reducible first | exact HB.out | apply below_alloc | apply pw_below_drewN | apply below_drew1 | refine below_set ?_ GE348.out) | exact HB.out)) hb); clear BK348; clear HB; have BK348 := n0_; have HB := n1_; clear n0_ n1_; (try clear hb); (try clear hb2); (try clear hk); (try clear hi)))
        repeat (go_quiet (first | (go_at_call 24; (with_reducible refine (banksmanref10_Few.calls k _ _ l0 true _ ?side1 ?side2 A10.out).mono ?_); (case side1 => repeat (first | exact (Kd.C_below HR0.out HB.out) | (with_reducible refine Kd.C_alloc ?_ _) | (with_reducible refine Kd.C_drewN ?_ _) | (with_reducible refine Kd.C_drew ?_))); (case side2 => exact HC0.out); rintro e w' ⟨rfl, ⟨nd, rfl⟩⟩; (try first | exact ⟨rfl, _, World.drewN_drewN _ _ _⟩ | exact ⟨rfl, _, Eq.trans (World.drewN_drewN _ _ _) (congrArg (World.drewN _) (Nat.add_assoc _ _ _))⟩); have hcz16_0 : w9.cell? ⟨gb348, 0, none⟩ = some (.int .i64 a1_0) := (blk_cell BK348.out 0).trans rfl; have hcz16_1 : w9.cell? ⟨gb348, 1, none⟩ = some (.slice A1_1 l1_1.length c1_1) := (blk_cell BK348.out 1).trans rfl; have hcz16_2 : w9.cell? ⟨gb348, 2, none⟩ = some (.slice A1_2 l1_2.length c1_2) := (blk_cell BK348.out 2).trans rfl; have hcz16_3 : w9.cell? ⟨gb348, 3, none⟩ = some (.bool a1_3) := (blk_cell BK348.out 3).trans rfl; have hfz16_0 := blk_frozen BK348.out 0; have hfz16_1 := blk_frozen BK348.out 1; have hfz16_2 := blk_frozen BK348.out 2; have hfz16_3 := blk_frozen BK348.out 3) | (go_at_call 9; (with_reducible refine (banksmanlaw10_short.calls a1_0 _ _ l1_1 _ _ l1_2 a1_3 false _ ?side1 ?side2 ?side3 ?side4 A12.out).mono ?_); (case side1 => repeat (first | exact (Kd.C_below HR1_1.out (by repeat (first | (with_reducible first | exact HB.out | apply below_alloc | apply pw_below_drewN | apply below_drew1 | refine below_set ?_ GE348.out) | exact HB.out))) | (with_reducible refine Kd.C_alloc ?_ _) | (with_reducible refine Kd.C_drewN ?_ _) | (with_reducible refine Kd.C_drew ?_))); (case side2 => exact HC1_1.out); (case side3 => repeat (first | exact (Kd.C_below HR1_2.out (by repeat (first | (with_reducible first | exact HB.out | apply below_alloc | apply pw_below_drewN | apply below_drew1 | refine below_set ?_ GE348.out) | exact HB.out))) | (with_reducible refine Kd.C_alloc ?_ _) | (with_reducible refine Kd.C_drewN ?_ _) | (with_reducible refine Kd.C_drew ?_))); (case side4 => exact HC1_2.out); rintro e w17 ⟨rfl, hb⟩; have n0_ := Aside0.mk (blk_below (g := gb348) (o := .cells #[.int .i64 a1_0, .slice A1_1 l1_1.length c1_1, .slice A1_2 l1_2.length c1_2, .bool a1_3] 24 (0, 0)) (by (with_reducible repeat (first | refine blk_drewN ?_ _ | refine blk_drew ?_ | refine blk_alloc ?_ _)); exact BK348.out) hb); have n1_ := Aside0.mk (below_step (by repeat (first | (with_reducible first | exact HB.out | apply below_alloc | apply pw_below_drewN | apply below_drew1 | refine below_set ?_ GE348.out) | exact HB.out)) hb); clear BK348; clear HB; have BK348 := n0_; have HB := n1_; clear n0_ n1_; (try clear hb); (try clear hb2); (try clear hk); (try clear hi))); try go_wp2_with (first | (go_at_call 24; (with_reducible refine (banksmanref10_Few.calls k _ _ l0 true _ ?side1 ?side2 A10.out).mono ?_); (case side1 => repeat (first | exact (Kd.C_below HR0.out HB.out) | (with_reducible refine Kd.C_alloc ?_ _) | (with_reducible refine Kd.C_drewN ?_ _) | (with_reducible refine Kd.C_drew ?_))); (case side2 => exact HC0.out); rintro e w' ⟨rfl, ⟨nd, rfl⟩⟩; (try first | exact ⟨rfl, _, World.drewN_drewN _ _ _⟩ | exact ⟨rfl, _, Eq.trans (World.drewN_drewN _ _ _) (congrArg (World.drewN _) (Nat.add_assoc _ _ _))⟩); have hcz16_0 : w9.cell? ⟨gb348, 0, none⟩ = some (.int .i64 a1_0) := (blk_cell BK348.out 0).trans rfl; have hcz16_1 : w9.cell? ⟨gb348, 1, none⟩ = some (.slice A1_1 l1_1.length c1_1) := (blk_cell BK348.out 1).trans rfl; have hcz16_2 : w9.cell? ⟨gb348, 2, none⟩ = some (.slice A1_2 l1_2.length c1_2) := (blk_cell BK348.out 2).trans rfl; have hcz16_3 : w9.cell? ⟨gb348, 3, none⟩ = some (.bool a1_3) := (blk_cell BK348.out 3).trans rfl; have hfz16_0 := blk_frozen BK348.out 0; have hfz16_1 := blk_frozen BK348.out 1; have hfz16_2 := blk_frozen BK348.out 2; have hfz16_3 := blk_frozen BK348.out 3) | (go_at_call 9; (with_reducible refine (banksmanlaw10_short.calls a1_0 _ _ l1_1 _ _ l1_2 a1_3 false _ ?side1 ?side2 ?side3 ?side4 A12.out).mono ?_); (case side1 => repeat (first | exact (Kd.C_below HR1_1.out (by repeat (first | (with_reducible first | exact HB.out | apply below_alloc | apply pw_below_drewN | apply below_drew1 | refine below_set ?_ GE348.out) | exact HB.out))) | (with_reducible refine Kd.C_alloc ?_ _) | (with_reducible refine Kd.C_drewN ?_ _) | (with_reducible refine Kd.C_drew ?_))); (case side2 => exact HC1_1.out); (case side3 => repeat (first | exact (Kd.C_below HR1_2.out (by repeat (first | (with_reducible first | exact HB.out | apply below_alloc | apply pw_below_drewN | apply below_drew1 | refine below_set ?_ GE348.out) | exact HB.out))) | (with_reducible refine Kd.C_alloc ?_ _) | (with_reducible refine Kd.C_drewN ?_ _) | (with_reducible refine Kd.C_drew ?_))); (case side4 => exact HC1_2.out); rintro e w17 ⟨rfl, hb⟩; have n0_ := Aside0.mk (blk_below (g := gb348) (o := .cells #[.int .i64 a1_0, .slice A1_1 l1_1.length c1_1, .slice A1_2 l1_2.length c1_2, .bool a1_3] 24 (0, 0)) (by (with_reducible repeat (first | refine blk_drewN ?_ _ | refine blk_drew ?_ | refine blk_alloc ?_ _)); exact BK348.out) hb); have n1_ := Aside0.mk (below_step (by repeat (first | (with_reducible first | exact HB.out | apply below_alloc | apply pw_below_drewN | apply below_drew1 | refine below_set ?_ GE348.out) | exact HB.out)) hb); clear BK348; clear HB; have BK348 := n0_; have HB := n1_; clear n0_ n1_; (try clear hb); (try clear hb2); (try clear hk); (try clear hi))))
        go_meet
        case rel => exact ⟨_, (true), (by first | rfl | (simp; done) | (simp [*]; done)), H', ⟨by first | omega | exact Nat.le_refl _⟩, ⟨by (with_reducible repeat (first | refine blk_drewN ?_ _ | refine blk_drew ?_ | refine blk_alloc ?_ _)); exact BK348.out⟩, ⟨by repeat (first | (with_reducible first | exact HB.out | apply below_alloc | apply pw_below_drewN | apply below_drew1 | refine below_set ?_ GE348.out) | exact HB.out)⟩⟩
    · replace c11 := Bool.eq_false_iff.mpr c11
      subst c11
      have H1 : (banksmanlaw10_SpanKeeps.j0 k l0 a2 a3 l4 t349 true a1_0 l1_1 l1_2 a1_3) = some r := by rw [if_neg (show ¬ (false = true) by decide)] at H; exact H
      clear H
      have H := H1
      clear H1
      have H' := Aside0.mk H
      clear H
      go_wp2_with (first | (go_at_call 24; (with_reducible refine (banksmanref10_Few.calls k _ _ l0 false _ ?side1 ?side2 A10.out).mono ?_); (case side1 => repeat (first | exact (Kd.C_below HR0.out HB.out) | (with_reducible refine Kd.C_alloc ?_ _) | (with_reducible refine Kd.C_drewN ?_ _) | (with_reducible refine Kd.C_drew ?_))); (case side2 => exact HC0.out); rintro e w' ⟨rfl, ⟨nd, rfl⟩⟩; (try first | exact ⟨rfl, _, World.drewN_drewN _ _ _⟩ | exact ⟨rfl, _, Eq.trans (World.drewN_drewN _ _ _) (congrArg (World.drewN _) (Nat.add_assoc _ _ _))⟩)))
      repeat (go_quiet (first | (go_at_call 24; (with_reducible refine (banksmanref10_Few.calls k _ _ l0 false _ ?side1 ?side2 A10.out).mono ?_); (case side1 => repeat (first | exact (Kd.C_below HR0.out HB.out) | (with_reducible refine Kd.C_alloc ?_ _) | (with_reducible refine Kd.C_drewN ?_ _) | (with_reducible refine Kd.C_drew ?_))); (case side2 => exact HC0.out); rintro e w' ⟨rfl, ⟨nd, rfl⟩⟩; (try first | exact ⟨rfl, _, World.drewN_drewN _ _ _⟩ | exact ⟨rfl, _, Eq.trans (World.drewN_drewN _ _ _) (congrArg (World.drewN _) (Nat.add_assoc _ _ _))⟩))); try go_wp2_with (first | (go_at_call 24; (with_reducible refine (banksmanref10_Few.calls k _ _ l0 false _ ?side1 ?side2 A10.out).mono ?_); (case side1 => repeat (first | exact (Kd.C_below HR0.out HB.out) | (with_reducible refine Kd.C_alloc ?_ _) | (with_reducible refine Kd.C_drewN ?_ _) | (with_reducible refine Kd.C_drew ?_))); (case side2 => exact HC0.out); rintro e w' ⟨rfl, ⟨nd, rfl⟩⟩; (try first | exact ⟨rfl, _, World.drewN_drewN _ _ _⟩ | exact ⟨rfl, _, Eq.trans (World.drewN_drewN _ _ _) (congrArg (World.drewN _) (Nat.add_assoc _ _ _))⟩))))
      go_meet
      case rel => exact ⟨_, (true), (by first | rfl | (simp; done) | (simp [*]; done)), H', ⟨by first | omega | exact Nat.le_refl _⟩, ⟨by (with_reducible repeat (first | refine blk_drewN ?_ _ | refine blk_drew ?_ | refine blk_alloc ?_ _)); exact BK348.out⟩, ⟨by repeat (first | (with_reducible first | exact HB.out | apply below_alloc | apply pw_below_drewN | apply below_drew1 | refine below_set ?_ GE348.out) | exact HB.out)⟩⟩
  case rest =>
    clear HC7
    try clear c1
    try clear p2
    try clear c4
    try clear c6
    try clear c11
    try clear c13
    try clear hcz14_0
    try clear hcz14_1
    try clear hcz14_2
    try clear hcz14_3
    try clear hcz16_0
    try clear hcz16_1
    try clear hcz16_2
    try clear hcz16_3
    try clear hfz14_0
    try clear hfz14_1
    try clear hfz14_2
    try clear hfz14_3
    try clear hfz16_0
    try clear hfz16_1
    try clear hfz16_2
    try clear hfz16_3
    obtain ⟨kq, x34_6, rfl, HA, HJ6, BK348, HB⟩ := hcut
    cases kq with
    | zero => exact absurd HA.out (by simp [banksmanlaw10_SpanKeeps.j0])
    | succ kj6 =>
      have H := HA.out
      clear HA
      simp only [banksmanlaw10_SpanKeeps.j0] at H
      by_cases c18 : x34_6 = true
      · subst c18
        have H1 : (some t349) = some r := by rw [if_pos rfl] at H; exact H
        clear H
        have H := H1
        clear H1
        obtain rfl := Option.some.inj H
        go_wp2
        repeat (go_quiet (fail); try go_wp2)
        go_ret
        exact ⟨by first | rfl | (simp [errW_none, errW_some] <;> rfl) | (simp [*, errW_none, errW_some] <;> rfl), by repeat (first | (with_reducible first | exact HB.out | apply below_alloc | apply pw_below_drewN | apply below_drew1 | refine below_set ?_ GE348.out) | exact HB.out)⟩
      · replace c18 := Bool.eq_false_iff.mpr c18
        subst c18
        have H1 : ((span_Add.f l0 a1_0 l1_1 l1_2 a1_3 a2).bind fun bt352 => (if bt352.2 = 0 then ((span_In.f a1_0 l1_1 l1_2 a1_3 a3 l4).bind fun t356 => (banksmanlaw10_SpanKeeps.l0 kj6 l0 a2 a3 l4 t349 bt352.1 t356 0 0 a1_0 l1_1 l1_2 a1_3)) else (some t349))) = some r := by rw [if_neg (show ¬ (false = true) by decide)] at H; exact H
        clear H
        have H := H1
        clear H1
        replace H := Option.bind_eq_some_iff.mp H
        obtain ⟨⟨t352, t355⟩, A190, H⟩ := H
        replace H : (if t355 = 0 then ((span_In.f a1_0 l1_1 l1_2 a1_3 a3 l4).bind fun t356 => (banksmanlaw10_SpanKeeps.l0 kj6 l0 a2 a3 l4 t349 t352 t356 0 0 a1_0 l1_1 l1_2 a1_3)) else (some t349)) = some r := H
        have A19 := Aside0.mk A190
        clear A190
        by_cases c20 : t355 = 0
        · rw [if_pos c20] at H
          have c20b0 : (t355 == 0) = true := beq_iff_eq.mpr c20
          have c20b1 : (t355 != 0) = false := bne_eq_false_iff_eq.mpr c20
          clear c20
          replace H := Option.bind_eq_some_iff.mp H
          obtain ⟨t356, A210, H⟩ := H
          replace H : (banksmanlaw10_SpanKeeps.l0 kj6 l0 a2 a3 l4 t349 t352 t356 0 0 a1_0 l1_1 l1_2 a1_3) = some r := H
          have A21 := Aside0.mk A210
          clear A210
          have H' := Aside0.mk H
          clear H
          have hcz22_0 : wc.cell? ⟨gb348, 0, none⟩ = some (.int .i64 a1_0) := (blk_cell BK348.out 0).trans rfl
          have hcz22_1 : wc.cell? ⟨gb348, 1, none⟩ = some (.slice A1_1 l1_1.length c1_1) := (blk_cell BK348.out 1).trans rfl
          have hcz22_2 : wc.cell? ⟨gb348, 2, none⟩ = some (.slice A1_2 l1_2.length c1_2) := (blk_cell BK348.out 2).trans rfl
          have hcz22_3 : wc.cell? ⟨gb348, 3, none⟩ = some (.bool a1_3) := (blk_cell BK348.out 3).trans rfl
          have hfz22_0 := blk_frozen BK348.out 0
          have hfz22_1 := blk_frozen BK348.out 1
          have hfz22_2 := blk_frozen BK348.out 2
          have hfz22_3 := blk_frozen BK348.out 3
          go_wp2_with (first | (go_at_call 25; (with_reducible refine (span_Add.calls _ _ l0 a1_0 _ _ l1_1 _ _ l1_2 a1_3 a2 t352 t355 _ ?side1 ?side2 ?side3 ?side4 ?side5 ?side6 A19.out).mono ?_); (case side1 => repeat (first | exact (Kd.C_below HR0.out HB.out) | (with_reducible refine Kd.C_alloc ?_ _) | (with_reducible refine Kd.C_drewN ?_ _) | (with_reducible refine Kd.C_drew ?_))); (case side2 => exact HC0.out); (case side3 => repeat (first | exact (Kd.C_below HR1_1.out HB.out) | (with_reducible refine Kd.C_alloc ?_ _) | (with_reducible refine Kd.C_drewN ?_ _) | (with_reducible refine Kd.C_drew ?_))); (case side4 => exact HC1_1.out); (case side5 => repeat (first | exact (Kd.C_below HR1_2.out HB.out) | (with_reducible refine Kd.C_alloc ?_ _) | (with_reducible refine Kd.C_drewN ?_ _) | (with_reducible refine Kd.C_drew ?_))); (case side6 => exact HC1_2.out); rintro e w23 ⟨v353, rfl, ho0, hb⟩; have n0_ := Aside0.mk (Kd.V_lower (Kd.V_mono (ok' := fun k_ => k_ ≠ gb348) ho0 (fun k_ hk_ => (Kd.freshB (g := gb348) (o := .cells #[.int .i64 a1_0, .slice A1_1 l1_1.length c1_1, .slice A1_2 l1_2.length c1_2, .bool a1_3] 24 (0, 0)) (by (with_reducible repeat (first | refine blk_drewN ?_ _ | refine blk_drew ?_ | refine blk_alloc ?_ _)); exact BK348.out) k_ hk_))) (below_size (by repeat (first | (with_reducible first | exact HB.out | apply below_alloc | apply pw_below_drewN | apply below_drew1 | refine below_set ?_ GE348.out) | exact HB.out)))); have n1_ := Aside0.mk (blk_below (g := gb348) (o := .cells #[.int .i64 a1_0, .slice A1_1 l1_1.length c1_1, .slice A1_2 l1_2.length c1_2, .bool a1_3] 24 (0, 0)) (by (with_reducible repeat (first | refine blk_drewN ?_ _ | refine blk_drew ?_ | refine blk_alloc ?_ _)); exact BK348.out) hb); have n2_ := Aside0.mk (below_step (by repeat (first | (with_reducible first | exact HB.out | apply below_alloc | apply pw_below_drewN | apply below_drew1 | refine below_set ?_ GE348.out) | exact HB.out)) hb); clear BK348; clear HB; have HO354 := n0_; have BK348 := n1_; have HB := n2_; clear n0_ n1_ n2_; (try clear hb); (try clear hb2); (try clear hk); (try clear hi); (try clear ho0); have hcz24_0 : w23.cell? ⟨gb348, 0, none⟩ = some (.int .i64 a1_0) := (blk_cell BK348.out 0).trans rfl; have hcz24_1 : w23.cell? ⟨gb348, 1, none⟩ = some (.slice A1_1 l1_1.length c1_1) := (blk_cell BK348.out 1).trans rfl; have hcz24_2 : w23.cell? ⟨gb348, 2, none⟩ = some (.slice A1_2 l1_2.length c1_2) := (blk_cell BK348.out 2).trans rfl; have hcz24_3 : w23.cell? ⟨gb348, 3, none⟩ = some (.bool a1_3) := (blk_cell BK348.out 3).trans rfl; have hfz24_0 := blk_frozen BK348.out 0; have hfz24_1 := blk_frozen BK348.out 1; have hfz24_2 := blk_frozen BK348.out 2; have hfz24_3 := blk_frozen BK348.out 3) | (go_at_call 18; (with_reducible refine (span_In.calls a1_0 _ _ l1_1 _ _ l1_2 a1_3 a3 _ _ l4 t356 _ ?side1 ?side2 ?side3 ?side4 ?side5 ?side6 A21.out).mono ?_); (case side1 => repeat (first | exact (Kd.C_below HR1_1.out HB.out) | (with_reducible refine Kd.C_alloc ?_ _) | (with_reducible refine Kd.C_drewN ?_ _) | (with_reducible refine Kd.C_drew ?_))); (case side2 => exact HC1_1.out); (case side3 => repeat (first | exact (Kd.C_below HR1_2.out HB.out) | (with_reducible refine Kd.C_alloc ?_ _) | (with_reducible refine Kd.C_drewN ?_ _) | (with_reducible refine Kd.C_drew ?_))); (case side4 => exact HC1_2.out); (case side5 => repeat (first | exact (Kd.C_below HR4.out HB.out) | (with_reducible refine Kd.C_alloc ?_ _) | (with_reducible refine Kd.C_drewN ?_ _) | (with_reducible refine Kd.C_drew ?_))); (case side6 => exact HC4.out); rintro e w25 ⟨rfl, hb⟩; have n0_ := Aside0.mk (Kd.V_below (by (with_reducible repeat (first | apply Kd.V_alloc | apply Kd.V_drewN | apply Kd.V_drew)); exact HO354.out) hb); have n1_ := Aside0.mk (blk_below (g := gb348) (o := .cells #[.int .i64 a1_0, .slice A1_1 l1_1.length c1_1, .slice A1_2 l1_2.length c1_2, .bool a1_3] 24 (0, 0)) (by (with_reducible repeat (first | refine blk_drewN ?_ _ | refine blk_drew ?_ | refine blk_alloc ?_ _)); exact BK348.out) hb); have n2_ := Aside0.mk (below_step (by repeat (first | (with_reducible first | exact HB.out | apply below_alloc | apply pw_below_drewN | apply below_drew1 | refine below_set ?_ GE348.out) | exact HB.out)) hb); clear HO354; clear BK348; clear HB; have HO354 := n0_; have BK348 := n1_; have HB := n2_; clear n0_ n1_ n2_; (try clear hb); (try clear hb2); (try clear hk); (try clear hi)))
          repeat (go_quiet (first | (go_at_call 25; (with_reducible refine (span_Add.calls _ _ l0 a1_0 _ _ l1_1 _ _ l1_2 a1_3 a2 t352 t355 _ ?side1 ?side2 ?side3 ?side4 ?side5 ?side6 A19.out).mono ?_); (case side1 => repeat (first | exact (Kd.C_below HR0.out HB.out) | (with_reducible refine Kd.C_alloc ?_ _) | (with_reducible refine Kd.C_drewN ?_ _) | (with_reducible refine Kd.C_drew ?_))); (case side2 => exact HC0.out); (case side3 => repeat (first | exact (Kd.C_below HR1_1.out HB.out) | (with_reducible refine Kd.C_alloc ?_ _) | (with_reducible refine Kd.C_drewN ?_ _) | (with_reducible refine Kd.C_drew ?_))); (case side4 => exact HC1_1.out); (case side5 => repeat (first | exact (Kd.C_below HR1_2.out HB.out) | (with_reducible refine Kd.C_alloc ?_ _) | (with_reducible refine Kd.C_drewN ?_ _) | (with_reducible refine Kd.C_drew ?_))); (case side6 => exact HC1_2.out); rintro e w23 ⟨v353, rfl, ho0, hb⟩; have n0_ := Aside0.mk (Kd.V_lower (Kd.V_mono (ok' := fun k_ => k_ ≠ gb348) ho0 (fun k_ hk_ => (Kd.freshB (g := gb348) (o := .cells #[.int .i64 a1_0, .slice A1_1 l1_1.length c1_1, .slice A1_2 l1_2.length c1_2, .bool a1_3] 24 (0, 0)) (by (with_reducible repeat (first | refine blk_drewN ?_ _ | refine blk_drew ?_ | refine blk_alloc ?_ _)); exact BK348.out) k_ hk_))) (below_size (by repeat (first | (with_reducible first | exact HB.out | apply below_alloc | apply pw_below_drewN | apply below_drew1 | refine below_set ?_ GE348.out) | exact HB.out)))); have n1_ := Aside0.mk (blk_below (g := gb348) (o := .cells #[.int .i64 a1_0, .slice A1_1 l1_1.length c1_1, .slice A1_2 l1_2.length c1_2, .bool a1_3] 24 (0, 0)) (by (with_reducible repeat (first | refine blk_drewN ?_ _ | refine blk_drew ?_ | refine blk_alloc ?_ _)); exact BK348.out) hb); have n2_ := Aside0.mk (below_step (by repeat (first | (with_reducible first | exact HB.out | apply below_alloc | apply pw_below_drewN | apply below_drew1 | refine below_set ?_ GE348.out) | exact HB.out)) hb); clear BK348; clear HB; have HO354 := n0_; have BK348 := n1_; have HB := n2_; clear n0_ n1_ n2_; (try clear hb); (try clear hb2); (try clear hk); (try clear hi); (try clear ho0); have hcz24_0 : w23.cell? ⟨gb348, 0, none⟩ = some (.int .i64 a1_0) := (blk_cell BK348.out 0).trans rfl; have hcz24_1 : w23.cell? ⟨gb348, 1, none⟩ = some (.slice A1_1 l1_1.length c1_1) := (blk_cell BK348.out 1).trans rfl; have hcz24_2 : w23.cell? ⟨gb348, 2, none⟩ = some (.slice A1_2 l1_2.length c1_2) := (blk_cell BK348.out 2).trans rfl; have hcz24_3 : w23.cell? ⟨gb348, 3, none⟩ = some (.bool a1_3) := (blk_cell BK348.out 3).trans rfl; have hfz24_0 := blk_frozen BK348.out 0; have hfz24_1 := blk_frozen BK348.out 1; have hfz24_2 := blk_frozen BK348.out 2; have hfz24_3 := blk_frozen BK348.out 3) | (go_at_call 18; (with_reducible refine (span_In.calls a1_0 _ _ l1_1 _ _ l1_2 a1_3 a3 _ _ l4 t356 _ ?side1 ?side2 ?side3 ?side4 ?side5 ?side6 A21.out).mono ?_); (case side1 => repeat (first | exact (Kd.C_below HR1_1.out HB.out) | (with_reducible refine Kd.C_alloc ?_ _) | (with_reducible refine Kd.C_drewN ?_ _) | (with_reducible refine Kd.C_drew ?_))); (case side2 => exact HC1_1.out); (case side3 => repeat (first | exact (Kd.C_below HR1_2.out HB.out) | (with_reducible refine Kd.C_alloc ?_ _) | (with_reducible refine Kd.C_drewN ?_ _) | (with_reducible refine Kd.C_drew ?_))); (case side4 => exact HC1_2.out); (case side5 => repeat (first | exact (Kd.C_below HR4.out HB.out) | (with_reducible refine Kd.C_alloc ?_ _) | (with_reducible refine Kd.C_drewN ?_ _) | (with_reducible refine Kd.C_drew ?_))); (case side6 => exact HC4.out); rintro e w25 ⟨rfl, hb⟩; have n0_ := Aside0.mk (Kd.V_below (by (with_reducible repeat (first | apply Kd.V_alloc | apply Kd.V_drewN | apply Kd.V_drew)); exact HO354.out) hb); have n1_ := Aside0.mk (blk_below (g := gb348) (o := .cells #[.int .i64 a1_0, .slice A1_1 l1_1.length c1_1, .slice A1_2 l1_2.length c1_2, .bool a1_3] 24 (0, 0)) (by (with_reducible repeat (first | refine blk_drewN ?_ _ | refine blk_drew ?_ | refine blk_alloc ?_ _)); exact BK348.out) hb); have n2_ := Aside0.mk (below_step (by repeat (first | (with_reducible first | exact HB.out | apply below_alloc | apply pw_below_drewN | apply below_drew1 | refine below_set ?_ GE348.out) | exact HB.out)) hb); clear HO354; clear BK348; clear HB; have HO354 := n0_; have BK348 := n1_; have HB := n2_; clear n0_ n1_ n2_; (try clear hb); (try clear hb2); (try clear hk); (try clear hi))); try go_wp2_with (first | (go_at_call 25; (with_reducible refine (span_Add.calls _ _ l0 a1_0 _ _ l1_1 _ _ l1_2 a1_3 a2 t352 t355 _ ?side1 ?side2 ?side3 ?side4 ?side5 ?side6 A19.out).mono ?_); (case side1 => repeat (first | exact (Kd.C_below HR0.out HB.out) | (with_reducible refine Kd.C_alloc ?_ _) | (with_reducible refine Kd.C_drewN ?_ _) | (with_reducible refine Kd.C_drew ?_))); (case side2 => exact HC0.out); (case side3 => repeat (first | exact (Kd.C_below HR1_1.out HB.out) | (with_reducible refine Kd.C_alloc ?_ _) | (with_reducible refine Kd.C_drewN ?_ _) | (with_reducible refine Kd.C_drew ?_))); (case side4 => exact HC1_1.out); (case side5 => repeat (first | exact (Kd.C_below HR1_2.out HB.out) | (with_reducible refine Kd.C_alloc ?_ _) | (with_reducible refine Kd.C_drewN ?_ _) | (with_reducible refine Kd.C_drew ?_))); (case side6 => exact HC1_2.out); rintro e w23 ⟨v353, rfl, ho0, hb⟩; have n0_ := Aside0.mk (Kd.V_lower (Kd.V_mono (ok' := fun k_ => k_ ≠ gb348) ho0 (fun k_ hk_ => (Kd.freshB (g := gb348) (o := .cells #[.int .i64 a1_0, .slice A1_1 l1_1.length c1_1, .slice A1_2 l1_2.length c1_2, .bool a1_3] 24 (0, 0)) (by (with_reducible repeat (first | refine blk_drewN ?_ _ | refine blk_drew ?_ | refine blk_alloc ?_ _)); exact BK348.out) k_ hk_))) (below_size (by repeat (first | (with_reducible first | exact HB.out | apply below_alloc | apply pw_below_drewN | apply below_drew1 | refine below_set ?_ GE348.out) | exact HB.out)))); have n1_ := Aside0.mk (blk_below (g := gb348) (o := .cells #[.int .i64 a1_0, .slice A1_1 l1_1.length c1_1, .slice A1_2 l1_2.length c1_2, .bool a1_3] 24 (0, 0)) (by (with_reducible repeat (first | refine blk_drewN ?_ _ | refine blk_drew ?_ | refine blk_alloc ?_ _)); exact BK348.out) hb); have n2_ := Aside0.mk (below_step (by repeat (first | (with_reducible first | exact HB.out | apply below_alloc | apply pw_below_drewN | apply below_drew1 | refine below_set ?_ GE348.out) | exact HB.out)) hb); clear BK348; clear HB; have HO354 := n0_; have BK348 := n1_; have HB := n2_; clear n0_ n1_ n2_; (try clear hb); (try clear hb2); (try clear hk); (try clear hi); (try clear ho0); have hcz24_0 : w23.cell? ⟨gb348, 0, none⟩ = some (.int .i64 a1_0) := (blk_cell BK348.out 0).trans rfl; have hcz24_1 : w23.cell? ⟨gb348, 1, none⟩ = some (.slice A1_1 l1_1.length c1_1) := (blk_cell BK348.out 1).trans rfl; have hcz24_2 : w23.cell? ⟨gb348, 2, none⟩ = some (.slice A1_2 l1_2.length c1_2) := (blk_cell BK348.out 2).trans rfl; have hcz24_3 : w23.cell? ⟨gb348, 3, none⟩ = some (.bool a1_3) := (blk_cell BK348.out 3).trans rfl; have hfz24_0 := blk_frozen BK348.out 0; have hfz24_1 := blk_frozen BK348.out 1; have hfz24_2 := blk_frozen BK348.out 2; have hfz24_3 := blk_frozen BK348.out 3) | (go_at_call 18; (with_reducible refine (span_In.calls a1_0 _ _ l1_1 _ _ l1_2 a1_3 a3 _ _ l4 t356 _ ?side1 ?side2 ?side3 ?side4 ?side5 ?side6 A21.out).mono ?_); (case side1 => repeat (first | exact (Kd.C_below HR1_1.out HB.out) | (with_reducible refine Kd.C_alloc ?_ _) | (with_reducible refine Kd.C_drewN ?_ _) | (with_reducible refine Kd.C_drew ?_))); (case side2 => exact HC1_1.out); (case side3 => repeat (first | exact (Kd.C_below HR1_2.out HB.out) | (with_reducible refine Kd.C_alloc ?_ _) | (with_reducible refine Kd.C_drewN ?_ _) | (with_reducible refine Kd.C_drew ?_))); (case side4 => exact HC1_2.out); (case side5 => repeat (first | exact (Kd.C_below HR4.out HB.out) | (with_reducible refine Kd.C_alloc ?_ _) | (with_reducible refine Kd.C_drewN ?_ _) | (with_reducible refine Kd.C_drew ?_))); (case side6 => exact HC4.out); rintro e w25 ⟨rfl, hb⟩; have n0_ := Aside0.mk (Kd.V_below (by (with_reducible repeat (first | apply Kd.V_alloc | apply Kd.V_drewN | apply Kd.V_drew)); exact HO354.out) hb); have n1_ := Aside0.mk (blk_below (g := gb348) (o := .cells #[.int .i64 a1_0, .slice A1_1 l1_1.length c1_1, .slice A1_2 l1_2.length c1_2, .bool a1_3] 24 (0, 0)) (by (with_reducible repeat (first | refine blk_drewN ?_ _ | refine blk_drew ?_ | refine blk_alloc ?_ _)); exact BK348.out) hb); have n2_ := Aside0.mk (below_step (by repeat (first | (with_reducible first | exact HB.out | apply below_alloc | apply pw_below_drewN | apply below_drew1 | refine below_set ?_ GE348.out) | exact HB.out)) hb); clear HO354; clear BK348; clear HB; have HO354 := n0_; have BK348 := n1_; have HB := n2_; clear n0_ n1_ n2_; (try clear hb); (try clear hb2); (try clear hk); (try clear hi))))
          go_loopg [14, 15, 16] kj6 (fun kq v14 v15 v16 w' => ∃ (x14_2 : Bool) (x15_2 : Int) (x16_2 : Int), v14 = .bool x14_2 ∧ v15 = .int .i64 x15_2 ∧ v16 = .int .i64 x16_2 ∧ Aside0 (banksmanlaw10_SpanKeeps.l0 kq l0 a2 a3 l4 t349 t352 x14_2 x15_2 x16_2 a1_0 l1_1 l1_2 a1_3 = some r) ∧ Aside0 (kq ≤ kj6) ∧ Aside0 (Kd.V k24 24 w' w.heap.size (fun k_ => k_ ≠ gb348) v353 t352) ∧ Aside0 (w'.heap[gb348]? = some (.cells #[.int .i64 a1_0, (.slice A1_1 l1_1.length c1_1), (.slice A1_2 l1_2.length c1_2), .bool a1_3] 24 (0, 0))) ∧ Aside0 (Below w.heap.size w w'))
          case atStart => exact ⟨(t356), (0), (0), (by first | rfl | (simp; done) | (simp [*]; done)), (by first | rfl | (simp; done) | (simp [*]; done)), (by first | rfl | (simp; done) | (simp [*]; done)), H', ⟨Nat.le_refl _⟩, ⟨by (with_reducible repeat (first | apply Kd.V_alloc | apply Kd.V_drewN | apply Kd.V_drew)); exact HO354.out⟩, ⟨by (with_reducible repeat (first | refine blk_drewN ?_ _ | refine blk_drew ?_ | refine blk_alloc ?_ _)); exact BK348.out⟩, ⟨by repeat (first | (with_reducible first | exact HB.out | apply below_alloc | apply pw_below_drewN | apply below_drew1 | refine below_set ?_ GE348.out) | exact HB.out)⟩⟩
          case round =>
            clear H'
            try clear c1
            try clear c2
            try clear p2
            try clear c4
            try clear c6
            try clear c11
            try clear c13
            try clear c18
            try clear c20
            try clear c20b0
            try clear c20b1
            try clear hcz14_0
            try clear hcz14_1
            try clear hcz14_2
            try clear hcz14_3
            try clear hcz16_0
            try clear hcz16_1
            try clear hcz16_2
            try clear hcz16_3
            try clear hcz22_0
            try clear hcz22_1
            try clear hcz22_2
            try clear hcz22_3
            try clear hcz24_0
            try clear hcz24_1
            try clear hcz24_2
            try clear hcz24_3
            try clear hfz14_0
            try clear hfz14_1
            try clear hfz14_2
            try clear hfz14_3
            try clear hfz16_0
            try clear hfz16_1
            try clear hfz16_2
            try clear hfz16_3
            try clear hfz22_0
            try clear hfz22_1
            try clear hfz22_2
            try clear hfz22_3
            try clear hfz24_0
            try clear hfz24_1
            try clear hfz24_2
            try clear hfz24_3
            try clear p2
            obtain ⟨x14_2, x15_2, x16_2, rfl, rfl, rfl, HA, HK2, HO_12, BK348, HB⟩ := hrel
            cases gk with
            | zero => exact absurd HA.out (by simp [banksmanlaw10_SpanKeeps.l0])
            | succ k2 =>
              have H := HA.out
              clear HA
              simp only [banksmanlaw10_SpanKeeps.l0] at H
              by_cases c26 : x16_2 < (l0.length : Int)
              · rw [if_pos c26] at H
                have c26b0 : decide (x16_2 < (l0.length : Int)) = true := decide_eq_true c26
                clear c26
                by_cases c27 : x14_2 = true
                · subst c27
                  have H1 : (if 0 ≤ x16_2 then (if ((rd_T24 l0 x16_2).f0) = a1_0 then (banksmanlaw10_SpanKeeps.l0 k2 l0 a2 a3 l4 t349 t352 true (wrap64 (x15_2 + 1)) (wrap64 (x16_2 + 1)) a1_0 l1_1 l1_2 a1_3) else (banksmanlaw10_SpanKeeps.l0 k2 l0 a2 a3 l4 t349 t352 true x15_2 (wrap64 (x16_2 + 1)) a1_0 l1_1 l1_2 a1_3)) else (none)) = some r := by rw [if_pos rfl] at H; exact H
                  clear H
                  have H := H1
                  clear H1
                  by_cases c28 : 0 ≤ x16_2
                  · rw [if_pos c28] at H
                    have c28b0 : decide (0 ≤ x16_2) = true := decide_eq_true c28
                    clear c28
                    by_cases c29 : ((rd_T24 l0 x16_2).f0) = a1_0
                    · rw [if_pos c29] at H
                      have c29b0 : (((rd_T24 l0 x16_2).f0) == a1_0) = true := beq_iff_eq.mpr c29
                      have c29b1 : (((rd_T24 l0 x16_2).f0) != a1_0) = false := bne_eq_false_iff_eq.mpr c29
                      clear c29
                      have H' := Aside0.mk H
                      clear H
                      have p357 : 0 ≤ (x16_2 : Int) := of_decide_eq_true (by first | (with_reducible assumption) | assumption)
                      have q357 : x16_2 < (l0.length : Int) := of_decide_eq_true (by first | (with_reducible assumption) | assumption)
                      obtain ⟨ad357, A357_1, c357_1, A357_2, c357_2, e357, hx357_0, hx357_1, hx357_2, hx357_3, hl357_1, hi357_1, hl357_2, hi357_2⟩ := at_T24 HR0.out x16_2 p357 q357
                      cases e357
                      replace hx357_0 := (HB.out.cell (World.block_lt_of_cell? w _ hx357_0)).trans hx357_0
                      replace hx357_1 := (HB.out.cell (World.block_lt_of_cell? w _ hx357_1)).trans hx357_1
                      replace hx357_2 := (HB.out.cell (World.block_lt_of_cell? w _ hx357_2)).trans hx357_2
                      replace hx357_3 := (HB.out.cell (World.block_lt_of_cell? w _ hx357_3)).trans hx357_3
                      have HR357_1 := Aside0.mk hi357_1
                      have HC357_1 := Aside0.mk hl357_1
                      clear hi357_1 hl357_1
                      have HR357_2 := Aside0.mk hi357_2
                      have HC357_2 := Aside0.mk hl357_2
                      clear hi357_2 hl357_2
                      replace p357 := eq_true p357
                      replace q357 := eq_true q357
                      have hcz30_0 : wr.cell? ⟨gb348, 0, none⟩ = some (.int .i64 a1_0) := (blk_cell BK348.out 0).trans rfl
                      have hcz30_1 : wr.cell? ⟨gb348, 1, none⟩ = some (.slice A1_1 l1_1.length c1_1) := (blk_cell BK348.out 1).trans rfl
                      have hcz30_2 : wr.cell? ⟨gb348, 2, none⟩ = some (.slice A1_2 l1_2.length c1_2) := (blk_cell BK348.out 2).trans rfl
                      have hcz30_3 : wr.cell? ⟨gb348, 3, none⟩ = some (.bool a1_3) := (blk_cell BK348.out 3).trans rfl
                      have hfz30_0 := blk_frozen BK348.out 0
                      have hfz30_1 := blk_frozen BK348.out 1
                      have hfz30_2 := blk_frozen BK348.out 2
                      have hfz30_3 := blk_frozen BK348.out 3
                      go_wp2
                      repeat (go_quiet (fail); try go_wp2)
                      go_roundg k2
                      case measure => have := HJ6.out; have := HK2.out; omega
                      case rel => exact ⟨(true), (wrap64 (x15_2 + 1)), (wrap64 (x16_2 + 1)), (by first | rfl | (simp; done) | (simp [*]; done)), (by first | rfl | (simp; done) | (simp [*]; done)), (by first | rfl | (simp; done) | (simp [*]; done)), H', ⟨by have := HJ6.out; have := HK2.out; omega⟩, ⟨by (with_reducible repeat (first | apply Kd.V_alloc | apply Kd.V_drewN | apply Kd.V_drew)); exact HO_12.out⟩, ⟨by (with_reducible repeat (first | refine blk_drewN ?_ _ | refine blk_drew ?_ | refine blk_alloc ?_ _)); exact BK348.out⟩, ⟨by repeat (first | (with_reducible first | exact HB.out | apply below_alloc | apply pw_below_drewN | apply below_drew1 | refine below_set ?_ GE348.out) | exact HB.out)⟩⟩
                    · rw [if_neg c29] at H
                      have c29b0 : (((rd_T24 l0 x16_2).f0) == a1_0) = false := beq_eq_false_iff_ne.mpr c29
                      have c29b1 : (((rd_T24 l0 x16_2).f0) != a1_0) = true := bne_iff_ne.mpr c29
                      have H' := Aside0.mk H
                      clear H
                      have p357 : 0 ≤ (x16_2 : Int) := of_decide_eq_true (by first | (with_reducible assumption) | assumption)
                      have q357 : x16_2 < (l0.length : Int) := of_decide_eq_true (by first | (with_reducible assumption) | assumption)
                      obtain ⟨ad357, A357_1, c357_1, A357_2, c357_2, e357, hx357_0, hx357_1, hx357_2, hx357_3, hl357_1, hi357_1, hl357_2, hi357_2⟩ := at_T24 HR0.out x16_2 p357 q357
                      cases e357
                      replace hx357_0 := (HB.out.cell (World.block_lt_of_cell? w _ hx357_0)).trans hx357_0
                      replace hx357_1 := (HB.out.cell (World.block_lt_of_cell? w _ hx357_1)).trans hx357_1
                      replace hx357_2 := (HB.out.cell (World.block_lt_of_cell? w _ hx357_2)).trans hx357_2
                      replace hx357_3 := (HB.out.cell (World.block_lt_of_cell? w _ hx357_3)).trans hx357_3
                      have HR357_1 := Aside0.mk hi357_1
                      have HC357_1 := Aside0.mk hl357_1
                      clear hi357_1 hl357_1
                      have HR357_2 := Aside0.mk hi357_2
                      have HC357_2 := Aside0.mk hl357_2
                      clear hi357_2 hl357_2
                      replace p357 := eq_true p357
                      replace q357 := eq_true q357
                      have hcz31_0 : wr.cell? ⟨gb348, 0, none⟩ = some (.int .i64 a1_0) := (blk_cell BK348.out 0).trans rfl
                      have hcz31_1 : wr.cell? ⟨gb348, 1, none⟩ = some (.slice A1_1 l1_1.length c1_1) := (blk_cell BK348.out 1).trans rfl
                      have hcz31_2 : wr.cell? ⟨gb348, 2, none⟩ = some (.slice A1_2 l1_2.length c1_2) := (blk_cell BK348.out 2).trans rfl
                      have hcz31_3 : wr.cell? ⟨gb348, 3, none⟩ = some (.bool a1_3) := (blk_cell BK348.out 3).trans rfl
                      have hfz31_0 := blk_frozen BK348.out 0
                      have hfz31_1 := blk_frozen BK348.out 1
                      have hfz31_2 := blk_frozen BK348.out 2
                      have hfz31_3 := blk_frozen BK348.out 3
                      go_wp2
                      repeat (go_quiet (fail); try go_wp2)
                      go_roundg k2
                      case measure => have := HJ6.out; have := HK2.out; omega
                      case rel => exact ⟨(true), (x15_2), (wrap64 (x16_2 + 1)), (by first | rfl | (simp; done) | (simp [*]; done)), (by first | rfl | (simp; done) | (simp [*]; done)), (by first | rfl | (simp; done) | (simp [*]; done)), H', ⟨by have := HJ6.out; have := HK2.out; omega⟩, ⟨by (with_reducible repeat (first | apply Kd.V_alloc | apply Kd.V_drewN | apply Kd.V_drew)); exact HO_12.out⟩, ⟨by (with_reducible repeat (first | refine blk_drewN ?_ _ | refine blk_drew ?_ | refine blk_alloc ?_ _)); exact BK348.out⟩, ⟨by repeat (first | (with_reducible first | exact HB.out | apply below_alloc | apply pw_below_drewN | apply below_drew1 | refine below_set ?_ GE348.out) | exact HB.out)⟩⟩
                  · rw [if_neg c28] at H
                    exact absurd H (by simp)
                · replace c27 := Bool.eq_false_iff.mpr c27
                  subst c27
                  have H1 : (if 0 ≤ x16_2 then ((span_In.f ((rd_T24 l0 x16_2).f0) ((rd_T24 l0 x16_2).f1) ((rd_T24 l0 x16_2).f2) ((rd_T24 l0 x16_2).f3) a3 l4).bind fun t359 => (if ((rd_T24 l0 x16_2).f0) = a1_0 then (banksmanlaw10_SpanKeeps.l0 k2 l0 a2 a3 l4 t349 t352 t359 (wrap64 (x15_2 + 1)) (wrap64 (x16_2 + 1)) a1_0 l1_1 l1_2 a1_3) else (banksmanlaw10_SpanKeeps.l0 k2 l0 a2 a3 l4 t349 t352 t359 x15_2 (wrap64 (x16_2 + 1)) a1_0 l1_1 l1_2 a1_3))) else (none)) = some r := by rw [if_neg (show ¬ (false = true) by decide)] at H; exact H
                  clear H
                  have H := H1
                  clear H1
                  by_cases c32 : 0 ≤ x16_2
                  · rw [if_pos c32] at H
                    have c32b0 : decide (0 ≤ x16_2) = true := decide_eq_true c32
                    clear c32
                    replace H := Option.bind_eq_some_iff.mp H
                    obtain ⟨t359, A330, H⟩ := H
                    replace H : (if ((rd_T24 l0 x16_2).f0) = a1_0 then (banksmanlaw10_SpanKeeps.l0 k2 l0 a2 a3 l4 t349 t352 t359 (wrap64 (x15_2 + 1)) (wrap64 (x16_2 + 1)) a1_0 l1_1 l1_2 a1_3) else (banksmanlaw10_SpanKeeps.l0 k2 l0 a2 a3 l4 t349 t352 t359 x15_2 (wrap64 (x16_2 + 1)) a1_0 l1_1 l1_2 a1_3)) = some r := H
                    have A33 := Aside0.mk A330
                    clear A330
                    by_cases c34 : ((rd_T24 l0 x16_2).f0) = a1_0
                    · rw [if_pos c34] at H
                      have c34b0 : (((rd_T24 l0 x16_2).f0) == a1_0) = true := beq_iff_eq.mpr c34
                      have c34b1 : (((rd_T24 l0 x16_2).f0) != a1_0) = false := bne_eq_false_iff_eq.mpr c34
                      clear c34
                      have H' := Aside0.mk H
                      clear H
                      have p358 : 0 ≤ (x16_2 : Int) := of_decide_eq_true (by first | (with_reducible assumption) | assumption)
                      have q358 : x16_2 < (l0.length : Int) := of_decide_eq_true (by first | (with_reducible assumption) | assumption)
                      obtain ⟨ad358, A358_1, c358_1, A358_2, c358_2, e358, hx358_0, hx358_1, hx358_2, hx358_3, hl358_1, hi358_1, hl358_2, hi358_2⟩ := at_T24 HR0.out x16_2 p358 q358
                      cases e358
                      replace hx358_0 := (HB.out.cell (World.block_lt_of_cell? w _ hx358_0)).trans hx358_0
                      replace hx358_1 := (HB.out.cell (World.block_lt_of_cell? w _ hx358_1)).trans hx358_1
                      replace hx358_2 := (HB.out.cell (World.block_lt_of_cell? w _ hx358_2)).trans hx358_2
                      replace hx358_3 := (HB.out.cell (World.block_lt_of_cell? w _ hx358_3)).trans hx358_3
                      have HR358_1 := Aside0.mk hi358_1
                      have HC358_1 := Aside0.mk hl358_1
                      clear hi358_1 hl358_1
                      have HR358_2 := Aside0.mk hi358_2
                      have HC358_2 := Aside0.mk hl358_2
                      clear hi358_2 hl358_2
                      replace p358 := eq_true p358
                      replace q358 := eq_true q358
                      go_wp2_with (first | (go_at_call 18; (with_reducible refine (span_In.calls ((rd_T24 l0 x16_2).f0) _ _ ((rd_T24 l0 x16_2).f1) _ _ ((rd_T24 l0 x16_2).f2) ((rd_T24 l0 x16_2).f3) a3 _ _ l4 t359 _ ?side1 ?side2 ?side3 ?side4 ?side5 ?side6 A33.out).mono ?_); (case side1 => repeat (first | exact (Kd.C_below HR358_1.out HB.out) | (with_reducible refine Kd.C_alloc ?_ _) | (with_reducible refine Kd.C_drewN ?_ _) | (with_reducible refine Kd.C_drew ?_))); (case side2 => exact HC358_1.out); (case side3 => repeat (first | exact (Kd.C_below HR358_2.out HB.out) | (with_reducible refine Kd.C_alloc ?_ _) | (with_reducible refine Kd.C_drewN ?_ _) | (with_reducible refine Kd.C_drew ?_))); (case side4 => exact HC358_2.out); (case side5 => repeat (first | exact (Kd.C_below HR4.out HB.out) | (with_reducible refine Kd.C_alloc ?_ _) | (with_reducible refine Kd.C_drewN ?_ _) | (with_reducible refine Kd.C_drew ?_))); (case side6 => exact HC4.out); rintro e w35 ⟨rfl, hb⟩; have n0_ := Aside0.mk (Kd.V_below (by (with_reducible repeat (first | apply Kd.V_alloc | apply Kd.V_drewN | apply Kd.V_drew)); exact HO_12.out) hb); have n1_ := Aside0.mk (blk_below (g := gb348) (o := .cells #[.int .i64 a1_0, .slice A1_1 l1_1.length c1_1, .slice A1_2 l1_2.length c1_2, .bool a1_3] 24 (0, 0)) (by (with_reducible repeat (first | refine blk_drewN ?_ _ | refine blk_drew ?_ | refine blk_alloc ?_ _)); exact BK348.out) hb); have n2_ := Aside0.mk (below_step (by repeat (first | (with_reducible first | exact HB.out | apply below_alloc | apply pw_below_drewN | apply below_drew1 | refine below_set ?_ GE348.out) | exact HB.out)) hb); clear HO_12; clear BK348; clear HB; have HO_12 := n0_; have BK348 := n1_; have HB := n2_; clear n0_ n1_ n2_; (try clear hb); (try clear hb2); (try clear hk); (try clear hi); have p360 : 0 ≤ (x16_2 : Int) := of_decide_eq_true (by first | (with_reducible assumption) | assumption); have q360 : x16_2 < (l0.length : Int) := of_decide_eq_true (by first | (with_reducible assumption) | assumption); obtain ⟨ad360, A360_1, c360_1, A360_2, c360_2, e360, hx360_0, hx360_1, hx360_2, hx360_3, hl360_1, hi360_1, hl360_2, hi360_2⟩ := at_T24 HR0.out x16_2 p360 q360; obtain rfl : ad358 = ad360 := (by injection e360); replace hx360_0 := (HB.out.cell (World.block_lt_of_cell? w _ hx360_0)).trans hx360_0; replace hx360_1 := (HB.out.cell (World.block_lt_of_cell? w _ hx360_1)).trans hx360_1; replace hx360_2 := (HB.out.cell (World.block_lt_of_cell? w _ hx360_2)).trans hx360_2; replace hx360_3 := (HB.out.cell (World.block_lt_of_cell? w _ hx360_3)).trans hx360_3; have HR360_1 := Aside0.mk hi360_1; have HC360_1 := Aside0.mk hl360_1; clear hi360_1 hl360_1; have HR360_2 := Aside0.mk hi360_2; have HC360_2 := Aside0.mk hl360_2; clear hi360_2 hl360_2; replace p360 := eq_true p360; replace q360 := eq_true q360; have hcz36_0 : w35.cell? ⟨gb348, 0, none⟩ = some (.int .i64 a1_0) := (blk_cell BK348.out 0).trans rfl; have hcz36_1 : w35.cell? ⟨gb348, 1, none⟩ = some (.slice A1_1 l1_1.length c1_1) := (blk_cell BK348.out 1).trans rfl; have hcz36_2 : w35.cell? ⟨gb348, 2, none⟩ = some (.slice A1_2 l1_2.length c1_2) := (blk_cell BK348.out 2).trans rfl; have hcz36_3 : w35.cell? ⟨gb348, 3, none⟩ = some (.bool a1_3) := (blk_cell BK348.out 3).trans rfl; have hfz36_0 := blk_frozen BK348.out 0; have hfz36_1 := blk_frozen BK348.out 1; have hfz36_2 := blk_frozen BK348.out 2; have hfz36_3 := blk_frozen BK348.out 3))
                      repeat (go_quiet (first | (go_at_call 18; (with_reducible refine (span_In.calls ((rd_T24 l0 x16_2).f0) _ _ ((rd_T24 l0 x16_2).f1) _ _ ((rd_T24 l0 x16_2).f2) ((rd_T24 l0 x16_2).f3) a3 _ _ l4 t359 _ ?side1 ?side2 ?side3 ?side4 ?side5 ?side6 A33.out).mono ?_); (case side1 => repeat (first | exact (Kd.C_below HR358_1.out HB.out) | (with_reducible refine Kd.C_alloc ?_ _) | (with_reducible refine Kd.C_drewN ?_ _) | (with_reducible refine Kd.C_drew ?_))); (case side2 => exact HC358_1.out); (case side3 => repeat (first | exact (Kd.C_below HR358_2.out HB.out) | (with_reducible refine Kd.C_alloc ?_ _) | (with_reducible refine Kd.C_drewN ?_ _) | (with_reducible refine Kd.C_drew ?_))); (case side4 => exact HC358_2.out); (case side5 => repeat (first | exact (Kd.C_below HR4.out HB.out) | (with_reducible refine Kd.C_alloc ?_ _) | (with_reducible refine Kd.C_drewN ?_ _) | (with_reducible refine Kd.C_drew ?_))); (case side6 => exact HC4.out); rintro e w35 ⟨rfl, hb⟩; have n0_ := Aside0.mk (Kd.V_below (by (with_reducible repeat (first | apply Kd.V_alloc | apply Kd.V_drewN | apply Kd.V_drew)); exact HO_12.out) hb); have n1_ := Aside0.mk (blk_below (g := gb348) (o := .cells #[.int .i64 a1_0, .slice A1_1 l1_1.length c1_1, .slice A1_2 l1_2.length c1_2, .bool a1_3] 24 (0, 0)) (by (with_reducible repeat (first | refine blk_drewN ?_ _ | refine blk_drew ?_ | refine blk_alloc ?_ _)); exact BK348.out) hb); have n2_ := Aside0.mk (below_step (by repeat (first | (with_reducible first | exact HB.out | apply below_alloc | apply pw_below_drewN | apply below_drew1 | refine below_set ?_ GE348.out) | exact HB.out)) hb); clear HO_12; clear BK348; clear HB; have HO_12 := n0_; have BK348 := n1_; have HB := n2_; clear n0_ n1_ n2_; (try clear hb); (try clear hb2); (try clear hk); (try clear hi); have p360 : 0 ≤ (x16_2 : Int) := of_decide_eq_true (by first | (with_reducible assumption) | assumption); have q360 : x16_2 < (l0.length : Int) := of_decide_eq_true (by first | (with_reducible assumption) | assumption); obtain ⟨ad360, A360_1, c360_1, A360_2, c360_2, e360, hx360_0, hx360_1, hx360_2, hx360_3, hl360_1, hi360_1, hl360_2, hi360_2⟩ := at_T24 HR0.out x16_2 p360 q360; obtain rfl : ad358 = ad360 := (by injection e360); replace hx360_0 := (HB.out.cell (World.block_lt_of_cell? w _ hx360_0)).trans hx360_0; replace hx360_1 := (HB.out.cell (World.block_lt_of_cell? w _ hx360_1)).trans hx360_1; replace hx360_2 := (HB.out.cell (World.block_lt_of_cell? w _ hx360_2)).trans hx360_2; replace hx360_3 := (HB.out.cell (World.block_lt_of_cell? w _ hx360_3)).trans hx360_3; have HR360_1 := Aside0.mk hi360_1; have HC360_1 := Aside0.mk hl360_1; clear hi360_1 hl360_1; have HR360_2 := Aside0.mk hi360_2; have HC360_2 := Aside0.mk hl360_2; clear hi360_2 hl360_2; replace p360 := eq_true p360; replace q360 := eq_true q360; have hcz36_0 : w35.cell? ⟨gb348, 0, none⟩ = some (.int .i64 a1_0) := (blk_cell BK348.out 0).trans rfl; have hcz36_1 : w35.cell? ⟨gb348, 1, none⟩ = some (.slice A1_1 l1_1.length c1_1) := (blk_cell BK348.out 1).trans rfl; have hcz36_2 : w35.cell? ⟨gb348, 2, none⟩ = some (.slice A1_2 l1_2.length c1_2) := (blk_cell BK348.out 2).trans rfl; have hcz36_3 : w35.cell? ⟨gb348, 3, none⟩ = some (.bool a1_3) := (blk_cell BK348.out 3).trans rfl; have hfz36_0 := blk_frozen BK348.out 0; have hfz36_1 := blk_frozen BK348.out 1; have hfz36_2 := blk_frozen BK348.out 2; have hfz36_3 := blk_frozen BK348.out 3)); try go_wp2_with (first | (go_at_call 18; (with_reducible refine (span_In.calls ((rd_T24 l0 x16_2).f0) _ _ ((rd_T24 l0 x16_2).f1) _ _ ((rd_T24 l0 x16_2).f2) ((rd_T24 l0 x16_2).f3) a3 _ _ l4 t359 _ ?side1 ?side2 ?side3 ?side4 ?side5 ?side6 A33.out).mono ?_); (case side1 => repeat (first | exact (Kd.C_below HR358_1.out HB.out) | (with_reducible refine Kd.C_alloc ?_ _) | (with_reducible refine Kd.C_drewN ?_ _) | (with_reducible refine Kd.C_drew ?_))); (case side2 => exact HC358_1.out); (case side3 => repeat (first | exact (Kd.C_below HR358_2.out HB.out) | (with_reducible refine Kd.C_alloc ?_ _) | (with_reducible refine Kd.C_drewN ?_ _) | (with_reducible refine Kd.C_drew ?_))); (case side4 => exact HC358_2.out); (case side5 => repeat (first | exact (Kd.C_below HR4.out HB.out) | (with_reducible refine Kd.C_alloc ?_ _) | (with_reducible refine Kd.C_drewN ?_ _) | (with_reducible refine Kd.C_drew ?_))); (case side6 => exact HC4.out); rintro e w35 ⟨rfl, hb⟩; have n0_ := Aside0.mk (Kd.V_below (by (with_reducible repeat (first | apply Kd.V_alloc | apply Kd.V_drewN | apply Kd.V_drew)); exact HO_12.out) hb); have n1_ := Aside0.mk (blk_below (g := gb348) (o := .cells #[.int .i64 a1_0, .slice A1_1 l1_1.length c1_1, .slice A1_2 l1_2.length c1_2, .bool a1_3] 24 (0, 0)) (by (with_reducible repeat (first | refine blk_drewN ?_ _ | refine blk_drew ?_ | refine blk_alloc ?_ _)); exact BK348.out) hb); have n2_ := Aside0.mk (below_step (by repeat (first | (with_reducible first | exact HB.out | apply below_alloc | apply pw_below_drewN | apply below_drew1 | refine below_set ?_ GE348.out) | exact HB.out)) hb); clear HO_12; clear BK348; clear HB; have HO_12 := n0_; have BK348 := n1_; have HB := n2_; clear n0_ n1_ n2_; (try clear hb); (try clear hb2); (try clear hk); (try clear hi); have p360 : 0 ≤ (x16_2 : Int) := of_decide_eq_true (by first | (with_reducible assumption) | assumption); have q360 : x16_2 < (l0.length : Int) := of_decide_eq_true (by first | (with_reducible assumption) | assumption); obtain ⟨ad360, A360_1, c360_1, A360_2, c360_2, e360, hx360_0, hx360_1, hx360_2, hx360_3, hl360_1, hi360_1, hl360_2, hi360_2⟩ := at_T24 HR0.out x16_2 p360 q360; obtain rfl : ad358 = ad360 := (by injection e360); replace hx360_0 := (HB.out.cell (World.block_lt_of_cell? w _ hx360_0)).trans hx360_0; replace hx360_1 := (HB.out.cell (World.block_lt_of_cell? w _ hx360_1)).trans hx360_1; replace hx360_2 := (HB.out.cell (World.block_lt_of_cell? w _ hx360_2)).trans hx360_2; replace hx360_3 := (HB.out.cell (World.block_lt_of_cell? w _ hx360_3)).trans hx360_3; have HR360_1 := Aside0.mk hi360_1; have HC360_1 := Aside0.mk hl360_1; clear hi360_1 hl360_1; have HR360_2 := Aside0.mk hi360_2; have HC360_2 := Aside0.mk hl360_2; clear hi360_2 hl360_2; replace p360 := eq_true p360; replace q360 := eq_true q360; have hcz36_0 : w35.cell? ⟨gb348, 0, none⟩ = some (.int .i64 a1_0) := (blk_cell BK348.out 0).trans rfl; have hcz36_1 : w35.cell? ⟨gb348, 1, none⟩ = some (.slice A1_1 l1_1.length c1_1) := (blk_cell BK348.out 1).trans rfl; have hcz36_2 : w35.cell? ⟨gb348, 2, none⟩ = some (.slice A1_2 l1_2.length c1_2) := (blk_cell BK348.out 2).trans rfl; have hcz36_3 : w35.cell? ⟨gb348, 3, none⟩ = some (.bool a1_3) := (blk_cell BK348.out 3).trans rfl; have hfz36_0 := blk_frozen BK348.out 0; have hfz36_1 := blk_frozen BK348.out 1; have hfz36_2 := blk_frozen BK348.out 2; have hfz36_3 := blk_frozen BK348.out 3)))
                      go_roundg k2
                      case measure => have := HJ6.out; have := HK2.out; omega
                      case rel => exact ⟨(t359), (wrap64 (x15_2 + 1)), (wrap64 (x16_2 + 1)), (by first | rfl | (simp; done) | (simp [*]; done)), (by first | rfl | (simp; done) | (simp [*]; done)), (by first | rfl | (simp; done) | (simp [*]; done)), H', ⟨by have := HJ6.out; have := HK2.out; omega⟩, ⟨by (with_reducible repeat (first | apply Kd.V_alloc | apply Kd.V_drewN | apply Kd.V_drew)); exact HO_12.out⟩, ⟨by (with_reducible repeat (first | refine blk_drewN ?_ _ | refine blk_drew ?_ | refine blk_alloc ?_ _)); exact BK348.out⟩, ⟨by repeat (first | (with_reducible first | exact HB.out | apply below_alloc | apply pw_below_drewN | apply below_drew1 | refine below_set ?_ GE348.out) | exact HB.out)⟩⟩
                    · rw [if_neg c34] at H
                      have c34b0 : (((rd_T24 l0 x16_2).f0) == a1_0) = false := beq_eq_false_iff_ne.mpr c34
                      have c34b1 : (((rd_T24 l0 x16_2).f0) != a1_0) = true := bne_iff_ne.mpr c34
                      have H' := Aside0.mk H
                      clear H
                      have p358 : 0 ≤ (x16_2 : Int) := of_decide_eq_true (by first | (with_reducible assumption) | assumption)
                      have q358 : x16_2 < (l0.length : Int) := of_decide_eq_true (by first | (with_reducible assumption) | assumption)
                      obtain ⟨ad358, A358_1, c358_1, A358_2, c358_2, e358, hx358_0, hx358_1, hx358_2, hx358_3, hl358_1, hi358_1, hl358_2, hi358_2⟩ := at_T24 HR0.out x16_2 p358 q358
                      cases e358
                      replace hx358_0 := (HB.out.cell (World.block_lt_of_cell? w _ hx358_0)).trans hx358_0
                      replace hx358_1 := (HB.out.cell (World.block_lt_of_cell? w _ hx358_1)).trans hx358_1
                      replace hx358_2 := (HB.out.cell (World.block_lt_of_cell? w _ hx358_2)).trans hx358_2
                      replace hx358_3 := (HB.out.cell (World.block_lt_of_cell? w _ hx358_3)).trans hx358_3
                      have HR358_1 := Aside0.mk hi358_1
                      have HC358_1 := Aside0.mk hl358_1
                      clear hi358_1 hl358_1
                      have HR358_2 := Aside0.mk hi358_2
                      have HC358_2 := Aside0.mk hl358_2
                      clear hi358_2 hl358_2
                      replace p358 := eq_true p358
                      replace q358 := eq_true q358
                      go_wp2_with (first | (go_at_call 18; (with_reducible refine (span_In.calls ((rd_T24 l0 x16_2).f0) _ _ ((rd_T24 l0 x16_2).f1) _ _ ((rd_T24 l0 x16_2).f2) ((rd_T24 l0 x16_2).f3) a3 _ _ l4 t359 _ ?side1 ?side2 ?side3 ?side4 ?side5 ?side6 A33.out).mono ?_); (case side1 => repeat (first | exact (Kd.C_below HR358_1.out HB.out) | (with_reducible refine Kd.C_alloc ?_ _) | (with_reducible refine Kd.C_drewN ?_ _) | (with_reducible refine Kd.C_drew ?_))); (case side2 => exact HC358_1.out); (case side3 => repeat (first | exact (Kd.C_below HR358_2.out HB.out) | (with_reducible refine Kd.C_alloc ?_ _) | (with_reducible refine Kd.C_drewN ?_ _) | (with_reducible refine Kd.C_drew ?_))); (case side4 => exact HC358_2.out); (case side5 => repeat (first | exact (Kd.C_below HR4.out HB.out) | (with_reducible refine Kd.C_alloc ?_ _) | (with_reducible refine Kd.C_drewN ?_ _) | (with_reducible refine Kd.C_drew ?_))); (case side6 => exact HC4.out); rintro e w37 ⟨rfl, hb⟩; have n0_ := Aside0.mk (Kd.V_below (by (with_reducible repeat (first | apply Kd.V_alloc | apply Kd.V_drewN | apply Kd.V_drew)); exact HO_12.out) hb); have n1_ := Aside0.mk (blk_below (g := gb348) (o := .cells #[.int .i64 a1_0, .slice A1_1 l1_1.length c1_1, .slice A1_2 l1_2.length c1_2, .bool a1_3] 24 (0, 0)) (by (with_reducible repeat (first | refine blk_drewN ?_ _ | refine blk_drew ?_ | refine blk_alloc ?_ _)); exact BK348.out) hb); have n2_ := Aside0.mk (below_step (by repeat (first | (with_reducible first | exact HB.out | apply below_alloc | apply pw_below_drewN | apply below_drew1 | refine below_set ?_ GE348.out) | exact HB.out)) hb); clear HO_12; clear BK348; clear HB; have HO_12 := n0_; have BK348 := n1_; have HB := n2_; clear n0_ n1_ n2_; (try clear hb); (try clear hb2); (try clear hk); (try clear hi); have p360 : 0 ≤ (x16_2 : Int) := of_decide_eq_true (by first | (with_reducible assumption) | assumption); have q360 : x16_2 < (l0.length : Int) := of_decide_eq_true (by first | (with_reducible assumption) | assumption); obtain ⟨ad360, A360_1, c360_1, A360_2, c360_2, e360, hx360_0, hx360_1, hx360_2, hx360_3, hl360_1, hi360_1, hl360_2, hi360_2⟩ := at_T24 HR0.out x16_2 p360 q360; obtain rfl : ad358 = ad360 := (by injection e360); replace hx360_0 := (HB.out.cell (World.block_lt_of_cell? w _ hx360_0)).trans hx360_0; replace hx360_1 := (HB.out.cell (World.block_lt_of_cell? w _ hx360_1)).trans hx360_1; replace hx360_2 := (HB.out.cell (World.block_lt_of_cell? w _ hx360_2)).trans hx360_2; replace hx360_3 := (HB.out.cell (World.block_lt_of_cell? w _ hx360_3)).trans hx360_3; have HR360_1 := Aside0.mk hi360_1; have HC360_1 := Aside0.mk hl360_1; clear hi360_1 hl360_1; have HR360_2 := Aside0.mk hi360_2; have HC360_2 := Aside0.mk hl360_2; clear hi360_2 hl360_2; replace p360 := eq_true p360; replace q360 := eq_true q360; have hcz38_0 : w37.cell? ⟨gb348, 0, none⟩ = some (.int .i64 a1_0) := (blk_cell BK348.out 0).trans rfl; have hcz38_1 : w37.cell? ⟨gb348, 1, none⟩ = some (.slice A1_1 l1_1.length c1_1) := (blk_cell BK348.out 1).trans rfl; have hcz38_2 : w37.cell? ⟨gb348, 2, none⟩ = some (.slice A1_2 l1_2.length c1_2) := (blk_cell BK348.out 2).trans rfl; have hcz38_3 : w37.cell? ⟨gb348, 3, none⟩ = some (.bool a1_3) := (blk_cell BK348.out 3).trans rfl; have hfz38_0 := blk_frozen BK348.out 0; have hfz38_1 := blk_frozen BK348.out 1; have hfz38_2 := blk_frozen BK348.out 2; have hfz38_3 := blk_frozen BK348.out 3))
                      repeat (go_quiet (first | (go_at_call 18; (with_reducible refine (span_In.calls ((rd_T24 l0 x16_2).f0) _ _ ((rd_T24 l0 x16_2).f1) _ _ ((rd_T24 l0 x16_2).f2) ((rd_T24 l0 x16_2).f3) a3 _ _ l4 t359 _ ?side1 ?side2 ?side3 ?side4 ?side5 ?side6 A33.out).mono ?_); (case side1 => repeat (first | exact (Kd.C_below HR358_1.out HB.out) | (with_reducible refine Kd.C_alloc ?_ _) | (with_reducible refine Kd.C_drewN ?_ _) | (with_reducible refine Kd.C_drew ?_))); (case side2 => exact HC358_1.out); (case side3 => repeat (first | exact (Kd.C_below HR358_2.out HB.out) | (with_reducible refine Kd.C_alloc ?_ _) | (with_reducible refine Kd.C_drewN ?_ _) | (with_reducible refine Kd.C_drew ?_))); (case side4 => exact HC358_2.out); (case side5 => repeat (first | exact (Kd.C_below HR4.out HB.out) | (with_reducible refine Kd.C_alloc ?_ _) | (with_reducible refine Kd.C_drewN ?_ _) | (with_reducible refine Kd.C_drew ?_))); (case side6 => exact HC4.out); rintro e w37 ⟨rfl, hb⟩; have n0_ := Aside0.mk (Kd.V_below (by (with_reducible repeat (first | apply Kd.V_alloc | apply Kd.V_drewN | apply Kd.V_drew)); exact HO_12.out) hb); have n1_ := Aside0.mk (blk_below (g := gb348) (o := .cells #[.int .i64 a1_0, .slice A1_1 l1_1.length c1_1, .slice A1_2 l1_2.length c1_2, .bool a1_3] 24 (0, 0)) (by (with_reducible repeat (first | refine blk_drewN ?_ _ | refine blk_drew ?_ | refine blk_alloc ?_ _)); exact BK348.out) hb); have n2_ := Aside0.mk (below_step (by repeat (first | (with_reducible first | exact HB.out | apply below_alloc | apply pw_below_drewN | apply below_drew1 | refine below_set ?_ GE348.out) | exact HB.out)) hb); clear HO_12; clear BK348; clear HB; have HO_12 := n0_; have BK348 := n1_; have HB := n2_; clear n0_ n1_ n2_; (try clear hb); (try clear hb2); (try clear hk); (try clear hi); have p360 : 0 ≤ (x16_2 : Int) := of_decide_eq_true (by first | (with_reducible assumption) | assumption); have q360 : x16_2 < (l0.length : Int) := of_decide_eq_true (by first | (with_reducible assumption) | assumption); obtain ⟨ad360, A360_1, c360_1, A360_2, c360_2, e360, hx360_0, hx360_1, hx360_2, hx360_3, hl360_1, hi360_1, hl360_2, hi360_2⟩ := at_T24 HR0.out x16_2 p360 q360; obtain rfl : ad358 = ad360 := (by injection e360); replace hx360_0 := (HB.out.cell (World.block_lt_of_cell? w _ hx360_0)).trans hx360_0; replace hx360_1 := (HB.out.cell (World.block_lt_of_cell? w _ hx360_1)).trans hx360_1; replace hx360_2 := (HB.out.cell (World.block_lt_of_cell? w _ hx360_2)).trans hx360_2; replace hx360_3 := (HB.out.cell (World.block_lt_of_cell? w _ hx360_3)).trans hx360_3; have HR360_1 := Aside0.mk hi360_1; have HC360_1 := Aside0.mk hl360_1; clear hi360_1 hl360_1; have HR360_2 := Aside0.mk hi360_2; have HC360_2 := Aside0.mk hl360_2; clear hi360_2 hl360_2; replace p360 := eq_true p360; replace q360 := eq_true q360; have hcz38_0 : w37.cell? ⟨gb348, 0, none⟩ = some (.int .i64 a1_0) := (blk_cell BK348.out 0).trans rfl; have hcz38_1 : w37.cell? ⟨gb348, 1, none⟩ = some (.slice A1_1 l1_1.length c1_1) := (blk_cell BK348.out 1).trans rfl; have hcz38_2 : w37.cell? ⟨gb348, 2, none⟩ = some (.slice A1_2 l1_2.length c1_2) := (blk_cell BK348.out 2).trans rfl; have hcz38_3 : w37.cell? ⟨gb348, 3, none⟩ = some (.bool a1_3) := (blk_cell BK348.out 3).trans rfl; have hfz38_0 := blk_frozen BK348.out 0; have hfz38_1 := blk_frozen BK348.out 1; have hfz38_2 := blk_frozen BK348.out 2; have hfz38_3 := blk_frozen BK348.out 3)); try go_wp2_with (first | (go_at_call 18; (with_reducible refine (span_In.calls ((rd_T24 l0 x16_2).f0) _ _ ((rd_T24 l0 x16_2).f1) _ _ ((rd_T24 l0 x16_2).f2) ((rd_T24 l0 x16_2).f3) a3 _ _ l4 t359 _ ?side1 ?side2 ?side3 ?side4 ?side5 ?side6 A33.out).mono ?_); (case side1 => repeat (first | exact (Kd.C_below HR358_1.out HB.out) | (with_reducible refine Kd.C_alloc ?_ _) | (with_reducible refine Kd.C_drewN ?_ _) | (with_reducible refine Kd.C_drew ?_))); (case side2 => exact HC358_1.out); (case side3 => repeat (first | exact (Kd.C_below HR358_2.out HB.out) | (with_reducible refine Kd.C_alloc ?_ _) | (with_reducible refine Kd.C_drewN ?_ _) | (with_reducible refine Kd.C_drew ?_))); (case side4 => exact HC358_2.out); (case side5 => repeat (first | exact (Kd.C_below HR4.out HB.out) | (with_reducible refine Kd.C_alloc ?_ _) | (with_reducible refine Kd.C_drewN ?_ _) | (with_reducible refine Kd.C_drew ?_))); (case side6 => exact HC4.out); rintro e w37 ⟨rfl, hb⟩; have n0_ := Aside0.mk (Kd.V_below (by (with_reducible repeat (first | apply Kd.V_alloc | apply Kd.V_drewN | apply Kd.V_drew)); exact HO_12.out) hb); have n1_ := Aside0.mk (blk_below (g := gb348) (o := .cells #[.int .i64 a1_0, .slice A1_1 l1_1.length c1_1, .slice A1_2 l1_2.length c1_2, .bool a1_3] 24 (0, 0)) (by (with_reducible repeat (first | refine blk_drewN ?_ _ | refine blk_drew ?_ | refine blk_alloc ?_ _)); exact BK348.out) hb); have n2_ := Aside0.mk (below_step (by repeat (first | (with_reducible first | exact HB.out | apply below_alloc | apply pw_below_drewN | apply below_drew1 | refine below_set ?_ GE348.out) | exact HB.out)) hb); clear HO_12; clear BK348; clear HB; have HO_12 := n0_; have BK348 := n1_; have HB := n2_; clear n0_ n1_ n2_; (try clear hb); (try clear hb2); (try clear hk); (try clear hi); have p360 : 0 ≤ (x16_2 : Int) := of_decide_eq_true (by first | (with_reducible assumption) | assumption); have q360 : x16_2 < (l0.length : Int) := of_decide_eq_true (by first | (with_reducible assumption) | assumption); obtain ⟨ad360, A360_1, c360_1, A360_2, c360_2, e360, hx360_0, hx360_1, hx360_2, hx360_3, hl360_1, hi360_1, hl360_2, hi360_2⟩ := at_T24 HR0.out x16_2 p360 q360; obtain rfl : ad358 = ad360 := (by injection e360); replace hx360_0 := (HB.out.cell (World.block_lt_of_cell? w _ hx360_0)).trans hx360_0; replace hx360_1 := (HB.out.cell (World.block_lt_of_cell? w _ hx360_1)).trans hx360_1; replace hx360_2 := (HB.out.cell (World.block_lt_of_cell? w _ hx360_2)).trans hx360_2; replace hx360_3 := (HB.out.cell (World.block_lt_of_cell? w _ hx360_3)).trans hx360_3; have HR360_1 := Aside0.mk hi360_1; have HC360_1 := Aside0.mk hl360_1; clear hi360_1 hl360_1; have HR360_2 := Aside0.mk hi360_2; have HC360_2 := Aside0.mk hl360_2; clear hi360_2 hl360_2; replace p360 := eq_true p360; replace q360 := eq_true q360; have hcz38_0 : w37.cell? ⟨gb348, 0, none⟩ = some (.int .i64 a1_0) := (blk_cell BK348.out 0).trans rfl; have hcz38_1 : w37.cell? ⟨gb348, 1, none⟩ = some (.slice A1_1 l1_1.length c1_1) := (blk_cell BK348.out 1).trans rfl; have hcz38_2 : w37.cell? ⟨gb348, 2, none⟩ = some (.slice A1_2 l1_2.length c1_2) := (blk_cell BK348.out 2).trans rfl; have hcz38_3 : w37.cell? ⟨gb348, 3, none⟩ = some (.bool a1_3) := (blk_cell BK348.out 3).trans rfl; have hfz38_0 := blk_frozen BK348.out 0; have hfz38_1 := blk_frozen BK348.out 1; have hfz38_2 := blk_frozen BK348.out 2; have hfz38_3 := blk_frozen BK348.out 3)))
                      go_roundg k2
                      case measure => have := HJ6.out; have := HK2.out; omega
                      case rel => exact ⟨(t359), (x15_2), (wrap64 (x16_2 + 1)), (by first | rfl | (simp; done) | (simp [*]; done)), (by first | rfl | (simp; done) | (simp [*]; done)), (by first | rfl | (simp; done) | (simp [*]; done)), H', ⟨by have := HJ6.out; have := HK2.out; omega⟩, ⟨by (with_reducible repeat (first | apply Kd.V_alloc | apply Kd.V_drewN | apply Kd.V_drew)); exact HO_12.out⟩, ⟨by (with_reducible repeat (first | refine blk_drewN ?_ _ | refine blk_drew ?_ | refine blk_alloc ?_ _)); exact BK348.out⟩, ⟨by repeat (first | (with_reducible first | exact HB.out | apply below_alloc | apply pw_below_drewN | apply below_drew1 | refine below_set ?_ GE348.out) | exact HB.out)⟩⟩
                  · rw [if_neg c32] at H
                    exact absurd H (by simp)
              · rw [if_neg c26] at H
                have c26b0 : decide (x16_2 < (l0.length : Int)) = false := decide_eq_false c26
                clear c26
                have H' := Aside0.mk H
                clear H
                go_wp2
                repeat (go_quiet (fail); try go_wp2)
                go_loopg [17, 18, 19] k2 (fun kq v17 v18 v19 w' => ∃ (x17_3 : Bool) (x18_3 : Int) (x19_3 : Int), v17 = .bool x17_3 ∧ v18 = .int .i64 x18_3 ∧ v19 = .int .i64 x19_3 ∧ Aside0 (banksmanlaw10_SpanKeeps.l1 kq a2 a3 l4 t349 t352 x14_2 x15_2 x17_3 x18_3 x19_3 a1_0 l1_1 l1_2 a1_3 = some r) ∧ Aside0 (kq ≤ k2) ∧ Aside0 (Kd.V k24 24 w' w.heap.size (fun k_ => k_ ≠ gb348) v353 t352) ∧ Aside0 (w'.heap[gb348]? = some (.cells #[.int .i64 a1_0, (.slice A1_1 l1_1.length c1_1), (.slice A1_2 l1_2.length c1_2), .bool a1_3] 24 (0, 0))) ∧ Aside0 (Below w.heap.size w w'))
                case atStart => exact ⟨(false), (0), (0), (by first | rfl | (simp; done) | (simp [*]; done)), (by first | rfl | (simp; done) | (simp [*]; done)), (by first | rfl | (simp; done) | (simp [*]; done)), H', ⟨Nat.le_refl _⟩, ⟨by (with_reducible repeat (first | apply Kd.V_alloc | apply Kd.V_drewN | apply Kd.V_drew)); exact HO_12.out⟩, ⟨by (with_reducible repeat (first | refine blk_drewN ?_ _ | refine blk_drew ?_ | refine blk_alloc ?_ _)); exact BK348.out⟩, ⟨by repeat (first | (with_reducible first | exact HB.out | apply below_alloc | apply pw_below_drewN | apply below_drew1 | refine below_set ?_ GE348.out) | exact HB.out)⟩⟩
                case round =>
                  clear H'
                  try clear c1
                  try clear c2
                  try clear p2
                  try clear c3
                  try clear p3
                  try clear q3
                  try clear hx3
                  try clear c4
                  try clear c6
                  try clear p6
                  try clear c11
                  try clear c13
                  try clear c18
                  try clear c20
                  try clear c20b0
                  try clear c20b1
                  try clear c26
                  try clear c26b0
                  try clear c27
                  try clear c28
                  try clear c28b0
                  try clear c29
                  try clear c29b0
                  try clear c29b1
                  try clear c32
                  try clear c32b0
                  try clear c34
                  try clear c34b0
                  try clear c34b1
                  try clear c35
                  try clear p35
                  try clear q35
                  try clear hx35
                  try clear c36
                  try clear p36
                  try clear q36
                  try clear hx36
                  try clear hcz14_0
                  try clear hcz14_1
                  try clear hcz14_2
                  try clear hcz14_3
                  try clear hcz16_0
                  try clear hcz16_1
                  try clear hcz16_2
                  try clear hcz16_3
                  try clear hcz22_0
                  try clear hcz22_1
                  try clear hcz22_2
                  try clear hcz22_3
                  try clear hcz24_0
                  try clear hcz24_1
                  try clear hcz24_2
                  try clear hcz24_3
                  try clear hcz30_0
                  try clear hcz30_1
                  try clear hcz30_2
                  try clear hcz30_3
                  try clear hcz31_0
                  try clear hcz31_1
                  try clear hcz31_2
                  try clear hcz31_3
                  try clear hcz36_0
                  try clear hcz36_1
                  try clear hcz36_2
                  try clear hcz36_3
                  try clear hcz38_0
                  try clear hcz38_1
                  try clear hcz38_2
                  try clear hcz38_3
                  try clear hfz14_0
                  try clear hfz14_1
                  try clear hfz14_2
                  try clear hfz14_3
                  try clear hfz16_0
                  try clear hfz16_1
                  try clear hfz16_2
                  try clear hfz16_3
                  try clear hfz22_0
                  try clear hfz22_1
                  try clear hfz22_2
                  try clear hfz22_3
                  try clear hfz24_0
                  try clear hfz24_1
                  try clear hfz24_2
                  try clear hfz24_3
                  try clear hfz30_0
                  try clear hfz30_1
                  try clear hfz30_2
                  try clear hfz30_3
                  try clear hfz31_0
                  try clear hfz31_1
                  try clear hfz31_2
                  try clear hfz31_3
                  try clear hfz36_0
                  try clear hfz36_1
                  try clear hfz36_2
                  try clear hfz36_3
                  try clear hfz38_0
                  try clear hfz38_1
                  try clear hfz38_2
                  try clear hfz38_3
                  try clear hx357_0
                  try clear hx357_1
                  try clear hx357_2
                  try clear hx357_3
                  try clear hx358_0
                  try clear hx358_1
                  try clear hx358_2
                  try clear hx358_3
                  try clear hx360_0
                  try clear hx360_1
                  try clear hx360_2
                  try clear hx360_3
                  try clear p2
                  try clear p357
                  try clear p358
                  try clear p360
                  try clear q357
                  try clear q358
                  try clear q360
                  obtain ⟨x17_3, x18_3, x19_3, rfl, rfl, rfl, HA, HK3, HO_12, BK348, HB⟩ := hrel
                  cases gk with
                  | zero => exact absurd HA.out (by simp [banksmanlaw10_SpanKeeps.l1])
                  | succ k3 =>
                    have H := HA.out
                    clear HA
                    simp only [banksmanlaw10_SpanKeeps.l1] at H
                    by_cases c39 : x19_3 < (t352.length : Int)
                    · rw [if_pos c39] at H
                      have c39b0 : decide (x19_3 < (t352.length : Int)) = true := decide_eq_true c39
                      clear c39
                      by_cases c40 : x17_3 = true
                      · subst c40
                        have H1 : (if 0 ≤ x19_3 then (if ((rd_T24 t352 x19_3).f0) = a1_0 then (banksmanlaw10_SpanKeeps.l1 k3 a2 a3 l4 t349 t352 x14_2 x15_2 true (wrap64 (x18_3 + 1)) (wrap64 (x19_3 + 1)) a1_0 l1_1 l1_2 a1_3) else (banksmanlaw10_SpanKeeps.l1 k3 a2 a3 l4 t349 t352 x14_2 x15_2 true x18_3 (wrap64 (x19_3 + 1)) a1_0 l1_1 l1_2 a1_3)) else (none)) = some r := by rw [if_pos rfl] at H; exact H
                        clear H
                        have H := H1
                        clear H1
                        by_cases c41 : 0 ≤ x19_3
                        · rw [if_pos c41] at H
                          have c41b0 : decide (0 ≤ x19_3) = true := decide_eq_true c41
                          clear c41
                          by_cases c42 : ((rd_T24 t352 x19_3).f0) = a1_0
                          · rw [if_pos c42] at H
                            have c42b0 : (((rd_T24 t352 x19_3).f0) == a1_0) = true := beq_iff_eq.mpr c42
                            have c42b1 : (((rd_T24 t352 x19_3).f0) != a1_0) = false := bne_eq_false_iff_eq.mpr c42
                            clear c42
                            have H' := Aside0.mk H
                            clear H
                            obtain ⟨Ao43, co43, eo43⟩ := Kd.V_slice HO_12.out
                            subst eo43
                            have p361 : 0 ≤ (x19_3 : Int) := of_decide_eq_true (by first | (with_reducible assumption) | assumption)
                            have q361 : x19_3 < (t352.length : Int) := of_decide_eq_true (by first | (with_reducible assumption) | assumption)
                            obtain ⟨ad361, A361_1, c361_1, A361_2, c361_2, e361, hx361_0, hx361_1, hx361_2, hx361_3, hl361_1, hi361_1, hl361_2, hi361_2⟩ := at_T24 (Kd.V_reads' HO_12.out).2.2 x19_3 p361 q361
                            cases e361
                            obtain ⟨ce361, hce361, hMe361, hcc361⟩ := Kd.V_get HO_12.out z24 x19_3 p361 (by first | exact q361 | exact of_decide_eq_true (by first | (with_reducible assumption) | assumption) | (have e_ := (Kd.V_reads' HO_12.out).1; omega))
                            obtain ⟨ua361_1, uc361_1, ua361_2, uc361_2, rfl, ul361_1, ge361_1, ul361_2, ge361_2⟩ := k24_openF hMe361
                            have hv361_1 := hcc361 1 _ rfl
                            rw [add_field _ _ 1 (by omega)] at hv361_1
                            replace hv361_1 := Option.some.inj (hv361_1.symm.trans hx361_1)
                            injection hv361_1 with hva_ hvn_ hvc_
                            rw [hva_] at ge361_1
                            rw [hvc_] at ul361_1
                            have HL361_1 := Aside0.mk (show Kd.V (Kd.int .u8) 5 _ w.heap.size _ _ ((rd_T24 t352 x19_3).f1) from Kd.V_mk ul361_1 ge361_1)
                            clear hva_ hvn_ hvc_ ge361_1 ul361_1
                            have hv361_2 := hcc361 2 _ rfl
                            rw [add_field _ _ 2 (by omega)] at hv361_2
                            replace hv361_2 := Option.some.inj (hv361_2.symm.trans hx361_2)
                            injection hv361_2 with hva_ hvn_ hvc_
                            rw [hva_] at ge361_2
                            rw [hvc_] at ul361_2
                            have HL361_2 := Aside0.mk (show Kd.V (Kd.int .u8) 5 _ w.heap.size _ _ ((rd_T24 t352 x19_3).f2) from Kd.V_mk ul361_2 ge361_2)
                            clear hva_ hvn_ hvc_ ge361_2 ul361_2
                            clear hcc361 hce361
                            have HR361_1 := Aside0.mk hi361_1
                            have HC361_1 := Aside0.mk hl361_1
                            clear hi361_1 hl361_1
                            have HR361_2 := Aside0.mk hi361_2
                            have HC361_2 := Aside0.mk hl361_2
                            clear hi361_2 hl361_2
                            replace p361 := eq_true p361
                            replace q361 := eq_true q361
                            have hcz44_0 : wr.cell? ⟨gb348, 0, none⟩ = some (.int .i64 a1_0) := (blk_cell BK348.out 0).trans rfl
                            have hcz44_1 : wr.cell? ⟨gb348, 1, none⟩ = some (.slice A1_1 l1_1.length c1_1) := (blk_cell BK348.out 1).trans rfl
                            have hcz44_2 : wr.cell? ⟨gb348, 2, none⟩ = some (.slice A1_2 l1_2.length c1_2) := (blk_cell BK348.out 2).trans rfl
                            have hcz44_3 : wr.cell? ⟨gb348, 3, none⟩ = some (.bool a1_3) := (blk_cell BK348.out 3).trans rfl
                            have hfz44_0 := blk_frozen BK348.out 0
                            have hfz44_1 := blk_frozen BK348.out 1
                            have hfz44_2 := blk_frozen BK348.out 2
                            have hfz44_3 := blk_frozen BK348.out 3
                            go_wp2
                            repeat (go_quiet (fail); try go_wp2)
                            go_roundg k3
                            case measure => have := HJ6.out; have := HK2.out; have := HK3.out; omega
                            case rel => exact ⟨(true), (wrap64 (x18_3 + 1)), (wrap64 (x19_3 + 1)), (by first | rfl | (simp; done) | (simp [*]; done)), (by first | rfl | (simp; done) | (simp [*]; done)), (by first | rfl | (simp; done) | (simp [*]; done)), H', ⟨by have := HJ6.out; have := HK2.out; have := HK3.out; omega⟩, ⟨by (with_reducible repeat (first | apply Kd.V_alloc | apply Kd.V_drewN | apply Kd.V_drew)); exact HO_12.out⟩, ⟨by (with_reducible repeat (first | refine blk_drewN ?_ _ | refine blk_drew ?_ | refine blk_alloc ?_ _)); exact BK348.out⟩, ⟨by repeat (first | (with_reducible first | exact HB.out | apply below_alloc | apply pw_below_drewN | apply below_drew1 | refine below_set ?_ GE348.out) | exact HB.out)⟩⟩
                          · rw [if_neg c42] at H
                            have c42b0 : (((rd_T24 t352 x19_3).f0) == a1_0) = false := beq_eq_false_iff_ne.mpr c42
                            have c42b1 : (((rd_T24 t352 x19_3).f0) != a1_0) = true := bne_iff_ne.mpr c42
                            have H' := Aside0.mk H
                            clear H
                            obtain ⟨Ao45, co45, eo45⟩ := Kd.V_slice HO_12.out
                            subst eo45
                            have p361 : 0 ≤ (x19_3 : Int) := of_decide_eq_true (by first | (with_reducible assumption) | assumption)
                            have q361 : x19_3 < (t352.length : Int) := of_decide_eq_true (by first | (with_reducible assumption) | assumption)
                            obtain ⟨ad361, A361_1, c361_1, A361_2, c361_2, e361, hx361_0, hx361_1, hx361_2, hx361_3, hl361_1, hi361_1, hl361_2, hi361_2⟩ := at_T24 (Kd.V_reads' HO_12.out).2.2 x19_3 p361 q361
                            cases e361
                            obtain ⟨ce361, hce361, hMe361, hcc361⟩ := Kd.V_get HO_12.out z24 x19_3 p361 (by first | exact q361 | exact of_decide_eq_true (by first | (with_reducible assumption) | assumption) | (have e_ := (Kd.V_reads' HO_12.out).1; omega))
                            obtain ⟨ua361_1, uc361_1, ua361_2, uc361_2, rfl, ul361_1, ge361_1, ul361_2, ge361_2⟩ := k24_openF hMe361
                            have hv361_1 := hcc361 1 _ rfl
                            rw [add_field _ _ 1 (by omega)] at hv361_1
                            replace hv361_1 := Option.some.inj (hv361_1.symm.trans hx361_1)
                            injection hv361_1 with hva_ hvn_ hvc_
                            rw [hva_] at ge361_1
                            rw [hvc_] at ul361_1
                            have HL361_1 := Aside0.mk (show Kd.V (Kd.int .u8) 5 _ w.heap.size _ _ ((rd_T24 t352 x19_3).f1) from Kd.V_mk ul361_1 ge361_1)
                            clear hva_ hvn_ hvc_ ge361_1 ul361_1
                            have hv361_2 := hcc361 2 _ rfl
                            rw [add_field _ _ 2 (by omega)] at hv361_2
                            replace hv361_2 := Option.some.inj (hv361_2.symm.trans hx361_2)
                            injection hv361_2 with hva_ hvn_ hvc_
                            rw [hva_] at ge361_2
                            rw [hvc_] at ul361_2
                            have HL361_2 := Aside0.mk (show Kd.V (Kd.int .u8) 5 _ w.heap.size _ _ ((rd_T24 t352 x19_3).f2) from Kd.V_mk ul361_2 ge361_2)
                            clear hva_ hvn_ hvc_ ge361_2 ul361_2
                            clear hcc361 hce361
                            have HR361_1 := Aside0.mk hi361_1
                            have HC361_1 := Aside0.mk hl361_1
                            clear hi361_1 hl361_1
                            have HR361_2 := Aside0.mk hi361_2
                            have HC361_2 := Aside0.mk hl361_2
                            clear hi361_2 hl361_2
                            replace p361 := eq_true p361
                            replace q361 := eq_true q361
                            have hcz46_0 : wr.cell? ⟨gb348, 0, none⟩ = some (.int .i64 a1_0) := (blk_cell BK348.out 0).trans rfl
                            have hcz46_1 : wr.cell? ⟨gb348, 1, none⟩ = some (.slice A1_1 l1_1.length c1_1) := (blk_cell BK348.out 1).trans rfl
                            have hcz46_2 : wr.cell? ⟨gb348, 2, none⟩ = some (.slice A1_2 l1_2.length c1_2) := (blk_cell BK348.out 2).trans rfl
                            have hcz46_3 : wr.cell? ⟨gb348, 3, none⟩ = some (.bool a1_3) := (blk_cell BK348.out 3).trans rfl
                            have hfz46_0 := blk_frozen BK348.out 0
                            have hfz46_1 := blk_frozen BK348.out 1
                            have hfz46_2 := blk_frozen BK348.out 2
                            have hfz46_3 := blk_frozen BK348.out 3
                            go_wp2
                            repeat (go_quiet (fail); try go_wp2)
                            go_roundg k3
                            case measure => have := HJ6.out; have := HK2.out; have := HK3.out; omega
                            case rel => exact ⟨(true), (x18_3), (wrap64 (x19_3 + 1)), (by first | rfl | (simp; done) | (simp [*]; done)), (by first | rfl | (simp; done) | (simp [*]; done)), (by first | rfl | (simp; done) | (simp [*]; done)), H', ⟨by have := HJ6.out; have := HK2.out; have := HK3.out; omega⟩, ⟨by (with_reducible repeat (first | apply Kd.V_alloc | apply Kd.V_drewN | apply Kd.V_drew)); exact HO_12.out⟩, ⟨by (with_reducible repeat (first | refine blk_drewN ?_ _ | refine blk_drew ?_ | refine blk_alloc ?_ _)); exact BK348.out⟩, ⟨by repeat (first | (with_reducible first | exact HB.out | apply below_alloc | apply pw_below_drewN | apply below_drew1 | refine below_set ?_ GE348.out) | exact HB.out)⟩⟩
                        · rw [if_neg c41] at H
                          exact absurd H (by simp)
                      · replace c40 := Bool.eq_false_iff.mpr c40
                        subst c40
                        have H1 : (if 0 ≤ x19_3 then ((span_In.f ((rd_T24 t352 x19_3).f0) ((rd_T24 t352 x19_3).f1) ((rd_T24 t352 x19_3).f2) ((rd_T24 t352 x19_3).f3) a3 l4).bind fun t363 => (if ((rd_T24 t352 x19_3).f0) = a1_0 then (banksmanlaw10_SpanKeeps.l1 k3 a2 a3 l4 t349 t352 x14_2 x15_2 t363 (wrap64 (x18_3 + 1)) (wrap64 (x19_3 + 1)) a1_0 l1_1 l1_2 a1_3) else (banksmanlaw10_SpanKeeps.l1 k3 a2 a3 l4 t349 t352 x14_2 x15_2 t363 x18_3 (wrap64 (x19_3 + 1)) a1_0 l1_1 l1_2 a1_3))) else (none)) = some r := by rw [if_neg (show ¬ (false = true) by decide)] at H; exact H
                        clear H
                        have H := H1
                        clear H1
                        by_cases c47 : 0 ≤ x19_3
                        · rw [if_pos c47] at H
                          have c47b0 : decide (0 ≤ x19_3) = true := decide_eq_true c47
                          clear c47
                          replace H := Option.bind_eq_some_iff.mp H
                          obtain ⟨t363, A480, H⟩ := H
                          replace H : (if ((rd_T24 t352 x19_3).f0) = a1_0 then (banksmanlaw10_SpanKeeps.l1 k3 a2 a3 l4 t349 t352 x14_2 x15_2 t363 (wrap64 (x18_3 + 1)) (wrap64 (x19_3 + 1)) a1_0 l1_1 l1_2 a1_3) else (banksmanlaw10_SpanKeeps.l1 k3 a2 a3 l4 t349 t352 x14_2 x15_2 t363 x18_3 (wrap64 (x19_3 + 1)) a1_0 l1_1 l1_2 a1_3)) = some r := H
                          have A48 := Aside0.mk A480
                          clear A480
                          by_cases c49 : ((rd_T24 t352 x19_3).f0) = a1_0
                          · rw [if_pos c49] at H
                            have c49b0 : (((rd_T24 t352 x19_3).f0) == a1_0) = true := beq_iff_eq.mpr c49
                            have c49b1 : (((rd_T24 t352 x19_3).f0) != a1_0) = false := bne_eq_false_iff_eq.mpr c49
                            clear c49
                            have H' := Aside0.mk H
                            clear H
                            obtain ⟨Ao50, co50, eo50⟩ := Kd.V_slice HO_12.out
                            subst eo50
                            have p362 : 0 ≤ (x19_3 : Int) := of_decide_eq_true (by first | (with_reducible assumption) | assumption)
                            have q362 : x19_3 < (t352.length : Int) := of_decide_eq_true (by first | (with_reducible assumption) | assumption)
                            obtain ⟨ad362, A362_1, c362_1, A362_2, c362_2, e362, hx362_0, hx362_1, hx362_2, hx362_3, hl362_1, hi362_1, hl362_2, hi362_2⟩ := at_T24 (Kd.V_reads' HO_12.out).2.2 x19_3 p362 q362
                            cases e362
                            obtain ⟨ce362, hce362, hMe362, hcc362⟩ := Kd.V_get HO_12.out z24 x19_3 p362 (by first | exact q362 | exact of_decide_eq_true (by first | (with_reducible assumption) | assumption) | (have e_ := (Kd.V_reads' HO_12.out).1; omega))
                            obtain ⟨ua362_1, uc362_1, ua362_2, uc362_2, rfl, ul362_1, ge362_1, ul362_2, ge362_2⟩ := k24_openF hMe362
                            have hv362_1 := hcc362 1 _ rfl
                            rw [add_field _ _ 1 (by omega)] at hv362_1
                            replace hv362_1 := Option.some.inj (hv362_1.symm.trans hx362_1)
                            injection hv362_1 with hva_ hvn_ hvc_
                            rw [hva_] at ge362_1
                            rw [hvc_] at ul362_1
                            have HL362_1 := Aside0.mk (show Kd.V (Kd.int .u8) 5 _ w.heap.size _ _ ((rd_T24 t352 x19_3).f1) from Kd.V_mk ul362_1 ge362_1)
                            clear hva_ hvn_ hvc_ ge362_1 ul362_1
                            have hv362_2 := hcc362 2 _ rfl
                            rw [add_field _ _ 2 (by omega)] at hv362_2
                            replace hv362_2 := Option.some.inj (hv362_2.symm.trans hx362_2)
                            injection hv362_2 with hva_ hvn_ hvc_
                            rw [hva_] at ge362_2
                            rw [hvc_] at ul362_2
                            have HL362_2 := Aside0.mk (show Kd.V (Kd.int .u8) 5 _ w.heap.size _ _ ((rd_T24 t352 x19_3).f2) from Kd.V_mk ul362_2 ge362_2)
                            clear hva_ hvn_ hvc_ ge362_2 ul362_2
                            clear hcc362 hce362
                            have HR362_1 := Aside0.mk hi362_1
                            have HC362_1 := Aside0.mk hl362_1
                            clear hi362_1 hl362_1
                            have HR362_2 := Aside0.mk hi362_2
                            have HC362_2 := Aside0.mk hl362_2
                            clear hi362_2 hl362_2
                            replace p362 := eq_true p362
                            replace q362 := eq_true q362
                            go_wp2_with (first | (go_at_call 18; (with_reducible refine (span_In.calls ((rd_T24 t352 x19_3).f0) _ _ ((rd_T24 t352 x19_3).f1) _ _ ((rd_T24 t352 x19_3).f2) ((rd_T24 t352 x19_3).f3) a3 _ _ l4 t363 _ ?side1 ?side2 ?side3 ?side4 ?side5 ?side6 A48.out).mono ?_); (case side1 => repeat (first | exact (by repeat (first | (with_reducible exact HR362_1.out) | (with_reducible refine Kd.C_alloc ?_ _) | (with_reducible refine Kd.C_drewN ?_ _) | (with_reducible refine Kd.C_drew ?_) | exact HR362_1.out)) | (with_reducible refine Kd.C_alloc ?_ _) | (with_reducible refine Kd.C_drewN ?_ _) | (with_reducible refine Kd.C_drew ?_))); (case side2 => exact HC362_1.out); (case side3 => repeat (first | exact (by repeat (first | (with_reducible exact HR362_2.out) | (with_reducible refine Kd.C_alloc ?_ _) | (with_reducible refine Kd.C_drewN ?_ _) | (with_reducible refine Kd.C_drew ?_) | exact HR362_2.out)) | (with_reducible refine Kd.C_alloc ?_ _) | (with_reducible refine Kd.C_drewN ?_ _) | (with_reducible refine Kd.C_drew ?_))); (case side4 => exact HC362_2.out); (case side5 => repeat (first | exact (Kd.C_below HR4.out HB.out) | (with_reducible refine Kd.C_alloc ?_ _) | (with_reducible refine Kd.C_drewN ?_ _) | (with_reducible refine Kd.C_drew ?_))); (case side6 => exact HC4.out); rintro e w51 ⟨rfl, hb⟩; have n0_ := Aside0.mk (Kd.V_below (by (with_reducible repeat (first | apply Kd.V_alloc | apply Kd.V_drewN | apply Kd.V_drew)); exact HO_12.out) hb); have n1_ := Aside0.mk (Kd.V_below (by (with_reducible repeat (first | apply Kd.V_alloc | apply Kd.V_drewN | apply Kd.V_drew)); exact HL362_1.out) hb); have n2_ := Aside0.mk (Kd.V_below (by (with_reducible repeat (first | apply Kd.V_alloc | apply Kd.V_drewN | apply Kd.V_drew)); exact HL362_2.out) hb); have n3_ := Aside0.mk (blk_below (g := gb348) (o := .cells #[.int .i64 a1_0, .slice A1_1 l1_1.length c1_1, .slice A1_2 l1_2.length c1_2, .bool a1_3] 24 (0, 0)) (by (with_reducible repeat (first | refine blk_drewN ?_ _ | refine blk_drew ?_ | refine blk_alloc ?_ _)); exact BK348.out) hb); have n4_ := Aside0.mk (Kd.C_below (by repeat (first | (with_reducible exact HR362_1.out) | (with_reducible refine Kd.C_alloc ?_ _) | (with_reducible refine Kd.C_drewN ?_ _) | (with_reducible refine Kd.C_drew ?_) | exact HR362_1.out)) hb); have n5_ := Aside0.mk (Kd.C_below (by repeat (first | (with_reducible exact HR362_2.out) | (with_reducible refine Kd.C_alloc ?_ _) | (with_reducible refine Kd.C_drewN ?_ _) | (with_reducible refine Kd.C_drew ?_) | exact HR362_2.out)) hb); have n6_ := Aside0.mk (below_step (by repeat (first | (with_reducible first | exact HB.out | apply below_alloc | apply pw_below_drewN | apply below_drew1 | refine below_set ?_ GE348.out) | exact HB.out)) hb); clear HO_12; clear HL362_1; clear HL362_2; clear BK348; clear HR362_1; clear HR362_2; clear HB; have HO_12 := n0_; have HL362_1 := n1_; have HL362_2 := n2_; have BK348 := n3_; have HR362_1 := n4_; have HR362_2 := n5_; have HB := n6_; clear n0_ n1_ n2_ n3_ n4_ n5_ n6_; (try clear hb); (try clear hb2); (try clear hk); (try clear hi); have p364 : 0 ≤ (x19_3 : Int) := of_decide_eq_true (by first | (with_reducible assumption) | assumption); have q364 : x19_3 < (t352.length : Int) := of_decide_eq_true (by first | (with_reducible assumption) | assumption); obtain ⟨ad364, A364_1, c364_1, A364_2, c364_2, e364, hx364_0, hx364_1, hx364_2, hx364_3, hl364_1, hi364_1, hl364_2, hi364_2⟩ := at_T24 (Kd.V_reads' HO_12.out).2.2 x19_3 p364 q364; obtain rfl : ad362 = ad364 := (by injection e364); obtain ⟨ce364, hce364, hMe364, hcc364⟩ := Kd.V_get HO_12.out z24 x19_3 p364 (by first | exact q364 | exact of_decide_eq_true (by first | (with_reducible assumption) | assumption) | (have e_ := (Kd.V_reads' HO_12.out).1; omega)); obtain ⟨ua364_1, uc364_1, ua364_2, uc364_2, rfl, ul364_1, ge364_1, ul364_2, ge364_2⟩ := k24_openF hMe364; have hv364_1 := hcc364 1 _ rfl; rw [add_field _ _ 1 (by omega)] at hv364_1; replace hv364_1 := Option.some.inj (hv364_1.symm.trans hx364_1); injection hv364_1 with hva_ hvn_ hvc_; rw [hva_] at ge364_1; rw [hvc_] at ul364_1; have HL364_1 := Aside0.mk (show Kd.V (Kd.int .u8) 5 _ w.heap.size _ _ ((rd_T24 t352 x19_3).f1) from Kd.V_mk ul364_1 ge364_1); clear hva_ hvn_ hvc_ ge364_1 ul364_1; have hv364_2 := hcc364 2 _ rfl; rw [add_field _ _ 2 (by omega)] at hv364_2; replace hv364_2 := Option.some.inj (hv364_2.symm.trans hx364_2); injection hv364_2 with hva_ hvn_ hvc_; rw [hva_] at ge364_2; rw [hvc_] at ul364_2; have HL364_2 := Aside0.mk (show Kd.V (Kd.int .u8) 5 _ w.heap.size _ _ ((rd_T24 t352 x19_3).f2) from Kd.V_mk ul364_2 ge364_2); clear hva_ hvn_ hvc_ ge364_2 ul364_2; clear hcc364 hce364; have HR364_1 := Aside0.mk hi364_1; have HC364_1 := Aside0.mk hl364_1; clear hi364_1 hl364_1; have HR364_2 := Aside0.mk hi364_2; have HC364_2 := Aside0.mk hl364_2; clear hi364_2 hl364_2; replace p364 := eq_true p364; replace q364 := eq_true q364; have hcz52_0 : w51.cell? ⟨gb348, 0, none⟩ = some (.int .i64 a1_0) := (blk_cell BK348.out 0).trans rfl; have hcz52_1 : w51.cell? ⟨gb348, 1, none⟩ = some (.slice A1_1 l1_1.length c1_1) := (blk_cell BK348.out 1).trans rfl; have hcz52_2 : w51.cell? ⟨gb348, 2, none⟩ = some (.slice A1_2 l1_2.length c1_2) := (blk_cell BK348.out 2).trans rfl; have hcz52_3 : w51.cell? ⟨gb348, 3, none⟩ = some (.bool a1_3) := (blk_cell BK348.out 3).trans rfl; have hfz52_0 := blk_frozen BK348.out 0; have hfz52_1 := blk_frozen BK348.out 1; have hfz52_2 := blk_frozen BK348.out 2; have hfz52_3 := blk_frozen BK348.out 3))
                            repeat (go_quiet (first | (go_at_call 18; (with_reducible refine (span_In.calls ((rd_T24 t352 x19_3).f0) _ _ ((rd_T24 t352 x19_3).f1) _ _ ((rd_T24 t352 x19_3).f2) ((rd_T24 t352 x19_3).f3) a3 _ _ l4 t363 _ ?side1 ?side2 ?side3 ?side4 ?side5 ?side6 A48.out).mono ?_); (case side1 => repeat (first | exact (by repeat (first | (with_reducible exact HR362_1.out) | (with_reducible refine Kd.C_alloc ?_ _) | (with_reducible refine Kd.C_drewN ?_ _) | (with_reducible refine Kd.C_drew ?_) | exact HR362_1.out)) | (with_reducible refine Kd.C_alloc ?_ _) | (with_reducible refine Kd.C_drewN ?_ _) | (with_reducible refine Kd.C_drew ?_))); (case side2 => exact HC362_1.out); (case side3 => repeat (first | exact (by repeat (first | (with_reducible exact HR362_2.out) | (with_reducible refine Kd.C_alloc ?_ _) | (with_reducible refine Kd.C_drewN ?_ _) | (with_reducible refine Kd.C_drew ?_) | exact HR362_2.out)) | (with_reducible refine Kd.C_alloc ?_ _) | (with_reducible refine Kd.C_drewN ?_ _) | (with_reducible refine Kd.C_drew ?_))); (case side4 => exact HC362_2.out); (case side5 => repeat (first | exact (Kd.C_below HR4.out HB.out) | (with_reducible refine Kd.C_alloc ?_ _) | (with_reducible refine Kd.C_drewN ?_ _) | (with_reducible refine Kd.C_drew ?_))); (case side6 => exact HC4.out); rintro e w51 ⟨rfl, hb⟩; have n0_ := Aside0.mk (Kd.V_below (by (with_reducible repeat (first | apply Kd.V_alloc | apply Kd.V_drewN | apply Kd.V_drew)); exact HO_12.out) hb); have n1_ := Aside0.mk (Kd.V_below (by (with_reducible repeat (first | apply Kd.V_alloc | apply Kd.V_drewN | apply Kd.V_drew)); exact HL362_1.out) hb); have n2_ := Aside0.mk (Kd.V_below (by (with_reducible repeat (first | apply Kd.V_alloc | apply Kd.V_drewN | apply Kd.V_drew)); exact HL362_2.out) hb); have n3_ := Aside0.mk (blk_below (g := gb348) (o := .cells #[.int .i64 a1_0, .slice A1_1 l1_1.length c1_1, .slice A1_2 l1_2.length c1_2, .bool a1_3] 24 (0, 0)) (by (with_reducible repeat (first | refine blk_drewN ?_ _ | refine blk_drew ?_ | refine blk_alloc ?_ _)); exact BK348.out) hb); have n4_ := Aside0.mk (Kd.C_below (by repeat (first | (with_reducible exact HR362_1.out) | (with_reducible refine Kd.C_alloc ?_ _) | (with_reducible refine Kd.C_drewN ?_ _) | (with_reducible refine Kd.C_drew ?_) | exact HR362_1.out)) hb); have n5_ := Aside0.mk (Kd.C_below (by repeat (first | (with_reducible exact HR362_2.out) | (with_reducible refine Kd.C_alloc ?_ _) | (with_reducible refine Kd.C_drewN ?_ _) | (with_reducible refine Kd.C_drew ?_) | exact HR362_2.out)) hb); have n6_ := Aside0.mk (below_step (by repeat (first | (with_reducible first | exact HB.out | apply below_alloc | apply pw_below_drewN | apply below_drew1 | refine below_set ?_ GE348.out) | exact HB.out)) hb); clear HO_12; clear HL362_1; clear HL362_2; clear BK348; clear HR362_1; clear HR362_2; clear HB; have HO_12 := n0_; have HL362_1 := n1_; have HL362_2 := n2_; have BK348 := n3_; have HR362_1 := n4_; have HR362_2 := n5_; have HB := n6_; clear n0_ n1_ n2_ n3_ n4_ n5_ n6_; (try clear hb); (try clear hb2); (try clear hk); (try clear hi); have p364 : 0 ≤ (x19_3 : Int) := of_decide_eq_true (by first | (with_reducible assumption) | assumption); have q364 : x19_3 < (t352.length : Int) := of_decide_eq_true (by first | (with_reducible assumption) | assumption); obtain ⟨ad364, A364_1, c364_1, A364_2, c364_2, e364, hx364_0, hx364_1, hx364_2, hx364_3, hl364_1, hi364_1, hl364_2, hi364_2⟩ := at_T24 (Kd.V_reads' HO_12.out).2.2 x19_3 p364 q364; obtain rfl : ad362 = ad364 := (by injection e364); obtain ⟨ce364, hce364, hMe364, hcc364⟩ := Kd.V_get HO_12.out z24 x19_3 p364 (by first | exact q364 | exact of_decide_eq_true (by first | (with_reducible assumption) | assumption) | (have e_ := (Kd.V_reads' HO_12.out).1; omega)); obtain ⟨ua364_1, uc364_1, ua364_2, uc364_2, rfl, ul364_1, ge364_1, ul364_2, ge364_2⟩ := k24_openF hMe364; have hv364_1 := hcc364 1 _ rfl; rw [add_field _ _ 1 (by omega)] at hv364_1; replace hv364_1 := Option.some.inj (hv364_1.symm.trans hx364_1); injection hv364_1 with hva_ hvn_ hvc_; rw [hva_] at ge364_1; rw [hvc_] at ul364_1; have HL364_1 := Aside0.mk (show Kd.V (Kd.int .u8) 5 _ w.heap.size _ _ ((rd_T24 t352 x19_3).f1) from Kd.V_mk ul364_1 ge364_1); clear hva_ hvn_ hvc_ ge364_1 ul364_1; have hv364_2 := hcc364 2 _ rfl; rw [add_field _ _ 2 (by omega)] at hv364_2; replace hv364_2 := Option.some.inj (hv364_2.symm.trans hx364_2); injection hv364_2 with hva_ hvn_ hvc_; rw [hva_] at ge364_2; rw [hvc_] at ul364_2; have HL364_2 := Aside0.mk (show Kd.V (Kd.int .u8) 5 _ w.heap.size _ _ ((rd_T24 t352 x19_3).f2) from Kd.V_mk ul364_2 ge364_2); clear hva_ hvn_ hvc_ ge364_2 ul364_2; clear hcc364 hce364; have HR364_1 := Aside0.mk hi364_1; have HC364_1 := Aside0.mk hl364_1; clear hi364_1 hl364_1; have HR364_2 := Aside0.mk hi364_2; have HC364_2 := Aside0.mk hl364_2; clear hi364_2 hl364_2; replace p364 := eq_true p364; replace q364 := eq_true q364; have hcz52_0 : w51.cell? ⟨gb348, 0, none⟩ = some (.int .i64 a1_0) := (blk_cell BK348.out 0).trans rfl; have hcz52_1 : w51.cell? ⟨gb348, 1, none⟩ = some (.slice A1_1 l1_1.length c1_1) := (blk_cell BK348.out 1).trans rfl; have hcz52_2 : w51.cell? ⟨gb348, 2, none⟩ = some (.slice A1_2 l1_2.length c1_2) := (blk_cell BK348.out 2).trans rfl; have hcz52_3 : w51.cell? ⟨gb348, 3, none⟩ = some (.bool a1_3) := (blk_cell BK348.out 3).trans rfl; have hfz52_0 := blk_frozen BK348.out 0; have hfz52_1 := blk_frozen BK348.out 1; have hfz52_2 := blk_frozen BK348.out 2; have hfz52_3 := blk_frozen BK348.out 3)); try go_wp2_with (first | (go_at_call 18; (with_reducible refine (span_In.calls ((rd_T24 t352 x19_3).f0) _ _ ((rd_T24 t352 x19_3).f1) _ _ ((rd_T24 t352 x19_3).f2) ((rd_T24 t352 x19_3).f3) a3 _ _ l4 t363 _ ?side1 ?side2 ?side3 ?side4 ?side5 ?side6 A48.out).mono ?_); (case side1 => repeat (first | exact (by repeat (first | (with_reducible exact HR362_1.out) | (with_reducible refine Kd.C_alloc ?_ _) | (with_reducible refine Kd.C_drewN ?_ _) | (with_reducible refine Kd.C_drew ?_) | exact HR362_1.out)) | (with_reducible refine Kd.C_alloc ?_ _) | (with_reducible refine Kd.C_drewN ?_ _) | (with_reducible refine Kd.C_drew ?_))); (case side2 => exact HC362_1.out); (case side3 => repeat (first | exact (by repeat (first | (with_reducible exact HR362_2.out) | (with_reducible refine Kd.C_alloc ?_ _) | (with_reducible refine Kd.C_drewN ?_ _) | (with_reducible refine Kd.C_drew ?_) | exact HR362_2.out)) | (with_reducible refine Kd.C_alloc ?_ _) | (with_reducible refine Kd.C_drewN ?_ _) | (with_reducible refine Kd.C_drew ?_))); (case side4 => exact HC362_2.out); (case side5 => repeat (first | exact (Kd.C_below HR4.out HB.out) | (with_reducible refine Kd.C_alloc ?_ _) | (with_reducible refine Kd.C_drewN ?_ _) | (with_reducible refine Kd.C_drew ?_))); (case side6 => exact HC4.out); rintro e w51 ⟨rfl, hb⟩; have n0_ := Aside0.mk (Kd.V_below (by (with_reducible repeat (first | apply Kd.V_alloc | apply Kd.V_drewN | apply Kd.V_drew)); exact HO_12.out) hb); have n1_ := Aside0.mk (Kd.V_below (by (with_reducible repeat (first | apply Kd.V_alloc | apply Kd.V_drewN | apply Kd.V_drew)); exact HL362_1.out) hb); have n2_ := Aside0.mk (Kd.V_below (by (with_reducible repeat (first | apply Kd.V_alloc | apply Kd.V_drewN | apply Kd.V_drew)); exact HL362_2.out) hb); have n3_ := Aside0.mk (blk_below (g := gb348) (o := .cells #[.int .i64 a1_0, .slice A1_1 l1_1.length c1_1, .slice A1_2 l1_2.length c1_2, .bool a1_3] 24 (0, 0)) (by (with_reducible repeat (first | refine blk_drewN ?_ _ | refine blk_drew ?_ | refine blk_alloc ?_ _)); exact BK348.out) hb); have n4_ := Aside0.mk (Kd.C_below (by repeat (first | (with_reducible exact HR362_1.out) | (with_reducible refine Kd.C_alloc ?_ _) | (with_reducible refine Kd.C_drewN ?_ _) | (with_reducible refine Kd.C_drew ?_) | exact HR362_1.out)) hb); have n5_ := Aside0.mk (Kd.C_below (by repeat (first | (with_reducible exact HR362_2.out) | (with_reducible refine Kd.C_alloc ?_ _) | (with_reducible refine Kd.C_drewN ?_ _) | (with_reducible refine Kd.C_drew ?_) | exact HR362_2.out)) hb); have n6_ := Aside0.mk (below_step (by repeat (first | (with_reducible first | exact HB.out | apply below_alloc | apply pw_below_drewN | apply below_drew1 | refine below_set ?_ GE348.out) | exact HB.out)) hb); clear HO_12; clear HL362_1; clear HL362_2; clear BK348; clear HR362_1; clear HR362_2; clear HB; have HO_12 := n0_; have HL362_1 := n1_; have HL362_2 := n2_; have BK348 := n3_; have HR362_1 := n4_; have HR362_2 := n5_; have HB := n6_; clear n0_ n1_ n2_ n3_ n4_ n5_ n6_; (try clear hb); (try clear hb2); (try clear hk); (try clear hi); have p364 : 0 ≤ (x19_3 : Int) := of_decide_eq_true (by first | (with_reducible assumption) | assumption); have q364 : x19_3 < (t352.length : Int) := of_decide_eq_true (by first | (with_reducible assumption) | assumption); obtain ⟨ad364, A364_1, c364_1, A364_2, c364_2, e364, hx364_0, hx364_1, hx364_2, hx364_3, hl364_1, hi364_1, hl364_2, hi364_2⟩ := at_T24 (Kd.V_reads' HO_12.out).2.2 x19_3 p364 q364; obtain rfl : ad362 = ad364 := (by injection e364); obtain ⟨ce364, hce364, hMe364, hcc364⟩ := Kd.V_get HO_12.out z24 x19_3 p364 (by first | exact q364 | exact of_decide_eq_true (by first | (with_reducible assumption) | assumption) | (have e_ := (Kd.V_reads' HO_12.out).1; omega)); obtain ⟨ua364_1, uc364_1, ua364_2, uc364_2, rfl, ul364_1, ge364_1, ul364_2, ge364_2⟩ := k24_openF hMe364; have hv364_1 := hcc364 1 _ rfl; rw [add_field _ _ 1 (by omega)] at hv364_1; replace hv364_1 := Option.some.inj (hv364_1.symm.trans hx364_1); injection hv364_1 with hva_ hvn_ hvc_; rw [hva_] at ge364_1; rw [hvc_] at ul364_1; have HL364_1 := Aside0.mk (show Kd.V (Kd.int .u8) 5 _ w.heap.size _ _ ((rd_T24 t352 x19_3).f1) from Kd.V_mk ul364_1 ge364_1); clear hva_ hvn_ hvc_ ge364_1 ul364_1; have hv364_2 := hcc364 2 _ rfl; rw [add_field _ _ 2 (by omega)] at hv364_2; replace hv364_2 := Option.some.inj (hv364_2.symm.trans hx364_2); injection hv364_2 with hva_ hvn_ hvc_; rw [hva_] at ge364_2; rw [hvc_] at ul364_2; have HL364_2 := Aside0.mk (show Kd.V (Kd.int .u8) 5 _ w.heap.size _ _ ((rd_T24 t352 x19_3).f2) from Kd.V_mk ul364_2 ge364_2); clear hva_ hvn_ hvc_ ge364_2 ul364_2; clear hcc364 hce364; have HR364_1 := Aside0.mk hi364_1; have HC364_1 := Aside0.mk hl364_1; clear hi364_1 hl364_1; have HR364_2 := Aside0.mk hi364_2; have HC364_2 := Aside0.mk hl364_2; clear hi364_2 hl364_2; replace p364 := eq_true p364; replace q364 := eq_true q364; have hcz52_0 : w51.cell? ⟨gb348, 0, none⟩ = some (.int .i64 a1_0) := (blk_cell BK348.out 0).trans rfl; have hcz52_1 : w51.cell? ⟨gb348, 1, none⟩ = some (.slice A1_1 l1_1.length c1_1) := (blk_cell BK348.out 1).trans rfl; have hcz52_2 : w51.cell? ⟨gb348, 2, none⟩ = some (.slice A1_2 l1_2.length c1_2) := (blk_cell BK348.out 2).trans rfl; have hcz52_3 : w51.cell? ⟨gb348, 3, none⟩ = some (.bool a1_3) := (blk_cell BK348.out 3).trans rfl; have hfz52_0 := blk_frozen BK348.out 0; have hfz52_1 := blk_frozen BK348.out 1; have hfz52_2 := blk_frozen BK348.out 2; have hfz52_3 := blk_frozen BK348.out 3)))
                            go_roundg k3
                            case measure => have := HJ6.out; have := HK2.out; have := HK3.out; omega
                            case rel => exact ⟨(t363), (wrap64 (x18_3 + 1)), (wrap64 (x19_3 + 1)), (by first | rfl | (simp; done) | (simp [*]; done)), (by first | rfl | (simp; done) | (simp [*]; done)), (by first | rfl | (simp; done) | (simp [*]; done)), H', ⟨by have := HJ6.out; have := HK2.out; have := HK3.out; omega⟩, ⟨by (with_reducible repeat (first | apply Kd.V_alloc | apply Kd.V_drewN | apply Kd.V_drew)); exact HO_12.out⟩, ⟨by (with_reducible repeat (first | refine blk_drewN ?_ _ | refine blk_drew ?_ | refine blk_alloc ?_ _)); exact BK348.out⟩, ⟨by repeat (first | (with_reducible first | exact HB.out | apply below_alloc | apply pw_below_drewN | apply below_drew1 | refine below_set ?_ GE348.out) | exact HB.out)⟩⟩
                          · rw [if_neg c49] at H
                            have c49b0 : (((rd_T24 t352 x19_3).f0) == a1_0) = false := beq_eq_false_iff_ne.mpr c49
                            have c49b1 : (((rd_T24 t352 x19_3).f0) != a1_0) = true := bne_iff_ne.mpr c49
                            have H' := Aside0.mk H
                            clear H
                            obtain ⟨Ao53, co53, eo53⟩ := Kd.V_slice HO_12.out
                            subst eo53
                            have p362 : 0 ≤ (x19_3 : Int) := of_decide_eq_true (by first | (with_reducible assumption) | assumption)
                            have q362 : x19_3 < (t352.length : Int) := of_decide_eq_true (by first | (with_reducible assumption) | assumption)
                            obtain ⟨ad362, A362_1, c362_1, A362_2, c362_2, e362, hx362_0, hx362_1, hx362_2, hx362_3, hl362_1, hi362_1, hl362_2, hi362_2⟩ := at_T24 (Kd.V_reads' HO_12.out).2.2 x19_3 p362 q362
                            cases e362
                            obtain ⟨ce362, hce362, hMe362, hcc362⟩ := Kd.V_get HO_12.out z24 x19_3 p362 (by first | exact q362 | exact of_decide_eq_true (by first | (with_reducible assumption) | assumption) | (have e_ := (Kd.V_reads' HO_12.out).1; omega))
                            obtain ⟨ua362_1, uc362_1, ua362_2, uc362_2, rfl, ul362_1, ge362_1, ul362_2, ge362_2⟩ := k24_openF hMe362
                            have hv362_1 := hcc362 1 _ rfl
                            rw [add_field _ _ 1 (by omega)] at hv362_1
                            replace hv362_1 := Option.some.inj (hv362_1.symm.trans hx362_1)
                            injection hv362_1 with hva_ hvn_ hvc_
                            rw [hva_] at ge362_1
                            rw [hvc_] at ul362_1
                            have HL362_1 := Aside0.mk (show Kd.V (Kd.int .u8) 5 _ w.heap.size _ _ ((rd_T24 t352 x19_3).f1) from Kd.V_mk ul362_1 ge362_1)
                            clear hva_ hvn_ hvc_ ge362_1 ul362_1
                            have hv362_2 := hcc362 2 _ rfl
                            rw [add_field _ _ 2 (by omega)] at hv362_2
                            replace hv362_2 := Option.some.inj (hv362_2.symm.trans hx362_2)
                            injection hv362_2 with hva_ hvn_ hvc_
                            rw [hva_] at ge362_2
                            rw [hvc_] at ul362_2
                            have HL362_2 := Aside0.mk (show Kd.V (Kd.int .u8) 5 _ w.heap.size _ _ ((rd_T24 t352 x19_3).f2) from Kd.V_mk ul362_2 ge362_2)
                            clear hva_ hvn_ hvc_ ge362_2 ul362_2
                            clear hcc362 hce362
                            have HR362_1 := Aside0.mk hi362_1
                            have HC362_1 := Aside0.mk hl362_1
                            clear hi362_1 hl362_1
                            have HR362_2 := Aside0.mk hi362_2
                            have HC362_2 := Aside0.mk hl362_2
                            clear hi362_2 hl362_2
                            replace p362 := eq_true p362
                            replace q362 := eq_true q362
                            go_wp2_with (first | (go_at_call 18; (with_reducible refine (span_In.calls ((rd_T24 t352 x19_3).f0) _ _ ((rd_T24 t352 x19_3).f1) _ _ ((rd_T24 t352 x19_3).f2) ((rd_T24 t352 x19_3).f3) a3 _ _ l4 t363 _ ?side1 ?side2 ?side3 ?side4 ?side5 ?side6 A48.out).mono ?_); (case side1 => repeat (first | exact (by repeat (first | (with_reducible exact HR362_1.out) | (with_reducible refine Kd.C_alloc ?_ _) | (with_reducible refine Kd.C_drewN ?_ _) | (with_reducible refine Kd.C_drew ?_) | exact HR362_1.out)) | (with_reducible refine Kd.C_alloc ?_ _) | (with_reducible refine Kd.C_drewN ?_ _) | (with_reducible refine Kd.C_drew ?_))); (case side2 => exact HC362_1.out); (case side3 => repeat (first | exact (by repeat (first | (with_reducible exact HR362_2.out) | (with_reducible refine Kd.C_alloc ?_ _) | (with_reducible refine Kd.C_drewN ?_ _) | (with_reducible refine Kd.C_drew ?_) | exact HR362_2.out)) | (with_reducible refine Kd.C_alloc ?_ _) | (with_reducible refine Kd.C_drewN ?_ _) | (with_reducible refine Kd.C_drew ?_))); (case side4 => exact HC362_2.out); (case side5 => repeat (first | exact (Kd.C_below HR4.out HB.out) | (with_reducible refine Kd.C_alloc ?_ _) | (with_reducible refine Kd.C_drewN ?_ _) | (with_reducible refine Kd.C_drew ?_))); (case side6 => exact HC4.out); rintro e w54 ⟨rfl, hb⟩; have n0_ := Aside0.mk (Kd.V_below (by (with_reducible repeat (first | apply Kd.V_alloc | apply Kd.V_drewN | apply Kd.V_drew)); exact HO_12.out) hb); have n1_ := Aside0.mk (Kd.V_below (by (with_reducible repeat (first | apply Kd.V_alloc | apply Kd.V_drewN | apply Kd.V_drew)); exact HL362_1.out) hb); have n2_ := Aside0.mk (Kd.V_below (by (with_reducible repeat (first | apply Kd.V_alloc | apply Kd.V_drewN | apply Kd.V_drew)); exact HL362_2.out) hb); have n3_ := Aside0.mk (blk_below (g := gb348) (o := .cells #[.int .i64 a1_0, .slice A1_1 l1_1.length c1_1, .slice A1_2 l1_2.length c1_2, .bool a1_3] 24 (0, 0)) (by (with_reducible repeat (first | refine blk_drewN ?_ _ | refine blk_drew ?_ | refine blk_alloc ?_ _)); exact BK348.out) hb); have n4_ := Aside0.mk (Kd.C_below (by repeat (first | (with_reducible exact HR362_1.out) | (with_reducible refine Kd.C_alloc ?_ _) | (with_reducible refine Kd.C_drewN ?_ _) | (with_reducible refine Kd.C_drew ?_) | exact HR362_1.out)) hb); have n5_ := Aside0.mk (Kd.C_below (by repeat (first | (with_reducible exact HR362_2.out) | (with_reducible refine Kd.C_alloc ?_ _) | (with_reducible refine Kd.C_drewN ?_ _) | (with_reducible refine Kd.C_drew ?_) | exact HR362_2.out)) hb); have n6_ := Aside0.mk (below_step (by repeat (first | (with_reducible first | exact HB.out | apply below_alloc | apply pw_below_drewN | apply below_drew1 | refine below_set ?_ GE348.out) | exact HB.out)) hb); clear HO_12; clear HL362_1; clear HL362_2; clear BK348; clear HR362_1; clear HR362_2; clear HB; have HO_12 := n0_; have HL362_1 := n1_; have HL362_2 := n2_; have BK348 := n3_; have HR362_1 := n4_; have HR362_2 := n5_; have HB := n6_; clear n0_ n1_ n2_ n3_ n4_ n5_ n6_; (try clear hb); (try clear hb2); (try clear hk); (try clear hi); have p364 : 0 ≤ (x19_3 : Int) := of_decide_eq_true (by first | (with_reducible assumption) | assumption); have q364 : x19_3 < (t352.length : Int) := of_decide_eq_true (by first | (with_reducible assumption) | assumption); obtain ⟨ad364, A364_1, c364_1, A364_2, c364_2, e364, hx364_0, hx364_1, hx364_2, hx364_3, hl364_1, hi364_1, hl364_2, hi364_2⟩ := at_T24 (Kd.V_reads' HO_12.out).2.2 x19_3 p364 q364; obtain rfl : ad362 = ad364 := (by injection e364); obtain ⟨ce364, hce364, hMe364, hcc364⟩ := Kd.V_get HO_12.out z24 x19_3 p364 (by first | exact q364 | exact of_decide_eq_true (by first | (with_reducible assumption) | assumption) | (have e_ := (Kd.V_reads' HO_12.out).1; omega)); obtain ⟨ua364_1, uc364_1, ua364_2, uc364_2, rfl, ul364_1, ge364_1, ul364_2, ge364_2⟩ := k24_openF hMe364; have hv364_1 := hcc364 1 _ rfl; rw [add_field _ _ 1 (by omega)] at hv364_1; replace hv364_1 := Option.some.inj (hv364_1.symm.trans hx364_1); injection hv364_1 with hva_ hvn_ hvc_; rw [hva_] at ge364_1; rw [hvc_] at ul364_1; have HL364_1 := Aside0.mk (show Kd.V (Kd.int .u8) 5 _ w.heap.size _ _ ((rd_T24 t352 x19_3).f1) from Kd.V_mk ul364_1 ge364_1); clear hva_ hvn_ hvc_ ge364_1 ul364_1; have hv364_2 := hcc364 2 _ rfl; rw [add_field _ _ 2 (by omega)] at hv364_2; replace hv364_2 := Option.some.inj (hv364_2.symm.trans hx364_2); injection hv364_2 with hva_ hvn_ hvc_; rw [hva_] at ge364_2; rw [hvc_] at ul364_2; have HL364_2 := Aside0.mk (show Kd.V (Kd.int .u8) 5 _ w.heap.size _ _ ((rd_T24 t352 x19_3).f2) from Kd.V_mk ul364_2 ge364_2); clear hva_ hvn_ hvc_ ge364_2 ul364_2; clear hcc364 hce364; have HR364_1 := Aside0.mk hi364_1; have HC364_1 := Aside0.mk hl364_1; clear hi364_1 hl364_1; have HR364_2 := Aside0.mk hi364_2; have HC364_2 := Aside0.mk hl364_2; clear hi364_2 hl364_2; replace p364 := eq_true p364; replace q364 := eq_true q364; have hcz55_0 : w54.cell? ⟨gb348, 0, none⟩ = some (.int .i64 a1_0) := (blk_cell BK348.out 0).trans rfl; have hcz55_1 : w54.cell? ⟨gb348, 1, none⟩ = some (.slice A1_1 l1_1.length c1_1) := (blk_cell BK348.out 1).trans rfl; have hcz55_2 : w54.cell? ⟨gb348, 2, none⟩ = some (.slice A1_2 l1_2.length c1_2) := (blk_cell BK348.out 2).trans rfl; have hcz55_3 : w54.cell? ⟨gb348, 3, none⟩ = some (.bool a1_3) := (blk_cell BK348.out 3).trans rfl; have hfz55_0 := blk_frozen BK348.out 0; have hfz55_1 := blk_frozen BK348.out 1; have hfz55_2 := blk_frozen BK348.out 2; have hfz55_3 := blk_frozen BK348.out 3))
                            repeat (go_quiet (first | (go_at_call 18; (with_reducible refine (span_In.calls ((rd_T24 t352 x19_3).f0) _ _ ((rd_T24 t352 x19_3).f1) _ _ ((rd_T24 t352 x19_3).f2) ((rd_T24 t352 x19_3).f3) a3 _ _ l4 t363 _ ?side1 ?side2 ?side3 ?side4 ?side5 ?side6 A48.out).mono ?_); (case side1 => repeat (first | exact (by repeat (first | (with_reducible exact HR362_1.out) | (with_reducible refine Kd.C_alloc ?_ _) | (with_reducible refine Kd.C_drewN ?_ _) | (with_reducible refine Kd.C_drew ?_) | exact HR362_1.out)) | (with_reducible refine Kd.C_alloc ?_ _) | (with_reducible refine Kd.C_drewN ?_ _) | (with_reducible refine Kd.C_drew ?_))); (case side2 => exact HC362_1.out); (case side3 => repeat (first | exact (by repeat (first | (with_reducible exact HR362_2.out) | (with_reducible refine Kd.C_alloc ?_ _) | (with_reducible refine Kd.C_drewN ?_ _) | (with_reducible refine Kd.C_drew ?_) | exact HR362_2.out)) | (with_reducible refine Kd.C_alloc ?_ _) | (with_reducible refine Kd.C_drewN ?_ _) | (with_reducible refine Kd.C_drew ?_))); (case side4 => exact HC362_2.out); (case side5 => repeat (first | exact (Kd.C_below HR4.out HB.out) | (with_reducible refine Kd.C_alloc ?_ _) | (with_reducible refine Kd.C_drewN ?_ _) | (with_reducible refine Kd.C_drew ?_))); (case side6 => exact HC4.out); rintro e w54 ⟨rfl, hb⟩; have n0_ := Aside0.mk (Kd.V_below (by (with_reducible repeat (first | apply Kd.V_alloc | apply Kd.V_drewN | apply Kd.V_drew)); exact HO_12.out) hb); have n1_ := Aside0.mk (Kd.V_below (by (with_reducible repeat (first | apply Kd.V_alloc | apply Kd.V_drewN | apply Kd.V_drew)); exact HL362_1.out) hb); have n2_ := Aside0.mk (Kd.V_below (by (with_reducible repeat (first | apply Kd.V_alloc | apply Kd.V_drewN | apply Kd.V_drew)); exact HL362_2.out) hb); have n3_ := Aside0.mk (blk_below (g := gb348) (o := .cells #[.int .i64 a1_0, .slice A1_1 l1_1.length c1_1, .slice A1_2 l1_2.length c1_2, .bool a1_3] 24 (0, 0)) (by (with_reducible repeat (first | refine blk_drewN ?_ _ | refine blk_drew ?_ | refine blk_alloc ?_ _)); exact BK348.out) hb); have n4_ := Aside0.mk (Kd.C_below (by repeat (first | (with_reducible exact HR362_1.out) | (with_reducible refine Kd.C_alloc ?_ _) | (with_reducible refine Kd.C_drewN ?_ _) | (with_reducible refine Kd.C_drew ?_) | exact HR362_1.out)) hb); have n5_ := Aside0.mk (Kd.C_below (by repeat (first | (with_reducible exact HR362_2.out) | (with_reducible refine Kd.C_alloc ?_ _) | (with_reducible refine Kd.C_drewN ?_ _) | (with_reducible refine Kd.C_drew ?_) | exact HR362_2.out)) hb); have n6_ := Aside0.mk (below_step (by repeat (first | (with_reducible first | exact HB.out | apply below_alloc | apply pw_below_drewN | apply below_drew1 | refine below_set ?_ GE348.out) | exact HB.out)) hb); clear HO_12; clear HL362_1; clear HL362_2; clear BK348; clear HR362_1; clear HR362_2; clear HB; have HO_12 := n0_; have HL362_1 := n1_; have HL362_2 := n2_; have BK348 := n3_; have HR362_1 := n4_; have HR362_2 := n5_; have HB := n6_; clear n0_ n1_ n2_ n3_ n4_ n5_ n6_; (try clear hb); (try clear hb2); (try clear hk); (try clear hi); have p364 : 0 ≤ (x19_3 : Int) := of_decide_eq_true (by first | (with_reducible assumption) | assumption); have q364 : x19_3 < (t352.length : Int) := of_decide_eq_true (by first | (with_reducible assumption) | assumption); obtain ⟨ad364, A364_1, c364_1, A364_2, c364_2, e364, hx364_0, hx364_1, hx364_2, hx364_3, hl364_1, hi364_1, hl364_2, hi364_2⟩ := at_T24 (Kd.V_reads' HO_12.out).2.2 x19_3 p364 q364; obtain rfl : ad362 = ad364 := (by injection e364); obtain ⟨ce364, hce364, hMe364, hcc364⟩ := Kd.V_get HO_12.out z24 x19_3 p364 (by first | exact q364 | exact of_decide_eq_true (by first | (with_reducible assumption) | assumption) | (have e_ := (Kd.V_reads' HO_12.out).1; omega)); obtain ⟨ua364_1, uc364_1, ua364_2, uc364_2, rfl, ul364_1, ge364_1, ul364_2, ge364_2⟩ := k24_openF hMe364; have hv364_1 := hcc364 1 _ rfl; rw [add_field _ _ 1 (by omega)] at hv364_1; replace hv364_1 := Option.some.inj (hv364_1.symm.trans hx364_1); injection hv364_1 with hva_ hvn_ hvc_; rw [hva_] at ge364_1; rw [hvc_] at ul364_1; have HL364_1 := Aside0.mk (show Kd.V (Kd.int .u8) 5 _ w.heap.size _ _ ((rd_T24 t352 x19_3).f1) from Kd.V_mk ul364_1 ge364_1); clear hva_ hvn_ hvc_ ge364_1 ul364_1; have hv364_2 := hcc364 2 _ rfl; rw [add_field _ _ 2 (by omega)] at hv364_2; replace hv364_2 := Option.some.inj (hv364_2.symm.trans hx364_2); injection hv364_2 with hva_ hvn_ hvc_; rw [hva_] at ge364_2; rw [hvc_] at ul364_2; have HL364_2 := Aside0.mk (show Kd.V (Kd.int .u8) 5 _ w.heap.size _ _ ((rd_T24 t352 x19_3).f2) from Kd.V_mk ul364_2 ge364_2); clear hva_ hvn_ hvc_ ge364_2 ul364_2; clear hcc364 hce364; have HR364_1 := Aside0.mk hi364_1; have HC364_1 := Aside0.mk hl364_1; clear hi364_1 hl364_1; have HR364_2 := Aside0.mk hi364_2; have HC364_2 := Aside0.mk hl364_2; clear hi364_2 hl364_2; replace p364 := eq_true p364; replace q364 := eq_true q364; have hcz55_0 : w54.cell? ⟨gb348, 0, none⟩ = some (.int .i64 a1_0) := (blk_cell BK348.out 0).trans rfl; have hcz55_1 : w54.cell? ⟨gb348, 1, none⟩ = some (.slice A1_1 l1_1.length c1_1) := (blk_cell BK348.out 1).trans rfl; have hcz55_2 : w54.cell? ⟨gb348, 2, none⟩ = some (.slice A1_2 l1_2.length c1_2) := (blk_cell BK348.out 2).trans rfl; have hcz55_3 : w54.cell? ⟨gb348, 3, none⟩ = some (.bool a1_3) := (blk_cell BK348.out 3).trans rfl; have hfz55_0 := blk_frozen BK348.out 0; have hfz55_1 := blk_frozen BK348.out 1; have hfz55_2 := blk_frozen BK348.out 2; have hfz55_3 := blk_frozen BK348.out 3)); try go_wp2_with (first | (go_at_call 18; (with_reducible refine (span_In.calls ((rd_T24 t352 x19_3).f0) _ _ ((rd_T24 t352 x19_3).f1) _ _ ((rd_T24 t352 x19_3).f2) ((rd_T24 t352 x19_3).f3) a3 _ _ l4 t363 _ ?side1 ?side2 ?side3 ?side4 ?side5 ?side6 A48.out).mono ?_); (case side1 => repeat (first | exact (by repeat (first | (with_reducible exact HR362_1.out) | (with_reducible refine Kd.C_alloc ?_ _) | (with_reducible refine Kd.C_drewN ?_ _) | (with_reducible refine Kd.C_drew ?_) | exact HR362_1.out)) | (with_reducible refine Kd.C_alloc ?_ _) | (with_reducible refine Kd.C_drewN ?_ _) | (with_reducible refine Kd.C_drew ?_))); (case side2 => exact HC362_1.out); (case side3 => repeat (first | exact (by repeat (first | (with_reducible exact HR362_2.out) | (with_reducible refine Kd.C_alloc ?_ _) | (with_reducible refine Kd.C_drewN ?_ _) | (with_reducible refine Kd.C_drew ?_) | exact HR362_2.out)) | (with_reducible refine Kd.C_alloc ?_ _) | (with_reducible refine Kd.C_drewN ?_ _) | (with_reducible refine Kd.C_drew ?_))); (case side4 => exact HC362_2.out); (case side5 => repeat (first | exact (Kd.C_below HR4.out HB.out) | (with_reducible refine Kd.C_alloc ?_ _) | (with_reducible refine Kd.C_drewN ?_ _) | (with_reducible refine Kd.C_drew ?_))); (case side6 => exact HC4.out); rintro e w54 ⟨rfl, hb⟩; have n0_ := Aside0.mk (Kd.V_below (by (with_reducible repeat (first | apply Kd.V_alloc | apply Kd.V_drewN | apply Kd.V_drew)); exact HO_12.out) hb); have n1_ := Aside0.mk (Kd.V_below (by (with_reducible repeat (first | apply Kd.V_alloc | apply Kd.V_drewN | apply Kd.V_drew)); exact HL362_1.out) hb); have n2_ := Aside0.mk (Kd.V_below (by (with_reducible repeat (first | apply Kd.V_alloc | apply Kd.V_drewN | apply Kd.V_drew)); exact HL362_2.out) hb); have n3_ := Aside0.mk (blk_below (g := gb348) (o := .cells #[.int .i64 a1_0, .slice A1_1 l1_1.length c1_1, .slice A1_2 l1_2.length c1_2, .bool a1_3] 24 (0, 0)) (by (with_reducible repeat (first | refine blk_drewN ?_ _ | refine blk_drew ?_ | refine blk_alloc ?_ _)); exact BK348.out) hb); have n4_ := Aside0.mk (Kd.C_below (by repeat (first | (with_reducible exact HR362_1.out) | (with_reducible refine Kd.C_alloc ?_ _) | (with_reducible refine Kd.C_drewN ?_ _) | (with_reducible refine Kd.C_drew ?_) | exact HR362_1.out)) hb); have n5_ := Aside0.mk (Kd.C_below (by repeat (first | (with_reducible exact HR362_2.out) | (with_reducible refine Kd.C_alloc ?_ _) | (with_reducible refine Kd.C_drewN ?_ _) | (with_reducible refine Kd.C_drew ?_) | exact HR362_2.out)) hb); have n6_ := Aside0.mk (below_step (by repeat (first | (with_reducible first | exact HB.out | apply below_alloc | apply pw_below_drewN | apply below_drew1 | refine below_set ?_ GE348.out) | exact HB.out)) hb); clear HO_12; clear HL362_1; clear HL362_2; clear BK348; clear HR362_1; clear HR362_2; clear HB; have HO_12 := n0_; have HL362_1 := n1_; have HL362_2 := n2_; have BK348 := n3_; have HR362_1 := n4_; have HR362_2 := n5_; have HB := n6_; clear n0_ n1_ n2_ n3_ n4_ n5_ n6_; (try clear hb); (try clear hb2); (try clear hk); (try clear hi); have p364 : 0 ≤ (x19_3 : Int) := of_decide_eq_true (by first | (with_reducible assumption) | assumption); have q364 : x19_3 < (t352.length : Int) := of_decide_eq_true (by first | (with_reducible assumption) | assumption); obtain ⟨ad364, A364_1, c364_1, A364_2, c364_2, e364, hx364_0, hx364_1, hx364_2, hx364_3, hl364_1, hi364_1, hl364_2, hi364_2⟩ := at_T24 (Kd.V_reads' HO_12.out).2.2 x19_3 p364 q364; obtain rfl : ad362 = ad364 := (by injection e364); obtain ⟨ce364, hce364, hMe364, hcc364⟩ := Kd.V_get HO_12.out z24 x19_3 p364 (by first | exact q364 | exact of_decide_eq_true (by first | (with_reducible assumption) | assumption) | (have e_ := (Kd.V_reads' HO_12.out).1; omega)); obtain ⟨ua364_1, uc364_1, ua364_2, uc364_2, rfl, ul364_1, ge364_1, ul364_2, ge364_2⟩ := k24_openF hMe364; have hv364_1 := hcc364 1 _ rfl; rw [add_field _ _ 1 (by omega)] at hv364_1; replace hv364_1 := Option.some.inj (hv364_1.symm.trans hx364_1); injection hv364_1 with hva_ hvn_ hvc_; rw [hva_] at ge364_1; rw [hvc_] at ul364_1; have HL364_1 := Aside0.mk (show Kd.V (Kd.int .u8) 5 _ w.heap.size _ _ ((rd_T24 t352 x19_3).f1) from Kd.V_mk ul364_1 ge364_1); clear hva_ hvn_ hvc_ ge364_1 ul364_1; have hv364_2 := hcc364 2 _ rfl; rw [add_field _ _ 2 (by omega)] at hv364_2; replace hv364_2 := Option.some.inj (hv364_2.symm.trans hx364_2); injection hv364_2 with hva_ hvn_ hvc_; rw [hva_] at ge364_2; rw [hvc_] at ul364_2; have HL364_2 := Aside0.mk (show Kd.V (Kd.int .u8) 5 _ w.heap.size _ _ ((rd_T24 t352 x19_3).f2) from Kd.V_mk ul364_2 ge364_2); clear hva_ hvn_ hvc_ ge364_2 ul364_2; clear hcc364 hce364; have HR364_1 := Aside0.mk hi364_1; have HC364_1 := Aside0.mk hl364_1; clear hi364_1 hl364_1; have HR364_2 := Aside0.mk hi364_2; have HC364_2 := Aside0.mk hl364_2; clear hi364_2 hl364_2; replace p364 := eq_true p364; replace q364 := eq_true q364; have hcz55_0 : w54.cell? ⟨gb348, 0, none⟩ = some (.int .i64 a1_0) := (blk_cell BK348.out 0).trans rfl; have hcz55_1 : w54.cell? ⟨gb348, 1, none⟩ = some (.slice A1_1 l1_1.length c1_1) := (blk_cell BK348.out 1).trans rfl; have hcz55_2 : w54.cell? ⟨gb348, 2, none⟩ = some (.slice A1_2 l1_2.length c1_2) := (blk_cell BK348.out 2).trans rfl; have hcz55_3 : w54.cell? ⟨gb348, 3, none⟩ = some (.bool a1_3) := (blk_cell BK348.out 3).trans rfl; have hfz55_0 := blk_frozen BK348.out 0; have hfz55_1 := blk_frozen BK348.out 1; have hfz55_2 := blk_frozen BK348.out 2; have hfz55_3 := blk_frozen BK348.out 3)))
                            go_roundg k3
                            case measure => have := HJ6.out; have := HK2.out; have := HK3.out; omega
                            case rel => exact ⟨(t363), (x18_3), (wrap64 (x19_3 + 1)), (by first | rfl | (simp; done) | (simp [*]; done)), (by first | rfl | (simp; done) | (simp [*]; done)), (by first | rfl | (simp; done) | (simp [*]; done)), H', ⟨by have := HJ6.out; have := HK2.out; have := HK3.out; omega⟩, ⟨by (with_reducible repeat (first | apply Kd.V_alloc | apply Kd.V_drewN | apply Kd.V_drew)); exact HO_12.out⟩, ⟨by (with_reducible repeat (first | refine blk_drewN ?_ _ | refine blk_drew ?_ | refine blk_alloc ?_ _)); exact BK348.out⟩, ⟨by repeat (first | (with_reducible first | exact HB.out | apply below_alloc | apply pw_below_drewN | apply below_drew1 | refine below_set ?_ GE348.out) | exact HB.out)⟩⟩
                        · rw [if_neg c47] at H
                          exact absurd H (by simp)
                    · rw [if_neg c39] at H
                      have c39b0 : decide (x19_3 < (t352.length : Int)) = false := decide_eq_false c39
                      clear c39
                      by_cases c56 : x18_3 = 1
                      · rw [if_pos c56] at H
                        have c56b0 : (x18_3 == 1) = true := beq_iff_eq.mpr c56
                        have c56b1 : (x18_3 != 1) = false := bne_eq_false_iff_eq.mpr c56
                        clear c56
                        by_cases c57 : t349 = true
                        · subst c57
                          have H1 : (if x14_2 = true then (if x17_3 = true then (if x15_2 > a2 then (some true) else (some (decide (x18_3 ≤ a2)))) else (some false)) else (if x17_3 = true then (if a3 = a1_0 then (if x15_2 > a2 then (some true) else (some (decide (x18_3 ≤ a2)))) else (some false)) else (if x15_2 > a2 then (some true) else (some (decide (x18_3 ≤ a2)))))) = some r := by rw [if_pos rfl] at H; exact H
                          clear H
                          have H := H1
                          clear H1
                          by_cases c58 : x14_2 = true
                          · subst c58
                            have H1 : (if x17_3 = true then (if x15_2 > a2 then (some true) else (some (decide (x18_3 ≤ a2)))) else (some false)) = some r := by rw [if_pos rfl] at H; exact H
                            clear H
                            have H := H1
                            clear H1
                            by_cases c59 : x17_3 = true
                            · subst c59
                              have H1 : (if x15_2 > a2 then (some true) else (some (decide (x18_3 ≤ a2)))) = some r := by rw [if_pos rfl] at H; exact H
                              clear H
                              have H := H1
                              clear H1
                              by_cases c60 : x15_2 > a2
                              · rw [if_pos c60] at H
                                have c60b0 : decide (a2 < x15_2) = true := decide_eq_true c60
                                clear c60
                                obtain rfl := Option.some.inj H
                                obtain ⟨Ao61, co61, eo61⟩ := Kd.V_slice HO_12.out
                                subst eo61
                                have hcz62_0 : wr.cell? ⟨gb348, 0, none⟩ = some (.int .i64 a1_0) := (blk_cell BK348.out 0).trans rfl
                                have hcz62_1 : wr.cell? ⟨gb348, 1, none⟩ = some (.slice A1_1 l1_1.length c1_1) := (blk_cell BK348.out 1).trans rfl
                                have hcz62_2 : wr.cell? ⟨gb348, 2, none⟩ = some (.slice A1_2 l1_2.length c1_2) := (blk_cell BK348.out 2).trans rfl
                                have hcz62_3 : wr.cell? ⟨gb348, 3, none⟩ = some (.bool a1_3) := (blk_cell BK348.out 3).trans rfl
                                have hfz62_0 := blk_frozen BK348.out 0
                                have hfz62_1 := blk_frozen BK348.out 1
                                have hfz62_2 := blk_frozen BK348.out 2
                                have hfz62_3 := blk_frozen BK348.out 3
                                go_wp2
                                repeat (go_quiet (fail); try go_wp2)
                                go_ret
                                exact ⟨by first | rfl | (simp [errW_none, errW_some] <;> rfl) | (simp [*, errW_none, errW_some] <;> rfl), by repeat (first | (with_reducible first | exact HB.out | apply below_alloc | apply pw_below_drewN | apply below_drew1 | refine below_set ?_ GE348.out) | exact HB.out)⟩
                              · rw [if_neg c60] at H
                                have c60b0 : decide (a2 < x15_2) = false := decide_eq_false c60
                                clear c60
                                obtain rfl := Option.some.inj H
                                obtain ⟨Ao63, co63, eo63⟩ := Kd.V_slice HO_12.out
                                subst eo63
                                have hcz64_0 : wr.cell? ⟨gb348, 0, none⟩ = some (.int .i64 a1_0) := (blk_cell BK348.out 0).trans rfl
                                have hcz64_1 : wr.cell? ⟨gb348, 1, none⟩ = some (.slice A1_1 l1_1.length c1_1) := (blk_cell BK348.out 1).trans rfl
                                have hcz64_2 : wr.cell? ⟨gb348, 2, none⟩ = some (.slice A1_2 l1_2.length c1_2) := (blk_cell BK348.out 2).trans rfl
                                have hcz64_3 : wr.cell? ⟨gb348, 3, none⟩ = some (.bool a1_3) := (blk_cell BK348.out 3).trans rfl
                                have hfz64_0 := blk_frozen BK348.out 0
                                have hfz64_1 := blk_frozen BK348.out 1
                                have hfz64_2 := blk_frozen BK348.out 2
                                have hfz64_3 := blk_frozen BK348.out 3
                                go_wp2
                                repeat (go_quiet (fail); try go_wp2)
                                go_ret
                                exact ⟨by first | rfl | (simp [errW_none, errW_some] <;> rfl) | (simp [*, errW_none, errW_some] <;> rfl), by repeat (first | (with_reducible first | exact HB.out | apply below_alloc | apply pw_below_drewN | apply below_drew1 | refine below_set ?_ GE348.out) | exact HB.out)⟩
                            · replace c59 := Bool.eq_false_iff.mpr c59
                              subst c59
                              have H1 : (some false) = some r := by rw [if_neg (show ¬ (false = true) by decide)] at H; exact H
                              rw [HTr_] at H1
                              exact absurd (Option.some.inj H1) (by decide)
                          · replace c58 := Bool.eq_false_iff.mpr c58
                            subst c58
                            have H1 : (if x17_3 = true then (if a3 = a1_0 then (if x15_2 > a2 then (some true) else (some (decide (x18_3 ≤ a2)))) else (some false)) else (if x15_2 > a2 then (some true) else (some (decide (x18_3 ≤ a2))))) = some r := by rw [if_neg (show ¬ (false = true) by decide)] at H; exact H
                            clear H
                            have H := H1
                            clear H1
                            by_cases c67 : x17_3 = true
                            · subst c67
                              have H1 : (if a3 = a1_0 then (if x15_2 > a2 then (some true) else (some (decide (x18_3 ≤ a2)))) else (some false)) = some r := by rw [if_pos rfl] at H; exact H
                              clear H
                              have H := H1
                              clear H1
                              by_cases c68 : a3 = a1_0
                              · rw [if_pos c68] at H
                                have c68b0 : (a3 == a1_0) = true := beq_iff_eq.mpr c68
                                have c68b1 : (a3 != a1_0) = false := bne_eq_false_iff_eq.mpr c68
                                clear c68
                                by_cases c69 : x15_2 > a2
                                · rw [if_pos c69] at H
                                  have c69b0 : decide (a2 < x15_2) = true := decide_eq_true c69
                                  clear c69
                                  obtain rfl := Option.some.inj H
                                  obtain ⟨Ao70, co70, eo70⟩ := Kd.V_slice HO_12.out
                                  subst eo70
                                  have hcz71_0 : wr.cell? ⟨gb348, 0, none⟩ = some (.int .i64 a1_0) := (blk_cell BK348.out 0).trans rfl
                                  have hcz71_1 : wr.cell? ⟨gb348, 1, none⟩ = some (.slice A1_1 l1_1.length c1_1) := (blk_cell BK348.out 1).trans rfl
                                  have hcz71_2 : wr.cell? ⟨gb348, 2, none⟩ = some (.slice A1_2 l1_2.length c1_2) := (blk_cell BK348.out 2).trans rfl
                                  have hcz71_3 : wr.cell? ⟨gb348, 3, none⟩ = some (.bool a1_3) := (blk_cell BK348.out 3).trans rfl
                                  have hfz71_0 := blk_frozen BK348.out 0
                                  have hfz71_1 := blk_frozen BK348.out 1
                                  have hfz71_2 := blk_frozen BK348.out 2
                                  have hfz71_3 := blk_frozen BK348.out 3
                                  go_wp2
                                  repeat (go_quiet (fail); try go_wp2)
                                  go_ret
                                  exact ⟨by first | rfl | (simp [errW_none, errW_some] <;> rfl) | (simp [*, errW_none, errW_some] <;> rfl), by repeat (first | (with_reducible first | exact HB.out | apply below_alloc | apply pw_below_drewN | apply below_drew1 | refine below_set ?_ GE348.out) | exact HB.out)⟩
                                · rw [if_neg c69] at H
                                  have c69b0 : decide (a2 < x15_2) = false := decide_eq_false c69
                                  clear c69
                                  obtain rfl := Option.some.inj H
                                  obtain ⟨Ao72, co72, eo72⟩ := Kd.V_slice HO_12.out
                                  subst eo72
                                  have hcz73_0 : wr.cell? ⟨gb348, 0, none⟩ = some (.int .i64 a1_0) := (blk_cell BK348.out 0).trans rfl
                                  have hcz73_1 : wr.cell? ⟨gb348, 1, none⟩ = some (.slice A1_1 l1_1.length c1_1) := (blk_cell BK348.out 1).trans rfl
                                  have hcz73_2 : wr.cell? ⟨gb348, 2, none⟩ = some (.slice A1_2 l1_2.length c1_2) := (blk_cell BK348.out 2).trans rfl
                                  have hcz73_3 : wr.cell? ⟨gb348, 3, none⟩ = some (.bool a1_3) := (blk_cell BK348.out 3).trans rfl
                                  have hfz73_0 := blk_frozen BK348.out 0
                                  have hfz73_1 := blk_frozen BK348.out 1
                                  have hfz73_2 := blk_frozen BK348.out 2
                                  have hfz73_3 := blk_frozen BK348.out 3
                                  go_wp2
                                  repeat (go_quiet (fail); try go_wp2)
                                  go_ret
                                  exact ⟨by first | rfl | (simp [errW_none, errW_some] <;> rfl) | (simp [*, errW_none, errW_some] <;> rfl), by repeat (first | (with_reducible first | exact HB.out | apply below_alloc | apply pw_below_drewN | apply below_drew1 | refine below_set ?_ GE348.out) | exact HB.out)⟩
                              · rw [if_neg c68] at H
                                rw [HTr_] at H
                                exact absurd (Option.some.inj H) (by decide)
                            · replace c67 := Bool.eq_false_iff.mpr c67
                              subst c67
                              have H1 : (if x15_2 > a2 then (some true) else (some (decide (x18_3 ≤ a2)))) = some r := by rw [if_neg (show ¬ (false = true) by decide)] at H; exact H
                              clear H
                              have H := H1
                              clear H1
                              by_cases c76 : x15_2 > a2
                              · rw [if_pos c76] at H
                                have c76b0 : decide (a2 < x15_2) = true := decide_eq_true c76
                                clear c76
                                obtain rfl := Option.some.inj H
                                obtain ⟨Ao77, co77, eo77⟩ := Kd.V_slice HO_12.out
                                subst eo77
                                have hcz78_0 : wr.cell? ⟨gb348, 0, none⟩ = some (.int .i64 a1_0) := (blk_cell BK348.out 0).trans rfl
                                have hcz78_1 : wr.cell? ⟨gb348, 1, none⟩ = some (.slice A1_1 l1_1.length c1_1) := (blk_cell BK348.out 1).trans rfl
                                have hcz78_2 : wr.cell? ⟨gb348, 2, none⟩ = some (.slice A1_2 l1_2.length c1_2) := (blk_cell BK348.out 2).trans rfl
                                have hcz78_3 : wr.cell? ⟨gb348, 3, none⟩ = some (.bool a1_3) := (blk_cell BK348.out 3).trans rfl
                                have hfz78_0 := blk_frozen BK348.out 0
                                have hfz78_1 := blk_frozen BK348.out 1
                                have hfz78_2 := blk_frozen BK348.out 2
                                have hfz78_3 := blk_frozen BK348.out 3
                                go_wp2
                                repeat (go_quiet (fail); try go_wp2)
                                go_ret
                                exact ⟨by first | rfl | (simp [errW_none, errW_some] <;> rfl) | (simp [*, errW_none, errW_some] <;> rfl), by repeat (first | (with_reducible first | exact HB.out | apply below_alloc | apply pw_below_drewN | apply below_drew1 | refine below_set ?_ GE348.out) | exact HB.out)⟩
                              · rw [if_neg c76] at H
                                have c76b0 : decide (a2 < x15_2) = false := decide_eq_false c76
                                clear c76
                                obtain rfl := Option.some.inj H
                                obtain ⟨Ao79, co79, eo79⟩ := Kd.V_slice HO_12.out
                                subst eo79
                                have hcz80_0 : wr.cell? ⟨gb348, 0, none⟩ = some (.int .i64 a1_0) := (blk_cell BK348.out 0).trans rfl
                                have hcz80_1 : wr.cell? ⟨gb348, 1, none⟩ = some (.slice A1_1 l1_1.length c1_1) := (blk_cell BK348.out 1).trans rfl
                                have hcz80_2 : wr.cell? ⟨gb348, 2, none⟩ = some (.slice A1_2 l1_2.length c1_2) := (blk_cell BK348.out 2).trans rfl
                                have hcz80_3 : wr.cell? ⟨gb348, 3, none⟩ = some (.bool a1_3) := (blk_cell BK348.out 3).trans rfl
                                have hfz80_0 := blk_frozen BK348.out 0
                                have hfz80_1 := blk_frozen BK348.out 1
                                have hfz80_2 := blk_frozen BK348.out 2
                                have hfz80_3 := blk_frozen BK348.out 3
                                go_wp2
                                repeat (go_quiet (fail); try go_wp2)
                                go_ret
                                exact ⟨by first | rfl | (simp [errW_none, errW_some] <;> rfl) | (simp [*, errW_none, errW_some] <;> rfl), by repeat (first | (with_reducible first | exact HB.out | apply below_alloc | apply pw_below_drewN | apply below_drew1 | refine below_set ?_ GE348.out) | exact HB.out)⟩
                        · replace c57 := Bool.eq_false_iff.mpr c57
                          subst c57
                          have H1 : (some false) = some r := by rw [if_neg (show ¬ (false = true) by decide)] at H; exact H
                          rw [HTr_] at H1
                          exact absurd (Option.some.inj H1) (by decide)
                      · rw [if_neg c56] at H
                        have c56b0 : (x18_3 == 1) = false := beq_eq_false_iff_ne.mpr c56
                        have c56b1 : (x18_3 != 1) = true := bne_iff_ne.mpr c56
                        by_cases c83 : t349 = true
                        · subst c83
                          have H1 : (if x14_2 = true then (if x17_3 = true then (if x15_2 > a2 then (some true) else (some (decide (x18_3 ≤ a2)))) else (some false)) else (if x17_3 = true then (some false) else (if x15_2 > a2 then (some true) else (some (decide (x18_3 ≤ a2)))))) = some r := by rw [if_pos rfl] at H; exact H
                          clear H
                          have H := H1
                          clear H1
                          by_cases c84 : x14_2 = true
                          · subst c84
                            have H1 : (if x17_3 = true then (if x15_2 > a2 then (some true) else (some (decide (x18_3 ≤ a2)))) else (some false)) = some r := by rw [if_pos rfl] at H; exact H
                            clear H
                            have H := H1
                            clear H1
                            by_cases c85 : x17_3 = true
                            · subst c85
                              have H1 : (if x15_2 > a2 then (some true) else (some (decide (x18_3 ≤ a2)))) = some r := by rw [if_pos rfl] at H; exact H
                              clear H
                              have H := H1
                              clear H1
                              by_cases c86 : x15_2 > a2
                              · rw [if_pos c86] at H
                                have c86b0 : decide (a2 < x15_2) = true := decide_eq_true c86
                                clear c86
                                obtain rfl := Option.some.inj H
                                obtain ⟨Ao87, co87, eo87⟩ := Kd.V_slice HO_12.out
                                subst eo87
                                go_wp2
                                repeat (go_quiet (fail); try go_wp2)
                                go_ret
                                exact ⟨by first | rfl | (simp [errW_none, errW_some] <;> rfl) | (simp [*, errW_none, errW_some] <;> rfl), by repeat (first | (with_reducible first | exact HB.out | apply below_alloc | apply pw_below_drewN | apply below_drew1 | refine below_set ?_ GE348.out) | exact HB.out)⟩
                              · rw [if_neg c86] at H
                                have c86b0 : decide (a2 < x15_2) = false := decide_eq_false c86
                                clear c86
                                obtain rfl := Option.some.inj H
                                obtain ⟨Ao88, co88, eo88⟩ := Kd.V_slice HO_12.out
                                subst eo88
                                go_wp2
                                repeat (go_quiet (fail); try go_wp2)
                                go_ret
                                exact ⟨by first | rfl | (simp [errW_none, errW_some] <;> rfl) | (simp [*, errW_none, errW_some] <;> rfl), by repeat (first | (with_reducible first | exact HB.out | apply below_alloc | apply pw_below_drewN | apply below_drew1 | refine below_set ?_ GE348.out) | exact HB.out)⟩
                            · replace c85 := Bool.eq_false_iff.mpr c85
                              subst c85
                              have H1 : (some false) = some r := by rw [if_neg (show ¬ (false = true) by decide)] at H; exact H
                              rw [HTr_] at H1
                              exact absurd (Option.some.inj H1) (by decide)
                          · replace c84 := Bool.eq_false_iff.mpr c84
                            subst c84
                            have H1 : (if x17_3 = true then (some false) else (if x15_2 > a2 then (some true) else (some (decide (x18_3 ≤ a2))))) = some r := by rw [if_neg (show ¬ (false = true) by decide)] at H; exact H
                            clear H
                            have H := H1
                            clear H1
                            by_cases c90 : x17_3 = true
                            · subst c90
                              have H1 : (some false) = some r := by rw [if_pos rfl] at H; exact H
                              rw [HTr_] at H1
                              exact absurd (Option.some.inj H1) (by decide)
                            · replace c90 := Bool.eq_false_iff.mpr c90
                              subst c90
                              have H1 : (if x15_2 > a2 then (some true) else (some (decide (x18_3 ≤ a2)))) = some r := by rw [if_neg (show ¬ (false = true) by decide)] at H; exact H
                              clear H
                              have H := H1
                              clear H1
                              by_cases c92 : x15_2 > a2
                              · rw [if_pos c92] at H
                                have c92b0 : decide (a2 < x15_2) = true := decide_eq_true c92
                                clear c92
                                obtain rfl := Option.some.inj H
                                obtain ⟨Ao93, co93, eo93⟩ := Kd.V_slice HO_12.out
                                subst eo93
                                go_wp2
                                repeat (go_quiet (fail); try go_wp2)
                                go_ret
                                exact ⟨by first | rfl | (simp [errW_none, errW_some] <;> rfl) | (simp [*, errW_none, errW_some] <;> rfl), by repeat (first | (with_reducible first | exact HB.out | apply below_alloc | apply pw_below_drewN | apply below_drew1 | refine below_set ?_ GE348.out) | exact HB.out)⟩
                              · rw [if_neg c92] at H
                                have c92b0 : decide (a2 < x15_2) = false := decide_eq_false c92
                                clear c92
                                obtain rfl := Option.some.inj H
                                obtain ⟨Ao94, co94, eo94⟩ := Kd.V_slice HO_12.out
                                subst eo94
                                go_wp2
                                repeat (go_quiet (fail); try go_wp2)
                                go_ret
                                exact ⟨by first | rfl | (simp [errW_none, errW_some] <;> rfl) | (simp [*, errW_none, errW_some] <;> rfl), by repeat (first | (with_reducible first | exact HB.out | apply below_alloc | apply pw_below_drewN | apply below_drew1 | refine below_set ?_ GE348.out) | exact HB.out)⟩
                        · replace c83 := Bool.eq_false_iff.mpr c83
                          subst c83
                          have H1 : (some false) = some r := by rw [if_neg (show ¬ (false = true) by decide)] at H; exact H
                          rw [HTr_] at H1
                          exact absurd (Option.some.inj H1) (by decide)
        · rw [if_neg c20] at H
          have c20b0 : (t355 == 0) = false := beq_eq_false_iff_ne.mpr c20
          have c20b1 : (t355 != 0) = true := bne_iff_ne.mpr c20
          obtain rfl := Option.some.inj H
          have hcz96_0 : wc.cell? ⟨gb348, 0, none⟩ = some (.int .i64 a1_0) := (blk_cell BK348.out 0).trans rfl
          have hcz96_1 : wc.cell? ⟨gb348, 1, none⟩ = some (.slice A1_1 l1_1.length c1_1) := (blk_cell BK348.out 1).trans rfl
          have hcz96_2 : wc.cell? ⟨gb348, 2, none⟩ = some (.slice A1_2 l1_2.length c1_2) := (blk_cell BK348.out 2).trans rfl
          have hcz96_3 : wc.cell? ⟨gb348, 3, none⟩ = some (.bool a1_3) := (blk_cell BK348.out 3).trans rfl
          have hfz96_0 := blk_frozen BK348.out 0
          have hfz96_1 := blk_frozen BK348.out 1
          have hfz96_2 := blk_frozen BK348.out 2
          have hfz96_3 := blk_frozen BK348.out 3
          go_wp2_with (first | (go_at_call 25; (with_reducible refine (span_Add.calls _ _ l0 a1_0 _ _ l1_1 _ _ l1_2 a1_3 a2 t352 t355 _ ?side1 ?side2 ?side3 ?side4 ?side5 ?side6 A19.out).mono ?_); (case side1 => repeat (first | exact (Kd.C_below HR0.out HB.out) | (with_reducible refine Kd.C_alloc ?_ _) | (with_reducible refine Kd.C_drewN ?_ _) | (with_reducible refine Kd.C_drew ?_))); (case side2 => exact HC0.out); (case side3 => repeat (first | exact (Kd.C_below HR1_1.out HB.out) | (with_reducible refine Kd.C_alloc ?_ _) | (with_reducible refine Kd.C_drewN ?_ _) | (with_reducible refine Kd.C_drew ?_))); (case side4 => exact HC1_1.out); (case side5 => repeat (first | exact (Kd.C_below HR1_2.out HB.out) | (with_reducible refine Kd.C_alloc ?_ _) | (with_reducible refine Kd.C_drewN ?_ _) | (with_reducible refine Kd.C_drew ?_))); (case side6 => exact HC1_2.out); rintro e w97 ⟨v353, rfl, ho0, hb⟩; have n0_ := Aside0.mk (Kd.V_lower (Kd.V_mono (ok' := fun k_ => k_ ≠ gb348) ho0 (fun k_ hk_ => (Kd.freshB (g := gb348) (o := .cells #[.int .i64 a1_0, .slice A1_1 l1_1.length c1_1, .slice A1_2 l1_2.length c1_2, .bool a1_3] 24 (0, 0)) (by (with_reducible repeat (first | refine blk_drewN ?_ _ | refine blk_drew ?_ | refine blk_alloc ?_ _)); exact BK348.out) k_ hk_))) (below_size (by repeat (first | (with_reducible first | exact HB.out | apply below_alloc | apply pw_below_drewN | apply below_drew1 | refine below_set ?_ GE348.out) | exact HB.out)))); have n1_ := Aside0.mk (blk_below (g := gb348) (o := .cells #[.int .i64 a1_0, .slice A1_1 l1_1.length c1_1, .slice A1_2 l1_2.length c1_2, .bool a1_3] 24 (0, 0)) (by (with_reducible repeat (first | refine blk_drewN ?_ _ | refine blk_drew ?_ | refine blk_alloc ?_ _)); exact BK348.out) hb); have n2_ := Aside0.mk (below_step (by repeat (first | (with_reducible first | exact HB.out | apply below_alloc | apply pw_below_drewN | apply below_drew1 | refine below_set ?_ GE348.out) | exact HB.out)) hb); clear BK348; clear HB; have HO354 := n0_; have BK348 := n1_; have HB := n2_; clear n0_ n1_ n2_; (try clear hb); (try clear hb2); (try clear hk); (try clear hi); (try clear ho0)))
          repeat (go_quiet (first | (go_at_call 25; (with_reducible refine (span_Add.calls _ _ l0 a1_0 _ _ l1_1 _ _ l1_2 a1_3 a2 t352 t355 _ ?side1 ?side2 ?side3 ?side4 ?side5 ?side6 A19.out).mono ?_); (case side1 => repeat (first | exact (Kd.C_below HR0.out HB.out) | (with_reducible refine Kd.C_alloc ?_ _) | (with_reducible refine Kd.C_drewN ?_ _) | (with_reducible refine Kd.C_drew ?_))); (case side2 => exact HC0.out); (case side3 => repeat (first | exact (Kd.C_below HR1_1.out HB.out) | (with_reducible refine Kd.C_alloc ?_ _) | (with_reducible refine Kd.C_drewN ?_ _) | (with_reducible refine Kd.C_drew ?_))); (case side4 => exact HC1_1.out); (case side5 => repeat (first | exact (Kd.C_below HR1_2.out HB.out) | (with_reducible refine Kd.C_alloc ?_ _) | (with_reducible refine Kd.C_drewN ?_ _) | (with_reducible refine Kd.C_drew ?_))); (case side6 => exact HC1_2.out); rintro e w97 ⟨v353, rfl, ho0, hb⟩; have n0_ := Aside0.mk (Kd.V_lower (Kd.V_mono (ok' := fun k_ => k_ ≠ gb348) ho0 (fun k_ hk_ => (Kd.freshB (g := gb348) (o := .cells #[.int .i64 a1_0, .slice A1_1 l1_1.length c1_1, .slice A1_2 l1_2.length c1_2, .bool a1_3] 24 (0, 0)) (by (with_reducible repeat (first | refine blk_drewN ?_ _ | refine blk_drew ?_ | refine blk_alloc ?_ _)); exact BK348.out) k_ hk_))) (below_size (by repeat (first | (with_reducible first | exact HB.out | apply below_alloc | apply pw_below_drewN | apply below_drew1 | refine below_set ?_ GE348.out) | exact HB.out)))); have n1_ := Aside0.mk (blk_below (g := gb348) (o := .cells #[.int .i64 a1_0, .slice A1_1 l1_1.length c1_1, .slice A1_2 l1_2.length c1_2, .bool a1_3] 24 (0, 0)) (by (with_reducible repeat (first | refine blk_drewN ?_ _ | refine blk_drew ?_ | refine blk_alloc ?_ _)); exact BK348.out) hb); have n2_ := Aside0.mk (below_step (by repeat (first | (with_reducible first | exact HB.out | apply below_alloc | apply pw_below_drewN | apply below_drew1 | refine below_set ?_ GE348.out) | exact HB.out)) hb); clear BK348; clear HB; have HO354 := n0_; have BK348 := n1_; have HB := n2_; clear n0_ n1_ n2_; (try clear hb); (try clear hb2); (try clear hk); (try clear hi); (try clear ho0))); try go_wp2_with (first | (go_at_call 25; (with_reducible refine (span_Add.calls _ _ l0 a1_0 _ _ l1_1 _ _ l1_2 a1_3 a2 t352 t355 _ ?side1 ?side2 ?side3 ?side4 ?side5 ?side6 A19.out).mono ?_); (case side1 => repeat (first | exact (Kd.C_below HR0.out HB.out) | (with_reducible refine Kd.C_alloc ?_ _) | (with_reducible refine Kd.C_drewN ?_ _) | (with_reducible refine Kd.C_drew ?_))); (case side2 => exact HC0.out); (case side3 => repeat (first | exact (Kd.C_below HR1_1.out HB.out) | (with_reducible refine Kd.C_alloc ?_ _) | (with_reducible refine Kd.C_drewN ?_ _) | (with_reducible refine Kd.C_drew ?_))); (case side4 => exact HC1_1.out); (case side5 => repeat (first | exact (Kd.C_below HR1_2.out HB.out) | (with_reducible refine Kd.C_alloc ?_ _) | (with_reducible refine Kd.C_drewN ?_ _) | (with_reducible refine Kd.C_drew ?_))); (case side6 => exact HC1_2.out); rintro e w97 ⟨v353, rfl, ho0, hb⟩; have n0_ := Aside0.mk (Kd.V_lower (Kd.V_mono (ok' := fun k_ => k_ ≠ gb348) ho0 (fun k_ hk_ => (Kd.freshB (g := gb348) (o := .cells #[.int .i64 a1_0, .slice A1_1 l1_1.length c1_1, .slice A1_2 l1_2.length c1_2, .bool a1_3] 24 (0, 0)) (by (with_reducible repeat (first | refine blk_drewN ?_ _ | refine blk_drew ?_ | refine blk_alloc ?_ _)); exact BK348.out) k_ hk_))) (below_size (by repeat (first | (with_reducible first | exact HB.out | apply below_alloc | apply pw_below_drewN | apply below_drew1 | refine below_set ?_ GE348.out) | exact HB.out)))); have n1_ := Aside0.mk (blk_below (g := gb348) (o := .cells #[.int .i64 a1_0, .slice A1_1 l1_1.length c1_1, .slice A1_2 l1_2.length c1_2, .bool a1_3] 24 (0, 0)) (by (with_reducible repeat (first | refine blk_drewN ?_ _ | refine blk_drew ?_ | refine blk_alloc ?_ _)); exact BK348.out) hb); have n2_ := Aside0.mk (below_step (by repeat (first | (with_reducible first | exact HB.out | apply below_alloc | apply pw_below_drewN | apply below_drew1 | refine below_set ?_ GE348.out) | exact HB.out)) hb); clear BK348; clear HB; have HO354 := n0_; have BK348 := n1_; have HB := n2_; clear n0_ n1_ n2_; (try clear hb); (try clear hb2); (try clear hk); (try clear hi); (try clear ho0))))
          go_ret
          exact ⟨by first | rfl | (simp [errW_none, errW_some] <;> rfl) | (simp [*, errW_none, errW_some] <;> rfl), by repeat (first | (with_reducible first | exact HB.out | apply below_alloc | apply pw_below_drewN | apply below_drew1 | refine below_set ?_ GE348.out) | exact HB.out)⟩

/-- The law, plainly. -/
def banksmanlaw10_SpanKeeps.Pure : Prop := ∀ (l0 : List (S24)) (a1_0 : Int) (l1_1 : List Int) (l1_2 : List Int) (a1_3 : Bool) (a2 : Int) (a3 : Int) (l4 : List Int), (fun xs_ : List (S24) => xs_.length ≤ maxLen ∧ ∀ x ∈ xs_, (fun x_ : S24 => (fun n_ : Int => (Lit.int .i64 n_).wf = true) x_.f0 ∧ (fun xs_ : List Int => xs_.length ≤ maxLen ∧ ∀ x ∈ xs_, (fun n_ : Int => (Lit.int .u8 n_).wf = true) x) x_.f1 ∧ (fun xs_ : List Int => xs_.length ≤ maxLen ∧ ∀ x ∈ xs_, (fun n_ : Int => (Lit.int .u8 n_).wf = true) x) x_.f2 ∧ (fun _ : Bool => True) x_.f3) x) l0 → (fun n_ : Int => (Lit.int .i64 n_).wf = true) a1_0 → (fun xs_ : List Int => xs_.length ≤ maxLen ∧ ∀ x ∈ xs_, (fun n_ : Int => (Lit.int .u8 n_).wf = true) x) l1_1 → (fun xs_ : List Int => xs_.length ≤ maxLen ∧ ∀ x ∈ xs_, (fun n_ : Int => (Lit.int .u8 n_).wf = true) x) l1_2 → (fun n_ : Int => (Lit.int .i64 n_).wf = true) a2 → (fun n_ : Int => (Lit.int .i64 n_).wf = true) a3 → (fun xs_ : List Int => xs_.length ≤ maxLen ∧ ∀ x ∈ xs_, (fun n_ : Int => (Lit.int .u8 n_).wf = true) x) l4 → ∃ k, banksmanlaw10_SpanKeeps.f k l0 a1_0 l1_1 l1_2 a1_3 a2 a3 l4 = some true

end Go.Proofs.Ytomlhapehldlnaa.P
