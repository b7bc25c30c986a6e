-- Written by wip/gprint.py, a program of this session over the kit's print; Lean checks it.
import Derived.Test.YtpoaleejhdeclaaPx0
import Derived.Test.YtpoaleejhdeclaaPx1
import Derived.Test.YtpoaleejhdeclaaPx40
import Derived.Test.YtpoaleejhdeclaaPx42
import Derived.Test.YtpoaleejhdeclaaPx43
namespace Go.Proofs.Ytpoaleejhdeclaa.P
open Go.RowKit Go.Proofs.YtpoaleejhdeclaaW.PrintWords Go.Proofs.YtpoaleejhdeclaaW.PrintLast Go.Proofs.YtpoaleejhdeclaaW.PrintMore
attribute [local go_sem] max2_int min2_int max_two min_two max_three min_three max_four min_four   -- for this text's walks alone
set_option linter.unusedVariables false
set_option linter.unusedSimpArgs false

/-! ### banksmanlaw14_RivalMore: function 6 -/
def banksmanlaw14_RivalMore.j0 : Nat → List (S59) → List (S50) → List (S24) → Bool → Bool → Int → List (S57) → Int → List (S57) → Option (Bool)
  | 0, _, _, _, _, _, _, _, _, _ => none
  | k + 1, x1, x2, x3, x11, x38, x422000, x422001, x423000, x423001 => if x38 = true then (some x11) else ((rival_Judge.f x422000 x422001 x1 x2 x3).bind fun bt428 => ((some (([] : List (S24)) : List (S24))).bind fun y430 => (if y430.length + x3.length < 4398046511104 then ((some (y430 ++ x3 : List (S24))).bind fun y433 => ((some (([(⟨x423000, x423001⟩ : S24)] : List (S24)) : List (S24))).bind fun y436 => (if y433.length + y436.length < 4398046511104 then ((rival_Judge.f x422000 x422001 x1 x2 (y433 ++ y436)).bind fun bt442 => (if x11 = true then (if bt428.2 = 0 then (if bt442.2 = 0 then (some (bt428.1 == bt442.1)) else (some true)) else (if bt428.1 = true then (some false) else (if bt442.2 = 0 then (some false) else (some true)))) else (some false))) else (none)))) else (none))))
def banksmanlaw14_RivalMore.f (k : Nat) (a0_0 : Int) (l0_1 : List (S57)) (l1 : List (S59)) (l2 : List (S50)) (l3 : List (S24)) (a4_0 : Int) (l4_1 : List (S57)) : Option (Bool) := (banksmanlaw14_awake.f).bind fun t423 => ((banksmanref10_Few.f k l0_1).bind fun t424 => (if t424 = true then ((banksmanref10_Few.f k l4_1).bind fun t425 => (if t425 = true then ((banksmanref08_Few.f k l1 ([] : List Int)).bind fun t426 => (if t426 = true then ((banksmanref13_Few.f k l2 l3).bind fun t427 => (banksmanlaw14_RivalMore.j0 k l1 l2 l3 t423 (!t427) a0_0 l0_1 a4_0 l4_1)) else (banksmanlaw14_RivalMore.j0 k l1 l2 l3 t423 true a0_0 l0_1 a4_0 l4_1))) else (banksmanlaw14_RivalMore.j0 k l1 l2 l3 t423 true a0_0 l0_1 a4_0 l4_1))) else (banksmanlaw14_RivalMore.j0 k l1 l2 l3 t423 true a0_0 l0_1 a4_0 l4_1)))
theorem banksmanlaw14_RivalMore.mono_l : ∀ k, (∀ y0 y1 y2 y3 y4 y5 y6 y7 y8, LeO (banksmanlaw14_RivalMore.j0 k y0 y1 y2 y3 y4 y5 y6 y7 y8) (banksmanlaw14_RivalMore.j0 (k + 1) y0 y1 y2 y3 y4 y5 y6 y7 y8))
  | 0 => fun _ _ _ _ _ _ _ _ _ r h => by simp [banksmanlaw14_RivalMore.j0] at h
  | k + 1 => by
    have ih0 := banksmanlaw14_RivalMore.mono_l k
    · intro y0 y1 y2 y3 y4 y5 y6 y7 y8
      unfold banksmanlaw14_RivalMore.j0
      repeat' first
      | (with_reducible exact ih0 _ _ _ _ _ _ _ _ _)
      | (with_reducible exact banksmanref08_Few.mono _ _ _)
      | (with_reducible exact banksmanref10_Few.mono _ _)
      | (with_reducible exact banksmanref13_Few.mono _ _ _)
      | (with_reducible exact LeO.refl _)
      | (with_reducible exact LeO.none _)
      | (with_reducible refine LeO.ite ?_ ?_)
      | (with_reducible refine LeO.bind ?_ (fun _ => ?_))
      | exact ih0 _ _ _ _ _ _ _ _ _
      | exact banksmanref08_Few.mono _ _ _
      | exact banksmanref10_Few.mono _ _
      | exact banksmanref13_Few.mono _ _ _
      | exact LeO.none _
      | refine LeO.ite ?_ ?_
      | refine LeO.bind ?_ (fun _ => ?_)
theorem banksmanlaw14_RivalMore.mono : ∀ a0 a1 a2 a3 a4 a5 a6 k, LeO (banksmanlaw14_RivalMore.f k a0 a1 a2 a3 a4 a5 a6) (banksmanlaw14_RivalMore.f (k + 1) a0 a1 a2 a3 a4 a5 a6) := by
  intro a0 a1 a2 a3 a4 a5 a6 k
  have ih0 := banksmanlaw14_RivalMore.mono_l k
  unfold banksmanlaw14_RivalMore.f
  repeat' first
      | (with_reducible exact ih0 _ _ _ _ _ _ _ _ _)
      | (with_reducible exact banksmanref08_Few.mono _ _ _)
      | (with_reducible exact banksmanref10_Few.mono _ _)
      | (with_reducible exact banksmanref13_Few.mono _ _ _)
      | (with_reducible exact LeO.refl _)
      | (with_reducible exact LeO.none _)
      | (with_reducible refine LeO.ite ?_ ?_)
      | (with_reducible refine LeO.bind ?_ (fun _ => ?_))
      | exact ih0 _ _ _ _ _ _ _ _ _
      | exact banksmanref08_Few.mono _ _ _
      | exact banksmanref10_Few.mono _ _
      | exact banksmanref13_Few.mono _ _ _
      | exact LeO.none _
      | refine LeO.ite ?_ ?_
      | refine LeO.bind ?_ (fun _ => ?_)
def banksmanlaw14_RivalMore.T5 : Bool × List (List Nat × List Nat) := (true, [([], []), ([], []), ([], []), ([], []), ([], []), ([3, 4], [3, 4]), ([], []), ([6], [6]), ([5, 7, 5], [5, 7]), ([0, 1, 2, 8, 8], [0, 1, 2, 8]), ([9], [9]), ([10], [10]), ([10], [10]), ([11, 9, 0, 1, 2, 3, 4, 5, 6, 7, 8, 9, 10, 11], [11]), ([12, 13, 0, 1, 2, 3, 4, 5, 6, 7, 8, 9, 10, 11, 12, 13], [12])])
def banksmanlaw14_RivalMore.B5 : List Nat := [0, 0, 0, 0, 0, 24, 0, 64, 248, 511, 1023, 2047, 2047, 4095, 16383]
theorem banksmanlaw14_RivalMore.tab5 : rtab .any (opsOf Try.f6 5) = banksmanlaw14_RivalMore.T5 := by kernel_rfl
theorem banksmanlaw14_RivalMore.bits5 : waitsOk banksmanlaw14_RivalMore.T5.2 banksmanlaw14_RivalMore.B5 = true := by kernel_rfl
set_option maxHeartbeats 8000000 in
set_option maxRecDepth 100000 in
theorem banksmanlaw14_RivalMore.calls (k : Nat) (a0_0 : Int) (A0_1 : Option Addr) (c0_1 : Nat) (l0_1 : List (S57)) (A1 : Option Addr) (c1 : Nat) (l1 : List (S59)) (A2 : Option Addr) (c2 : Nat) (l2 : List (S50)) (P3_ : Nat → Prop) (A3 : Option Addr) (c3 : Nat) (l3 : List (S24)) (a4_0 : Int) (P4_1_ : Nat → Prop) (A4_1 : Option Addr) (c4_1 : Nat) (l4_1 : List (S57)) (r : Bool) (w : World) (hr0_1 : Kd.C k57 w A0_1 l0_1.length l0_1) (hc0_1 : l0_1.length ≤ c0_1) (hr1 : Kd.C k59 w A1 l1.length l1) (hc1 : l1.length ≤ c1) (hr2 : Kd.C k50 w A2 l2.length l2) (hc2 : l2.length ≤ c2) (hs3 : Kd.V k24 24 w w.heap.size (fun k_ => P3_ k_) (.slice A3 l3.length c3) l3) (hs4_1 : Kd.V k57 57 w w.heap.size (fun k_ => P4_1_ k_) (.slice A4_1 l4_1.length c4_1) l4_1) (h : banksmanlaw14_RivalMore.f k a0_0 l0_1 l1 l2 l3 a4_0 l4_1 = some r) (HTr_ : r = true) :
    Calls Try.prog 6 #[.agg #[.int .i64 a0_0, .slice A0_1 l0_1.length c0_1], .slice A1 l1.length c1, .slice A2 l2.length c2, .slice A3 l3.length c3, .agg #[.int .i64 a4_0, .slice A4_1 l4_1.length c4_1]] w fun e w' => e = .returned (.bool r) ∧ Below w.heap.size w w' := by
  have hu24 := Try.underlying24
  have hu33 := Try.underlying33
  have HR0_1 := Aside0.mk hr0_1
  have HC0_1 := Aside0.mk hc0_1
  clear hr0_1 hc0_1
  have HR1 := Aside0.mk hr1
  have HC1 := Aside0.mk hc1
  clear hr1 hc1
  have HR2 := Aside0.mk hr2
  have HC2 := Aside0.mk hc2
  clear hr2 hc2
  have HO3 := Aside0.mk (show Kd.V k24 24 w w.heap.size (fun k_ => ((P3_ k_ ∨ P4_1_ k_) ∨ w.heap.size ≤ k_)) (.slice A3 l3.length c3) l3 from Kd.V_mono hs3 (fun k_ hk => .inl (.inl hk)))
  have HO4_1 := Aside0.mk (show Kd.V k57 57 w w.heap.size (fun k_ => ((P3_ k_ ∨ P4_1_ k_) ∨ w.heap.size ≤ k_)) (.slice A4_1 l4_1.length c4_1) l4_1 from Kd.V_mono hs4_1 (fun k_ hk => .inl (.inr hk)))
  have HB := Aside0.mk (Below.refl w.heap.size w)
  have H : ((banksmanlaw14_awake.f).bind fun t423 => ((banksmanref10_Few.f k l0_1).bind fun t424 => (if t424 = true then ((banksmanref10_Few.f k l4_1).bind fun t425 => (if t425 = true then ((banksmanref08_Few.f k l1 ([] : List Int)).bind fun t426 => (if t426 = true then ((banksmanref13_Few.f k l2 l3).bind fun t427 => (banksmanlaw14_RivalMore.j0 k l1 l2 l3 t423 (!t427) a0_0 l0_1 a4_0 l4_1)) else (banksmanlaw14_RivalMore.j0 k l1 l2 l3 t423 true a0_0 l0_1 a4_0 l4_1))) else (banksmanlaw14_RivalMore.j0 k l1 l2 l3 t423 true a0_0 l0_1 a4_0 l4_1))) else (banksmanlaw14_RivalMore.j0 k l1 l2 l3 t423 true a0_0 l0_1 a4_0 l4_1)))) = some r := h
  clear h
  replace H := Option.bind_eq_some_iff.mp H
  obtain ⟨t423, A60, H⟩ := H
  replace H : ((banksmanref10_Few.f k l0_1).bind fun t424 => (if t424 = true then ((banksmanref10_Few.f k l4_1).bind fun t425 => (if t425 = true then ((banksmanref08_Few.f k l1 ([] : List Int)).bind fun t426 => (if t426 = true then ((banksmanref13_Few.f k l2 l3).bind fun t427 => (banksmanlaw14_RivalMore.j0 k l1 l2 l3 t423 (!t427) a0_0 l0_1 a4_0 l4_1)) else (banksmanlaw14_RivalMore.j0 k l1 l2 l3 t423 true a0_0 l0_1 a4_0 l4_1))) else (banksmanlaw14_RivalMore.j0 k l1 l2 l3 t423 true a0_0 l0_1 a4_0 l4_1))) else (banksmanlaw14_RivalMore.j0 k l1 l2 l3 t423 true a0_0 l0_1 a4_0 l4_1))) = some r := H
  have A6 := Aside0.mk A60
  clear A60
  have HC7 := Aside0.mk H
  clear H
  go_enter Try.func6, Try.ntmps6
  go_upto_region 2 with (first | ((with_reducible refine gate_dst (N := 5) rfl ?_); refine box_event ?hg (N := 5) ?hd (cs := #[.int .i64 a0_0, .slice A0_1 l0_1.length c0_1]) (t := 24) ?hr ?_; (case hd => rfl); (case hg => rfl); (case hr => first | (go_simp; done) | (go_simp; rfl)); intro gb421 hg w8 hbox hb; have n0_ := Aside0.mk (Kd.V_below (Kd.V_elderB (by (with_reducible repeat (first | apply Kd.V_alloc | apply Kd.V_drewN | apply Kd.V_drew)); exact HO3.out) gb421 (Nat.le_of_eq hg.symm)) hb); have n1_ := Aside0.mk (Kd.V_below (Kd.V_elderB (by (with_reducible repeat (first | apply Kd.V_alloc | apply Kd.V_drewN | apply Kd.V_drew)); exact HO4_1.out) gb421 (Nat.le_of_eq hg.symm)) hb); have n2_ := Aside0.mk (below_step (by repeat (first | (with_reducible first | exact HB.out | apply below_alloc | apply pw_below_drewN | apply below_drew1) | exact HB.out)) hb); have n3_ := Aside0.mk (hbox); have n4_ := Aside0.mk ((by rw [hg]; exact (below_size (by repeat (first | (with_reducible first | exact HB.out | apply below_alloc | apply pw_below_drewN | apply below_drew1) | exact HB.out))) : w.heap.size ≤ gb421)); have n5_ := Aside0.mk ((by rw [hg]; exact (below_size (by repeat (first | (with_reducible first | exact HB.out | apply below_alloc | apply pw_below_drewN | apply below_drew1) | exact HB.out))) : w.heap.size ≤ gb421)); clear HO3; clear HO4_1; clear HB; have HO3 := n0_; have HO4_1 := n1_; have HB := n2_; have BK421 := n3_; have GW421 := n4_; have GE421 := n5_; clear n0_ n1_ n2_ n3_ n4_ n5_; clear hb hbox hg) | ((with_reducible refine gate_dst (N := 9) rfl ?_); refine box_event ?hg (N := 9) ?hd (cs := #[.int .i64 a4_0, .slice A4_1 l4_1.length c4_1]) (t := 24) ?hr ?_; (case hd => rfl); (case hg => rfl); (case hr => first | (go_simp; done) | (go_simp; rfl)); intro gb422 hg w9 hbox hb; have n0_ := Aside0.mk (Kd.V_below (Kd.V_elderB (by (with_reducible repeat (first | apply Kd.V_alloc | apply Kd.V_drewN | apply Kd.V_drew)); exact HO3.out) gb422 (Nat.le_of_eq hg.symm)) hb); have n1_ := Aside0.mk (Kd.V_below (Kd.V_elderB (by (with_reducible repeat (first | apply Kd.V_alloc | apply Kd.V_drewN | apply Kd.V_drew)); exact HO4_1.out) gb422 (Nat.le_of_eq hg.symm)) hb); have n2_ := Aside0.mk (blk_below (g := gb421) (o := .cells #[.int .i64 a0_0, .slice A0_1 l0_1.length c0_1] 24 (0, 0)) (by (with_reducible repeat (first | refine blk_drewN ?_ _ | refine blk_drew ?_ | refine blk_alloc ?_ _)); exact BK421.out) hb); have n3_ := Aside0.mk (below_step (by repeat (first | (with_reducible first | exact HB.out | apply below_alloc | apply pw_below_drewN | apply below_drew1 | refine below_set ?_ GE421.out) | exact HB.out)) hb); have n4_ := Aside0.mk (hbox); have n5_ := Aside0.mk ((by rw [hg]; exact (below_size (by repeat (first | (with_reducible first | exact HB.out | apply below_alloc | apply pw_below_drewN | apply below_drew1 | refine below_set ?_ GE421.out) | exact HB.out))) : w.heap.size ≤ gb422)); have n6_ := Aside0.mk ((by rw [hg]; exact (below_size (by repeat (first | (with_reducible first | exact HB.out | apply below_alloc | apply pw_below_drewN | apply below_drew1 | refine below_set ?_ GE421.out) | exact HB.out))) : w.heap.size ≤ gb422)); have n7_ := Aside0.mk ((by rw [hg]; exact Nat.ne_of_lt (blk_lt (g := gb421) (o := .cells #[.int .i64 a0_0, .slice A0_1 l0_1.length c0_1] 24 (0, 0)) (by (with_reducible repeat (first | refine blk_drewN ?_ _ | refine blk_drew ?_ | refine blk_alloc ?_ _)); exact BK421.out)) : gb421 ≠ gb422)); have n8_ := Aside0.mk ((by rw [hg]; exact Nat.ne_of_gt (blk_lt (g := gb421) (o := .cells #[.int .i64 a0_0, .slice A0_1 l0_1.length c0_1] 24 (0, 0)) (by (with_reducible repeat (first | refine blk_drewN ?_ _ | refine blk_drew ?_ | refine blk_alloc ?_ _)); exact BK421.out)) : gb422 ≠ gb421)); clear HO3; clear HO4_1; clear BK421; clear HB; have HO3 := n0_; have HO4_1 := n1_; have BK421 := n2_; have HB := n3_; have BK422 := n4_; have GW422 := n5_; have GE422 := n6_; have NB421_422 := n7_; have NB422_421 := n8_; clear n0_ n1_ n2_ n3_ n4_ n5_ n6_ n7_ n8_; clear hb hbox hg) | ((with_reducible refine gate_callee (f := 8) rfl ?_); refine goesL_ (some 16) rfl rfl Try.func8 (by kernel_rfl) rfl #[] rfl (by (try simp only [List.map_toArray, List.map_cons, List.map_nil]); first | done | rfl | (simp only [List.length_drop, List.length_take]; rfl)) ?_; (with_reducible refine (banksmanlaw14_awake.calls  t423 _ A6.out).mono ?_); rintro e w10 ⟨rfl, hb⟩; refine ⟨_, rfl, ?_⟩; have n0_ := Aside0.mk (Kd.V_below (by (with_reducible repeat (first | apply Kd.V_alloc | apply Kd.V_drewN | apply Kd.V_drew)); exact HO3.out) hb); have n1_ := Aside0.mk (Kd.V_below (by (with_reducible repeat (first | apply Kd.V_alloc | apply Kd.V_drewN | apply Kd.V_drew)); exact HO4_1.out) hb); have n2_ := Aside0.mk (blk_below (g := gb421) (o := .cells #[.int .i64 a0_0, .slice A0_1 l0_1.length c0_1] 24 (0, 0)) (by (with_reducible repeat (first | refine blk_drewN ?_ _ | refine blk_drew ?_ | refine blk_alloc ?_ _)); exact BK421.out) hb); have n3_ := Aside0.mk (blk_below (g := gb422) (o := .cells #[.int .i64 a4_0, .slice A4_1 l4_1.length c4_1] 24 (0, 0)) (by (with_reducible repeat (first | refine blk_drewN ?_ _ | refine blk_drew ?_ | refine blk_alloc ?_ _)); exact BK422.out) hb); have n4_ := Aside0.mk (below_step (by repeat (first | (with_reducible first | exact HB.out | apply below_alloc | apply pw_below_drewN | apply below_drew1 | refine below_set ?_ GE421.out | refine below_set ?_ GE422.out) | exact HB.out)) hb); clear HO3; clear HO4_1; clear BK421; clear BK422; clear HB; have HO3 := n0_; have HO4_1 := n1_; have BK421 := n2_; have BK422 := n3_; have HB := n4_; clear n0_ n1_ n2_ n3_ n4_; (try clear hb); (try clear hb2); (try clear hk); (try clear hi)))
  (try simp only [Act.put, List.setIfInBounds_toArray, List.set_cons_zero, List.set_cons_succ])
  go_cut [38] (fun v38 wc => ∃ (kq : Nat) (x38_6 : Bool), v38 = .bool x38_6 ∧ Aside0 (banksmanlaw14_RivalMore.j0 kq l1 l2 l3 t423 x38_6 a0_0 l0_1 a4_0 l4_1 = some r) ∧ Aside0 (kq ≤ k) ∧ Aside0 (Kd.V k24 24 wc w.heap.size (fun k_ => ((P3_ k_ ∨ P4_1_ k_) ∨ w.heap.size ≤ k_) ∧ k_ ≠ gb421 ∧ k_ ≠ gb422) (.slice A3 l3.length c3) l3) ∧ Aside0 (Kd.V k57 57 wc w.heap.size (fun k_ => ((P3_ k_ ∨ P4_1_ k_) ∨ w.heap.size ≤ k_) ∧ k_ ≠ gb421 ∧ k_ ≠ gb422) (.slice A4_1 l4_1.length c4_1) l4_1) ∧ Aside0 (wc.heap[gb421]? = some (.cells #[.int .i64 a0_0, (.slice A0_1 l0_1.length c0_1)] 24 (0, 0))) ∧ Aside0 (wc.heap[gb422]? = some (.cells #[.int .i64 a4_0, (.slice A4_1 l4_1.length c4_1)] 24 (0, 0))) ∧ Aside0 (Below w.heap.size w wc))
  case first =>
    have H := HC7.out
    clear HC7
    replace H := Option.bind_eq_some_iff.mp H
    obtain ⟨t424, A110, H⟩ := H
    replace H : (if t424 = true then ((banksmanref10_Few.f k l4_1).bind fun t425 => (if t425 = true then ((banksmanref08_Few.f k l1 ([] : List Int)).bind fun t426 => (if t426 = true then ((banksmanref13_Few.f k l2 l3).bind fun t427 => (banksmanlaw14_RivalMore.j0 k l1 l2 l3 t423 (!t427) a0_0 l0_1 a4_0 l4_1)) else (banksmanlaw14_RivalMore.j0 k l1 l2 l3 t423 true a0_0 l0_1 a4_0 l4_1))) else (banksmanlaw14_RivalMore.j0 k l1 l2 l3 t423 true a0_0 l0_1 a4_0 l4_1))) else (banksmanlaw14_RivalMore.j0 k l1 l2 l3 t423 true a0_0 l0_1 a4_0 l4_1)) = some r := H
    have A11 := Aside0.mk A110
    clear A110
    by_cases c12 : t424 = true
    · subst c12
      have H1 : ((banksmanref10_Few.f k l4_1).bind fun t425 => (if t425 = true then ((banksmanref08_Few.f k l1 ([] : List Int)).bind fun t426 => (if t426 = true then ((banksmanref13_Few.f k l2 l3).bind fun t427 => (banksmanlaw14_RivalMore.j0 k l1 l2 l3 t423 (!t427) a0_0 l0_1 a4_0 l4_1)) else (banksmanlaw14_RivalMore.j0 k l1 l2 l3 t423 true a0_0 l0_1 a4_0 l4_1))) else (banksmanlaw14_RivalMore.j0 k l1 l2 l3 t423 true a0_0 l0_1 a4_0 l4_1))) = some r := by rw [if_pos rfl] at H; exact H
      clear H
      have H := H1
      clear H1
      replace H := Option.bind_eq_some_iff.mp H
      obtain ⟨t425, A130, H⟩ := H
      replace H : (if t425 = true then ((banksmanref08_Few.f k l1 ([] : List Int)).bind fun t426 => (if t426 = true then ((banksmanref13_Few.f k l2 l3).bind fun t427 => (banksmanlaw14_RivalMore.j0 k l1 l2 l3 t423 (!t427) a0_0 l0_1 a4_0 l4_1)) else (banksmanlaw14_RivalMore.j0 k l1 l2 l3 t423 true a0_0 l0_1 a4_0 l4_1))) else (banksmanlaw14_RivalMore.j0 k l1 l2 l3 t423 true a0_0 l0_1 a4_0 l4_1)) = some r := H
      have A13 := Aside0.mk A130
      clear A130
      by_cases c14 : t425 = true
      · subst c14
        have H1 : ((banksmanref08_Few.f k l1 ([] : List Int)).bind fun t426 => (if t426 = true then ((banksmanref13_Few.f k l2 l3).bind fun t427 => (banksmanlaw14_RivalMore.j0 k l1 l2 l3 t423 (!t427) a0_0 l0_1 a4_0 l4_1)) else (banksmanlaw14_RivalMore.j0 k l1 l2 l3 t423 true a0_0 l0_1 a4_0 l4_1))) = some r := by rw [if_pos rfl] at H; exact H
        clear H
        have H := H1
        clear H1
        replace H := Option.bind_eq_some_iff.mp H
        obtain ⟨t426, A150, H⟩ := H
        replace H : (if t426 = true then ((banksmanref13_Few.f k l2 l3).bind fun t427 => (banksmanlaw14_RivalMore.j0 k l1 l2 l3 t423 (!t427) a0_0 l0_1 a4_0 l4_1)) else (banksmanlaw14_RivalMore.j0 k l1 l2 l3 t423 true a0_0 l0_1 a4_0 l4_1)) = some r := H
        have A15 := Aside0.mk A150
        clear A150
        by_cases c16 : t426 = true
        · subst c16
          have H1 : ((banksmanref13_Few.f k l2 l3).bind fun t427 => (banksmanlaw14_RivalMore.j0 k l1 l2 l3 t423 (!t427) a0_0 l0_1 a4_0 l4_1)) = some r := by rw [if_pos rfl] at H; exact H
          clear H
          have H := H1
          clear H1
          replace H := Option.bind_eq_some_iff.mp H
          obtain ⟨t427, A170, H⟩ := H
          replace H : (banksmanlaw14_RivalMore.j0 k l1 l2 l3 t423 (!t427) a0_0 l0_1 a4_0 l4_1) = some r := H
          have A17 := Aside0.mk A170
          clear A170
          have H' := Aside0.mk H
          clear H
          have hnb18 := NB421_422.out
          have hnc18 := NB422_421.out
          have hcz19_0 : w10.cell? ⟨gb421, 0, none⟩ = some (.int .i64 a0_0) := (blk_cell BK421.out 0).trans rfl
          have hcz19_1 : w10.cell? ⟨gb421, 1, none⟩ = some (.slice A0_1 l0_1.length c0_1) := (blk_cell BK421.out 1).trans rfl
          have hfz19_0 := blk_frozen BK421.out 0
          have hfz19_1 := blk_frozen BK421.out 1
          go_wp2_with (first | ((with_reducible refine gate_callee (f := 9) rfl ?_); refine goesL_ (some 19) rfl rfl Try.func9 (by kernel_rfl) rfl #[.slice A0_1 l0_1.length c0_1] rfl (by (try simp only [List.map_toArray, List.map_cons, List.map_nil]); first | done | rfl | (simp only [List.length_drop, List.length_take]; rfl)) ?_; (with_reducible refine (banksmanref10_Few.calls k _ _ l0_1 true _ ?side1 ?side2 A11.out).mono ?_); (case side1 => repeat (first | exact (Kd.C_below HR0_1.out HB.out) | (with_reducible refine Kd.C_alloc ?_ _) | (with_reducible refine Kd.C_drewN ?_ _) | (with_reducible refine Kd.C_drew ?_))); (case side2 => exact HC0_1.out); rintro e w' ⟨rfl, ⟨nd, rfl⟩⟩; refine ⟨_, rfl, ?_⟩; have hcz20_0 : w10.cell? ⟨gb422, 0, none⟩ = some (.int .i64 a4_0) := (blk_cell BK422.out 0).trans rfl; have hcz20_1 : w10.cell? ⟨gb422, 1, none⟩ = some (.slice A4_1 l4_1.length c4_1) := (blk_cell BK422.out 1).trans rfl; have hfz20_0 := blk_frozen BK422.out 0; have hfz20_1 := blk_frozen BK422.out 1) | (go_at_call 9; (with_reducible refine (banksmanref10_Few.calls k _ _ l4_1 true _ ?side1 ?side2 A13.out).mono ?_); (case side1 => repeat (first | exact (Kd.V_reads' HO4_1.out).2.2 | (with_reducible refine Kd.C_alloc ?_ _) | (with_reducible refine Kd.C_drewN ?_ _) | (with_reducible refine Kd.C_drew ?_))); (case side2 => exact (Kd.V_reads' HO4_1.out).2.1); rintro e w' ⟨rfl, ⟨nd, rfl⟩⟩) | (go_at_call 10; (refine (banksmanref08_Few.calls k _ _ l1 _ _ ([] : List Int) true _ ?side1 ?side2 ?side3 ?side4 A15.out).mono ?_); (case side1 => repeat (first | exact (Kd.C_below HR1.out (by repeat (first | (with_reducible first | exact HB.out | apply below_alloc | apply pw_below_drewN | apply below_drew1 | refine below_set ?_ GE421.out | refine below_set ?_ GE422.out) | exact HB.out))) | (with_reducible refine Kd.C_alloc ?_ _) | (with_reducible refine Kd.C_drewN ?_ _) | (with_reducible refine Kd.C_drew ?_))); (case side2 => exact HC1.out); (case side3 => exact Kd.C_nil _ _); (case side4 => exact Nat.le_refl _); rintro e w21 ⟨rfl, hb⟩; have n0_ := Aside0.mk (Kd.V_below (by (with_reducible repeat (first | apply Kd.V_alloc | apply Kd.V_drewN | apply Kd.V_drew)); exact HO3.out) hb); have n1_ := Aside0.mk (Kd.V_below (by (with_reducible repeat (first | apply Kd.V_alloc | apply Kd.V_drewN | apply Kd.V_drew)); exact HO4_1.out) hb); have n2_ := Aside0.mk (blk_below (g := gb421) (o := .cells #[.int .i64 a0_0, .slice A0_1 l0_1.length c0_1] 24 (0, 0)) (by (with_reducible repeat (first | refine blk_drewN ?_ _ | refine blk_drew ?_ | refine blk_alloc ?_ _)); exact BK421.out) hb); have n3_ := Aside0.mk (blk_below (g := gb422) (o := .cells #[.int .i64 a4_0, .slice A4_1 l4_1.length c4_1] 24 (0, 0)) (by (with_reducible repeat (first | refine blk_drewN ?_ _ | refine blk_drew ?_ | refine blk_alloc ?_ _)); exact BK422.out) hb); have n4_ := Aside0.mk (below_step (by repeat (first | (with_reducible first | exact HB.out | apply below_alloc | apply pw_below_drewN | apply below_drew1 | refine below_set ?_ GE421.out | refine below_set ?_ GE422.out) | exact HB.out)) hb); clear HO3; clear HO4_1; clear BK421; clear BK422; clear HB; have HO3 := n0_; have HO4_1 := n1_; have BK421 := n2_; have BK422 := n3_; have HB := n4_; clear n0_ n1_ n2_ n3_ n4_; (try clear hb); (try clear hb2); (try clear hk); (try clear hi)) | (go_at_call 11; (with_reducible refine (banksmanref13_Few.calls k _ _ l2 _ _ l3 t427 _ ?side1 ?side2 ?side3 ?side4 A17.out).mono ?_); (case side1 => repeat (first | exact (Kd.C_below HR2.out HB.out) | (with_reducible refine Kd.C_alloc ?_ _) | (with_reducible refine Kd.C_drewN ?_ _) | (with_reducible refine Kd.C_drew ?_))); (case side2 => exact HC2.out); (case side3 => repeat (first | exact (Kd.V_reads' HO3.out).2.2 | (with_reducible refine Kd.C_alloc ?_ _) | (with_reducible refine Kd.C_drewN ?_ _) | (with_reducible refine Kd.C_drew ?_))); (case side4 => exact (Kd.V_reads' HO3.out).2.1); rintro e w22 ⟨rfl, hb⟩; have n0_ := Aside0.mk (Kd.V_below (by (with_reducible repeat (first | apply Kd.V_alloc | apply Kd.V_drewN | apply Kd.V_drew)); exact HO3.out) hb); have n1_ := Aside0.mk (Kd.V_below (by (with_reducible repeat (first | apply Kd.V_alloc | apply Kd.V_drewN | apply Kd.V_drew)); exact HO4_1.out) hb); have n2_ := Aside0.mk (blk_below (g := gb421) (o := .cells #[.int .i64 a0_0, .slice A0_1 l0_1.length c0_1] 24 (0, 0)) (by (with_reducible repeat (first | refine blk_drewN ?_ _ | refine blk_drew ?_ | refine blk_alloc ?_ _)); exact BK421.out) hb); have n3_ := Aside0.mk (blk_below (g := gb422) (o := .cells #[.int .i64 a4_0, .slice A4_1 l4_1.length c4_1] 24 (0, 0)) (by (with_reducible repeat (first | refine blk_drewN ?_ _ | refine blk_drew ?_ | refine blk_alloc ?_ _)); exact BK422.out) hb); have n4_ := Aside0.mk (below_step (by repeat (first | (with_reducible first | exact HB.out | apply below_alloc | apply pw_below_drewN | apply below_drew1 | refine below_set ?_ GE421.out | refine below_set ?_ GE422.out) | exact HB.out)) hb); clear HO3; clear HO4_1; clear BK421; clear BK422; clear HB; have HO3 := n0_; have HO4_1 := n1_; have BK421 := n2_; have BK422 := n3_; have HB := n4_; clear n0_ n1_ n2_ n3_ n4_; (try clear hb); (try clear hb2); (try clear hk); (try clear hi)))
          go_meet
          case rel => exact ⟨_, (!t427), (by first | rfl | (simp; done) | (simp [*]; done)), H', ⟨by first | omega | exact Nat.le_refl _⟩, ⟨by (with_reducible repeat (first | apply Kd.V_alloc | apply Kd.V_drewN | apply Kd.V_drew)); exact Kd.V_mono HO3.out (fun _ hk => ⟨hk.1.1, ⟨hk.1.2, hk.2⟩⟩)⟩, ⟨by (with_reducible repeat (first | apply Kd.V_alloc | apply Kd.V_drewN | apply Kd.V_drew)); exact Kd.V_mono HO4_1.out (fun _ hk => ⟨hk.1.1, ⟨hk.1.2, hk.2⟩⟩)⟩, ⟨by (with_reducible repeat (first | refine blk_drewN ?_ _ | refine blk_drew ?_ | refine blk_alloc ?_ _)); exact BK421.out⟩, ⟨by (with_reducible repeat (first | refine blk_drewN ?_ _ | refine blk_drew ?_ | refine blk_alloc ?_ _)); exact BK422.out⟩, ⟨by repeat (first | (with_reducible first | exact HB.out | apply below_alloc | apply pw_below_drewN | apply below_drew1 | refine below_set ?_ GE421.out | refine below_set ?_ GE422.out) | exact HB.out)⟩⟩
        · replace c16 := Bool.eq_false_iff.mpr c16
          subst c16
          have H1 : (banksmanlaw14_RivalMore.j0 k l1 l2 l3 t423 true a0_0 l0_1 a4_0 l4_1) = some r := by rw [if_neg (show ¬ (false = true) by decide)] at H; exact H
          clear H
          have H := H1
          clear H1
          have H' := Aside0.mk H
          clear H
          have hnb23 := NB421_422.out
          have hnc23 := NB422_421.out
          have hcz24_0 : w10.cell? ⟨gb421, 0, none⟩ = some (.int .i64 a0_0) := (blk_cell BK421.out 0).trans rfl
          have hcz24_1 : w10.cell? ⟨gb421, 1, none⟩ = some (.slice A0_1 l0_1.length c0_1) := (blk_cell BK421.out 1).trans rfl
          have hfz24_0 := blk_frozen BK421.out 0
          have hfz24_1 := blk_frozen BK421.out 1
          go_wp2_with (first | ((with_reducible refine gate_callee (f := 9) rfl ?_); refine goesL_ (some 19) rfl rfl Try.func9 (by kernel_rfl) rfl #[.slice A0_1 l0_1.length c0_1] rfl (by (try simp only [List.map_toArray, List.map_cons, List.map_nil]); first | done | rfl | (simp only [List.length_drop, List.length_take]; rfl)) ?_; (with_reducible refine (banksmanref10_Few.calls k _ _ l0_1 true _ ?side1 ?side2 A11.out).mono ?_); (case side1 => repeat (first | exact (Kd.C_below HR0_1.out HB.out) | (with_reducible refine Kd.C_alloc ?_ _) | (with_reducible refine Kd.C_drewN ?_ _) | (with_reducible refine Kd.C_drew ?_))); (case side2 => exact HC0_1.out); rintro e w' ⟨rfl, ⟨nd, rfl⟩⟩; refine ⟨_, rfl, ?_⟩; have hcz25_0 : w10.cell? ⟨gb422, 0, none⟩ = some (.int .i64 a4_0) := (blk_cell BK422.out 0).trans rfl; have hcz25_1 : w10.cell? ⟨gb422, 1, none⟩ = some (.slice A4_1 l4_1.length c4_1) := (blk_cell BK422.out 1).trans rfl; have hfz25_0 := blk_frozen BK422.out 0; have hfz25_1 := blk_frozen BK422.out 1) | (go_at_call 9; (with_reducible refine (banksmanref10_Few.calls k _ _ l4_1 true _ ?side1 ?side2 A13.out).mono ?_); (case side1 => repeat (first | exact (Kd.V_reads' HO4_1.out).2.2 | (with_reducible refine Kd.C_alloc ?_ _) | (with_reducible refine Kd.C_drewN ?_ _) | (with_reducible refine Kd.C_drew ?_))); (case side2 => exact (Kd.V_reads' HO4_1.out).2.1); rintro e w' ⟨rfl, ⟨nd, rfl⟩⟩) | (go_at_call 10; (refine (banksmanref08_Few.calls k _ _ l1 _ _ ([] : List Int) false _ ?side1 ?side2 ?side3 ?side4 A15.out).mono ?_); (case side1 => repeat (first | exact (Kd.C_below HR1.out (by repeat (first | (with_reducible first | exact HB.out | apply below_alloc | apply pw_below_drewN | apply below_drew1 | refine below_set ?_ GE421.out | refine below_set ?_ GE422.out) | exact HB.out))) | (with_reducible refine Kd.C_alloc ?_ _) | (with_reducible refine Kd.C_drewN ?_ _) | (with_reducible refine Kd.C_drew ?_))); (case side2 => exact HC1.out); (case side3 => exact Kd.C_nil _ _); (case side4 => exact Nat.le_refl _); rintro e w26 ⟨rfl, hb⟩; have n0_ := Aside0.mk (Kd.V_below (by (with_reducible repeat (first | apply Kd.V_alloc | apply Kd.V_drewN | apply Kd.V_drew)); exact HO3.out) hb); have n1_ := Aside0.mk (Kd.V_below (by (with_reducible repeat (first | apply Kd.V_alloc | apply Kd.V_drewN | apply Kd.V_drew)); exact HO4_1.out) hb); have n2_ := Aside0.mk (blk_below (g := gb421) (o := .cells #[.int .i64 a0_0, .slice A0_1 l0_1.length c0_1] 24 (0, 0)) (by (with_reducible repeat (first | refine blk_drewN ?_ _ | refine blk_drew ?_ | refine blk_alloc ?_ _)); exact BK421.out) hb); have n3_ := Aside0.mk (blk_below (g := gb422) (o := .cells #[.int .i64 a4_0, .slice A4_1 l4_1.length c4_1] 24 (0, 0)) (by (with_reducible repeat (first | refine blk_drewN ?_ _ | refine blk_drew ?_ | refine blk_alloc ?_ _)); exact BK422.out) hb); have n4_ := Aside0.mk (below_step (by repeat (first | (with_reducible first | exact HB.out | apply below_alloc | apply pw_below_drewN | apply below_drew1 | refine below_set ?_ GE421.out | refine below_set ?_ GE422.out) | exact HB.out)) hb); clear HO3; clear HO4_1; clear BK421; clear BK422; clear HB; have HO3 := n0_; have HO4_1 := n1_; have BK421 := n2_; have BK422 := n3_; have HB := n4_; clear n0_ n1_ n2_ n3_ n4_; (try clear hb); (try clear hb2); (try clear hk); (try clear hi)))
          go_meet
          case rel => exact ⟨_, (true), (by first | rfl | (simp; done) | (simp [*]; done)), H', ⟨by first | omega | exact Nat.le_refl _⟩, ⟨by (with_reducible repeat (first | apply Kd.V_alloc | apply Kd.V_drewN | apply Kd.V_drew)); exact Kd.V_mono HO3.out (fun _ hk => ⟨hk.1.1, ⟨hk.1.2, hk.2⟩⟩)⟩, ⟨by (with_reducible repeat (first | apply Kd.V_alloc | apply Kd.V_drewN | apply Kd.V_drew)); exact Kd.V_mono HO4_1.out (fun _ hk => ⟨hk.1.1, ⟨hk.1.2, hk.2⟩⟩)⟩, ⟨by (with_reducible repeat (first | refine blk_drewN ?_ _ | refine blk_drew ?_ | refine blk_alloc ?_ _)); exact BK421.out⟩, ⟨by (with_reducible repeat (first | refine blk_drewN ?_ _ | refine blk_drew ?_ | refine blk_alloc ?_ _)); exact BK422.out⟩, ⟨by repeat (first | (with_reducible first | exact HB.out | apply below_alloc | apply pw_below_drewN | apply below_drew1 | refine below_set ?_ GE421.out | refine below_set ?_ GE422.out) | exact HB.out)⟩⟩
      · replace c14 := Bool.eq_false_iff.mpr c14
        subst c14
        have H1 : (banksmanlaw14_RivalMore.j0 k l1 l2 l3 t423 true a0_0 l0_1 a4_0 l4_1) = some r := by rw [if_neg (show ¬ (false = true) by decide)] at H; exact H
        clear H
        have H := H1
        clear H1
        have H' := Aside0.mk H
        clear H
        have hnb27 := NB421_422.out
        have hnc27 := NB422_421.out
        have hcz28_0 : w10.cell? ⟨gb421, 0, none⟩ = some (.int .i64 a0_0) := (blk_cell BK421.out 0).trans rfl
        have hcz28_1 : w10.cell? ⟨gb421, 1, none⟩ = some (.slice A0_1 l0_1.length c0_1) := (blk_cell BK421.out 1).trans rfl
        have hfz28_0 := blk_frozen BK421.out 0
        have hfz28_1 := blk_frozen BK421.out 1
        go_wp2_with (first | ((with_reducible refine gate_callee (f := 9) rfl ?_); refine goesL_ (some 19) rfl rfl Try.func9 (by kernel_rfl) rfl #[.slice A0_1 l0_1.length c0_1] rfl (by (try simp only [List.map_toArray, List.map_cons, List.map_nil]); first | done | rfl | (simp only [List.length_drop, List.length_take]; rfl)) ?_; (with_reducible refine (banksmanref10_Few.calls k _ _ l0_1 true _ ?side1 ?side2 A11.out).mono ?_); (case side1 => repeat (first | exact (Kd.C_below HR0_1.out HB.out) | (with_reducible refine Kd.C_alloc ?_ _) | (with_reducible refine Kd.C_drewN ?_ _) | (with_reducible refine Kd.C_drew ?_))); (case side2 => exact HC0_1.out); rintro e w' ⟨rfl, ⟨nd, rfl⟩⟩; refine ⟨_, rfl, ?_⟩; have hcz29_0 : w10.cell? ⟨gb422, 0, none⟩ = some (.int .i64 a4_0) := (blk_cell BK422.out 0).trans rfl; have hcz29_1 : w10.cell? ⟨gb422, 1, none⟩ = some (.slice A4_1 l4_1.length c4_1) := (blk_cell BK422.out 1).trans rfl; have hfz29_0 := blk_frozen BK422.out 0; have hfz29_1 := blk_frozen BK422.out 1) | (go_at_call 9; (with_reducible refine (banksmanref10_Few.calls k _ _ l4_1 false _ ?side1 ?side2 A13.out).mono ?_); (case side1 => repeat (first | exact (Kd.V_reads' HO4_1.out).2.2 | (with_reducible refine Kd.C_alloc ?_ _) | (with_reducible refine Kd.C_drewN ?_ _) | (with_reducible refine Kd.C_drew ?_))); (case side2 => exact (Kd.V_reads' HO4_1.out).2.1); rintro e w' ⟨rfl, ⟨nd, rfl⟩⟩))
        go_meet
        case rel => exact ⟨_, (true), (by first | rfl | (simp; done) | (simp [*]; done)), H', ⟨by first | omega | exact Nat.le_refl _⟩, ⟨by (with_reducible repeat (first | apply Kd.V_alloc | apply Kd.V_drewN | apply Kd.V_drew)); exact Kd.V_mono HO3.out (fun _ hk => ⟨hk.1.1, ⟨hk.1.2, hk.2⟩⟩)⟩, ⟨by (with_reducible repeat (first | apply Kd.V_alloc | apply Kd.V_drewN | apply Kd.V_drew)); exact Kd.V_mono HO4_1.out (fun _ hk => ⟨hk.1.1, ⟨hk.1.2, hk.2⟩⟩)⟩, ⟨by (with_reducible repeat (first | refine blk_drewN ?_ _ | refine blk_drew ?_ | refine blk_alloc ?_ _)); exact BK421.out⟩, ⟨by (with_reducible repeat (first | refine blk_drewN ?_ _ | refine blk_drew ?_ | refine blk_alloc ?_ _)); exact BK422.out⟩, ⟨by repeat (first | (with_reducible first | exact HB.out | apply below_alloc | apply pw_below_drewN | apply below_drew1 | refine below_set ?_ GE421.out | refine below_set ?_ GE422.out) | exact HB.out)⟩⟩
    · replace c12 := Bool.eq_false_iff.mpr c12
      subst c12
      have H1 : (banksmanlaw14_RivalMore.j0 k l1 l2 l3 t423 true a0_0 l0_1 a4_0 l4_1) = some r := by rw [if_neg (show ¬ (false = true) by decide)] at H; exact H
      clear H
      have H := H1
      clear H1
      have H' := Aside0.mk H
      clear H
      have hnb30 := NB421_422.out
      have hnc30 := NB422_421.out
      have hcz31_0 : w10.cell? ⟨gb421, 0, none⟩ = some (.int .i64 a0_0) := (blk_cell BK421.out 0).trans rfl
      have hcz31_1 : w10.cell? ⟨gb421, 1, none⟩ = some (.slice A0_1 l0_1.length c0_1) := (blk_cell BK421.out 1).trans rfl
      have hfz31_0 := blk_frozen BK421.out 0
      have hfz31_1 := blk_frozen BK421.out 1
      go_wp2_with (first | ((with_reducible refine gate_callee (f := 9) rfl ?_); refine goesL_ (some 19) rfl rfl Try.func9 (by kernel_rfl) rfl #[.slice A0_1 l0_1.length c0_1] rfl (by (try simp only [List.map_toArray, List.map_cons, List.map_nil]); first | done | rfl | (simp only [List.length_drop, List.length_take]; rfl)) ?_; (with_reducible refine (banksmanref10_Few.calls k _ _ l0_1 false _ ?side1 ?side2 A11.out).mono ?_); (case side1 => repeat (first | exact (Kd.C_below HR0_1.out HB.out) | (with_reducible refine Kd.C_alloc ?_ _) | (with_reducible refine Kd.C_drewN ?_ _) | (with_reducible refine Kd.C_drew ?_))); (case side2 => exact HC0_1.out); rintro e w' ⟨rfl, ⟨nd, rfl⟩⟩; refine ⟨_, rfl, ?_⟩))
      go_meet
      case rel => exact ⟨_, (true), (by first | rfl | (simp; done) | (simp [*]; done)), H', ⟨by first | omega | exact Nat.le_refl _⟩, ⟨by (with_reducible repeat (first | apply Kd.V_alloc | apply Kd.V_drewN | apply Kd.V_drew)); exact Kd.V_mono HO3.out (fun _ hk => ⟨hk.1.1, ⟨hk.1.2, hk.2⟩⟩)⟩, ⟨by (with_reducible repeat (first | apply Kd.V_alloc | apply Kd.V_drewN | apply Kd.V_drew)); exact Kd.V_mono HO4_1.out (fun _ hk => ⟨hk.1.1, ⟨hk.1.2, hk.2⟩⟩)⟩, ⟨by (with_reducible repeat (first | refine blk_drewN ?_ _ | refine blk_drew ?_ | refine blk_alloc ?_ _)); exact BK421.out⟩, ⟨by (with_reducible repeat (first | refine blk_drewN ?_ _ | refine blk_drew ?_ | refine blk_alloc ?_ _)); exact BK422.out⟩, ⟨by repeat (first | (with_reducible first | exact HB.out | apply below_alloc | apply pw_below_drewN | apply below_drew1 | refine below_set ?_ GE421.out | refine below_set ?_ GE422.out) | exact HB.out)⟩⟩
  case rest =>
    clear HC7
    try clear c1
    try clear c2
    try clear p2
    try clear c3
    try clear c4
    try clear c6
    try clear c8
    try clear c9
    try clear c12
    try clear c14
    try clear c16
    try clear c18
    try clear c23
    try clear c27
    try clear c30
    try clear hcz19_0
    try clear hcz19_1
    try clear hcz20_0
    try clear hcz20_1
    try clear hcz24_0
    try clear hcz24_1
    try clear hcz25_0
    try clear hcz25_1
    try clear hcz28_0
    try clear hcz28_1
    try clear hcz29_0
    try clear hcz29_1
    try clear hcz31_0
    try clear hcz31_1
    try clear hfz19_0
    try clear hfz19_1
    try clear hfz20_0
    try clear hfz20_1
    try clear hfz24_0
    try clear hfz24_1
    try clear hfz25_0
    try clear hfz25_1
    try clear hfz28_0
    try clear hfz28_1
    try clear hfz29_0
    try clear hfz29_1
    try clear hfz31_0
    try clear hfz31_1
    obtain ⟨kq, x38_6, rfl, HA, HJ6, HO_3, HO_423001, BK421, BK422, HB⟩ := hcut
    cases kq with
    | zero => exact absurd HA.out (by simp [banksmanlaw14_RivalMore.j0])
    | succ kj6 =>
      have H := HA.out
      clear HA
      simp only [banksmanlaw14_RivalMore.j0] at H
      by_cases c32 : x38_6 = true
      · subst c32
        have H1 : (some t423) = some r := by rw [if_pos rfl] at H; exact H
        clear H
        have H := H1
        clear H1
        obtain rfl := Option.some.inj H
        go_wp2
        go_ret
        exact ⟨by first | rfl | (simp [errW_none, errW_some] <;> rfl) | (simp [*, errW_none, errW_some] <;> rfl), by repeat (first | (with_reducible first | exact HB.out | apply below_alloc | apply pw_below_drewN | apply below_drew1 | refine below_set ?_ GE421.out | refine below_set ?_ GE422.out) | exact HB.out)⟩
      · replace c32 := Bool.eq_false_iff.mpr c32
        subst c32
        have H1 : ((rival_Judge.f a0_0 l0_1 l1 l2 l3).bind fun bt428 => ((some (([] : List (S24)) : List (S24))).bind fun y430 => (if y430.length + l3.length < 4398046511104 then ((some (y430 ++ l3 : List (S24))).bind fun y433 => ((some (([(⟨a4_0, l4_1⟩ : S24)] : List (S24)) : List (S24))).bind fun y436 => (if y433.length + y436.length < 4398046511104 then ((rival_Judge.f a0_0 l0_1 l1 l2 (y433 ++ y436)).bind fun bt442 => (if t423 = true then (if bt428.2 = 0 then (if bt442.2 = 0 then (some (bt428.1 == bt442.1)) else (some true)) else (if bt428.1 = true then (some false) else (if bt442.2 = 0 then (some false) else (some true)))) else (some false))) else (none)))) else (none)))) = some r := by rw [if_neg (show ¬ (false = true) by decide)] at H; exact H
        clear H
        have H := H1
        clear H1
        replace H := Option.bind_eq_some_iff.mp H
        obtain ⟨⟨t428, t429⟩, A330, H⟩ := H
        replace H : ((some (([] : List (S24)) : List (S24))).bind fun y430 => (if y430.length + l3.length < 4398046511104 then ((some (y430 ++ l3 : List (S24))).bind fun y433 => ((some (([(⟨a4_0, l4_1⟩ : S24)] : List (S24)) : List (S24))).bind fun y436 => (if y433.length + y436.length < 4398046511104 then ((rival_Judge.f a0_0 l0_1 l1 l2 (y433 ++ y436)).bind fun bt442 => (if t423 = true then (if t429 = 0 then (if bt442.2 = 0 then (some (t428 == bt442.1)) else (some true)) else (if t428 = true then (some false) else (if bt442.2 = 0 then (some false) else (some true)))) else (some false))) else (none)))) else (none))) = some r := H
        have A33 := Aside0.mk A330
        clear A330
        obtain ⟨y430, hy430⟩ : ∃ y_ : List (S24), y_ = (([] : List (S24))) := ⟨_, rfl⟩
        replace H : (if y430.length + l3.length < 4398046511104 then ((some (y430 ++ l3 : List (S24))).bind fun y433 => ((some (([(⟨a4_0, l4_1⟩ : S24)] : List (S24)) : List (S24))).bind fun y436 => (if y433.length + y436.length < 4398046511104 then ((rival_Judge.f a0_0 l0_1 l1 l2 (y433 ++ y436)).bind fun bt442 => (if t423 = true then (if t429 = 0 then (if bt442.2 = 0 then (some (t428 == bt442.1)) else (some true)) else (if t428 = true then (some false) else (if bt442.2 = 0 then (some false) else (some true)))) else (some false))) else (none)))) else (none)) = some r := by first | (rw [hy430]; with_reducible exact H) | (have H2_ := (Option.bind_some _ _).symm.trans H; rw [hy430]; with_reducible exact H2_) | (have H2_ := (Option.bind_some _ _).symm.trans H; with_reducible exact H2_) | with_reducible exact H | (rw [hy430]; exact H) | exact H
        have Ny430 := Aside0.mk hy430
        clear hy430
        by_cases c34 : y430.length + l3.length < 4398046511104
        · rw [if_pos c34] at H
          have LMc34 := Aside0.mk c34
          clear c34
          obtain ⟨y433, hy433⟩ : ∃ y_ : List (S24), y_ = (y430 ++ l3) := ⟨_, rfl⟩
          replace H : ((some (([(⟨a4_0, l4_1⟩ : S24)] : List (S24)) : List (S24))).bind fun y436 => (if y433.length + y436.length < 4398046511104 then ((rival_Judge.f a0_0 l0_1 l1 l2 (y433 ++ y436)).bind fun bt442 => (if t423 = true then (if t429 = 0 then (if bt442.2 = 0 then (some (t428 == bt442.1)) else (some true)) else (if t428 = true then (some false) else (if bt442.2 = 0 then (some false) else (some true)))) else (some false))) else (none))) = some r := by first | (rw [hy433]; with_reducible exact H) | (have H2_ := (Option.bind_some _ _).symm.trans H; rw [hy433]; with_reducible exact H2_) | (have H2_ := (Option.bind_some _ _).symm.trans H; with_reducible exact H2_) | with_reducible exact H | (rw [hy433]; exact H) | exact H
          have Ny433 := Aside0.mk hy433
          clear hy433
          obtain ⟨y436, hy436⟩ : ∃ y_ : List (S24), y_ = (([(⟨a4_0, l4_1⟩ : S24)] : List (S24))) := ⟨_, rfl⟩
          replace H : (if y433.length + y436.length < 4398046511104 then ((rival_Judge.f a0_0 l0_1 l1 l2 (y433 ++ y436)).bind fun bt442 => (if t423 = true then (if t429 = 0 then (if bt442.2 = 0 then (some (t428 == bt442.1)) else (some true)) else (if t428 = true then (some false) else (if bt442.2 = 0 then (some false) else (some true)))) else (some false))) else (none)) = some r := by first | (rw [hy436]; with_reducible exact H) | (have H2_ := (Option.bind_some _ _).symm.trans H; rw [hy436]; with_reducible exact H2_) | (have H2_ := (Option.bind_some _ _).symm.trans H; with_reducible exact H2_) | with_reducible exact H | (rw [hy436]; exact H) | exact H
          have Ny436 := Aside0.mk hy436
          clear hy436
          by_cases c35 : y433.length + y436.length < 4398046511104
          · rw [if_pos c35] at H
            have LMc35 := Aside0.mk c35
            clear c35
            obtain ⟨y439, hy439⟩ : ∃ y_ : List (S24), y_ = (y433 ++ y436) := ⟨_, rfl⟩
            replace H : ((rival_Judge.f a0_0 l0_1 l1 l2 y439).bind fun bt442 => (if t423 = true then (if t429 = 0 then (if bt442.2 = 0 then (some (t428 == bt442.1)) else (some true)) else (if t428 = true then (some false) else (if bt442.2 = 0 then (some false) else (some true)))) else (some false))) = some r := by first | (rw [hy439]; with_reducible exact H) | (have H2_ := (Option.bind_some _ _).symm.trans H; rw [hy439]; with_reducible exact H2_) | (have H2_ := (Option.bind_some _ _).symm.trans H; with_reducible exact H2_) | with_reducible exact H | (rw [hy439]; exact H) | exact H
            have Ny439 := Aside0.mk hy439
            clear hy439
            replace H := Option.bind_eq_some_iff.mp H
            obtain ⟨⟨t442, t443⟩, A360, H⟩ := H
            replace H : (if t423 = true then (if t429 = 0 then (if t443 = 0 then (some (t428 == t442)) else (some true)) else (if t428 = true then (some false) else (if t443 = 0 then (some false) else (some true)))) else (some false)) = some r := H
            have A36 := Aside0.mk A360
            clear A360
            by_cases c37 : t423 = true
            · subst c37
              have H1 : (if t429 = 0 then (if t443 = 0 then (some (t428 == t442)) else (some true)) else (if t428 = true then (some false) else (if t443 = 0 then (some false) else (some true)))) = some r := by rw [if_pos rfl] at H; exact H
              clear H
              have H := H1
              clear H1
              by_cases c38 : t429 = 0
              · rw [if_pos c38] at H
                have c38b0 : (t429 == 0) = true := beq_iff_eq.mpr c38
                have c38b1 : (t429 != 0) = false := bne_eq_false_iff_eq.mpr c38
                clear c38
                by_cases c39 : t443 = 0
                · rw [if_pos c39] at H
                  have c39b0 : (t443 == 0) = true := beq_iff_eq.mpr c39
                  have c39b1 : (t443 != 0) = false := bne_eq_false_iff_eq.mpr c39
                  clear c39
                  obtain rfl := Option.some.inj H
                  have hnb40 := NB421_422.out
                  have hnc40 := NB422_421.out
                  have hcz41_0 : wc.cell? ⟨gb421, 0, none⟩ = some (.int .i64 a0_0) := (blk_cell BK421.out 0).trans rfl
                  have hcz41_1 : wc.cell? ⟨gb421, 1, none⟩ = some (.slice A0_1 l0_1.length c0_1) := (blk_cell BK421.out 1).trans rfl
                  have hfz41_0 := blk_frozen BK421.out 0
                  have hfz41_1 := blk_frozen BK421.out 1
                  try go_wp2_with (first | ((with_reducible refine gate_callee (f := 12) rfl ?_); refine goesL_ (some 45) rfl rfl Try.func12 (by kernel_rfl) rfl #[.agg #[.int .i64 a0_0, .slice A0_1 l0_1.length c0_1], .slice A1 l1.length c1, .slice A2 l2.length c2, .slice A3 l3.length c3] rfl (by (try simp only [List.map_toArray, List.map_cons, List.map_nil]); first | done | rfl | (simp only [List.length_drop, List.length_take]; rfl)) ?_; (with_reducible refine (rival_Judge.calls a0_0 _ _ l0_1 _ _ l1 _ _ l2 _ _ l3 t428 t429 _ ?side1 ?side2 ?side3 ?side4 ?side5 ?side6 ?side7 ?side8 A33.out).mono ?_); (case side1 => repeat (first | exact (Kd.C_below HR0_1.out HB.out) | (with_reducible refine Kd.C_alloc ?_ _) | (with_reducible refine Kd.C_drewN ?_ _) | (with_reducible refine Kd.C_drew ?_))); (case side2 => exact HC0_1.out); (case side3 => repeat (first | exact (Kd.C_below HR1.out HB.out) | (with_reducible refine Kd.C_alloc ?_ _) | (with_reducible refine Kd.C_drewN ?_ _) | (with_reducible refine Kd.C_drew ?_))); (case side4 => exact HC1.out); (case side5 => repeat (first | exact (Kd.C_below HR2.out HB.out) | (with_reducible refine Kd.C_alloc ?_ _) | (with_reducible refine Kd.C_drewN ?_ _) | (with_reducible refine Kd.C_drew ?_))); (case side6 => exact HC2.out); (case side7 => repeat (first | exact (Kd.V_reads' HO_3.out).2.2 | (with_reducible refine Kd.C_alloc ?_ _) | (with_reducible refine Kd.C_drewN ?_ _) | (with_reducible refine Kd.C_drew ?_))); (case side8 => exact (Kd.V_reads' HO_3.out).2.1); rintro e w42 ⟨rfl, hb⟩; refine ⟨_, rfl, ?_⟩; have n0_ := Aside0.mk (Kd.V_below (by (with_reducible repeat (first | apply Kd.V_alloc | apply Kd.V_drewN | apply Kd.V_drew)); exact HO_3.out) hb); have n1_ := Aside0.mk (Kd.V_below (by (with_reducible repeat (first | apply Kd.V_alloc | apply Kd.V_drewN | apply Kd.V_drew)); exact HO_423001.out) hb); have n2_ := Aside0.mk (blk_below (g := gb421) (o := .cells #[.int .i64 a0_0, .slice A0_1 l0_1.length c0_1] 24 (0, 0)) (by (with_reducible repeat (first | refine blk_drewN ?_ _ | refine blk_drew ?_ | refine blk_alloc ?_ _)); exact BK421.out) hb); have n3_ := Aside0.mk (blk_below (g := gb422) (o := .cells #[.int .i64 a4_0, .slice A4_1 l4_1.length c4_1] 24 (0, 0)) (by (with_reducible repeat (first | refine blk_drewN ?_ _ | refine blk_drew ?_ | refine blk_alloc ?_ _)); exact BK422.out) hb); have n4_ := Aside0.mk (below_step (by repeat (first | (with_reducible first | exact HB.out | apply below_alloc | apply pw_below_drewN | apply below_drew1 | refine below_set ?_ GE421.out | refine below_set ?_ GE422.out) | exact HB.out)) hb); clear HO_3; clear HO_423001; clear BK421; clear BK422; clear HB; have HO_3 := n0_; have HO_423001 := n1_; have BK421 := n2_; have BK422 := n3_; have HB := n4_; clear n0_ n1_ n2_ n3_ n4_; (try clear hb); (try clear hb2); (try clear hk); (try clear hi)))
                  have n0_ := Aside0.mk (Kd.V_drew HO_3.out)
                  have n1_ := Aside0.mk (Kd.V_drew HO_423001.out)
                  have n2_ := Aside0.mk (blk_drew BK421.out)
                  have n3_ := Aside0.mk (blk_drew BK422.out)
                  have n4_ := Aside0.mk (below_drew1 HB.out)
                  clear HO_3
                  clear HO_423001
                  clear BK421
                  clear BK422
                  clear HB
                  have HO_3 := n0_
                  have HO_423001 := n1_
                  have BK421 := n2_
                  have BK422 := n3_
                  have HB := n4_
                  clear n0_ n1_ n2_ n3_ n4_
                  refine start_ (n := 15) (S := fun w' => w'.cell? ⟨gb421, 0, none⟩ = some (.int .i64 a0_0) ∧ w'.cell? ⟨gb421, 1, none⟩ = some (.slice A0_1 l0_1.length c0_1) ∧ w'.cell? ⟨gb422, 0, none⟩ = some (.int .i64 a4_0) ∧ w'.cell? ⟨gb422, 1, none⟩ = some (.slice A4_1 l4_1.length c4_1)) (ds := []) #[false, false, false, false, false, false, false, false, false, false, false, false, false, false, false] (by kernel_rfl) rfl rfl ⟨(blk_cell BK421.out 0).trans rfl, (blk_cell BK421.out 1).trans rfl, (blk_cell BK422.out 0).trans rfl, (blk_cell BK422.out 1).trans rfl⟩ (fun hHeld => ?_); refine with_tabW banksmanlaw14_RivalMore.tab5 banksmanlaw14_RivalMore.bits5 (fun HT_ HW_ => ?_)
                  generalize w42.drew = w43 at HO_3 HO_423001 BK421 BK422 HB hHeld ⊢
                  refine pure_ (i := 1) (N := some 50) (v := ?_) (a' := ?_) #[false, true, false, false, false, false, false, false, false, false, false, false, false, false, false] rfl rfl (any_of HT_.out (by kernel_rfl)) (fun _ _ _ h => h) (Or.inl ⟨by rfl, ?_⟩) ?_ ?_
                  rotate_left
                  · intro w'
                    go_simp
                    with_reducible rfl
                  rotate_left
                  · simp only [Act.put, List.setIfInBounds_toArray, List.set_cons_zero, List.set_cons_succ, i64_w, i32_w]
                    rfl
                  refine pure_ (i := 2) (N := some 51) (v := ?_) (a' := ?_) #[false, true, true, false, false, false, false, false, false, false, false, false, false, false, false] rfl rfl (any_of HT_.out (by kernel_rfl)) (fun _ _ _ h => h) (Or.inl ⟨by rfl, ?_⟩) ?_ ?_
                  rotate_left
                  · intro w'
                    go_simp
                    with_reducible rfl
                  rotate_left
                  · simp only [Act.put, List.setIfInBounds_toArray, List.set_cons_zero, List.set_cons_succ, i64_w, i32_w]
                    rfl
                  refine pure_ (i := 4) (N := some 53) (v := ?_) (a' := ?_) #[false, true, true, false, true, false, false, false, false, false, false, false, false, false, false] rfl rfl (any_of HT_.out (by kernel_rfl)) (fun _ _ _ h => h) (Or.inl ⟨by rfl, ?_⟩) ?_ ?_
                  rotate_left
                  · intro w'
                    go_simp
                    with_reducible rfl
                  rotate_left
                  · simp only [Act.put, List.setIfInBounds_toArray, List.set_cons_zero, List.set_cons_succ, i64_w, i32_w]
                    rfl
                  refine take_ (i := 0) (N := some 49) (v := ?_) (a' := ?_) #[true, true, true, false, true, false, false, false, false, false, false, false, false, false, false] rfl rfl (take_ofW HT_.out HW_.out (by kernel_rfl)) (fun _ _ _ h => h) (Or.inl ⟨by rfl, ?_⟩) hHeld ?_ ?_
                  rotate_left
                  · rintro w' ⟨s0, s1, s2, s3⟩
                    go_simp
                    with_reducible rfl
                  rotate_left
                  · simp only [Act.put, List.setIfInBounds_toArray, List.set_cons_zero, List.set_cons_succ, i64_w, i32_w]
                    rfl
                  refine take_ (i := 6) (N := some 55) (v := ?_) (a' := ?_) #[true, true, true, false, true, false, true, false, false, false, false, false, false, false, false] rfl rfl (take_ofW HT_.out HW_.out (by kernel_rfl)) (fun _ _ _ h => h) (Or.inl ⟨by rfl, ?_⟩) hHeld ?_ ?_
                  rotate_left
                  · rintro w' ⟨s0, s1, s2, s3⟩
                    go_simp
                    with_reducible rfl
                  rotate_left
                  · simp only [Act.put, List.setIfInBounds_toArray, List.set_cons_zero, List.set_cons_succ, i64_w, i32_w]
                    rfl
                  refine join_ (σ := Value × Value × Value) 7 #[true, true, true, true, true, true, true, true, false, false, false, false, false, false, false] (fun s_ => [(52, s_.1), (54, s_.2.1), (56, s_.2.2)]) (fun s_ w' => (w'.cell? ⟨gb421, 0, none⟩ = some (.int .i64 a0_0) ∧ w'.cell? ⟨gb421, 1, none⟩ = some (.slice A0_1 l0_1.length c0_1) ∧ w'.cell? ⟨gb422, 0, none⟩ = some (.int .i64 a4_0) ∧ w'.cell? ⟨gb422, 1, none⟩ = some (.slice A4_1 l4_1.length c4_1)) ∧ (Kd.N k24 24 w' w.heap.size (fun k_ => ((P3_ k_ ∨ P4_1_ k_) ∨ w.heap.size ≤ k_) ∧ some k_ ≠ (s_.2.2 : Value).ownBlock ∧ k_ ≠ gb421 ∧ k_ ≠ gb422) s_.2.1 y433) ∧ (Kd.N k24 24 w' w.heap.size (fun k_ => ((P3_ k_ ∨ P4_1_ k_) ∨ w.heap.size ≤ k_) ∧ some k_ ≠ (s_.2.1 : Value).ownBlock ∧ k_ ≠ gb421 ∧ k_ ≠ gb422) s_.2.2 y436) ∧ (Kd.V k24 24 w' w.heap.size (fun k_ => ((P3_ k_ ∨ P4_1_ k_) ∨ w.heap.size ≤ k_) ∧ some k_ ≠ (s_.2.1 : Value).ownBlock ∧ some k_ ≠ (s_.2.2 : Value).ownBlock ∧ k_ ≠ gb421 ∧ k_ ≠ gb422) (.slice A3 l3.length c3) l3) ∧ (Kd.V k57 57 w' w.heap.size (fun k_ => ((P3_ k_ ∨ P4_1_ k_) ∨ w.heap.size ≤ k_) ∧ some k_ ≠ (s_.2.1 : Value).ownBlock ∧ some k_ ≠ (s_.2.2 : Value).ownBlock ∧ k_ ≠ gb421 ∧ k_ ≠ gb422) (.slice A4_1 l4_1.length c4_1) l4_1) ∧ (w'.heap[gb421]? = some (.cells #[.int .i64 a0_0, .slice A0_1 l0_1.length c0_1] 24 (0, 0))) ∧ (w'.heap[gb422]? = some (.cells #[.int .i64 a4_0, .slice A4_1 l4_1.length c4_1] 24 (0, 0))) ∧ (Below w.heap.size w w')) ?_ ?_
                  rotate_left
                  · intro hCont
                    refine two_ (i := 3) (j := 7) (Ni := some 52) (Nj := some 56) #[true, true, true, true, true, false, true, false, false, false, false, false, false, false, false] #[true, true, true, false, true, false, true, true, false, false, false, false, false, false, false] rfl rfl rfl rfl (two_of HT_.out (by kernel_rfl)) (by decide) (by decide) (fun K hK => ?_) (fun K hK => ?_)
                    · skip
                      refine Kd.N_lit_step k24 _ 24 ?hg (N' := 52) ?hd (xs := ([] : List (S24))) (inner := []) (ok := (fun k_ => ((P3_ k_ ∨ P4_1_ k_) ∨ w.heap.size ≤ k_) ∧ k_ ≠ gb421 ∧ k_ ≠ gb422)) (okp := (fun k_ => ((P3_ k_ ∨ P4_1_ k_) ∨ w.heap.size ≤ k_) ∧ k_ ≠ gb421 ∧ k_ ≠ gb422)) ?hr ?hp (fun _ hk => hk) ((show ∀ k_, w43.heap.size ≤ k_ → (fun k_ => ((P3_ k_ ∨ P4_1_ k_) ∨ w.heap.size ≤ k_) ∧ k_ ≠ gb421 ∧ k_ ≠ gb422) k_ from fun k_ hk => ⟨(.inr (Nat.le_trans (below_size (by repeat (first | (with_reducible first | exact HB.out | apply below_alloc | apply pw_below_drewN | apply below_drew1 | refine below_set ?_ GE421.out | refine below_set ?_ GE422.out) | exact HB.out))) hk)), Kd.freshB (g := gb421) (o := .cells #[.int .i64 a0_0, .slice A0_1 l0_1.length c0_1] 24 (0, 0)) (by (with_reducible repeat (first | refine blk_drewN ?_ _ | refine blk_drew ?_ | refine blk_alloc ?_ _)); exact BK421.out) k_ hk, Kd.freshB (g := gb422) (o := .cells #[.int .i64 a4_0, .slice A4_1 l4_1.length c4_1] 24 (0, 0)) (by (with_reducible repeat (first | refine blk_drewN ?_ _ | refine blk_drew ?_ | refine blk_alloc ?_ _)); exact BK422.out) k_ hk⟩) _ (Nat.le_refl _)) (Below.refl _ _) (Nat.le_refl _) (by simp) ?_; (case hd => rfl); (case hg => rfl); (case hr => first | (go_simp; done) | (go_simp; rfl)); (case hp => exact (Reps.none _ _))
                      intro v431 w44 ho45 hb hg_ hnew_
                      clear hg_ hnew_
                      (first | rw [← Ny430.out] at ho45 | (simp only [Int.reduceToNat] at ho45; rw [← Ny430.out] at ho45))
                      have n0_ := Aside0.mk (Kd.V_elder' (by (with_reducible repeat (first | apply Kd.V_alloc | apply Kd.V_drewN | apply Kd.V_drew)); exact HO_3.out) (Kd.N_base ho45) hb)
                      have n1_ := Aside0.mk (Kd.V_elder' (by (with_reducible repeat (first | apply Kd.V_alloc | apply Kd.V_drewN | apply Kd.V_drew)); exact HO_423001.out) (Kd.N_base ho45) hb)
                      have n2_ := Aside0.mk (Kd.N_lower ho45 (below_size (by repeat (first | (with_reducible first | exact HB.out | apply below_alloc | apply pw_below_drewN | apply below_drew1 | refine below_set ?_ GE421.out | refine below_set ?_ GE422.out) | exact HB.out))))
                      have n3_ := Aside0.mk (blk_below (g := gb421) (o := .cells #[.int .i64 a0_0, .slice A0_1 l0_1.length c0_1] 24 (0, 0)) (by (with_reducible repeat (first | refine blk_drewN ?_ _ | refine blk_drew ?_ | refine blk_alloc ?_ _)); exact BK421.out) hb)
                      have n4_ := Aside0.mk (blk_below (g := gb422) (o := .cells #[.int .i64 a4_0, .slice A4_1 l4_1.length c4_1] 24 (0, 0)) (by (with_reducible repeat (first | refine blk_drewN ?_ _ | refine blk_drew ?_ | refine blk_alloc ?_ _)); exact BK422.out) hb)
                      have n5_ := Aside0.mk (below_step (by repeat (first | (with_reducible first | exact HB.out | apply below_alloc | apply pw_below_drewN | apply below_drew1 | refine below_set ?_ GE421.out | refine below_set ?_ GE422.out) | exact HB.out)) hb)
                      clear HO_3
                      clear HO_423001
                      clear BK421
                      clear BK422
                      clear HB
                      have HO_3 := n0_
                      have HO_423001 := n1_
                      have HO432 := n2_
                      have BK421 := n3_
                      have BK422 := n4_
                      have HB := n5_
                      clear n0_ n1_ n2_ n3_ n4_ n5_
                      clear hb ho45
                      refine hK.out _ _ ⟨(blk_cell BK421.out 0).trans rfl, (blk_cell BK421.out 1).trans rfl, (blk_cell BK422.out 0).trans rfl, (blk_cell BK422.out 1).trans rfl⟩ (fun hHeld => ?_)
                      clear hK K
                      refine norm_ (a' := ?_) ?_ ?_
                      rotate_left
                      · show Act.put _ (some 52) _ = _
                        simp only [Act.put, List.setIfInBounds_toArray, List.set_cons_zero, List.set_cons_succ, i64_w, i32_w]
                        rfl
                      refine two_ (i := 5) (j := 7) (Ni := some 54) (Nj := some 56) #[true, true, true, true, true, true, true, false, false, false, false, false, false, false, false] #[true, true, true, true, true, false, true, true, false, false, false, false, false, false, false] rfl rfl rfl rfl (two_of HT_.out (by kernel_rfl)) (by decide) (by decide) (fun K hK => ?_) (fun K hK => ?_)
                      · skip
                        refine Kd.N_append_rows_step k24 (w0 := w) w.heap.size (by rfl) (.tmp 52) (.tmp 53) 27 24 (.agg #[(.int .i64 0), (.slice none 0 0)]) 32 rfl Try.underlying27 info24 rfl (by decide) (by omega) v431 y430 l3 _ _ _ (fun k_ => ((P3_ k_ ∨ P4_1_ k_) ∨ w.heap.size ≤ k_) ∧ k_ ≠ gb421 ∧ k_ ≠ gb422) (fun k_ => ((fun k_ => ((P3_ k_ ∨ P4_1_ k_) ∨ w.heap.size ≤ k_) ∧ k_ ≠ gb421 ∧ k_ ≠ gb422)) k_ ∧ some k_ ≠ (v431 : Value).ownBlock) rfl rfl ?aO ?aR (fun _ hk => hk) ?aF ?aB ?aS ?aL ?_
                        (case aR => exact (by skip; exact Kd.V_F (Kd.V_mono (ok' := (fun k_ => ((fun k_ => ((P3_ k_ ∨ P4_1_ k_) ∨ w.heap.size ≤ k_) ∧ k_ ≠ gb421 ∧ k_ ≠ gb422)) k_ ∧ some k_ ≠ (v431 : Value).ownBlock)) (HO_3.out) (fun k_ hk => ⟨⟨hk.1.1, ⟨hk.1.2.1, hk.1.2.2⟩⟩, hk.2⟩))))
                        (case aB => exact (by repeat (first | (with_reducible first | exact HB.out | apply below_alloc | apply pw_below_drewN | apply below_drew1 | refine below_set ?_ GE421.out | refine below_set ?_ GE422.out) | exact HB.out)))
                        (case aF => exact (fun k_ hk => ⟨(.inr (Nat.le_trans (below_size (by repeat (first | (with_reducible first | exact HB.out | apply below_alloc | apply pw_below_drewN | apply below_drew1 | refine below_set ?_ GE421.out | refine below_set ?_ GE422.out) | exact HB.out))) hk)), Kd.freshB (g := gb421) (o := .cells #[.int .i64 a0_0, .slice A0_1 l0_1.length c0_1] 24 (0, 0)) (by (with_reducible repeat (first | refine blk_drewN ?_ _ | refine blk_drew ?_ | refine blk_alloc ?_ _)); exact BK421.out) k_ hk, Kd.freshB (g := gb422) (o := .cells #[.int .i64 a4_0, .slice A4_1 l4_1.length c4_1] 24 (0, 0)) (by (with_reducible repeat (first | refine blk_drewN ?_ _ | refine blk_drew ?_ | refine blk_alloc ?_ _)); exact BK422.out) k_ hk⟩))
                        (case aO => exact (by (with_reducible repeat (first | apply Kd.N_alloc | apply Kd.N_drewN | apply Kd.N_drew)); exact HO432.out))
                        (case aS => exact (below_size (by repeat (first | (with_reducible first | exact HB.out | apply below_alloc | apply pw_below_drewN | apply below_drew1 | refine below_set ?_ GE421.out | refine below_set ?_ GE422.out) | exact HB.out))))
                        (case aL => have := LMc34.out; omega)
                        intro v434 w46 ho hb hg hat
                        rw [← Ny433.out] at ho
                        have n0_ := Aside0.mk (Kd.V_afterv (ok := (fun k_ => ((P3_ k_ ∨ P4_1_ k_) ∨ w.heap.size ≤ k_) ∧ k_ ≠ gb421 ∧ k_ ≠ gb422)) (by (with_reducible repeat (first | apply Kd.V_alloc | apply Kd.V_drewN | apply Kd.V_drew)); exact HO_3.out) hg hat)
                        have n1_ := Aside0.mk (Kd.V_afterv (ok := (fun k_ => ((P3_ k_ ∨ P4_1_ k_) ∨ w.heap.size ≤ k_) ∧ k_ ≠ gb421 ∧ k_ ≠ gb422)) (by (with_reducible repeat (first | apply Kd.V_alloc | apply Kd.V_drewN | apply Kd.V_drew)); exact HO_423001.out) hg hat)
                        have n2_ := Aside0.mk (blk_grown (g := gb421) (o := .cells #[.int .i64 a0_0, .slice A0_1 l0_1.length c0_1] 24 (0, 0)) (by (with_reducible repeat (first | refine blk_drewN ?_ _ | refine blk_drew ?_ | refine blk_alloc ?_ _)); exact BK421.out) hg (Kd.N_away HO432.out (fun _ hk => hk.2.1)))
                        have n3_ := Aside0.mk (blk_grown (g := gb422) (o := .cells #[.int .i64 a4_0, .slice A4_1 l4_1.length c4_1] 24 (0, 0)) (by (with_reducible repeat (first | refine blk_drewN ?_ _ | refine blk_drew ?_ | refine blk_alloc ?_ _)); exact BK422.out) hg (Kd.N_away HO432.out (fun _ hk => hk.2.2)))
                        have n4_ := Aside0.mk (hb)
                        have n5_ := Aside0.mk (ho)
                        clear HO_3
                        clear HO_423001
                        clear BK421
                        clear BK422
                        clear HB
                        clear HO432
                        have HO_3 := n0_
                        have HO_423001 := n1_
                        have BK421 := n2_
                        have BK422 := n3_
                        have HB := n4_
                        have HO435 := n5_
                        clear n0_ n1_ n2_ n3_ n4_ n5_
                        clear ho hb hg hat
                        refine hK.out _ _ ⟨(blk_cell BK421.out 0).trans rfl, (blk_cell BK421.out 1).trans rfl, (blk_cell BK422.out 0).trans rfl, (blk_cell BK422.out 1).trans rfl⟩ (fun hHeld => ?_)
                        clear hK K
                        refine norm_ (a' := ?_) ?_ ?_
                        rotate_left
                        · show Act.put _ (some 54) _ = _
                          simp only [Act.put, List.setIfInBounds_toArray, List.set_cons_zero, List.set_cons_succ, i64_w, i32_w]
                          rfl
                        refine one_ (i := 7) (N := some 56) #[true, true, true, true, true, true, true, true, false, false, false, false, false, false, false] rfl rfl (one_of HT_.out (by kernel_rfl)) (by decide) (fun K hK => ?_)
                        refine Kd.N_lit_step k24 _ 24 ?hg (N' := 56) ?hd (xs := ([(⟨a4_0, l4_1⟩ : S24)] : List (S24))) (inner := [.int .i64 a4_0, .slice A4_1 l4_1.length c4_1]) (ok := (fun k_ => ((P3_ k_ ∨ P4_1_ k_) ∨ w.heap.size ≤ k_) ∧ some k_ ≠ (v434 : Value).ownBlock ∧ k_ ≠ gb421 ∧ k_ ≠ gb422)) (okp := (fun k_ => ((P3_ k_ ∨ P4_1_ k_) ∨ w.heap.size ≤ k_) ∧ some k_ ≠ (v434 : Value).ownBlock ∧ k_ ≠ gb421 ∧ k_ ≠ gb422)) ?hr ?hp (fun _ hk => hk) ((show ∀ k_, w46.heap.size ≤ k_ → (fun k_ => ((P3_ k_ ∨ P4_1_ k_) ∨ w.heap.size ≤ k_) ∧ some k_ ≠ (v434 : Value).ownBlock ∧ k_ ≠ gb421 ∧ k_ ≠ gb422) k_ from fun k_ hk => ⟨(.inr (Nat.le_trans (below_size (by repeat (first | (with_reducible first | exact HB.out | apply below_alloc | apply pw_below_drewN | apply below_drew1 | refine below_set ?_ GE421.out | refine below_set ?_ GE422.out) | exact HB.out))) hk)), Kd.fresh' (Kd.N_lt (by (with_reducible repeat (first | apply Kd.N_alloc | apply Kd.N_drewN | apply Kd.N_drew)); exact HO435.out)) k_ hk, Kd.freshB (g := gb421) (o := .cells #[.int .i64 a0_0, .slice A0_1 l0_1.length c0_1] 24 (0, 0)) (by (with_reducible repeat (first | refine blk_drewN ?_ _ | refine blk_drew ?_ | refine blk_alloc ?_ _)); exact BK421.out) k_ hk, Kd.freshB (g := gb422) (o := .cells #[.int .i64 a4_0, .slice A4_1 l4_1.length c4_1] 24 (0, 0)) (by (with_reducible repeat (first | refine blk_drewN ?_ _ | refine blk_drew ?_ | refine blk_alloc ?_ _)); exact BK422.out) k_ hk⟩) _ (Nat.le_refl _)) (Below.refl _ _) (Nat.le_refl _) (by simp) ?_; (case hd => rfl); (case hg => rfl); (case hr => first | (go_simp; done) | (go_simp; rfl)); (case hp => exact (Reps.c2 (show Kd.FK k24 _ _ (⟨a4_0, l4_1⟩ : S24) [.int .i64 a4_0, .slice A4_1 l4_1.length c4_1] from (k24_mkF _ _ (⟨a4_0, l4_1⟩ : S24) (Kd.V_reads' (Kd.V_mono (ok' := (fun k_ => ((P3_ k_ ∨ P4_1_ k_) ∨ w.heap.size ≤ k_) ∧ some k_ ≠ (v434 : Value).ownBlock ∧ k_ ≠ gb421 ∧ k_ ≠ gb422)) (HO_423001.out) (fun k_ hk => ⟨hk.1.1, ⟨hk.2, ⟨hk.1.2.1, hk.1.2.2⟩⟩⟩))).2.1 (Kd.V_F (Kd.V_mono (ok' := (fun k_ => ((P3_ k_ ∨ P4_1_ k_) ∨ w.heap.size ≤ k_) ∧ some k_ ≠ (v434 : Value).ownBlock ∧ k_ ≠ gb421 ∧ k_ ≠ gb422)) (HO_423001.out) (fun k_ hk => ⟨hk.1.1, ⟨hk.2, ⟨hk.1.2.1, hk.1.2.2⟩⟩⟩))))) (Reps.none _ _)))
                        intro v437 w47 ho48 hb hg_ hnew_
                        clear hg_ hnew_
                        (first | rw [← Ny436.out] at ho48 | (simp only [Int.reduceToNat] at ho48; rw [← Ny436.out] at ho48))
                        have n0_ := Aside0.mk (Kd.V_elder' (by (with_reducible repeat (first | apply Kd.V_alloc | apply Kd.V_drewN | apply Kd.V_drew)); exact HO_3.out) (Kd.N_base ho48) hb)
                        have n1_ := Aside0.mk (Kd.V_elder' (by (with_reducible repeat (first | apply Kd.V_alloc | apply Kd.V_drewN | apply Kd.V_drew)); exact HO_423001.out) (Kd.N_base ho48) hb)
                        have n2_ := Aside0.mk (Kd.N_elder' (by (with_reducible repeat (first | apply Kd.N_alloc | apply Kd.N_drewN | apply Kd.N_drew)); exact HO435.out) (Kd.N_base ho48) hb)
                        have n3_ := Aside0.mk (Kd.N_lower ho48 (below_size (by repeat (first | (with_reducible first | exact HB.out | apply below_alloc | apply pw_below_drewN | apply below_drew1 | refine below_set ?_ GE421.out | refine below_set ?_ GE422.out) | exact HB.out))))
                        have n4_ := Aside0.mk (blk_below (g := gb421) (o := .cells #[.int .i64 a0_0, .slice A0_1 l0_1.length c0_1] 24 (0, 0)) (by (with_reducible repeat (first | refine blk_drewN ?_ _ | refine blk_drew ?_ | refine blk_alloc ?_ _)); exact BK421.out) hb)
                        have n5_ := Aside0.mk (blk_below (g := gb422) (o := .cells #[.int .i64 a4_0, .slice A4_1 l4_1.length c4_1] 24 (0, 0)) (by (with_reducible repeat (first | refine blk_drewN ?_ _ | refine blk_drew ?_ | refine blk_alloc ?_ _)); exact BK422.out) hb)
                        have n6_ := Aside0.mk (below_step (by repeat (first | (with_reducible first | exact HB.out | apply below_alloc | apply pw_below_drewN | apply below_drew1 | refine below_set ?_ GE421.out | refine below_set ?_ GE422.out) | exact HB.out)) hb)
                        clear HO_3
                        clear HO_423001
                        clear HO435
                        clear BK421
                        clear BK422
                        clear HB
                        have HO_3 := n0_
                        have HO_423001 := n1_
                        have HO435 := n2_
                        have HO438 := n3_
                        have BK421 := n4_
                        have BK422 := n5_
                        have HB := n6_
                        clear n0_ n1_ n2_ n3_ n4_ n5_ n6_
                        clear hb ho48
                        refine hK.out _ _ ⟨(blk_cell BK421.out 0).trans rfl, (blk_cell BK421.out 1).trans rfl, (blk_cell BK422.out 0).trans rfl, (blk_cell BK422.out 1).trans rfl⟩ (fun hHeld => ?_)
                        clear hK K
                        refine norm_ (a' := ?_) ?_ ?_
                        rotate_left
                        · show Act.put _ (some 56) _ = _
                          simp only [Act.put, List.setIfInBounds_toArray, List.set_cons_zero, List.set_cons_succ, i64_w, i32_w]
                          rfl
                        exact norm_ (by simp only [putAll, Act.put, List.setIfInBounds_toArray, List.set_cons_zero, List.set_cons_succ]) (hCont (v431, v434, v437) _ ⟨hHeld, (by (with_reducible repeat (first | apply Kd.N_alloc | apply Kd.N_drewN | apply Kd.N_drew)); exact Kd.N_mono HO435.out (fun _ hk => ⟨hk.1.1, ⟨hk.2, ⟨hk.1.2.1, hk.1.2.2⟩⟩⟩)), (by (with_reducible repeat (first | apply Kd.N_alloc | apply Kd.N_drewN | apply Kd.N_drew)); exact HO438.out), (by (with_reducible repeat (first | apply Kd.V_alloc | apply Kd.V_drewN | apply Kd.V_drew)); exact Kd.V_mono HO_3.out (fun _ hk => ⟨hk.1.1.1, ⟨hk.1.2, ⟨hk.2, ⟨hk.1.1.2.1, hk.1.1.2.2⟩⟩⟩⟩)), (by (with_reducible repeat (first | apply Kd.V_alloc | apply Kd.V_drewN | apply Kd.V_drew)); exact Kd.V_mono HO_423001.out (fun _ hk => ⟨hk.1.1.1, ⟨hk.1.2, ⟨hk.2, ⟨hk.1.1.2.1, hk.1.1.2.2⟩⟩⟩⟩)), (by (with_reducible repeat (first | refine blk_drewN ?_ _ | refine blk_drew ?_ | refine blk_alloc ?_ _)); exact BK421.out), (by (with_reducible repeat (first | refine blk_drewN ?_ _ | refine blk_drew ?_ | refine blk_alloc ?_ _)); exact BK422.out), (by repeat (first | (with_reducible first | exact HB.out | apply below_alloc | apply pw_below_drewN | apply below_drew1 | refine below_set ?_ GE421.out | refine below_set ?_ GE422.out) | exact HB.out))⟩)
                      · skip
                        refine Kd.N_lit_step k24 _ 24 ?hg (N' := 56) ?hd (xs := ([(⟨a4_0, l4_1⟩ : S24)] : List (S24))) (inner := [.int .i64 a4_0, .slice A4_1 l4_1.length c4_1]) (ok := (fun k_ => ((P3_ k_ ∨ P4_1_ k_) ∨ w.heap.size ≤ k_) ∧ some k_ ≠ (v431 : Value).ownBlock ∧ k_ ≠ gb421 ∧ k_ ≠ gb422)) (okp := (fun k_ => ((P3_ k_ ∨ P4_1_ k_) ∨ w.heap.size ≤ k_) ∧ some k_ ≠ (v431 : Value).ownBlock ∧ k_ ≠ gb421 ∧ k_ ≠ gb422)) ?hr ?hp (fun _ hk => hk) ((show ∀ k_, w44.heap.size ≤ k_ → (fun k_ => ((P3_ k_ ∨ P4_1_ k_) ∨ w.heap.size ≤ k_) ∧ some k_ ≠ (v431 : Value).ownBlock ∧ k_ ≠ gb421 ∧ k_ ≠ gb422) k_ from fun k_ hk => ⟨(.inr (Nat.le_trans (below_size (by repeat (first | (with_reducible first | exact HB.out | apply below_alloc | apply pw_below_drewN | apply below_drew1 | refine below_set ?_ GE421.out | refine below_set ?_ GE422.out) | exact HB.out))) hk)), Kd.fresh' (Kd.N_lt (by (with_reducible repeat (first | apply Kd.N_alloc | apply Kd.N_drewN | apply Kd.N_drew)); exact HO432.out)) k_ hk, Kd.freshB (g := gb421) (o := .cells #[.int .i64 a0_0, .slice A0_1 l0_1.length c0_1] 24 (0, 0)) (by (with_reducible repeat (first | refine blk_drewN ?_ _ | refine blk_drew ?_ | refine blk_alloc ?_ _)); exact BK421.out) k_ hk, Kd.freshB (g := gb422) (o := .cells #[.int .i64 a4_0, .slice A4_1 l4_1.length c4_1] 24 (0, 0)) (by (with_reducible repeat (first | refine blk_drewN ?_ _ | refine blk_drew ?_ | refine blk_alloc ?_ _)); exact BK422.out) k_ hk⟩) _ (Nat.le_refl _)) (Below.refl _ _) (Nat.le_refl _) (by simp) ?_; (case hd => rfl); (case hg => rfl); (case hr => first | (go_simp; done) | (go_simp; rfl)); (case hp => exact (Reps.c2 (show Kd.FK k24 _ _ (⟨a4_0, l4_1⟩ : S24) [.int .i64 a4_0, .slice A4_1 l4_1.length c4_1] from (k24_mkF _ _ (⟨a4_0, l4_1⟩ : S24) (Kd.V_reads' (Kd.V_mono (ok' := (fun k_ => ((P3_ k_ ∨ P4_1_ k_) ∨ w.heap.size ≤ k_) ∧ some k_ ≠ (v431 : Value).ownBlock ∧ k_ ≠ gb421 ∧ k_ ≠ gb422)) (HO_423001.out) (fun k_ hk => ⟨hk.1.1, ⟨hk.2, ⟨hk.1.2.1, hk.1.2.2⟩⟩⟩))).2.1 (Kd.V_F (Kd.V_mono (ok' := (fun k_ => ((P3_ k_ ∨ P4_1_ k_) ∨ w.heap.size ≤ k_) ∧ some k_ ≠ (v431 : Value).ownBlock ∧ k_ ≠ gb421 ∧ k_ ≠ gb422)) (HO_423001.out) (fun k_ hk => ⟨hk.1.1, ⟨hk.2, ⟨hk.1.2.1, hk.1.2.2⟩⟩⟩))))) (Reps.none _ _)))
                        intro v437 w46 ho47 hb hg_ hnew_
                        clear hg_ hnew_
                        (first | rw [← Ny436.out] at ho47 | (simp only [Int.reduceToNat] at ho47; rw [← Ny436.out] at ho47))
                        have n0_ := Aside0.mk (Kd.V_elder' (by (with_reducible repeat (first | apply Kd.V_alloc | apply Kd.V_drewN | apply Kd.V_drew)); exact HO_3.out) (Kd.N_base ho47) hb)
                        have n1_ := Aside0.mk (Kd.V_elder' (by (with_reducible repeat (first | apply Kd.V_alloc | apply Kd.V_drewN | apply Kd.V_drew)); exact HO_423001.out) (Kd.N_base ho47) hb)
                        have n2_ := Aside0.mk (Kd.N_elder' (by (with_reducible repeat (first | apply Kd.N_alloc | apply Kd.N_drewN | apply Kd.N_drew)); exact HO432.out) (Kd.N_base ho47) hb)
                        have n3_ := Aside0.mk (Kd.N_lower ho47 (below_size (by repeat (first | (with_reducible first | exact HB.out | apply below_alloc | apply pw_below_drewN | apply below_drew1 | refine below_set ?_ GE421.out | refine below_set ?_ GE422.out) | exact HB.out))))
                        have n4_ := Aside0.mk (blk_below (g := gb421) (o := .cells #[.int .i64 a0_0, .slice A0_1 l0_1.length c0_1] 24 (0, 0)) (by (with_reducible repeat (first | refine blk_drewN ?_ _ | refine blk_drew ?_ | refine blk_alloc ?_ _)); exact BK421.out) hb)
                        have n5_ := Aside0.mk (blk_below (g := gb422) (o := .cells #[.int .i64 a4_0, .slice A4_1 l4_1.length c4_1] 24 (0, 0)) (by (with_reducible repeat (first | refine blk_drewN ?_ _ | refine blk_drew ?_ | refine blk_alloc ?_ _)); exact BK422.out) hb)
                        have n6_ := Aside0.mk (below_step (by repeat (first | (with_reducible first | exact HB.out | apply below_alloc | apply pw_below_drewN | apply below_drew1 | refine below_set ?_ GE421.out | refine below_set ?_ GE422.out) | exact HB.out)) hb)
                        clear HO_3
                        clear HO_423001
                        clear HO432
                        clear BK421
                        clear BK422
                        clear HB
                        have HO_3 := n0_
                        have HO_423001 := n1_
                        have HO432 := n2_
                        have HO438 := n3_
                        have BK421 := n4_
                        have BK422 := n5_
                        have HB := n6_
                        clear n0_ n1_ n2_ n3_ n4_ n5_ n6_
                        clear hb ho47
                        refine hK.out _ _ ⟨(blk_cell BK421.out 0).trans rfl, (blk_cell BK421.out 1).trans rfl, (blk_cell BK422.out 0).trans rfl, (blk_cell BK422.out 1).trans rfl⟩ (fun hHeld => ?_)
                        clear hK K
                        refine norm_ (a' := ?_) ?_ ?_
                        rotate_left
                        · show Act.put _ (some 56) _ = _
                          simp only [Act.put, List.setIfInBounds_toArray, List.set_cons_zero, List.set_cons_succ, i64_w, i32_w]
                          rfl
                        refine one_ (i := 5) (N := some 54) #[true, true, true, true, true, true, true, true, false, false, false, false, false, false, false] rfl rfl (one_of HT_.out (by kernel_rfl)) (by decide) (fun K hK => ?_)
                        refine Kd.N_append_rows_step k24 (w0 := w) w.heap.size (by rfl) (.tmp 52) (.tmp 53) 27 24 (.agg #[(.int .i64 0), (.slice none 0 0)]) 32 rfl Try.underlying27 info24 rfl (by decide) (by omega) v431 y430 l3 _ _ _ (fun k_ => ((P3_ k_ ∨ P4_1_ k_) ∨ w.heap.size ≤ k_) ∧ some k_ ≠ (v437 : Value).ownBlock ∧ k_ ≠ gb421 ∧ k_ ≠ gb422) (fun k_ => ((fun k_ => ((P3_ k_ ∨ P4_1_ k_) ∨ w.heap.size ≤ k_) ∧ some k_ ≠ (v437 : Value).ownBlock ∧ k_ ≠ gb421 ∧ k_ ≠ gb422)) k_ ∧ some k_ ≠ (v431 : Value).ownBlock) rfl rfl ?aO ?aR (fun _ hk => hk) ?aF ?aB ?aS ?aL ?_
                        (case aR => exact (by skip; exact Kd.V_F (Kd.V_mono (ok' := (fun k_ => ((fun k_ => ((P3_ k_ ∨ P4_1_ k_) ∨ w.heap.size ≤ k_) ∧ some k_ ≠ (v437 : Value).ownBlock ∧ k_ ≠ gb421 ∧ k_ ≠ gb422)) k_ ∧ some k_ ≠ (v431 : Value).ownBlock)) (HO_3.out) (fun k_ hk => ⟨⟨hk.1.1.1, ⟨hk.2, ⟨hk.1.1.2.1, hk.1.1.2.2⟩⟩⟩, hk.1.2⟩))))
                        (case aB => exact (by repeat (first | (with_reducible first | exact HB.out | apply below_alloc | apply pw_below_drewN | apply below_drew1 | refine below_set ?_ GE421.out | refine below_set ?_ GE422.out) | exact HB.out)))
                        (case aF => exact (fun k_ hk => ⟨(.inr (Nat.le_trans (below_size (by repeat (first | (with_reducible first | exact HB.out | apply below_alloc | apply pw_below_drewN | apply below_drew1 | refine below_set ?_ GE421.out | refine below_set ?_ GE422.out) | exact HB.out))) hk)), Kd.fresh' (Kd.N_lt (by (with_reducible repeat (first | apply Kd.N_alloc | apply Kd.N_drewN | apply Kd.N_drew)); exact HO438.out)) k_ hk, Kd.freshB (g := gb421) (o := .cells #[.int .i64 a0_0, .slice A0_1 l0_1.length c0_1] 24 (0, 0)) (by (with_reducible repeat (first | refine blk_drewN ?_ _ | refine blk_drew ?_ | refine blk_alloc ?_ _)); exact BK421.out) k_ hk, Kd.freshB (g := gb422) (o := .cells #[.int .i64 a4_0, .slice A4_1 l4_1.length c4_1] 24 (0, 0)) (by (with_reducible repeat (first | refine blk_drewN ?_ _ | refine blk_drew ?_ | refine blk_alloc ?_ _)); exact BK422.out) k_ hk⟩))
                        (case aO => exact (by (with_reducible repeat (first | apply Kd.N_alloc | apply Kd.N_drewN | apply Kd.N_drew)); exact Kd.N_mono HO432.out (fun _ hk => ⟨hk.1.1, ⟨hk.2, ⟨hk.1.2.1, hk.1.2.2⟩⟩⟩)))
                        (case aS => exact (below_size (by repeat (first | (with_reducible first | exact HB.out | apply below_alloc | apply pw_below_drewN | apply below_drew1 | refine below_set ?_ GE421.out | refine below_set ?_ GE422.out) | exact HB.out))))
                        (case aL => have := LMc34.out; omega)
                        intro v434 w48 ho hb hg hat
                        rw [← Ny433.out] at ho
                        have n0_ := Aside0.mk (Kd.V_afterv (ok := (fun k_ => ((P3_ k_ ∨ P4_1_ k_) ∨ w.heap.size ≤ k_) ∧ some k_ ≠ (v437 : Value).ownBlock ∧ k_ ≠ gb421 ∧ k_ ≠ gb422)) (by (with_reducible repeat (first | apply Kd.V_alloc | apply Kd.V_drewN | apply Kd.V_drew)); exact Kd.V_mono HO_3.out (fun _ hk => ⟨⟨hk.1.1.1, ⟨hk.2, ⟨hk.1.1.2.1, hk.1.1.2.2⟩⟩⟩, hk.1.2⟩)) hg hat)
                        have n1_ := Aside0.mk (Kd.V_afterv (ok := (fun k_ => ((P3_ k_ ∨ P4_1_ k_) ∨ w.heap.size ≤ k_) ∧ some k_ ≠ (v437 : Value).ownBlock ∧ k_ ≠ gb421 ∧ k_ ≠ gb422)) (by (with_reducible repeat (first | apply Kd.V_alloc | apply Kd.V_drewN | apply Kd.V_drew)); exact Kd.V_mono HO_423001.out (fun _ hk => ⟨⟨hk.1.1.1, ⟨hk.2, ⟨hk.1.1.2.1, hk.1.1.2.2⟩⟩⟩, hk.1.2⟩)) hg hat)
                        have n2_ := Aside0.mk (blk_grown (g := gb421) (o := .cells #[.int .i64 a0_0, .slice A0_1 l0_1.length c0_1] 24 (0, 0)) (by (with_reducible repeat (first | refine blk_drewN ?_ _ | refine blk_drew ?_ | refine blk_alloc ?_ _)); exact BK421.out) hg (Kd.N_away HO432.out (fun _ hk => hk.1.2.1)))
                        have n3_ := Aside0.mk (blk_grown (g := gb422) (o := .cells #[.int .i64 a4_0, .slice A4_1 l4_1.length c4_1] 24 (0, 0)) (by (with_reducible repeat (first | refine blk_drewN ?_ _ | refine blk_drew ?_ | refine blk_alloc ?_ _)); exact BK422.out) hg (Kd.N_away HO432.out (fun _ hk => hk.1.2.2)))
                        have n4_ := Aside0.mk (Kd.N_afterv (ok := (fun k_ => ((P3_ k_ ∨ P4_1_ k_) ∨ w.heap.size ≤ k_) ∧ k_ ≠ gb421 ∧ k_ ≠ gb422)) (by (with_reducible repeat (first | apply Kd.N_alloc | apply Kd.N_drewN | apply Kd.N_drew)); exact Kd.N_mono HO438.out (fun _ hk => ⟨⟨hk.1, ⟨hk.2.2.1, hk.2.2.2⟩⟩, hk.2.1⟩)) hg hat)
                        have n5_ := Aside0.mk (hb)
                        have n6_ := Aside0.mk (ho)
                        clear HO_3
                        clear HO_423001
                        clear BK421
                        clear BK422
                        clear HO438
                        clear HB
                        clear HO432
                        have HO_3 := n0_
                        have HO_423001 := n1_
                        have BK421 := n2_
                        have BK422 := n3_
                        have HO438 := n4_
                        have HB := n5_
                        have HO435 := n6_
                        clear n0_ n1_ n2_ n3_ n4_ n5_ n6_
                        clear ho hb hg hat
                        refine hK.out _ _ ⟨(blk_cell BK421.out 0).trans rfl, (blk_cell BK421.out 1).trans rfl, (blk_cell BK422.out 0).trans rfl, (blk_cell BK422.out 1).trans rfl⟩ (fun hHeld => ?_)
                        clear hK K
                        refine norm_ (a' := ?_) ?_ ?_
                        rotate_left
                        · show Act.put _ (some 54) _ = _
                          simp only [Act.put, List.setIfInBounds_toArray, List.set_cons_zero, List.set_cons_succ, i64_w, i32_w]
                          rfl
                        exact norm_ (by simp only [putAll, Act.put, List.setIfInBounds_toArray, List.set_cons_zero, List.set_cons_succ]) (hCont (v431, v434, v437) _ ⟨hHeld, (by (with_reducible repeat (first | apply Kd.N_alloc | apply Kd.N_drewN | apply Kd.N_drew)); exact HO435.out), (by (with_reducible repeat (first | apply Kd.N_alloc | apply Kd.N_drewN | apply Kd.N_drew)); exact Kd.N_mono HO438.out (fun _ hk => ⟨hk.1.1, ⟨hk.2, ⟨hk.1.2.1, hk.1.2.2⟩⟩⟩)), (by (with_reducible repeat (first | apply Kd.V_alloc | apply Kd.V_drewN | apply Kd.V_drew)); exact Kd.V_mono HO_3.out (fun _ hk => ⟨hk.1.1, ⟨hk.2, ⟨hk.1.2.1, ⟨hk.1.2.2.1, hk.1.2.2.2⟩⟩⟩⟩)), (by (with_reducible repeat (first | apply Kd.V_alloc | apply Kd.V_drewN | apply Kd.V_drew)); exact Kd.V_mono HO_423001.out (fun _ hk => ⟨hk.1.1, ⟨hk.2, ⟨hk.1.2.1, ⟨hk.1.2.2.1, hk.1.2.2.2⟩⟩⟩⟩)), (by (with_reducible repeat (first | refine blk_drewN ?_ _ | refine blk_drew ?_ | refine blk_alloc ?_ _)); exact BK421.out), (by (with_reducible repeat (first | refine blk_drewN ?_ _ | refine blk_drew ?_ | refine blk_alloc ?_ _)); exact BK422.out), (by repeat (first | (with_reducible first | exact HB.out | apply below_alloc | apply pw_below_drewN | apply below_drew1 | refine below_set ?_ GE421.out | refine below_set ?_ GE422.out) | exact HB.out))⟩)
                    · skip
                      refine Kd.N_lit_step k24 _ 24 ?hg (N' := 56) ?hd (xs := ([(⟨a4_0, l4_1⟩ : S24)] : List (S24))) (inner := [.int .i64 a4_0, .slice A4_1 l4_1.length c4_1]) (ok := (fun k_ => ((P3_ k_ ∨ P4_1_ k_) ∨ w.heap.size ≤ k_) ∧ k_ ≠ gb421 ∧ k_ ≠ gb422)) (okp := (fun k_ => ((P3_ k_ ∨ P4_1_ k_) ∨ w.heap.size ≤ k_) ∧ k_ ≠ gb421 ∧ k_ ≠ gb422)) ?hr ?hp (fun _ hk => hk) ((show ∀ k_, w43.heap.size ≤ k_ → (fun k_ => ((P3_ k_ ∨ P4_1_ k_) ∨ w.heap.size ≤ k_) ∧ k_ ≠ gb421 ∧ k_ ≠ gb422) k_ from fun k_ hk => ⟨(.inr (Nat.le_trans (below_size (by repeat (first | (with_reducible first | exact HB.out | apply below_alloc | apply pw_below_drewN | apply below_drew1 | refine below_set ?_ GE421.out | refine below_set ?_ GE422.out) | exact HB.out))) hk)), Kd.freshB (g := gb421) (o := .cells #[.int .i64 a0_0, .slice A0_1 l0_1.length c0_1] 24 (0, 0)) (by (with_reducible repeat (first | refine blk_drewN ?_ _ | refine blk_drew ?_ | refine blk_alloc ?_ _)); exact BK421.out) k_ hk, Kd.freshB (g := gb422) (o := .cells #[.int .i64 a4_0, .slice A4_1 l4_1.length c4_1] 24 (0, 0)) (by (with_reducible repeat (first | refine blk_drewN ?_ _ | refine blk_drew ?_ | refine blk_alloc ?_ _)); exact BK422.out) k_ hk⟩) _ (Nat.le_refl _)) (Below.refl _ _) (Nat.le_refl _) (by simp) ?_; (case hd => rfl); (case hg => rfl); (case hr => first | (go_simp; done) | (go_simp; rfl)); (case hp => exact (Reps.c2 (show Kd.FK k24 _ _ (⟨a4_0, l4_1⟩ : S24) [.int .i64 a4_0, .slice A4_1 l4_1.length c4_1] from (k24_mkF _ _ (⟨a4_0, l4_1⟩ : S24) (Kd.V_reads' (Kd.V_mono (ok' := (fun k_ => ((P3_ k_ ∨ P4_1_ k_) ∨ w.heap.size ≤ k_) ∧ k_ ≠ gb421 ∧ k_ ≠ gb422)) (HO_423001.out) (fun k_ hk => ⟨hk.1, ⟨hk.2.1, hk.2.2⟩⟩))).2.1 (Kd.V_F (Kd.V_mono (ok' := (fun k_ => ((P3_ k_ ∨ P4_1_ k_) ∨ w.heap.size ≤ k_) ∧ k_ ≠ gb421 ∧ k_ ≠ gb422)) (HO_423001.out) (fun k_ hk => ⟨hk.1, ⟨hk.2.1, hk.2.2⟩⟩))))) (Reps.none _ _)))
                      intro v437 w44 ho45 hb hg_ hnew_
                      clear hg_ hnew_
                      (first | rw [← Ny436.out] at ho45 | (simp only [Int.reduceToNat] at ho45; rw [← Ny436.out] at ho45))
                      have n0_ := Aside0.mk (Kd.V_elder' (by (with_reducible repeat (first | apply Kd.V_alloc | apply Kd.V_drewN | apply Kd.V_drew)); exact HO_3.out) (Kd.N_base ho45) hb)
                      have n1_ := Aside0.mk (Kd.V_elder' (by (with_reducible repeat (first | apply Kd.V_alloc | apply Kd.V_drewN | apply Kd.V_drew)); exact HO_423001.out) (Kd.N_base ho45) hb)
                      have n2_ := Aside0.mk (Kd.N_lower ho45 (below_size (by repeat (first | (with_reducible first | exact HB.out | apply below_alloc | apply pw_below_drewN | apply below_drew1 | refine below_set ?_ GE421.out | refine below_set ?_ GE422.out) | exact HB.out))))
                      have n3_ := Aside0.mk (blk_below (g := gb421) (o := .cells #[.int .i64 a0_0, .slice A0_1 l0_1.length c0_1] 24 (0, 0)) (by (with_reducible repeat (first | refine blk_drewN ?_ _ | refine blk_drew ?_ | refine blk_alloc ?_ _)); exact BK421.out) hb)
                      have n4_ := Aside0.mk (blk_below (g := gb422) (o := .cells #[.int .i64 a4_0, .slice A4_1 l4_1.length c4_1] 24 (0, 0)) (by (with_reducible repeat (first | refine blk_drewN ?_ _ | refine blk_drew ?_ | refine blk_alloc ?_ _)); exact BK422.out) hb)
                      have n5_ := Aside0.mk (below_step (by repeat (first | (with_reducible first | exact HB.out | apply below_alloc | apply pw_below_drewN | apply below_drew1 | refine below_set ?_ GE421.out | refine below_set ?_ GE422.out) | exact HB.out)) hb)
                      clear HO_3
                      clear HO_423001
                      clear BK421
                      clear BK422
                      clear HB
                      have HO_3 := n0_
                      have HO_423001 := n1_
                      have HO438 := n2_
                      have BK421 := n3_
                      have BK422 := n4_
                      have HB := n5_
                      clear n0_ n1_ n2_ n3_ n4_ n5_
                      clear hb ho45
                      refine hK.out _ _ ⟨(blk_cell BK421.out 0).trans rfl, (blk_cell BK421.out 1).trans rfl, (blk_cell BK422.out 0).trans rfl, (blk_cell BK422.out 1).trans rfl⟩ (fun hHeld => ?_)
                      clear hK K
                      refine norm_ (a' := ?_) ?_ ?_
                      rotate_left
                      · show Act.put _ (some 56) _ = _
                        simp only [Act.put, List.setIfInBounds_toArray, List.set_cons_zero, List.set_cons_succ, i64_w, i32_w]
                        rfl
                      refine one_ (i := 3) (N := some 52) #[true, true, true, true, true, false, true, true, false, false, false, false, false, false, false] rfl rfl (one_of HT_.out (by kernel_rfl)) (by decide) (fun K hK => ?_)
                      refine Kd.N_lit_step k24 _ 24 ?hg (N' := 52) ?hd (xs := ([] : List (S24))) (inner := []) (ok := (fun k_ => ((P3_ k_ ∨ P4_1_ k_) ∨ w.heap.size ≤ k_) ∧ some k_ ≠ (v437 : Value).ownBlock ∧ k_ ≠ gb421 ∧ k_ ≠ gb422)) (okp := (fun k_ => ((P3_ k_ ∨ P4_1_ k_) ∨ w.heap.size ≤ k_) ∧ some k_ ≠ (v437 : Value).ownBlock ∧ k_ ≠ gb421 ∧ k_ ≠ gb422)) ?hr ?hp (fun _ hk => hk) ((show ∀ k_, w44.heap.size ≤ k_ → (fun k_ => ((P3_ k_ ∨ P4_1_ k_) ∨ w.heap.size ≤ k_) ∧ some k_ ≠ (v437 : Value).ownBlock ∧ k_ ≠ gb421 ∧ k_ ≠ gb422) k_ from fun k_ hk => ⟨(.inr (Nat.le_trans (below_size (by repeat (first | (with_reducible first | exact HB.out | apply below_alloc | apply pw_below_drewN | apply below_drew1 | refine below_set ?_ GE421.out | refine below_set ?_ GE422.out) | exact HB.out))) hk)), Kd.fresh' (Kd.N_lt (by (with_reducible repeat (first | apply Kd.N_alloc | apply Kd.N_drewN | apply Kd.N_drew)); exact HO438.out)) k_ hk, Kd.freshB (g := gb421) (o := .cells #[.int .i64 a0_0, .slice A0_1 l0_1.length c0_1] 24 (0, 0)) (by (with_reducible repeat (first | refine blk_drewN ?_ _ | refine blk_drew ?_ | refine blk_alloc ?_ _)); exact BK421.out) k_ hk, Kd.freshB (g := gb422) (o := .cells #[.int .i64 a4_0, .slice A4_1 l4_1.length c4_1] 24 (0, 0)) (by (with_reducible repeat (first | refine blk_drewN ?_ _ | refine blk_drew ?_ | refine blk_alloc ?_ _)); exact BK422.out) k_ hk⟩) _ (Nat.le_refl _)) (Below.refl _ _) (Nat.le_refl _) (by simp) ?_; (case hd => rfl); (case hg => rfl); (case hr => first | (go_simp; done) | (go_simp; rfl)); (case hp => exact (Reps.none _ _))
                      intro v431 w46 ho47 hb hg_ hnew_
                      clear hg_ hnew_
                      (first | rw [← Ny430.out] at ho47 | (simp only [Int.reduceToNat] at ho47; rw [← Ny430.out] at ho47))
                      have n0_ := Aside0.mk (Kd.V_elder' (by (with_reducible repeat (first | apply Kd.V_alloc | apply Kd.V_drewN | apply Kd.V_drew)); exact HO_3.out) (Kd.N_base ho47) hb)
                      have n1_ := Aside0.mk (Kd.V_elder' (by (with_reducible repeat (first | apply Kd.V_alloc | apply Kd.V_drewN | apply Kd.V_drew)); exact HO_423001.out) (Kd.N_base ho47) hb)
                      have n2_ := Aside0.mk (Kd.N_elder' (by (with_reducible repeat (first | apply Kd.N_alloc | apply Kd.N_drewN | apply Kd.N_drew)); exact HO438.out) (Kd.N_base ho47) hb)
                      have n3_ := Aside0.mk (Kd.N_lower ho47 (below_size (by repeat (first | (with_reducible first | exact HB.out | apply below_alloc | apply pw_below_drewN | apply below_drew1 | refine below_set ?_ GE421.out | refine below_set ?_ GE422.out) | exact HB.out))))
                      have n4_ := Aside0.mk (blk_below (g := gb421) (o := .cells #[.int .i64 a0_0, .slice A0_1 l0_1.length c0_1] 24 (0, 0)) (by (with_reducible repeat (first | refine blk_drewN ?_ _ | refine blk_drew ?_ | refine blk_alloc ?_ _)); exact BK421.out) hb)
                      have n5_ := Aside0.mk (blk_below (g := gb422) (o := .cells #[.int .i64 a4_0, .slice A4_1 l4_1.length c4_1] 24 (0, 0)) (by (with_reducible repeat (first | refine blk_drewN ?_ _ | refine blk_drew ?_ | refine blk_alloc ?_ _)); exact BK422.out) hb)
                      have n6_ := Aside0.mk (below_step (by repeat (first | (with_reducible first | exact HB.out | apply below_alloc | apply pw_below_drewN | apply below_drew1 | refine below_set ?_ GE421.out | refine below_set ?_ GE422.out) | exact HB.out)) hb)
                      clear HO_3
                      clear HO_423001
                      clear HO438
                      clear BK421
                      clear BK422
                      clear HB
                      have HO_3 := n0_
                      have HO_423001 := n1_
                      have HO438 := n2_
                      have HO432 := n3_
                      have BK421 := n4_
                      have BK422 := n5_
                      have HB := n6_
                      clear n0_ n1_ n2_ n3_ n4_ n5_ n6_
                      clear hb ho47
                      refine hK.out _ _ ⟨(blk_cell BK421.out 0).trans rfl, (blk_cell BK421.out 1).trans rfl, (blk_cell BK422.out 0).trans rfl, (blk_cell BK422.out 1).trans rfl⟩ (fun hHeld => ?_)
                      clear hK K
                      refine norm_ (a' := ?_) ?_ ?_
                      rotate_left
                      · show Act.put _ (some 52) _ = _
                        simp only [Act.put, List.setIfInBounds_toArray, List.set_cons_zero, List.set_cons_succ, i64_w, i32_w]
                        rfl
                      refine one_ (i := 5) (N := some 54) #[true, true, true, true, true, true, true, true, false, false, false, false, false, false, false] rfl rfl (one_of HT_.out (by kernel_rfl)) (by decide) (fun K hK => ?_)
                      refine Kd.N_append_rows_step k24 (w0 := w) w.heap.size (by rfl) (.tmp 52) (.tmp 53) 27 24 (.agg #[(.int .i64 0), (.slice none 0 0)]) 32 rfl Try.underlying27 info24 rfl (by decide) (by omega) v431 y430 l3 _ _ _ (fun k_ => ((P3_ k_ ∨ P4_1_ k_) ∨ w.heap.size ≤ k_) ∧ some k_ ≠ (v437 : Value).ownBlock ∧ k_ ≠ gb421 ∧ k_ ≠ gb422) (fun k_ => ((fun k_ => ((P3_ k_ ∨ P4_1_ k_) ∨ w.heap.size ≤ k_) ∧ some k_ ≠ (v437 : Value).ownBlock ∧ k_ ≠ gb421 ∧ k_ ≠ gb422)) k_ ∧ some k_ ≠ (v431 : Value).ownBlock) rfl rfl ?aO ?aR (fun _ hk => hk) ?aF ?aB ?aS ?aL ?_
                      (case aR => exact (by skip; exact Kd.V_F (Kd.V_mono (ok' := (fun k_ => ((fun k_ => ((P3_ k_ ∨ P4_1_ k_) ∨ w.heap.size ≤ k_) ∧ some k_ ≠ (v437 : Value).ownBlock ∧ k_ ≠ gb421 ∧ k_ ≠ gb422)) k_ ∧ some k_ ≠ (v431 : Value).ownBlock)) (HO_3.out) (fun k_ hk => ⟨⟨hk.1.1.1, ⟨hk.1.2, ⟨hk.1.1.2.1, hk.1.1.2.2⟩⟩⟩, hk.2⟩))))
                      (case aB => exact (by repeat (first | (with_reducible first | exact HB.out | apply below_alloc | apply pw_below_drewN | apply below_drew1 | refine below_set ?_ GE421.out | refine below_set ?_ GE422.out) | exact HB.out)))
                      (case aF => exact (fun k_ hk => ⟨(.inr (Nat.le_trans (below_size (by repeat (first | (with_reducible first | exact HB.out | apply below_alloc | apply pw_below_drewN | apply below_drew1 | refine below_set ?_ GE421.out | refine below_set ?_ GE422.out) | exact HB.out))) hk)), Kd.fresh' (Kd.N_lt (by (with_reducible repeat (first | apply Kd.N_alloc | apply Kd.N_drewN | apply Kd.N_drew)); exact HO438.out)) k_ hk, Kd.freshB (g := gb421) (o := .cells #[.int .i64 a0_0, .slice A0_1 l0_1.length c0_1] 24 (0, 0)) (by (with_reducible repeat (first | refine blk_drewN ?_ _ | refine blk_drew ?_ | refine blk_alloc ?_ _)); exact BK421.out) k_ hk, Kd.freshB (g := gb422) (o := .cells #[.int .i64 a4_0, .slice A4_1 l4_1.length c4_1] 24 (0, 0)) (by (with_reducible repeat (first | refine blk_drewN ?_ _ | refine blk_drew ?_ | refine blk_alloc ?_ _)); exact BK422.out) k_ hk⟩))
                      (case aO => exact (by (with_reducible repeat (first | apply Kd.N_alloc | apply Kd.N_drewN | apply Kd.N_drew)); exact HO432.out))
                      (case aS => exact (below_size (by repeat (first | (with_reducible first | exact HB.out | apply below_alloc | apply pw_below_drewN | apply below_drew1 | refine below_set ?_ GE421.out | refine below_set ?_ GE422.out) | exact HB.out))))
                      (case aL => have := LMc34.out; omega)
                      intro v434 w48 ho hb hg hat
                      rw [← Ny433.out] at ho
                      have n0_ := Aside0.mk (Kd.V_afterv (ok := (fun k_ => ((P3_ k_ ∨ P4_1_ k_) ∨ w.heap.size ≤ k_) ∧ some k_ ≠ (v437 : Value).ownBlock ∧ k_ ≠ gb421 ∧ k_ ≠ gb422)) (by (with_reducible repeat (first | apply Kd.V_alloc | apply Kd.V_drewN | apply Kd.V_drew)); exact Kd.V_mono HO_3.out (fun _ hk => ⟨⟨hk.1.1.1, ⟨hk.1.2, ⟨hk.1.1.2.1, hk.1.1.2.2⟩⟩⟩, hk.2⟩)) hg hat)
                      have n1_ := Aside0.mk (Kd.V_afterv (ok := (fun k_ => ((P3_ k_ ∨ P4_1_ k_) ∨ w.heap.size ≤ k_) ∧ some k_ ≠ (v437 : Value).ownBlock ∧ k_ ≠ gb421 ∧ k_ ≠ gb422)) (by (with_reducible repeat (first | apply Kd.V_alloc | apply Kd.V_drewN | apply Kd.V_drew)); exact Kd.V_mono HO_423001.out (fun _ hk => ⟨⟨hk.1.1.1, ⟨hk.1.2, ⟨hk.1.1.2.1, hk.1.1.2.2⟩⟩⟩, hk.2⟩)) hg hat)
                      have n2_ := Aside0.mk (blk_grown (g := gb421) (o := .cells #[.int .i64 a0_0, .slice A0_1 l0_1.length c0_1] 24 (0, 0)) (by (with_reducible repeat (first | refine blk_drewN ?_ _ | refine blk_drew ?_ | refine blk_alloc ?_ _)); exact BK421.out) hg (Kd.N_away HO432.out (fun _ hk => hk.2.2.1)))
                      have n3_ := Aside0.mk (blk_grown (g := gb422) (o := .cells #[.int .i64 a4_0, .slice A4_1 l4_1.length c4_1] 24 (0, 0)) (by (with_reducible repeat (first | refine blk_drewN ?_ _ | refine blk_drew ?_ | refine blk_alloc ?_ _)); exact BK422.out) hg (Kd.N_away HO432.out (fun _ hk => hk.2.2.2)))
                      have n4_ := Aside0.mk (Kd.N_afterv (ok := (fun k_ => ((P3_ k_ ∨ P4_1_ k_) ∨ w.heap.size ≤ k_) ∧ k_ ≠ gb421 ∧ k_ ≠ gb422)) (by (with_reducible repeat (first | apply Kd.N_alloc | apply Kd.N_drewN | apply Kd.N_drew)); exact HO438.out) hg hat)
                      have n5_ := Aside0.mk (hb)
                      have n6_ := Aside0.mk (ho)
                      clear HO_3
                      clear HO_423001
                      clear BK421
                      clear BK422
                      clear HO438
                      clear HB
                      clear HO432
                      have HO_3 := n0_
                      have HO_423001 := n1_
                      have BK421 := n2_
                      have BK422 := n3_
                      have HO438 := n4_
                      have HB := n5_
                      have HO435 := n6_
                      clear n0_ n1_ n2_ n3_ n4_ n5_ n6_
                      clear ho hb hg hat
                      refine hK.out _ _ ⟨(blk_cell BK421.out 0).trans rfl, (blk_cell BK421.out 1).trans rfl, (blk_cell BK422.out 0).trans rfl, (blk_cell BK422.out 1).trans rfl⟩ (fun hHeld => ?_)
                      clear hK K
                      refine norm_ (a' := ?_) ?_ ?_
                      rotate_left
                      · show Act.put _ (some 54) _ = _
                        simp only [Act.put, List.setIfInBounds_toArray, List.set_cons_zero, List.set_cons_succ, i64_w, i32_w]
                        rfl
                      exact norm_ (by simp only [putAll, Act.put, List.setIfInBounds_toArray, List.set_cons_zero, List.set_cons_succ]) (hCont (v431, v434, v437) _ ⟨hHeld, (by (with_reducible repeat (first | apply Kd.N_alloc | apply Kd.N_drewN | apply Kd.N_drew)); exact HO435.out), (by (with_reducible repeat (first | apply Kd.N_alloc | apply Kd.N_drewN | apply Kd.N_drew)); exact Kd.N_mono HO438.out (fun _ hk => ⟨hk.1.1, ⟨hk.2, ⟨hk.1.2.1, hk.1.2.2⟩⟩⟩)), (by (with_reducible repeat (first | apply Kd.V_alloc | apply Kd.V_drewN | apply Kd.V_drew)); exact Kd.V_mono HO_3.out (fun _ hk => ⟨hk.1.1, ⟨hk.2, ⟨hk.1.2.1, ⟨hk.1.2.2.1, hk.1.2.2.2⟩⟩⟩⟩)), (by (with_reducible repeat (first | apply Kd.V_alloc | apply Kd.V_drewN | apply Kd.V_drew)); exact Kd.V_mono HO_423001.out (fun _ hk => ⟨hk.1.1, ⟨hk.2, ⟨hk.1.2.1, ⟨hk.1.2.2.1, hk.1.2.2.2⟩⟩⟩⟩)), (by (with_reducible repeat (first | refine blk_drewN ?_ _ | refine blk_drew ?_ | refine blk_alloc ?_ _)); exact BK421.out), (by (with_reducible repeat (first | refine blk_drewN ?_ _ | refine blk_drew ?_ | refine blk_alloc ?_ _)); exact BK422.out), (by repeat (first | (with_reducible first | exact HB.out | apply below_alloc | apply pw_below_drewN | apply below_drew1 | refine below_set ?_ GE421.out | refine below_set ?_ GE422.out) | exact HB.out))⟩)
                  rintro ⟨v431, v434, v437⟩ w49 ⟨hS_, h0_, h1_, h2_, h3_, h4_, h5_, h6_⟩
                  have n0_ : Aside0 (Kd.N k24 24 w49 w.heap.size (fun k_ => ((P3_ k_ ∨ P4_1_ k_) ∨ w.heap.size ≤ k_) ∧ some k_ ≠ (v437 : Value).ownBlock ∧ k_ ≠ gb421 ∧ k_ ≠ gb422) v434 y433) := ⟨h0_⟩
                  have n1_ : Aside0 (Kd.N k24 24 w49 w.heap.size (fun k_ => ((P3_ k_ ∨ P4_1_ k_) ∨ w.heap.size ≤ k_) ∧ some k_ ≠ (v434 : Value).ownBlock ∧ k_ ≠ gb421 ∧ k_ ≠ gb422) v437 y436) := ⟨h1_⟩
                  have n2_ : Aside0 (Kd.V k24 24 w49 w.heap.size (fun k_ => ((P3_ k_ ∨ P4_1_ k_) ∨ w.heap.size ≤ k_) ∧ some k_ ≠ (v434 : Value).ownBlock ∧ some k_ ≠ (v437 : Value).ownBlock ∧ k_ ≠ gb421 ∧ k_ ≠ gb422) (.slice A3 l3.length c3) l3) := ⟨h2_⟩
                  have n3_ : Aside0 (Kd.V k57 57 w49 w.heap.size (fun k_ => ((P3_ k_ ∨ P4_1_ k_) ∨ w.heap.size ≤ k_) ∧ some k_ ≠ (v434 : Value).ownBlock ∧ some k_ ≠ (v437 : Value).ownBlock ∧ k_ ≠ gb421 ∧ k_ ≠ gb422) (.slice A4_1 l4_1.length c4_1) l4_1) := ⟨h3_⟩
                  have n4_ : Aside0 (w49.heap[gb421]? = some (.cells #[.int .i64 a0_0, .slice A0_1 l0_1.length c0_1] 24 (0, 0))) := ⟨h4_⟩
                  have n5_ : Aside0 (w49.heap[gb422]? = some (.cells #[.int .i64 a4_0, .slice A4_1 l4_1.length c4_1] 24 (0, 0))) := ⟨h5_⟩
                  have n6_ : Aside0 (Below w.heap.size w w49) := ⟨h6_⟩
                  clear HO_3
                  clear HO_423001
                  clear BK421
                  clear BK422
                  clear HB
                  clear h0_ h1_ h2_ h3_ h4_ h5_ h6_
                  have HO435 := n0_
                  have HO438 := n1_
                  have HO_3 := n2_
                  have HO_423001 := n3_
                  have BK421 := n4_
                  have BK422 := n5_
                  have HB := n6_
                  clear n0_ n1_ n2_ n3_ n4_ n5_ n6_
                  have hHeld : w49.cell? ⟨gb421, 0, none⟩ = some (.int .i64 a0_0) ∧ w49.cell? ⟨gb421, 1, none⟩ = some (.slice A0_1 l0_1.length c0_1) ∧ w49.cell? ⟨gb422, 0, none⟩ = some (.int .i64 a4_0) ∧ w49.cell? ⟨gb422, 1, none⟩ = some (.slice A4_1 l4_1.length c4_1) := hS_
                  obtain ⟨Ao51, co51, eo51⟩ := Kd.N_slice HO438.out
                  (first | subst eo51 | (injection eo51 with f1_ f2_ f3_; have f4_ := f1_.symm; have f5_ := f3_.symm; clear f1_ f2_ f3_; subst f4_; subst f5_))
                  refine norm_ (a' := ?_) ?_ ?_
                  rotate_left
                  · simp only [putAll, Act.put, List.setIfInBounds_toArray, List.set_cons_zero, List.set_cons_succ]
                    rfl
                  refine one_ (i := 8) (N := some 57) #[true, true, true, true, true, true, true, true, true, false, false, false, false, false, false] rfl rfl (one_of HT_.out (by kernel_rfl)) (by decide) (fun K hK => ?_)
                  refine Kd.N_append_rows_step k24 (w0 := w) w.heap.size (by rfl) (.tmp 54) (.tmp 56) 27 24 (.agg #[(.int .i64 0), (.slice none 0 0)]) 32 rfl Try.underlying27 info24 rfl (by decide) (by omega) v434 y433 y436 _ _ _ (fun k_ => ((P3_ k_ ∨ P4_1_ k_) ∨ w.heap.size ≤ k_) ∧ k_ ≠ gb421 ∧ k_ ≠ gb422) (fun k_ => ((fun k_ => ((P3_ k_ ∨ P4_1_ k_) ∨ w.heap.size ≤ k_) ∧ k_ ≠ gb421 ∧ k_ ≠ gb422)) k_ ∧ some k_ ≠ (v434 : Value).ownBlock) rfl rfl ?aO ?aR (fun _ hk => hk) ?aF ?aB ?aS ?aL ?_
                  (case aR => exact (by skip; exact Kd.N_F (Kd.N_mono (ok' := (fun k_ => ((fun k_ => ((P3_ k_ ∨ P4_1_ k_) ∨ w.heap.size ≤ k_) ∧ k_ ≠ gb421 ∧ k_ ≠ gb422)) k_ ∧ some k_ ≠ (v434 : Value).ownBlock)) (HO438.out) (fun k_ hk => ⟨⟨hk.1, ⟨hk.2.2.1, hk.2.2.2⟩⟩, hk.2.1⟩))))
                  (case aB => exact (by repeat (first | (with_reducible first | exact HB.out | apply below_alloc | apply pw_below_drewN | apply below_drew1 | refine below_set ?_ GE421.out | refine below_set ?_ GE422.out) | exact HB.out)))
                  (case aF => exact (fun k_ hk => ⟨(.inr (Nat.le_trans (below_size (by repeat (first | (with_reducible first | exact HB.out | apply below_alloc | apply pw_below_drewN | apply below_drew1 | refine below_set ?_ GE421.out | refine below_set ?_ GE422.out) | exact HB.out))) hk)), Kd.freshB (g := gb421) (o := .cells #[.int .i64 a0_0, .slice A0_1 l0_1.length c0_1] 24 (0, 0)) (by (with_reducible repeat (first | refine blk_drewN ?_ _ | refine blk_drew ?_ | refine blk_alloc ?_ _)); exact BK421.out) k_ hk, Kd.freshB (g := gb422) (o := .cells #[.int .i64 a4_0, .slice A4_1 l4_1.length c4_1] 24 (0, 0)) (by (with_reducible repeat (first | refine blk_drewN ?_ _ | refine blk_drew ?_ | refine blk_alloc ?_ _)); exact BK422.out) k_ hk⟩))
                  (case aO => exact (by (with_reducible repeat (first | apply Kd.N_alloc | apply Kd.N_drewN | apply Kd.N_drew)); exact Kd.N_mono HO435.out (fun _ hk => ⟨hk.1, ⟨hk.2.2.1, hk.2.2.2⟩⟩)))
                  (case aS => exact (below_size (by repeat (first | (with_reducible first | exact HB.out | apply below_alloc | apply pw_below_drewN | apply below_drew1 | refine below_set ?_ GE421.out | refine below_set ?_ GE422.out) | exact HB.out))))
                  (case aL => have := LMc35.out; omega)
                  intro v440 w50 ho hb hg hat
                  rw [← Ny439.out] at ho
                  have n0_ := Aside0.mk (Kd.V_afterv (ok := (fun k_ => ((P3_ k_ ∨ P4_1_ k_) ∨ w.heap.size ≤ k_) ∧ some k_ ≠ (.slice Ao51 y436.length co51 : Value).ownBlock ∧ k_ ≠ gb421 ∧ k_ ≠ gb422)) (by (with_reducible repeat (first | apply Kd.V_alloc | apply Kd.V_drewN | apply Kd.V_drew)); exact Kd.V_mono HO_3.out (fun _ hk => ⟨⟨hk.1, ⟨hk.2.2.1, ⟨hk.2.2.2.1, hk.2.2.2.2⟩⟩⟩, hk.2.1⟩)) hg hat)
                  have n1_ := Aside0.mk (Kd.V_afterv (ok := (fun k_ => ((P3_ k_ ∨ P4_1_ k_) ∨ w.heap.size ≤ k_) ∧ some k_ ≠ (.slice Ao51 y436.length co51 : Value).ownBlock ∧ k_ ≠ gb421 ∧ k_ ≠ gb422)) (by (with_reducible repeat (first | apply Kd.V_alloc | apply Kd.V_drewN | apply Kd.V_drew)); exact Kd.V_mono HO_423001.out (fun _ hk => ⟨⟨hk.1, ⟨hk.2.2.1, ⟨hk.2.2.2.1, hk.2.2.2.2⟩⟩⟩, hk.2.1⟩)) hg hat)
                  have n2_ := Aside0.mk (blk_grown (g := gb421) (o := .cells #[.int .i64 a0_0, .slice A0_1 l0_1.length c0_1] 24 (0, 0)) (by (with_reducible repeat (first | refine blk_drewN ?_ _ | refine blk_drew ?_ | refine blk_alloc ?_ _)); exact BK421.out) hg (Kd.N_away HO435.out (fun _ hk => hk.2.2.1)))
                  have n3_ := Aside0.mk (blk_grown (g := gb422) (o := .cells #[.int .i64 a4_0, .slice A4_1 l4_1.length c4_1] 24 (0, 0)) (by (with_reducible repeat (first | refine blk_drewN ?_ _ | refine blk_drew ?_ | refine blk_alloc ?_ _)); exact BK422.out) hg (Kd.N_away HO435.out (fun _ hk => hk.2.2.2)))
                  have n4_ := Aside0.mk (Kd.N_afterv (ok := (fun k_ => ((P3_ k_ ∨ P4_1_ k_) ∨ w.heap.size ≤ k_) ∧ k_ ≠ gb421 ∧ k_ ≠ gb422)) (by (with_reducible repeat (first | apply Kd.N_alloc | apply Kd.N_drewN | apply Kd.N_drew)); exact Kd.N_mono HO438.out (fun _ hk => ⟨⟨hk.1, ⟨hk.2.2.1, hk.2.2.2⟩⟩, hk.2.1⟩)) hg hat)
                  have n5_ := Aside0.mk (hb)
                  have n6_ := Aside0.mk (ho)
                  clear HO_3
                  clear HO_423001
                  clear BK421
                  clear BK422
                  clear HO438
                  clear HB
                  clear HO435
                  have HO_3 := n0_
                  have HO_423001 := n1_
                  have BK421 := n2_
                  have BK422 := n3_
                  have HO438 := n4_
                  have HB := n5_
                  have HO441 := n6_
                  clear n0_ n1_ n2_ n3_ n4_ n5_ n6_
                  clear ho hb hg hat
                  obtain ⟨Ao52, co52, eo52⟩ := Kd.N_slice HO441.out
                  (first | subst eo52 | (injection eo52 with f1_ f2_ f3_; have f4_ := f1_.symm; have f5_ := f3_.symm; clear f1_ f2_ f3_; subst f4_; subst f5_))
                  refine hK.out _ _ ⟨(blk_cell BK421.out 0).trans rfl, (blk_cell BK421.out 1).trans rfl, (blk_cell BK422.out 0).trans rfl, (blk_cell BK422.out 1).trans rfl⟩ (fun hHeld => ?_)
                  clear hK K
                  refine norm_ (a' := ?_) ?_ ?_
                  rotate_left
                  · show Act.put _ (some 57) _ = _
                    simp only [Act.put, List.setIfInBounds_toArray, List.set_cons_zero, List.set_cons_succ, i64_w, i32_w]
                    rfl
                  refine one_ (i := 9) (N := some 58) #[true, true, true, true, true, true, true, true, true, true, false, false, false, false, false] rfl rfl (one_of HT_.out (by kernel_rfl)) (by decide) (fun K hK => ?_)
                  refine goes_ Try.func12 (by kernel_rfl) rfl #[.agg #[.int .i64 a0_0, .slice A0_1 l0_1.length c0_1], .slice A1 l1.length c1, .slice A2 l2.length c2, .slice Ao52 y439.length co52] (by rfl) rfl rfl (by (try simp only [List.map_toArray, List.map_cons, List.map_nil]); first | done | rfl | (simp only [List.length_drop, List.length_take]; rfl)) ?_
                  with_reducible refine (rival_Judge.calls a0_0 _ _ l0_1 _ _ l1 _ _ l2 _ _ y439 t442 t443 _ ?side1 ?side2 ?side3 ?side4 ?side5 ?side6 ?side7 ?side8 A36.out).mono ?_
                  (case side1 => repeat (first | exact (Kd.C_below HR0_1.out HB.out) | (with_reducible refine Kd.C_alloc ?_ _) | (with_reducible refine Kd.C_drewN ?_ _) | (with_reducible refine Kd.C_drew ?_)))
                  (case side2 => exact HC0_1.out)
                  (case side3 => repeat (first | exact (Kd.C_below HR1.out HB.out) | (with_reducible refine Kd.C_alloc ?_ _) | (with_reducible refine Kd.C_drewN ?_ _) | (with_reducible refine Kd.C_drew ?_)))
                  (case side4 => exact HC1.out)
                  (case side5 => repeat (first | exact (Kd.C_below HR2.out HB.out) | (with_reducible refine Kd.C_alloc ?_ _) | (with_reducible refine Kd.C_drewN ?_ _) | (with_reducible refine Kd.C_drew ?_)))
                  (case side6 => exact HC2.out)
                  (case side7 => repeat (first | exact (Kd.N_reads' HO441.out).2.2 | (with_reducible refine Kd.C_alloc ?_ _) | (with_reducible refine Kd.C_drewN ?_ _) | (with_reducible refine Kd.C_drew ?_)))
                  (case side8 => exact (Kd.N_reads' HO441.out).2.1)
                  rintro e w53 ⟨rfl, hb⟩
                  refine ⟨_, rfl, ?_⟩
                  have n0_ := Aside0.mk (Kd.V_below (by (with_reducible repeat (first | apply Kd.V_alloc | apply Kd.V_drewN | apply Kd.V_drew)); exact HO_3.out) hb)
                  have n1_ := Aside0.mk (Kd.V_below (by (with_reducible repeat (first | apply Kd.V_alloc | apply Kd.V_drewN | apply Kd.V_drew)); exact HO_423001.out) hb)
                  have n2_ := Aside0.mk (Kd.N_below (by (with_reducible repeat (first | apply Kd.N_alloc | apply Kd.N_drewN | apply Kd.N_drew)); exact HO438.out) hb)
                  have n3_ := Aside0.mk (Kd.N_below (by (with_reducible repeat (first | apply Kd.N_alloc | apply Kd.N_drewN | apply Kd.N_drew)); exact HO441.out) hb)
                  have n4_ := Aside0.mk (blk_below (g := gb421) (o := .cells #[.int .i64 a0_0, .slice A0_1 l0_1.length c0_1] 24 (0, 0)) (by (with_reducible repeat (first | refine blk_drewN ?_ _ | refine blk_drew ?_ | refine blk_alloc ?_ _)); exact BK421.out) hb)
                  have n5_ := Aside0.mk (blk_below (g := gb422) (o := .cells #[.int .i64 a4_0, .slice A4_1 l4_1.length c4_1] 24 (0, 0)) (by (with_reducible repeat (first | refine blk_drewN ?_ _ | refine blk_drew ?_ | refine blk_alloc ?_ _)); exact BK422.out) hb)
                  have n6_ := Aside0.mk (below_step (by repeat (first | (with_reducible first | exact HB.out | apply below_alloc | apply pw_below_drewN | apply below_drew1 | refine below_set ?_ GE421.out | refine below_set ?_ GE422.out) | exact HB.out)) hb)
                  clear HO_3
                  clear HO_423001
                  clear HO438
                  clear HO441
                  clear BK421
                  clear BK422
                  clear HB
                  have HO_3 := n0_
                  have HO_423001 := n1_
                  have HO438 := n2_
                  have HO441 := n3_
                  have BK421 := n4_
                  have BK422 := n5_
                  have HB := n6_
                  clear n0_ n1_ n2_ n3_ n4_ n5_ n6_
                  (try clear hb)
                  (try clear hb2)
                  (try clear hk)
                  (try clear hi)
                  refine hK.out _ _ ⟨(blk_cell BK421.out 0).trans rfl, (blk_cell BK421.out 1).trans rfl, (blk_cell BK422.out 0).trans rfl, (blk_cell BK422.out 1).trans rfl⟩ (fun hHeld => ?_)
                  clear hK K
                  refine norm_ (a' := ?_) ?_ ?_
                  rotate_left
                  · show Act.put _ (some 58) _ = _
                    simp only [Act.put, List.setIfInBounds_toArray, List.set_cons_zero, List.set_cons_succ, i64_w, i32_w]
                    rfl
                  refine pure_ (i := 10) (N := some 48) (v := ?_) (a' := ?_) #[true, true, true, true, true, true, true, true, true, true, true, false, false, false, false] rfl rfl (any_of HT_.out (by kernel_rfl)) (fun _ _ _ h => h) (Or.inl ⟨by rfl, ?_⟩) ?_ ?_
                  rotate_left
                  · intro w'
                    go_simp
                    with_reducible rfl
                  rotate_left
                  · simp only [Act.put, List.setIfInBounds_toArray, List.set_cons_zero, List.set_cons_succ, i64_w, i32_w]
                    rfl
                  refine pure_ (i := 11) (N := some 59) (v := ?_) (a' := ?_) #[true, true, true, true, true, true, true, true, true, true, true, true, false, false, false] rfl rfl (any_of HT_.out (by kernel_rfl)) (fun _ _ _ h => h) (Or.inl ⟨by rfl, ?_⟩) ?_ ?_
                  rotate_left
                  · intro w'
                    go_simp
                    with_reducible rfl
                  rotate_left
                  · simp only [Act.put, List.setIfInBounds_toArray, List.set_cons_zero, List.set_cons_succ, i64_w, i32_w]
                    rfl
                  refine pure_ (i := 12) (N := some 60) (v := ?_) (a' := ?_) #[true, true, true, true, true, true, true, true, true, true, true, true, true, false, false] rfl rfl (any_of HT_.out (by kernel_rfl)) (fun _ _ _ h => h) (Or.inl ⟨by rfl, ?_⟩) ?_ ?_
                  rotate_left
                  · intro w'
                    go_simp
                    with_reducible rfl
                  rotate_left
                  · simp only [Act.put, List.setIfInBounds_toArray, List.set_cons_zero, List.set_cons_succ, i64_w, i32_w]
                    rfl
                  refine pure_ (i := 13) (N := some 14) (v := ?_) (a' := ?_) #[true, true, true, true, true, true, true, true, true, true, true, true, true, true, false] rfl rfl (any_of HT_.out (by kernel_rfl)) (fun _ _ _ h => h) (Or.inl ⟨by rfl, ?_⟩) ?_ ?_
                  rotate_left
                  · intro w'
                    go_simp
                    with_reducible rfl
                  rotate_left
                  · simp only [Act.put, List.setIfInBounds_toArray, List.set_cons_zero, List.set_cons_succ, i64_w, i32_w]
                    rfl
                  refine pure_ (i := 14) (N := some 15) (v := ?_) (a' := ?_) #[true, true, true, true, true, true, true, true, true, true, true, true, true, true, true] rfl rfl (any_of HT_.out (by kernel_rfl)) (fun _ _ _ h => h) (Or.inl ⟨by rfl, ?_⟩) ?_ ?_
                  rotate_left
                  · intro w'
                    go_simp
                    with_reducible rfl
                  rotate_left
                  · simp only [Act.put, List.setIfInBounds_toArray, List.set_cons_zero, List.set_cons_succ, i64_w, i32_w]
                    rfl
                  refine done_ (done_of HT_.out (by kernel_rfl)) ?_
                  try go_wp2
                  go_ret
                  exact ⟨by first | rfl | (simp [errW_none, errW_some] <;> rfl) | (simp [*, errW_none, errW_some] <;> rfl), by repeat (first | (with_reducible first | exact HB.out | apply below_alloc | apply pw_below_drewN | apply below_drew1 | refine below_set ?_ GE421.out | refine below_set ?_ GE422.out) | exact HB.out)⟩
                · rw [if_neg c39] at H
                  have c39b0 : (t443 == 0) = false := beq_eq_false_iff_ne.mpr c39
                  have c39b1 : (t443 != 0) = true := bne_iff_ne.mpr c39
                  obtain rfl := Option.some.inj H
                  have hnb54 := NB421_422.out
                  have hnc54 := NB422_421.out
                  have hcz55_0 : wc.cell? ⟨gb421, 0, none⟩ = some (.int .i64 a0_0) := (blk_cell BK421.out 0).trans rfl
                  have hcz55_1 : wc.cell? ⟨gb421, 1, none⟩ = some (.slice A0_1 l0_1.length c0_1) := (blk_cell BK421.out 1).trans rfl
                  have hfz55_0 := blk_frozen BK421.out 0
                  have hfz55_1 := blk_frozen BK421.out 1
                  try go_wp2_with (first | ((with_reducible refine gate_callee (f := 12) rfl ?_); refine goesL_ (some 45) rfl rfl Try.func12 (by kernel_rfl) rfl #[.agg #[.int .i64 a0_0, .slice A0_1 l0_1.length c0_1], .slice A1 l1.length c1, .slice A2 l2.length c2, .slice A3 l3.length c3] rfl (by (try simp only [List.map_toArray, List.map_cons, List.map_nil]); first | done | rfl | (simp only [List.length_drop, List.length_take]; rfl)) ?_; (with_reducible refine (rival_Judge.calls a0_0 _ _ l0_1 _ _ l1 _ _ l2 _ _ l3 t428 t429 _ ?side1 ?side2 ?side3 ?side4 ?side5 ?side6 ?side7 ?side8 A33.out).mono ?_); (case side1 => repeat (first | exact (Kd.C_below HR0_1.out HB.out) | (with_reducible refine Kd.C_alloc ?_ _) | (with_reducible refine Kd.C_drewN ?_ _) | (with_reducible refine Kd.C_drew ?_))); (case side2 => exact HC0_1.out); (case side3 => repeat (first | exact (Kd.C_below HR1.out HB.out) | (with_reducible refine Kd.C_alloc ?_ _) | (with_reducible refine Kd.C_drewN ?_ _) | (with_reducible refine Kd.C_drew ?_))); (case side4 => exact HC1.out); (case side5 => repeat (first | exact (Kd.C_below HR2.out HB.out) | (with_reducible refine Kd.C_alloc ?_ _) | (with_reducible refine Kd.C_drewN ?_ _) | (with_reducible refine Kd.C_drew ?_))); (case side6 => exact HC2.out); (case side7 => repeat (first | exact (Kd.V_reads' HO_3.out).2.2 | (with_reducible refine Kd.C_alloc ?_ _) | (with_reducible refine Kd.C_drewN ?_ _) | (with_reducible refine Kd.C_drew ?_))); (case side8 => exact (Kd.V_reads' HO_3.out).2.1); rintro e w56 ⟨rfl, hb⟩; refine ⟨_, rfl, ?_⟩; have n0_ := Aside0.mk (Kd.V_below (by (with_reducible repeat (first | apply Kd.V_alloc | apply Kd.V_drewN | apply Kd.V_drew)); exact HO_3.out) hb); have n1_ := Aside0.mk (Kd.V_below (by (with_reducible repeat (first | apply Kd.V_alloc | apply Kd.V_drewN | apply Kd.V_drew)); exact HO_423001.out) hb); have n2_ := Aside0.mk (blk_below (g := gb421) (o := .cells #[.int .i64 a0_0, .slice A0_1 l0_1.length c0_1] 24 (0, 0)) (by (with_reducible repeat (first | refine blk_drewN ?_ _ | refine blk_drew ?_ | refine blk_alloc ?_ _)); exact BK421.out) hb); have n3_ := Aside0.mk (blk_below (g := gb422) (o := .cells #[.int .i64 a4_0, .slice A4_1 l4_1.length c4_1] 24 (0, 0)) (by (with_reducible repeat (first | refine blk_drewN ?_ _ | refine blk_drew ?_ | refine blk_alloc ?_ _)); exact BK422.out) hb); have n4_ := Aside0.mk (below_step (by repeat (first | (with_reducible first | exact HB.out | apply below_alloc | apply pw_below_drewN | apply below_drew1 | refine below_set ?_ GE421.out | refine below_set ?_ GE422.out) | exact HB.out)) hb); clear HO_3; clear HO_423001; clear BK421; clear BK422; clear HB; have HO_3 := n0_; have HO_423001 := n1_; have BK421 := n2_; have BK422 := n3_; have HB := n4_; clear n0_ n1_ n2_ n3_ n4_; (try clear hb); (try clear hb2); (try clear hk); (try clear hi)))
                  have n0_ := Aside0.mk (Kd.V_drew HO_3.out)
                  have n1_ := Aside0.mk (Kd.V_drew HO_423001.out)
                  have n2_ := Aside0.mk (blk_drew BK421.out)
                  have n3_ := Aside0.mk (blk_drew BK422.out)
                  have n4_ := Aside0.mk (below_drew1 HB.out)
                  clear HO_3
                  clear HO_423001
                  clear BK421
                  clear BK422
                  clear HB
                  have HO_3 := n0_
                  have HO_423001 := n1_
                  have BK421 := n2_
                  have BK422 := n3_
                  have HB := n4_
                  clear n0_ n1_ n2_ n3_ n4_
                  refine start_ (n := 15) (S := fun w' => w'.cell? ⟨gb421, 0, none⟩ = some (.int .i64 a0_0) ∧ w'.cell? ⟨gb421, 1, none⟩ = some (.slice A0_1 l0_1.length c0_1) ∧ w'.cell? ⟨gb422, 0, none⟩ = some (.int .i64 a4_0) ∧ w'.cell? ⟨gb422, 1, none⟩ = some (.slice A4_1 l4_1.length c4_1)) (ds := []) #[false, false, false, false, false, false, false, false, false, false, false, false, false, false, false] (by kernel_rfl) rfl rfl ⟨(blk_cell BK421.out 0).trans rfl, (blk_cell BK421.out 1).trans rfl, (blk_cell BK422.out 0).trans rfl, (blk_cell BK422.out 1).trans rfl⟩ (fun hHeld => ?_); refine with_tabW banksmanlaw14_RivalMore.tab5 banksmanlaw14_RivalMore.bits5 (fun HT_ HW_ => ?_)
                  generalize w56.drew = w57 at HO_3 HO_423001 BK421 BK422 HB hHeld ⊢
                  refine pure_ (i := 1) (N := some 50) (v := ?_) (a' := ?_) #[false, true, false, false, false, false, false, false, false, false, false, false, false, false, false] rfl rfl (any_of HT_.out (by kernel_rfl)) (fun _ _ _ h => h) (Or.inl ⟨by rfl, ?_⟩) ?_ ?_
                  rotate_left
                  · intro w'
                    go_simp
                    with_reducible rfl
                  rotate_left
                  · simp only [Act.put, List.setIfInBounds_toArray, List.set_cons_zero, List.set_cons_succ, i64_w, i32_w]
                    rfl
                  refine pure_ (i := 2) (N := some 51) (v := ?_) (a' := ?_) #[false, true, true, false, false, false, false, false, false, false, false, false, false, false, false] rfl rfl (any_of HT_.out (by kernel_rfl)) (fun _ _ _ h => h) (Or.inl ⟨by rfl, ?_⟩) ?_ ?_
                  rotate_left
                  · intro w'
                    go_simp
                    with_reducible rfl
                  rotate_left
                  · simp only [Act.put, List.setIfInBounds_toArray, List.set_cons_zero, List.set_cons_succ, i64_w, i32_w]
                    rfl
                  refine pure_ (i := 4) (N := some 53) (v := ?_) (a' := ?_) #[false, true, true, false, true, false, false, false, false, false, false, false, false, false, false] rfl rfl (any_of HT_.out (by kernel_rfl)) (fun _ _ _ h => h) (Or.inl ⟨by rfl, ?_⟩) ?_ ?_
                  rotate_left
                  · intro w'
                    go_simp
                    with_reducible rfl
                  rotate_left
                  · simp only [Act.put, List.setIfInBounds_toArray, List.set_cons_zero, List.set_cons_succ, i64_w, i32_w]
                    rfl
                  refine take_ (i := 0) (N := some 49) (v := ?_) (a' := ?_) #[true, true, true, false, true, false, false, false, false, false, false, false, false, false, false] rfl rfl (take_ofW HT_.out HW_.out (by kernel_rfl)) (fun _ _ _ h => h) (Or.inl ⟨by rfl, ?_⟩) hHeld ?_ ?_
                  rotate_left
                  · rintro w' ⟨s0, s1, s2, s3⟩
                    go_simp
                    with_reducible rfl
                  rotate_left
                  · simp only [Act.put, List.setIfInBounds_toArray, List.set_cons_zero, List.set_cons_succ, i64_w, i32_w]
                    rfl
                  refine take_ (i := 6) (N := some 55) (v := ?_) (a' := ?_) #[true, true, true, false, true, false, true, false, false, false, false, false, false, false, false] rfl rfl (take_ofW HT_.out HW_.out (by kernel_rfl)) (fun _ _ _ h => h) (Or.inl ⟨by rfl, ?_⟩) hHeld ?_ ?_
                  rotate_left
                  · rintro w' ⟨s0, s1, s2, s3⟩
                    go_simp
                    with_reducible rfl
                  rotate_left
                  · simp only [Act.put, List.setIfInBounds_toArray, List.set_cons_zero, List.set_cons_succ, i64_w, i32_w]
                    rfl
                  refine join_ (σ := Value × Value × Value) 7 #[true, true, true, true, true, true, true, true, false, false, false, false, false, false, false] (fun s_ => [(52, s_.1), (54, s_.2.1), (56, s_.2.2)]) (fun s_ w' => (w'.cell? ⟨gb421, 0, none⟩ = some (.int .i64 a0_0) ∧ w'.cell? ⟨gb421, 1, none⟩ = some (.slice A0_1 l0_1.length c0_1) ∧ w'.cell? ⟨gb422, 0, none⟩ = some (.int .i64 a4_0) ∧ w'.cell? ⟨gb422, 1, none⟩ = some (.slice A4_1 l4_1.length c4_1)) ∧ (Kd.N k24 24 w' w.heap.size (fun k_ => ((P3_ k_ ∨ P4_1_ k_) ∨ w.heap.size ≤ k_) ∧ some k_ ≠ (s_.2.2 : Value).ownBlock ∧ k_ ≠ gb421 ∧ k_ ≠ gb422) s_.2.1 y433) ∧ (Kd.N k24 24 w' w.heap.size (fun k_ => ((P3_ k_ ∨ P4_1_ k_) ∨ w.heap.size ≤ k_) ∧ some k_ ≠ (s_.2.1 : Value).ownBlock ∧ k_ ≠ gb421 ∧ k_ ≠ gb422) s_.2.2 y436) ∧ (Kd.V k24 24 w' w.heap.size (fun k_ => ((P3_ k_ ∨ P4_1_ k_) ∨ w.heap.size ≤ k_) ∧ some k_ ≠ (s_.2.1 : Value).ownBlock ∧ some k_ ≠ (s_.2.2 : Value).ownBlock ∧ k_ ≠ gb421 ∧ k_ ≠ gb422) (.slice A3 l3.length c3) l3) ∧ (Kd.V k57 57 w' w.heap.size (fun k_ => ((P3_ k_ ∨ P4_1_ k_) ∨ w.heap.size ≤ k_) ∧ some k_ ≠ (s_.2.1 : Value).ownBlock ∧ some k_ ≠ (s_.2.2 : Value).ownBlock ∧ k_ ≠ gb421 ∧ k_ ≠ gb422) (.slice A4_1 l4_1.length c4_1) l4_1) ∧ (w'.heap[gb421]? = some (.cells #[.int .i64 a0_0, .slice A0_1 l0_1.length c0_1] 24 (0, 0))) ∧ (w'.heap[gb422]? = some (.cells #[.int .i64 a4_0, .slice A4_1 l4_1.length c4_1] 24 (0, 0))) ∧ (Below w.heap.size w w')) ?_ ?_
                  rotate_left
                  · intro hCont
                    refine two_ (i := 3) (j := 7) (Ni := some 52) (Nj := some 56) #[true, true, true, true, true, false, true, false, false, false, false, false, false, false, false] #[true, true, true, false, true, false, true, true, false, false, false, false, false, false, false] rfl rfl rfl rfl (two_of HT_.out (by kernel_rfl)) (by decide) (by decide) (fun K hK => ?_) (fun K hK => ?_)
                    · skip
                      refine Kd.N_lit_step k24 _ 24 ?hg (N' := 52) ?hd (xs := ([] : List (S24))) (inner := []) (ok := (fun k_ => ((P3_ k_ ∨ P4_1_ k_) ∨ w.heap.size ≤ k_) ∧ k_ ≠ gb421 ∧ k_ ≠ gb422)) (okp := (fun k_ => ((P3_ k_ ∨ P4_1_ k_) ∨ w.heap.size ≤ k_) ∧ k_ ≠ gb421 ∧ k_ ≠ gb422)) ?hr ?hp (fun _ hk => hk) ((show ∀ k_, w57.heap.size ≤ k_ → (fun k_ => ((P3_ k_ ∨ P4_1_ k_) ∨ w.heap.size ≤ k_) ∧ k_ ≠ gb421 ∧ k_ ≠ gb422) k_ from fun k_ hk => ⟨(.inr (Nat.le_trans (below_size (by repeat (first | (with_reducible first | exact HB.out | apply below_alloc | apply pw_below_drewN | apply below_drew1 | refine below_set ?_ GE421.out | refine below_set ?_ GE422.out) | exact HB.out))) hk)), Kd.freshB (g := gb421) (o := .cells #[.int .i64 a0_0, .slice A0_1 l0_1.length c0_1] 24 (0, 0)) (by (with_reducible repeat (first | refine blk_drewN ?_ _ | refine blk_drew ?_ | refine blk_alloc ?_ _)); exact BK421.out) k_ hk, Kd.freshB (g := gb422) (o := .cells #[.int .i64 a4_0, .slice A4_1 l4_1.length c4_1] 24 (0, 0)) (by (with_reducible repeat (first | refine blk_drewN ?_ _ | refine blk_drew ?_ | refine blk_alloc ?_ _)); exact BK422.out) k_ hk⟩) _ (Nat.le_refl _)) (Below.refl _ _) (Nat.le_refl _) (by simp) ?_; (case hd => rfl); (case hg => rfl); (case hr => first | (go_simp; done) | (go_simp; rfl)); (case hp => exact (Reps.none _ _))
                      intro v431 w58 ho59 hb hg_ hnew_
                      clear hg_ hnew_
                      (first | rw [← Ny430.out] at ho59 | (simp only [Int.reduceToNat] at ho59; rw [← Ny430.out] at ho59))
                      have n0_ := Aside0.mk (Kd.V_elder' (by (with_reducible repeat (first | apply Kd.V_alloc | apply Kd.V_drewN | apply Kd.V_drew)); exact HO_3.out) (Kd.N_base ho59) hb)
                      have n1_ := Aside0.mk (Kd.V_elder' (by (with_reducible repeat (first | apply Kd.V_alloc | apply Kd.V_drewN | apply Kd.V_drew)); exact HO_423001.out) (Kd.N_base ho59) hb)
                      have n2_ := Aside0.mk (Kd.N_lower ho59 (below_size (by repeat (first | (with_reducible first | exact HB.out | apply below_alloc | apply pw_below_drewN | apply below_drew1 | refine below_set ?_ GE421.out | refine below_set ?_ GE422.out) | exact HB.out))))
                      have n3_ := Aside0.mk (blk_below (g := gb421) (o := .cells #[.int .i64 a0_0, .slice A0_1 l0_1.length c0_1] 24 (0, 0)) (by (with_reducible repeat (first | refine blk_drewN ?_ _ | refine blk_drew ?_ | refine blk_alloc ?_ _)); exact BK421.out) hb)
                      have n4_ := Aside0.mk (blk_below (g := gb422) (o := .cells #[.int .i64 a4_0, .slice A4_1 l4_1.length c4_1] 24 (0, 0)) (by (with_reducible repeat (first | refine blk_drewN ?_ _ | refine blk_drew ?_ | refine blk_alloc ?_ _)); exact BK422.out) hb)
                      have n5_ := Aside0.mk (below_step (by repeat (first | (with_reducible first | exact HB.out | apply below_alloc | apply pw_below_drewN | apply below_drew1 | refine below_set ?_ GE421.out | refine below_set ?_ GE422.out) | exact HB.out)) hb)
                      clear HO_3
                      clear HO_423001
                      clear BK421
                      clear BK422
                      clear HB
                      have HO_3 := n0_
                      have HO_423001 := n1_
                      have HO432 := n2_
                      have BK421 := n3_
                      have BK422 := n4_
                      have HB := n5_
                      clear n0_ n1_ n2_ n3_ n4_ n5_
                      clear hb ho59
                      refine hK.out _ _ ⟨(blk_cell BK421.out 0).trans rfl, (blk_cell BK421.out 1).trans rfl, (blk_cell BK422.out 0).trans rfl, (blk_cell BK422.out 1).trans rfl⟩ (fun hHeld => ?_)
                      clear hK K
                      refine norm_ (a' := ?_) ?_ ?_
                      rotate_left
                      · show Act.put _ (some 52) _ = _
                        simp only [Act.put, List.setIfInBounds_toArray, List.set_cons_zero, List.set_cons_succ, i64_w, i32_w]
                        rfl
                      refine two_ (i := 5) (j := 7) (Ni := some 54) (Nj := some 56) #[true, true, true, true, true, true, true, false, false, false, false, false, false, false, false] #[true, true, true, true, true, false, true, true, false, false, false, false, false, false, false] rfl rfl rfl rfl (two_of HT_.out (by kernel_rfl)) (by decide) (by decide) (fun K hK => ?_) (fun K hK => ?_)
                      · skip
                        refine Kd.N_append_rows_step k24 (w0 := w) w.heap.size (by rfl) (.tmp 52) (.tmp 53) 27 24 (.agg #[(.int .i64 0), (.slice none 0 0)]) 32 rfl Try.underlying27 info24 rfl (by decide) (by omega) v431 y430 l3 _ _ _ (fun k_ => ((P3_ k_ ∨ P4_1_ k_) ∨ w.heap.size ≤ k_) ∧ k_ ≠ gb421 ∧ k_ ≠ gb422) (fun k_ => ((fun k_ => ((P3_ k_ ∨ P4_1_ k_) ∨ w.heap.size ≤ k_) ∧ k_ ≠ gb421 ∧ k_ ≠ gb422)) k_ ∧ some k_ ≠ (v431 : Value).ownBlock) rfl rfl ?aO ?aR (fun _ hk => hk) ?aF ?aB ?aS ?aL ?_
                        (case aR => exact (by skip; exact Kd.V_F (Kd.V_mono (ok' := (fun k_ => ((fun k_ => ((P3_ k_ ∨ P4_1_ k_) ∨ w.heap.size ≤ k_) ∧ k_ ≠ gb421 ∧ k_ ≠ gb422)) k_ ∧ some k_ ≠ (v431 : Value).ownBlock)) (HO_3.out) (fun k_ hk => ⟨⟨hk.1.1, ⟨hk.1.2.1, hk.1.2.2⟩⟩, hk.2⟩))))
                        (case aB => exact (by repeat (first | (with_reducible first | exact HB.out | apply below_alloc | apply pw_below_drewN | apply below_drew1 | refine below_set ?_ GE421.out | refine below_set ?_ GE422.out) | exact HB.out)))
                        (case aF => exact (fun k_ hk => ⟨(.inr (Nat.le_trans (below_size (by repeat (first | (with_reducible first | exact HB.out | apply below_alloc | apply pw_below_drewN | apply below_drew1 | refine below_set ?_ GE421.out | refine below_set ?_ GE422.out) | exact HB.out))) hk)), Kd.freshB (g := gb421) (o := .cells #[.int .i64 a0_0, .slice A0_1 l0_1.length c0_1] 24 (0, 0)) (by (with_reducible repeat (first | refine blk_drewN ?_ _ | refine blk_drew ?_ | refine blk_alloc ?_ _)); exact BK421.out) k_ hk, Kd.freshB (g := gb422) (o := .cells #[.int .i64 a4_0, .slice A4_1 l4_1.length c4_1] 24 (0, 0)) (by (with_reducible repeat (first | refine blk_drewN ?_ _ | refine blk_drew ?_ | refine blk_alloc ?_ _)); exact BK422.out) k_ hk⟩))
                        (case aO => exact (by (with_reducible repeat (first | apply Kd.N_alloc | apply Kd.N_drewN | apply Kd.N_drew)); exact HO432.out))
                        (case aS => exact (below_size (by repeat (first | (with_reducible first | exact HB.out | apply below_alloc | apply pw_below_drewN | apply below_drew1 | refine below_set ?_ GE421.out | refine below_set ?_ GE422.out) | exact HB.out))))
                        (case aL => have := LMc34.out; omega)
                        intro v434 w60 ho hb hg hat
                        rw [← Ny433.out] at ho
                        have n0_ := Aside0.mk (Kd.V_afterv (ok := (fun k_ => ((P3_ k_ ∨ P4_1_ k_) ∨ w.heap.size ≤ k_) ∧ k_ ≠ gb421 ∧ k_ ≠ gb422)) (by (with_reducible repeat (first | apply Kd.V_alloc | apply Kd.V_drewN | apply Kd.V_drew)); exact HO_3.out) hg hat)
                        have n1_ := Aside0.mk (Kd.V_afterv (ok := (fun k_ => ((P3_ k_ ∨ P4_1_ k_) ∨ w.heap.size ≤ k_) ∧ k_ ≠ gb421 ∧ k_ ≠ gb422)) (by (with_reducible repeat (first | apply Kd.V_alloc | apply Kd.V_drewN | apply Kd.V_drew)); exact HO_423001.out) hg hat)
                        have n2_ := Aside0.mk (blk_grown (g := gb421) (o := .cells #[.int .i64 a0_0, .slice A0_1 l0_1.length c0_1] 24 (0, 0)) (by (with_reducible repeat (first | refine blk_drewN ?_ _ | refine blk_drew ?_ | refine blk_alloc ?_ _)); exact BK421.out) hg (Kd.N_away HO432.out (fun _ hk => hk.2.1)))
                        have n3_ := Aside0.mk (blk_grown (g := gb422) (o := .cells #[.int .i64 a4_0, .slice A4_1 l4_1.length c4_1] 24 (0, 0)) (by (with_reducible repeat (first | refine blk_drewN ?_ _ | refine blk_drew ?_ | refine blk_alloc ?_ _)); exact BK422.out) hg (Kd.N_away HO432.out (fun _ hk => hk.2.2)))
                        have n4_ := Aside0.mk (hb)
                        have n5_ := Aside0.mk (ho)
                        clear HO_3
                        clear HO_423001
                        clear BK421
                        clear BK422
                        clear HB
                        clear HO432
                        have HO_3 := n0_
                        have HO_423001 := n1_
                        have BK421 := n2_
                        have BK422 := n3_
                        have HB := n4_
                        have HO435 := n5_
                        clear n0_ n1_ n2_ n3_ n4_ n5_
                        clear ho hb hg hat
                        refine hK.out _ _ ⟨(blk_cell BK421.out 0).trans rfl, (blk_cell BK421.out 1).trans rfl, (blk_cell BK422.out 0).trans rfl, (blk_cell BK422.out 1).trans rfl⟩ (fun hHeld => ?_)
                        clear hK K
                        refine norm_ (a' := ?_) ?_ ?_
                        rotate_left
                        · show Act.put _ (some 54) _ = _
                          simp only [Act.put, List.setIfInBounds_toArray, List.set_cons_zero, List.set_cons_succ, i64_w, i32_w]
                          rfl
                        refine one_ (i := 7) (N := some 56) #[true, true, true, true, true, true, true, true, false, false, false, false, false, false, false] rfl rfl (one_of HT_.out (by kernel_rfl)) (by decide) (fun K hK => ?_)
                        refine Kd.N_lit_step k24 _ 24 ?hg (N' := 56) ?hd (xs := ([(⟨a4_0, l4_1⟩ : S24)] : List (S24))) (inner := [.int .i64 a4_0, .slice A4_1 l4_1.length c4_1]) (ok := (fun k_ => ((P3_ k_ ∨ P4_1_ k_) ∨ w.heap.size ≤ k_) ∧ some k_ ≠ (v434 : Value).ownBlock ∧ k_ ≠ gb421 ∧ k_ ≠ gb422)) (okp := (fun k_ => ((P3_ k_ ∨ P4_1_ k_) ∨ w.heap.size ≤ k_) ∧ some k_ ≠ (v434 : Value).ownBlock ∧ k_ ≠ gb421 ∧ k_ ≠ gb422)) ?hr ?hp (fun _ hk => hk) ((show ∀ k_, w60.heap.size ≤ k_ → (fun k_ => ((P3_ k_ ∨ P4_1_ k_) ∨ w.heap.size ≤ k_) ∧ some k_ ≠ (v434 : Value).ownBlock ∧ k_ ≠ gb421 ∧ k_ ≠ gb422) k_ from fun k_ hk => ⟨(.inr (Nat.le_trans (below_size (by repeat (first | (with_reducible first | exact HB.out | apply below_alloc | apply pw_below_drewN | apply below_drew1 | refine below_set ?_ GE421.out | refine below_set ?_ GE422.out) | exact HB.out))) hk)), Kd.fresh' (Kd.N_lt (by (with_reducible repeat (first | apply Kd.N_alloc | apply Kd.N_drewN | apply Kd.N_drew)); exact HO435.out)) k_ hk, Kd.freshB (g := gb421) (o := .cells #[.int .i64 a0_0, .slice A0_1 l0_1.length c0_1] 24 (0, 0)) (by (with_reducible repeat (first | refine blk_drewN ?_ _ | refine blk_drew ?_ | refine blk_alloc ?_ _)); exact BK421.out) k_ hk, Kd.freshB (g := gb422) (o := .cells #[.int .i64 a4_0, .slice A4_1 l4_1.length c4_1] 24 (0, 0)) (by (with_reducible repeat (first | refine blk_drewN ?_ _ | refine blk_drew ?_ | refine blk_alloc ?_ _)); exact BK422.out) k_ hk⟩) _ (Nat.le_refl _)) (Below.refl _ _) (Nat.le_refl _) (by simp) ?_; (case hd => rfl); (case hg => rfl); (case hr => first | (go_simp; done) | (go_simp; rfl)); (case hp => exact (Reps.c2 (show Kd.FK k24 _ _ (⟨a4_0, l4_1⟩ : S24) [.int .i64 a4_0, .slice A4_1 l4_1.length c4_1] from (k24_mkF _ _ (⟨a4_0, l4_1⟩ : S24) (Kd.V_reads' (Kd.V_mono (ok' := (fun k_ => ((P3_ k_ ∨ P4_1_ k_) ∨ w.heap.size ≤ k_) ∧ some k_ ≠ (v434 : Value).ownBlock ∧ k_ ≠ gb421 ∧ k_ ≠ gb422)) (HO_423001.out) (fun k_ hk => ⟨hk.1.1, ⟨hk.2, ⟨hk.1.2.1, hk.1.2.2⟩⟩⟩))).2.1 (Kd.V_F (Kd.V_mono (ok' := (fun k_ => ((P3_ k_ ∨ P4_1_ k_) ∨ w.heap.size ≤ k_) ∧ some k_ ≠ (v434 : Value).ownBlock ∧ k_ ≠ gb421 ∧ k_ ≠ gb422)) (HO_423001.out) (fun k_ hk => ⟨hk.1.1, ⟨hk.2, ⟨hk.1.2.1, hk.1.2.2⟩⟩⟩))))) (Reps.none _ _)))
                        intro v437 w61 ho62 hb hg_ hnew_
                        clear hg_ hnew_
                        (first | rw [← Ny436.out] at ho62 | (simp only [Int.reduceToNat] at ho62; rw [← Ny436.out] at ho62))
                        have n0_ := Aside0.mk (Kd.V_elder' (by (with_reducible repeat (first | apply Kd.V_alloc | apply Kd.V_drewN | apply Kd.V_drew)); exact HO_3.out) (Kd.N_base ho62) hb)
                        have n1_ := Aside0.mk (Kd.V_elder' (by (with_reducible repeat (first | apply Kd.V_alloc | apply Kd.V_drewN | apply Kd.V_drew)); exact HO_423001.out) (Kd.N_base ho62) hb)
                        have n2_ := Aside0.mk (Kd.N_elder' (by (with_reducible repeat (first | apply Kd.N_alloc | apply Kd.N_drewN | apply Kd.N_drew)); exact HO435.out) (Kd.N_base ho62) hb)
                        have n3_ := Aside0.mk (Kd.N_lower ho62 (below_size (by repeat (first | (with_reducible first | exact HB.out | apply below_alloc | apply pw_below_drewN | apply below_drew1 | refine below_set ?_ GE421.out | refine below_set ?_ GE422.out) | exact HB.out))))
                        have n4_ := Aside0.mk (blk_below (g := gb421) (o := .cells #[.int .i64 a0_0, .slice A0_1 l0_1.length c0_1] 24 (0, 0)) (by (with_reducible repeat (first | refine blk_drewN ?_ _ | refine blk_drew ?_ | refine blk_alloc ?_ _)); exact BK421.out) hb)
                        have n5_ := Aside0.mk (blk_below (g := gb422) (o := .cells #[.int .i64 a4_0, .slice A4_1 l4_1.length c4_1] 24 (0, 0)) (by (with_reducible repeat (first | refine blk_drewN ?_ _ | refine blk_drew ?_ | refine blk_alloc ?_ _)); exact BK422.out) hb)
                        have n6_ := Aside0.mk (below_step (by repeat (first | (with_reducible first | exact HB.out | apply below_alloc | apply pw_below_drewN | apply below_drew1 | refine below_set ?_ GE421.out | refine below_set ?_ GE422.out) | exact HB.out)) hb)
                        clear HO_3
                        clear HO_423001
                        clear HO435
                        clear BK421
                        clear BK422
                        clear HB
                        have HO_3 := n0_
                        have HO_423001 := n1_
                        have HO435 := n2_
                        have HO438 := n3_
                        have BK421 := n4_
                        have BK422 := n5_
                        have HB := n6_
                        clear n0_ n1_ n2_ n3_ n4_ n5_ n6_
                        clear hb ho62
                        refine hK.out _ _ ⟨(blk_cell BK421.out 0).trans rfl, (blk_cell BK421.out 1).trans rfl, (blk_cell BK422.out 0).trans rfl, (blk_cell BK422.out 1).trans rfl⟩ (fun hHeld => ?_)
                        clear hK K
                        refine norm_ (a' := ?_) ?_ ?_
                        rotate_left
                        · show Act.put _ (some 56) _ = _
                          simp only [Act.put, List.setIfInBounds_toArray, List.set_cons_zero, List.set_cons_succ, i64_w, i32_w]
                          rfl
                        exact norm_ (by simp only [putAll, Act.put, List.setIfInBounds_toArray, List.set_cons_zero, List.set_cons_succ]) (hCont (v431, v434, v437) _ ⟨hHeld, (by (with_reducible repeat (first | apply Kd.N_alloc | apply Kd.N_drewN | apply Kd.N_drew)); exact Kd.N_mono HO435.out (fun _ hk => ⟨hk.1.1, ⟨hk.2, ⟨hk.1.2.1, hk.1.2.2⟩⟩⟩)), (by (with_reducible repeat (first | apply Kd.N_alloc | apply Kd.N_drewN | apply Kd.N_drew)); exact HO438.out), (by (with_reducible repeat (first | apply Kd.V_alloc | apply Kd.V_drewN | apply Kd.V_drew)); exact Kd.V_mono HO_3.out (fun _ hk => ⟨hk.1.1.1, ⟨hk.1.2, ⟨hk.2, ⟨hk.1.1.2.1, hk.1.1.2.2⟩⟩⟩⟩)), (by (with_reducible repeat (first | apply Kd.V_alloc | apply Kd.V_drewN | apply Kd.V_drew)); exact Kd.V_mono HO_423001.out (fun _ hk => ⟨hk.1.1.1, ⟨hk.1.2, ⟨hk.2, ⟨hk.1.1.2.1, hk.1.1.2.2⟩⟩⟩⟩)), (by (with_reducible repeat (first | refine blk_drewN ?_ _ | refine blk_drew ?_ | refine blk_alloc ?_ _)); exact BK421.out), (by (with_reducible repeat (first | refine blk_drewN ?_ _ | refine blk_drew ?_ | refine blk_alloc ?_ _)); exact BK422.out), (by repeat (first | (with_reducible first | exact HB.out | apply below_alloc | apply pw_below_drewN | apply below_drew1 | refine below_set ?_ GE421.out | refine below_set ?_ GE422.out) | exact HB.out))⟩)
                      · skip
                        refine Kd.N_lit_step k24 _ 24 ?hg (N' := 56) ?hd (xs := ([(⟨a4_0, l4_1⟩ : S24)] : List (S24))) (inner := [.int .i64 a4_0, .slice A4_1 l4_1.length c4_1]) (ok := (fun k_ => ((P3_ k_ ∨ P4_1_ k_) ∨ w.heap.size ≤ k_) ∧ some k_ ≠ (v431 : Value).ownBlock ∧ k_ ≠ gb421 ∧ k_ ≠ gb422)) (okp := (fun k_ => ((P3_ k_ ∨ P4_1_ k_) ∨ w.heap.size ≤ k_) ∧ some k_ ≠ (v431 : Value).ownBlock ∧ k_ ≠ gb421 ∧ k_ ≠ gb422)) ?hr ?hp (fun _ hk => hk) ((show ∀ k_, w58.heap.size ≤ k_ → (fun k_ => ((P3_ k_ ∨ P4_1_ k_) ∨ w.heap.size ≤ k_) ∧ some k_ ≠ (v431 : Value).ownBlock ∧ k_ ≠ gb421 ∧ k_ ≠ gb422) k_ from fun k_ hk => ⟨(.inr (Nat.le_trans (below_size (by repeat (first | (with_reducible first | exact HB.out | apply below_alloc | apply pw_below_drewN | apply below_drew1 | refine below_set ?_ GE421.out | refine below_set ?_ GE422.out) | exact HB.out))) hk)), Kd.fresh' (Kd.N_lt (by (with_reducible repeat (first | apply Kd.N_alloc | apply Kd.N_drewN | apply Kd.N_drew)); exact HO432.out)) k_ hk, Kd.freshB (g := gb421) (o := .cells #[.int .i64 a0_0, .slice A0_1 l0_1.length c0_1] 24 (0, 0)) (by (with_reducible repeat (first | refine blk_drewN ?_ _ | refine blk_drew ?_ | refine blk_alloc ?_ _)); exact BK421.out) k_ hk, Kd.freshB (g := gb422) (o := .cells #[.int .i64 a4_0, .slice A4_1 l4_1.length c4_1] 24 (0, 0)) (by (with_reducible repeat (first | refine blk_drewN ?_ _ | refine blk_drew ?_ | refine blk_alloc ?_ _)); exact BK422.out) k_ hk⟩) _ (Nat.le_refl _)) (Below.refl _ _) (Nat.le_refl _) (by simp) ?_; (case hd => rfl); (case hg => rfl); (case hr => first | (go_simp; done) | (go_simp; rfl)); (case hp => exact (Reps.c2 (show Kd.FK k24 _ _ (⟨a4_0, l4_1⟩ : S24) [.int .i64 a4_0, .slice A4_1 l4_1.length c4_1] from (k24_mkF _ _ (⟨a4_0, l4_1⟩ : S24) (Kd.V_reads' (Kd.V_mono (ok' := (fun k_ => ((P3_ k_ ∨ P4_1_ k_) ∨ w.heap.size ≤ k_) ∧ some k_ ≠ (v431 : Value).ownBlock ∧ k_ ≠ gb421 ∧ k_ ≠ gb422)) (HO_423001.out) (fun k_ hk => ⟨hk.1.1, ⟨hk.2, ⟨hk.1.2.1, hk.1.2.2⟩⟩⟩))).2.1 (Kd.V_F (Kd.V_mono (ok' := (fun k_ => ((P3_ k_ ∨ P4_1_ k_) ∨ w.heap.size ≤ k_) ∧ some k_ ≠ (v431 : Value).ownBlock ∧ k_ ≠ gb421 ∧ k_ ≠ gb422)) (HO_423001.out) (fun k_ hk => ⟨hk.1.1, ⟨hk.2, ⟨hk.1.2.1, hk.1.2.2⟩⟩⟩))))) (Reps.none _ _)))
                        intro v437 w60 ho61 hb hg_ hnew_
                        clear hg_ hnew_
                        (first | rw [← Ny436.out] at ho61 | (simp only [Int.reduceToNat] at ho61; rw [← Ny436.out] at ho61))
                        have n0_ := Aside0.mk (Kd.V_elder' (by (with_reducible repeat (first | apply Kd.V_alloc | apply Kd.V_drewN | apply Kd.V_drew)); exact HO_3.out) (Kd.N_base ho61) hb)
                        have n1_ := Aside0.mk (Kd.V_elder' (by (with_reducible repeat (first | apply Kd.V_alloc | apply Kd.V_drewN | apply Kd.V_drew)); exact HO_423001.out) (Kd.N_base ho61) hb)
                        have n2_ := Aside0.mk (Kd.N_elder' (by (with_reducible repeat (first | apply Kd.N_alloc | apply Kd.N_drewN | apply Kd.N_drew)); exact HO432.out) (Kd.N_base ho61) hb)
                        have n3_ := Aside0.mk (Kd.N_lower ho61 (below_size (by repeat (first | (with_reducible first | exact HB.out | apply below_alloc | apply pw_below_drewN | apply below_drew1 | refine below_set ?_ GE421.out | refine below_set ?_ GE422.out) | exact HB.out))))
                        have n4_ := Aside0.mk (blk_below (g := gb421) (o := .cells #[.int .i64 a0_0, .slice A0_1 l0_1.length c0_1] 24 (0, 0)) (by (with_reducible repeat (first | refine blk_drewN ?_ _ | refine blk_drew ?_ | refine blk_alloc ?_ _)); exact BK421.out) hb)
                        have n5_ := Aside0.mk (blk_below (g := gb422) (o := .cells #[.int .i64 a4_0, .slice A4_1 l4_1.length c4_1] 24 (0, 0)) (by (with_reducible repeat (first | refine blk_drewN ?_ _ | refine blk_drew ?_ | refine blk_alloc ?_ _)); exact BK422.out) hb)
                        have n6_ := Aside0.mk (below_step (by repeat (first | (with_reducible first | exact HB.out | apply below_alloc | apply pw_below_drewN | apply below_drew1 | refine below_set ?_ GE421.out | refine below_set ?_ GE422.out) | exact HB.out)) hb)
                        clear HO_3
                        clear HO_423001
                        clear HO432
                        clear BK421
                        clear BK422
                        clear HB
                        have HO_3 := n0_
                        have HO_423001 := n1_
                        have HO432 := n2_
                        have HO438 := n3_
                        have BK421 := n4_
                        have BK422 := n5_
                        have HB := n6_
                        clear n0_ n1_ n2_ n3_ n4_ n5_ n6_
                        clear hb ho61
                        refine hK.out _ _ ⟨(blk_cell BK421.out 0).trans rfl, (blk_cell BK421.out 1).trans rfl, (blk_cell BK422.out 0).trans rfl, (blk_cell BK422.out 1).trans rfl⟩ (fun hHeld => ?_)
                        clear hK K
                        refine norm_ (a' := ?_) ?_ ?_
                        rotate_left
                        · show Act.put _ (some 56) _ = _
                          simp only [Act.put, List.setIfInBounds_toArray, List.set_cons_zero, List.set_cons_succ, i64_w, i32_w]
                          rfl
                        refine one_ (i := 5) (N := some 54) #[true, true, true, true, true, true, true, true, false, false, false, false, false, false, false] rfl rfl (one_of HT_.out (by kernel_rfl)) (by decide) (fun K hK => ?_)
                        refine Kd.N_append_rows_step k24 (w0 := w) w.heap.size (by rfl) (.tmp 52) (.tmp 53) 27 24 (.agg #[(.int .i64 0), (.slice none 0 0)]) 32 rfl Try.underlying27 info24 rfl (by decide) (by omega) v431 y430 l3 _ _ _ (fun k_ => ((P3_ k_ ∨ P4_1_ k_) ∨ w.heap.size ≤ k_) ∧ some k_ ≠ (v437 : Value).ownBlock ∧ k_ ≠ gb421 ∧ k_ ≠ gb422) (fun k_ => ((fun k_ => ((P3_ k_ ∨ P4_1_ k_) ∨ w.heap.size ≤ k_) ∧ some k_ ≠ (v437 : Value).ownBlock ∧ k_ ≠ gb421 ∧ k_ ≠ gb422)) k_ ∧ some k_ ≠ (v431 : Value).ownBlock) rfl rfl ?aO ?aR (fun _ hk => hk) ?aF ?aB ?aS ?aL ?_
                        (case aR => exact (by skip; exact Kd.V_F (Kd.V_mono (ok' := (fun k_ => ((fun k_ => ((P3_ k_ ∨ P4_1_ k_) ∨ w.heap.size ≤ k_) ∧ some k_ ≠ (v437 : Value).ownBlock ∧ k_ ≠ gb421 ∧ k_ ≠ gb422)) k_ ∧ some k_ ≠ (v431 : Value).ownBlock)) (HO_3.out) (fun k_ hk => ⟨⟨hk.1.1.1, ⟨hk.2, ⟨hk.1.1.2.1, hk.1.1.2.2⟩⟩⟩, hk.1.2⟩))))
                        (case aB => exact (by repeat (first | (with_reducible first | exact HB.out | apply below_alloc | apply pw_below_drewN | apply below_drew1 | refine below_set ?_ GE421.out | refine below_set ?_ GE422.out) | exact HB.out)))
                        (case aF => exact (fun k_ hk => ⟨(.inr (Nat.le_trans (below_size (by repeat (first | (with_reducible first | exact HB.out | apply below_alloc | apply pw_below_drewN | apply below_drew1 | refine below_set ?_ GE421.out | refine below_set ?_ GE422.out) | exact HB.out))) hk)), Kd.fresh' (Kd.N_lt (by (with_reducible repeat (first | apply Kd.N_alloc | apply Kd.N_drewN | apply Kd.N_drew)); exact HO438.out)) k_ hk, Kd.freshB (g := gb421) (o := .cells #[.int .i64 a0_0, .slice A0_1 l0_1.length c0_1] 24 (0, 0)) (by (with_reducible repeat (first | refine blk_drewN ?_ _ | refine blk_drew ?_ | refine blk_alloc ?_ _)); exact BK421.out) k_ hk, Kd.freshB (g := gb422) (o := .cells #[.int .i64 a4_0, .slice A4_1 l4_1.length c4_1] 24 (0, 0)) (by (with_reducible repeat (first | refine blk_drewN ?_ _ | refine blk_drew ?_ | refine blk_alloc ?_ _)); exact BK422.out) k_ hk⟩))
                        (case aO => exact (by (with_reducible repeat (first | apply Kd.N_alloc | apply Kd.N_drewN | apply Kd.N_drew)); exact Kd.N_mono HO432.out (fun _ hk => ⟨hk.1.1, ⟨hk.2, ⟨hk.1.2.1, hk.1.2.2⟩⟩⟩)))
                        (case aS => exact (below_size (by repeat (first | (with_reducible first | exact HB.out | apply below_alloc | apply pw_below_drewN | apply below_drew1 | refine below_set ?_ GE421.out | refine below_set ?_ GE422.out) | exact HB.out))))
                        (case aL => have := LMc34.out; omega)
                        intro v434 w62 ho hb hg hat
                        rw [← Ny433.out] at ho
                        have n0_ := Aside0.mk (Kd.V_afterv (ok := (fun k_ => ((P3_ k_ ∨ P4_1_ k_) ∨ w.heap.size ≤ k_) ∧ some k_ ≠ (v437 : Value).ownBlock ∧ k_ ≠ gb421 ∧ k_ ≠ gb422)) (by (with_reducible repeat (first | apply Kd.V_alloc | apply Kd.V_drewN | apply Kd.V_drew)); exact Kd.V_mono HO_3.out (fun _ hk => ⟨⟨hk.1.1.1, ⟨hk.2, ⟨hk.1.1.2.1, hk.1.1.2.2⟩⟩⟩, hk.1.2⟩)) hg hat)
                        have n1_ := Aside0.mk (Kd.V_afterv (ok := (fun k_ => ((P3_ k_ ∨ P4_1_ k_) ∨ w.heap.size ≤ k_) ∧ some k_ ≠ (v437 : Value).ownBlock ∧ k_ ≠ gb421 ∧ k_ ≠ gb422)) (by (with_reducible repeat (first | apply Kd.V_alloc | apply Kd.V_drewN | apply Kd.V_drew)); exact Kd.V_mono HO_423001.out (fun _ hk => ⟨⟨hk.1.1.1, ⟨hk.2, ⟨hk.1.1.2.1, hk.1.1.2.2⟩⟩⟩, hk.1.2⟩)) hg hat)
                        have n2_ := Aside0.mk (blk_grown (g := gb421) (o := .cells #[.int .i64 a0_0, .slice A0_1 l0_1.length c0_1] 24 (0, 0)) (by (with_reducible repeat (first | refine blk_drewN ?_ _ | refine blk_drew ?_ | refine blk_alloc ?_ _)); exact BK421.out) hg (Kd.N_away HO432.out (fun _ hk => hk.1.2.1)))
                        have n3_ := Aside0.mk (blk_grown (g := gb422) (o := .cells #[.int .i64 a4_0, .slice A4_1 l4_1.length c4_1] 24 (0, 0)) (by (with_reducible repeat (first | refine blk_drewN ?_ _ | refine blk_drew ?_ | refine blk_alloc ?_ _)); exact BK422.out) hg (Kd.N_away HO432.out (fun _ hk => hk.1.2.2)))
                        have n4_ := Aside0.mk (Kd.N_afterv (ok := (fun k_ => ((P3_ k_ ∨ P4_1_ k_) ∨ w.heap.size ≤ k_) ∧ k_ ≠ gb421 ∧ k_ ≠ gb422)) (by (with_reducible repeat (first | apply Kd.N_alloc | apply Kd.N_drewN | apply Kd.N_drew)); exact Kd.N_mono HO438.out (fun _ hk => ⟨⟨hk.1, ⟨hk.2.2.1, hk.2.2.2⟩⟩, hk.2.1⟩)) hg hat)
                        have n5_ := Aside0.mk (hb)
                        have n6_ := Aside0.mk (ho)
                        clear HO_3
                        clear HO_423001
                        clear BK421
                        clear BK422
                        clear HO438
                        clear HB
                        clear HO432
                        have HO_3 := n0_
                        have HO_423001 := n1_
                        have BK421 := n2_
                        have BK422 := n3_
                        have HO438 := n4_
                        have HB := n5_
                        have HO435 := n6_
                        clear n0_ n1_ n2_ n3_ n4_ n5_ n6_
                        clear ho hb hg hat
                        refine hK.out _ _ ⟨(blk_cell BK421.out 0).trans rfl, (blk_cell BK421.out 1).trans rfl, (blk_cell BK422.out 0).trans rfl, (blk_cell BK422.out 1).trans rfl⟩ (fun hHeld => ?_)
                        clear hK K
                        refine norm_ (a' := ?_) ?_ ?_
                        rotate_left
                        · show Act.put _ (some 54) _ = _
                          simp only [Act.put, List.setIfInBounds_toArray, List.set_cons_zero, List.set_cons_succ, i64_w, i32_w]
                          rfl
                        exact norm_ (by simp only [putAll, Act.put, List.setIfInBounds_toArray, List.set_cons_zero, List.set_cons_succ]) (hCont (v431, v434, v437) _ ⟨hHeld, (by (with_reducible repeat (first | apply Kd.N_alloc | apply Kd.N_drewN | apply Kd.N_drew)); exact HO435.out), (by (with_reducible repeat (first | apply Kd.N_alloc | apply Kd.N_drewN | apply Kd.N_drew)); exact Kd.N_mono HO438.out (fun _ hk => ⟨hk.1.1, ⟨hk.2, ⟨hk.1.2.1, hk.1.2.2⟩⟩⟩)), (by (with_reducible repeat (first | apply Kd.V_alloc | apply Kd.V_drewN | apply Kd.V_drew)); exact Kd.V_mono HO_3.out (fun _ hk => ⟨hk.1.1, ⟨hk.2, ⟨hk.1.2.1, ⟨hk.1.2.2.1, hk.1.2.2.2⟩⟩⟩⟩)), (by (with_reducible repeat (first | apply Kd.V_alloc | apply Kd.V_drewN | apply Kd.V_drew)); exact Kd.V_mono HO_423001.out (fun _ hk => ⟨hk.1.1, ⟨hk.2, ⟨hk.1.2.1, ⟨hk.1.2.2.1, hk.1.2.2.2⟩⟩⟩⟩)), (by (with_reducible repeat (first | refine blk_drewN ?_ _ | refine blk_drew ?_ | refine blk_alloc ?_ _)); exact BK421.out), (by (with_reducible repeat (first | refine blk_drewN ?_ _ | refine blk_drew ?_ | refine blk_alloc ?_ _)); exact BK422.out), (by repeat (first | (with_reducible first | exact HB.out | apply below_alloc | apply pw_below_drewN | apply below_drew1 | refine below_set ?_ GE421.out | refine below_set ?_ GE422.out) | exact HB.out))⟩)
                    · skip
                      refine Kd.N_lit_step k24 _ 24 ?hg (N' := 56) ?hd (xs := ([(⟨a4_0, l4_1⟩ : S24)] : List (S24))) (inner := [.int .i64 a4_0, .slice A4_1 l4_1.length c4_1]) (ok := (fun k_ => ((P3_ k_ ∨ P4_1_ k_) ∨ w.heap.size ≤ k_) ∧ k_ ≠ gb421 ∧ k_ ≠ gb422)) (okp := (fun k_ => ((P3_ k_ ∨ P4_1_ k_) ∨ w.heap.size ≤ k_) ∧ k_ ≠ gb421 ∧ k_ ≠ gb422)) ?hr ?hp (fun _ hk => hk) ((show ∀ k_, w57.heap.size ≤ k_ → (fun k_ => ((P3_ k_ ∨ P4_1_ k_) ∨ w.heap.size ≤ k_) ∧ k_ ≠ gb421 ∧ k_ ≠ gb422) k_ from fun k_ hk => ⟨(.inr (Nat.le_trans (below_size (by repeat (first | (with_reducible first | exact HB.out | apply below_alloc | apply pw_below_drewN | apply below_drew1 | refine below_set ?_ GE421.out | refine below_set ?_ GE422.out) | exact HB.out))) hk)), Kd.freshB (g := gb421) (o := .cells #[.int .i64 a0_0, .slice A0_1 l0_1.length c0_1] 24 (0, 0)) (by (with_reducible repeat (first | refine blk_drewN ?_ _ | refine blk_drew ?_ | refine blk_alloc ?_ _)); exact BK421.out) k_ hk, Kd.freshB (g := gb422) (o := .cells #[.int .i64 a4_0, .slice A4_1 l4_1.length c4_1] 24 (0, 0)) (by (with_reducible repeat (first | refine blk_drewN ?_ _ | refine blk_drew ?_ | refine blk_alloc ?_ _)); exact BK422.out) k_ hk⟩) _ (Nat.le_refl _)) (Below.refl _ _) (Nat.le_refl _) (by simp) ?_; (case hd => rfl); (case hg => rfl); (case hr => first | (go_simp; done) | (go_simp; rfl)); (case hp => exact (Reps.c2 (show Kd.FK k24 _ _ (⟨a4_0, l4_1⟩ : S24) [.int .i64 a4_0, .slice A4_1 l4_1.length c4_1] from (k24_mkF _ _ (⟨a4_0, l4_1⟩ : S24) (Kd.V_reads' (Kd.V_mono (ok' := (fun k_ => ((P3_ k_ ∨ P4_1_ k_) ∨ w.heap.size ≤ k_) ∧ k_ ≠ gb421 ∧ k_ ≠ gb422)) (HO_423001.out) (fun k_ hk => ⟨hk.1, ⟨hk.2.1, hk.2.2⟩⟩))).2.1 (Kd.V_F (Kd.V_mono (ok' := (fun k_ => ((P3_ k_ ∨ P4_1_ k_) ∨ w.heap.size ≤ k_) ∧ k_ ≠ gb421 ∧ k_ ≠ gb422)) (HO_423001.out) (fun k_ hk => ⟨hk.1, ⟨hk.2.1, hk.2.2⟩⟩))))) (Reps.none _ _)))
                      intro v437 w58 ho59 hb hg_ hnew_
                      clear hg_ hnew_
                      (first | rw [← Ny436.out] at ho59 | (simp only [Int.reduceToNat] at ho59; rw [← Ny436.out] at ho59))
                      have n0_ := Aside0.mk (Kd.V_elder' (by (with_reducible repeat (first | apply Kd.V_alloc | apply Kd.V_drewN | apply Kd.V_drew)); exact HO_3.out) (Kd.N_base ho59) hb)
                      have n1_ := Aside0.mk (Kd.V_elder' (by (with_reducible repeat (first | apply Kd.V_alloc | apply Kd.V_drewN | apply Kd.V_drew)); exact HO_423001.out) (Kd.N_base ho59) hb)
                      have n2_ := Aside0.mk (Kd.N_lower ho59 (below_size (by repeat (first | (with_reducible first | exact HB.out | apply below_alloc | apply pw_below_drewN | apply below_drew1 | refine below_set ?_ GE421.out | refine below_set ?_ GE422.out) | exact HB.out))))
                      have n3_ := Aside0.mk (blk_below (g := gb421) (o := .cells #[.int .i64 a0_0, .slice A0_1 l0_1.length c0_1] 24 (0, 0)) (by (with_reducible repeat (first | refine blk_drewN ?_ _ | refine blk_drew ?_ | refine blk_alloc ?_ _)); exact BK421.out) hb)
                      have n4_ := Aside0.mk (blk_below (g := gb422) (o := .cells #[.int .i64 a4_0, .slice A4_1 l4_1.length c4_1] 24 (0, 0)) (by (with_reducible repeat (first | refine blk_drewN ?_ _ | refine blk_drew ?_ | refine blk_alloc ?_ _)); exact BK422.out) hb)
                      have n5_ := Aside0.mk (below_step (by repeat (first | (with_reducible first | exact HB.out | apply below_alloc | apply pw_below_drewN | apply below_drew1 | refine below_set ?_ GE421.out | refine below_set ?_ GE422.out) | exact HB.out)) hb)
                      clear HO_3
                      clear HO_423001
                      clear BK421
                      clear BK422
                      clear HB
                      have HO_3 := n0_
                      have HO_423001 := n1_
                      have HO438 := n2_
                      have BK421 := n3_
                      have BK422 := n4_
                      have HB := n5_
                      clear n0_ n1_ n2_ n3_ n4_ n5_
                      clear hb ho59
                      refine hK.out _ _ ⟨(blk_cell BK421.out 0).trans rfl, (blk_cell BK421.out 1).trans rfl, (blk_cell BK422.out 0).trans rfl, (blk_cell BK422.out 1).trans rfl⟩ (fun hHeld => ?_)
                      clear hK K
                      refine norm_ (a' := ?_) ?_ ?_
                      rotate_left
                      · show Act.put _ (some 56) _ = _
                        simp only [Act.put, List.setIfInBounds_toArray, List.set_cons_zero, List.set_cons_succ, i64_w, i32_w]
                        rfl
                      refine one_ (i := 3) (N := some 52) #[true, true, true, true, true, false, true, true, false, false, false, false, false, false, false] rfl rfl (one_of HT_.out (by kernel_rfl)) (by decide) (fun K hK => ?_)
                      refine Kd.N_lit_step k24 _ 24 ?hg (N' := 52) ?hd (xs := ([] : List (S24))) (inner := []) (ok := (fun k_ => ((P3_ k_ ∨ P4_1_ k_) ∨ w.heap.size ≤ k_) ∧ some k_ ≠ (v437 : Value).ownBlock ∧ k_ ≠ gb421 ∧ k_ ≠ gb422)) (okp := (fun k_ => ((P3_ k_ ∨ P4_1_ k_) ∨ w.heap.size ≤ k_) ∧ some k_ ≠ (v437 : Value).ownBlock ∧ k_ ≠ gb421 ∧ k_ ≠ gb422)) ?hr ?hp (fun _ hk => hk) ((show ∀ k_, w58.heap.size ≤ k_ → (fun k_ => ((P3_ k_ ∨ P4_1_ k_) ∨ w.heap.size ≤ k_) ∧ some k_ ≠ (v437 : Value).ownBlock ∧ k_ ≠ gb421 ∧ k_ ≠ gb422) k_ from fun k_ hk => ⟨(.inr (Nat.le_trans (below_size (by repeat (first | (with_reducible first | exact HB.out | apply below_alloc | apply pw_below_drewN | apply below_drew1 | refine below_set ?_ GE421.out | refine below_set ?_ GE422.out) | exact HB.out))) hk)), Kd.fresh' (Kd.N_lt (by (with_reducible repeat (first | apply Kd.N_alloc | apply Kd.N_drewN | apply Kd.N_drew)); exact HO438.out)) k_ hk, Kd.freshB (g := gb421) (o := .cells #[.int .i64 a0_0, .slice A0_1 l0_1.length c0_1] 24 (0, 0)) (by (with_reducible repeat (first | refine blk_drewN ?_ _ | refine blk_drew ?_ | refine blk_alloc ?_ _)); exact BK421.out) k_ hk, Kd.freshB (g := gb422) (o := .cells #[.int .i64 a4_0, .slice A4_1 l4_1.length c4_1] 24 (0, 0)) (by (with_reducible repeat (first | refine blk_drewN ?_ _ | refine blk_drew ?_ | refine blk_alloc ?_ _)); exact BK422.out) k_ hk⟩) _ (Nat.le_refl _)) (Below.refl _ _) (Nat.le_refl _) (by simp) ?_; (case hd => rfl); (case hg => rfl); (case hr => first | (go_simp; done) | (go_simp; rfl)); (case hp => exact (Reps.none _ _))
                      intro v431 w60 ho61 hb hg_ hnew_
                      clear hg_ hnew_
                      (first | rw [← Ny430.out] at ho61 | (simp only [Int.reduceToNat] at ho61; rw [← Ny430.out] at ho61))
                      have n0_ := Aside0.mk (Kd.V_elder' (by (with_reducible repeat (first | apply Kd.V_alloc | apply Kd.V_drewN | apply Kd.V_drew)); exact HO_3.out) (Kd.N_base ho61) hb)
                      have n1_ := Aside0.mk (Kd.V_elder' (by (with_reducible repeat (first | apply Kd.V_alloc | apply Kd.V_drewN | apply Kd.V_drew)); exact HO_423001.out) (Kd.N_base ho61) hb)
                      have n2_ := Aside0.mk (Kd.N_elder' (by (with_reducible repeat (first | apply Kd.N_alloc | apply Kd.N_drewN | apply Kd.N_drew)); exact HO438.out) (Kd.N_base ho61) hb)
                      have n3_ := Aside0.mk (Kd.N_lower ho61 (below_size (by repeat (first | (with_reducible first | exact HB.out | apply below_alloc | apply pw_below_drewN | apply below_drew1 | refine below_set ?_ GE421.out | refine below_set ?_ GE422.out) | exact HB.out))))
                      have n4_ := Aside0.mk (blk_below (g := gb421) (o := .cells #[.int .i64 a0_0, .slice A0_1 l0_1.length c0_1] 24 (0, 0)) (by (with_reducible repeat (first | refine blk_drewN ?_ _ | refine blk_drew ?_ | refine blk_alloc ?_ _)); exact BK421.out) hb)
                      have n5_ := Aside0.mk (blk_below (g := gb422) (o := .cells #[.int .i64 a4_0, .slice A4_1 l4_1.length c4_1] 24 (0, 0)) (by (with_reducible repeat (first | refine blk_drewN ?_ _ | refine blk_drew ?_ | refine blk_alloc ?_ _)); exact BK422.out) hb)
                      have n6_ := Aside0.mk (below_step (by repeat (first | (with_reducible first | exact HB.out | apply below_alloc | apply pw_below_drewN | apply below_drew1 | refine below_set ?_ GE421.out | refine below_set ?_ GE422.out) | exact HB.out)) hb)
                      clear HO_3
                      clear HO_423001
                      clear HO438
                      clear BK421
                      clear BK422
                      clear HB
                      have HO_3 := n0_
                      have HO_423001 := n1_
                      have HO438 := n2_
                      have HO432 := n3_
                      have BK421 := n4_
                      have BK422 := n5_
                      have HB := n6_
                      clear n0_ n1_ n2_ n3_ n4_ n5_ n6_
                      clear hb ho61
                      refine hK.out _ _ ⟨(blk_cell BK421.out 0).trans rfl, (blk_cell BK421.out 1).trans rfl, (blk_cell BK422.out 0).trans rfl, (blk_cell BK422.out 1).trans rfl⟩ (fun hHeld => ?_)
                      clear hK K
                      refine norm_ (a' := ?_) ?_ ?_
                      rotate_left
                      · show Act.put _ (some 52) _ = _
                        simp only [Act.put, List.setIfInBounds_toArray, List.set_cons_zero, List.set_cons_succ, i64_w, i32_w]
                        rfl
                      refine one_ (i := 5) (N := some 54) #[true, true, true, true, true, true, true, true, false, false, false, false, false, false, false] rfl rfl (one_of HT_.out (by kernel_rfl)) (by decide) (fun K hK => ?_)
                      refine Kd.N_append_rows_step k24 (w0 := w) w.heap.size (by rfl) (.tmp 52) (.tmp 53) 27 24 (.agg #[(.int .i64 0), (.slice none 0 0)]) 32 rfl Try.underlying27 info24 rfl (by decide) (by omega) v431 y430 l3 _ _ _ (fun k_ => ((P3_ k_ ∨ P4_1_ k_) ∨ w.heap.size ≤ k_) ∧ some k_ ≠ (v437 : Value).ownBlock ∧ k_ ≠ gb421 ∧ k_ ≠ gb422) (fun k_ => ((fun k_ => ((P3_ k_ ∨ P4_1_ k_) ∨ w.heap.size ≤ k_) ∧ some k_ ≠ (v437 : Value).ownBlock ∧ k_ ≠ gb421 ∧ k_ ≠ gb422)) k_ ∧ some k_ ≠ (v431 : Value).ownBlock) rfl rfl ?aO ?aR (fun _ hk => hk) ?aF ?aB ?aS ?aL ?_
                      (case aR => exact (by skip; exact Kd.V_F (Kd.V_mono (ok' := (fun k_ => ((fun k_ => ((P3_ k_ ∨ P4_1_ k_) ∨ w.heap.size ≤ k_) ∧ some k_ ≠ (v437 : Value).ownBlock ∧ k_ ≠ gb421 ∧ k_ ≠ gb422)) k_ ∧ some k_ ≠ (v431 : Value).ownBlock)) (HO_3.out) (fun k_ hk => ⟨⟨hk.1.1.1, ⟨hk.1.2, ⟨hk.1.1.2.1, hk.1.1.2.2⟩⟩⟩, hk.2⟩))))
                      (case aB => exact (by repeat (first | (with_reducible first | exact HB.out | apply below_alloc | apply pw_below_drewN | apply below_drew1 | refine below_set ?_ GE421.out | refine below_set ?_ GE422.out) | exact HB.out)))
                      (case aF => exact (fun k_ hk => ⟨(.inr (Nat.le_trans (below_size (by repeat (first | (with_reducible first | exact HB.out | apply below_alloc | apply pw_below_drewN | apply below_drew1 | refine below_set ?_ GE421.out | refine below_set ?_ GE422.out) | exact HB.out))) hk)), Kd.fresh' (Kd.N_lt (by (with_reducible repeat (first | apply Kd.N_alloc | apply Kd.N_drewN | apply Kd.N_drew)); exact HO438.out)) k_ hk, Kd.freshB (g := gb421) (o := .cells #[.int .i64 a0_0, .slice A0_1 l0_1.length c0_1] 24 (0, 0)) (by (with_reducible repeat (first | refine blk_drewN ?_ _ | refine blk_drew ?_ | refine blk_alloc ?_ _)); exact BK421.out) k_ hk, Kd.freshB (g := gb422) (o := .cells #[.int .i64 a4_0, .slice A4_1 l4_1.length c4_1] 24 (0, 0)) (by (with_reducible repeat (first | refine blk_drewN ?_ _ | refine blk_drew ?_ | refine blk_alloc ?_ _)); exact BK422.out) k_ hk⟩))
                      (case aO => exact (by (with_reducible repeat (first | apply Kd.N_alloc | apply Kd.N_drewN | apply Kd.N_drew)); exact HO432.out))
                      (case aS => exact (below_size (by repeat (first | (with_reducible first | exact HB.out | apply below_alloc | apply pw_below_drewN | apply below_drew1 | refine below_set ?_ GE421.out | refine below_set ?_ GE422.out) | exact HB.out))))
                      (case aL => have := LMc34.out; omega)
                      intro v434 w62 ho hb hg hat
                      rw [← Ny433.out] at ho
                      have n0_ := Aside0.mk (Kd.V_afterv (ok := (fun k_ => ((P3_ k_ ∨ P4_1_ k_) ∨ w.heap.size ≤ k_) ∧ some k_ ≠ (v437 : Value).ownBlock ∧ k_ ≠ gb421 ∧ k_ ≠ gb422)) (by (with_reducible repeat (first | apply Kd.V_alloc | apply Kd.V_drewN | apply Kd.V_drew)); exact Kd.V_mono HO_3.out (fun _ hk => ⟨⟨hk.1.1.1, ⟨hk.1.2, ⟨hk.1.1.2.1, hk.1.1.2.2⟩⟩⟩, hk.2⟩)) hg hat)
                      have n1_ := Aside0.mk (Kd.V_afterv (ok := (fun k_ => ((P3_ k_ ∨ P4_1_ k_) ∨ w.heap.size ≤ k_) ∧ some k_ ≠ (v437 : Value).ownBlock ∧ k_ ≠ gb421 ∧ k_ ≠ gb422)) (by (with_reducible repeat (first | apply Kd.V_alloc | apply Kd.V_drewN | apply Kd.V_drew)); exact Kd.V_mono HO_423001.out (fun _ hk => ⟨⟨hk.1.1.1, ⟨hk.1.2, ⟨hk.1.1.2.1, hk.1.1.2.2⟩⟩⟩, hk.2⟩)) hg hat)
                      have n2_ := Aside0.mk (blk_grown (g := gb421) (o := .cells #[.int .i64 a0_0, .slice A0_1 l0_1.length c0_1] 24 (0, 0)) (by (with_reducible repeat (first | refine blk_drewN ?_ _ | refine blk_drew ?_ | refine blk_alloc ?_ _)); exact BK421.out) hg (Kd.N_away HO432.out (fun _ hk => hk.2.2.1)))
                      have n3_ := Aside0.mk (blk_grown (g := gb422) (o := .cells #[.int .i64 a4_0, .slice A4_1 l4_1.length c4_1] 24 (0, 0)) (by (with_reducible repeat (first | refine blk_drewN ?_ _ | refine blk_drew ?_ | refine blk_alloc ?_ _)); exact BK422.out) hg (Kd.N_away HO432.out (fun _ hk => hk.2.2.2)))
                      have n4_ := Aside0.mk (Kd.N_afterv (ok := (fun k_ => ((P3_ k_ ∨ P4_1_ k_) ∨ w.heap.size ≤ k_) ∧ k_ ≠ gb421 ∧ k_ ≠ gb422)) (by (with_reducible repeat (first | apply Kd.N_alloc | apply Kd.N_drewN | apply Kd.N_drew)); exact HO438.out) hg hat)
                      have n5_ := Aside0.mk (hb)
                      have n6_ := Aside0.mk (ho)
                      clear HO_3
                      clear HO_423001
                      clear BK421
                      clear BK422
                      clear HO438
                      clear HB
                      clear HO432
                      have HO_3 := n0_
                      have HO_423001 := n1_
                      have BK421 := n2_
                      have BK422 := n3_
                      have HO438 := n4_
                      have HB := n5_
                      have HO435 := n6_
                      clear n0_ n1_ n2_ n3_ n4_ n5_ n6_
                      clear ho hb hg hat
                      refine hK.out _ _ ⟨(blk_cell BK421.out 0).trans rfl, (blk_cell BK421.out 1).trans rfl, (blk_cell BK422.out 0).trans rfl, (blk_cell BK422.out 1).trans rfl⟩ (fun hHeld => ?_)
                      clear hK K
                      refine norm_ (a' := ?_) ?_ ?_
                      rotate_left
                      · show Act.put _ (some 54) _ = _
                        simp only [Act.put, List.setIfInBounds_toArray, List.set_cons_zero, List.set_cons_succ, i64_w, i32_w]
                        rfl
                      exact norm_ (by simp only [putAll, Act.put, List.setIfInBounds_toArray, List.set_cons_zero, List.set_cons_succ]) (hCont (v431, v434, v437) _ ⟨hHeld, (by (with_reducible repeat (first | apply Kd.N_alloc | apply Kd.N_drewN | apply Kd.N_drew)); exact HO435.out), (by (with_reducible repeat (first | apply Kd.N_alloc | apply Kd.N_drewN | apply Kd.N_drew)); exact Kd.N_mono HO438.out (fun _ hk => ⟨hk.1.1, ⟨hk.2, ⟨hk.1.2.1, hk.1.2.2⟩⟩⟩)), (by (with_reducible repeat (first | apply Kd.V_alloc | apply Kd.V_drewN | apply Kd.V_drew)); exact Kd.V_mono HO_3.out (fun _ hk => ⟨hk.1.1, ⟨hk.2, ⟨hk.1.2.1, ⟨hk.1.2.2.1, hk.1.2.2.2⟩⟩⟩⟩)), (by (with_reducible repeat (first | apply Kd.V_alloc | apply Kd.V_drewN | apply Kd.V_drew)); exact Kd.V_mono HO_423001.out (fun _ hk => ⟨hk.1.1, ⟨hk.2, ⟨hk.1.2.1, ⟨hk.1.2.2.1, hk.1.2.2.2⟩⟩⟩⟩)), (by (with_reducible repeat (first | refine blk_drewN ?_ _ | refine blk_drew ?_ | refine blk_alloc ?_ _)); exact BK421.out), (by (with_reducible repeat (first | refine blk_drewN ?_ _ | refine blk_drew ?_ | refine blk_alloc ?_ _)); exact BK422.out), (by repeat (first | (with_reducible first | exact HB.out | apply below_alloc | apply pw_below_drewN | apply below_drew1 | refine below_set ?_ GE421.out | refine below_set ?_ GE422.out) | exact HB.out))⟩)
                  rintro ⟨v431, v434, v437⟩ w63 ⟨hS_, h0_, h1_, h2_, h3_, h4_, h5_, h6_⟩
                  have n0_ : Aside0 (Kd.N k24 24 w63 w.heap.size (fun k_ => ((P3_ k_ ∨ P4_1_ k_) ∨ w.heap.size ≤ k_) ∧ some k_ ≠ (v437 : Value).ownBlock ∧ k_ ≠ gb421 ∧ k_ ≠ gb422) v434 y433) := ⟨h0_⟩
                  have n1_ : Aside0 (Kd.N k24 24 w63 w.heap.size (fun k_ => ((P3_ k_ ∨ P4_1_ k_) ∨ w.heap.size ≤ k_) ∧ some k_ ≠ (v434 : Value).ownBlock ∧ k_ ≠ gb421 ∧ k_ ≠ gb422) v437 y436) := ⟨h1_⟩
                  have n2_ : Aside0 (Kd.V k24 24 w63 w.heap.size (fun k_ => ((P3_ k_ ∨ P4_1_ k_) ∨ w.heap.size ≤ k_) ∧ some k_ ≠ (v434 : Value).ownBlock ∧ some k_ ≠ (v437 : Value).ownBlock ∧ k_ ≠ gb421 ∧ k_ ≠ gb422) (.slice A3 l3.length c3) l3) := ⟨h2_⟩
                  have n3_ : Aside0 (Kd.V k57 57 w63 w.heap.size (fun k_ => ((P3_ k_ ∨ P4_1_ k_) ∨ w.heap.size ≤ k_) ∧ some k_ ≠ (v434 : Value).ownBlock ∧ some k_ ≠ (v437 : Value).ownBlock ∧ k_ ≠ gb421 ∧ k_ ≠ gb422) (.slice A4_1 l4_1.length c4_1) l4_1) := ⟨h3_⟩
                  have n4_ : Aside0 (w63.heap[gb421]? = some (.cells #[.int .i64 a0_0, .slice A0_1 l0_1.length c0_1] 24 (0, 0))) := ⟨h4_⟩
                  have n5_ : Aside0 (w63.heap[gb422]? = some (.cells #[.int .i64 a4_0, .slice A4_1 l4_1.length c4_1] 24 (0, 0))) := ⟨h5_⟩
                  have n6_ : Aside0 (Below w.heap.size w w63) := ⟨h6_⟩
                  clear HO_3
                  clear HO_423001
                  clear BK421
                  clear BK422
                  clear HB
                  clear h0_ h1_ h2_ h3_ h4_ h5_ h6_
                  have HO435 := n0_
                  have HO438 := n1_
                  have HO_3 := n2_
                  have HO_423001 := n3_
                  have BK421 := n4_
                  have BK422 := n5_
                  have HB := n6_
                  clear n0_ n1_ n2_ n3_ n4_ n5_ n6_
                  have hHeld : w63.cell? ⟨gb421, 0, none⟩ = some (.int .i64 a0_0) ∧ w63.cell? ⟨gb421, 1, none⟩ = some (.slice A0_1 l0_1.length c0_1) ∧ w63.cell? ⟨gb422, 0, none⟩ = some (.int .i64 a4_0) ∧ w63.cell? ⟨gb422, 1, none⟩ = some (.slice A4_1 l4_1.length c4_1) := hS_
                  obtain ⟨Ao65, co65, eo65⟩ := Kd.N_slice HO438.out
                  (first | subst eo65 | (injection eo65 with f1_ f2_ f3_; have f4_ := f1_.symm; have f5_ := f3_.symm; clear f1_ f2_ f3_; subst f4_; subst f5_))
                  refine norm_ (a' := ?_) ?_ ?_
                  rotate_left
                  · simp only [putAll, Act.put, List.setIfInBounds_toArray, List.set_cons_zero, List.set_cons_succ]
                    rfl
                  refine one_ (i := 8) (N := some 57) #[true, true, true, true, true, true, true, true, true, false, false, false, false, false, false] rfl rfl (one_of HT_.out (by kernel_rfl)) (by decide) (fun K hK => ?_)
                  refine Kd.N_append_rows_step k24 (w0 := w) w.heap.size (by rfl) (.tmp 54) (.tmp 56) 27 24 (.agg #[(.int .i64 0), (.slice none 0 0)]) 32 rfl Try.underlying27 info24 rfl (by decide) (by omega) v434 y433 y436 _ _ _ (fun k_ => ((P3_ k_ ∨ P4_1_ k_) ∨ w.heap.size ≤ k_) ∧ k_ ≠ gb421 ∧ k_ ≠ gb422) (fun k_ => ((fun k_ => ((P3_ k_ ∨ P4_1_ k_) ∨ w.heap.size ≤ k_) ∧ k_ ≠ gb421 ∧ k_ ≠ gb422)) k_ ∧ some k_ ≠ (v434 : Value).ownBlock) rfl rfl ?aO ?aR (fun _ hk => hk) ?aF ?aB ?aS ?aL ?_
                  (case aR => exact (by skip; exact Kd.N_F (Kd.N_mono (ok' := (fun k_ => ((fun k_ => ((P3_ k_ ∨ P4_1_ k_) ∨ w.heap.size ≤ k_) ∧ k_ ≠ gb421 ∧ k_ ≠ gb422)) k_ ∧ some k_ ≠ (v434 : Value).ownBlock)) (HO438.out) (fun k_ hk => ⟨⟨hk.1, ⟨hk.2.2.1, hk.2.2.2⟩⟩, hk.2.1⟩))))
                  (case aB => exact (by repeat (first | (with_reducible first | exact HB.out | apply below_alloc | apply pw_below_drewN | apply below_drew1 | refine below_set ?_ GE421.out | refine below_set ?_ GE422.out) | exact HB.out)))
                  (case aF => exact (fun k_ hk => ⟨(.inr (Nat.le_trans (below_size (by repeat (first | (with_reducible first | exact HB.out | apply below_alloc | apply pw_below_drewN | apply below_drew1 | refine below_set ?_ GE421.out | refine below_set ?_ GE422.out) | exact HB.out))) hk)), Kd.freshB (g := gb421) (o := .cells #[.int .i64 a0_0, .slice A0_1 l0_1.length c0_1] 24 (0, 0)) (by (with_reducible repeat (first | refine blk_drewN ?_ _ | refine blk_drew ?_ | refine blk_alloc ?_ _)); exact BK421.out) k_ hk, Kd.freshB (g := gb422) (o := .cells #[.int .i64 a4_0, .slice A4_1 l4_1.length c4_1] 24 (0, 0)) (by (with_reducible repeat (first | refine blk_drewN ?_ _ | refine blk_drew ?_ | refine blk_alloc ?_ _)); exact BK422.out) k_ hk⟩))
                  (case aO => exact (by (with_reducible repeat (first | apply Kd.N_alloc | apply Kd.N_drewN | apply Kd.N_drew)); exact Kd.N_mono HO435.out (fun _ hk => ⟨hk.1, ⟨hk.2.2.1, hk.2.2.2⟩⟩)))
                  (case aS => exact (below_size (by repeat (first | (with_reducible first | exact HB.out | apply below_alloc | apply pw_below_drewN | apply below_drew1 | refine below_set ?_ GE421.out | refine below_set ?_ GE422.out) | exact HB.out))))
                  (case aL => have := LMc35.out; omega)
                  intro v440 w64 ho hb hg hat
                  rw [← Ny439.out] at ho
                  have n0_ := Aside0.mk (Kd.V_afterv (ok := (fun k_ => ((P3_ k_ ∨ P4_1_ k_) ∨ w.heap.size ≤ k_) ∧ some k_ ≠ (.slice Ao65 y436.length co65 : Value).ownBlock ∧ k_ ≠ gb421 ∧ k_ ≠ gb422)) (by (with_reducible repeat (first | apply Kd.V_alloc | apply Kd.V_drewN | apply Kd.V_drew)); exact Kd.V_mono HO_3.out (fun _ hk => ⟨⟨hk.1, ⟨hk.2.2.1, ⟨hk.2.2.2.1, hk.2.2.2.2⟩⟩⟩, hk.2.1⟩)) hg hat)
                  have n1_ := Aside0.mk (Kd.V_afterv (ok := (fun k_ => ((P3_ k_ ∨ P4_1_ k_) ∨ w.heap.size ≤ k_) ∧ some k_ ≠ (.slice Ao65 y436.length co65 : Value).ownBlock ∧ k_ ≠ gb421 ∧ k_ ≠ gb422)) (by (with_reducible repeat (first | apply Kd.V_alloc | apply Kd.V_drewN | apply Kd.V_drew)); exact Kd.V_mono HO_423001.out (fun _ hk => ⟨⟨hk.1, ⟨hk.2.2.1, ⟨hk.2.2.2.1, hk.2.2.2.2⟩⟩⟩, hk.2.1⟩)) hg hat)
                  have n2_ := Aside0.mk (blk_grown (g := gb421) (o := .cells #[.int .i64 a0_0, .slice A0_1 l0_1.length c0_1] 24 (0, 0)) (by (with_reducible repeat (first | refine blk_drewN ?_ _ | refine blk_drew ?_ | refine blk_alloc ?_ _)); exact BK421.out) hg (Kd.N_away HO435.out (fun _ hk => hk.2.2.1)))
                  have n3_ := Aside0.mk (blk_grown (g := gb422) (o := .cells #[.int .i64 a4_0, .slice A4_1 l4_1.length c4_1] 24 (0, 0)) (by (with_reducible repeat (first | refine blk_drewN ?_ _ | refine blk_drew ?_ | refine blk_alloc ?_ _)); exact BK422.out) hg (Kd.N_away HO435.out (fun _ hk => hk.2.2.2)))
                  have n4_ := Aside0.mk (Kd.N_afterv (ok := (fun k_ => ((P3_ k_ ∨ P4_1_ k_) ∨ w.heap.size ≤ k_) ∧ k_ ≠ gb421 ∧ k_ ≠ gb422)) (by (with_reducible repeat (first | apply Kd.N_alloc | apply Kd.N_drewN | apply Kd.N_drew)); exact Kd.N_mono HO438.out (fun _ hk => ⟨⟨hk.1, ⟨hk.2.2.1, hk.2.2.2⟩⟩, hk.2.1⟩)) hg hat)
                  have n5_ := Aside0.mk (hb)
                  have n6_ := Aside0.mk (ho)
                  clear HO_3
                  clear HO_423001
                  clear BK421
                  clear BK422
                  clear HO438
                  clear HB
                  clear HO435
                  have HO_3 := n0_
                  have HO_423001 := n1_
                  have BK421 := n2_
                  have BK422 := n3_
                  have HO438 := n4_
                  have HB := n5_
                  have HO441 := n6_
                  clear n0_ n1_ n2_ n3_ n4_ n5_ n6_
                  clear ho hb hg hat
                  obtain ⟨Ao66, co66, eo66⟩ := Kd.N_slice HO441.out
                  (first | subst eo66 | (injection eo66 with f1_ f2_ f3_; have f4_ := f1_.symm; have f5_ := f3_.symm; clear f1_ f2_ f3_; subst f4_; subst f5_))
                  refine hK.out _ _ ⟨(blk_cell BK421.out 0).trans rfl, (blk_cell BK421.out 1).trans rfl, (blk_cell BK422.out 0).trans rfl, (blk_cell BK422.out 1).trans rfl⟩ (fun hHeld => ?_)
                  clear hK K
                  refine norm_ (a' := ?_) ?_ ?_
                  rotate_left
                  · show Act.put _ (some 57) _ = _
                    simp only [Act.put, List.setIfInBounds_toArray, List.set_cons_zero, List.set_cons_succ, i64_w, i32_w]
                    rfl
                  refine one_ (i := 9) (N := some 58) #[true, true, true, true, true, true, true, true, true, true, false, false, false, false, false] rfl rfl (one_of HT_.out (by kernel_rfl)) (by decide) (fun K hK => ?_)
                  refine goes_ Try.func12 (by kernel_rfl) rfl #[.agg #[.int .i64 a0_0, .slice A0_1 l0_1.length c0_1], .slice A1 l1.length c1, .slice A2 l2.length c2, .slice Ao66 y439.length co66] (by rfl) rfl rfl (by (try simp only [List.map_toArray, List.map_cons, List.map_nil]); first | done | rfl | (simp only [List.length_drop, List.length_take]; rfl)) ?_
                  with_reducible refine (rival_Judge.calls a0_0 _ _ l0_1 _ _ l1 _ _ l2 _ _ y439 t442 t443 _ ?side1 ?side2 ?side3 ?side4 ?side5 ?side6 ?side7 ?side8 A36.out).mono ?_
                  (case side1 => repeat (first | exact (Kd.C_below HR0_1.out HB.out) | (with_reducible refine Kd.C_alloc ?_ _) | (with_reducible refine Kd.C_drewN ?_ _) | (with_reducible refine Kd.C_drew ?_)))
                  (case side2 => exact HC0_1.out)
                  (case side3 => repeat (first | exact (Kd.C_below HR1.out HB.out) | (with_reducible refine Kd.C_alloc ?_ _) | (with_reducible refine Kd.C_drewN ?_ _) | (with_reducible refine Kd.C_drew ?_)))
                  (case side4 => exact HC1.out)
                  (case side5 => repeat (first | exact (Kd.C_below HR2.out HB.out) | (with_reducible refine Kd.C_alloc ?_ _) | (with_reducible refine Kd.C_drewN ?_ _) | (with_reducible refine Kd.C_drew ?_)))
                  (case side6 => exact HC2.out)
                  (case side7 => repeat (first | exact (Kd.N_reads' HO441.out).2.2 | (with_reducible refine Kd.C_alloc ?_ _) | (with_reducible refine Kd.C_drewN ?_ _) | (with_reducible refine Kd.C_drew ?_)))
                  (case side8 => exact (Kd.N_reads' HO441.out).2.1)
                  rintro e w67 ⟨rfl, hb⟩
                  refine ⟨_, rfl, ?_⟩
                  have n0_ := Aside0.mk (Kd.V_below (by (with_reducible repeat (first | apply Kd.V_alloc | apply Kd.V_drewN | apply Kd.V_drew)); exact HO_3.out) hb)
                  have n1_ := Aside0.mk (Kd.V_below (by (with_reducible repeat (first | apply Kd.V_alloc | apply Kd.V_drewN | apply Kd.V_drew)); exact HO_423001.out) hb)
                  have n2_ := Aside0.mk (Kd.N_below (by (with_reducible repeat (first | apply Kd.N_alloc | apply Kd.N_drewN | apply Kd.N_drew)); exact HO438.out) hb)
                  have n3_ := Aside0.mk (Kd.N_below (by (with_reducible repeat (first | apply Kd.N_alloc | apply Kd.N_drewN | apply Kd.N_drew)); exact HO441.out) hb)
                  have n4_ := Aside0.mk (blk_below (g := gb421) (o := .cells #[.int .i64 a0_0, .slice A0_1 l0_1.length c0_1] 24 (0, 0)) (by (with_reducible repeat (first | refine blk_drewN ?_ _ | refine blk_drew ?_ | refine blk_alloc ?_ _)); exact BK421.out) hb)
                  have n5_ := Aside0.mk (blk_below (g := gb422) (o := .cells #[.int .i64 a4_0, .slice A4_1 l4_1.length c4_1] 24 (0, 0)) (by (with_reducible repeat (first | refine blk_drewN ?_ _ | refine blk_drew ?_ | refine blk_alloc ?_ _)); exact BK422.out) hb)
                  have n6_ := Aside0.mk (below_step (by repeat (first | (with_reducible first | exact HB.out | apply below_alloc | apply pw_below_drewN | apply below_drew1 | refine below_set ?_ GE421.out | refine below_set ?_ GE422.out) | exact HB.out)) hb)
                  clear HO_3
                  clear HO_423001
                  clear HO438
                  clear HO441
                  clear BK421
                  clear BK422
                  clear HB
                  have HO_3 := n0_
                  have HO_423001 := n1_
                  have HO438 := n2_
                  have HO441 := n3_
                  have BK421 := n4_
                  have BK422 := n5_
                  have HB := n6_
                  clear n0_ n1_ n2_ n3_ n4_ n5_ n6_
                  (try clear hb)
                  (try clear hb2)
                  (try clear hk)
                  (try clear hi)
                  refine hK.out _ _ ⟨(blk_cell BK421.out 0).trans rfl, (blk_cell BK421.out 1).trans rfl, (blk_cell BK422.out 0).trans rfl, (blk_cell BK422.out 1).trans rfl⟩ (fun hHeld => ?_)
                  clear hK K
                  refine norm_ (a' := ?_) ?_ ?_
                  rotate_left
                  · show Act.put _ (some 58) _ = _
                    simp only [Act.put, List.setIfInBounds_toArray, List.set_cons_zero, List.set_cons_succ, i64_w, i32_w]
                    rfl
                  refine pure_ (i := 10) (N := some 48) (v := ?_) (a' := ?_) #[true, true, true, true, true, true, true, true, true, true, true, false, false, false, false] rfl rfl (any_of HT_.out (by kernel_rfl)) (fun _ _ _ h => h) (Or.inl ⟨by rfl, ?_⟩) ?_ ?_
                  rotate_left
                  · intro w'
                    go_simp
                    with_reducible rfl
                  rotate_left
                  · simp only [Act.put, List.setIfInBounds_toArray, List.set_cons_zero, List.set_cons_succ, i64_w, i32_w]
                    rfl
                  refine pure_ (i := 11) (N := some 59) (v := ?_) (a' := ?_) #[true, true, true, true, true, true, true, true, true, true, true, true, false, false, false] rfl rfl (any_of HT_.out (by kernel_rfl)) (fun _ _ _ h => h) (Or.inl ⟨by rfl, ?_⟩) ?_ ?_
                  rotate_left
                  · intro w'
                    go_simp
                    with_reducible rfl
                  rotate_left
                  · simp only [Act.put, List.setIfInBounds_toArray, List.set_cons_zero, List.set_cons_succ, i64_w, i32_w]
                    rfl
                  refine pure_ (i := 12) (N := some 60) (v := ?_) (a' := ?_) #[true, true, true, true, true, true, true, true, true, true, true, true, true, false, false] rfl rfl (any_of HT_.out (by kernel_rfl)) (fun _ _ _ h => h) (Or.inl ⟨by rfl, ?_⟩) ?_ ?_
                  rotate_left
                  · intro w'
                    go_simp
                    with_reducible rfl
                  rotate_left
                  · simp only [Act.put, List.setIfInBounds_toArray, List.set_cons_zero, List.set_cons_succ, i64_w, i32_w]
                    rfl
                  refine pure_ (i := 13) (N := some 14) (v := ?_) (a' := ?_) #[true, true, true, true, true, true, true, true, true, true, true, true, true, true, false] rfl rfl (any_of HT_.out (by kernel_rfl)) (fun _ _ _ h => h) (Or.inl ⟨by rfl, ?_⟩) ?_ ?_
                  rotate_left
                  · intro w'
                    go_simp
                    with_reducible rfl
                  rotate_left
                  · simp only [Act.put, List.setIfInBounds_toArray, List.set_cons_zero, List.set_cons_succ, i64_w, i32_w]
                    rfl
                  refine pure_ (i := 14) (N := some 15) (v := ?_) (a' := ?_) #[true, true, true, true, true, true, true, true, true, true, true, true, true, true, true] rfl rfl (any_of HT_.out (by kernel_rfl)) (fun _ _ _ h => h) (Or.inl ⟨by rfl, ?_⟩) ?_ ?_
                  rotate_left
                  · intro w'
                    go_simp
                    with_reducible rfl
                  rotate_left
                  · simp only [Act.put, List.setIfInBounds_toArray, List.set_cons_zero, List.set_cons_succ, i64_w, i32_w]
                    rfl
                  refine done_ (done_of HT_.out (by kernel_rfl)) ?_
                  try go_wp2
                  go_ret
                  exact ⟨by first | rfl | (simp [errW_none, errW_some] <;> rfl) | (simp [*, errW_none, errW_some] <;> rfl), by repeat (first | (with_reducible first | exact HB.out | apply below_alloc | apply pw_below_drewN | apply below_drew1 | refine below_set ?_ GE421.out | refine below_set ?_ GE422.out) | exact HB.out)⟩
              · rw [if_neg c38] at H
                have c38b0 : (t429 == 0) = false := beq_eq_false_iff_ne.mpr c38
                have c38b1 : (t429 != 0) = true := bne_iff_ne.mpr c38
                by_cases c68 : t428 = true
                · subst c68
                  have H1 : (some false) = some r := by rw [if_pos rfl] at H; exact H
                  rw [HTr_] at H1
                  exact absurd (Option.some.inj H1) (by decide)
                · replace c68 := Bool.eq_false_iff.mpr c68
                  subst c68
                  have H1 : (if t443 = 0 then (some false) else (some true)) = some r := by rw [if_neg (show ¬ (false = true) by decide)] at H; exact H
                  clear H
                  have H := H1
                  clear H1
                  by_cases c83 : t443 = 0
                  · rw [if_pos c83] at H
                    rw [HTr_] at H
                    exact absurd (Option.some.inj H) (by decide)
                  · rw [if_neg c83] at H
                    have c83b0 : (t443 == 0) = false := beq_eq_false_iff_ne.mpr c83
                    have c83b1 : (t443 != 0) = true := bne_iff_ne.mpr c83
                    obtain rfl := Option.some.inj H
                    have hnb98 := NB421_422.out
                    have hnc98 := NB422_421.out
                    have hcz99_0 : wc.cell? ⟨gb421, 0, none⟩ = some (.int .i64 a0_0) := (blk_cell BK421.out 0).trans rfl
                    have hcz99_1 : wc.cell? ⟨gb421, 1, none⟩ = some (.slice A0_1 l0_1.length c0_1) := (blk_cell BK421.out 1).trans rfl
                    have hfz99_0 := blk_frozen BK421.out 0
                    have hfz99_1 := blk_frozen BK421.out 1
                    try go_wp2_with (first | ((with_reducible refine gate_callee (f := 12) rfl ?_); refine goesL_ (some 45) rfl rfl Try.func12 (by kernel_rfl) rfl #[.agg #[.int .i64 a0_0, .slice A0_1 l0_1.length c0_1], .slice A1 l1.length c1, .slice A2 l2.length c2, .slice A3 l3.length c3] rfl (by (try simp only [List.map_toArray, List.map_cons, List.map_nil]); first | done | rfl | (simp only [List.length_drop, List.length_take]; rfl)) ?_; (with_reducible refine (rival_Judge.calls a0_0 _ _ l0_1 _ _ l1 _ _ l2 _ _ l3 false t429 _ ?side1 ?side2 ?side3 ?side4 ?side5 ?side6 ?side7 ?side8 A33.out).mono ?_); (case side1 => repeat (first | exact (Kd.C_below HR0_1.out HB.out) | (with_reducible refine Kd.C_alloc ?_ _) | (with_reducible refine Kd.C_drewN ?_ _) | (with_reducible refine Kd.C_drew ?_))); (case side2 => exact HC0_1.out); (case side3 => repeat (first | exact (Kd.C_below HR1.out HB.out) | (with_reducible refine Kd.C_alloc ?_ _) | (with_reducible refine Kd.C_drewN ?_ _) | (with_reducible refine Kd.C_drew ?_))); (case side4 => exact HC1.out); (case side5 => repeat (first | exact (Kd.C_below HR2.out HB.out) | (with_reducible refine Kd.C_alloc ?_ _) | (with_reducible refine Kd.C_drewN ?_ _) | (with_reducible refine Kd.C_drew ?_))); (case side6 => exact HC2.out); (case side7 => repeat (first | exact (Kd.V_reads' HO_3.out).2.2 | (with_reducible refine Kd.C_alloc ?_ _) | (with_reducible refine Kd.C_drewN ?_ _) | (with_reducible refine Kd.C_drew ?_))); (case side8 => exact (Kd.V_reads' HO_3.out).2.1); rintro e w100 ⟨rfl, hb⟩; refine ⟨_, rfl, ?_⟩; have n0_ := Aside0.mk (Kd.V_below (by (with_reducible repeat (first | apply Kd.V_alloc | apply Kd.V_drewN | apply Kd.V_drew)); exact HO_3.out) hb); have n1_ := Aside0.mk (Kd.V_below (by (with_reducible repeat (first | apply Kd.V_alloc | apply Kd.V_drewN | apply Kd.V_drew)); exact HO_423001.out) hb); have n2_ := Aside0.mk (blk_below (g := gb421) (o := .cells #[.int .i64 a0_0, .slice A0_1 l0_1.length c0_1] 24 (0, 0)) (by (with_reducible repeat (first | refine blk_drewN ?_ _ | refine blk_drew ?_ | refine blk_alloc ?_ _)); exact BK421.out) hb); have n3_ := Aside0.mk (blk_below (g := gb422) (o := .cells #[.int .i64 a4_0, .slice A4_1 l4_1.length c4_1] 24 (0, 0)) (by (with_reducible repeat (first | refine blk_drewN ?_ _ | refine blk_drew ?_ | refine blk_alloc ?_ _)); exact BK422.out) hb); have n4_ := Aside0.mk (below_step (by repeat (first | (with_reducible first | exact HB.out | apply below_alloc | apply pw_below_drewN | apply below_drew1 | refine below_set ?_ GE421.out | refine below_set ?_ GE422.out) | exact HB.out)) hb); clear HO_3; clear HO_423001; clear BK421; clear BK422; clear HB; have HO_3 := n0_; have HO_423001 := n1_; have BK421 := n2_; have BK422 := n3_; have HB := n4_; clear n0_ n1_ n2_ n3_ n4_; (try clear hb); (try clear hb2); (try clear hk); (try clear hi)))
                    have n0_ := Aside0.mk (Kd.V_drew HO_3.out)
                    have n1_ := Aside0.mk (Kd.V_drew HO_423001.out)
                    have n2_ := Aside0.mk (blk_drew BK421.out)
                    have n3_ := Aside0.mk (blk_drew BK422.out)
                    have n4_ := Aside0.mk (below_drew1 HB.out)
                    clear HO_3
                    clear HO_423001
                    clear BK421
                    clear BK422
                    clear HB
                    have HO_3 := n0_
                    have HO_423001 := n1_
                    have BK421 := n2_
                    have BK422 := n3_
                    have HB := n4_
                    clear n0_ n1_ n2_ n3_ n4_
                    refine start_ (n := 15) (S := fun w' => w'.cell? ⟨gb421, 0, none⟩ = some (.int .i64 a0_0) ∧ w'.cell? ⟨gb421, 1, none⟩ = some (.slice A0_1 l0_1.length c0_1) ∧ w'.cell? ⟨gb422, 0, none⟩ = some (.int .i64 a4_0) ∧ w'.cell? ⟨gb422, 1, none⟩ = some (.slice A4_1 l4_1.length c4_1)) (ds := []) #[false, false, false, false, false, false, false, false, false, false, false, false, false, false, false] (by kernel_rfl) rfl rfl ⟨(blk_cell BK421.out 0).trans rfl, (blk_cell BK421.out 1).trans rfl, (blk_cell BK422.out 0).trans rfl, (blk_cell BK422.out 1).trans rfl⟩ (fun hHeld => ?_); refine with_tabW banksmanlaw14_RivalMore.tab5 banksmanlaw14_RivalMore.bits5 (fun HT_ HW_ => ?_)
                    generalize w100.drew = w101 at HO_3 HO_423001 BK421 BK422 HB hHeld ⊢
                    refine pure_ (i := 1) (N := some 50) (v := ?_) (a' := ?_) #[false, true, false, false, false, false, false, false, false, false, false, false, false, false, false] rfl rfl (any_of HT_.out (by kernel_rfl)) (fun _ _ _ h => h) (Or.inl ⟨by rfl, ?_⟩) ?_ ?_
                    rotate_left
                    · intro w'
                      go_simp
                      with_reducible rfl
                    rotate_left
                    · simp only [Act.put, List.setIfInBounds_toArray, List.set_cons_zero, List.set_cons_succ, i64_w, i32_w]
                      rfl
                    refine pure_ (i := 2) (N := some 51) (v := ?_) (a' := ?_) #[false, true, true, false, false, false, false, false, false, false, false, false, false, false, false] rfl rfl (any_of HT_.out (by kernel_rfl)) (fun _ _ _ h => h) (Or.inl ⟨by rfl, ?_⟩) ?_ ?_
                    rotate_left
                    · intro w'
                      go_simp
                      with_reducible rfl
                    rotate_left
                    · simp only [Act.put, List.setIfInBounds_toArray, List.set_cons_zero, List.set_cons_succ, i64_w, i32_w]
                      rfl
                    refine pure_ (i := 4) (N := some 53) (v := ?_) (a' := ?_) #[false, true, true, false, true, false, false, false, false, false, false, false, false, false, false] rfl rfl (any_of HT_.out (by kernel_rfl)) (fun _ _ _ h => h) (Or.inl ⟨by rfl, ?_⟩) ?_ ?_
                    rotate_left
                    · intro w'
                      go_simp
                      with_reducible rfl
                    rotate_left
                    · simp only [Act.put, List.setIfInBounds_toArray, List.set_cons_zero, List.set_cons_succ, i64_w, i32_w]
                      rfl
                    refine take_ (i := 0) (N := some 49) (v := ?_) (a' := ?_) #[true, true, true, false, true, false, false, false, false, false, false, false, false, false, false] rfl rfl (take_ofW HT_.out HW_.out (by kernel_rfl)) (fun _ _ _ h => h) (Or.inl ⟨by rfl, ?_⟩) hHeld ?_ ?_
                    rotate_left
                    · rintro w' ⟨s0, s1, s2, s3⟩
                      go_simp
                      with_reducible rfl
                    rotate_left
                    · simp only [Act.put, List.setIfInBounds_toArray, List.set_cons_zero, List.set_cons_succ, i64_w, i32_w]
                      rfl
                    refine take_ (i := 6) (N := some 55) (v := ?_) (a' := ?_) #[true, true, true, false, true, false, true, false, false, false, false, false, false, false, false] rfl rfl (take_ofW HT_.out HW_.out (by kernel_rfl)) (fun _ _ _ h => h) (Or.inl ⟨by rfl, ?_⟩) hHeld ?_ ?_
                    rotate_left
                    · rintro w' ⟨s0, s1, s2, s3⟩
                      go_simp
                      with_reducible rfl
                    rotate_left
                    · simp only [Act.put, List.setIfInBounds_toArray, List.set_cons_zero, List.set_cons_succ, i64_w, i32_w]
                      rfl
                    refine join_ (σ := Value × Value × Value) 7 #[true, true, true, true, true, true, true, true, false, false, false, false, false, false, false] (fun s_ => [(52, s_.1), (54, s_.2.1), (56, s_.2.2)]) (fun s_ w' => (w'.cell? ⟨gb421, 0, none⟩ = some (.int .i64 a0_0) ∧ w'.cell? ⟨gb421, 1, none⟩ = some (.slice A0_1 l0_1.length c0_1) ∧ w'.cell? ⟨gb422, 0, none⟩ = some (.int .i64 a4_0) ∧ w'.cell? ⟨gb422, 1, none⟩ = some (.slice A4_1 l4_1.length c4_1)) ∧ (Kd.N k24 24 w' w.heap.size (fun k_ => ((P3_ k_ ∨ P4_1_ k_) ∨ w.heap.size ≤ k_) ∧ some k_ ≠ (s_.2.2 : Value).ownBlock ∧ k_ ≠ gb421 ∧ k_ ≠ gb422) s_.2.1 y433) ∧ (Kd.N k24 24 w' w.heap.size (fun k_ => ((P3_ k_ ∨ P4_1_ k_) ∨ w.heap.size ≤ k_) ∧ some k_ ≠ (s_.2.1 : Value).ownBlock ∧ k_ ≠ gb421 ∧ k_ ≠ gb422) s_.2.2 y436) ∧ (Kd.V k24 24 w' w.heap.size (fun k_ => ((P3_ k_ ∨ P4_1_ k_) ∨ w.heap.size ≤ k_) ∧ some k_ ≠ (s_.2.1 : Value).ownBlock ∧ some k_ ≠ (s_.2.2 : Value).ownBlock ∧ k_ ≠ gb421 ∧ k_ ≠ gb422) (.slice A3 l3.length c3) l3) ∧ (Kd.V k57 57 w' w.heap.size (fun k_ => ((P3_ k_ ∨ P4_1_ k_) ∨ w.heap.size ≤ k_) ∧ some k_ ≠ (s_.2.1 : Value).ownBlock ∧ some k_ ≠ (s_.2.2 : Value).ownBlock ∧ k_ ≠ gb421 ∧ k_ ≠ gb422) (.slice A4_1 l4_1.length c4_1) l4_1) ∧ (w'.heap[gb421]? = some (.cells #[.int .i64 a0_0, .slice A0_1 l0_1.length c0_1] 24 (0, 0))) ∧ (w'.heap[gb422]? = some (.cells #[.int .i64 a4_0, .slice A4_1 l4_1.length c4_1] 24 (0, 0))) ∧ (Below w.heap.size w w')) ?_ ?_
                    rotate_left
                    · intro hCont
                      refine two_ (i := 3) (j := 7) (Ni := some 52) (Nj := some 56) #[true, true, true, true, true, false, true, false, false, false, false, false, false, false, false] #[true, true, true, false, true, false, true, true, false, false, false, false, false, false, false] rfl rfl rfl rfl (two_of HT_.out (by kernel_rfl)) (by decide) (by decide) (fun K hK => ?_) (fun K hK => ?_)
                      · skip
                        refine Kd.N_lit_step k24 _ 24 ?hg (N' := 52) ?hd (xs := ([] : List (S24))) (inner := []) (ok := (fun k_ => ((P3_ k_ ∨ P4_1_ k_) ∨ w.heap.size ≤ k_) ∧ k_ ≠ gb421 ∧ k_ ≠ gb422)) (okp := (fun k_ => ((P3_ k_ ∨ P4_1_ k_) ∨ w.heap.size ≤ k_) ∧ k_ ≠ gb421 ∧ k_ ≠ gb422)) ?hr ?hp (fun _ hk => hk) ((show ∀ k_, w101.heap.size ≤ k_ → (fun k_ => ((P3_ k_ ∨ P4_1_ k_) ∨ w.heap.size ≤ k_) ∧ k_ ≠ gb421 ∧ k_ ≠ gb422) k_ from fun k_ hk => ⟨(.inr (Nat.le_trans (below_size (by repeat (first | (with_reducible first | exact HB.out | apply below_alloc | apply pw_below_drewN | apply below_drew1 | refine below_set ?_ GE421.out | refine below_set ?_ GE422.out) | exact HB.out))) hk)), Kd.freshB (g := gb421) (o := .cells #[.int .i64 a0_0, .slice A0_1 l0_1.length c0_1] 24 (0, 0)) (by (with_reducible repeat (first | refine blk_drewN ?_ _ | refine blk_drew ?_ | refine blk_alloc ?_ _)); exact BK421.out) k_ hk, Kd.freshB (g := gb422) (o := .cells #[.int .i64 a4_0, .slice A4_1 l4_1.length c4_1] 24 (0, 0)) (by (with_reducible repeat (first | refine blk_drewN ?_ _ | refine blk_drew ?_ | refine blk_alloc ?_ _)); exact BK422.out) k_ hk⟩) _ (Nat.le_refl _)) (Below.refl _ _) (Nat.le_refl _) (by simp) ?_; (case hd => rfl); (case hg => rfl); (case hr => first | (go_simp; done) | (go_simp; rfl)); (case hp => exact (Reps.none _ _))
                        intro v431 w102 ho103 hb hg_ hnew_
                        clear hg_ hnew_
                        (first | rw [← Ny430.out] at ho103 | (simp only [Int.reduceToNat] at ho103; rw [← Ny430.out] at ho103))
                        have n0_ := Aside0.mk (Kd.V_elder' (by (with_reducible repeat (first | apply Kd.V_alloc | apply Kd.V_drewN | apply Kd.V_drew)); exact HO_3.out) (Kd.N_base ho103) hb)
                        have n1_ := Aside0.mk (Kd.V_elder' (by (with_reducible repeat (first | apply Kd.V_alloc | apply Kd.V_drewN | apply Kd.V_drew)); exact HO_423001.out) (Kd.N_base ho103) hb)
                        have n2_ := Aside0.mk (Kd.N_lower ho103 (below_size (by repeat (first | (with_reducible first | exact HB.out | apply below_alloc | apply pw_below_drewN | apply below_drew1 | refine below_set ?_ GE421.out | refine below_set ?_ GE422.out) | exact HB.out))))
                        have n3_ := Aside0.mk (blk_below (g := gb421) (o := .cells #[.int .i64 a0_0, .slice A0_1 l0_1.length c0_1] 24 (0, 0)) (by (with_reducible repeat (first | refine blk_drewN ?_ _ | refine blk_drew ?_ | refine blk_alloc ?_ _)); exact BK421.out) hb)
                        have n4_ := Aside0.mk (blk_below (g := gb422) (o := .cells #[.int .i64 a4_0, .slice A4_1 l4_1.length c4_1] 24 (0, 0)) (by (with_reducible repeat (first | refine blk_drewN ?_ _ | refine blk_drew ?_ | refine blk_alloc ?_ _)); exact BK422.out) hb)
                        have n5_ := Aside0.mk (below_step (by repeat (first | (with_reducible first | exact HB.out | apply below_alloc | apply pw_below_drewN | apply below_drew1 | refine below_set ?_ GE421.out | refine below_set ?_ GE422.out) | exact HB.out)) hb)
                        clear HO_3
                        clear HO_423001
                        clear BK421
                        clear BK422
                        clear HB
                        have HO_3 := n0_
                        have HO_423001 := n1_
                        have HO432 := n2_
                        have BK421 := n3_
                        have BK422 := n4_
                        have HB := n5_
                        clear n0_ n1_ n2_ n3_ n4_ n5_
                        clear hb ho103
                        refine hK.out _ _ ⟨(blk_cell BK421.out 0).trans rfl, (blk_cell BK421.out 1).trans rfl, (blk_cell BK422.out 0).trans rfl, (blk_cell BK422.out 1).trans rfl⟩ (fun hHeld => ?_)
                        clear hK K
                        refine norm_ (a' := ?_) ?_ ?_
                        rotate_left
                        · show Act.put _ (some 52) _ = _
                          simp only [Act.put, List.setIfInBounds_toArray, List.set_cons_zero, List.set_cons_succ, i64_w, i32_w]
                          rfl
                        refine two_ (i := 5) (j := 7) (Ni := some 54) (Nj := some 56) #[true, true, true, true, true, true, true, false, false, false, false, false, false, false, false] #[true, true, true, true, true, false, true, true, false, false, false, false, false, false, false] rfl rfl rfl rfl (two_of HT_.out (by kernel_rfl)) (by decide) (by decide) (fun K hK => ?_) (fun K hK => ?_)
                        · skip
                          refine Kd.N_append_rows_step k24 (w0 := w) w.heap.size (by rfl) (.tmp 52) (.tmp 53) 27 24 (.agg #[(.int .i64 0), (.slice none 0 0)]) 32 rfl Try.underlying27 info24 rfl (by decide) (by omega) v431 y430 l3 _ _ _ (fun k_ => ((P3_ k_ ∨ P4_1_ k_) ∨ w.heap.size ≤ k_) ∧ k_ ≠ gb421 ∧ k_ ≠ gb422) (fun k_ => ((fun k_ => ((P3_ k_ ∨ P4_1_ k_) ∨ w.heap.size ≤ k_) ∧ k_ ≠ gb421 ∧ k_ ≠ gb422)) k_ ∧ some k_ ≠ (v431 : Value).ownBlock) rfl rfl ?aO ?aR (fun _ hk => hk) ?aF ?aB ?aS ?aL ?_
                          (case aR => exact (by skip; exact Kd.V_F (Kd.V_mono (ok' := (fun k_ => ((fun k_ => ((P3_ k_ ∨ P4_1_ k_) ∨ w.heap.size ≤ k_) ∧ k_ ≠ gb421 ∧ k_ ≠ gb422)) k_ ∧ some k_ ≠ (v431 : Value).ownBlock)) (HO_3.out) (fun k_ hk => ⟨⟨hk.1.1, ⟨hk.1.2.1, hk.1.2.2⟩⟩, hk.2⟩))))
                          (case aB => exact (by repeat (first | (with_reducible first | exact HB.out | apply below_alloc | apply pw_below_drewN | apply below_drew1 | refine below_set ?_ GE421.out | refine below_set ?_ GE422.out) | exact HB.out)))
                          (case aF => exact (fun k_ hk => ⟨(.inr (Nat.le_trans (below_size (by repeat (first | (with_reducible first | exact HB.out | apply below_alloc | apply pw_below_drewN | apply below_drew1 | refine below_set ?_ GE421.out | refine below_set ?_ GE422.out) | exact HB.out))) hk)), Kd.freshB (g := gb421) (o := .cells #[.int .i64 a0_0, .slice A0_1 l0_1.length c0_1] 24 (0, 0)) (by (with_reducible repeat (first | refine blk_drewN ?_ _ | refine blk_drew ?_ | refine blk_alloc ?_ _)); exact BK421.out) k_ hk, Kd.freshB (g := gb422) (o := .cells #[.int .i64 a4_0, .slice A4_1 l4_1.length c4_1] 24 (0, 0)) (by (with_reducible repeat (first | refine blk_drewN ?_ _ | refine blk_drew ?_ | refine blk_alloc ?_ _)); exact BK422.out) k_ hk⟩))
                          (case aO => exact (by (with_reducible repeat (first | apply Kd.N_alloc | apply Kd.N_drewN | apply Kd.N_drew)); exact HO432.out))
                          (case aS => exact (below_size (by repeat (first | (with_reducible first | exact HB.out | apply below_alloc | apply pw_below_drewN | apply below_drew1 | refine below_set ?_ GE421.out | refine below_set ?_ GE422.out) | exact HB.out))))
                          (case aL => have := LMc34.out; omega)
                          intro v434 w104 ho hb hg hat
                          rw [← Ny433.out] at ho
                          have n0_ := Aside0.mk (Kd.V_afterv (ok := (fun k_ => ((P3_ k_ ∨ P4_1_ k_) ∨ w.heap.size ≤ k_) ∧ k_ ≠ gb421 ∧ k_ ≠ gb422)) (by (with_reducible repeat (first | apply Kd.V_alloc | apply Kd.V_drewN | apply Kd.V_drew)); exact HO_3.out) hg hat)
                          have n1_ := Aside0.mk (Kd.V_afterv (ok := (fun k_ => ((P3_ k_ ∨ P4_1_ k_) ∨ w.heap.size ≤ k_) ∧ k_ ≠ gb421 ∧ k_ ≠ gb422)) (by (with_reducible repeat (first | apply Kd.V_alloc | apply Kd.V_drewN | apply Kd.V_drew)); exact HO_423001.out) hg hat)
                          have n2_ := Aside0.mk (blk_grown (g := gb421) (o := .cells #[.int .i64 a0_0, .slice A0_1 l0_1.length c0_1] 24 (0, 0)) (by (with_reducible repeat (first | refine blk_drewN ?_ _ | refine blk_drew ?_ | refine blk_alloc ?_ _)); exact BK421.out) hg (Kd.N_away HO432.out (fun _ hk => hk.2.1)))
                          have n3_ := Aside0.mk (blk_grown (g := gb422) (o := .cells #[.int .i64 a4_0, .slice A4_1 l4_1.length c4_1] 24 (0, 0)) (by (with_reducible repeat (first | refine blk_drewN ?_ _ | refine blk_drew ?_ | refine blk_alloc ?_ _)); exact BK422.out) hg (Kd.N_away HO432.out (fun _ hk => hk.2.2)))
                          have n4_ := Aside0.mk (hb)
                          have n5_ := Aside0.mk (ho)
                          clear HO_3
                          clear HO_423001
                          clear BK421
                          clear BK422
                          clear HB
                          clear HO432
                          have HO_3 := n0_
                          have HO_423001 := n1_
                          have BK421 := n2_
                          have BK422 := n3_
                          have HB := n4_
                          have HO435 := n5_
                          clear n0_ n1_ n2_ n3_ n4_ n5_
                          clear ho hb hg hat
                          refine hK.out _ _ ⟨(blk_cell BK421.out 0).trans rfl, (blk_cell BK421.out 1).trans rfl, (blk_cell BK422.out 0).trans rfl, (blk_cell BK422.out 1).trans rfl⟩ (fun hHeld => ?_)
                          clear hK K
                          refine norm_ (a' := ?_) ?_ ?_
                          rotate_left
                          · show Act.put _ (some 54) _ = _
                            simp only [Act.put, List.setIfInBounds_toArray, List.set_cons_zero, List.set_cons_succ, i64_w, i32_w]
                            rfl
                          refine one_ (i := 7) (N := some 56) #[true, true, true, true, true, true, true, true, false, false, false, false, false, false, false] rfl rfl (one_of HT_.out (by kernel_rfl)) (by decide) (fun K hK => ?_)
                          refine Kd.N_lit_step k24 _ 24 ?hg (N' := 56) ?hd (xs := ([(⟨a4_0, l4_1⟩ : S24)] : List (S24))) (inner := [.int .i64 a4_0, .slice A4_1 l4_1.length c4_1]) (ok := (fun k_ => ((P3_ k_ ∨ P4_1_ k_) ∨ w.heap.size ≤ k_) ∧ some k_ ≠ (v434 : Value).ownBlock ∧ k_ ≠ gb421 ∧ k_ ≠ gb422)) (okp := (fun k_ => ((P3_ k_ ∨ P4_1_ k_) ∨ w.heap.size ≤ k_) ∧ some k_ ≠ (v434 : Value).ownBlock ∧ k_ ≠ gb421 ∧ k_ ≠ gb422)) ?hr ?hp (fun _ hk => hk) ((show ∀ k_, w104.heap.size ≤ k_ → (fun k_ => ((P3_ k_ ∨ P4_1_ k_) ∨ w.heap.size ≤ k_) ∧ some k_ ≠ (v434 : Value).ownBlock ∧ k_ ≠ gb421 ∧ k_ ≠ gb422) k_ from fun k_ hk => ⟨(.inr (Nat.le_trans (below_size (by repeat (first | (with_reducible first | exact HB.out | apply below_alloc | apply pw_below_drewN | apply below_drew1 | refine below_set ?_ GE421.out | refine below_set ?_ GE422.out) | exact HB.out))) hk)), Kd.fresh' (Kd.N_lt (by (with_reducible repeat (first | apply Kd.N_alloc | apply Kd.N_drewN | apply Kd.N_drew)); exact HO435.out)) k_ hk, Kd.freshB (g := gb421) (o := .cells #[.int .i64 a0_0, .slice A0_1 l0_1.length c0_1] 24 (0, 0)) (by (with_reducible repeat (first | refine blk_drewN ?_ _ | refine blk_drew ?_ | refine blk_alloc ?_ _)); exact BK421.out) k_ hk, Kd.freshB (g := gb422) (o := .cells #[.int .i64 a4_0, .slice A4_1 l4_1.length c4_1] 24 (0, 0)) (by (with_reducible repeat (first | refine blk_drewN ?_ _ | refine blk_drew ?_ | refine blk_alloc ?_ _)); exact BK422.out) k_ hk⟩) _ (Nat.le_refl _)) (Below.refl _ _) (Nat.le_refl _) (by simp) ?_; (case hd => rfl); (case hg => rfl); (case hr => first | (go_simp; done) | (go_simp; rfl)); (case hp => exact (Reps.c2 (show Kd.FK k24 _ _ (⟨a4_0, l4_1⟩ : S24) [.int .i64 a4_0, .slice A4_1 l4_1.length c4_1] from (k24_mkF _ _ (⟨a4_0, l4_1⟩ : S24) (Kd.V_reads' (Kd.V_mono (ok' := (fun k_ => ((P3_ k_ ∨ P4_1_ k_) ∨ w.heap.size ≤ k_) ∧ some k_ ≠ (v434 : Value).ownBlock ∧ k_ ≠ gb421 ∧ k_ ≠ gb422)) (HO_423001.out) (fun k_ hk => ⟨hk.1.1, ⟨hk.2, ⟨hk.1.2.1, hk.1.2.2⟩⟩⟩))).2.1 (Kd.V_F (Kd.V_mono (ok' := (fun k_ => ((P3_ k_ ∨ P4_1_ k_) ∨ w.heap.size ≤ k_) ∧ some k_ ≠ (v434 : Value).ownBlock ∧ k_ ≠ gb421 ∧ k_ ≠ gb422)) (HO_423001.out) (fun k_ hk => ⟨hk.1.1, ⟨hk.2, ⟨hk.1.2.1, hk.1.2.2⟩⟩⟩))))) (Reps.none _ _)))
                          intro v437 w105 ho106 hb hg_ hnew_
                          clear hg_ hnew_
                          (first | rw [← Ny436.out] at ho106 | (simp only [Int.reduceToNat] at ho106; rw [← Ny436.out] at ho106))
                          have n0_ := Aside0.mk (Kd.V_elder' (by (with_reducible repeat (first | apply Kd.V_alloc | apply Kd.V_drewN | apply Kd.V_drew)); exact HO_3.out) (Kd.N_base ho106) hb)
                          have n1_ := Aside0.mk (Kd.V_elder' (by (with_reducible repeat (first | apply Kd.V_alloc | apply Kd.V_drewN | apply Kd.V_drew)); exact HO_423001.out) (Kd.N_base ho106) hb)
                          have n2_ := Aside0.mk (Kd.N_elder' (by (with_reducible repeat (first | apply Kd.N_alloc | apply Kd.N_drewN | apply Kd.N_drew)); exact HO435.out) (Kd.N_base ho106) hb)
                          have n3_ := Aside0.mk (Kd.N_lower ho106 (below_size (by repeat (first | (with_reducible first | exact HB.out | apply below_alloc | apply pw_below_drewN | apply below_drew1 | refine below_set ?_ GE421.out | refine below_set ?_ GE422.out) | exact HB.out))))
                          have n4_ := Aside0.mk (blk_below (g := gb421) (o := .cells #[.int .i64 a0_0, .slice A0_1 l0_1.length c0_1] 24 (0, 0)) (by (with_reducible repeat (first | refine blk_drewN ?_ _ | refine blk_drew ?_ | refine blk_alloc ?_ _)); exact BK421.out) hb)
                          have n5_ := Aside0.mk (blk_below (g := gb422) (o := .cells #[.int .i64 a4_0, .slice A4_1 l4_1.length c4_1] 24 (0, 0)) (by (with_reducible repeat (first | refine blk_drewN ?_ _ | refine blk_drew ?_ | refine blk_alloc ?_ _)); exact BK422.out) hb)
                          have n6_ := Aside0.mk (below_step (by repeat (first | (with_reducible first | exact HB.out | apply below_alloc | apply pw_below_drewN | apply below_drew1 | refine below_set ?_ GE421.out | refine below_set ?_ GE422.out) | exact HB.out)) hb)
                          clear HO_3
                          clear HO_423001
                          clear HO435
                          clear BK421
                          clear BK422
                          clear HB
                          have HO_3 := n0_
                          have HO_423001 := n1_
                          have HO435 := n2_
                          have HO438 := n3_
                          have BK421 := n4_
                          have BK422 := n5_
                          have HB := n6_
                          clear n0_ n1_ n2_ n3_ n4_ n5_ n6_
                          clear hb ho106
                          refine hK.out _ _ ⟨(blk_cell BK421.out 0).trans rfl, (blk_cell BK421.out 1).trans rfl, (blk_cell BK422.out 0).trans rfl, (blk_cell BK422.out 1).trans rfl⟩ (fun hHeld => ?_)
                          clear hK K
                          refine norm_ (a' := ?_) ?_ ?_
                          rotate_left
                          · show Act.put _ (some 56) _ = _
                            simp only [Act.put, List.setIfInBounds_toArray, List.set_cons_zero, List.set_cons_succ, i64_w, i32_w]
                            rfl
                          exact norm_ (by simp only [putAll, Act.put, List.setIfInBounds_toArray, List.set_cons_zero, List.set_cons_succ]) (hCont (v431, v434, v437) _ ⟨hHeld, (by (with_reducible repeat (first | apply Kd.N_alloc | apply Kd.N_drewN | apply Kd.N_drew)); exact Kd.N_mono HO435.out (fun _ hk => ⟨hk.1.1, ⟨hk.2, ⟨hk.1.2.1, hk.1.2.2⟩⟩⟩)), (by (with_reducible repeat (first | apply Kd.N_alloc | apply Kd.N_drewN | apply Kd.N_drew)); exact HO438.out), (by (with_reducible repeat (first | apply Kd.V_alloc | apply Kd.V_drewN | apply Kd.V_drew)); exact Kd.V_mono HO_3.out (fun _ hk => ⟨hk.1.1.1, ⟨hk.1.2, ⟨hk.2, ⟨hk.1.1.2.1, hk.1.1.2.2⟩⟩⟩⟩)), (by (with_reducible repeat (first | apply Kd.V_alloc | apply Kd.V_drewN | apply Kd.V_drew)); exact Kd.V_mono HO_423001.out (fun _ hk => ⟨hk.1.1.1, ⟨hk.1.2, ⟨hk.2, ⟨hk.1.1.2.1, hk.1.1.2.2⟩⟩⟩⟩)), (by (with_reducible repeat (first | refine blk_drewN ?_ _ | refine blk_drew ?_ | refine blk_alloc ?_ _)); exact BK421.out), (by (with_reducible repeat (first | refine blk_drewN ?_ _ | refine blk_drew ?_ | refine blk_alloc ?_ _)); exact BK422.out), (by repeat (first | (with_reducible first | exact HB.out | apply below_alloc | apply pw_below_drewN | apply below_drew1 | refine below_set ?_ GE421.out | refine below_set ?_ GE422.out) | exact HB.out))⟩)
                        · skip
                          refine Kd.N_lit_step k24 _ 24 ?hg (N' := 56) ?hd (xs := ([(⟨a4_0, l4_1⟩ : S24)] : List (S24))) (inner := [.int .i64 a4_0, .slice A4_1 l4_1.length c4_1]) (ok := (fun k_ => ((P3_ k_ ∨ P4_1_ k_) ∨ w.heap.size ≤ k_) ∧ some k_ ≠ (v431 : Value).ownBlock ∧ k_ ≠ gb421 ∧ k_ ≠ gb422)) (okp := (fun k_ => ((P3_ k_ ∨ P4_1_ k_) ∨ w.heap.size ≤ k_) ∧ some k_ ≠ (v431 : Value).ownBlock ∧ k_ ≠ gb421 ∧ k_ ≠ gb422)) ?hr ?hp (fun _ hk => hk) ((show ∀ k_, w102.heap.size ≤ k_ → (fun k_ => ((P3_ k_ ∨ P4_1_ k_) ∨ w.heap.size ≤ k_) ∧ some k_ ≠ (v431 : Value).ownBlock ∧ k_ ≠ gb421 ∧ k_ ≠ gb422) k_ from fun k_ hk => ⟨(.inr (Nat.le_trans (below_size (by repeat (first | (with_reducible first | exact HB.out | apply below_alloc | apply pw_below_drewN | apply below_drew1 | refine below_set ?_ GE421.out | refine below_set ?_ GE422.out) | exact HB.out))) hk)), Kd.fresh' (Kd.N_lt (by (with_reducible repeat (first | apply Kd.N_alloc | apply Kd.N_drewN | apply Kd.N_drew)); exact HO432.out)) k_ hk, Kd.freshB (g := gb421) (o := .cells #[.int .i64 a0_0, .slice A0_1 l0_1.length c0_1] 24 (0, 0)) (by (with_reducible repeat (first | refine blk_drewN ?_ _ | refine blk_drew ?_ | refine blk_alloc ?_ _)); exact BK421.out) k_ hk, Kd.freshB (g := gb422) (o := .cells #[.int .i64 a4_0, .slice A4_1 l4_1.length c4_1] 24 (0, 0)) (by (with_reducible repeat (first | refine blk_drewN ?_ _ | refine blk_drew ?_ | refine blk_alloc ?_ _)); exact BK422.out) k_ hk⟩) _ (Nat.le_refl _)) (Below.refl _ _) (Nat.le_refl _) (by simp) ?_; (case hd => rfl); (case hg => rfl); (case hr => first | (go_simp; done) | (go_simp; rfl)); (case hp => exact (Reps.c2 (show Kd.FK k24 _ _ (⟨a4_0, l4_1⟩ : S24) [.int .i64 a4_0, .slice A4_1 l4_1.length c4_1] from (k24_mkF _ _ (⟨a4_0, l4_1⟩ : S24) (Kd.V_reads' (Kd.V_mono (ok' := (fun k_ => ((P3_ k_ ∨ P4_1_ k_) ∨ w.heap.size ≤ k_) ∧ some k_ ≠ (v431 : Value).ownBlock ∧ k_ ≠ gb421 ∧ k_ ≠ gb422)) (HO_423001.out) (fun k_ hk => ⟨hk.1.1, ⟨hk.2, ⟨hk.1.2.1, hk.1.2.2⟩⟩⟩))).2.1 (Kd.V_F (Kd.V_mono (ok' := (fun k_ => ((P3_ k_ ∨ P4_1_ k_) ∨ w.heap.size ≤ k_) ∧ some k_ ≠ (v431 : Value).ownBlock ∧ k_ ≠ gb421 ∧ k_ ≠ gb422)) (HO_423001.out) (fun k_ hk => ⟨hk.1.1, ⟨hk.2, ⟨hk.1.2.1, hk.1.2.2⟩⟩⟩))))) (Reps.none _ _)))
                          intro v437 w104 ho105 hb hg_ hnew_
                          clear hg_ hnew_
                          (first | rw [← Ny436.out] at ho105 | (simp only [Int.reduceToNat] at ho105; rw [← Ny436.out] at ho105))
                          have n0_ := Aside0.mk (Kd.V_elder' (by (with_reducible repeat (first | apply Kd.V_alloc | apply Kd.V_drewN | apply Kd.V_drew)); exact HO_3.out) (Kd.N_base ho105) hb)
                          have n1_ := Aside0.mk (Kd.V_elder' (by (with_reducible repeat (first | apply Kd.V_alloc | apply Kd.V_drewN | apply Kd.V_drew)); exact HO_423001.out) (Kd.N_base ho105) hb)
                          have n2_ := Aside0.mk (Kd.N_elder' (by (with_reducible repeat (first | apply Kd.N_alloc | apply Kd.N_drewN | apply Kd.N_drew)); exact HO432.out) (Kd.N_base ho105) hb)
                          have n3_ := Aside0.mk (Kd.N_lower ho105 (below_size (by repeat (first | (with_reducible first | exact HB.out | apply below_alloc | apply pw_below_drewN | apply below_drew1 | refine below_set ?_ GE421.out | refine below_set ?_ GE422.out) | exact HB.out))))
                          have n4_ := Aside0.mk (blk_below (g := gb421) (o := .cells #[.int .i64 a0_0, .slice A0_1 l0_1.length c0_1] 24 (0, 0)) (by (with_reducible repeat (first | refine blk_drewN ?_ _ | refine blk_drew ?_ | refine blk_alloc ?_ _)); exact BK421.out) hb)
                          have n5_ := Aside0.mk (blk_below (g := gb422) (o := .cells #[.int .i64 a4_0, .slice A4_1 l4_1.length c4_1] 24 (0, 0)) (by (with_reducible repeat (first | refine blk_drewN ?_ _ | refine blk_drew ?_ | refine blk_alloc ?_ _)); exact BK422.out) hb)
                          have n6_ := Aside0.mk (below_step (by repeat (first | (with_reducible first | exact HB.out | apply below_alloc | apply pw_below_drewN | apply below_drew1 | refine below_set ?_ GE421.out | refine below_set ?_ GE422.out) | exact HB.out)) hb)
                          clear HO_3
                          clear HO_423001
                          clear HO432
                          clear BK421
                          clear BK422
                          clear HB
                          have HO_3 := n0_
                          have HO_423001 := n1_
                          have HO432 := n2_
                          have HO438 := n3_
                          have BK421 := n4_
                          have BK422 := n5_
                          have HB := n6_
                          clear n0_ n1_ n2_ n3_ n4_ n5_ n6_
                          clear hb ho105
                          refine hK.out _ _ ⟨(blk_cell BK421.out 0).trans rfl, (blk_cell BK421.out 1).trans rfl, (blk_cell BK422.out 0).trans rfl, (blk_cell BK422.out 1).trans rfl⟩ (fun hHeld => ?_)
                          clear hK K
                          refine norm_ (a' := ?_) ?_ ?_
                          rotate_left
                          · show Act.put _ (some 56) _ = _
                            simp only [Act.put, List.setIfInBounds_toArray, List.set_cons_zero, List.set_cons_succ, i64_w, i32_w]
                            rfl
                          refine one_ (i := 5) (N := some 54) #[true, true, true, true, true, true, true, true, false, false, false, false, false, false, false] rfl rfl (one_of HT_.out (by kernel_rfl)) (by decide) (fun K hK => ?_)
                          refine Kd.N_append_rows_step k24 (w0 := w) w.heap.size (by rfl) (.tmp 52) (.tmp 53) 27 24 (.agg #[(.int .i64 0), (.slice none 0 0)]) 32 rfl Try.underlying27 info24 rfl (by decide) (by omega) v431 y430 l3 _ _ _ (fun k_ => ((P3_ k_ ∨ P4_1_ k_) ∨ w.heap.size ≤ k_) ∧ some k_ ≠ (v437 : Value).ownBlock ∧ k_ ≠ gb421 ∧ k_ ≠ gb422) (fun k_ => ((fun k_ => ((P3_ k_ ∨ P4_1_ k_) ∨ w.heap.size ≤ k_) ∧ some k_ ≠ (v437 : Value).ownBlock ∧ k_ ≠ gb421 ∧ k_ ≠ gb422)) k_ ∧ some k_ ≠ (v431 : Value).ownBlock) rfl rfl ?aO ?aR (fun _ hk => hk) ?aF ?aB ?aS ?aL ?_
                          (case aR => exact (by skip; exact Kd.V_F (Kd.V_mono (ok' := (fun k_ => ((fun k_ => ((P3_ k_ ∨ P4_1_ k_) ∨ w.heap.size ≤ k_) ∧ some k_ ≠ (v437 : Value).ownBlock ∧ k_ ≠ gb421 ∧ k_ ≠ gb422)) k_ ∧ some k_ ≠ (v431 : Value).ownBlock)) (HO_3.out) (fun k_ hk => ⟨⟨hk.1.1.1, ⟨hk.2, ⟨hk.1.1.2.1, hk.1.1.2.2⟩⟩⟩, hk.1.2⟩))))
                          (case aB => exact (by repeat (first | (with_reducible first | exact HB.out | apply below_alloc | apply pw_below_drewN | apply below_drew1 | refine below_set ?_ GE421.out | refine below_set ?_ GE422.out) | exact HB.out)))
                          (case aF => exact (fun k_ hk => ⟨(.inr (Nat.le_trans (below_size (by repeat (first | (with_reducible first | exact HB.out | apply below_alloc | apply pw_below_drewN | apply below_drew1 | refine below_set ?_ GE421.out | refine below_set ?_ GE422.out) | exact HB.out))) hk)), Kd.fresh' (Kd.N_lt (by (with_reducible repeat (first | apply Kd.N_alloc | apply Kd.N_drewN | apply Kd.N_drew)); exact HO438.out)) k_ hk, Kd.freshB (g := gb421) (o := .cells #[.int .i64 a0_0, .slice A0_1 l0_1.length c0_1] 24 (0, 0)) (by (with_reducible repeat (first | refine blk_drewN ?_ _ | refine blk_drew ?_ | refine blk_alloc ?_ _)); exact BK421.out) k_ hk, Kd.freshB (g := gb422) (o := .cells #[.int .i64 a4_0, .slice A4_1 l4_1.length c4_1] 24 (0, 0)) (by (with_reducible repeat (first | refine blk_drewN ?_ _ | refine blk_drew ?_ | refine blk_alloc ?_ _)); exact BK422.out) k_ hk⟩))
                          (case aO => exact (by (with_reducible repeat (first | apply Kd.N_alloc | apply Kd.N_drewN | apply Kd.N_drew)); exact Kd.N_mono HO432.out (fun _ hk => ⟨hk.1.1, ⟨hk.2, ⟨hk.1.2.1, hk.1.2.2⟩⟩⟩)))
                          (case aS => exact (below_size (by repeat (first | (with_reducible first | exact HB.out | apply below_alloc | apply pw_below_drewN | apply below_drew1 | refine below_set ?_ GE421.out | refine below_set ?_ GE422.out) | exact HB.out))))
                          (case aL => have := LMc34.out; omega)
                          intro v434 w106 ho hb hg hat
                          rw [← Ny433.out] at ho
                          have n0_ := Aside0.mk (Kd.V_afterv (ok := (fun k_ => ((P3_ k_ ∨ P4_1_ k_) ∨ w.heap.size ≤ k_) ∧ some k_ ≠ (v437 : Value).ownBlock ∧ k_ ≠ gb421 ∧ k_ ≠ gb422)) (by (with_reducible repeat (first | apply Kd.V_alloc | apply Kd.V_drewN | apply Kd.V_drew)); exact Kd.V_mono HO_3.out (fun _ hk => ⟨⟨hk.1.1.1, ⟨hk.2, ⟨hk.1.1.2.1, hk.1.1.2.2⟩⟩⟩, hk.1.2⟩)) hg hat)
                          have n1_ := Aside0.mk (Kd.V_afterv (ok := (fun k_ => ((P3_ k_ ∨ P4_1_ k_) ∨ w.heap.size ≤ k_) ∧ some k_ ≠ (v437 : Value).ownBlock ∧ k_ ≠ gb421 ∧ k_ ≠ gb422)) (by (with_reducible repeat (first | apply Kd.V_alloc | apply Kd.V_drewN | apply Kd.V_drew)); exact Kd.V_mono HO_423001.out (fun _ hk => ⟨⟨hk.1.1.1, ⟨hk.2, ⟨hk.1.1.2.1, hk.1.1.2.2⟩⟩⟩, hk.1.2⟩)) hg hat)
                          have n2_ := Aside0.mk (blk_grown (g := gb421) (o := .cells #[.int .i64 a0_0, .slice A0_1 l0_1.length c0_1] 24 (0, 0)) (by (with_reducible repeat (first | refine blk_drewN ?_ _ | refine blk_drew ?_ | refine blk_alloc ?_ _)); exact BK421.out) hg (Kd.N_away HO432.out (fun _ hk => hk.1.2.1)))
                          have n3_ := Aside0.mk (blk_grown (g := gb422) (o := .cells #[.int .i64 a4_0, .slice A4_1 l4_1.length c4_1] 24 (0, 0)) (by (with_reducible repeat (first | refine blk_drewN ?_ _ | refine blk_drew ?_ | refine blk_alloc ?_ _)); exact BK422.out) hg (Kd.N_away HO432.out (fun _ hk => hk.1.2.2)))
                          have n4_ := Aside0.mk (Kd.N_afterv (ok := (fun k_ => ((P3_ k_ ∨ P4_1_ k_) ∨ w.heap.size ≤ k_) ∧ k_ ≠ gb421 ∧ k_ ≠ gb422)) (by (with_reducible repeat (first | apply Kd.N_alloc | apply Kd.N_drewN | apply Kd.N_drew)); exact Kd.N_mono HO438.out (fun _ hk => ⟨⟨hk.1, ⟨hk.2.2.1, hk.2.2.2⟩⟩, hk.2.1⟩)) hg hat)
                          have n5_ := Aside0.mk (hb)
                          have n6_ := Aside0.mk (ho)
                          clear HO_3
                          clear HO_423001
                          clear BK421
                          clear BK422
                          clear HO438
                          clear HB
                          clear HO432
                          have HO_3 := n0_
                          have HO_423001 := n1_
                          have BK421 := n2_
                          have BK422 := n3_
                          have HO438 := n4_
                          have HB := n5_
                          have HO435 := n6_
                          clear n0_ n1_ n2_ n3_ n4_ n5_ n6_
                          clear ho hb hg hat
                          refine hK.out _ _ ⟨(blk_cell BK421.out 0).trans rfl, (blk_cell BK421.out 1).trans rfl, (blk_cell BK422.out 0).trans rfl, (blk_cell BK422.out 1).trans rfl⟩ (fun hHeld => ?_)
                          clear hK K
                          refine norm_ (a' := ?_) ?_ ?_
                          rotate_left
                          · show Act.put _ (some 54) _ = _
                            simp only [Act.put, List.setIfInBounds_toArray, List.set_cons_zero, List.set_cons_succ, i64_w, i32_w]
                            rfl
                          exact norm_ (by simp only [putAll, Act.put, List.setIfInBounds_toArray, List.set_cons_zero, List.set_cons_succ]) (hCont (v431, v434, v437) _ ⟨hHeld, (by (with_reducible repeat (first | apply Kd.N_alloc | apply Kd.N_drewN | apply Kd.N_drew)); exact HO435.out), (by (with_reducible repeat (first | apply Kd.N_alloc | apply Kd.N_drewN | apply Kd.N_drew)); exact Kd.N_mono HO438.out (fun _ hk => ⟨hk.1.1, ⟨hk.2, ⟨hk.1.2.1, hk.1.2.2⟩⟩⟩)), (by (with_reducible repeat (first | apply Kd.V_alloc | apply Kd.V_drewN | apply Kd.V_drew)); exact Kd.V_mono HO_3.out (fun _ hk => ⟨hk.1.1, ⟨hk.2, ⟨hk.1.2.1, ⟨hk.1.2.2.1, hk.1.2.2.2⟩⟩⟩⟩)), (by (with_reducible repeat (first | apply Kd.V_alloc | apply Kd.V_drewN | apply Kd.V_drew)); exact Kd.V_mono HO_423001.out (fun _ hk => ⟨hk.1.1, ⟨hk.2, ⟨hk.1.2.1, ⟨hk.1.2.2.1, hk.1.2.2.2⟩⟩⟩⟩)), (by (with_reducible repeat (first | refine blk_drewN ?_ _ | refine blk_drew ?_ | refine blk_alloc ?_ _)); exact BK421.out), (by (with_reducible repeat (first | refine blk_drewN ?_ _ | refine blk_drew ?_ | refine blk_alloc ?_ _)); exact BK422.out), (by repeat (first | (with_reducible first | exact HB.out | apply below_alloc | apply pw_below_drewN | apply below_drew1 | refine below_set ?_ GE421.out | refine below_set ?_ GE422.out) | exact HB.out))⟩)
                      · skip
                        refine Kd.N_lit_step k24 _ 24 ?hg (N' := 56) ?hd (xs := ([(⟨a4_0, l4_1⟩ : S24)] : List (S24))) (inner := [.int .i64 a4_0, .slice A4_1 l4_1.length c4_1]) (ok := (fun k_ => ((P3_ k_ ∨ P4_1_ k_) ∨ w.heap.size ≤ k_) ∧ k_ ≠ gb421 ∧ k_ ≠ gb422)) (okp := (fun k_ => ((P3_ k_ ∨ P4_1_ k_) ∨ w.heap.size ≤ k_) ∧ k_ ≠ gb421 ∧ k_ ≠ gb422)) ?hr ?hp (fun _ hk => hk) ((show ∀ k_, w101.heap.size ≤ k_ → (fun k_ => ((P3_ k_ ∨ P4_1_ k_) ∨ w.heap.size ≤ k_) ∧ k_ ≠ gb421 ∧ k_ ≠ gb422) k_ from fun k_ hk => ⟨(.inr (Nat.le_trans (below_size (by repeat (first | (with_reducible first | exact HB.out | apply below_alloc | apply pw_below_drewN | apply below_drew1 | refine below_set ?_ GE421.out | refine below_set ?_ GE422.out) | exact HB.out))) hk)), Kd.freshB (g := gb421) (o := .cells #[.int .i64 a0_0, .slice A0_1 l0_1.length c0_1] 24 (0, 0)) (by (with_reducible repeat (first | refine blk_drewN ?_ _ | refine blk_drew ?_ | refine blk_alloc ?_ _)); exact BK421.out) k_ hk, Kd.freshB (g := gb422) (o := .cells #[.int .i64 a4_0, .slice A4_1 l4_1.length c4_1] 24 (0, 0)) (by (with_reducible repeat (first | refine blk_drewN ?_ _ | refine blk_drew ?_ | refine blk_alloc ?_ _)); exact BK422.out) k_ hk⟩) _ (Nat.le_refl _)) (Below.refl _ _) (Nat.le_refl _) (by simp) ?_; (case hd => rfl); (case hg => rfl); (case hr => first | (go_simp; done) | (go_simp; rfl)); (case hp => exact (Reps.c2 (show Kd.FK k24 _ _ (⟨a4_0, l4_1⟩ : S24) [.int .i64 a4_0, .slice A4_1 l4_1.length c4_1] from (k24_mkF _ _ (⟨a4_0, l4_1⟩ : S24) (Kd.V_reads' (Kd.V_mono (ok' := (fun k_ => ((P3_ k_ ∨ P4_1_ k_) ∨ w.heap.size ≤ k_) ∧ k_ ≠ gb421 ∧ k_ ≠ gb422)) (HO_423001.out) (fun k_ hk => ⟨hk.1, ⟨hk.2.1, hk.2.2⟩⟩))).2.1 (Kd.V_F (Kd.V_mono (ok' := (fun k_ => ((P3_ k_ ∨ P4_1_ k_) ∨ w.heap.size ≤ k_) ∧ k_ ≠ gb421 ∧ k_ ≠ gb422)) (HO_423001.out) (fun k_ hk => ⟨hk.1, ⟨hk.2.1, hk.2.2⟩⟩))))) (Reps.none _ _)))
                        intro v437 w102 ho103 hb hg_ hnew_
                        clear hg_ hnew_
                        (first | rw [← Ny436.out] at ho103 | (simp only [Int.reduceToNat] at ho103; rw [← Ny436.out] at ho103))
                        have n0_ := Aside0.mk (Kd.V_elder' (by (with_reducible repeat (first | apply Kd.V_alloc | apply Kd.V_drewN | apply Kd.V_drew)); exact HO_3.out) (Kd.N_base ho103) hb)
                        have n1_ := Aside0.mk (Kd.V_elder' (by (with_reducible repeat (first | apply Kd.V_alloc | apply Kd.V_drewN | apply Kd.V_drew)); exact HO_423001.out) (Kd.N_base ho103) hb)
                        have n2_ := Aside0.mk (Kd.N_lower ho103 (below_size (by repeat (first | (with_reducible first | exact HB.out | apply below_alloc | apply pw_below_drewN | apply below_drew1 | refine below_set ?_ GE421.out | refine below_set ?_ GE422.out) | exact HB.out))))
                        have n3_ := Aside0.mk (blk_below (g := gb421) (o := .cells #[.int .i64 a0_0, .slice A0_1 l0_1.length c0_1] 24 (0, 0)) (by (with_reducible repeat (first | refine blk_drewN ?_ _ | refine blk_drew ?_ | refine blk_alloc ?_ _)); exact BK421.out) hb)
                        have n4_ := Aside0.mk (blk_below (g := gb422) (o := .cells #[.int .i64 a4_0, .slice A4_1 l4_1.length c4_1] 24 (0, 0)) (by (with_reducible repeat (first | refine blk_drewN ?_ _ | refine blk_drew ?_ | refine blk_alloc ?_ _)); exact BK422.out) hb)
                        have n5_ := Aside0.mk (below_step (by repeat (first | (with_reducible first | exact HB.out | apply below_alloc | apply pw_below_drewN | apply below_drew1 | refine below_set ?_ GE421.out | refine below_set ?_ GE422.out) | exact HB.out)) hb)
                        clear HO_3
                        clear HO_423001
                        clear BK421
                        clear BK422
                        clear HB
                        have HO_3 := n0_
                        have HO_423001 := n1_
                        have HO438 := n2_
                        have BK421 := n3_
                        have BK422 := n4_
                        have HB := n5_
                        clear n0_ n1_ n2_ n3_ n4_ n5_
                        clear hb ho103
                        refine hK.out _ _ ⟨(blk_cell BK421.out 0).trans rfl, (blk_cell BK421.out 1).trans rfl, (blk_cell BK422.out 0).trans rfl, (blk_cell BK422.out 1).trans rfl⟩ (fun hHeld => ?_)
                        clear hK K
                        refine norm_ (a' := ?_) ?_ ?_
                        rotate_left
                        · show Act.put _ (some 56) _ = _
                          simp only [Act.put, List.setIfInBounds_toArray, List.set_cons_zero, List.set_cons_succ, i64_w, i32_w]
                          rfl
                        refine one_ (i := 3) (N := some 52) #[true, true, true, true, true, false, true, true, false, false, false, false, false, false, false] rfl rfl (one_of HT_.out (by kernel_rfl)) (by decide) (fun K hK => ?_)
                        refine Kd.N_lit_step k24 _ 24 ?hg (N' := 52) ?hd (xs := ([] : List (S24))) (inner := []) (ok := (fun k_ => ((P3_ k_ ∨ P4_1_ k_) ∨ w.heap.size ≤ k_) ∧ some k_ ≠ (v437 : Value).ownBlock ∧ k_ ≠ gb421 ∧ k_ ≠ gb422)) (okp := (fun k_ => ((P3_ k_ ∨ P4_1_ k_) ∨ w.heap.size ≤ k_) ∧ some k_ ≠ (v437 : Value).ownBlock ∧ k_ ≠ gb421 ∧ k_ ≠ gb422)) ?hr ?hp (fun _ hk => hk) ((show ∀ k_, w102.heap.size ≤ k_ → (fun k_ => ((P3_ k_ ∨ P4_1_ k_) ∨ w.heap.size ≤ k_) ∧ some k_ ≠ (v437 : Value).ownBlock ∧ k_ ≠ gb421 ∧ k_ ≠ gb422) k_ from fun k_ hk => ⟨(.inr (Nat.le_trans (below_size (by repeat (first | (with_reducible first | exact HB.out | apply below_alloc | apply pw_below_drewN | apply below_drew1 | refine below_set ?_ GE421.out | refine below_set ?_ GE422.out) | exact HB.out))) hk)), Kd.fresh' (Kd.N_lt (by (with_reducible repeat (first | apply Kd.N_alloc | apply Kd.N_drewN | apply Kd.N_drew)); exact HO438.out)) k_ hk, Kd.freshB (g := gb421) (o := .cells #[.int .i64 a0_0, .slice A0_1 l0_1.length c0_1] 24 (0, 0)) (by (with_reducible repeat (first | refine blk_drewN ?_ _ | refine blk_drew ?_ | refine blk_alloc ?_ _)); exact BK421.out) k_ hk, Kd.freshB (g := gb422) (o := .cells #[.int .i64 a4_0, .slice A4_1 l4_1.length c4_1] 24 (0, 0)) (by (with_reducible repeat (first | refine blk_drewN ?_ _ | refine blk_drew ?_ | refine blk_alloc ?_ _)); exact BK422.out) k_ hk⟩) _ (Nat.le_refl _)) (Below.refl _ _) (Nat.le_refl _) (by simp) ?_; (case hd => rfl); (case hg => rfl); (case hr => first | (go_simp; done) | (go_simp; rfl)); (case hp => exact (Reps.none _ _))
                        intro v431 w104 ho105 hb hg_ hnew_
                        clear hg_ hnew_
                        (first | rw [← Ny430.out] at ho105 | (simp only [Int.reduceToNat] at ho105; rw [← Ny430.out] at ho105))
                        have n0_ := Aside0.mk (Kd.V_elder' (by (with_reducible repeat (first | apply Kd.V_alloc | apply Kd.V_drewN | apply Kd.V_drew)); exact HO_3.out) (Kd.N_base ho105) hb)
                        have n1_ := Aside0.mk (Kd.V_elder' (by (with_reducible repeat (first | apply Kd.V_alloc | apply Kd.V_drewN | apply Kd.V_drew)); exact HO_423001.out) (Kd.N_base ho105) hb)
                        have n2_ := Aside0.mk (Kd.N_elder' (by (with_reducible repeat (first | apply Kd.N_alloc | apply Kd.N_drewN | apply Kd.N_drew)); exact HO438.out) (Kd.N_base ho105) hb)
                        have n3_ := Aside0.mk (Kd.N_lower ho105 (below_size (by repeat (first | (with_reducible first | exact HB.out | apply below_alloc | apply pw_below_drewN | apply below_drew1 | refine below_set ?_ GE421.out | refine below_set ?_ GE422.out) | exact HB.out))))
                        have n4_ := Aside0.mk (blk_below (g := gb421) (o := .cells #[.int .i64 a0_0, .slice A0_1 l0_1.length c0_1] 24 (0, 0)) (by (with_reducible repeat (first | refine blk_drewN ?_ _ | refine blk_drew ?_ | refine blk_alloc ?_ _)); exact BK421.out) hb)
                        have n5_ := Aside0.mk (blk_below (g := gb422) (o := .cells #[.int .i64 a4_0, .slice A4_1 l4_1.length c4_1] 24 (0, 0)) (by (with_reducible repeat (first | refine blk_drewN ?_ _ | refine blk_drew ?_ | refine blk_alloc ?_ _)); exact BK422.out) hb)
                        have n6_ := Aside0.mk (below_step (by repeat (first | (with_reducible first | exact HB.out | apply below_alloc | apply pw_below_drewN | apply below_drew1 | refine below_set ?_ GE421.out | refine below_set ?_ GE422.out) | exact HB.out)) hb)
                        clear HO_3
                        clear HO_423001
                        clear HO438
                        clear BK421
                        clear BK422
                        clear HB
                        have HO_3 := n0_
                        have HO_423001 := n1_
                        have HO438 := n2_
                        have HO432 := n3_
                        have BK421 := n4_
                        have BK422 := n5_
                        have HB := n6_
                        clear n0_ n1_ n2_ n3_ n4_ n5_ n6_
                        clear hb ho105
                        refine hK.out _ _ ⟨(blk_cell BK421.out 0).trans rfl, (blk_cell BK421.out 1).trans rfl, (blk_cell BK422.out 0).trans rfl, (blk_cell BK422.out 1).trans rfl⟩ (fun hHeld => ?_)
                        clear hK K
                        refine norm_ (a' := ?_) ?_ ?_
                        rotate_left
                        · show Act.put _ (some 52) _ = _
                          simp only [Act.put, List.setIfInBounds_toArray, List.set_cons_zero, List.set_cons_succ, i64_w, i32_w]
                          rfl
                        refine one_ (i := 5) (N := some 54) #[true, true, true, true, true, true, true, true, false, false, false, false, false, false, false] rfl rfl (one_of HT_.out (by kernel_rfl)) (by decide) (fun K hK => ?_)
                        refine Kd.N_append_rows_step k24 (w0 := w) w.heap.size (by rfl) (.tmp 52) (.tmp 53) 27 24 (.agg #[(.int .i64 0), (.slice none 0 0)]) 32 rfl Try.underlying27 info24 rfl (by decide) (by omega) v431 y430 l3 _ _ _ (fun k_ => ((P3_ k_ ∨ P4_1_ k_) ∨ w.heap.size ≤ k_) ∧ some k_ ≠ (v437 : Value).ownBlock ∧ k_ ≠ gb421 ∧ k_ ≠ gb422) (fun k_ => ((fun k_ => ((P3_ k_ ∨ P4_1_ k_) ∨ w.heap.size ≤ k_) ∧ some k_ ≠ (v437 : Value).ownBlock ∧ k_ ≠ gb421 ∧ k_ ≠ gb422)) k_ ∧ some k_ ≠ (v431 : Value).ownBlock) rfl rfl ?aO ?aR (fun _ hk => hk) ?aF ?aB ?aS ?aL ?_
                        (case aR => exact (by skip; exact Kd.V_F (Kd.V_mono (ok' := (fun k_ => ((fun k_ => ((P3_ k_ ∨ P4_1_ k_) ∨ w.heap.size ≤ k_) ∧ some k_ ≠ (v437 : Value).ownBlock ∧ k_ ≠ gb421 ∧ k_ ≠ gb422)) k_ ∧ some k_ ≠ (v431 : Value).ownBlock)) (HO_3.out) (fun k_ hk => ⟨⟨hk.1.1.1, ⟨hk.1.2, ⟨hk.1.1.2.1, hk.1.1.2.2⟩⟩⟩, hk.2⟩))))
                        (case aB => exact (by repeat (first | (with_reducible first | exact HB.out | apply below_alloc | apply pw_below_drewN | apply below_drew1 | refine below_set ?_ GE421.out | refine below_set ?_ GE422.out) | exact HB.out)))
                        (case aF => exact (fun k_ hk => ⟨(.inr (Nat.le_trans (below_size (by repeat (first | (with_reducible first | exact HB.out | apply below_alloc | apply pw_below_drewN | apply below_drew1 | refine below_set ?_ GE421.out | refine below_set ?_ GE422.out) | exact HB.out))) hk)), Kd.fresh' (Kd.N_lt (by (with_reducible repeat (first | apply Kd.N_alloc | apply Kd.N_drewN | apply Kd.N_drew)); exact HO438.out)) k_ hk, Kd.freshB (g := gb421) (o := .cells #[.int .i64 a0_0, .slice A0_1 l0_1.length c0_1] 24 (0, 0)) (by (with_reducible repeat (first | refine blk_drewN ?_ _ | refine blk_drew ?_ | refine blk_alloc ?_ _)); exact BK421.out) k_ hk, Kd.freshB (g := gb422) (o := .cells #[.int .i64 a4_0, .slice A4_1 l4_1.length c4_1] 24 (0, 0)) (by (with_reducible repeat (first | refine blk_drewN ?_ _ | refine blk_drew ?_ | refine blk_alloc ?_ _)); exact BK422.out) k_ hk⟩))
                        (case aO => exact (by (with_reducible repeat (first | apply Kd.N_alloc | apply Kd.N_drewN | apply Kd.N_drew)); exact HO432.out))
                        (case aS => exact (below_size (by repeat (first | (with_reducible first | exact HB.out | apply below_alloc | apply pw_below_drewN | apply below_drew1 | refine below_set ?_ GE421.out | refine below_set ?_ GE422.out) | exact HB.out))))
                        (case aL => have := LMc34.out; omega)
                        intro v434 w106 ho hb hg hat
                        rw [← Ny433.out] at ho
                        have n0_ := Aside0.mk (Kd.V_afterv (ok := (fun k_ => ((P3_ k_ ∨ P4_1_ k_) ∨ w.heap.size ≤ k_) ∧ some k_ ≠ (v437 : Value).ownBlock ∧ k_ ≠ gb421 ∧ k_ ≠ gb422)) (by (with_reducible repeat (first | apply Kd.V_alloc | apply Kd.V_drewN | apply Kd.V_drew)); exact Kd.V_mono HO_3.out (fun _ hk => ⟨⟨hk.1.1.1, ⟨hk.1.2, ⟨hk.1.1.2.1, hk.1.1.2.2⟩⟩⟩, hk.2⟩)) hg hat)
                        have n1_ := Aside0.mk (Kd.V_afterv (ok := (fun k_ => ((P3_ k_ ∨ P4_1_ k_) ∨ w.heap.size ≤ k_) ∧ some k_ ≠ (v437 : Value).ownBlock ∧ k_ ≠ gb421 ∧ k_ ≠ gb422)) (by (with_reducible repeat (first | apply Kd.V_alloc | apply Kd.V_drewN | apply Kd.V_drew)); exact Kd.V_mono HO_423001.out (fun _ hk => ⟨⟨hk.1.1.1, ⟨hk.1.2, ⟨hk.1.1.2.1, hk.1.1.2.2⟩⟩⟩, hk.2⟩)) hg hat)
                        have n2_ := Aside0.mk (blk_grown (g := gb421) (o := .cells #[.int .i64 a0_0, .slice A0_1 l0_1.length c0_1] 24 (0, 0)) (by (with_reducible repeat (first | refine blk_drewN ?_ _ | refine blk_drew ?_ | refine blk_alloc ?_ _)); exact BK421.out) hg (Kd.N_away HO432.out (fun _ hk => hk.2.2.1)))
                        have n3_ := Aside0.mk (blk_grown (g := gb422) (o := .cells #[.int .i64 a4_0, .slice A4_1 l4_1.length c4_1] 24 (0, 0)) (by (with_reducible repeat (first | refine blk_drewN ?_ _ | refine blk_drew ?_ | refine blk_alloc ?_ _)); exact BK422.out) hg (Kd.N_away HO432.out (fun _ hk => hk.2.2.2)))
                        have n4_ := Aside0.mk (Kd.N_afterv (ok := (fun k_ => ((P3_ k_ ∨ P4_1_ k_) ∨ w.heap.size ≤ k_) ∧ k_ ≠ gb421 ∧ k_ ≠ gb422)) (by (with_reducible repeat (first | apply Kd.N_alloc | apply Kd.N_drewN | apply Kd.N_drew)); exact HO438.out) hg hat)
                        have n5_ := Aside0.mk (hb)
                        have n6_ := Aside0.mk (ho)
                        clear HO_3
                        clear HO_423001
                        clear BK421
                        clear BK422
                        clear HO438
                        clear HB
                        clear HO432
                        have HO_3 := n0_
                        have HO_423001 := n1_
                        have BK421 := n2_
                        have BK422 := n3_
                        have HO438 := n4_
                        have HB := n5_
                        have HO435 := n6_
                        clear n0_ n1_ n2_ n3_ n4_ n5_ n6_
                        clear ho hb hg hat
                        refine hK.out _ _ ⟨(blk_cell BK421.out 0).trans rfl, (blk_cell BK421.out 1).trans rfl, (blk_cell BK422.out 0).trans rfl, (blk_cell BK422.out 1).trans rfl⟩ (fun hHeld => ?_)
                        clear hK K
                        refine norm_ (a' := ?_) ?_ ?_
                        rotate_left
                        · show Act.put _ (some 54) _ = _
                          simp only [Act.put, List.setIfInBounds_toArray, List.set_cons_zero, List.set_cons_succ, i64_w, i32_w]
                          rfl
                        exact norm_ (by simp only [putAll, Act.put, List.setIfInBounds_toArray, List.set_cons_zero, List.set_cons_succ]) (hCont (v431, v434, v437) _ ⟨hHeld, (by (with_reducible repeat (first | apply Kd.N_alloc | apply Kd.N_drewN | apply Kd.N_drew)); exact HO435.out), (by (with_reducible repeat (first | apply Kd.N_alloc | apply Kd.N_drewN | apply Kd.N_drew)); exact Kd.N_mono HO438.out (fun _ hk => ⟨hk.1.1, ⟨hk.2, ⟨hk.1.2.1, hk.1.2.2⟩⟩⟩)), (by (with_reducible repeat (first | apply Kd.V_alloc | apply Kd.V_drewN | apply Kd.V_drew)); exact Kd.V_mono HO_3.out (fun _ hk => ⟨hk.1.1, ⟨hk.2, ⟨hk.1.2.1, ⟨hk.1.2.2.1, hk.1.2.2.2⟩⟩⟩⟩)), (by (with_reducible repeat (first | apply Kd.V_alloc | apply Kd.V_drewN | apply Kd.V_drew)); exact Kd.V_mono HO_423001.out (fun _ hk => ⟨hk.1.1, ⟨hk.2, ⟨hk.1.2.1, ⟨hk.1.2.2.1, hk.1.2.2.2⟩⟩⟩⟩)), (by (with_reducible repeat (first | refine blk_drewN ?_ _ | refine blk_drew ?_ | refine blk_alloc ?_ _)); exact BK421.out), (by (with_reducible repeat (first | refine blk_drewN ?_ _ | refine blk_drew ?_ | refine blk_alloc ?_ _)); exact BK422.out), (by repeat (first | (with_reducible first | exact HB.out | apply below_alloc | apply pw_below_drewN | apply below_drew1 | refine below_set ?_ GE421.out | refine below_set ?_ GE422.out) | exact HB.out))⟩)
                    rintro ⟨v431, v434, v437⟩ w107 ⟨hS_, h0_, h1_, h2_, h3_, h4_, h5_, h6_⟩
                    have n0_ : Aside0 (Kd.N k24 24 w107 w.heap.size (fun k_ => ((P3_ k_ ∨ P4_1_ k_) ∨ w.heap.size ≤ k_) ∧ some k_ ≠ (v437 : Value).ownBlock ∧ k_ ≠ gb421 ∧ k_ ≠ gb422) v434 y433) := ⟨h0_⟩
                    have n1_ : Aside0 (Kd.N k24 24 w107 w.heap.size (fun k_ => ((P3_ k_ ∨ P4_1_ k_) ∨ w.heap.size ≤ k_) ∧ some k_ ≠ (v434 : Value).ownBlock ∧ k_ ≠ gb421 ∧ k_ ≠ gb422) v437 y436) := ⟨h1_⟩
                    have n2_ : Aside0 (Kd.V k24 24 w107 w.heap.size (fun k_ => ((P3_ k_ ∨ P4_1_ k_) ∨ w.heap.size ≤ k_) ∧ some k_ ≠ (v434 : Value).ownBlock ∧ some k_ ≠ (v437 : Value).ownBlock ∧ k_ ≠ gb421 ∧ k_ ≠ gb422) (.slice A3 l3.length c3) l3) := ⟨h2_⟩
                    have n3_ : Aside0 (Kd.V k57 57 w107 w.heap.size (fun k_ => ((P3_ k_ ∨ P4_1_ k_) ∨ w.heap.size ≤ k_) ∧ some k_ ≠ (v434 : Value).ownBlock ∧ some k_ ≠ (v437 : Value).ownBlock ∧ k_ ≠ gb421 ∧ k_ ≠ gb422) (.slice A4_1 l4_1.length c4_1) l4_1) := ⟨h3_⟩
                    have n4_ : Aside0 (w107.heap[gb421]? = some (.cells #[.int .i64 a0_0, .slice A0_1 l0_1.length c0_1] 24 (0, 0))) := ⟨h4_⟩
                    have n5_ : Aside0 (w107.heap[gb422]? = some (.cells #[.int .i64 a4_0, .slice A4_1 l4_1.length c4_1] 24 (0, 0))) := ⟨h5_⟩
                    have n6_ : Aside0 (Below w.heap.size w w107) := ⟨h6_⟩
                    clear HO_3
                    clear HO_423001
                    clear BK421
                    clear BK422
                    clear HB
                    clear h0_ h1_ h2_ h3_ h4_ h5_ h6_
                    have HO435 := n0_
                    have HO438 := n1_
                    have HO_3 := n2_
                    have HO_423001 := n3_
                    have BK421 := n4_
                    have BK422 := n5_
                    have HB := n6_
                    clear n0_ n1_ n2_ n3_ n4_ n5_ n6_
                    have hHeld : w107.cell? ⟨gb421, 0, none⟩ = some (.int .i64 a0_0) ∧ w107.cell? ⟨gb421, 1, none⟩ = some (.slice A0_1 l0_1.length c0_1) ∧ w107.cell? ⟨gb422, 0, none⟩ = some (.int .i64 a4_0) ∧ w107.cell? ⟨gb422, 1, none⟩ = some (.slice A4_1 l4_1.length c4_1) := hS_
                    obtain ⟨Ao109, co109, eo109⟩ := Kd.N_slice HO438.out
                    (first | subst eo109 | (injection eo109 with f1_ f2_ f3_; have f4_ := f1_.symm; have f5_ := f3_.symm; clear f1_ f2_ f3_; subst f4_; subst f5_))
                    refine norm_ (a' := ?_) ?_ ?_
                    rotate_left
                    · simp only [putAll, Act.put, List.setIfInBounds_toArray, List.set_cons_zero, List.set_cons_succ]
                      rfl
                    refine one_ (i := 8) (N := some 57) #[true, true, true, true, true, true, true, true, true, false, false, false, false, false, false] rfl rfl (one_of HT_.out (by kernel_rfl)) (by decide) (fun K hK => ?_)
                    refine Kd.N_append_rows_step k24 (w0 := w) w.heap.size (by rfl) (.tmp 54) (.tmp 56) 27 24 (.agg #[(.int .i64 0), (.slice none 0 0)]) 32 rfl Try.underlying27 info24 rfl (by decide) (by omega) v434 y433 y436 _ _ _ (fun k_ => ((P3_ k_ ∨ P4_1_ k_) ∨ w.heap.size ≤ k_) ∧ k_ ≠ gb421 ∧ k_ ≠ gb422) (fun k_ => ((fun k_ => ((P3_ k_ ∨ P4_1_ k_) ∨ w.heap.size ≤ k_) ∧ k_ ≠ gb421 ∧ k_ ≠ gb422)) k_ ∧ some k_ ≠ (v434 : Value).ownBlock) rfl rfl ?aO ?aR (fun _ hk => hk) ?aF ?aB ?aS ?aL ?_
                    (case aR => exact (by skip; exact Kd.N_F (Kd.N_mono (ok' := (fun k_ => ((fun k_ => ((P3_ k_ ∨ P4_1_ k_) ∨ w.heap.size ≤ k_) ∧ k_ ≠ gb421 ∧ k_ ≠ gb422)) k_ ∧ some k_ ≠ (v434 : Value).ownBlock)) (HO438.out) (fun k_ hk => ⟨⟨hk.1, ⟨hk.2.2.1, hk.2.2.2⟩⟩, hk.2.1⟩))))
                    (case aB => exact (by repeat (first | (with_reducible first | exact HB.out | apply below_alloc | apply pw_below_drewN | apply below_drew1 | refine below_set ?_ GE421.out | refine below_set ?_ GE422.out) | exact HB.out)))
                    (case aF => exact (fun k_ hk => ⟨(.inr (Nat.le_trans (below_size (by repeat (first | (with_reducible first | exact HB.out | apply below_alloc | apply pw_below_drewN | apply below_drew1 | refine below_set ?_ GE421.out | refine below_set ?_ GE422.out) | exact HB.out))) hk)), Kd.freshB (g := gb421) (o := .cells #[.int .i64 a0_0, .slice A0_1 l0_1.length c0_1] 24 (0, 0)) (by (with_reducible repeat (first | refine blk_drewN ?_ _ | refine blk_drew ?_ | refine blk_alloc ?_ _)); exact BK421.out) k_ hk, Kd.freshB (g := gb422) (o := .cells #[.int .i64 a4_0, .slice A4_1 l4_1.length c4_1] 24 (0, 0)) (by (with_reducible repeat (first | refine blk_drewN ?_ _ | refine blk_drew ?_ | refine blk_alloc ?_ _)); exact BK422.out) k_ hk⟩))
                    (case aO => exact (by (with_reducible repeat (first | apply Kd.N_alloc | apply Kd.N_drewN | apply Kd.N_drew)); exact Kd.N_mono HO435.out (fun _ hk => ⟨hk.1, ⟨hk.2.2.1, hk.2.2.2⟩⟩)))
                    (case aS => exact (below_size (by repeat (first | (with_reducible first | exact HB.out | apply below_alloc | apply pw_below_drewN | apply below_drew1 | refine below_set ?_ GE421.out | refine below_set ?_ GE422.out) | exact HB.out))))
                    (case aL => have := LMc35.out; omega)
                    intro v440 w108 ho hb hg hat
                    rw [← Ny439.out] at ho
                    have n0_ := Aside0.mk (Kd.V_afterv (ok := (fun k_ => ((P3_ k_ ∨ P4_1_ k_) ∨ w.heap.size ≤ k_) ∧ some k_ ≠ (.slice Ao109 y436.length co109 : Value).ownBlock ∧ k_ ≠ gb421 ∧ k_ ≠ gb422)) (by (with_reducible repeat (first | apply Kd.V_alloc | apply Kd.V_drewN | apply Kd.V_drew)); exact Kd.V_mono HO_3.out (fun _ hk => ⟨⟨hk.1, ⟨hk.2.2.1, ⟨hk.2.2.2.1, hk.2.2.2.2⟩⟩⟩, hk.2.1⟩)) hg hat)
                    have n1_ := Aside0.mk (Kd.V_afterv (ok := (fun k_ => ((P3_ k_ ∨ P4_1_ k_) ∨ w.heap.size ≤ k_) ∧ some k_ ≠ (.slice Ao109 y436.length co109 : Value).ownBlock ∧ k_ ≠ gb421 ∧ k_ ≠ gb422)) (by (with_reducible repeat (first | apply Kd.V_alloc | apply Kd.V_drewN | apply Kd.V_drew)); exact Kd.V_mono HO_423001.out (fun _ hk => ⟨⟨hk.1, ⟨hk.2.2.1, ⟨hk.2.2.2.1, hk.2.2.2.2⟩⟩⟩, hk.2.1⟩)) hg hat)
                    have n2_ := Aside0.mk (blk_grown (g := gb421) (o := .cells #[.int .i64 a0_0, .slice A0_1 l0_1.length c0_1] 24 (0, 0)) (by (with_reducible repeat (first | refine blk_drewN ?_ _ | refine blk_drew ?_ | refine blk_alloc ?_ _)); exact BK421.out) hg (Kd.N_away HO435.out (fun _ hk => hk.2.2.1)))
                    have n3_ := Aside0.mk (blk_grown (g := gb422) (o := .cells #[.int .i64 a4_0, .slice A4_1 l4_1.length c4_1] 24 (0, 0)) (by (with_reducible repeat (first | refine blk_drewN ?_ _ | refine blk_drew ?_ | refine blk_alloc ?_ _)); exact BK422.out) hg (Kd.N_away HO435.out (fun _ hk => hk.2.2.2)))
                    have n4_ := Aside0.mk (Kd.N_afterv (ok := (fun k_ => ((P3_ k_ ∨ P4_1_ k_) ∨ w.heap.size ≤ k_) ∧ k_ ≠ gb421 ∧ k_ ≠ gb422)) (by (with_reducible repeat (first | apply Kd.N_alloc | apply Kd.N_drewN | apply Kd.N_drew)); exact Kd.N_mono HO438.out (fun _ hk => ⟨⟨hk.1, ⟨hk.2.2.1, hk.2.2.2⟩⟩, hk.2.1⟩)) hg hat)
                    have n5_ := Aside0.mk (hb)
                    have n6_ := Aside0.mk (ho)
                    clear HO_3
                    clear HO_423001
                    clear BK421
                    clear BK422
                    clear HO438
                    clear HB
                    clear HO435
                    have HO_3 := n0_
                    have HO_423001 := n1_
                    have BK421 := n2_
                    have BK422 := n3_
                    have HO438 := n4_
                    have HB := n5_
                    have HO441 := n6_
                    clear n0_ n1_ n2_ n3_ n4_ n5_ n6_
                    clear ho hb hg hat
                    obtain ⟨Ao110, co110, eo110⟩ := Kd.N_slice HO441.out
                    (first | subst eo110 | (injection eo110 with f1_ f2_ f3_; have f4_ := f1_.symm; have f5_ := f3_.symm; clear f1_ f2_ f3_; subst f4_; subst f5_))
                    refine hK.out _ _ ⟨(blk_cell BK421.out 0).trans rfl, (blk_cell BK421.out 1).trans rfl, (blk_cell BK422.out 0).trans rfl, (blk_cell BK422.out 1).trans rfl⟩ (fun hHeld => ?_)
                    clear hK K
                    refine norm_ (a' := ?_) ?_ ?_
                    rotate_left
                    · show Act.put _ (some 57) _ = _
                      simp only [Act.put, List.setIfInBounds_toArray, List.set_cons_zero, List.set_cons_succ, i64_w, i32_w]
                      rfl
                    refine one_ (i := 9) (N := some 58) #[true, true, true, true, true, true, true, true, true, true, false, false, false, false, false] rfl rfl (one_of HT_.out (by kernel_rfl)) (by decide) (fun K hK => ?_)
                    refine goes_ Try.func12 (by kernel_rfl) rfl #[.agg #[.int .i64 a0_0, .slice A0_1 l0_1.length c0_1], .slice A1 l1.length c1, .slice A2 l2.length c2, .slice Ao110 y439.length co110] (by rfl) rfl rfl (by (try simp only [List.map_toArray, List.map_cons, List.map_nil]); first | done | rfl | (simp only [List.length_drop, List.length_take]; rfl)) ?_
                    with_reducible refine (rival_Judge.calls a0_0 _ _ l0_1 _ _ l1 _ _ l2 _ _ y439 t442 t443 _ ?side1 ?side2 ?side3 ?side4 ?side5 ?side6 ?side7 ?side8 A36.out).mono ?_
                    (case side1 => repeat (first | exact (Kd.C_below HR0_1.out HB.out) | (with_reducible refine Kd.C_alloc ?_ _) | (with_reducible refine Kd.C_drewN ?_ _) | (with_reducible refine Kd.C_drew ?_)))
                    (case side2 => exact HC0_1.out)
                    (case side3 => repeat (first | exact (Kd.C_below HR1.out HB.out) | (with_reducible refine Kd.C_alloc ?_ _) | (with_reducible refine Kd.C_drewN ?_ _) | (with_reducible refine Kd.C_drew ?_)))
                    (case side4 => exact HC1.out)
                    (case side5 => repeat (first | exact (Kd.C_below HR2.out HB.out) | (with_reducible refine Kd.C_alloc ?_ _) | (with_reducible refine Kd.C_drewN ?_ _) | (with_reducible refine Kd.C_drew ?_)))
                    (case side6 => exact HC2.out)
                    (case side7 => repeat (first | exact (Kd.N_reads' HO441.out).2.2 | (with_reducible refine Kd.C_alloc ?_ _) | (with_reducible refine Kd.C_drewN ?_ _) | (with_reducible refine Kd.C_drew ?_)))
                    (case side8 => exact (Kd.N_reads' HO441.out).2.1)
                    rintro e w111 ⟨rfl, hb⟩
                    refine ⟨_, rfl, ?_⟩
                    have n0_ := Aside0.mk (Kd.V_below (by (with_reducible repeat (first | apply Kd.V_alloc | apply Kd.V_drewN | apply Kd.V_drew)); exact HO_3.out) hb)
                    have n1_ := Aside0.mk (Kd.V_below (by (with_reducible repeat (first | apply Kd.V_alloc | apply Kd.V_drewN | apply Kd.V_drew)); exact HO_423001.out) hb)
                    have n2_ := Aside0.mk (Kd.N_below (by (with_reducible repeat (first | apply Kd.N_alloc | apply Kd.N_drewN | apply Kd.N_drew)); exact HO438.out) hb)
                    have n3_ := Aside0.mk (Kd.N_below (by (with_reducible repeat (first | apply Kd.N_alloc | apply Kd.N_drewN | apply Kd.N_drew)); exact HO441.out) hb)
                    have n4_ := Aside0.mk (blk_below (g := gb421) (o := .cells #[.int .i64 a0_0, .slice A0_1 l0_1.length c0_1] 24 (0, 0)) (by (with_reducible repeat (first | refine blk_drewN ?_ _ | refine blk_drew ?_ | refine blk_alloc ?_ _)); exact BK421.out) hb)
                    have n5_ := Aside0.mk (blk_below (g := gb422) (o := .cells #[.int .i64 a4_0, .slice A4_1 l4_1.length c4_1] 24 (0, 0)) (by (with_reducible repeat (first | refine blk_drewN ?_ _ | refine blk_drew ?_ | refine blk_alloc ?_ _)); exact BK422.out) hb)
                    have n6_ := Aside0.mk (below_step (by repeat (first | (with_reducible first | exact HB.out | apply below_alloc | apply pw_below_drewN | apply below_drew1 | refine below_set ?_ GE421.out | refine below_set ?_ GE422.out) | exact HB.out)) hb)
                    clear HO_3
                    clear HO_423001
                    clear HO438
                    clear HO441
                    clear BK421
                    clear BK422
                    clear HB
                    have HO_3 := n0_
                    have HO_423001 := n1_
                    have HO438 := n2_
                    have HO441 := n3_
                    have BK421 := n4_
                    have BK422 := n5_
                    have HB := n6_
                    clear n0_ n1_ n2_ n3_ n4_ n5_ n6_
                    (try clear hb)
                    (try clear hb2)
                    (try clear hk)
                    (try clear hi)
                    refine hK.out _ _ ⟨(blk_cell BK421.out 0).trans rfl, (blk_cell BK421.out 1).trans rfl, (blk_cell BK422.out 0).trans rfl, (blk_cell BK422.out 1).trans rfl⟩ (fun hHeld => ?_)
                    clear hK K
                    refine norm_ (a' := ?_) ?_ ?_
                    rotate_left
                    · show Act.put _ (some 58) _ = _
                      simp only [Act.put, List.setIfInBounds_toArray, List.set_cons_zero, List.set_cons_succ, i64_w, i32_w]
                      rfl
                    refine pure_ (i := 10) (N := some 48) (v := ?_) (a' := ?_) #[true, true, true, true, true, true, true, true, true, true, true, false, false, false, false] rfl rfl (any_of HT_.out (by kernel_rfl)) (fun _ _ _ h => h) (Or.inl ⟨by rfl, ?_⟩) ?_ ?_
                    rotate_left
                    · intro w'
                      go_simp
                      with_reducible rfl
                    rotate_left
                    · simp only [Act.put, List.setIfInBounds_toArray, List.set_cons_zero, List.set_cons_succ, i64_w, i32_w]
                      rfl
                    refine pure_ (i := 11) (N := some 59) (v := ?_) (a' := ?_) #[true, true, true, true, true, true, true, true, true, true, true, true, false, false, false] rfl rfl (any_of HT_.out (by kernel_rfl)) (fun _ _ _ h => h) (Or.inl ⟨by rfl, ?_⟩) ?_ ?_
                    rotate_left
                    · intro w'
                      go_simp
                      with_reducible rfl
                    rotate_left
                    · simp only [Act.put, List.setIfInBounds_toArray, List.set_cons_zero, List.set_cons_succ, i64_w, i32_w]
                      rfl
                    refine pure_ (i := 12) (N := some 60) (v := ?_) (a' := ?_) #[true, true, true, true, true, true, true, true, true, true, true, true, true, false, false] rfl rfl (any_of HT_.out (by kernel_rfl)) (fun _ _ _ h => h) (Or.inl ⟨by rfl, ?_⟩) ?_ ?_
                    rotate_left
                    · intro w'
                      go_simp
                      with_reducible rfl
                    rotate_left
                    · simp only [Act.put, List.setIfInBounds_toArray, List.set_cons_zero, List.set_cons_succ, i64_w, i32_w]
                      rfl
                    refine pure_ (i := 13) (N := some 14) (v := ?_) (a' := ?_) #[true, true, true, true, true, true, true, true, true, true, true, true, true, true, false] rfl rfl (any_of HT_.out (by kernel_rfl)) (fun _ _ _ h => h) (Or.inl ⟨by rfl, ?_⟩) ?_ ?_
                    rotate_left
                    · intro w'
                      go_simp
                      with_reducible rfl
                    rotate_left
                    · simp only [Act.put, List.setIfInBounds_toArray, List.set_cons_zero, List.set_cons_succ, i64_w, i32_w]
                      rfl
                    refine pure_ (i := 14) (N := some 15) (v := ?_) (a' := ?_) #[true, true, true, true, true, true, true, true, true, true, true, true, true, true, true] rfl rfl (any_of HT_.out (by kernel_rfl)) (fun _ _ _ h => h) (Or.inl ⟨by rfl, ?_⟩) ?_ ?_
                    rotate_left
                    · intro w'
                      go_simp
                      with_reducible rfl
                    rotate_left
                    · simp only [Act.put, List.setIfInBounds_toArray, List.set_cons_zero, List.set_cons_succ, i64_w, i32_w]
                      rfl
                    refine done_ (done_of HT_.out (by kernel_rfl)) ?_
                    try go_wp2
                    go_ret
                    exact ⟨by first | rfl | (simp [errW_none, errW_some] <;> rfl) | (simp [*, errW_none, errW_some] <;> rfl), by repeat (first | (with_reducible first | exact HB.out | apply below_alloc | apply pw_below_drewN | apply below_drew1 | refine below_set ?_ GE421.out | refine below_set ?_ GE422.out) | exact HB.out)⟩
            · replace c37 := Bool.eq_false_iff.mpr c37
              subst c37
              have H1 : (some false) = some r := by rw [if_neg (show ¬ (false = true) by decide)] at H; exact H
              rw [HTr_] at H1
              exact absurd (Option.some.inj H1) (by decide)
          · rw [if_neg c35] at H
            exact absurd H (by simp)
        · rw [if_neg c34] at H
          exact absurd H (by simp)

/-- The law, plainly. -/
def banksmanlaw14_RivalMore.Pure : Prop := ∀ (a0_0 : Int) (l0_1 : List (S57)) (l1 : List (S59)) (l2 : List (S50)) (l3 : List (S24)) (a4_0 : Int) (l4_1 : List (S57)), (fun n_ : Int => (Lit.int .i64 n_).wf = true) a0_0 → (fun xs_ : List (S57) => xs_.length ≤ maxLen ∧ ∀ x ∈ xs_, (fun x_ : S57 => (fun n_ : Int => (Lit.int .i64 n_).wf = true) x_.f0 ∧ (fun xs_ : List Int => xs_.length ≤ maxLen ∧ ∀ x ∈ xs_, (fun n_ : Int => (Lit.int .u8 n_).wf = true) x) x_.f1 ∧ (fun xs_ : List Int => xs_.length ≤ maxLen ∧ ∀ x ∈ xs_, (fun n_ : Int => (Lit.int .u8 n_).wf = true) x) x_.f2 ∧ (fun _ : Bool => True) x_.f3) x) l0_1 → (fun xs_ : List (S59) => xs_.length ≤ maxLen ∧ ∀ x ∈ xs_, (fun x_ : S59 => (fun n_ : Int => (Lit.int .i64 n_).wf = true) x_.f0 ∧ (fun xs_ : List Int => xs_.length ≤ maxLen ∧ ∀ x ∈ xs_, (fun n_ : Int => (Lit.int .u8 n_).wf = true) x) x_.f1 ∧ (fun _ : Bool => True) x_.f2 ∧ (fun xs_ : List Int => xs_.length ≤ maxLen ∧ ∀ x ∈ xs_, (fun n_ : Int => (Lit.int .u8 n_).wf = true) x) x_.f3) x) l1 → (fun xs_ : List (S50) => xs_.length ≤ maxLen ∧ ∀ x ∈ xs_, (fun x_ : S50 => (fun n_ : Int => (Lit.int .i64 n_).wf = true) x_.f0 ∧ (fun n_ : Int => (Lit.int .i64 n_).wf = true) x_.f1 ∧ (fun _ : Bool => True) x_.f2 ∧ (fun xs_ : List (S57) => xs_.length ≤ maxLen ∧ ∀ x ∈ xs_, (fun x_ : S57 => (fun n_ : Int => (Lit.int .i64 n_).wf = true) x_.f0 ∧ (fun xs_ : List Int => xs_.length ≤ maxLen ∧ ∀ x ∈ xs_, (fun n_ : Int => (Lit.int .u8 n_).wf = true) x) x_.f1 ∧ (fun xs_ : List Int => xs_.length ≤ maxLen ∧ ∀ x ∈ xs_, (fun n_ : Int => (Lit.int .u8 n_).wf = true) x) x_.f2 ∧ (fun _ : Bool => True) x_.f3) x) x_.f3 ∧ (fun xs_ : List (S59) => xs_.length ≤ maxLen ∧ ∀ x ∈ xs_, (fun x_ : S59 => (fun n_ : Int => (Lit.int .i64 n_).wf = true) x_.f0 ∧ (fun xs_ : List Int => xs_.length ≤ maxLen ∧ ∀ x ∈ xs_, (fun n_ : Int => (Lit.int .u8 n_).wf = true) x) x_.f1 ∧ (fun _ : Bool => True) x_.f2 ∧ (fun xs_ : List Int => xs_.length ≤ maxLen ∧ ∀ x ∈ xs_, (fun n_ : Int => (Lit.int .u8 n_).wf = true) x) x_.f3) x) x_.f4 ∧ (fun _ : Bool => True) x_.f5) x) l2 → (fun xs_ : List (S24) => xs_.length ≤ maxLen ∧ ∀ x ∈ xs_, (fun x_ : S24 => (fun n_ : Int => (Lit.int .i64 n_).wf = true) x_.f0 ∧ (fun xs_ : List (S57) => xs_.length ≤ maxLen ∧ ∀ x ∈ xs_, (fun x_ : S57 => (fun n_ : Int => (Lit.int .i64 n_).wf = true) x_.f0 ∧ (fun xs_ : List Int => xs_.length ≤ maxLen ∧ ∀ x ∈ xs_, (fun n_ : Int => (Lit.int .u8 n_).wf = true) x) x_.f1 ∧ (fun xs_ : List Int => xs_.length ≤ maxLen ∧ ∀ x ∈ xs_, (fun n_ : Int => (Lit.int .u8 n_).wf = true) x) x_.f2 ∧ (fun _ : Bool => True) x_.f3) x) x_.f1) x) l3 → (fun n_ : Int => (Lit.int .i64 n_).wf = true) a4_0 → (fun xs_ : List (S57) => xs_.length ≤ maxLen ∧ ∀ x ∈ xs_, (fun x_ : S57 => (fun n_ : Int => (Lit.int .i64 n_).wf = true) x_.f0 ∧ (fun xs_ : List Int => xs_.length ≤ maxLen ∧ ∀ x ∈ xs_, (fun n_ : Int => (Lit.int .u8 n_).wf = true) x) x_.f1 ∧ (fun xs_ : List Int => xs_.length ≤ maxLen ∧ ∀ x ∈ xs_, (fun n_ : Int => (Lit.int .u8 n_).wf = true) x) x_.f2 ∧ (fun _ : Bool => True) x_.f3) x) l4_1 → ∃ k, banksmanlaw14_RivalMore.f k a0_0 l0_1 l1 l2 l3 a4_0 l4_1 = some true

end Go.Proofs.Ytpoaleejhdeclaa.P
