-- Written by wip/gprint.py, a program of this session over the kit's print; Lean checks it.
import Derived.Test.YtbenenpkbdldmaaPx0
import Derived.Test.YtbenenpkbdldmaaPx17
import Derived.Test.YtbenenpkbdldmaaPx24
import Derived.Test.YtbenenpkbdldmaaPx25
import Derived.Test.YtbenenpkbdldmaaPx27
import Derived.Test.YtbenenpkbdldmaaPx28
namespace Go.Proofs.Ytbenenpkbdldmaa.P
open Go.RowKit Go.Proofs.YtbenenpkbdldmaaW.PrintWords Go.Proofs.YtbenenpkbdldmaaW.PrintLast Go.Proofs.YtbenenpkbdldmaaW.PrintMore
attribute [local go_sem] max2_int min2_int max_two min_two max_three min_three max_four min_four   -- for this text's walks alone
set_option linter.unusedVariables false
set_option linter.unusedSimpArgs false

/-! ### banksmanlaw04_WalSizes: function 7 -/
mutual
def banksmanlaw04_WalSizes.j0 : Nat → List (List Int) → Bool → Bool → List Int → Int → Option (Bool)
  | 0, _, _, _, _, _ => none
  | k + 1, x1, x5, x28, x422000, x422001 => if x28 = true then (some x5) else ((wal_Trim.f x422000 x422001).bind fun bt424 => (banksmanlaw04_WalSizes.l0 k x1 x5 (bt424.1.length : Int) 0 bt424.1 bt424.2))
def banksmanlaw04_WalSizes.l0 : Nat → List (List Int) → Bool → Int → Int → List Int → Int → Option (Bool)
  | 0, _, _, _, _, _, _ => none
  | k + 1, x1, x5, x7, x8, x429000, x429001 => if x8 < (x1.length : Int) then (if 0 ≤ x8 then (if ((rd_L1 x1 x8).length : Int) > 100 then (some x5) else (banksmanlaw04_WalSizes.l0 k x1 x5 (wrap64 ((wrap64 ((wrap64 (x7 + 1)) + ((rd_L1 x1 x8).length : Int))) + 4)) (wrap64 (x8 + 1)) x429000 x429001)) else (none)) else ((wal_Append.f x429000 x429001 x1).bind fun bt431 => ((wal_Texts.f x429000 x429001).bind fun t437 => ((wal_Texts.f bt431.1 bt431.2.1).bind fun t440 => (if bt431.2.2 = 0 then (if (t440.length : Int) = (wrap64 ((t437.length : Int) + (x1.length : Int))) then (if (bt431.1.length : Int) = x7 then (banksmanlaw04_WalSizes.j2 k x1 x5 t437 t440 (bt431.2.1 != x429001) bt431.1 bt431.2.1) else (banksmanlaw04_WalSizes.j2 k x1 x5 t437 t440 true bt431.1 bt431.2.1)) else (banksmanlaw04_WalSizes.j2 k x1 x5 t437 t440 true bt431.1 bt431.2.1)) else (banksmanlaw04_WalSizes.j2 k x1 x5 t437 t440 true bt431.1 bt431.2.1)))))
def banksmanlaw04_WalSizes.j2 : Nat → List (List Int) → Bool → List (List Int) → List (List Int) → Bool → List Int → Int → Option (Bool)
  | 0, _, _, _, _, _, _, _ => none
  | k + 1, x1, x5, x11, x12, x92, x437000, x437001 => if x92 = true then (some false) else (banksmanlaw04_WalSizes.l1 k x1 x5 x11 x12 0 x437000 x437001)
def banksmanlaw04_WalSizes.l1 : Nat → List (List Int) → Bool → List (List Int) → List (List Int) → Int → List Int → Int → Option (Bool)
  | 0, _, _, _, _, _, _, _ => none
  | k + 1, x1, x5, x11, x12, x13, x437000, x437001 => if x13 < (x1.length : Int) then (if 0 ≤ (wrap64 ((x11.length : Int) + x13)) then (if (wrap64 ((x11.length : Int) + x13)) < (x12.length : Int) then (if 0 ≤ x13 then (if (strOfNums (rd_L1 x12 (wrap64 ((x11.length : Int) + x13)))).toList = (strOfNums (rd_L1 x1 x13)).toList then (banksmanlaw04_WalSizes.l1 k x1 x5 x11 x12 (wrap64 (x13 + 1)) x437000 x437001) else (some false)) else (none)) else (none)) else (none)) else (if x5 = true then ((wal_Check.f x437000 x437001).bind fun t445 => (some t445)) else (some false))
end
def banksmanlaw04_WalSizes.f (k : Nat) (l0_0 : List Int) (a0_1 : Int) (l1 : List (List Int)) : Option (Bool) := (banksmanlaw04_awake.f).bind fun t422 => (if (l0_0.length : Int) > 2000 then (banksmanlaw04_WalSizes.j0 k l1 t422 true l0_0 a0_1) else (if (l1.length : Int) > 20 then (banksmanlaw04_WalSizes.j0 k l1 t422 true l0_0 a0_1) else ((wal_Check.f l0_0 a0_1).bind fun t423 => (banksmanlaw04_WalSizes.j0 k l1 t422 (!t423) l0_0 a0_1))))
theorem banksmanlaw04_WalSizes.mono_l : ∀ k, (∀ y0 y1 y2 y3 y4, LeO (banksmanlaw04_WalSizes.j0 k y0 y1 y2 y3 y4) (banksmanlaw04_WalSizes.j0 (k + 1) y0 y1 y2 y3 y4)) ∧ (∀ y0 y1 y2 y3 y4 y5, LeO (banksmanlaw04_WalSizes.l0 k y0 y1 y2 y3 y4 y5) (banksmanlaw04_WalSizes.l0 (k + 1) y0 y1 y2 y3 y4 y5)) ∧ (∀ y0 y1 y2 y3 y4 y5 y6, LeO (banksmanlaw04_WalSizes.j2 k y0 y1 y2 y3 y4 y5 y6) (banksmanlaw04_WalSizes.j2 (k + 1) y0 y1 y2 y3 y4 y5 y6)) ∧ (∀ y0 y1 y2 y3 y4 y5 y6, LeO (banksmanlaw04_WalSizes.l1 k y0 y1 y2 y3 y4 y5 y6) (banksmanlaw04_WalSizes.l1 (k + 1) y0 y1 y2 y3 y4 y5 y6))
  | 0 => ⟨fun _ _ _ _ _ r h => by simp [banksmanlaw04_WalSizes.j0] at h, fun _ _ _ _ _ _ r h => by simp [banksmanlaw04_WalSizes.l0] at h, fun _ _ _ _ _ _ _ r h => by simp [banksmanlaw04_WalSizes.j2] at h, fun _ _ _ _ _ _ _ r h => by simp [banksmanlaw04_WalSizes.l1] at h⟩
  | k + 1 => by
    obtain ⟨ih0, ih1, ih2, ih3⟩ := banksmanlaw04_WalSizes.mono_l k
    refine ⟨?_, ?_, ?_, ?_⟩
    · intro y0 y1 y2 y3 y4
      unfold banksmanlaw04_WalSizes.j0
      repeat' first
      | (with_reducible exact ih0 _ _ _ _ _)
      | (with_reducible exact ih1 _ _ _ _ _ _)
      | (with_reducible exact ih2 _ _ _ _ _ _ _)
      | (with_reducible exact ih3 _ _ _ _ _ _ _)
      | (with_reducible exact LeO.refl _)
      | (with_reducible exact LeO.none _)
      | (with_reducible refine LeO.ite ?_ ?_)
      | (with_reducible refine LeO.bind ?_ (fun _ => ?_))
      | exact ih0 _ _ _ _ _
      | exact ih1 _ _ _ _ _ _
      | exact ih2 _ _ _ _ _ _ _
      | exact ih3 _ _ _ _ _ _ _
      | exact LeO.none _
      | refine LeO.ite ?_ ?_
      | refine LeO.bind ?_ (fun _ => ?_)
    · intro y0 y1 y2 y3 y4 y5
      unfold banksmanlaw04_WalSizes.l0
      repeat' first
      | (with_reducible exact ih0 _ _ _ _ _)
      | (with_reducible exact ih1 _ _ _ _ _ _)
      | (with_reducible exact ih2 _ _ _ _ _ _ _)
      | (with_reducible exact ih3 _ _ _ _ _ _ _)
      | (with_reducible exact LeO.refl _)
      | (with_reducible exact LeO.none _)
      | (with_reducible refine LeO.ite ?_ ?_)
      | (with_reducible refine LeO.bind ?_ (fun _ => ?_))
      | exact ih0 _ _ _ _ _
      | exact ih1 _ _ _ _ _ _
      | exact ih2 _ _ _ _ _ _ _
      | exact ih3 _ _ _ _ _ _ _
      | exact LeO.none _
      | refine LeO.ite ?_ ?_
      | refine LeO.bind ?_ (fun _ => ?_)
    · intro y0 y1 y2 y3 y4 y5 y6
      unfold banksmanlaw04_WalSizes.j2
      repeat' first
      | (with_reducible exact ih0 _ _ _ _ _)
      | (with_reducible exact ih1 _ _ _ _ _ _)
      | (with_reducible exact ih2 _ _ _ _ _ _ _)
      | (with_reducible exact ih3 _ _ _ _ _ _ _)
      | (with_reducible exact LeO.refl _)
      | (with_reducible exact LeO.none _)
      | (with_reducible refine LeO.ite ?_ ?_)
      | (with_reducible refine LeO.bind ?_ (fun _ => ?_))
      | exact ih0 _ _ _ _ _
      | exact ih1 _ _ _ _ _ _
      | exact ih2 _ _ _ _ _ _ _
      | exact ih3 _ _ _ _ _ _ _
      | exact LeO.none _
      | refine LeO.ite ?_ ?_
      | refine LeO.bind ?_ (fun _ => ?_)
    · intro y0 y1 y2 y3 y4 y5 y6
      unfold banksmanlaw04_WalSizes.l1
      repeat' first
      | (with_reducible exact ih0 _ _ _ _ _)
      | (with_reducible exact ih1 _ _ _ _ _ _)
      | (with_reducible exact ih2 _ _ _ _ _ _ _)
      | (with_reducible exact ih3 _ _ _ _ _ _ _)
      | (with_reducible exact LeO.refl _)
      | (with_reducible exact LeO.none _)
      | (with_reducible refine LeO.ite ?_ ?_)
      | (with_reducible refine LeO.bind ?_ (fun _ => ?_))
      | exact ih0 _ _ _ _ _
      | exact ih1 _ _ _ _ _ _
      | exact ih2 _ _ _ _ _ _ _
      | exact ih3 _ _ _ _ _ _ _
      | exact LeO.none _
      | refine LeO.ite ?_ ?_
      | refine LeO.bind ?_ (fun _ => ?_)
theorem banksmanlaw04_WalSizes.mono : ∀ a0 a1 a2 k, LeO (banksmanlaw04_WalSizes.f k a0 a1 a2) (banksmanlaw04_WalSizes.f (k + 1) a0 a1 a2) := by
  intro a0 a1 a2 k
  obtain ⟨ih0, ih1, ih2, ih3⟩ := banksmanlaw04_WalSizes.mono_l k
  unfold banksmanlaw04_WalSizes.f
  repeat' first
      | (with_reducible exact ih0 _ _ _ _ _)
      | (with_reducible exact ih1 _ _ _ _ _ _)
      | (with_reducible exact ih2 _ _ _ _ _ _ _)
      | (with_reducible exact ih3 _ _ _ _ _ _ _)
      | (with_reducible exact LeO.refl _)
      | (with_reducible exact LeO.none _)
      | (with_reducible refine LeO.ite ?_ ?_)
      | (with_reducible refine LeO.bind ?_ (fun _ => ?_))
      | exact ih0 _ _ _ _ _
      | exact ih1 _ _ _ _ _ _
      | exact ih2 _ _ _ _ _ _ _
      | exact ih3 _ _ _ _ _ _ _
      | exact LeO.none _
      | refine LeO.ite ?_ ?_
      | refine LeO.bind ?_ (fun _ => ?_)
set_option maxHeartbeats 8000000 in
set_option maxRecDepth 100000 in
theorem banksmanlaw04_WalSizes.calls (k : Nat) (A0_0 : Option Addr) (c0_0 : Nat) (l0_0 : List Int) (a0_1 : Int) (A1 : Option Addr) (c1 : Nat) (l1 : List (List Int)) (r : Bool) (w : World) (hr0_0 : Kd.C (Kd.int .u8) w A0_0 l0_0.length l0_0) (hc0_0 : l0_0.length ≤ c0_0) (hr1 : Kd.C (Kd.slice 5 (Kd.int .u8)) w A1 l1.length l1) (hc1 : l1.length ≤ c1) (h : banksmanlaw04_WalSizes.f k l0_0 a0_1 l1 = some r) (HTr_ : r = true) :
    Calls Try.prog 7 #[.agg #[.slice A0_0 l0_0.length c0_0, .int .i64 a0_1], .slice A1 l1.length c1] w fun e w' => e = .returned (.bool r) ∧ Below w.heap.size w w' := by
  have hu26 := Try.underlying26
  have HR0_0 := Aside0.mk hr0_0
  have HC0_0 := Aside0.mk hc0_0
  clear hr0_0 hc0_0
  have HR1 := Aside0.mk hr1
  have HC1 := Aside0.mk hc1
  clear hr1 hc1
  have HB := Aside0.mk (Below.refl w.heap.size w)
  have H : ((banksmanlaw04_awake.f).bind fun t422 => (if (l0_0.length : Int) > 2000 then (banksmanlaw04_WalSizes.j0 k l1 t422 true l0_0 a0_1) else (if (l1.length : Int) > 20 then (banksmanlaw04_WalSizes.j0 k l1 t422 true l0_0 a0_1) else ((wal_Check.f l0_0 a0_1).bind fun t423 => (banksmanlaw04_WalSizes.j0 k l1 t422 (!t423) l0_0 a0_1))))) = some r := h
  clear h
  replace H := Option.bind_eq_some_iff.mp H
  obtain ⟨t422, A30, H⟩ := H
  replace H : (if (l0_0.length : Int) > 2000 then (banksmanlaw04_WalSizes.j0 k l1 t422 true l0_0 a0_1) else (if (l1.length : Int) > 20 then (banksmanlaw04_WalSizes.j0 k l1 t422 true l0_0 a0_1) else ((wal_Check.f l0_0 a0_1).bind fun t423 => (banksmanlaw04_WalSizes.j0 k l1 t422 (!t423) l0_0 a0_1)))) = some r := H
  have A3 := Aside0.mk A30
  clear A30
  have HC4 := Aside0.mk H
  clear H
  go_enter Try.func7, Try.ntmps7
  go_upto_region 2 with (first | ((with_reducible refine gate_dst (N := 2) rfl ?_); (try (refine gate_guard (by rfl) ?_; dsimp only)); refine box_event ?hg (N := 2) ?hd (cs := #[.slice A0_0 l0_0.length c0_0, .int .i64 a0_1]) (t := 26) ?hr ?_; (case hd => rfl); (case hg => rfl); (case hr => first | (go_simp; done) | (go_simp; rfl)); intro gb421 hg w5 hbox hb; have n0_ := Aside0.mk (below_step (by repeat (first | (with_reducible first | exact HB.out | apply below_alloc | apply pw_below_drewN | apply below_drew1) | exact HB.out)) hb); have n1_ := Aside0.mk (hbox); have n2_ := Aside0.mk ((by rw [hg]; exact (below_size (by repeat (first | (with_reducible first | exact HB.out | apply below_alloc | apply pw_below_drewN | apply below_drew1) | exact HB.out))) : w.heap.size ≤ gb421)); have n3_ := Aside0.mk ((by rw [hg]; exact (below_size (by repeat (first | (with_reducible first | exact HB.out | apply below_alloc | apply pw_below_drewN | apply below_drew1) | exact HB.out))) : w.heap.size ≤ gb421)); clear HB; have HB := n0_; have BK421 := n1_; have GW421 := n2_; have GE421 := n3_; clear n0_ n1_ n2_ n3_; clear hb hbox hg) | (go_at_call 8; (with_reducible refine (banksmanlaw04_awake.calls  t422 _ A3.out).mono ?_); rintro e w6 ⟨rfl, hb⟩; have n0_ := Aside0.mk (blk_below (g := gb421) (o := .cells #[.slice A0_0 l0_0.length c0_0, .int .i64 a0_1] 26 (0, 0)) (by (with_reducible repeat (first | refine blk_drewN ?_ _ | refine blk_drew ?_ | refine blk_alloc ?_ _)); exact BK421.out) hb); have n1_ := Aside0.mk (below_step (by repeat (first | (with_reducible first | exact HB.out | apply below_alloc | apply pw_below_drewN | apply below_drew1 | refine below_set ?_ GE421.out) | exact HB.out)) hb); clear BK421; clear HB; have BK421 := n0_; have HB := n1_; clear n0_ n1_; (try clear hb); (try clear hb2); (try clear hk); (try clear hi)))
  repeat (go_quiet (first | ((with_reducible refine gate_dst (N := 2) rfl ?_); (try (refine gate_guard (by rfl) ?_; dsimp only)); refine box_event ?hg (N := 2) ?hd (cs := #[.slice A0_0 l0_0.length c0_0, .int .i64 a0_1]) (t := 26) ?hr ?_; (case hd => rfl); (case hg => rfl); (case hr => first | (go_simp; done) | (go_simp; rfl)); intro gb421 hg w5 hbox hb; have n0_ := Aside0.mk (below_step (by repeat (first | (with_reducible first | exact HB.out | apply below_alloc | apply pw_below_drewN | apply below_drew1) | exact HB.out)) hb); have n1_ := Aside0.mk (hbox); have n2_ := Aside0.mk ((by rw [hg]; exact (below_size (by repeat (first | (with_reducible first | exact HB.out | apply below_alloc | apply pw_below_drewN | apply below_drew1) | exact HB.out))) : w.heap.size ≤ gb421)); have n3_ := Aside0.mk ((by rw [hg]; exact (below_size (by repeat (first | (with_reducible first | exact HB.out | apply below_alloc | apply pw_below_drewN | apply below_drew1) | exact HB.out))) : w.heap.size ≤ gb421)); clear HB; have HB := n0_; have BK421 := n1_; have GW421 := n2_; have GE421 := n3_; clear n0_ n1_ n2_ n3_; clear hb hbox hg) | (go_at_call 8; (with_reducible refine (banksmanlaw04_awake.calls  t422 _ A3.out).mono ?_); rintro e w6 ⟨rfl, hb⟩; have n0_ := Aside0.mk (blk_below (g := gb421) (o := .cells #[.slice A0_0 l0_0.length c0_0, .int .i64 a0_1] 26 (0, 0)) (by (with_reducible repeat (first | refine blk_drewN ?_ _ | refine blk_drew ?_ | refine blk_alloc ?_ _)); exact BK421.out) hb); have n1_ := Aside0.mk (below_step (by repeat (first | (with_reducible first | exact HB.out | apply below_alloc | apply pw_below_drewN | apply below_drew1 | refine below_set ?_ GE421.out) | exact HB.out)) hb); clear BK421; clear HB; have BK421 := n0_; have HB := n1_; clear n0_ n1_; (try clear hb); (try clear hb2); (try clear hk); (try clear hi))); go_upto_region 2 with (first | ((with_reducible refine gate_dst (N := 2) rfl ?_); (try (refine gate_guard (by rfl) ?_; dsimp only)); refine box_event ?hg (N := 2) ?hd (cs := #[.slice A0_0 l0_0.length c0_0, .int .i64 a0_1]) (t := 26) ?hr ?_; (case hd => rfl); (case hg => rfl); (case hr => first | (go_simp; done) | (go_simp; rfl)); intro gb421 hg w5 hbox hb; have n0_ := Aside0.mk (below_step (by repeat (first | (with_reducible first | exact HB.out | apply below_alloc | apply pw_below_drewN | apply below_drew1) | exact HB.out)) hb); have n1_ := Aside0.mk (hbox); have n2_ := Aside0.mk ((by rw [hg]; exact (below_size (by repeat (first | (with_reducible first | exact HB.out | apply below_alloc | apply pw_below_drewN | apply below_drew1) | exact HB.out))) : w.heap.size ≤ gb421)); have n3_ := Aside0.mk ((by rw [hg]; exact (below_size (by repeat (first | (with_reducible first | exact HB.out | apply below_alloc | apply pw_below_drewN | apply below_drew1) | exact HB.out))) : w.heap.size ≤ gb421)); clear HB; have HB := n0_; have BK421 := n1_; have GW421 := n2_; have GE421 := n3_; clear n0_ n1_ n2_ n3_; clear hb hbox hg) | (go_at_call 8; (with_reducible refine (banksmanlaw04_awake.calls  t422 _ A3.out).mono ?_); rintro e w6 ⟨rfl, hb⟩; have n0_ := Aside0.mk (blk_below (g := gb421) (o := .cells #[.slice A0_0 l0_0.length c0_0, .int .i64 a0_1] 26 (0, 0)) (by (with_reducible repeat (first | refine blk_drewN ?_ _ | refine blk_drew ?_ | refine blk_alloc ?_ _)); exact BK421.out) hb); have n1_ := Aside0.mk (below_step (by repeat (first | (with_reducible first | exact HB.out | apply below_alloc | apply pw_below_drewN | apply below_drew1 | refine below_set ?_ GE421.out) | exact HB.out)) hb); clear BK421; clear HB; have BK421 := n0_; have HB := n1_; clear n0_ n1_; (try clear hb); (try clear hb2); (try clear hk); (try clear hi))))
  (try simp only [Act.put, List.setIfInBounds_toArray, List.set_cons_zero, List.set_cons_succ])
  go_cut [28] (fun v28 wc => ∃ (kq : Nat) (x28_3 : Bool), v28 = .bool x28_3 ∧ Aside0 (banksmanlaw04_WalSizes.j0 kq l1 t422 x28_3 l0_0 a0_1 = some r) ∧ Aside0 (kq ≤ k) ∧ Aside0 (wc.heap[gb421]? = some (.cells #[(.slice A0_0 l0_0.length c0_0), .int .i64 a0_1] 26 (0, 0))) ∧ Aside0 (Below w.heap.size w wc))
  case first =>
    have H := HC4.out
    clear HC4
    by_cases c7 : (l0_0.length : Int) > 2000
    · rw [if_pos c7] at H
      have c7b0 : decide (2000 < (l0_0.length : Int)) = true := decide_eq_true c7
      have c7b1 : decide (2000 < l0_0.length) = true := decide_eq_true (by omega)
      clear c7
      (first | rw [c7b0] | (simp only [i64_w, i32_w]; rw [c7b0]) | skip)
      have H' := Aside0.mk H
      clear H
      have hcz8_0 : w6.cell? ⟨gb421, 0, none⟩ = some (.slice A0_0 l0_0.length c0_0) := (blk_cell BK421.out 0).trans rfl
      have hcz8_1 : w6.cell? ⟨gb421, 1, none⟩ = some (.int .i64 a0_1) := (blk_cell BK421.out 1).trans rfl
      have hfz8_0 := blk_frozen BK421.out 0
      have hfz8_1 := blk_frozen BK421.out 1
      go_wp2
      repeat (go_quiet (fail); try go_wp2)
      go_meet
      case rel => exact ⟨_, (true), (by first | rfl | (simp; done) | (simp [*]; done)), H', ⟨by first | omega | exact Nat.le_refl _⟩, ⟨by (with_reducible repeat (first | refine blk_drewN ?_ _ | refine blk_drew ?_ | refine blk_alloc ?_ _)); exact BK421.out⟩, ⟨by repeat (first | (with_reducible first | exact HB.out | apply below_alloc | apply pw_below_drewN | apply below_drew1 | refine below_set ?_ GE421.out) | exact HB.out)⟩⟩
    · rw [if_neg c7] at H
      have c7b0 : decide (2000 < (l0_0.length : Int)) = false := decide_eq_false c7
      have c7b1 : decide (2000 < l0_0.length) = false := decide_eq_false (by omega)
      clear c7
      (first | rw [c7b0] | (simp only [i64_w, i32_w]; rw [c7b0]) | skip)
      by_cases c9 : (l1.length : Int) > 20
      · rw [if_pos c9] at H
        have c9b0 : decide (20 < (l1.length : Int)) = true := decide_eq_true c9
        have c9b1 : decide (20 < l1.length) = true := decide_eq_true (by omega)
        clear c9
        have H' := Aside0.mk H
        clear H
        have hcz10_0 : w6.cell? ⟨gb421, 0, none⟩ = some (.slice A0_0 l0_0.length c0_0) := (blk_cell BK421.out 0).trans rfl
        have hcz10_1 : w6.cell? ⟨gb421, 1, none⟩ = some (.int .i64 a0_1) := (blk_cell BK421.out 1).trans rfl
        have hfz10_0 := blk_frozen BK421.out 0
        have hfz10_1 := blk_frozen BK421.out 1
        go_wp2
        repeat (go_quiet (fail); try go_wp2)
        go_meet
        case rel => exact ⟨_, (true), (by first | rfl | (simp; done) | (simp [*]; done)), H', ⟨by first | omega | exact Nat.le_refl _⟩, ⟨by (with_reducible repeat (first | refine blk_drewN ?_ _ | refine blk_drew ?_ | refine blk_alloc ?_ _)); exact BK421.out⟩, ⟨by repeat (first | (with_reducible first | exact HB.out | apply below_alloc | apply pw_below_drewN | apply below_drew1 | refine below_set ?_ GE421.out) | exact HB.out)⟩⟩
      · rw [if_neg c9] at H
        have c9b0 : decide (20 < (l1.length : Int)) = false := decide_eq_false c9
        have c9b1 : decide (20 < l1.length) = false := decide_eq_false (by omega)
        clear c9
        replace H := Option.bind_eq_some_iff.mp H
        obtain ⟨t423, A110, H⟩ := H
        replace H : (banksmanlaw04_WalSizes.j0 k l1 t422 (!t423) l0_0 a0_1) = some r := H
        have A11 := Aside0.mk A110
        clear A110
        have H' := Aside0.mk H
        clear H
        have hcz12_0 : w6.cell? ⟨gb421, 0, none⟩ = some (.slice A0_0 l0_0.length c0_0) := (blk_cell BK421.out 0).trans rfl
        have hcz12_1 : w6.cell? ⟨gb421, 1, none⟩ = some (.int .i64 a0_1) := (blk_cell BK421.out 1).trans rfl
        have hfz12_0 := blk_frozen BK421.out 0
        have hfz12_1 := blk_frozen BK421.out 1
        go_wp2_with (first | (go_at_call 18; (with_reducible refine (wal_Check.calls _ _ l0_0 a0_1 t423 _ ?side1 ?side2 A11.out).mono ?_); (case side1 => repeat (first | exact (Kd.C_below HR0_0.out HB.out) | (with_reducible refine Kd.C_alloc ?_ _) | (with_reducible refine Kd.C_drewN ?_ _) | (with_reducible refine Kd.C_drew ?_))); (case side2 => exact HC0_0.out); rintro e w13 ⟨rfl, hb⟩; have n0_ := Aside0.mk (blk_below (g := gb421) (o := .cells #[.slice A0_0 l0_0.length c0_0, .int .i64 a0_1] 26 (0, 0)) (by (with_reducible repeat (first | refine blk_drewN ?_ _ | refine blk_drew ?_ | refine blk_alloc ?_ _)); exact BK421.out) hb); have n1_ := Aside0.mk (below_step (by repeat (first | (with_reducible first | exact HB.out | apply below_alloc | apply pw_below_drewN | apply below_drew1 | refine below_set ?_ GE421.out) | exact HB.out)) hb); clear BK421; clear HB; have BK421 := n0_; have HB := n1_; clear n0_ n1_; (try clear hb); (try clear hb2); (try clear hk); (try clear hi)))
        repeat (go_quiet (first | (go_at_call 18; (with_reducible refine (wal_Check.calls _ _ l0_0 a0_1 t423 _ ?side1 ?side2 A11.out).mono ?_); (case side1 => repeat (first | exact (Kd.C_below HR0_0.out HB.out) | (with_reducible refine Kd.C_alloc ?_ _) | (with_reducible refine Kd.C_drewN ?_ _) | (with_reducible refine Kd.C_drew ?_))); (case side2 => exact HC0_0.out); rintro e w13 ⟨rfl, hb⟩; have n0_ := Aside0.mk (blk_below (g := gb421) (o := .cells #[.slice A0_0 l0_0.length c0_0, .int .i64 a0_1] 26 (0, 0)) (by (with_reducible repeat (first | refine blk_drewN ?_ _ | refine blk_drew ?_ | refine blk_alloc ?_ _)); exact BK421.out) hb); have n1_ := Aside0.mk (below_step (by repeat (first | (with_reducible first | exact HB.out | apply below_alloc | apply pw_below_drewN | apply below_drew1 | refine below_set ?_ GE421.out) | exact HB.out)) hb); clear BK421; clear HB; have BK421 := n0_; have HB := n1_; clear n0_ n1_; (try clear hb); (try clear hb2); (try clear hk); (try clear hi))); try go_wp2_with (first | (go_at_call 18; (with_reducible refine (wal_Check.calls _ _ l0_0 a0_1 t423 _ ?side1 ?side2 A11.out).mono ?_); (case side1 => repeat (first | exact (Kd.C_below HR0_0.out HB.out) | (with_reducible refine Kd.C_alloc ?_ _) | (with_reducible refine Kd.C_drewN ?_ _) | (with_reducible refine Kd.C_drew ?_))); (case side2 => exact HC0_0.out); rintro e w13 ⟨rfl, hb⟩; have n0_ := Aside0.mk (blk_below (g := gb421) (o := .cells #[.slice A0_0 l0_0.length c0_0, .int .i64 a0_1] 26 (0, 0)) (by (with_reducible repeat (first | refine blk_drewN ?_ _ | refine blk_drew ?_ | refine blk_alloc ?_ _)); exact BK421.out) hb); have n1_ := Aside0.mk (below_step (by repeat (first | (with_reducible first | exact HB.out | apply below_alloc | apply pw_below_drewN | apply below_drew1 | refine below_set ?_ GE421.out) | exact HB.out)) hb); clear BK421; clear HB; have BK421 := n0_; have HB := n1_; clear n0_ n1_; (try clear hb); (try clear hb2); (try clear hk); (try clear hi))))
        go_meet
        case rel => exact ⟨_, (!t423), (by first | rfl | (simp; done) | (simp [*]; done)), H', ⟨by first | omega | exact Nat.le_refl _⟩, ⟨by (with_reducible repeat (first | refine blk_drewN ?_ _ | refine blk_drew ?_ | refine blk_alloc ?_ _)); exact BK421.out⟩, ⟨by repeat (first | (with_reducible first | exact HB.out | apply below_alloc | apply pw_below_drewN | apply below_drew1 | refine below_set ?_ GE421.out) | exact HB.out)⟩⟩
  case rest =>
    clear HC4
    try clear c1
    try clear p2
    try clear c7
    try clear c7b0
    try clear c7b1
    try clear c9
    try clear c9b0
    try clear c9b1
    try clear hcz10_0
    try clear hcz10_1
    try clear hcz12_0
    try clear hcz12_1
    try clear hcz8_0
    try clear hcz8_1
    try clear hfz10_0
    try clear hfz10_1
    try clear hfz12_0
    try clear hfz12_1
    try clear hfz8_0
    try clear hfz8_1
    obtain ⟨kq, x28_3, rfl, HA, HJ3, BK421, HB⟩ := hcut
    cases kq with
    | zero => exact absurd HA.out (by simp [banksmanlaw04_WalSizes.j0])
    | succ kj3 =>
      have H := HA.out
      clear HA
      simp only [banksmanlaw04_WalSizes.j0] at H
      by_cases c14 : x28_3 = true
      · subst c14
        have H1 : (some t422) = some r := by rw [if_pos rfl] at H; exact H
        clear H
        have H := H1
        clear H1
        obtain rfl := Option.some.inj H
        go_wp2
        repeat (go_quiet (fail); try go_wp2)
        go_ret
        exact ⟨by first | rfl | (simp [errW_none, errW_some] <;> rfl) | (simp [*, errW_none, errW_some] <;> rfl), by repeat (first | (with_reducible first | exact HB.out | apply below_alloc | apply pw_below_drewN | apply below_drew1 | refine below_set ?_ GE421.out) | exact HB.out)⟩
      · replace c14 := Bool.eq_false_iff.mpr c14
        subst c14
        have H1 : ((wal_Trim.f l0_0 a0_1).bind fun bt424 => (banksmanlaw04_WalSizes.l0 kj3 l1 t422 (bt424.1.length : Int) 0 bt424.1 bt424.2)) = some r := by rw [if_neg (show ¬ (false = true) by decide)] at H; exact H
        clear H
        have H := H1
        clear H1
        replace H := Option.bind_eq_some_iff.mp H
        obtain ⟨⟨t424, t427⟩, A150, H⟩ := H
        replace H : (banksmanlaw04_WalSizes.l0 kj3 l1 t422 (t424.length : Int) 0 t424 t427) = some r := H
        have A15 := Aside0.mk A150
        clear A150
        have H' := Aside0.mk H
        clear H
        have hcz16_0 : wc.cell? ⟨gb421, 0, none⟩ = some (.slice A0_0 l0_0.length c0_0) := (blk_cell BK421.out 0).trans rfl
        have hcz16_1 : wc.cell? ⟨gb421, 1, none⟩ = some (.int .i64 a0_1) := (blk_cell BK421.out 1).trans rfl
        have hfz16_0 := blk_frozen BK421.out 0
        have hfz16_1 := blk_frozen BK421.out 1
        go_wp2_with (first | (go_at_call 11; (with_reducible refine (wal_Trim.calls _ _ l0_0 a0_1 t424 t427 _ ?side1 ?side2 A15.out).mono ?_); (case side1 => repeat (first | exact (Kd.C_below HR0_0.out HB.out) | (with_reducible refine Kd.C_alloc ?_ _) | (with_reducible refine Kd.C_drewN ?_ _) | (with_reducible refine Kd.C_drew ?_))); (case side2 => exact HC0_0.out); rintro e w17 ⟨v425, rfl, ho0, hb⟩; have n0_ := Aside0.mk (Kd.V_lower (Kd.V_mono (ok' := fun k_ => k_ ≠ gb421) ho0 (fun k_ hk_ => (Kd.freshB (g := gb421) (o := .cells #[.slice A0_0 l0_0.length c0_0, .int .i64 a0_1] 26 (0, 0)) (by (with_reducible repeat (first | refine blk_drewN ?_ _ | refine blk_drew ?_ | refine blk_alloc ?_ _)); exact BK421.out) k_ hk_))) (below_size (by repeat (first | (with_reducible first | exact HB.out | apply below_alloc | apply pw_below_drewN | apply below_drew1 | refine below_set ?_ GE421.out) | exact HB.out)))); have n1_ := Aside0.mk (blk_below (g := gb421) (o := .cells #[.slice A0_0 l0_0.length c0_0, .int .i64 a0_1] 26 (0, 0)) (by (with_reducible repeat (first | refine blk_drewN ?_ _ | refine blk_drew ?_ | refine blk_alloc ?_ _)); exact BK421.out) hb); have n2_ := Aside0.mk (below_step (by repeat (first | (with_reducible first | exact HB.out | apply below_alloc | apply pw_below_drewN | apply below_drew1 | refine below_set ?_ GE421.out) | exact HB.out)) hb); clear BK421; clear HB; have HO426 := n0_; have BK421 := n1_; have HB := n2_; clear n0_ n1_ n2_; (try clear hb); (try clear hb2); (try clear hk); (try clear hi); (try clear ho0)) | ((with_reducible refine gate_dst (N := 6) rfl ?_); (try (refine gate_guard (by rfl) ?_; dsimp only)); refine box_event ?hg (N := 6) ?hd (cs := #[.slice none 0 0, .int .i64 0]) (t := 26) ?hr ?_; (case hd => rfl); (case hg => rfl); (case hr => first | (go_simp; done) | (go_simp; rfl)); intro gb428 hg w18 hbox hb; have n0_ := Aside0.mk (Kd.V_below (Kd.V_elderB (by (with_reducible repeat (first | apply Kd.V_alloc | apply Kd.V_drewN | apply Kd.V_drew)); exact HO426.out) gb428 (Nat.le_of_eq hg.symm)) hb); have n1_ := Aside0.mk (blk_below (g := gb421) (o := .cells #[.slice A0_0 l0_0.length c0_0, .int .i64 a0_1] 26 (0, 0)) (by (with_reducible repeat (first | refine blk_drewN ?_ _ | refine blk_drew ?_ | refine blk_alloc ?_ _)); exact BK421.out) hb); have n2_ := Aside0.mk (below_step (by repeat (first | (with_reducible first | exact HB.out | apply below_alloc | apply pw_below_drewN | apply below_drew1 | refine below_set ?_ GE421.out) | exact HB.out)) hb); have n3_ := Aside0.mk (hbox); have n4_ := Aside0.mk ((by rw [hg]; exact (below_size (by repeat (first | (with_reducible first | exact HB.out | apply below_alloc | apply pw_below_drewN | apply below_drew1 | refine below_set ?_ GE421.out) | exact HB.out))) : w.heap.size ≤ gb428)); have n5_ := Aside0.mk ((by rw [hg]; exact (below_size (by repeat (first | (with_reducible first | exact HB.out | apply below_alloc | apply pw_below_drewN | apply below_drew1 | refine below_set ?_ GE421.out) | exact HB.out))) : w.heap.size ≤ gb428)); have n6_ := Aside0.mk ((by rw [hg]; exact Nat.ne_of_lt (blk_lt (g := gb421) (o := .cells #[.slice A0_0 l0_0.length c0_0, .int .i64 a0_1] 26 (0, 0)) (by (with_reducible repeat (first | refine blk_drewN ?_ _ | refine blk_drew ?_ | refine blk_alloc ?_ _)); exact BK421.out)) : gb421 ≠ gb428)); have n7_ := Aside0.mk ((by rw [hg]; exact Nat.ne_of_gt (blk_lt (g := gb421) (o := .cells #[.slice A0_0 l0_0.length c0_0, .int .i64 a0_1] 26 (0, 0)) (by (with_reducible repeat (first | refine blk_drewN ?_ _ | refine blk_drew ?_ | refine blk_alloc ?_ _)); exact BK421.out)) : gb428 ≠ gb421)); clear HO426; clear BK421; clear HB; have HO426 := n0_; have BK421 := n1_; have HB := n2_; have BK428 := n3_; have GW428 := n4_; have GE428 := n5_; have NB421_428 := n6_; have NB428_421 := n7_; clear n0_ n1_ n2_ n3_ n4_ n5_ n6_ n7_; clear hb hbox hg; obtain ⟨Ao19, co19, eo19⟩ := Kd.V_slice HO426.out; subst eo19; have hnb20 := NB428_421.out; have hnc20 := NB421_428.out; have hcz21_0 : w18.cell? ⟨gb428, 0, none⟩ = some (.slice none 0 0) := (blk_cell BK428.out 0).trans rfl; have hcz21_1 : w18.cell? ⟨gb428, 1, none⟩ = some (.int .i64 0) := (blk_cell BK428.out 1).trans rfl; have hfz21_0 := blk_frozen BK428.out 0; have hfz21_1 := blk_frozen BK428.out 1))
        repeat (go_quiet (first | (go_at_call 11; (with_reducible refine (wal_Trim.calls _ _ l0_0 a0_1 t424 t427 _ ?side1 ?side2 A15.out).mono ?_); (case side1 => repeat (first | exact (Kd.C_below HR0_0.out HB.out) | (with_reducible refine Kd.C_alloc ?_ _) | (with_reducible refine Kd.C_drewN ?_ _) | (with_reducible refine Kd.C_drew ?_))); (case side2 => exact HC0_0.out); rintro e w17 ⟨v425, rfl, ho0, hb⟩; have n0_ := Aside0.mk (Kd.V_lower (Kd.V_mono (ok' := fun k_ => k_ ≠ gb421) ho0 (fun k_ hk_ => (Kd.freshB (g := gb421) (o := .cells #[.slice A0_0 l0_0.length c0_0, .int .i64 a0_1] 26 (0, 0)) (by (with_reducible repeat (first | refine blk_drewN ?_ _ | refine blk_drew ?_ | refine blk_alloc ?_ _)); exact BK421.out) k_ hk_))) (below_size (by repeat (first | (with_reducible first | exact HB.out | apply below_alloc | apply pw_below_drewN | apply below_drew1 | refine below_set ?_ GE421.out) | exact HB.out)))); have n1_ := Aside0.mk (blk_below (g := gb421) (o := .cells #[.slice A0_0 l0_0.length c0_0, .int .i64 a0_1] 26 (0, 0)) (by (with_reducible repeat (first | refine blk_drewN ?_ _ | refine blk_drew ?_ | refine blk_alloc ?_ _)); exact BK421.out) hb); have n2_ := Aside0.mk (below_step (by repeat (first | (with_reducible first | exact HB.out | apply below_alloc | apply pw_below_drewN | apply below_drew1 | refine below_set ?_ GE421.out) | exact HB.out)) hb); clear BK421; clear HB; have HO426 := n0_; have BK421 := n1_; have HB := n2_; clear n0_ n1_ n2_; (try clear hb); (try clear hb2); (try clear hk); (try clear hi); (try clear ho0)) | ((with_reducible refine gate_dst (N := 6) rfl ?_); (try (refine gate_guard (by rfl) ?_; dsimp only)); refine box_event ?hg (N := 6) ?hd (cs := #[.slice none 0 0, .int .i64 0]) (t := 26) ?hr ?_; (case hd => rfl); (case hg => rfl); (case hr => first | (go_simp; done) | (go_simp; rfl)); intro gb428 hg w18 hbox hb; have n0_ := Aside0.mk (Kd.V_below (Kd.V_elderB (by (with_reducible repeat (first | apply Kd.V_alloc | apply Kd.V_drewN | apply Kd.V_drew)); exact HO426.out) gb428 (Nat.le_of_eq hg.symm)) hb); have n1_ := Aside0.mk (blk_below (g := gb421) (o := .cells #[.slice A0_0 l0_0.length c0_0, .int .i64 a0_1] 26 (0, 0)) (by (with_reducible repeat (first | refine blk_drewN ?_ _ | refine blk_drew ?_ | refine blk_alloc ?_ _)); exact BK421.out) hb); have n2_ := Aside0.mk (below_step (by repeat (first | (with_reducible first | exact HB.out | apply below_alloc | apply pw_below_drewN | apply below_drew1 | refine below_set ?_ GE421.out) | exact HB.out)) hb); have n3_ := Aside0.mk (hbox); have n4_ := Aside0.mk ((by rw [hg]; exact (below_size (by repeat (first | (with_reducible first | exact HB.out | apply below_alloc | apply pw_below_drewN | apply below_drew1 | refine below_set ?_ GE421.out) | exact HB.out))) : w.heap.size ≤ gb428)); have n5_ := Aside0.mk ((by rw [hg]; exact (below_size (by repeat (first | (with_reducible first | exact HB.out | apply below_alloc | apply pw_below_drewN | apply below_drew1 | refine below_set ?_ GE421.out) | exact HB.out))) : w.heap.size ≤ gb428)); have n6_ := Aside0.mk ((by rw [hg]; exact Nat.ne_of_lt (blk_lt (g := gb421) (o := .cells #[.slice A0_0 l0_0.length c0_0, .int .i64 a0_1] 26 (0, 0)) (by (with_reducible repeat (first | refine blk_drewN ?_ _ | refine blk_drew ?_ | refine blk_alloc ?_ _)); exact BK421.out)) : gb421 ≠ gb428)); have n7_ := Aside0.mk ((by rw [hg]; exact Nat.ne_of_gt (blk_lt (g := gb421) (o := .cells #[.slice A0_0 l0_0.length c0_0, .int .i64 a0_1] 26 (0, 0)) (by (with_reducible repeat (first | refine blk_drewN ?_ _ | refine blk_drew ?_ | refine blk_alloc ?_ _)); exact BK421.out)) : gb428 ≠ gb421)); clear HO426; clear BK421; clear HB; have HO426 := n0_; have BK421 := n1_; have HB := n2_; have BK428 := n3_; have GW428 := n4_; have GE428 := n5_; have NB421_428 := n6_; have NB428_421 := n7_; clear n0_ n1_ n2_ n3_ n4_ n5_ n6_ n7_; clear hb hbox hg; obtain ⟨Ao19, co19, eo19⟩ := Kd.V_slice HO426.out; subst eo19; have hnb20 := NB428_421.out; have hnc20 := NB421_428.out; have hcz21_0 : w18.cell? ⟨gb428, 0, none⟩ = some (.slice none 0 0) := (blk_cell BK428.out 0).trans rfl; have hcz21_1 : w18.cell? ⟨gb428, 1, none⟩ = some (.int .i64 0) := (blk_cell BK428.out 1).trans rfl; have hfz21_0 := blk_frozen BK428.out 0; have hfz21_1 := blk_frozen BK428.out 1)); try go_wp2_with (first | (go_at_call 11; (with_reducible refine (wal_Trim.calls _ _ l0_0 a0_1 t424 t427 _ ?side1 ?side2 A15.out).mono ?_); (case side1 => repeat (first | exact (Kd.C_below HR0_0.out HB.out) | (with_reducible refine Kd.C_alloc ?_ _) | (with_reducible refine Kd.C_drewN ?_ _) | (with_reducible refine Kd.C_drew ?_))); (case side2 => exact HC0_0.out); rintro e w17 ⟨v425, rfl, ho0, hb⟩; have n0_ := Aside0.mk (Kd.V_lower (Kd.V_mono (ok' := fun k_ => k_ ≠ gb421) ho0 (fun k_ hk_ => (Kd.freshB (g := gb421) (o := .cells #[.slice A0_0 l0_0.length c0_0, .int .i64 a0_1] 26 (0, 0)) (by (with_reducible repeat (first | refine blk_drewN ?_ _ | refine blk_drew ?_ | refine blk_alloc ?_ _)); exact BK421.out) k_ hk_))) (below_size (by repeat (first | (with_reducible first | exact HB.out | apply below_alloc | apply pw_below_drewN | apply below_drew1 | refine below_set ?_ GE421.out) | exact HB.out)))); have n1_ := Aside0.mk (blk_below (g := gb421) (o := .cells #[.slice A0_0 l0_0.length c0_0, .int .i64 a0_1] 26 (0, 0)) (by (with_reducible repeat (first | refine blk_drewN ?_ _ | refine blk_drew ?_ | refine blk_alloc ?_ _)); exact BK421.out) hb); have n2_ := Aside0.mk (below_step (by repeat (first | (with_reducible first | exact HB.out | apply below_alloc | apply pw_below_drewN | apply below_drew1 | refine below_set ?_ GE421.out) | exact HB.out)) hb); clear BK421; clear HB; have HO426 := n0_; have BK421 := n1_; have HB := n2_; clear n0_ n1_ n2_; (try clear hb); (try clear hb2); (try clear hk); (try clear hi); (try clear ho0)) | ((with_reducible refine gate_dst (N := 6) rfl ?_); (try (refine gate_guard (by rfl) ?_; dsimp only)); refine box_event ?hg (N := 6) ?hd (cs := #[.slice none 0 0, .int .i64 0]) (t := 26) ?hr ?_; (case hd => rfl); (case hg => rfl); (case hr => first | (go_simp; done) | (go_simp; rfl)); intro gb428 hg w18 hbox hb; have n0_ := Aside0.mk (Kd.V_below (Kd.V_elderB (by (with_reducible repeat (first | apply Kd.V_alloc | apply Kd.V_drewN | apply Kd.V_drew)); exact HO426.out) gb428 (Nat.le_of_eq hg.symm)) hb); have n1_ := Aside0.mk (blk_below (g := gb421) (o := .cells #[.slice A0_0 l0_0.length c0_0, .int .i64 a0_1] 26 (0, 0)) (by (with_reducible repeat (first | refine blk_drewN ?_ _ | refine blk_drew ?_ | refine blk_alloc ?_ _)); exact BK421.out) hb); have n2_ := Aside0.mk (below_step (by repeat (first | (with_reducible first | exact HB.out | apply below_alloc | apply pw_below_drewN | apply below_drew1 | refine below_set ?_ GE421.out) | exact HB.out)) hb); have n3_ := Aside0.mk (hbox); have n4_ := Aside0.mk ((by rw [hg]; exact (below_size (by repeat (first | (with_reducible first | exact HB.out | apply below_alloc | apply pw_below_drewN | apply below_drew1 | refine below_set ?_ GE421.out) | exact HB.out))) : w.heap.size ≤ gb428)); have n5_ := Aside0.mk ((by rw [hg]; exact (below_size (by repeat (first | (with_reducible first | exact HB.out | apply below_alloc | apply pw_below_drewN | apply below_drew1 | refine below_set ?_ GE421.out) | exact HB.out))) : w.heap.size ≤ gb428)); have n6_ := Aside0.mk ((by rw [hg]; exact Nat.ne_of_lt (blk_lt (g := gb421) (o := .cells #[.slice A0_0 l0_0.length c0_0, .int .i64 a0_1] 26 (0, 0)) (by (with_reducible repeat (first | refine blk_drewN ?_ _ | refine blk_drew ?_ | refine blk_alloc ?_ _)); exact BK421.out)) : gb421 ≠ gb428)); have n7_ := Aside0.mk ((by rw [hg]; exact Nat.ne_of_gt (blk_lt (g := gb421) (o := .cells #[.slice A0_0 l0_0.length c0_0, .int .i64 a0_1] 26 (0, 0)) (by (with_reducible repeat (first | refine blk_drewN ?_ _ | refine blk_drew ?_ | refine blk_alloc ?_ _)); exact BK421.out)) : gb428 ≠ gb421)); clear HO426; clear BK421; clear HB; have HO426 := n0_; have BK421 := n1_; have HB := n2_; have BK428 := n3_; have GW428 := n4_; have GE428 := n5_; have NB421_428 := n6_; have NB428_421 := n7_; clear n0_ n1_ n2_ n3_ n4_ n5_ n6_ n7_; clear hb hbox hg; obtain ⟨Ao19, co19, eo19⟩ := Kd.V_slice HO426.out; subst eo19; have hnb20 := NB428_421.out; have hnc20 := NB421_428.out; have hcz21_0 : w18.cell? ⟨gb428, 0, none⟩ = some (.slice none 0 0) := (blk_cell BK428.out 0).trans rfl; have hcz21_1 : w18.cell? ⟨gb428, 1, none⟩ = some (.int .i64 0) := (blk_cell BK428.out 1).trans rfl; have hfz21_0 := blk_frozen BK428.out 0; have hfz21_1 := blk_frozen BK428.out 1)))
        go_loopg [7, 8] kj3 (fun kq v7 v8 w' => ∃ (x7_2 : Int) (x8_2 : Int), v7 = .int .i64 x7_2 ∧ v8 = .int .i64 x8_2 ∧ Aside0 (banksmanlaw04_WalSizes.l0 kq l1 t422 x7_2 x8_2 t424 t427 = some r) ∧ Aside0 (kq ≤ kj3) ∧ Aside0 (Kd.V (Kd.int .u8) 5 w' w.heap.size (fun k_ => k_ ≠ gb421 ∧ k_ ≠ gb428) (.slice Ao19 t424.length co19) t424) ∧ Aside0 (w'.heap[gb421]? = some (.cells #[(.slice A0_0 l0_0.length c0_0), .int .i64 a0_1] 26 (0, 0))) ∧ Aside0 (w'.heap[gb428]? = some (.cells #[(.slice Ao19 t424.length co19), .int .i64 t427] 26 (0, 0))) ∧ Aside0 (Below w.heap.size w w'))
        case atStart => exact ⟨((t424.length : Int)), (0), (by first | rfl | (simp; done) | (simp [*]; done)), (by first | rfl | (simp; done) | (simp [*]; done)), H', ⟨Nat.le_refl _⟩, ⟨by (with_reducible repeat (first | apply Kd.V_alloc | apply Kd.V_drewN | apply Kd.V_drew)); exact Kd.V_mono (Kd.V_far (p := ⟨gb428, 1, none⟩) (Kd.V_far (p := ⟨gb428, 0, none⟩) (Kd.V_mono HO426.out (fun k_ hk => (⟨hk, hk.2⟩ : _ ∧ k_ ≠ gb428))) (fun _ hk => hk.2) (.slice Ao19 t424.length co19)) (fun _ hk => hk.2) (.int .i64 t427)) (fun _ hk => ⟨hk.1.1, hk.1.2⟩)⟩, ⟨by (with_reducible repeat (first | refine blk_drewN ?_ _ | refine blk_drew ?_ | refine blk_alloc ?_ _)); refine blk_far ?_ NB421_428.out _; (with_reducible repeat (first | refine blk_drewN ?_ _ | refine blk_drew ?_ | refine blk_alloc ?_ _)); refine blk_far ?_ NB421_428.out _; (with_reducible repeat (first | refine blk_drewN ?_ _ | refine blk_drew ?_ | refine blk_alloc ?_ _)); exact BK421.out⟩, ⟨by (with_reducible repeat (first | refine blk_drewN ?_ _ | refine blk_drew ?_ | refine blk_alloc ?_ _)); refine blk_put (cs := #[.slice Ao19 t424.length co19, .int .i64 0]) ?_ 1 _ rfl; (with_reducible repeat (first | refine blk_drewN ?_ _ | refine blk_drew ?_ | refine blk_alloc ?_ _)); refine blk_put (cs := #[.slice none 0 0, .int .i64 0]) ?_ 0 _ rfl; (with_reducible repeat (first | refine blk_drewN ?_ _ | refine blk_drew ?_ | refine blk_alloc ?_ _)); exact BK428.out⟩, ⟨by repeat (first | (with_reducible first | exact HB.out | apply below_alloc | apply pw_below_drewN | apply below_drew1 | refine below_set ?_ GE421.out | refine below_set ?_ GE428.out) | exact HB.out)⟩⟩
        case round =>
          clear H'
          try clear c1
          try clear c2
          try clear p2
          try clear c7
          try clear c7b0
          try clear c7b1
          try clear c9
          try clear c9b0
          try clear c9b1
          try clear c14
          try clear c20
          try clear hcz10_0
          try clear hcz10_1
          try clear hcz12_0
          try clear hcz12_1
          try clear hcz16_0
          try clear hcz16_1
          try clear hcz21_0
          try clear hcz21_1
          try clear hcz8_0
          try clear hcz8_1
          try clear hfz10_0
          try clear hfz10_1
          try clear hfz12_0
          try clear hfz12_1
          try clear hfz16_0
          try clear hfz16_1
          try clear hfz21_0
          try clear hfz21_1
          try clear hfz8_0
          try clear hfz8_1
          try clear p2
          obtain ⟨x7_2, x8_2, rfl, rfl, HA, HK2, HO_429000, BK421, BK428, HB⟩ := hrel
          cases gk with
          | zero => exact absurd HA.out (by simp [banksmanlaw04_WalSizes.l0])
          | succ k2 =>
            have H := HA.out
            clear HA
            simp only [banksmanlaw04_WalSizes.l0] at H
            by_cases c22 : x8_2 < (l1.length : Int)
            · rw [if_pos c22] at H
              have c22b0 : decide (x8_2 < (l1.length : Int)) = true := decide_eq_true c22
              clear c22
              by_cases c23 : 0 ≤ x8_2
              · rw [if_pos c23] at H
                have c23b0 : decide (0 ≤ x8_2) = true := decide_eq_true c23
                clear c23
                by_cases c24 : ((rd_L1 l1 x8_2).length : Int) > 100
                · rw [if_pos c24] at H
                  have c24b0 : decide (100 < ((rd_L1 l1 x8_2).length : Int)) = true := decide_eq_true c24
                  have c24b1 : decide (100 < (rd_L1 l1 x8_2).length) = true := decide_eq_true (by omega)
                  clear c24
                  first
                    | exact absurd (Option.some.inj (H.trans (congrArg some HTr_))) (by decide)
                    | skip
                      obtain rfl := Option.some.inj H
                      have p429 : 0 ≤ (x8_2 : Int) := of_decide_eq_true (by first | (with_reducible assumption) | assumption)
                      have q429 : x8_2 < (l1.length : Int) := of_decide_eq_true (by first | (with_reducible assumption) | assumption)
                      obtain ⟨ad429, A429_0, c429_0, e429, hx429_0, hl429_0, hi429_0⟩ := at_L1 HR1.out x8_2 p429 q429
                      cases e429
                      replace hx429_0 := (HB.out.cell (World.block_lt_of_cell? w _ hx429_0)).trans hx429_0
                      have HR429_0 := Aside0.mk hi429_0
                      have HC429_0 := Aside0.mk hl429_0
                      clear hi429_0 hl429_0
                      replace p429 := eq_true p429
                      replace q429 := eq_true q429
                      go_wp2
                      repeat (go_quiet (fail); try go_wp2)
                      go_ret
                      exact ⟨by first | rfl | (simp [errW_none, errW_some] <;> rfl) | (simp [*, errW_none, errW_some] <;> rfl), by repeat (first | (with_reducible first | exact HB.out | apply below_alloc | apply pw_below_drewN | apply below_drew1 | refine below_set ?_ GE421.out | refine below_set ?_ GE428.out) | exact HB.out)⟩
                · rw [if_neg c24] at H
                  have c24b0 : decide (100 < ((rd_L1 l1 x8_2).length : Int)) = false := decide_eq_false c24
                  have c24b1 : decide (100 < (rd_L1 l1 x8_2).length) = false := decide_eq_false (by omega)
                  clear c24
                  have H' := Aside0.mk H
                  clear H
                  have p429 : 0 ≤ (x8_2 : Int) := of_decide_eq_true (by first | (with_reducible assumption) | assumption)
                  have q429 : x8_2 < (l1.length : Int) := of_decide_eq_true (by first | (with_reducible assumption) | assumption)
                  obtain ⟨ad429, A429_0, c429_0, e429, hx429_0, hl429_0, hi429_0⟩ := at_L1 HR1.out x8_2 p429 q429
                  cases e429
                  replace hx429_0 := (HB.out.cell (World.block_lt_of_cell? w _ hx429_0)).trans hx429_0
                  have HR429_0 := Aside0.mk hi429_0
                  have HC429_0 := Aside0.mk hl429_0
                  clear hi429_0 hl429_0
                  replace p429 := eq_true p429
                  replace q429 := eq_true q429
                  have p430 : 0 ≤ (x8_2 : Int) := of_decide_eq_true (by first | (with_reducible assumption) | assumption)
                  have q430 : x8_2 < (l1.length : Int) := of_decide_eq_true (by first | (with_reducible assumption) | assumption)
                  obtain ⟨ad430, A430_0, c430_0, e430, hx430_0, hl430_0, hi430_0⟩ := at_L1 HR1.out x8_2 p430 q430
                  obtain rfl : ad429 = ad430 := (by injection e430)
                  replace hx430_0 := (HB.out.cell (World.block_lt_of_cell? w _ hx430_0)).trans hx430_0
                  have HR430_0 := Aside0.mk hi430_0
                  have HC430_0 := Aside0.mk hl430_0
                  clear hi430_0 hl430_0
                  replace p430 := eq_true p430
                  replace q430 := eq_true q430
                  have ea_ := Option.some.inj (hx429_0.symm.trans hx430_0)
                  injection ea_ with ea_ en_ ec_
                  subst ea_
                  subst ec_
                  clear en_
                  go_wp2
                  repeat (go_quiet (fail); try go_wp2)
                  go_roundg k2
                  case measure => have := HJ3.out; have := HK2.out; omega
                  case rel => exact ⟨(wrap64 ((wrap64 ((wrap64 (x7_2 + 1)) + ((rd_L1 l1 x8_2).length : Int))) + 4)), (wrap64 (x8_2 + 1)), (by first | rfl | (simp; done) | (simp [*]; done)), (by first | rfl | (simp; done) | (simp [*]; done)), H', ⟨by have := HJ3.out; have := HK2.out; omega⟩, ⟨by (with_reducible repeat (first | apply Kd.V_alloc | apply Kd.V_drewN | apply Kd.V_drew)); exact HO_429000.out⟩, ⟨by (with_reducible repeat (first | refine blk_drewN ?_ _ | refine blk_drew ?_ | refine blk_alloc ?_ _)); exact BK421.out⟩, ⟨by (with_reducible repeat (first | refine blk_drewN ?_ _ | refine blk_drew ?_ | refine blk_alloc ?_ _)); exact BK428.out⟩, ⟨by repeat (first | (with_reducible first | exact HB.out | apply below_alloc | apply pw_below_drewN | apply below_drew1 | refine below_set ?_ GE421.out | refine below_set ?_ GE428.out) | exact HB.out)⟩⟩
              · rw [if_neg c23] at H
                exact absurd H (by simp)
            · rw [if_neg c22] at H
              have c22b0 : decide (x8_2 < (l1.length : Int)) = false := decide_eq_false c22
              clear c22
              replace H := Option.bind_eq_some_iff.mp H
              obtain ⟨⟨t431, t434, t435⟩, A250, H⟩ := H
              replace H : ((wal_Texts.f t424 t427).bind fun t437 => ((wal_Texts.f t431 t434).bind fun t440 => (if t435 = 0 then (if (t440.length : Int) = (wrap64 ((t437.length : Int) + (l1.length : Int))) then (if (t431.length : Int) = x7_2 then (banksmanlaw04_WalSizes.j2 k2 l1 t422 t437 t440 (t434 != t427) t431 t434) else (banksmanlaw04_WalSizes.j2 k2 l1 t422 t437 t440 true t431 t434)) else (banksmanlaw04_WalSizes.j2 k2 l1 t422 t437 t440 true t431 t434)) else (banksmanlaw04_WalSizes.j2 k2 l1 t422 t437 t440 true t431 t434)))) = some r := H
              have A25 := Aside0.mk A250
              clear A250
              replace H := Option.bind_eq_some_iff.mp H
              obtain ⟨t437, A260, H⟩ := H
              replace H : ((wal_Texts.f t431 t434).bind fun t440 => (if t435 = 0 then (if (t440.length : Int) = (wrap64 ((t437.length : Int) + (l1.length : Int))) then (if (t431.length : Int) = x7_2 then (banksmanlaw04_WalSizes.j2 k2 l1 t422 t437 t440 (t434 != t427) t431 t434) else (banksmanlaw04_WalSizes.j2 k2 l1 t422 t437 t440 true t431 t434)) else (banksmanlaw04_WalSizes.j2 k2 l1 t422 t437 t440 true t431 t434)) else (banksmanlaw04_WalSizes.j2 k2 l1 t422 t437 t440 true t431 t434))) = some r := H
              have A26 := Aside0.mk A260
              clear A260
              replace H := Option.bind_eq_some_iff.mp H
              obtain ⟨t440, A270, H⟩ := H
              replace H : (if t435 = 0 then (if (t440.length : Int) = (wrap64 ((t437.length : Int) + (l1.length : Int))) then (if (t431.length : Int) = x7_2 then (banksmanlaw04_WalSizes.j2 k2 l1 t422 t437 t440 (t434 != t427) t431 t434) else (banksmanlaw04_WalSizes.j2 k2 l1 t422 t437 t440 true t431 t434)) else (banksmanlaw04_WalSizes.j2 k2 l1 t422 t437 t440 true t431 t434)) else (banksmanlaw04_WalSizes.j2 k2 l1 t422 t437 t440 true t431 t434)) = some r := H
              have A27 := Aside0.mk A270
              clear A270
              have HC28 := Aside0.mk H
              clear H
              have hnb29 := NB428_421.out
              have hnc29 := NB421_428.out
              have hcz30_0 : wr.cell? ⟨gb428, 0, none⟩ = some (.slice Ao19 t424.length co19) := (blk_cell BK428.out 0).trans rfl
              have hcz30_1 : wr.cell? ⟨gb428, 1, none⟩ = some (.int .i64 t427) := (blk_cell BK428.out 1).trans rfl
              have hfz30_0 := blk_frozen BK428.out 0
              have hfz30_1 := blk_frozen BK428.out 1
              go_upto_region 15 with (first | (go_at_call 10; (with_reducible refine (wal_Append.calls _ _ t424 t427 _ _ l1 t431 t434 t435 _ ?side1 ?side2 ?side3 ?side4 A25.out).mono ?_); (case side1 => repeat (first | exact (Kd.V_reads' HO_429000.out).2.2 | (with_reducible refine Kd.C_alloc ?_ _) | (with_reducible refine Kd.C_drewN ?_ _) | (with_reducible refine Kd.C_drew ?_))); (case side2 => exact (Kd.V_reads' HO_429000.out).2.1); (case side3 => repeat (first | exact (Kd.C_below HR1.out HB.out) | (with_reducible refine Kd.C_alloc ?_ _) | (with_reducible refine Kd.C_drewN ?_ _) | (with_reducible refine Kd.C_drew ?_))); (case side4 => exact HC1.out); rintro e w31 ⟨v432, rfl, ho0, hb⟩; have n0_ := Aside0.mk (Kd.V_below (by (with_reducible repeat (first | apply Kd.V_alloc | apply Kd.V_drewN | apply Kd.V_drew)); exact HO_429000.out) hb); have n1_ := Aside0.mk (Kd.V_lower (Kd.V_mono (ok' := fun k_ => k_ ≠ gb421 ∧ k_ ≠ gb428) ho0 (fun k_ hk_ => ⟨(Kd.freshB (g := gb421) (o := .cells #[.slice A0_0 l0_0.length c0_0, .int .i64 a0_1] 26 (0, 0)) (by (with_reducible repeat (first | refine blk_drewN ?_ _ | refine blk_drew ?_ | refine blk_alloc ?_ _)); exact BK421.out) k_ hk_), (Kd.freshB (g := gb428) (o := .cells #[.slice Ao19 t424.length co19, .int .i64 t427] 26 (0, 0)) (by (with_reducible repeat (first | refine blk_drewN ?_ _ | refine blk_drew ?_ | refine blk_alloc ?_ _)); exact BK428.out) k_ hk_)⟩)) (below_size (by repeat (first | (with_reducible first | exact HB.out | apply below_alloc | apply pw_below_drewN | apply below_drew1 | refine below_set ?_ GE421.out | refine below_set ?_ GE428.out) | exact HB.out)))); have n2_ := Aside0.mk (blk_below (g := gb421) (o := .cells #[.slice A0_0 l0_0.length c0_0, .int .i64 a0_1] 26 (0, 0)) (by (with_reducible repeat (first | refine blk_drewN ?_ _ | refine blk_drew ?_ | refine blk_alloc ?_ _)); exact BK421.out) hb); have n3_ := Aside0.mk (blk_below (g := gb428) (o := .cells #[.slice Ao19 t424.length co19, .int .i64 t427] 26 (0, 0)) (by (with_reducible repeat (first | refine blk_drewN ?_ _ | refine blk_drew ?_ | refine blk_alloc ?_ _)); exact BK428.out) hb); have n4_ := Aside0.mk (below_step (by repeat (first | (with_reducible first | exact HB.out | apply below_alloc | apply pw_below_drewN | apply below_drew1 | refine below_set ?_ GE421.out | refine below_set ?_ GE428.out) | exact HB.out)) hb); clear HO_429000; clear BK421; clear BK428; clear HB; have HO_429000 := n0_; have HO433 := n1_; have BK421 := n2_; have BK428 := n3_; have HB := n4_; clear n0_ n1_ n2_ n3_ n4_; (try clear hb); (try clear hb2); (try clear hk); (try clear hi); (try clear ho0)) | ((with_reducible refine gate_dst (N := 9) rfl ?_); (try (refine gate_guard (by rfl) ?_; dsimp only)); refine box_event ?hg (N := 9) ?hd (cs := #[.slice none 0 0, .int .i64 0]) (t := 26) ?hr ?_; (case hd => rfl); (case hg => rfl); (case hr => first | (go_simp; done) | (go_simp; rfl)); intro gb436 hg w32 hbox hb; have n0_ := Aside0.mk (Kd.V_below (Kd.V_elderB (by (with_reducible repeat (first | apply Kd.V_alloc | apply Kd.V_drewN | apply Kd.V_drew)); exact HO_429000.out) gb436 (Nat.le_of_eq hg.symm)) hb); have n1_ := Aside0.mk (Kd.V_below (Kd.V_elderB (by (with_reducible repeat (first | apply Kd.V_alloc | apply Kd.V_drewN | apply Kd.V_drew)); exact HO433.out) gb436 (Nat.le_of_eq hg.symm)) hb); have n2_ := Aside0.mk (blk_below (g := gb421) (o := .cells #[.slice A0_0 l0_0.length c0_0, .int .i64 a0_1] 26 (0, 0)) (by (with_reducible repeat (first | refine blk_drewN ?_ _ | refine blk_drew ?_ | refine blk_alloc ?_ _)); exact BK421.out) hb); have n3_ := Aside0.mk (blk_below (g := gb428) (o := .cells #[.slice Ao19 t424.length co19, .int .i64 t427] 26 (0, 0)) (by (with_reducible repeat (first | refine blk_drewN ?_ _ | refine blk_drew ?_ | refine blk_alloc ?_ _)); exact BK428.out) hb); have n4_ := Aside0.mk (below_step (by repeat (first | (with_reducible first | exact HB.out | apply below_alloc | apply pw_below_drewN | apply below_drew1 | refine below_set ?_ GE421.out | refine below_set ?_ GE428.out) | exact HB.out)) hb); have n5_ := Aside0.mk (hbox); have n6_ := Aside0.mk ((by rw [hg]; exact (below_size (by repeat (first | (with_reducible first | exact HB.out | apply below_alloc | apply pw_below_drewN | apply below_drew1 | refine below_set ?_ GE421.out | refine below_set ?_ GE428.out) | exact HB.out))) : w.heap.size ≤ gb436)); have n7_ := Aside0.mk ((by rw [hg]; exact (below_size (by repeat (first | (with_reducible first | exact HB.out | apply below_alloc | apply pw_below_drewN | apply below_drew1 | refine below_set ?_ GE421.out | refine below_set ?_ GE428.out) | exact HB.out))) : w.heap.size ≤ gb436)); have n8_ := Aside0.mk ((by rw [hg]; exact Nat.ne_of_lt (blk_lt (g := gb421) (o := .cells #[.slice A0_0 l0_0.length c0_0, .int .i64 a0_1] 26 (0, 0)) (by (with_reducible repeat (first | refine blk_drewN ?_ _ | refine blk_drew ?_ | refine blk_alloc ?_ _)); exact BK421.out)) : gb421 ≠ gb436)); have n9_ := Aside0.mk ((by rw [hg]; exact Nat.ne_of_gt (blk_lt (g := gb421) (o := .cells #[.slice A0_0 l0_0.length c0_0, .int .i64 a0_1] 26 (0, 0)) (by (with_reducible repeat (first | refine blk_drewN ?_ _ | refine blk_drew ?_ | refine blk_alloc ?_ _)); exact BK421.out)) : gb436 ≠ gb421)); have n10_ := Aside0.mk ((by rw [hg]; exact Nat.ne_of_lt (blk_lt (g := gb428) (o := .cells #[.slice Ao19 t424.length co19, .int .i64 t427] 26 (0, 0)) (by (with_reducible repeat (first | refine blk_drewN ?_ _ | refine blk_drew ?_ | refine blk_alloc ?_ _)); exact BK428.out)) : gb428 ≠ gb436)); have n11_ := Aside0.mk ((by rw [hg]; exact Nat.ne_of_gt (blk_lt (g := gb428) (o := .cells #[.slice Ao19 t424.length co19, .int .i64 t427] 26 (0, 0)) (by (with_reducible repeat (first | refine blk_drewN ?_ _ | refine blk_drew ?_ | refine blk_alloc ?_ _)); exact BK428.out)) : gb436 ≠ gb428)); clear HO_429000; clear HO433; clear BK421; clear BK428; clear HB; have HO_429000 := n0_; have HO433 := n1_; have BK421 := n2_; have BK428 := n3_; have HB := n4_; have BK436 := n5_; have GW436 := n6_; have GE436 := n7_; have NB421_436 := n8_; have NB436_421 := n9_; have NB428_436 := n10_; have NB436_428 := n11_; clear n0_ n1_ n2_ n3_ n4_ n5_ n6_ n7_ n8_ n9_ n10_ n11_; clear hb hbox hg; obtain ⟨Ao33, co33, eo33⟩ := Kd.V_slice HO433.out; subst eo33; have hnb34 := NB436_421.out; have hnc34 := NB421_436.out; have hnb35 := NB436_428.out; have hnc35 := NB428_436.out; have hcz36_0 : w32.cell? ⟨gb436, 0, none⟩ = some (.slice none 0 0) := (blk_cell BK436.out 0).trans rfl; have hcz36_1 : w32.cell? ⟨gb436, 1, none⟩ = some (.int .i64 0) := (blk_cell BK436.out 1).trans rfl; have hfz36_0 := blk_frozen BK436.out 0; have hfz36_1 := blk_frozen BK436.out 1; have hcz37_0 : w32.cell? ⟨gb428, 0, none⟩ = some (.slice Ao19 t424.length co19) := (blk_cell BK428.out 0).trans rfl; have hcz37_1 : w32.cell? ⟨gb428, 1, none⟩ = some (.int .i64 t427) := (blk_cell BK428.out 1).trans rfl; have hfz37_0 := blk_frozen BK428.out 0; have hfz37_1 := blk_frozen BK428.out 1) | (go_at_call 13; (with_reducible refine (wal_Texts.calls _ _ t424 t427 t437 _ ?side1 ?side2 A26.out).mono ?_); (case side1 => refine (Kd.V_reads' (e := 5) (base := w.heap.size) (ok := fun k_ => ((k_ ≠ gb421 ∧ k_ ≠ gb428) ∧ k_ ≠ gb436)) (n := t424.length) (c := co19) ?_).2.2; exact (by (with_reducible repeat (first | apply Kd.V_alloc | apply Kd.V_drewN | apply Kd.V_drew)); exact (Kd.V_mono (Kd.V_far (p := ⟨gb436, 1, none⟩) (Kd.V_far (p := ⟨gb436, 0, none⟩) (Kd.V_mono HO_429000.out (fun k_ hk => (⟨hk, hk.2⟩ : _ ∧ k_ ≠ gb436))) (fun _ hk => hk.2) (.slice Ao33 t431.length co33)) (fun _ hk => hk.2) (.int .i64 t434)) (fun _ h_ => h_.1)))); (case side2 => exact (Kd.V_reads' HO_429000.out).2.1); rintro e w38 ⟨v438, rfl, ho0, hb⟩; have n0_ := Aside0.mk (Kd.V_elder' (by (with_reducible repeat (first | apply Kd.V_alloc | apply Kd.V_drewN | apply Kd.V_drew)); exact (Kd.V_mono (Kd.V_far (p := ⟨gb436, 1, none⟩) (Kd.V_far (p := ⟨gb436, 0, none⟩) (Kd.V_mono HO_429000.out (fun k_ hk => (⟨hk, hk.2⟩ : _ ∧ k_ ≠ gb436))) (fun _ hk => hk.2) (.slice Ao33 t431.length co33)) (fun _ hk => hk.2) (.int .i64 t434)) (fun _ h_ => h_.1))) (by first | exact Kd.N_base ho0 | exact Kd.N_base (Kd.S_N ho0)) hb); have n1_ := Aside0.mk (Kd.V_elder' (by (with_reducible repeat (first | apply Kd.V_alloc | apply Kd.V_drewN | apply Kd.V_drew)); exact (Kd.V_mono (Kd.V_far (p := ⟨gb436, 1, none⟩) (Kd.V_far (p := ⟨gb436, 0, none⟩) (Kd.V_mono HO433.out (fun k_ hk => (⟨hk, hk.2⟩ : _ ∧ k_ ≠ gb436))) (fun _ hk => hk.2) (.slice Ao33 t431.length co33)) (fun _ hk => hk.2) (.int .i64 t434)) (fun _ h_ => h_.1))) (by first | exact Kd.N_base ho0 | exact Kd.N_base (Kd.S_N ho0)) hb); have n2_ := Aside0.mk (Kd.N_lower (Kd.N_mono (ok' := fun k_ => k_ ≠ gb421 ∧ k_ ≠ gb428 ∧ k_ ≠ gb436) ho0 (fun k_ hk_ => ⟨(Kd.freshB (g := gb421) (o := .cells #[.slice A0_0 l0_0.length c0_0, .int .i64 a0_1] 26 (0, 0)) (by (with_reducible repeat (first | refine blk_drewN ?_ _ | refine blk_drew ?_ | refine blk_alloc ?_ _)); refine blk_far ?_ NB421_436.out _; (with_reducible repeat (first | refine blk_drewN ?_ _ | refine blk_drew ?_ | refine blk_alloc ?_ _)); refine blk_far ?_ NB421_436.out _; (with_reducible repeat (first | refine blk_drewN ?_ _ | refine blk_drew ?_ | refine blk_alloc ?_ _)); exact BK421.out) k_ hk_), (Kd.freshB (g := gb428) (o := .cells #[.slice Ao19 t424.length co19, .int .i64 t427] 26 (0, 0)) (by (with_reducible repeat (first | refine blk_drewN ?_ _ | refine blk_drew ?_ | refine blk_alloc ?_ _)); refine blk_far ?_ NB428_436.out _; (with_reducible repeat (first | refine blk_drewN ?_ _ | refine blk_drew ?_ | refine blk_alloc ?_ _)); refine blk_far ?_ NB428_436.out _; (with_reducible repeat (first | refine blk_drewN ?_ _ | refine blk_drew ?_ | refine blk_alloc ?_ _)); exact BK428.out) k_ hk_), (Kd.freshB (g := gb436) (o := .cells #[.slice Ao33 t431.length co33, .int .i64 t434] 26 (0, 0)) (by (with_reducible repeat (first | refine blk_drewN ?_ _ | refine blk_drew ?_ | refine blk_alloc ?_ _)); refine blk_put (cs := #[.slice Ao33 t431.length co33, .int .i64 0]) ?_ 1 _ rfl; (with_reducible repeat (first | refine blk_drewN ?_ _ | refine blk_drew ?_ | refine blk_alloc ?_ _)); refine blk_put (cs := #[.slice none 0 0, .int .i64 0]) ?_ 0 _ rfl; (with_reducible repeat (first | refine blk_drewN ?_ _ | refine blk_drew ?_ | refine blk_alloc ?_ _)); exact BK436.out) k_ hk_)⟩)) (below_size (by repeat (first | (with_reducible first | exact HB.out | apply below_alloc | apply pw_below_drewN | apply below_drew1 | refine below_set ?_ GE421.out | refine below_set ?_ GE428.out | refine below_set ?_ GE436.out) | exact HB.out)))); have n3_ := Aside0.mk (blk_below (g := gb421) (o := .cells #[.slice A0_0 l0_0.length c0_0, .int .i64 a0_1] 26 (0, 0)) (by (with_reducible repeat (first | refine blk_drewN ?_ _ | refine blk_drew ?_ | refine blk_alloc ?_ _)); refine blk_far ?_ NB421_436.out _; (with_reducible repeat (first | refine blk_drewN ?_ _ | refine blk_drew ?_ | refine blk_alloc ?_ _)); refine blk_far ?_ NB421_436.out _; (with_reducible repeat (first | refine blk_drewN ?_ _ | refine blk_drew ?_ | refine blk_alloc ?_ _)); exact BK421.out) hb); have n4_ := Aside0.mk (blk_below (g := gb428) (o := .cells #[.slice Ao19 t424.length co19, .int .i64 t427] 26 (0, 0)) (by (with_reducible repeat (first | refine blk_drewN ?_ _ | refine blk_drew ?_ | refine blk_alloc ?_ _)); refine blk_far ?_ NB428_436.out _; (with_reducible repeat (first | refine blk_drewN ?_ _ | refine blk_drew ?_ | refine blk_alloc ?_ _)); refine blk_far ?_ NB428_436.out _; (with_reducible repeat (first | refine blk_drewN ?_ _ | refine blk_drew ?_ | refine blk_alloc ?_ _)); exact BK428.out) hb); have n5_ := Aside0.mk (blk_below (g := gb436) (o := .cells #[.slice Ao33 t431.length co33, .int .i64 t434] 26 (0, 0)) (by (with_reducible repeat (first | refine blk_drewN ?_ _ | refine blk_drew ?_ | refine blk_alloc ?_ _)); refine blk_put (cs := #[.slice Ao33 t431.length co33, .int .i64 0]) ?_ 1 _ rfl; (with_reducible repeat (first | refine blk_drewN ?_ _ | refine blk_drew ?_ | refine blk_alloc ?_ _)); refine blk_put (cs := #[.slice none 0 0, .int .i64 0]) ?_ 0 _ rfl; (with_reducible repeat (first | refine blk_drewN ?_ _ | refine blk_drew ?_ | refine blk_alloc ?_ _)); exact BK436.out) hb); have n6_ := Aside0.mk (below_step (by repeat (first | (with_reducible first | exact HB.out | apply below_alloc | apply pw_below_drewN | apply below_drew1 | refine below_set ?_ GE421.out | refine below_set ?_ GE428.out | refine below_set ?_ GE436.out) | exact HB.out)) hb); clear HO_429000; clear HO433; clear BK421; clear BK428; clear BK436; clear HB; have HO_429000 := n0_; have HO433 := n1_; have HO439 := n2_; have BK421 := n3_; have BK428 := n4_; have BK436 := n5_; have HB := n6_; clear n0_ n1_ n2_ n3_ n4_ n5_ n6_; (try clear hb); (try clear hb2); (try clear hk); (try clear hi); (try clear ho0); have hcz39_0 : w38.cell? ⟨gb436, 0, none⟩ = some (.slice Ao33 t431.length co33) := (blk_cell BK436.out 0).trans rfl; have hcz39_1 : w38.cell? ⟨gb436, 1, none⟩ = some (.int .i64 t434) := (blk_cell BK436.out 1).trans rfl; have hfz39_0 := blk_frozen BK436.out 0; have hfz39_1 := blk_frozen BK436.out 1) | (go_at_call 13; (with_reducible refine (wal_Texts.calls _ _ t431 t434 t440 _ ?side1 ?side2 A27.out).mono ?_); (case side1 => repeat (first | exact (Kd.V_reads' HO433.out).2.2 | (with_reducible refine Kd.C_alloc ?_ _) | (with_reducible refine Kd.C_drewN ?_ _) | (with_reducible refine Kd.C_drew ?_))); (case side2 => exact (Kd.V_reads' HO433.out).2.1); rintro e w40 ⟨v441, rfl, ho0, hb⟩; have n0_ := Aside0.mk (Kd.V_elder' (by (with_reducible repeat (first | apply Kd.V_alloc | apply Kd.V_drewN | apply Kd.V_drew)); exact HO_429000.out) (by first | exact Kd.N_base ho0 | exact Kd.N_base (Kd.S_N ho0)) hb); have n1_ := Aside0.mk (Kd.V_elder' (by (with_reducible repeat (first | apply Kd.V_alloc | apply Kd.V_drewN | apply Kd.V_drew)); exact HO433.out) (by first | exact Kd.N_base ho0 | exact Kd.N_base (Kd.S_N ho0)) hb); have n2_ := Aside0.mk (Kd.N_elder' (by (with_reducible repeat (first | apply Kd.N_alloc | apply Kd.N_drewN | apply Kd.N_drew)); exact HO439.out) (by first | exact Kd.N_base ho0 | exact Kd.N_base (Kd.S_N ho0)) hb); have n3_ := Aside0.mk (Kd.N_lower (Kd.N_mono (ok' := fun k_ => some k_ ≠ (v438 : Value).ownBlock ∧ k_ ≠ gb421 ∧ k_ ≠ gb428 ∧ k_ ≠ gb436) ho0 (fun k_ hk_ => ⟨(Kd.fresh' (Kd.N_lt (by (with_reducible repeat (first | apply Kd.N_alloc | apply Kd.N_drewN | apply Kd.N_drew)); exact HO439.out)) k_ hk_), (Kd.freshB (g := gb421) (o := .cells #[.slice A0_0 l0_0.length c0_0, .int .i64 a0_1] 26 (0, 0)) (by (with_reducible repeat (first | refine blk_drewN ?_ _ | refine blk_drew ?_ | refine blk_alloc ?_ _)); exact BK421.out) k_ hk_), (Kd.freshB (g := gb428) (o := .cells #[.slice Ao19 t424.length co19, .int .i64 t427] 26 (0, 0)) (by (with_reducible repeat (first | refine blk_drewN ?_ _ | refine blk_drew ?_ | refine blk_alloc ?_ _)); exact BK428.out) k_ hk_), (Kd.freshB (g := gb436) (o := .cells #[.slice Ao33 t431.length co33, .int .i64 t434] 26 (0, 0)) (by (with_reducible repeat (first | refine blk_drewN ?_ _ | refine blk_drew ?_ | refine blk_alloc ?_ _)); exact BK436.out) k_ hk_)⟩)) (below_size (by repeat (first | (with_reducible first | exact HB.out | apply below_alloc | apply pw_below_drewN | apply below_drew1 | refine below_set ?_ GE421.out | refine below_set ?_ GE428.out | refine below_set ?_ GE436.out) | exact HB.out)))); have n4_ := Aside0.mk (blk_below (g := gb421) (o := .cells #[.slice A0_0 l0_0.length c0_0, .int .i64 a0_1] 26 (0, 0)) (by (with_reducible repeat (first | refine blk_drewN ?_ _ | refine blk_drew ?_ | refine blk_alloc ?_ _)); exact BK421.out) hb); have n5_ := Aside0.mk (blk_below (g := gb428) (o := .cells #[.slice Ao19 t424.length co19, .int .i64 t427] 26 (0, 0)) (by (with_reducible repeat (first | refine blk_drewN ?_ _ | refine blk_drew ?_ | refine blk_alloc ?_ _)); exact BK428.out) hb); have n6_ := Aside0.mk (blk_below (g := gb436) (o := .cells #[.slice Ao33 t431.length co33, .int .i64 t434] 26 (0, 0)) (by (with_reducible repeat (first | refine blk_drewN ?_ _ | refine blk_drew ?_ | refine blk_alloc ?_ _)); exact BK436.out) hb); have n7_ := Aside0.mk (below_step (by repeat (first | (with_reducible first | exact HB.out | apply below_alloc | apply pw_below_drewN | apply below_drew1 | refine below_set ?_ GE421.out | refine below_set ?_ GE428.out | refine below_set ?_ GE436.out) | exact HB.out)) hb); clear HO_429000; clear HO433; clear HO439; clear BK421; clear BK428; clear BK436; clear HB; have HO_429000 := n0_; have HO433 := n1_; have HO439 := n2_; have HO442 := n3_; have BK421 := n4_; have BK428 := n5_; have BK436 := n6_; have HB := n7_; clear n0_ n1_ n2_ n3_ n4_ n5_ n6_ n7_; (try clear hb); (try clear hb2); (try clear hk); (try clear hi); (try clear ho0)))
              repeat (go_quiet (first | (go_at_call 10; (with_reducible refine (wal_Append.calls _ _ t424 t427 _ _ l1 t431 t434 t435 _ ?side1 ?side2 ?side3 ?side4 A25.out).mono ?_); (case side1 => repeat (first | exact (Kd.V_reads' HO_429000.out).2.2 | (with_reducible refine Kd.C_alloc ?_ _) | (with_reducible refine Kd.C_drewN ?_ _) | (with_reducible refine Kd.C_drew ?_))); (case side2 => exact (Kd.V_reads' HO_429000.out).2.1); (case side3 => repeat (first | exact (Kd.C_below HR1.out HB.out) | (with_reducible refine Kd.C_alloc ?_ _) | (with_reducible refine Kd.C_drewN ?_ _) | (with_reducible refine Kd.C_drew ?_))); (case side4 => exact HC1.out); rintro e w31 ⟨v432, rfl, ho0, hb⟩; have n0_ := Aside0.mk (Kd.V_below (by (with_reducible repeat (first | apply Kd.V_alloc | apply Kd.V_drewN | apply Kd.V_drew)); exact HO_429000.out) hb); have n1_ := Aside0.mk (Kd.V_lower (Kd.V_mono (ok' := fun k_ => k_ ≠ gb421 ∧ k_ ≠ gb428) ho0 (fun k_ hk_ => ⟨(Kd.freshB (g := gb421) (o := .cells #[.slice A0_0 l0_0.length c0_0, .int .i64 a0_1] 26 (0, 0)) (by (with_reducible repeat (first | refine blk_drewN ?_ _ | refine blk_drew ?_ | refine blk_alloc ?_ _)); exact BK421.out) k_ hk_), (Kd.freshB (g := gb428) (o := .cells #[.slice Ao19 t424.length co19, .int .i64 t427] 26 (0, 0)) (by (with_reducible repeat (first | refine blk_drewN ?_ _ | refine blk_drew ?_ | refine blk_alloc ?_ _)); exact BK428.out) k_ hk_)⟩)) (below_size (by repeat (first | (with_reducible first | exact HB.out | apply below_alloc | apply pw_below_drewN | apply below_drew1 | refine below_set ?_ GE421.out | refine below_set ?_ GE428.out) | exact HB.out)))); have n2_ := Aside0.mk (blk_below (g := gb421) (o := .cells #[.slice A0_0 l0_0.length c0_0, .int .i64 a0_1] 26 (0, 0)) (by (with_reducible repeat (first | refine blk_drewN ?_ _ | refine blk_drew ?_ | refine blk_alloc ?_ _)); exact BK421.out) hb); have n3_ := Aside0.mk (blk_below (g := gb428) (o := .cells #[.slice Ao19 t424.length co19, .int .i64 t427] 26 (0, 0)) (by (with_reducible repeat (first | refine blk_drewN ?_ _ | refine blk_drew ?_ | refine blk_alloc ?_ _)); exact BK428.out) hb); have n4_ := Aside0.mk (below_step (by repeat (first | (with_reducible first | exact HB.out | apply below_alloc | apply pw_below_drewN | apply below_drew1 | refine below_set ?_ GE421.out | refine below_set ?_ GE428.out) | exact HB.out)) hb); clear HO_429000; clear BK421; clear BK428; clear HB; have HO_429000 := n0_; have HO433 := n1_; have BK421 := n2_; have BK428 := n3_; have HB := n4_; clear n0_ n1_ n2_ n3_ n4_; (try clear hb); (try clear hb2); (try clear hk); (try clear hi); (try clear ho0)) | ((with_reducible refine gate_dst (N := 9) rfl ?_); (try (refine gate_guard (by rfl) ?_; dsimp only)); refine box_event ?hg (N := 9) ?hd (cs := #[.slice none 0 0, .int .i64 0]) (t := 26) ?hr ?_; (case hd => rfl); (case hg => rfl); (case hr => first | (go_simp; done) | (go_simp; rfl)); intro gb436 hg w32 hbox hb; have n0_ := Aside0.mk (Kd.V_below (Kd.V_elderB (by (with_reducible repeat (first | apply Kd.V_alloc | apply Kd.V_drewN | apply Kd.V_drew)); exact HO_429000.out) gb436 (Nat.le_of_eq hg.symm)) hb); have n1_ := Aside0.mk (Kd.V_below (Kd.V_elderB (by (with_reducible repeat (first | apply Kd.V_alloc | apply Kd.V_drewN | apply Kd.V_drew)); exact HO433.out) gb436 (Nat.le_of_eq hg.symm)) hb); have n2_ := Aside0.mk (blk_below (g := gb421) (o := .cells #[.slice A0_0 l0_0.length c0_0, .int .i64 a0_1] 26 (0, 0)) (by (with_reducible repeat (first | refine blk_drewN ?_ _ | refine blk_drew ?_ | refine blk_alloc ?_ _)); exact BK421.out) hb); have n3_ := Aside0.mk (blk_below (g := gb428) (o := .cells #[.slice Ao19 t424.length co19, .int .i64 t427] 26 (0, 0)) (by (with_reducible repeat (first | refine blk_drewN ?_ _ | refine blk_drew ?_ | refine blk_alloc ?_ _)); exact BK428.out) hb); have n4_ := Aside0.mk (below_step (by repeat (first | (with_reducible first | exact HB.out | apply below_alloc | apply pw_below_drewN | apply below_drew1 | refine below_set ?_ GE421.out | refine below_set ?_ GE428.out) | exact HB.out)) hb); have n5_ := Aside0.mk (hbox); have n6_ := Aside0.mk ((by rw [hg]; exact (below_size (by repeat (first | (with_reducible first | exact HB.out | apply below_alloc | apply pw_below_drewN | apply below_drew1 | refine below_set ?_ GE421.out | refine below_set ?_ GE428.out) | exact HB.out))) : w.heap.size ≤ gb436)); have n7_ := Aside0.mk ((by rw [hg]; exact (below_size (by repeat (first | (with_reducible first | exact HB.out | apply below_alloc | apply pw_below_drewN | apply below_drew1 | refine below_set ?_ GE421.out | refine below_set ?_ GE428.out) | exact HB.out))) : w.heap.size ≤ gb436)); have n8_ := Aside0.mk ((by rw [hg]; exact Nat.ne_of_lt (blk_lt (g := gb421) (o := .cells #[.slice A0_0 l0_0.length c0_0, .int .i64 a0_1] 26 (0, 0)) (by (with_reducible repeat (first | refine blk_drewN ?_ _ | refine blk_drew ?_ | refine blk_alloc ?_ _)); exact BK421.out)) : gb421 ≠ gb436)); have n9_ := Aside0.mk ((by rw [hg]; exact Nat.ne_of_gt (blk_lt (g := gb421) (o := .cells #[.slice A0_0 l0_0.length c0_0, .int .i64 a0_1] 26 (0, 0)) (by (with_reducible repeat (first | refine blk_drewN ?_ _ | refine blk_drew ?_ | refine blk_alloc ?_ _)); exact BK421.out)) : gb436 ≠ gb421)); have n10_ := Aside0.mk ((by rw [hg]; exact Nat.ne_of_lt (blk_lt (g := gb428) (o := .cells #[.slice Ao19 t424.length co19, .int .i64 t427] 26 (0, 0)) (by (with_reducible repeat (first | refine blk_drewN ?_ _ | refine blk_drew ?_ | refine blk_alloc ?_ _)); exact BK428.out)) : gb428 ≠ gb436)); have n11_ := Aside0.mk ((by rw [hg]; exact Nat.ne_of_gt (blk_lt (g := gb428) (o := .cells #[.slice Ao19 t424.length co19, .int .i64 t427] 26 (0, 0)) (by (with_reducible repeat (first | refine blk_drewN ?_ _ | refine blk_drew ?_ | refine blk_alloc ?_ _)); exact BK428.out)) : gb436 ≠ gb428)); clear HO_429000; clear HO433; clear BK421; clear BK428; clear HB; have HO_429000 := n0_; have HO433 := n1_; have BK421 := n2_; have BK428 := n3_; have HB := n4_; have BK436 := n5_; have GW436 := n6_; have GE436 := n7_; have NB421_436 := n8_; have NB436_421 := n9_; have NB428_436 := n10_; have NB436_428 := n11_; clear n0_ n1_ n2_ n3_ n4_ n5_ n6_ n7_ n8_ n9_ n10_ n11_; clear hb hbox hg; obtain ⟨Ao33, co33, eo33⟩ := Kd.V_slice HO433.out; subst eo33; have hnb34 := NB436_421.out; have hnc34 := NB421_436.out; have hnb35 := NB436_428.out; have hnc35 := NB428_436.out; have hcz36_0 : w32.cell? ⟨gb436, 0, none⟩ = some (.slice none 0 0) := (blk_cell BK436.out 0).trans rfl; have hcz36_1 : w32.cell? ⟨gb436, 1, none⟩ = some (.int .i64 0) := (blk_cell BK436.out 1).trans rfl; have hfz36_0 := blk_frozen BK436.out 0; have hfz36_1 := blk_frozen BK436.out 1; have hcz37_0 : w32.cell? ⟨gb428, 0, none⟩ = some (.slice Ao19 t424.length co19) := (blk_cell BK428.out 0).trans rfl; have hcz37_1 : w32.cell? ⟨gb428, 1, none⟩ = some (.int .i64 t427) := (blk_cell BK428.out 1).trans rfl; have hfz37_0 := blk_frozen BK428.out 0; have hfz37_1 := blk_frozen BK428.out 1) | (go_at_call 13; (with_reducible refine (wal_Texts.calls _ _ t424 t427 t437 _ ?side1 ?side2 A26.out).mono ?_); (case side1 => refine (Kd.V_reads' (e := 5) (base := w.heap.size) (ok := fun k_ => ((k_ ≠ gb421 ∧ k_ ≠ gb428) ∧ k_ ≠ gb436)) (n := t424.length) (c := co19) ?_).2.2; exact (by (with_reducible repeat (first | apply Kd.V_alloc | apply Kd.V_drewN | apply Kd.V_drew)); exact (Kd.V_mono (Kd.V_far (p := ⟨gb436, 1, none⟩) (Kd.V_far (p := ⟨gb436, 0, none⟩) (Kd.V_mono HO_429000.out (fun k_ hk => (⟨hk, hk.2⟩ : _ ∧ k_ ≠ gb436))) (fun _ hk => hk.2) (.slice Ao33 t431.length co33)) (fun _ hk => hk.2) (.int .i64 t434)) (fun _ h_ => h_.1)))); (case side2 => exact (Kd.V_reads' HO_429000.out).2.1); rintro e w38 ⟨v438, rfl, ho0, hb⟩; have n0_ := Aside0.mk (Kd.V_elder' (by (with_reducible repeat (first | apply Kd.V_alloc | apply Kd.V_drewN | apply Kd.V_drew)); exact (Kd.V_mono (Kd.V_far (p := ⟨gb436, 1, none⟩) (Kd.V_far (p := ⟨gb436, 0, none⟩) (Kd.V_mono HO_429000.out (fun k_ hk => (⟨hk, hk.2⟩ : _ ∧ k_ ≠ gb436))) (fun _ hk => hk.2) (.slice Ao33 t431.length co33)) (fun _ hk => hk.2) (.int .i64 t434)) (fun _ h_ => h_.1))) (by first | exact Kd.N_base ho0 | exact Kd.N_base (Kd.S_N ho0)) hb); have n1_ := Aside0.mk (Kd.V_elder' (by (with_reducible repeat (first | apply Kd.V_alloc | apply Kd.V_drewN | apply Kd.V_drew)); exact (Kd.V_mono (Kd.V_far (p := ⟨gb436, 1, none⟩) (Kd.V_far (p := ⟨gb436, 0, none⟩) (Kd.V_mono HO433.out (fun k_ hk => (⟨hk, hk.2⟩ : _ ∧ k_ ≠ gb436))) (fun _ hk => hk.2) (.slice Ao33 t431.length co33)) (fun _ hk => hk.2) (.int .i64 t434)) (fun _ h_ => h_.1))) (by first | exact Kd.N_base ho0 | exact Kd.N_base (Kd.S_N ho0)) hb); have n2_ := Aside0.mk (Kd.N_lower (Kd.N_mono (ok' := fun k_ => k_ ≠ gb421 ∧ k_ ≠ gb428 ∧ k_ ≠ gb436) ho0 (fun k_ hk_ => ⟨(Kd.freshB (g := gb421) (o := .cells #[.slice A0_0 l0_0.length c0_0, .int .i64 a0_1] 26 (0, 0)) (by (with_reducible repeat (first | refine blk_drewN ?_ _ | refine blk_drew ?_ | refine blk_alloc ?_ _)); refine blk_far ?_ NB421_436.out _; (with_reducible repeat (first | refine blk_drewN ?_ _ | refine blk_drew ?_ | refine blk_alloc ?_ _)); refine blk_far ?_ NB421_436.out _; (with_reducible repeat (first | refine blk_drewN ?_ _ | refine blk_drew ?_ | refine blk_alloc ?_ _)); exact BK421.out) k_ hk_), (Kd.freshB (g := gb428) (o := .cells #[.slice Ao19 t424.length co19, .int .i64 t427] 26 (0, 0)) (by (with_reducible repeat (first | refine blk_drewN ?_ _ | refine blk_drew ?_ | refine blk_alloc ?_ _)); refine blk_far ?_ NB428_436.out _; (with_reducible repeat (first | refine blk_drewN ?_ _ | refine blk_drew ?_ | refine blk_alloc ?_ _)); refine blk_far ?_ NB428_436.out _; (with_reducible repeat (first | refine blk_drewN ?_ _ | refine blk_drew ?_ | refine blk_alloc ?_ _)); exact BK428.out) k_ hk_), (Kd.freshB (g := gb436) (o := .cells #[.slice Ao33 t431.length co33, .int .i64 t434] 26 (0, 0)) (by (with_reducible repeat (first | refine blk_drewN ?_ _ | refine blk_drew ?_ | refine blk_alloc ?_ _)); refine blk_put (cs := #[.slice Ao33 t431.length co33, .int .i64 0]) ?_ 1 _ rfl; (with_reducible repeat (first | refine blk_drewN ?_ _ | refine blk_drew ?_ | refine blk_alloc ?_ _)); refine blk_put (cs := #[.slice none 0 0, .int .i64 0]) ?_ 0 _ rfl; (with_reducible repeat (first | refine blk_drewN ?_ _ | refine blk_drew ?_ | refine blk_alloc ?_ _)); exact BK436.out) k_ hk_)⟩)) (below_size (by repeat (first | (with_reducible first | exact HB.out | apply below_alloc | apply pw_below_drewN | apply below_drew1 | refine below_set ?_ GE421.out | refine below_set ?_ GE428.out | refine below_set ?_ GE436.out) | exact HB.out)))); have n3_ := Aside0.mk (blk_below (g := gb421) (o := .cells #[.slice A0_0 l0_0.length c0_0, .int .i64 a0_1] 26 (0, 0)) (by (with_reducible repeat (first | refine blk_drewN ?_ _ | refine blk_drew ?_ | refine blk_alloc ?_ _)); refine blk_far ?_ NB421_436.out _; (with_reducible repeat (first | refine blk_drewN ?_ _ | refine blk_drew ?_ | refine blk_alloc ?_ _)); refine blk_far ?_ NB421_436.out _; (with_reducible repeat (first | refine blk_drewN ?_ _ | refine blk_drew ?_ | refine blk_alloc ?_ _)); exact BK421.out) hb); have n4_ := Aside0.mk (blk_below (g := gb428) (o := .cells #[.slice Ao19 t424.length co19, .int .i64 t427] 26 (0, 0)) (by (with_reducible repeat (first | refine blk_drewN ?_ _ | refine blk_drew ?_ | refine blk_alloc ?_ _)); refine blk_far ?_ NB428_436.out _; (with_reducible repeat (first | refine blk_drewN ?_ _ | refine blk_drew ?_ | refine blk_alloc ?_ _)); refine blk_far ?_ NB428_436.out _; (with_reducible repeat (first | refine blk_drewN ?_ _ | refine blk_drew ?_ | refine blk_alloc ?_ _)); exact BK428.out) hb); have n5_ := Aside0.mk (blk_below (g := gb436) (o := .cells #[.slice Ao33 t431.length co33, .int .i64 t434] 26 (0, 0)) (by (with_reducible repeat (first | refine blk_drewN ?_ _ | refine blk_drew ?_ | refine blk_alloc ?_ _)); refine blk_put (cs := #[.slice Ao33 t431.length co33, .int .i64 0]) ?_ 1 _ rfl; (with_reducible repeat (first | refine blk_drewN ?_ _ | refine blk_drew ?_ | refine blk_alloc ?_ _)); refine blk_put (cs := #[.slice none 0 0, .int .i64 0]) ?_ 0 _ rfl; (with_reducible repeat (first | refine blk_drewN ?_ _ | refine blk_drew ?_ | refine blk_alloc ?_ _)); exact BK436.out) hb); have n6_ := Aside0.mk (below_step (by repeat (first | (with_reducible first | exact HB.out | apply below_alloc | apply pw_below_drewN | apply below_drew1 | refine below_set ?_ GE421.out | refine below_set ?_ GE428.out | refine below_set ?_ GE436.out) | exact HB.out)) hb); clear HO_429000; clear HO433; clear BK421; clear BK428; clear BK436; clear HB; have HO_429000 := n0_; have HO433 := n1_; have HO439 := n2_; have BK421 := n3_; have BK428 := n4_; have BK436 := n5_; have HB := n6_; clear n0_ n1_ n2_ n3_ n4_ n5_ n6_; (try clear hb); (try clear hb2); (try clear hk); (try clear hi); (try clear ho0); have hcz39_0 : w38.cell? ⟨gb436, 0, none⟩ = some (.slice Ao33 t431.length co33) := (blk_cell BK436.out 0).trans rfl; have hcz39_1 : w38.cell? ⟨gb436, 1, none⟩ = some (.int .i64 t434) := (blk_cell BK436.out 1).trans rfl; have hfz39_0 := blk_frozen BK436.out 0; have hfz39_1 := blk_frozen BK436.out 1) | (go_at_call 13; (with_reducible refine (wal_Texts.calls _ _ t431 t434 t440 _ ?side1 ?side2 A27.out).mono ?_); (case side1 => repeat (first | exact (Kd.V_reads' HO433.out).2.2 | (with_reducible refine Kd.C_alloc ?_ _) | (with_reducible refine Kd.C_drewN ?_ _) | (with_reducible refine Kd.C_drew ?_))); (case side2 => exact (Kd.V_reads' HO433.out).2.1); rintro e w40 ⟨v441, rfl, ho0, hb⟩; have n0_ := Aside0.mk (Kd.V_elder' (by (with_reducible repeat (first | apply Kd.V_alloc | apply Kd.V_drewN | apply Kd.V_drew)); exact HO_429000.out) (by first | exact Kd.N_base ho0 | exact Kd.N_base (Kd.S_N ho0)) hb); have n1_ := Aside0.mk (Kd.V_elder' (by (with_reducible repeat (first | apply Kd.V_alloc | apply Kd.V_drewN | apply Kd.V_drew)); exact HO433.out) (by first | exact Kd.N_base ho0 | exact Kd.N_base (Kd.S_N ho0)) hb); have n2_ := Aside0.mk (Kd.N_elder' (by (with_reducible repeat (first | apply Kd.N_alloc | apply Kd.N_drewN | apply Kd.N_drew)); exact HO439.out) (by first | exact Kd.N_base ho0 | exact Kd.N_base (Kd.S_N ho0)) hb); have n3_ := Aside0.mk (Kd.N_lower (Kd.N_mono (ok' := fun k_ => some k_ ≠ (v438 : Value).ownBlock ∧ k_ ≠ gb421 ∧ k_ ≠ gb428 ∧ k_ ≠ gb436) ho0 (fun k_ hk_ => ⟨(Kd.fresh' (Kd.N_lt (by (with_reducible repeat (first | apply Kd.N_alloc | apply Kd.N_drewN | apply Kd.N_drew)); exact HO439.out)) k_ hk_), (Kd.freshB (g := gb421) (o := .cells #[.slice A0_0 l0_0.length c0_0, .int .i64 a0_1] 26 (0, 0)) (by (with_reducible repeat (first | refine blk_drewN ?_ _ | refine blk_drew ?_ | refine blk_alloc ?_ _)); exact BK421.out) k_ hk_), (Kd.freshB (g := gb428) (o := .cells #[.slice Ao19 t424.length co19, .int .i64 t427] 26 (0, 0)) (by (with_reducible repeat (first | refine blk_drewN ?_ _ | refine blk_drew ?_ | refine blk_alloc ?_ _)); exact BK428.out) k_ hk_), (Kd.freshB (g := gb436) (o := .cells #[.slice Ao33 t431.length co33, .int .i64 t434] 26 (0, 0)) (by (with_reducible repeat (first | refine blk_drewN ?_ _ | refine blk_drew ?_ | refine blk_alloc ?_ _)); exact BK436.out) k_ hk_)⟩)) (below_size (by repeat (first | (with_reducible first | exact HB.out | apply below_alloc | apply pw_below_drewN | apply below_drew1 | refine below_set ?_ GE421.out | refine below_set ?_ GE428.out | refine below_set ?_ GE436.out) | exact HB.out)))); have n4_ := Aside0.mk (blk_below (g := gb421) (o := .cells #[.slice A0_0 l0_0.length c0_0, .int .i64 a0_1] 26 (0, 0)) (by (with_reducible repeat (first | refine blk_drewN ?_ _ | refine blk_drew ?_ | refine blk_alloc ?_ _)); exact BK421.out) hb); have n5_ := Aside0.mk (blk_below (g := gb428) (o := .cells #[.slice Ao19 t424.length co19, .int .i64 t427] 26 (0, 0)) (by (with_reducible repeat (first | refine blk_drewN ?_ _ | refine blk_drew ?_ | refine blk_alloc ?_ _)); exact BK428.out) hb); have n6_ := Aside0.mk (blk_below (g := gb436) (o := .cells #[.slice Ao33 t431.length co33, .int .i64 t434] 26 (0, 0)) (by (with_reducible repeat (first | refine blk_drewN ?_ _ | refine blk_drew ?_ | refine blk_alloc ?_ _)); exact BK436.out) hb); have n7_ := Aside0.mk (below_step (by repeat (first | (with_reducible first | exact HB.out | apply below_alloc | apply pw_below_drewN | apply below_drew1 | refine below_set ?_ GE421.out | refine below_set ?_ GE428.out | refine below_set ?_ GE436.out) | exact HB.out)) hb); clear HO_429000; clear HO433; clear HO439; clear BK421; clear BK428; clear BK436; clear HB; have HO_429000 := n0_; have HO433 := n1_; have HO439 := n2_; have HO442 := n3_; have BK421 := n4_; have BK428 := n5_; have BK436 := n6_; have HB := n7_; clear n0_ n1_ n2_ n3_ n4_ n5_ n6_ n7_; (try clear hb); (try clear hb2); (try clear hk); (try clear hi); (try clear ho0))); go_upto_region 15 with (first | (go_at_call 10; (with_reducible refine (wal_Append.calls _ _ t424 t427 _ _ l1 t431 t434 t435 _ ?side1 ?side2 ?side3 ?side4 A25.out).mono ?_); (case side1 => repeat (first | exact (Kd.V_reads' HO_429000.out).2.2 | (with_reducible refine Kd.C_alloc ?_ _) | (with_reducible refine Kd.C_drewN ?_ _) | (with_reducible refine Kd.C_drew ?_))); (case side2 => exact (Kd.V_reads' HO_429000.out).2.1); (case side3 => repeat (first | exact (Kd.C_below HR1.out HB.out) | (with_reducible refine Kd.C_alloc ?_ _) | (with_reducible refine Kd.C_drewN ?_ _) | (with_reducible refine Kd.C_drew ?_))); (case side4 => exact HC1.out); rintro e w31 ⟨v432, rfl, ho0, hb⟩; have n0_ := Aside0.mk (Kd.V_below (by (with_reducible repeat (first | apply Kd.V_alloc | apply Kd.V_drewN | apply Kd.V_drew)); exact HO_429000.out) hb); have n1_ := Aside0.mk (Kd.V_lower (Kd.V_mono (ok' := fun k_ => k_ ≠ gb421 ∧ k_ ≠ gb428) ho0 (fun k_ hk_ => ⟨(Kd.freshB (g := gb421) (o := .cells #[.slice A0_0 l0_0.length c0_0, .int .i64 a0_1] 26 (0, 0)) (by (with_reducible repeat (first | refine blk_drewN ?_ _ | refine blk_drew ?_ | refine blk_alloc ?_ _)); exact BK421.out) k_ hk_), (Kd.freshB (g := gb428) (o := .cells #[.slice Ao19 t424.length co19, .int .i64 t427] 26 (0, 0)) (by (with_reducible repeat (first | refine blk_drewN ?_ _ | refine blk_drew ?_ | refine blk_alloc ?_ _)); exact BK428.out) k_ hk_)⟩)) (below_size (by repeat (first | (with_reducible first | exact HB.out | apply below_alloc | apply pw_below_drewN | apply below_drew1 | refine below_set ?_ GE421.out | refine below_set ?_ GE428.out) | exact HB.out)))); have n2_ := Aside0.mk (blk_below (g := gb421) (o := .cells #[.slice A0_0 l0_0.length c0_0, .int .i64 a0_1] 26 (0, 0)) (by (with_reducible repeat (first | refine blk_drewN ?_ _ | refine blk_drew ?_ | refine blk_alloc ?_ _)); exact BK421.out) hb); have n3_ := Aside0.mk (blk_below (g := gb428) (o := .cells #[.slice Ao19 t424.length co19, .int .i64 t427] 26 (0, 0)) (by (with_reducible repeat (first | refine blk_drewN ?_ _ | refine blk_drew ?_ | refine blk_alloc ?_ _)); exact BK428.out) hb); have n4_ := Aside0.mk (below_step (by repeat (first | (with_reducible first | exact HB.out | apply below_alloc | apply pw_below_drewN | apply below_drew1 | refine below_set ?_ GE421.out | refine below_set ?_ GE428.out) | exact HB.out)) hb); clear HO_429000; clear BK421; clear BK428; clear HB; have HO_429000 := n0_; have HO433 := n1_; have BK421 := n2_; have BK428 := n3_; have HB := n4_; clear n0_ n1_ n2_ n3_ n4_; (try clear hb); (try clear hb2); (try clear hk); (try clear hi); (try clear ho0)) | ((with_reducible refine gate_dst (N := 9) rfl ?_); (try (refine gate_guard (by rfl) ?_; dsimp only)); refine box_event ?hg (N := 9) ?hd (cs := #[.slice none 0 0, .int .i64 0]) (t := 26) ?hr ?_; (case hd => rfl); (case hg => rfl); (case hr => first | (go_simp; done) | (go_simp; rfl)); intro gb436 hg w32 hbox hb; have n0_ := Aside0.mk (Kd.V_below (Kd.V_elderB (by (with_reducible repeat (first | apply Kd.V_alloc | apply Kd.V_drewN | apply Kd.V_drew)); exact HO_429000.out) gb436 (Nat.le_of_eq hg.symm)) hb); have n1_ := Aside0.mk (Kd.V_below (Kd.V_elderB (by (with_reducible repeat (first | apply Kd.V_alloc | apply Kd.V_drewN | apply Kd.V_drew)); exact HO433.out) gb436 (Nat.le_of_eq hg.symm)) hb); have n2_ := Aside0.mk (blk_below (g := gb421) (o := .cells #[.slice A0_0 l0_0.length c0_0, .int .i64 a0_1] 26 (0, 0)) (by (with_reducible repeat (first | refine blk_drewN ?_ _ | refine blk_drew ?_ | refine blk_alloc ?_ _)); exact BK421.out) hb); have n3_ := Aside0.mk (blk_below (g := gb428) (o := .cells #[.slice Ao19 t424.length co19, .int .i64 t427] 26 (0, 0)) (by (with_reducible repeat (first | refine blk_drewN ?_ _ | refine blk_drew ?_ | refine blk_alloc ?_ _)); exact BK428.out) hb); have n4_ := Aside0.mk (below_step (by repeat (first | (with_reducible first | exact HB.out | apply below_alloc | apply pw_below_drewN | apply below_drew1 | refine below_set ?_ GE421.out | refine below_set ?_ GE428.out) | exact HB.out)) hb); have n5_ := Aside0.mk (hbox); have n6_ := Aside0.mk ((by rw [hg]; exact (below_size (by repeat (first | (with_reducible first | exact HB.out | apply below_alloc | apply pw_below_drewN | apply below_drew1 | refine below_set ?_ GE421.out | refine below_set ?_ GE428.out) | exact HB.out))) : w.heap.size ≤ gb436)); have n7_ := Aside0.mk ((by rw [hg]; exact (below_size (by repeat (first | (with_reducible first | exact HB.out | apply below_alloc | apply pw_below_drewN | apply below_drew1 | refine below_set ?_ GE421.out | refine below_set ?_ GE428.out) | exact HB.out))) : w.heap.size ≤ gb436)); have n8_ := Aside0.mk ((by rw [hg]; exact Nat.ne_of_lt (blk_lt (g := gb421) (o := .cells #[.slice A0_0 l0_0.length c0_0, .int .i64 a0_1] 26 (0, 0)) (by (with_reducible repeat (first | refine blk_drewN ?_ _ | refine blk_drew ?_ | refine blk_alloc ?_ _)); exact BK421.out)) : gb421 ≠ gb436)); have n9_ := Aside0.mk ((by rw [hg]; exact Nat.ne_of_gt (blk_lt (g := gb421) (o := .cells #[.slice A0_0 l0_0.length c0_0, .int .i64 a0_1] 26 (0, 0)) (by (with_reducible repeat (first | refine blk_drewN ?_ _ | refine blk_drew ?_ | refine blk_alloc ?_ _)); exact BK421.out)) : gb436 ≠ gb421)); have n10_ := Aside0.mk ((by rw [hg]; exact Nat.ne_of_lt (blk_lt (g := gb428) (o := .cells #[.slice Ao19 t424.length co19, .int .i64 t427] 26 (0, 0)) (by (with_reducible repeat (first | refine blk_drewN ?_ _ | refine blk_drew ?_ | refine blk_alloc ?_ _)); exact BK428.out)) : gb428 ≠ gb436)); have n11_ := Aside0.mk ((by rw [hg]; exact Nat.ne_of_gt (blk_lt (g := gb428) (o := .cells #[.slice Ao19 t424.length co19, .int .i64 t427] 26 (0, 0)) (by (with_reducible repeat (first | refine blk_drewN ?_ _ | refine blk_drew ?_ | refine blk_alloc ?_ _)); exact BK428.out)) : gb436 ≠ gb428)); clear HO_429000; clear HO433; clear BK421; clear BK428; clear HB; have HO_429000 := n0_; have HO433 := n1_; have BK421 := n2_; have BK428 := n3_; have HB := n4_; have BK436 := n5_; have GW436 := n6_; have GE436 := n7_; have NB421_436 := n8_; have NB436_421 := n9_; have NB428_436 := n10_; have NB436_428 := n11_; clear n0_ n1_ n2_ n3_ n4_ n5_ n6_ n7_ n8_ n9_ n10_ n11_; clear hb hbox hg; obtain ⟨Ao33, co33, eo33⟩ := Kd.V_slice HO433.out; subst eo33; have hnb34 := NB436_421.out; have hnc34 := NB421_436.out; have hnb35 := NB436_428.out; have hnc35 := NB428_436.out; have hcz36_0 : w32.cell? ⟨gb436, 0, none⟩ = some (.slice none 0 0) := (blk_cell BK436.out 0).trans rfl; have hcz36_1 : w32.cell? ⟨gb436, 1, none⟩ = some (.int .i64 0) := (blk_cell BK436.out 1).trans rfl; have hfz36_0 := blk_frozen BK436.out 0; have hfz36_1 := blk_frozen BK436.out 1; have hcz37_0 : w32.cell? ⟨gb428, 0, none⟩ = some (.slice Ao19 t424.length co19) := (blk_cell BK428.out 0).trans rfl; have hcz37_1 : w32.cell? ⟨gb428, 1, none⟩ = some (.int .i64 t427) := (blk_cell BK428.out 1).trans rfl; have hfz37_0 := blk_frozen BK428.out 0; have hfz37_1 := blk_frozen BK428.out 1) | (go_at_call 13; (with_reducible refine (wal_Texts.calls _ _ t424 t427 t437 _ ?side1 ?side2 A26.out).mono ?_); (case side1 => refine (Kd.V_reads' (e := 5) (base := w.heap.size) (ok := fun k_ => ((k_ ≠ gb421 ∧ k_ ≠ gb428) ∧ k_ ≠ gb436)) (n := t424.length) (c := co19) ?_).2.2; exact (by (with_reducible repeat (first | apply Kd.V_alloc | apply Kd.V_drewN | apply Kd.V_drew)); exact (Kd.V_mono (Kd.V_far (p := ⟨gb436, 1, none⟩) (Kd.V_far (p := ⟨gb436, 0, none⟩) (Kd.V_mono HO_429000.out (fun k_ hk => (⟨hk, hk.2⟩ : _ ∧ k_ ≠ gb436))) (fun _ hk => hk.2) (.slice Ao33 t431.length co33)) (fun _ hk => hk.2) (.int .i64 t434)) (fun _ h_ => h_.1)))); (case side2 => exact (Kd.V_reads' HO_429000.out).2.1); rintro e w38 ⟨v438, rfl, ho0, hb⟩; have n0_ := Aside0.mk (Kd.V_elder' (by (with_reducible repeat (first | apply Kd.V_alloc | apply Kd.V_drewN | apply Kd.V_drew)); exact (Kd.V_mono (Kd.V_far (p := ⟨gb436, 1, none⟩) (Kd.V_far (p := ⟨gb436, 0, none⟩) (Kd.V_mono HO_429000.out (fun k_ hk => (⟨hk, hk.2⟩ : _ ∧ k_ ≠ gb436))) (fun _ hk => hk.2) (.slice Ao33 t431.length co33)) (fun _ hk => hk.2) (.int .i64 t434)) (fun _ h_ => h_.1))) (by first | exact Kd.N_base ho0 | exact Kd.N_base (Kd.S_N ho0)) hb); have n1_ := Aside0.mk (Kd.V_elder' (by (with_reducible repeat (first | apply Kd.V_alloc | apply Kd.V_drewN | apply Kd.V_drew)); exact (Kd.V_mono (Kd.V_far (p := ⟨gb436, 1, none⟩) (Kd.V_far (p := ⟨gb436, 0, none⟩) (Kd.V_mono HO433.out (fun k_ hk => (⟨hk, hk.2⟩ : _ ∧ k_ ≠ gb436))) (fun _ hk => hk.2) (.slice Ao33 t431.length co33)) (fun _ hk => hk.2) (.int .i64 t434)) (fun _ h_ => h_.1))) (by first | exact Kd.N_base ho0 | exact Kd.N_base (Kd.S_N ho0)) hb); have n2_ := Aside0.mk (Kd.N_lower (Kd.N_mono (ok' := fun k_ => k_ ≠ gb421 ∧ k_ ≠ gb428 ∧ k_ ≠ gb436) ho0 (fun k_ hk_ => ⟨(Kd.freshB (g := gb421) (o := .cells #[.slice A0_0 l0_0.length c0_0, .int .i64 a0_1] 26 (0, 0)) (by (with_reducible repeat (first | refine blk_drewN ?_ _ | refine blk_drew ?_ | refine blk_alloc ?_ _)); refine blk_far ?_ NB421_436.out _; (with_reducible repeat (first | refine blk_drewN ?_ _ | refine blk_drew ?_ | refine blk_alloc ?_ _)); refine blk_far ?_ NB421_436.out _; (with_reducible repeat (first | refine blk_drewN ?_ _ | refine blk_drew ?_ | refine blk_alloc ?_ _)); exact BK421.out) k_ hk_), (Kd.freshB (g := gb428) (o := .cells #[.slice Ao19 t424.length co19, .int .i64 t427] 26 (0, 0)) (by (with_reducible repeat (first | refine blk_drewN ?_ _ | refine blk_drew ?_ | refine blk_alloc ?_ _)); refine blk_far ?_ NB428_436.out _; (with_reducible repeat (first | refine blk_drewN ?_ _ | refine blk_drew ?_ | refine blk_alloc ?_ _)); refine blk_far ?_ NB428_436.out _; (with_reducible repeat (first | refine blk_drewN ?_ _ | refine blk_drew ?_ | refine blk_alloc ?_ _)); exact BK428.out) k_ hk_), (Kd.freshB (g := gb436) (o := .cells #[.slice Ao33 t431.length co33, .int .i64 t434] 26 (0, 0)) (by (with_reducible repeat (first | refine blk_drewN ?_ _ | refine blk_drew ?_ | refine blk_alloc ?_ _)); refine blk_put (cs := #[.slice Ao33 t431.length co33, .int .i64 0]) ?_ 1 _ rfl; (with_reducible repeat (first | refine blk_drewN ?_ _ | refine blk_drew ?_ | refine blk_alloc ?_ _)); refine blk_put (cs := #[.slice none 0 0, .int .i64 0]) ?_ 0 _ rfl; (with_reducible repeat (first | refine blk_drewN ?_ _ | refine blk_drew ?_ | refine blk_alloc ?_ _)); exact BK436.out) k_ hk_)⟩)) (below_size (by repeat (first | (with_reducible first | exact HB.out | apply below_alloc | apply pw_below_drewN | apply below_drew1 | refine below_set ?_ GE421.out | refine below_set ?_ GE428.out | refine below_set ?_ GE436.out) | exact HB.out)))); have n3_ := Aside0.mk (blk_below (g := gb421) (o := .cells #[.slice A0_0 l0_0.length c0_0, .int .i64 a0_1] 26 (0, 0)) (by (with_reducible repeat (first | refine blk_drewN ?_ _ | refine blk_drew ?_ | refine blk_alloc ?_ _)); refine blk_far ?_ NB421_436.out _; (with_reducible repeat (first | refine blk_drewN ?_ _ | refine blk_drew ?_ | refine blk_alloc ?_ _)); refine blk_far ?_ NB421_436.out _; (with_reducible repeat (first | refine blk_drewN ?_ _ | refine blk_drew ?_ | refine blk_alloc ?_ _)); exact BK421.out) hb); have n4_ := Aside0.mk (blk_below (g := gb428) (o := .cells #[.slice Ao19 t424.length co19, .int .i64 t427] 26 (0, 0)) (by (with_reducible repeat (first | refine blk_drewN ?_ _ | refine blk_drew ?_ | refine blk_alloc ?_ _)); refine blk_far ?_ NB428_436.out _; (with_reducible repeat (first | refine blk_drewN ?_ _ | refine blk_drew ?_ | refine blk_alloc ?_ _)); refine blk_far ?_ NB428_436.out _; (with_reducible repeat (first | refine blk_drewN ?_ _ | refine blk_drew ?_ | refine blk_alloc ?_ _)); exact BK428.out) hb); have n5_ := Aside0.mk (blk_below (g := gb436) (o := .cells #[.slice Ao33 t431.length co33, .int .i64 t434] 26 (0, 0)) (by (with_reducible repeat (first | refine blk_drewN ?_ _ | refine blk_drew ?_ | refine blk_alloc ?_ _)); refine blk_put (cs := #[.slice Ao33 t431.length co33, .int .i64 0]) ?_ 1 _ rfl; (with_reducible repeat (first | refine blk_drewN ?_ _ | refine blk_drew ?_ | refine blk_alloc ?_ _)); refine blk_put (cs := #[.slice none 0 0, .int .i64 0]) ?_ 0 _ rfl; (with_reducible repeat (first | refine blk_drewN ?_ _ | refine blk_drew ?_ | refine blk_alloc ?_ _)); exact BK436.out) hb); have n6_ := Aside0.mk (below_step (by repeat (first | (with_reducible first | exact HB.out | apply below_alloc | apply pw_below_drewN | apply below_drew1 | refine below_set ?_ GE421.out | refine below_set ?_ GE428.out | refine below_set ?_ GE436.out) | exact HB.out)) hb); clear HO_429000; clear HO433; clear BK421; clear BK428; clear BK436; clear HB; have HO_429000 := n0_; have HO433 := n1_; have HO439 := n2_; have BK421 := n3_; have BK428 := n4_; have BK436 := n5_; have HB := n6_; clear n0_ n1_ n2_ n3_ n4_ n5_ n6_; (try clear hb); (try clear hb2); (try clear hk); (try clear hi); (try clear ho0); have hcz39_0 : w38.cell? ⟨gb436, 0, none⟩ = some (.slice Ao33 t431.length co33) := (blk_cell BK436.out 0).trans rfl; have hcz39_1 : w38.cell? ⟨gb436, 1, none⟩ = some (.int .i64 t434) := (blk_cell BK436.out 1).trans rfl; have hfz39_0 := blk_frozen BK436.out 0; have hfz39_1 := blk_frozen BK436.out 1) | (go_at_call 13; (with_reducible refine (wal_Texts.calls _ _ t431 t434 t440 _ ?side1 ?side2 A27.out).mono ?_); (case side1 => repeat (first | exact (Kd.V_reads' HO433.out).2.2 | (with_reducible refine Kd.C_alloc ?_ _) | (with_reducible refine Kd.C_drewN ?_ _) | (with_reducible refine Kd.C_drew ?_))); (case side2 => exact (Kd.V_reads' HO433.out).2.1); rintro e w40 ⟨v441, rfl, ho0, hb⟩; have n0_ := Aside0.mk (Kd.V_elder' (by (with_reducible repeat (first | apply Kd.V_alloc | apply Kd.V_drewN | apply Kd.V_drew)); exact HO_429000.out) (by first | exact Kd.N_base ho0 | exact Kd.N_base (Kd.S_N ho0)) hb); have n1_ := Aside0.mk (Kd.V_elder' (by (with_reducible repeat (first | apply Kd.V_alloc | apply Kd.V_drewN | apply Kd.V_drew)); exact HO433.out) (by first | exact Kd.N_base ho0 | exact Kd.N_base (Kd.S_N ho0)) hb); have n2_ := Aside0.mk (Kd.N_elder' (by (with_reducible repeat (first | apply Kd.N_alloc | apply Kd.N_drewN | apply Kd.N_drew)); exact HO439.out) (by first | exact Kd.N_base ho0 | exact Kd.N_base (Kd.S_N ho0)) hb); have n3_ := Aside0.mk (Kd.N_lower (Kd.N_mono (ok' := fun k_ => some k_ ≠ (v438 : Value).ownBlock ∧ k_ ≠ gb421 ∧ k_ ≠ gb428 ∧ k_ ≠ gb436) ho0 (fun k_ hk_ => ⟨(Kd.fresh' (Kd.N_lt (by (with_reducible repeat (first | apply Kd.N_alloc | apply Kd.N_drewN | apply Kd.N_drew)); exact HO439.out)) k_ hk_), (Kd.freshB (g := gb421) (o := .cells #[.slice A0_0 l0_0.length c0_0, .int .i64 a0_1] 26 (0, 0)) (by (with_reducible repeat (first | refine blk_drewN ?_ _ | refine blk_drew ?_ | refine blk_alloc ?_ _)); exact BK421.out) k_ hk_), (Kd.freshB (g := gb428) (o := .cells #[.slice Ao19 t424.length co19, .int .i64 t427] 26 (0, 0)) (by (with_reducible repeat (first | refine blk_drewN ?_ _ | refine blk_drew ?_ | refine blk_alloc ?_ _)); exact BK428.out) k_ hk_), (Kd.freshB (g := gb436) (o := .cells #[.slice Ao33 t431.length co33, .int .i64 t434] 26 (0, 0)) (by (with_reducible repeat (first | refine blk_drewN ?_ _ | refine blk_drew ?_ | refine blk_alloc ?_ _)); exact BK436.out) k_ hk_)⟩)) (below_size (by repeat (first | (with_reducible first | exact HB.out | apply below_alloc | apply pw_below_drewN | apply below_drew1 | refine below_set ?_ GE421.out | refine below_set ?_ GE428.out | refine below_set ?_ GE436.out) | exact HB.out)))); have n4_ := Aside0.mk (blk_below (g := gb421) (o := .cells #[.slice A0_0 l0_0.length c0_0, .int .i64 a0_1] 26 (0, 0)) (by (with_reducible repeat (first | refine blk_drewN ?_ _ | refine blk_drew ?_ | refine blk_alloc ?_ _)); exact BK421.out) hb); have n5_ := Aside0.mk (blk_below (g := gb428) (o := .cells #[.slice Ao19 t424.length co19, .int .i64 t427] 26 (0, 0)) (by (with_reducible repeat (first | refine blk_drewN ?_ _ | refine blk_drew ?_ | refine blk_alloc ?_ _)); exact BK428.out) hb); have n6_ := Aside0.mk (blk_below (g := gb436) (o := .cells #[.slice Ao33 t431.length co33, .int .i64 t434] 26 (0, 0)) (by (with_reducible repeat (first | refine blk_drewN ?_ _ | refine blk_drew ?_ | refine blk_alloc ?_ _)); exact BK436.out) hb); have n7_ := Aside0.mk (below_step (by repeat (first | (with_reducible first | exact HB.out | apply below_alloc | apply pw_below_drewN | apply below_drew1 | refine below_set ?_ GE421.out | refine below_set ?_ GE428.out | refine below_set ?_ GE436.out) | exact HB.out)) hb); clear HO_429000; clear HO433; clear HO439; clear BK421; clear BK428; clear BK436; clear HB; have HO_429000 := n0_; have HO433 := n1_; have HO439 := n2_; have HO442 := n3_; have BK421 := n4_; have BK428 := n5_; have BK436 := n6_; have HB := n7_; clear n0_ n1_ n2_ n3_ n4_ n5_ n6_ n7_; (try clear hb); (try clear hb2); (try clear hk); (try clear hi); (try clear ho0))))
              (try simp only [Act.put, List.setIfInBounds_toArray, List.set_cons_zero, List.set_cons_succ])
              go_cut [92] (fun v92 wc => ∃ (kq : Nat) (x92_27 : Bool), v92 = .bool x92_27 ∧ Aside0 (banksmanlaw04_WalSizes.j2 kq l1 t422 t437 t440 x92_27 t431 t434 = some r) ∧ Aside0 (kq ≤ k2) ∧ Aside0 (Kd.N (Kd.slice 5 (Kd.int .u8)) 23 wc w.heap.size (fun k_ => some k_ ≠ (v441 : Value).ownBlock ∧ k_ ≠ gb421 ∧ k_ ≠ gb428 ∧ k_ ≠ gb436) v438 t437) ∧ Aside0 (Kd.N (Kd.slice 5 (Kd.int .u8)) 23 wc w.heap.size (fun k_ => some k_ ≠ (v438 : Value).ownBlock ∧ k_ ≠ gb421 ∧ k_ ≠ gb428 ∧ k_ ≠ gb436) v441 t440) ∧ Aside0 (Kd.V (Kd.int .u8) 5 wc w.heap.size (fun k_ => some k_ ≠ (v438 : Value).ownBlock ∧ some k_ ≠ (v441 : Value).ownBlock ∧ k_ ≠ gb421 ∧ k_ ≠ gb428 ∧ k_ ≠ gb436) (.slice Ao19 t424.length co19) t424) ∧ Aside0 (Kd.V (Kd.int .u8) 5 wc w.heap.size (fun k_ => some k_ ≠ (v438 : Value).ownBlock ∧ some k_ ≠ (v441 : Value).ownBlock ∧ k_ ≠ gb421 ∧ k_ ≠ gb428 ∧ k_ ≠ gb436) (.slice Ao33 t431.length co33) t431) ∧ Aside0 (wc.heap[gb421]? = some (.cells #[(.slice A0_0 l0_0.length c0_0), .int .i64 a0_1] 26 (0, 0))) ∧ Aside0 (wc.heap[gb428]? = some (.cells #[(.slice Ao19 t424.length co19), .int .i64 t427] 26 (0, 0))) ∧ Aside0 (wc.heap[gb436]? = some (.cells #[(.slice Ao33 t431.length co33), .int .i64 t434] 26 (0, 0))) ∧ Aside0 (Below w.heap.size w wc))
              case first =>
                have H := HC28.out
                clear HC28
                by_cases c41 : t435 = 0
                · rw [if_pos c41] at H
                  have c41b0 : (t435 == 0) = true := beq_iff_eq.mpr c41
                  have c41b1 : (t435 != 0) = false := bne_eq_false_iff_eq.mpr c41
                  clear c41
                  (first | rw [c41b0] | (simp only [i64_w, i32_w]; rw [c41b0]) | skip)
                  by_cases c42 : (t440.length : Int) = (wrap64 ((t437.length : Int) + (l1.length : Int)))
                  · rw [if_pos c42] at H
                    have c42b0 : ((t440.length : Int) == (wrap64 ((t437.length : Int) + (l1.length : Int)))) = true := beq_iff_eq.mpr c42
                    have c42b1 : ((t440.length : Int) != (wrap64 ((t437.length : Int) + (l1.length : Int)))) = false := bne_eq_false_iff_eq.mpr c42
                    clear c42
                    by_cases c43 : (t431.length : Int) = x7_2
                    · rw [if_pos c43] at H
                      have c43b0 : ((t431.length : Int) == x7_2) = true := beq_iff_eq.mpr c43
                      have c43b1 : ((t431.length : Int) != x7_2) = false := bne_eq_false_iff_eq.mpr c43
                      clear c43
                      have H' := Aside0.mk H
                      clear H
                      obtain ⟨Ao44, co44, eo44⟩ := Kd.N_slice HO442.out
                      subst eo44
                      obtain ⟨Ao45, co45, eo45⟩ := Kd.N_slice HO439.out
                      subst eo45
                      have hnb46 := NB436_421.out
                      have hnc46 := NB421_436.out
                      have hnb47 := NB436_428.out
                      have hnc47 := NB428_436.out
                      have hcz48_0 : w40.cell? ⟨gb436, 0, none⟩ = some (.slice Ao33 t431.length co33) := (blk_cell BK436.out 0).trans rfl
                      have hcz48_1 : w40.cell? ⟨gb436, 1, none⟩ = some (.int .i64 t434) := (blk_cell BK436.out 1).trans rfl
                      have hfz48_0 := blk_frozen BK436.out 0
                      have hfz48_1 := blk_frozen BK436.out 1
                      have hnb49 := NB428_421.out
                      have hnc49 := NB421_428.out
                      have hcz50_0 : w40.cell? ⟨gb428, 0, none⟩ = some (.slice Ao19 t424.length co19) := (blk_cell BK428.out 0).trans rfl
                      have hcz50_1 : w40.cell? ⟨gb428, 1, none⟩ = some (.int .i64 t427) := (blk_cell BK428.out 1).trans rfl
                      have hfz50_0 := blk_frozen BK428.out 0
                      have hfz50_1 := blk_frozen BK428.out 1
                      go_wp2
                      repeat (go_quiet (fail); try go_wp2)
                      go_meet
                      case rel => exact ⟨_, ((t434 != t427)), (by first | rfl | (simp; done) | (simp [*]; done)), H', ⟨by have := HJ3.out; have := HK2.out; first | omega | exact Nat.le_refl _⟩, ⟨by (with_reducible repeat (first | apply Kd.N_alloc | apply Kd.N_drewN | apply Kd.N_drew)); exact Kd.N_mono HO439.out (fun _ hk => ⟨hk.2, ⟨hk.1.1, ⟨hk.1.2.1, hk.1.2.2⟩⟩⟩)⟩, ⟨by (with_reducible repeat (first | apply Kd.N_alloc | apply Kd.N_drewN | apply Kd.N_drew)); exact HO442.out⟩, ⟨by (with_reducible repeat (first | apply Kd.V_alloc | apply Kd.V_drewN | apply Kd.V_drew)); exact Kd.V_mono HO_429000.out (fun _ hk => ⟨hk.1.2, ⟨hk.2, ⟨hk.1.1.1.1, ⟨hk.1.1.1.2, hk.1.1.2⟩⟩⟩⟩)⟩, ⟨by (with_reducible repeat (first | apply Kd.V_alloc | apply Kd.V_drewN | apply Kd.V_drew)); exact Kd.V_mono HO433.out (fun _ hk => ⟨hk.1.2, ⟨hk.2, ⟨hk.1.1.1.1, ⟨hk.1.1.1.2, hk.1.1.2⟩⟩⟩⟩)⟩, ⟨by (with_reducible repeat (first | refine blk_drewN ?_ _ | refine blk_drew ?_ | refine blk_alloc ?_ _)); exact BK421.out⟩, ⟨by (with_reducible repeat (first | refine blk_drewN ?_ _ | refine blk_drew ?_ | refine blk_alloc ?_ _)); exact BK428.out⟩, ⟨by (with_reducible repeat (first | refine blk_drewN ?_ _ | refine blk_drew ?_ | refine blk_alloc ?_ _)); exact BK436.out⟩, ⟨by repeat (first | (with_reducible first | exact HB.out | apply below_alloc | apply pw_below_drewN | apply below_drew1 | refine below_set ?_ GE421.out | refine below_set ?_ GE428.out | refine below_set ?_ GE436.out) | exact HB.out)⟩⟩
                    · rw [if_neg c43] at H
                      have c43b0 : ((t431.length : Int) == x7_2) = false := beq_eq_false_iff_ne.mpr c43
                      have c43b1 : ((t431.length : Int) != x7_2) = true := bne_iff_ne.mpr c43
                      have H' := Aside0.mk H
                      clear H
                      obtain ⟨Ao51, co51, eo51⟩ := Kd.N_slice HO442.out
                      subst eo51
                      obtain ⟨Ao52, co52, eo52⟩ := Kd.N_slice HO439.out
                      subst eo52
                      have hnb53 := NB436_421.out
                      have hnc53 := NB421_436.out
                      have hnb54 := NB436_428.out
                      have hnc54 := NB428_436.out
                      have hcz55_0 : w40.cell? ⟨gb436, 0, none⟩ = some (.slice Ao33 t431.length co33) := (blk_cell BK436.out 0).trans rfl
                      have hcz55_1 : w40.cell? ⟨gb436, 1, none⟩ = some (.int .i64 t434) := (blk_cell BK436.out 1).trans rfl
                      have hfz55_0 := blk_frozen BK436.out 0
                      have hfz55_1 := blk_frozen BK436.out 1
                      go_wp2
                      repeat (go_quiet (fail); try go_wp2)
                      go_meet
                      case rel => exact ⟨_, (true), (by first | rfl | (simp; done) | (simp [*]; done)), H', ⟨by have := HJ3.out; have := HK2.out; first | omega | exact Nat.le_refl _⟩, ⟨by (with_reducible repeat (first | apply Kd.N_alloc | apply Kd.N_drewN | apply Kd.N_drew)); exact Kd.N_mono HO439.out (fun _ hk => ⟨hk.2, ⟨hk.1.1, ⟨hk.1.2.1, hk.1.2.2⟩⟩⟩)⟩, ⟨by (with_reducible repeat (first | apply Kd.N_alloc | apply Kd.N_drewN | apply Kd.N_drew)); exact HO442.out⟩, ⟨by (with_reducible repeat (first | apply Kd.V_alloc | apply Kd.V_drewN | apply Kd.V_drew)); exact Kd.V_mono HO_429000.out (fun _ hk => ⟨hk.1.2, ⟨hk.2, ⟨hk.1.1.1.1, ⟨hk.1.1.1.2, hk.1.1.2⟩⟩⟩⟩)⟩, ⟨by (with_reducible repeat (first | apply Kd.V_alloc | apply Kd.V_drewN | apply Kd.V_drew)); exact Kd.V_mono HO433.out (fun _ hk => ⟨hk.1.2, ⟨hk.2, ⟨hk.1.1.1.1, ⟨hk.1.1.1.2, hk.1.1.2⟩⟩⟩⟩)⟩, ⟨by (with_reducible repeat (first | refine blk_drewN ?_ _ | refine blk_drew ?_ | refine blk_alloc ?_ _)); exact BK421.out⟩, ⟨by (with_reducible repeat (first | refine blk_drewN ?_ _ | refine blk_drew ?_ | refine blk_alloc ?_ _)); exact BK428.out⟩, ⟨by (with_reducible repeat (first | refine blk_drewN ?_ _ | refine blk_drew ?_ | refine blk_alloc ?_ _)); exact BK436.out⟩, ⟨by repeat (first | (with_reducible first | exact HB.out | apply below_alloc | apply pw_below_drewN | apply below_drew1 | refine below_set ?_ GE421.out | refine below_set ?_ GE428.out | refine below_set ?_ GE436.out) | exact HB.out)⟩⟩
                  · rw [if_neg c42] at H
                    have c42b0 : ((t440.length : Int) == (wrap64 ((t437.length : Int) + (l1.length : Int)))) = false := beq_eq_false_iff_ne.mpr c42
                    have c42b1 : ((t440.length : Int) != (wrap64 ((t437.length : Int) + (l1.length : Int)))) = true := bne_iff_ne.mpr c42
                    have H' := Aside0.mk H
                    clear H
                    obtain ⟨Ao56, co56, eo56⟩ := Kd.N_slice HO442.out
                    subst eo56
                    obtain ⟨Ao57, co57, eo57⟩ := Kd.N_slice HO439.out
                    subst eo57
                    go_wp2
                    repeat (go_quiet (fail); try go_wp2)
                    go_meet
                    case rel => exact ⟨_, (true), (by first | rfl | (simp; done) | (simp [*]; done)), H', ⟨by have := HJ3.out; have := HK2.out; first | omega | exact Nat.le_refl _⟩, ⟨by (with_reducible repeat (first | apply Kd.N_alloc | apply Kd.N_drewN | apply Kd.N_drew)); exact Kd.N_mono HO439.out (fun _ hk => ⟨hk.2, ⟨hk.1.1, ⟨hk.1.2.1, hk.1.2.2⟩⟩⟩)⟩, ⟨by (with_reducible repeat (first | apply Kd.N_alloc | apply Kd.N_drewN | apply Kd.N_drew)); exact HO442.out⟩, ⟨by (with_reducible repeat (first | apply Kd.V_alloc | apply Kd.V_drewN | apply Kd.V_drew)); exact Kd.V_mono HO_429000.out (fun _ hk => ⟨hk.1.2, ⟨hk.2, ⟨hk.1.1.1.1, ⟨hk.1.1.1.2, hk.1.1.2⟩⟩⟩⟩)⟩, ⟨by (with_reducible repeat (first | apply Kd.V_alloc | apply Kd.V_drewN | apply Kd.V_drew)); exact Kd.V_mono HO433.out (fun _ hk => ⟨hk.1.2, ⟨hk.2, ⟨hk.1.1.1.1, ⟨hk.1.1.1.2, hk.1.1.2⟩⟩⟩⟩)⟩, ⟨by (with_reducible repeat (first | refine blk_drewN ?_ _ | refine blk_drew ?_ | refine blk_alloc ?_ _)); exact BK421.out⟩, ⟨by (with_reducible repeat (first | refine blk_drewN ?_ _ | refine blk_drew ?_ | refine blk_alloc ?_ _)); exact BK428.out⟩, ⟨by (with_reducible repeat (first | refine blk_drewN ?_ _ | refine blk_drew ?_ | refine blk_alloc ?_ _)); exact BK436.out⟩, ⟨by repeat (first | (with_reducible first | exact HB.out | apply below_alloc | apply pw_below_drewN | apply below_drew1 | refine below_set ?_ GE421.out | refine below_set ?_ GE428.out | refine below_set ?_ GE436.out) | exact HB.out)⟩⟩
                · rw [if_neg c41] at H
                  have c41b0 : (t435 == 0) = false := beq_eq_false_iff_ne.mpr c41
                  have c41b1 : (t435 != 0) = true := bne_iff_ne.mpr c41
                  (first | rw [c41b0] | (simp only [i64_w, i32_w]; rw [c41b0]) | skip)
                  have H' := Aside0.mk H
                  clear H
                  go_wp2
                  repeat (go_quiet (fail); try go_wp2)
                  go_meet
                  case rel => exact ⟨_, (true), (by first | rfl | (simp; done) | (simp [*]; done)), H', ⟨by have := HJ3.out; have := HK2.out; first | omega | exact Nat.le_refl _⟩, ⟨by (with_reducible repeat (first | apply Kd.N_alloc | apply Kd.N_drewN | apply Kd.N_drew)); exact Kd.N_mono HO439.out (fun _ hk => ⟨hk.2, ⟨hk.1.1, ⟨hk.1.2.1, hk.1.2.2⟩⟩⟩)⟩, ⟨by (with_reducible repeat (first | apply Kd.N_alloc | apply Kd.N_drewN | apply Kd.N_drew)); exact HO442.out⟩, ⟨by (with_reducible repeat (first | apply Kd.V_alloc | apply Kd.V_drewN | apply Kd.V_drew)); exact Kd.V_mono HO_429000.out (fun _ hk => ⟨hk.1.2, ⟨hk.2, ⟨hk.1.1.1.1, ⟨hk.1.1.1.2, hk.1.1.2⟩⟩⟩⟩)⟩, ⟨by (with_reducible repeat (first | apply Kd.V_alloc | apply Kd.V_drewN | apply Kd.V_drew)); exact Kd.V_mono HO433.out (fun _ hk => ⟨hk.1.2, ⟨hk.2, ⟨hk.1.1.1.1, ⟨hk.1.1.1.2, hk.1.1.2⟩⟩⟩⟩)⟩, ⟨by (with_reducible repeat (first | refine blk_drewN ?_ _ | refine blk_drew ?_ | refine blk_alloc ?_ _)); exact BK421.out⟩, ⟨by (with_reducible repeat (first | refine blk_drewN ?_ _ | refine blk_drew ?_ | refine blk_alloc ?_ _)); exact BK428.out⟩, ⟨by (with_reducible repeat (first | refine blk_drewN ?_ _ | refine blk_drew ?_ | refine blk_alloc ?_ _)); exact BK436.out⟩, ⟨by repeat (first | (with_reducible first | exact HB.out | apply below_alloc | apply pw_below_drewN | apply below_drew1 | refine below_set ?_ GE421.out | refine below_set ?_ GE428.out | refine below_set ?_ GE436.out) | exact HB.out)⟩⟩
              case rest =>
                clear HC28
                try clear c1
                try clear c2
                try clear p2
                try clear c3
                try clear c4
                try clear p4
                try clear q4
                try clear hx4
                try clear c5
                try clear p6
                try clear c7
                try clear c7b0
                try clear c7b1
                try clear c9
                try clear c9b0
                try clear c9b1
                try clear c14
                try clear c20
                try clear c22
                try clear c22b0
                try clear c23
                try clear c23b0
                try clear c24
                try clear c24b0
                try clear c24b1
                try clear c29
                try clear c34
                try clear c35
                try clear c41
                try clear c41b0
                try clear c41b1
                try clear c42
                try clear c42b0
                try clear c42b1
                try clear p42
                try clear q42
                try clear hx42
                try clear c43
                try clear c43b0
                try clear c43b1
                try clear p43
                try clear q43
                try clear hx43
                try clear c46
                try clear c47
                try clear c49
                try clear c53
                try clear c54
                try clear hcz10_0
                try clear hcz10_1
                try clear hcz12_0
                try clear hcz12_1
                try clear hcz16_0
                try clear hcz16_1
                try clear hcz21_0
                try clear hcz21_1
                try clear hcz30_0
                try clear hcz30_1
                try clear hcz36_0
                try clear hcz36_1
                try clear hcz37_0
                try clear hcz37_1
                try clear hcz39_0
                try clear hcz39_1
                try clear hcz48_0
                try clear hcz48_1
                try clear hcz50_0
                try clear hcz50_1
                try clear hcz55_0
                try clear hcz55_1
                try clear hcz8_0
                try clear hcz8_1
                try clear hfz10_0
                try clear hfz10_1
                try clear hfz12_0
                try clear hfz12_1
                try clear hfz16_0
                try clear hfz16_1
                try clear hfz21_0
                try clear hfz21_1
                try clear hfz30_0
                try clear hfz30_1
                try clear hfz36_0
                try clear hfz36_1
                try clear hfz37_0
                try clear hfz37_1
                try clear hfz39_0
                try clear hfz39_1
                try clear hfz48_0
                try clear hfz48_1
                try clear hfz50_0
                try clear hfz50_1
                try clear hfz55_0
                try clear hfz55_1
                try clear hfz8_0
                try clear hfz8_1
                try clear hx429_0
                try clear hx430_0
                try clear p2
                try clear p429
                try clear p430
                try clear q429
                try clear q430
                obtain ⟨kq, x92_27, rfl, HA, HJ27, HO_11, HO_12, HO_429000, HO_437000, BK421, BK428, BK436, HB⟩ := hcut
                cases kq with
                | zero => exact absurd HA.out (by simp [banksmanlaw04_WalSizes.j2])
                | succ kj27 =>
                  have H := HA.out
                  clear HA
                  simp only [banksmanlaw04_WalSizes.j2] at H
                  by_cases c58 : x92_27 = true
                  · subst c58
                    have H1 : (some false) = some r := by rw [if_pos rfl] at H; exact H
                    rw [HTr_] at H1
                    exact absurd (Option.some.inj H1) (by decide)
                  · replace c58 := Bool.eq_false_iff.mpr c58
                    subst c58
                    have H1 : (banksmanlaw04_WalSizes.l1 kj27 l1 t422 t437 t440 0 t431 t434) = some r := by rw [if_neg (show ¬ (false = true) by decide)] at H; exact H
                    clear H
                    have H := H1
                    clear H1
                    have H' := Aside0.mk H
                    clear H
                    go_wp2
                    repeat (go_quiet (fail); try go_wp2)
                    go_loopg [13] kj27 (fun kq v13 w' => ∃ (x13_4 : Int), v13 = .int .i64 x13_4 ∧ Aside0 (banksmanlaw04_WalSizes.l1 kq l1 t422 t437 t440 x13_4 t431 t434 = some r) ∧ Aside0 (kq ≤ kj27) ∧ Aside0 (Kd.N (Kd.slice 5 (Kd.int .u8)) 23 w' w.heap.size (fun k_ => some k_ ≠ (v441 : Value).ownBlock ∧ k_ ≠ gb421 ∧ k_ ≠ gb428 ∧ k_ ≠ gb436) v438 t437) ∧ Aside0 (Kd.N (Kd.slice 5 (Kd.int .u8)) 23 w' w.heap.size (fun k_ => some k_ ≠ (v438 : Value).ownBlock ∧ k_ ≠ gb421 ∧ k_ ≠ gb428 ∧ k_ ≠ gb436) v441 t440) ∧ Aside0 (Kd.V (Kd.int .u8) 5 w' w.heap.size (fun k_ => some k_ ≠ (v438 : Value).ownBlock ∧ some k_ ≠ (v441 : Value).ownBlock ∧ k_ ≠ gb421 ∧ k_ ≠ gb428 ∧ k_ ≠ gb436) (.slice Ao19 t424.length co19) t424) ∧ Aside0 (Kd.V (Kd.int .u8) 5 w' w.heap.size (fun k_ => some k_ ≠ (v438 : Value).ownBlock ∧ some k_ ≠ (v441 : Value).ownBlock ∧ k_ ≠ gb421 ∧ k_ ≠ gb428 ∧ k_ ≠ gb436) (.slice Ao33 t431.length co33) t431) ∧ Aside0 (w'.heap[gb421]? = some (.cells #[(.slice A0_0 l0_0.length c0_0), .int .i64 a0_1] 26 (0, 0))) ∧ Aside0 (w'.heap[gb428]? = some (.cells #[(.slice Ao19 t424.length co19), .int .i64 t427] 26 (0, 0))) ∧ Aside0 (w'.heap[gb436]? = some (.cells #[(.slice Ao33 t431.length co33), .int .i64 t434] 26 (0, 0))) ∧ Aside0 (Below w.heap.size w w'))
                    case atStart => exact ⟨(0), (by first | rfl | (simp; done) | (simp [*]; done)), H', ⟨Nat.le_refl _⟩, ⟨by (with_reducible repeat (first | apply Kd.N_alloc | apply Kd.N_drewN | apply Kd.N_drew)); exact HO_11.out⟩, ⟨by (with_reducible repeat (first | apply Kd.N_alloc | apply Kd.N_drewN | apply Kd.N_drew)); exact HO_12.out⟩, ⟨by (with_reducible repeat (first | apply Kd.V_alloc | apply Kd.V_drewN | apply Kd.V_drew)); exact HO_429000.out⟩, ⟨by (with_reducible repeat (first | apply Kd.V_alloc | apply Kd.V_drewN | apply Kd.V_drew)); exact HO_437000.out⟩, ⟨by (with_reducible repeat (first | refine blk_drewN ?_ _ | refine blk_drew ?_ | refine blk_alloc ?_ _)); exact BK421.out⟩, ⟨by (with_reducible repeat (first | refine blk_drewN ?_ _ | refine blk_drew ?_ | refine blk_alloc ?_ _)); exact BK428.out⟩, ⟨by (with_reducible repeat (first | refine blk_drewN ?_ _ | refine blk_drew ?_ | refine blk_alloc ?_ _)); exact BK436.out⟩, ⟨by repeat (first | (with_reducible first | exact HB.out | apply below_alloc | apply pw_below_drewN | apply below_drew1 | refine below_set ?_ GE421.out | refine below_set ?_ GE428.out | refine below_set ?_ GE436.out) | exact HB.out)⟩⟩
                    case round =>
                      clear H'
                      try clear c1
                      try clear c2
                      try clear p2
                      try clear c3
                      try clear c4
                      try clear p4
                      try clear q4
                      try clear hx4
                      try clear c5
                      try clear p6
                      try clear c7
                      try clear c7b0
                      try clear c7b1
                      try clear c9
                      try clear c9b0
                      try clear c9b1
                      try clear c14
                      try clear c20
                      try clear c22
                      try clear c22b0
                      try clear c23
                      try clear c23b0
                      try clear c24
                      try clear c24b0
                      try clear c24b1
                      try clear c29
                      try clear c34
                      try clear c35
                      try clear c41
                      try clear c41b0
                      try clear c41b1
                      try clear c42
                      try clear c42b0
                      try clear c42b1
                      try clear p42
                      try clear q42
                      try clear hx42
                      try clear c43
                      try clear c43b0
                      try clear c43b1
                      try clear p43
                      try clear q43
                      try clear hx43
                      try clear c46
                      try clear c47
                      try clear c49
                      try clear c53
                      try clear c54
                      try clear c58
                      try clear hcz10_0
                      try clear hcz10_1
                      try clear hcz12_0
                      try clear hcz12_1
                      try clear hcz16_0
                      try clear hcz16_1
                      try clear hcz21_0
                      try clear hcz21_1
                      try clear hcz30_0
                      try clear hcz30_1
                      try clear hcz36_0
                      try clear hcz36_1
                      try clear hcz37_0
                      try clear hcz37_1
                      try clear hcz39_0
                      try clear hcz39_1
                      try clear hcz48_0
                      try clear hcz48_1
                      try clear hcz50_0
                      try clear hcz50_1
                      try clear hcz55_0
                      try clear hcz55_1
                      try clear hcz8_0
                      try clear hcz8_1
                      try clear hfz10_0
                      try clear hfz10_1
                      try clear hfz12_0
                      try clear hfz12_1
                      try clear hfz16_0
                      try clear hfz16_1
                      try clear hfz21_0
                      try clear hfz21_1
                      try clear hfz30_0
                      try clear hfz30_1
                      try clear hfz36_0
                      try clear hfz36_1
                      try clear hfz37_0
                      try clear hfz37_1
                      try clear hfz39_0
                      try clear hfz39_1
                      try clear hfz48_0
                      try clear hfz48_1
                      try clear hfz50_0
                      try clear hfz50_1
                      try clear hfz55_0
                      try clear hfz55_1
                      try clear hfz8_0
                      try clear hfz8_1
                      try clear hx429_0
                      try clear hx430_0
                      try clear p2
                      try clear p4
                      try clear p42
                      try clear p429
                      try clear p43
                      try clear p430
                      try clear p6
                      try clear q4
                      try clear q42
                      try clear q429
                      try clear q43
                      try clear q430
                      obtain ⟨x13_4, rfl, HA, HK4, HO_11, HO_12, HO_429000, HO_437000, BK421, BK428, BK436, HB⟩ := hrel
                      cases gk with
                      | zero => exact absurd HA.out (by simp [banksmanlaw04_WalSizes.l1])
                      | succ k4 =>
                        have H := HA.out
                        clear HA
                        simp only [banksmanlaw04_WalSizes.l1] at H
                        by_cases c59 : x13_4 < (l1.length : Int)
                        · rw [if_pos c59] at H
                          have c59b0 : decide (x13_4 < (l1.length : Int)) = true := decide_eq_true c59
                          clear c59
                          obtain ⟨ji60, hji60⟩ : ∃ j_ : Int, (wrap64 ((t437.length : Int) + x13_4)) = j_ := ⟨_, rfl⟩
                          replace H : (if 0 ≤ (ji60) then (if (ji60) < (t440.length : Int) then (if 0 ≤ x13_4 then (if (strOfNums (rd_L1 t440 (ji60))).toList = (strOfNums (rd_L1 l1 x13_4)).toList then (banksmanlaw04_WalSizes.l1 k4 l1 t422 t437 t440 (wrap64 (x13_4 + 1)) t431 t434) else (some false)) else (none)) else (none)) else (none)) = some r := by first | (rw [hji60] at H; exact H) | (simp only [hji60] at H ⊢; exact H)
                          have hji60w : (IntKind.i64.wrap ((t437.length : Int) + x13_4)) = ji60 := (i64_w _).trans hji60
                          by_cases c61 : 0 ≤ (ji60)
                          · rw [if_pos c61] at H
                            have c61b0 : decide (0 ≤ (ji60)) = true := decide_eq_true c61
                            clear c61
                            by_cases c62 : (ji60) < (t440.length : Int)
                            · rw [if_pos c62] at H
                              have c62b0 : decide ((ji60) < (t440.length : Int)) = true := decide_eq_true c62
                              clear c62
                              by_cases c63 : 0 ≤ x13_4
                              · rw [if_pos c63] at H
                                have c63b0 : decide (0 ≤ x13_4) = true := decide_eq_true c63
                                clear c63
                                by_cases c64 : (strOfNums (rd_L1 t440 (ji60))).toList = (strOfNums (rd_L1 l1 x13_4)).toList
                                · rw [if_pos c64] at H
                                  have c64b0 : ((strOfNums (rd_L1 t440 (ji60))).toList == (strOfNums (rd_L1 l1 x13_4)).toList) = true := beq_iff_eq.mpr c64
                                  have c64b1 : ((strOfNums (rd_L1 t440 (ji60))).toList != (strOfNums (rd_L1 l1 x13_4)).toList) = false := bne_eq_false_iff_eq.mpr c64
                                  clear c64
                                  have H' := Aside0.mk H
                                  clear H
                                  obtain ⟨Ao65, co65, eo65⟩ := Kd.N_slice HO_11.out
                                  subst eo65
                                  obtain ⟨Ao66, co66, eo66⟩ := Kd.N_slice HO_12.out
                                  subst eo66
                                  have p443 : 0 ≤ ((ji60) : Int) := of_decide_eq_true (by first | (with_reducible assumption) | assumption)
                                  have q443 : (ji60) < (t440.length : Int) := of_decide_eq_true (by first | (with_reducible assumption) | assumption)
                                  obtain ⟨ad443, A443_0, c443_0, e443, hx443_0, hl443_0, hi443_0⟩ := at_L1 (Kd.N_reads' HO_12.out).2.2 (ji60) p443 q443
                                  cases e443
                                  obtain ⟨ce443, hce443, hMe443, hcc443⟩ := Kd.N_get HO_12.out [] (ji60) p443 (by first | exact q443 | exact of_decide_eq_true (by first | (with_reducible assumption) | assumption) | (have e_ := (Kd.N_reads' HO_12.out).1; omega))
                                  obtain ⟨ua443_0, uc443_0, rfl, ul443_0, ge443_0⟩ := Kd.FK_slice_open hMe443
                                  have hv443_0 := hcc443 0 _ rfl
                                  rw [Nat.add_zero, show ((Kd.slice 5 (Kd.int .u8))).sz = 1 from rfl, Nat.mul_one] at hv443_0
                                  replace hv443_0 := Option.some.inj (hv443_0.symm.trans hx443_0)
                                  injection hv443_0 with hva_ hvn_ hvc_
                                  rw [hva_] at ge443_0
                                  rw [hvc_] at ul443_0
                                  have HL443_0 := Aside0.mk (show Kd.V (Kd.int .u8) 5 _ w.heap.size _ _ (rd_L1 t440 (ji60)) from Kd.V_mk ul443_0 ge443_0)
                                  clear hva_ hvn_ hvc_ ge443_0 ul443_0
                                  clear hcc443 hce443
                                  have HR443_0 := Aside0.mk hi443_0
                                  have HC443_0 := Aside0.mk hl443_0
                                  clear hi443_0 hl443_0
                                  replace p443 := eq_true p443
                                  replace q443 := eq_true q443
                                  have hcv67 := Kd.C_string (P := Try.prog) (A := A443_0) (c := c443_0) Try.underlying23 Try.underlying5 Try.underlying9 (by repeat (first | (with_reducible exact HR443_0.out) | (with_reducible refine Kd.C_alloc ?_ _) | (with_reducible refine Kd.C_drewN ?_ _) | (with_reducible refine Kd.C_drew ?_) | exact HR443_0.out)); have hcv67q := fun n_ => Kd.C_string (P := Try.prog) (A := A443_0) (c := c443_0) Try.underlying23 Try.underlying5 Try.underlying9 (Kd.C_drewN (by repeat (first | (with_reducible exact HR443_0.out) | (with_reducible refine Kd.C_alloc ?_ _) | (with_reducible refine Kd.C_drewN ?_ _) | (with_reducible refine Kd.C_drew ?_) | exact HR443_0.out)) n_)
                                  have p444 : 0 ≤ (x13_4 : Int) := of_decide_eq_true (by first | (with_reducible assumption) | assumption)
                                  have q444 : x13_4 < (l1.length : Int) := of_decide_eq_true (by first | (with_reducible assumption) | assumption)
                                  obtain ⟨ad444, A444_0, c444_0, e444, hx444_0, hl444_0, hi444_0⟩ := at_L1 HR1.out x13_4 p444 q444
                                  cases e444
                                  replace hx444_0 := (HB.out.cell (World.block_lt_of_cell? w _ hx444_0)).trans hx444_0
                                  have HR444_0 := Aside0.mk hi444_0
                                  have HC444_0 := Aside0.mk hl444_0
                                  clear hi444_0 hl444_0
                                  replace p444 := eq_true p444
                                  replace q444 := eq_true q444
                                  have hcv68 := Kd.C_string (P := Try.prog) (A := A444_0) (c := c444_0) Try.underlying23 Try.underlying5 Try.underlying9 (Kd.C_below HR444_0.out HB.out); have hcv68q := fun n_ => Kd.C_string (P := Try.prog) (A := A444_0) (c := c444_0) Try.underlying23 Try.underlying5 Try.underlying9 (Kd.C_drewN (Kd.C_below HR444_0.out HB.out) n_)
                                  go_wp2
                                  repeat (go_quiet (fail); try go_wp2)
                                  go_roundg k4
                                  case measure => have := HJ3.out; have := HK2.out; have := HJ27.out; have := HK4.out; omega
                                  case rel => exact ⟨(wrap64 (x13_4 + 1)), (by first | rfl | (simp; done) | (simp [*]; done)), H', ⟨by have := HJ3.out; have := HK2.out; have := HJ27.out; have := HK4.out; omega⟩, ⟨by (with_reducible repeat (first | apply Kd.N_alloc | apply Kd.N_drewN | apply Kd.N_drew)); exact HO_11.out⟩, ⟨by (with_reducible repeat (first | apply Kd.N_alloc | apply Kd.N_drewN | apply Kd.N_drew)); exact HO_12.out⟩, ⟨by (with_reducible repeat (first | apply Kd.V_alloc | apply Kd.V_drewN | apply Kd.V_drew)); exact HO_429000.out⟩, ⟨by (with_reducible repeat (first | apply Kd.V_alloc | apply Kd.V_drewN | apply Kd.V_drew)); exact HO_437000.out⟩, ⟨by (with_reducible repeat (first | refine blk_drewN ?_ _ | refine blk_drew ?_ | refine blk_alloc ?_ _)); exact BK421.out⟩, ⟨by (with_reducible repeat (first | refine blk_drewN ?_ _ | refine blk_drew ?_ | refine blk_alloc ?_ _)); exact BK428.out⟩, ⟨by (with_reducible repeat (first | refine blk_drewN ?_ _ | refine blk_drew ?_ | refine blk_alloc ?_ _)); exact BK436.out⟩, ⟨by repeat (first | (with_reducible first | exact HB.out | apply below_alloc | apply pw_below_drewN | apply below_drew1 | refine below_set ?_ GE421.out | refine below_set ?_ GE428.out | refine below_set ?_ GE436.out) | exact HB.out)⟩⟩
                                · rw [if_neg c64] at H
                                  rw [HTr_] at H
                                  exact absurd (Option.some.inj H) (by decide)
                              · rw [if_neg c63] at H
                                exact absurd H (by simp)
                            · rw [if_neg c62] at H
                              exact absurd H (by simp)
                          · rw [if_neg c61] at H
                            exact absurd H (by simp)
                        · rw [if_neg c59] at H
                          have c59b0 : decide (x13_4 < (l1.length : Int)) = false := decide_eq_false c59
                          clear c59
                          by_cases c73 : t422 = true
                          · subst c73
                            have H1 : ((wal_Check.f t431 t434).bind fun t445 => (some t445)) = some r := by rw [if_pos rfl] at H; exact H
                            clear H
                            have H := H1
                            clear H1
                            replace H := Option.bind_eq_some_iff.mp H
                            obtain ⟨t445, A740, H⟩ := H
                            replace H : (some t445) = some r := H
                            have A74 := Aside0.mk A740
                            clear A740
                            obtain rfl := Option.some.inj H
                            have hnb75 := NB436_421.out
                            have hnc75 := NB421_436.out
                            have hnb76 := NB436_428.out
                            have hnc76 := NB428_436.out
                            have hcz77_0 : wr.cell? ⟨gb436, 0, none⟩ = some (.slice Ao33 t431.length co33) := (blk_cell BK436.out 0).trans rfl
                            have hcz77_1 : wr.cell? ⟨gb436, 1, none⟩ = some (.int .i64 t434) := (blk_cell BK436.out 1).trans rfl
                            have hfz77_0 := blk_frozen BK436.out 0
                            have hfz77_1 := blk_frozen BK436.out 1
                            go_wp2_with (first | (go_at_call 18; (with_reducible refine (wal_Check.calls _ _ t431 t434 t445 _ ?side1 ?side2 A74.out).mono ?_); (case side1 => repeat (first | exact (Kd.V_reads' HO_437000.out).2.2 | (with_reducible refine Kd.C_alloc ?_ _) | (with_reducible refine Kd.C_drewN ?_ _) | (with_reducible refine Kd.C_drew ?_))); (case side2 => exact (Kd.V_reads' HO_437000.out).2.1); rintro e w78 ⟨rfl, hb⟩; have n0_ := Aside0.mk (Kd.N_below (by (with_reducible repeat (first | apply Kd.N_alloc | apply Kd.N_drewN | apply Kd.N_drew)); exact HO_11.out) hb); have n1_ := Aside0.mk (Kd.N_below (by (with_reducible repeat (first | apply Kd.N_alloc | apply Kd.N_drewN | apply Kd.N_drew)); exact HO_12.out) hb); have n2_ := Aside0.mk (Kd.V_below (by (with_reducible repeat (first | apply Kd.V_alloc | apply Kd.V_drewN | apply Kd.V_drew)); exact HO_429000.out) hb); have n3_ := Aside0.mk (Kd.V_below (by (with_reducible repeat (first | apply Kd.V_alloc | apply Kd.V_drewN | apply Kd.V_drew)); exact HO_437000.out) hb); have n4_ := Aside0.mk (blk_below (g := gb421) (o := .cells #[.slice A0_0 l0_0.length c0_0, .int .i64 a0_1] 26 (0, 0)) (by (with_reducible repeat (first | refine blk_drewN ?_ _ | refine blk_drew ?_ | refine blk_alloc ?_ _)); exact BK421.out) hb); have n5_ := Aside0.mk (blk_below (g := gb428) (o := .cells #[.slice Ao19 t424.length co19, .int .i64 t427] 26 (0, 0)) (by (with_reducible repeat (first | refine blk_drewN ?_ _ | refine blk_drew ?_ | refine blk_alloc ?_ _)); exact BK428.out) hb); have n6_ := Aside0.mk (blk_below (g := gb436) (o := .cells #[.slice Ao33 t431.length co33, .int .i64 t434] 26 (0, 0)) (by (with_reducible repeat (first | refine blk_drewN ?_ _ | refine blk_drew ?_ | refine blk_alloc ?_ _)); exact BK436.out) hb); have n7_ := Aside0.mk (below_step (by repeat (first | (with_reducible first | exact HB.out | apply below_alloc | apply pw_below_drewN | apply below_drew1 | refine below_set ?_ GE421.out | refine below_set ?_ GE428.out | refine below_set ?_ GE436.out) | exact HB.out)) hb); clear HO_11; clear HO_12; clear HO_429000; clear HO_437000; clear BK421; clear BK428; clear BK436; clear HB; have HO_11 := n0_; have HO_12 := n1_; have HO_429000 := n2_; have HO_437000 := n3_; have BK421 := n4_; have BK428 := n5_; have BK436 := n6_; have HB := n7_; clear n0_ n1_ n2_ n3_ n4_ n5_ n6_ n7_; (try clear hb); (try clear hb2); (try clear hk); (try clear hi)))
                            repeat (go_quiet (first | (go_at_call 18; (with_reducible refine (wal_Check.calls _ _ t431 t434 t445 _ ?side1 ?side2 A74.out).mono ?_); (case side1 => repeat (first | exact (Kd.V_reads' HO_437000.out).2.2 | (with_reducible refine Kd.C_alloc ?_ _) | (with_reducible refine Kd.C_drewN ?_ _) | (with_reducible refine Kd.C_drew ?_))); (case side2 => exact (Kd.V_reads' HO_437000.out).2.1); rintro e w78 ⟨rfl, hb⟩; have n0_ := Aside0.mk (Kd.N_below (by (with_reducible repeat (first | apply Kd.N_alloc | apply Kd.N_drewN | apply Kd.N_drew)); exact HO_11.out) hb); have n1_ := Aside0.mk (Kd.N_below (by (with_reducible repeat (first | apply Kd.N_alloc | apply Kd.N_drewN | apply Kd.N_drew)); exact HO_12.out) hb); have n2_ := Aside0.mk (Kd.V_below (by (with_reducible repeat (first | apply Kd.V_alloc | apply Kd.V_drewN | apply Kd.V_drew)); exact HO_429000.out) hb); have n3_ := Aside0.mk (Kd.V_below (by (with_reducible repeat (first | apply Kd.V_alloc | apply Kd.V_drewN | apply Kd.V_drew)); exact HO_437000.out) hb); have n4_ := Aside0.mk (blk_below (g := gb421) (o := .cells #[.slice A0_0 l0_0.length c0_0, .int .i64 a0_1] 26 (0, 0)) (by (with_reducible repeat (first | refine blk_drewN ?_ _ | refine blk_drew ?_ | refine blk_alloc ?_ _)); exact BK421.out) hb); have n5_ := Aside0.mk (blk_below (g := gb428) (o := .cells #[.slice Ao19 t424.length co19, .int .i64 t427] 26 (0, 0)) (by (with_reducible repeat (first | refine blk_drewN ?_ _ | refine blk_drew ?_ | refine blk_alloc ?_ _)); exact BK428.out) hb); have n6_ := Aside0.mk (blk_below (g := gb436) (o := .cells #[.slice Ao33 t431.length co33, .int .i64 t434] 26 (0, 0)) (by (with_reducible repeat (first | refine blk_drewN ?_ _ | refine blk_drew ?_ | refine blk_alloc ?_ _)); exact BK436.out) hb); have n7_ := Aside0.mk (below_step (by repeat (first | (with_reducible first | exact HB.out | apply below_alloc | apply pw_below_drewN | apply below_drew1 | refine below_set ?_ GE421.out | refine below_set ?_ GE428.out | refine below_set ?_ GE436.out) | exact HB.out)) hb); clear HO_11; clear HO_12; clear HO_429000; clear HO_437000; clear BK421; clear BK428; clear BK436; clear HB; have HO_11 := n0_; have HO_12 := n1_; have HO_429000 := n2_; have HO_437000 := n3_; have BK421 := n4_; have BK428 := n5_; have BK436 := n6_; have HB := n7_; clear n0_ n1_ n2_ n3_ n4_ n5_ n6_ n7_; (try clear hb); (try clear hb2); (try clear hk); (try clear hi))); try go_wp2_with (first | (go_at_call 18; (with_reducible refine (wal_Check.calls _ _ t431 t434 t445 _ ?side1 ?side2 A74.out).mono ?_); (case side1 => repeat (first | exact (Kd.V_reads' HO_437000.out).2.2 | (with_reducible refine Kd.C_alloc ?_ _) | (with_reducible refine Kd.C_drewN ?_ _) | (with_reducible refine Kd.C_drew ?_))); (case side2 => exact (Kd.V_reads' HO_437000.out).2.1); rintro e w78 ⟨rfl, hb⟩; have n0_ := Aside0.mk (Kd.N_below (by (with_reducible repeat (first | apply Kd.N_alloc | apply Kd.N_drewN | apply Kd.N_drew)); exact HO_11.out) hb); have n1_ := Aside0.mk (Kd.N_below (by (with_reducible repeat (first | apply Kd.N_alloc | apply Kd.N_drewN | apply Kd.N_drew)); exact HO_12.out) hb); have n2_ := Aside0.mk (Kd.V_below (by (with_reducible repeat (first | apply Kd.V_alloc | apply Kd.V_drewN | apply Kd.V_drew)); exact HO_429000.out) hb); have n3_ := Aside0.mk (Kd.V_below (by (with_reducible repeat (first | apply Kd.V_alloc | apply Kd.V_drewN | apply Kd.V_drew)); exact HO_437000.out) hb); have n4_ := Aside0.mk (blk_below (g := gb421) (o := .cells #[.slice A0_0 l0_0.length c0_0, .int .i64 a0_1] 26 (0, 0)) (by (with_reducible repeat (first | refine blk_drewN ?_ _ | refine blk_drew ?_ | refine blk_alloc ?_ _)); exact BK421.out) hb); have n5_ := Aside0.mk (blk_below (g := gb428) (o := .cells #[.slice Ao19 t424.length co19, .int .i64 t427] 26 (0, 0)) (by (with_reducible repeat (first | refine blk_drewN ?_ _ | refine blk_drew ?_ | refine blk_alloc ?_ _)); exact BK428.out) hb); have n6_ := Aside0.mk (blk_below (g := gb436) (o := .cells #[.slice Ao33 t431.length co33, .int .i64 t434] 26 (0, 0)) (by (with_reducible repeat (first | refine blk_drewN ?_ _ | refine blk_drew ?_ | refine blk_alloc ?_ _)); exact BK436.out) hb); have n7_ := Aside0.mk (below_step (by repeat (first | (with_reducible first | exact HB.out | apply below_alloc | apply pw_below_drewN | apply below_drew1 | refine below_set ?_ GE421.out | refine below_set ?_ GE428.out | refine below_set ?_ GE436.out) | exact HB.out)) hb); clear HO_11; clear HO_12; clear HO_429000; clear HO_437000; clear BK421; clear BK428; clear BK436; clear HB; have HO_11 := n0_; have HO_12 := n1_; have HO_429000 := n2_; have HO_437000 := n3_; have BK421 := n4_; have BK428 := n5_; have BK436 := n6_; have HB := n7_; clear n0_ n1_ n2_ n3_ n4_ n5_ n6_ n7_; (try clear hb); (try clear hb2); (try clear hk); (try clear hi))))
                            go_ret
                            exact ⟨by first | rfl | (simp [errW_none, errW_some] <;> rfl) | (simp [*, errW_none, errW_some] <;> rfl), by repeat (first | (with_reducible first | exact HB.out | apply below_alloc | apply pw_below_drewN | apply below_drew1 | refine below_set ?_ GE421.out | refine below_set ?_ GE428.out | refine below_set ?_ GE436.out) | exact HB.out)⟩
                          · replace c73 := Bool.eq_false_iff.mpr c73
                            subst c73
                            have H1 : (some false) = some r := by rw [if_neg (show ¬ (false = true) by decide)] at H; exact H
                            rw [HTr_] at H1
                            exact absurd (Option.some.inj H1) (by decide)

/-- The law, plainly. -/
def banksmanlaw04_WalSizes.Pure : Prop := ∀ (l0_0 : List Int) (a0_1 : Int) (l1 : List (List Int)), (fun xs_ : List Int => xs_.length ≤ maxLen ∧ ∀ x ∈ xs_, (fun n_ : Int => (Lit.int .u8 n_).wf = true) x) l0_0 → (fun n_ : Int => (Lit.int .i64 n_).wf = true) a0_1 → (fun xs_ : List (List Int) => xs_.length ≤ maxLen ∧ ∀ x ∈ xs_, (fun xs_ : List Int => xs_.length ≤ maxLen ∧ ∀ x ∈ xs_, (fun n_ : Int => (Lit.int .u8 n_).wf = true) x) x) l1 → ∃ k, banksmanlaw04_WalSizes.f k l0_0 a0_1 l1 = some true

end Go.Proofs.Ytbenenpkbdldmaa.P
