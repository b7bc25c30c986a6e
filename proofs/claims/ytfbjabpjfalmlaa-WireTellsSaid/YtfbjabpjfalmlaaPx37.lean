-- Written by wip/gprint.py, a program of this session over the kit's print; Lean checks it.
import Derived.Test.YtfbjabpjfalmlaaPx0
import Derived.Test.YtfbjabpjfalmlaaPx36
namespace Go.Proofs.Ytfbjabpjfalmlaa.P
open Go.RowKit Go.Proofs.YtfbjabpjfalmlaaW.PrintWords Go.Proofs.YtfbjabpjfalmlaaW.PrintLast Go.Proofs.YtfbjabpjfalmlaaW.PrintMore
attribute [local go_sem] max2_int min2_int max_two min_two max_three min_three max_four min_four   -- for this text's walks alone
set_option linter.unusedVariables false
set_option linter.unusedSimpArgs false

/-! ### banksmanref21_May: function 23 -/
def banksmanref21_May.j0 : Nat → Int → Bool → Int → Int → List Int → List Int → Bool → List Int → Int → Option (Bool)
  | 0, _, _, _, _, _, _, _, _, _ => none
  | k + 1, x0, x20, x233000, x233001, x233002, x233003, x233004, x233005, x233006 => if x20 = true then (some false) else (if x233000 = 12 then (if x0 = 0 then (if x233001 = 0 then (if (x233002.length : Int) = 0 then (if (x233003.length : Int) = 0 then (if x233004 = true then (some false) else (some ((x233005.length : Int) == 0))) else (some false)) else (some false)) else (some false)) else (some false)) else ((banksmanref15_Check.f x233000 x233001 x233002 x233003 x233004 x233005 x233006).bind fun t233 => (some (t233 == 0))))
def banksmanref21_May.f (k : Nat) (a0 : Int) (a1_0 : Int) (a1_1 : Int) (l1_2 : List Int) (l1_3 : List Int) (a1_4 : Bool) (l1_5 : List Int) (a1_6 : Int) : Option (Bool) := if a0 < 0 then (banksmanref21_May.j0 k a0 true a1_0 a1_1 l1_2 l1_3 a1_4 l1_5 a1_6) else (if a0 > 3 then (banksmanref21_May.j0 k a0 true a1_0 a1_1 l1_2 l1_3 a1_4 l1_5 a1_6) else (if a1_6 < 0 then (banksmanref21_May.j0 k a0 true a1_0 a1_1 l1_2 l1_3 a1_4 l1_5 a1_6) else (banksmanref21_May.j0 k a0 (decide (a1_6 ≥ 2147483648)) a1_0 a1_1 l1_2 l1_3 a1_4 l1_5 a1_6)))
theorem banksmanref21_May.mono_l : ∀ k, (∀ y0 y1 y2 y3 y4 y5 y6 y7 y8, LeO (banksmanref21_May.j0 k y0 y1 y2 y3 y4 y5 y6 y7 y8) (banksmanref21_May.j0 (k + 1) y0 y1 y2 y3 y4 y5 y6 y7 y8))
  | 0 => fun _ _ _ _ _ _ _ _ _ r h => by simp [banksmanref21_May.j0] at h
  | k + 1 => by
    have ih0 := banksmanref21_May.mono_l k
    · intro y0 y1 y2 y3 y4 y5 y6 y7 y8
      unfold banksmanref21_May.j0
      repeat' first
      | (with_reducible exact ih0 _ _ _ _ _ _ _ _ _)
      | (with_reducible exact LeO.refl _)
      | (with_reducible exact LeO.none _)
      | (with_reducible refine LeO.ite ?_ ?_)
      | (with_reducible refine LeO.bind ?_ (fun _ => ?_))
      | exact ih0 _ _ _ _ _ _ _ _ _
      | exact LeO.none _
      | refine LeO.ite ?_ ?_
      | refine LeO.bind ?_ (fun _ => ?_)
theorem banksmanref21_May.mono : ∀ a0 a1 a2 a3 a4 a5 a6 a7 k, LeO (banksmanref21_May.f k a0 a1 a2 a3 a4 a5 a6 a7) (banksmanref21_May.f (k + 1) a0 a1 a2 a3 a4 a5 a6 a7) := by
  intro a0 a1 a2 a3 a4 a5 a6 a7 k
  have ih0 := banksmanref21_May.mono_l k
  unfold banksmanref21_May.f
  repeat' first
      | (with_reducible exact ih0 _ _ _ _ _ _ _ _ _)
      | (with_reducible exact LeO.refl _)
      | (with_reducible exact LeO.none _)
      | (with_reducible refine LeO.ite ?_ ?_)
      | (with_reducible refine LeO.bind ?_ (fun _ => ?_))
      | exact ih0 _ _ _ _ _ _ _ _ _
      | exact LeO.none _
      | refine LeO.ite ?_ ?_
      | refine LeO.bind ?_ (fun _ => ?_)
set_option maxHeartbeats 8000000 in
set_option maxRecDepth 100000 in
theorem banksmanref21_May.calls (k : Nat) (a0 : Int) (a1_0 : Int) (a1_1 : Int) (A1_2 : Option Addr) (c1_2 : Nat) (l1_2 : List Int) (A1_3 : Option Addr) (c1_3 : Nat) (l1_3 : List Int) (a1_4 : Bool) (A1_5 : Option Addr) (c1_5 : Nat) (l1_5 : List Int) (a1_6 : Int) (r : Bool) (w : World) (hr1_2 : Kd.C (Kd.int .u8) w A1_2 l1_2.length l1_2) (hc1_2 : l1_2.length ≤ c1_2) (hr1_3 : Kd.C (Kd.int .u8) w A1_3 l1_3.length l1_3) (hc1_3 : l1_3.length ≤ c1_3) (hr1_5 : Kd.C (Kd.int .u8) w A1_5 l1_5.length l1_5) (hc1_5 : l1_5.length ≤ c1_5) (h : banksmanref21_May.f k a0 a1_0 a1_1 l1_2 l1_3 a1_4 l1_5 a1_6 = some r) :
    Calls Try.prog 23 #[.int .i64 a0, .agg #[.int .i64 a1_0, .int .i64 a1_1, .slice A1_2 l1_2.length c1_2, .slice A1_3 l1_3.length c1_3, .bool a1_4, .slice A1_5 l1_5.length c1_5, .int .i64 a1_6]] w fun e w' => e = .returned (.bool r) ∧ Below w.heap.size w w' := by
  have hu24 := Try.underlying24
  have HR1_2 := Aside0.mk hr1_2
  have HC1_2 := Aside0.mk hc1_2
  clear hr1_2 hc1_2
  have HR1_3 := Aside0.mk hr1_3
  have HC1_3 := Aside0.mk hc1_3
  clear hr1_3 hc1_3
  have HR1_5 := Aside0.mk hr1_5
  have HC1_5 := Aside0.mk hc1_5
  clear hr1_5 hc1_5
  have HB := Aside0.mk (Below.refl w.heap.size w)
  have H : (if a0 < 0 then (banksmanref21_May.j0 k a0 true a1_0 a1_1 l1_2 l1_3 a1_4 l1_5 a1_6) else (if a0 > 3 then (banksmanref21_May.j0 k a0 true a1_0 a1_1 l1_2 l1_3 a1_4 l1_5 a1_6) else (if a1_6 < 0 then (banksmanref21_May.j0 k a0 true a1_0 a1_1 l1_2 l1_3 a1_4 l1_5 a1_6) else (banksmanref21_May.j0 k a0 (decide (a1_6 ≥ 2147483648)) a1_0 a1_1 l1_2 l1_3 a1_4 l1_5 a1_6)))) = some r := h
  clear h
  have HC3 := Aside0.mk H
  clear H
  go_enter Try.func23, Try.ntmps23
  go_upto_region 1 with (first | ((with_reducible refine gate_dst (N := 3) rfl ?_); (try (refine gate_guard (by rfl) ?_; dsimp only)); refine box_event ?hg (N := 3) ?hd (cs := #[.int .i64 a1_0, .int .i64 a1_1, .slice A1_2 l1_2.length c1_2, .slice A1_3 l1_3.length c1_3, .bool a1_4, .slice A1_5 l1_5.length c1_5, .int .i64 a1_6]) (t := 24) ?hr ?_; (case hd => rfl); (case hg => rfl); (case hr => first | (go_simp; done) | (go_simp; rfl)); intro gb232 hg w4 hbox hb; have n0_ := Aside0.mk (below_step (by repeat (first | (with_reducible first | exact HB.out | apply below_alloc | apply pw_below_drewN | apply below_drew1) | exact HB.out)) hb); have n1_ := Aside0.mk (hbox); have n2_ := Aside0.mk ((by rw [hg]; exact (below_size (by repeat (first | (with_reducible first | exact HB.out | apply below_alloc | apply pw_below_drewN | apply below_drew1) | exact HB.out))) : w.heap.size ≤ gb232)); have n3_ := Aside0.mk ((by rw [hg]; exact (below_size (by repeat (first | (with_reducible first | exact HB.out | apply below_alloc | apply pw_below_drewN | apply below_drew1) | exact HB.out))) : w.heap.size ≤ gb232)); clear HB; have HB := n0_; have BK232 := n1_; have GW232 := n2_; have GE232 := n3_; clear n0_ n1_ n2_ n3_; clear hb hbox hg))
  (try simp only [Act.put, List.setIfInBounds_toArray, List.set_cons_zero, List.set_cons_succ])
  go_cut [20] (fun v20 wc => ∃ (kq : Nat) (x20_2 : Bool), v20 = .bool x20_2 ∧ Aside0 (banksmanref21_May.j0 kq a0 x20_2 a1_0 a1_1 l1_2 l1_3 a1_4 l1_5 a1_6 = some r) ∧ Aside0 (kq ≤ k) ∧ Aside0 (wc.heap[gb232]? = some (.cells #[.int .i64 a1_0, .int .i64 a1_1, (.slice A1_2 l1_2.length c1_2), (.slice A1_3 l1_3.length c1_3), .bool a1_4, (.slice A1_5 l1_5.length c1_5), .int .i64 a1_6] 24 (0, 0))) ∧ Aside0 (Below w.heap.size w wc))
  case first =>
    have H := HC3.out
    clear HC3
    by_cases c5 : a0 < 0
    · rw [if_pos c5] at H
      have c5b0 : decide (a0 < 0) = true := decide_eq_true c5
      clear c5
      (first | rw [c5b0] | (simp only [i64_w, i32_w]; rw [c5b0]) | skip)
      have H' := Aside0.mk H
      clear H
      go_wp2
      go_meet
      case rel => exact ⟨_, (true), (by first | rfl | (simp; done) | (simp [*]; done)), H', ⟨by first | omega | exact Nat.le_refl _⟩, ⟨by (with_reducible repeat (first | refine blk_drewN ?_ _ | refine blk_drew ?_ | refine blk_alloc ?_ _)); exact BK232.out⟩, ⟨by repeat (first | (with_reducible first | exact HB.out | apply below_alloc | apply pw_below_drewN | apply below_drew1 | refine below_set ?_ GE232.out) | exact HB.out)⟩⟩
    · rw [if_neg c5] at H
      have c5b0 : decide (a0 < 0) = false := decide_eq_false c5
      clear c5
      (first | rw [c5b0] | (simp only [i64_w, i32_w]; rw [c5b0]) | skip)
      by_cases c6 : a0 > 3
      · rw [if_pos c6] at H
        have c6b0 : decide (3 < a0) = true := decide_eq_true c6
        clear c6
        have H' := Aside0.mk H
        clear H
        go_wp2
        go_meet
        case rel => exact ⟨_, (true), (by first | rfl | (simp; done) | (simp [*]; done)), H', ⟨by first | omega | exact Nat.le_refl _⟩, ⟨by (with_reducible repeat (first | refine blk_drewN ?_ _ | refine blk_drew ?_ | refine blk_alloc ?_ _)); exact BK232.out⟩, ⟨by repeat (first | (with_reducible first | exact HB.out | apply below_alloc | apply pw_below_drewN | apply below_drew1 | refine below_set ?_ GE232.out) | exact HB.out)⟩⟩
      · rw [if_neg c6] at H
        have c6b0 : decide (3 < a0) = false := decide_eq_false c6
        clear c6
        by_cases c7 : a1_6 < 0
        · rw [if_pos c7] at H
          have c7b0 : decide (a1_6 < 0) = true := decide_eq_true c7
          clear c7
          have H' := Aside0.mk H
          clear H
          have hcz8_0 : w4.cell? ⟨gb232, 0, none⟩ = some (.int .i64 a1_0) := (blk_cell BK232.out 0).trans rfl
          have hcz8_1 : w4.cell? ⟨gb232, 1, none⟩ = some (.int .i64 a1_1) := (blk_cell BK232.out 1).trans rfl
          have hcz8_2 : w4.cell? ⟨gb232, 2, none⟩ = some (.slice A1_2 l1_2.length c1_2) := (blk_cell BK232.out 2).trans rfl
          have hcz8_3 : w4.cell? ⟨gb232, 3, none⟩ = some (.slice A1_3 l1_3.length c1_3) := (blk_cell BK232.out 3).trans rfl
          have hcz8_4 : w4.cell? ⟨gb232, 4, none⟩ = some (.bool a1_4) := (blk_cell BK232.out 4).trans rfl
          have hcz8_5 : w4.cell? ⟨gb232, 5, none⟩ = some (.slice A1_5 l1_5.length c1_5) := (blk_cell BK232.out 5).trans rfl
          have hcz8_6 : w4.cell? ⟨gb232, 6, none⟩ = some (.int .i64 a1_6) := (blk_cell BK232.out 6).trans rfl
          have hfz8_0 := blk_frozen BK232.out 0
          have hfz8_1 := blk_frozen BK232.out 1
          have hfz8_2 := blk_frozen BK232.out 2
          have hfz8_3 := blk_frozen BK232.out 3
          have hfz8_4 := blk_frozen BK232.out 4
          have hfz8_5 := blk_frozen BK232.out 5
          have hfz8_6 := blk_frozen BK232.out 6
          go_wp2
          go_meet
          case rel => exact ⟨_, (true), (by first | rfl | (simp; done) | (simp [*]; done)), H', ⟨by first | omega | exact Nat.le_refl _⟩, ⟨by (with_reducible repeat (first | refine blk_drewN ?_ _ | refine blk_drew ?_ | refine blk_alloc ?_ _)); exact BK232.out⟩, ⟨by repeat (first | (with_reducible first | exact HB.out | apply below_alloc | apply pw_below_drewN | apply below_drew1 | refine below_set ?_ GE232.out) | exact HB.out)⟩⟩
        · rw [if_neg c7] at H
          have c7b0 : decide (a1_6 < 0) = false := decide_eq_false c7
          clear c7
          have H' := Aside0.mk H
          clear H
          have hcz9_0 : w4.cell? ⟨gb232, 0, none⟩ = some (.int .i64 a1_0) := (blk_cell BK232.out 0).trans rfl
          have hcz9_1 : w4.cell? ⟨gb232, 1, none⟩ = some (.int .i64 a1_1) := (blk_cell BK232.out 1).trans rfl
          have hcz9_2 : w4.cell? ⟨gb232, 2, none⟩ = some (.slice A1_2 l1_2.length c1_2) := (blk_cell BK232.out 2).trans rfl
          have hcz9_3 : w4.cell? ⟨gb232, 3, none⟩ = some (.slice A1_3 l1_3.length c1_3) := (blk_cell BK232.out 3).trans rfl
          have hcz9_4 : w4.cell? ⟨gb232, 4, none⟩ = some (.bool a1_4) := (blk_cell BK232.out 4).trans rfl
          have hcz9_5 : w4.cell? ⟨gb232, 5, none⟩ = some (.slice A1_5 l1_5.length c1_5) := (blk_cell BK232.out 5).trans rfl
          have hcz9_6 : w4.cell? ⟨gb232, 6, none⟩ = some (.int .i64 a1_6) := (blk_cell BK232.out 6).trans rfl
          have hfz9_0 := blk_frozen BK232.out 0
          have hfz9_1 := blk_frozen BK232.out 1
          have hfz9_2 := blk_frozen BK232.out 2
          have hfz9_3 := blk_frozen BK232.out 3
          have hfz9_4 := blk_frozen BK232.out 4
          have hfz9_5 := blk_frozen BK232.out 5
          have hfz9_6 := blk_frozen BK232.out 6
          go_wp2
          go_meet
          case rel => exact ⟨_, (decide (a1_6 ≥ 2147483648)), (by first | rfl | (simp; done) | (simp [*]; done)), H', ⟨by first | omega | exact Nat.le_refl _⟩, ⟨by (with_reducible repeat (first | refine blk_drewN ?_ _ | refine blk_drew ?_ | refine blk_alloc ?_ _)); exact BK232.out⟩, ⟨by repeat (first | (with_reducible first | exact HB.out | apply below_alloc | apply pw_below_drewN | apply below_drew1 | refine below_set ?_ GE232.out) | exact HB.out)⟩⟩
  case rest =>
    clear HC3
    try clear c1
    try clear c2
    try clear p2
    try clear c5
    try clear c5b0
    try clear c6
    try clear c6b0
    try clear c7
    try clear c7b0
    try clear hcz8_0
    try clear hcz8_1
    try clear hcz8_2
    try clear hcz8_3
    try clear hcz8_4
    try clear hcz8_5
    try clear hcz8_6
    try clear hcz9_0
    try clear hcz9_1
    try clear hcz9_2
    try clear hcz9_3
    try clear hcz9_4
    try clear hcz9_5
    try clear hcz9_6
    try clear hfz8_0
    try clear hfz8_1
    try clear hfz8_2
    try clear hfz8_3
    try clear hfz8_4
    try clear hfz8_5
    try clear hfz8_6
    try clear hfz9_0
    try clear hfz9_1
    try clear hfz9_2
    try clear hfz9_3
    try clear hfz9_4
    try clear hfz9_5
    try clear hfz9_6
    obtain ⟨kq, x20_2, rfl, HA, HJ2, BK232, HB⟩ := hcut
    cases kq with
    | zero => exact absurd HA.out (by simp [banksmanref21_May.j0])
    | succ kj2 =>
      have H := HA.out
      clear HA
      simp only [banksmanref21_May.j0] at H
      by_cases c10 : x20_2 = true
      · subst c10
        have H1 : (some false) = some r := by rw [if_pos rfl] at H; exact H
        clear H
        have H := H1
        clear H1
        obtain rfl := Option.some.inj H
        go_wp2
        go_ret
        exact ⟨by first | rfl | (simp [errW_none, errW_some] <;> rfl) | (simp [*, errW_none, errW_some] <;> rfl), by repeat (first | (with_reducible first | exact HB.out | apply below_alloc | apply pw_below_drewN | apply below_drew1 | refine below_set ?_ GE232.out) | exact HB.out)⟩
      · replace c10 := Bool.eq_false_iff.mpr c10
        subst c10
        have H1 : (if a1_0 = 12 then (if a0 = 0 then (if a1_1 = 0 then (if (l1_2.length : Int) = 0 then (if (l1_3.length : Int) = 0 then (if a1_4 = true then (some false) else (some ((l1_5.length : Int) == 0))) else (some false)) else (some false)) else (some false)) else (some false)) else ((banksmanref15_Check.f a1_0 a1_1 l1_2 l1_3 a1_4 l1_5 a1_6).bind fun t233 => (some (t233 == 0)))) = some r := by rw [if_neg (show ¬ (false = true) by decide)] at H; exact H
        clear H
        have H := H1
        clear H1
        by_cases c11 : a1_0 = 12
        · rw [if_pos c11] at H
          have c11b0 : (a1_0 == 12) = true := beq_iff_eq.mpr c11
          have c11b1 : (a1_0 != 12) = false := bne_eq_false_iff_eq.mpr c11
          clear c11
          by_cases c12 : a0 = 0
          · rw [if_pos c12] at H
            have c12b0 : (a0 == 0) = true := beq_iff_eq.mpr c12
            have c12b1 : (a0 != 0) = false := bne_eq_false_iff_eq.mpr c12
            clear c12
            by_cases c13 : a1_1 = 0
            · rw [if_pos c13] at H
              have c13b0 : (a1_1 == 0) = true := beq_iff_eq.mpr c13
              have c13b1 : (a1_1 != 0) = false := bne_eq_false_iff_eq.mpr c13
              clear c13
              by_cases c14 : (l1_2.length : Int) = 0
              · rw [if_pos c14] at H
                have c14b0 : ((l1_2.length : Int) == 0) = true := beq_iff_eq.mpr c14
                have c14b1 : ((l1_2.length : Int) != 0) = false := bne_eq_false_iff_eq.mpr c14
                clear c14
                by_cases c15 : (l1_3.length : Int) = 0
                · rw [if_pos c15] at H
                  have c15b0 : ((l1_3.length : Int) == 0) = true := beq_iff_eq.mpr c15
                  have c15b1 : ((l1_3.length : Int) != 0) = false := bne_eq_false_iff_eq.mpr c15
                  clear c15
                  by_cases c16 : a1_4 = true
                  · subst c16
                    have H1 : (some false) = some r := by rw [if_pos rfl] at H; exact H
                    clear H
                    have H := H1
                    clear H1
                    obtain rfl := Option.some.inj H
                    have hcz17_0 : wc.cell? ⟨gb232, 0, none⟩ = some (.int .i64 a1_0) := (blk_cell BK232.out 0).trans rfl
                    have hcz17_1 : wc.cell? ⟨gb232, 1, none⟩ = some (.int .i64 a1_1) := (blk_cell BK232.out 1).trans rfl
                    have hcz17_2 : wc.cell? ⟨gb232, 2, none⟩ = some (.slice A1_2 l1_2.length c1_2) := (blk_cell BK232.out 2).trans rfl
                    have hcz17_3 : wc.cell? ⟨gb232, 3, none⟩ = some (.slice A1_3 l1_3.length c1_3) := (blk_cell BK232.out 3).trans rfl
                    have hcz17_4 : wc.cell? ⟨gb232, 4, none⟩ = some (.bool true) := (blk_cell BK232.out 4).trans rfl
                    have hcz17_5 : wc.cell? ⟨gb232, 5, none⟩ = some (.slice A1_5 l1_5.length c1_5) := (blk_cell BK232.out 5).trans rfl
                    have hcz17_6 : wc.cell? ⟨gb232, 6, none⟩ = some (.int .i64 a1_6) := (blk_cell BK232.out 6).trans rfl
                    have hfz17_0 := blk_frozen BK232.out 0
                    have hfz17_1 := blk_frozen BK232.out 1
                    have hfz17_2 := blk_frozen BK232.out 2
                    have hfz17_3 := blk_frozen BK232.out 3
                    have hfz17_4 := blk_frozen BK232.out 4
                    have hfz17_5 := blk_frozen BK232.out 5
                    have hfz17_6 := blk_frozen BK232.out 6
                    go_wp2
                    go_ret
                    exact ⟨by first | rfl | (simp [errW_none, errW_some] <;> rfl) | (simp [*, errW_none, errW_some] <;> rfl), by repeat (first | (with_reducible first | exact HB.out | apply below_alloc | apply pw_below_drewN | apply below_drew1 | refine below_set ?_ GE232.out) | exact HB.out)⟩
                  · replace c16 := Bool.eq_false_iff.mpr c16
                    subst c16
                    have H1 : (some ((l1_5.length : Int) == 0)) = some r := by rw [if_neg (show ¬ (false = true) by decide)] at H; exact H
                    clear H
                    have H := H1
                    clear H1
                    obtain rfl := Option.some.inj H
                    have hcz18_0 : wc.cell? ⟨gb232, 0, none⟩ = some (.int .i64 a1_0) := (blk_cell BK232.out 0).trans rfl
                    have hcz18_1 : wc.cell? ⟨gb232, 1, none⟩ = some (.int .i64 a1_1) := (blk_cell BK232.out 1).trans rfl
                    have hcz18_2 : wc.cell? ⟨gb232, 2, none⟩ = some (.slice A1_2 l1_2.length c1_2) := (blk_cell BK232.out 2).trans rfl
                    have hcz18_3 : wc.cell? ⟨gb232, 3, none⟩ = some (.slice A1_3 l1_3.length c1_3) := (blk_cell BK232.out 3).trans rfl
                    have hcz18_4 : wc.cell? ⟨gb232, 4, none⟩ = some (.bool false) := (blk_cell BK232.out 4).trans rfl
                    have hcz18_5 : wc.cell? ⟨gb232, 5, none⟩ = some (.slice A1_5 l1_5.length c1_5) := (blk_cell BK232.out 5).trans rfl
                    have hcz18_6 : wc.cell? ⟨gb232, 6, none⟩ = some (.int .i64 a1_6) := (blk_cell BK232.out 6).trans rfl
                    have hfz18_0 := blk_frozen BK232.out 0
                    have hfz18_1 := blk_frozen BK232.out 1
                    have hfz18_2 := blk_frozen BK232.out 2
                    have hfz18_3 := blk_frozen BK232.out 3
                    have hfz18_4 := blk_frozen BK232.out 4
                    have hfz18_5 := blk_frozen BK232.out 5
                    have hfz18_6 := blk_frozen BK232.out 6
                    go_wp2
                    go_ret
                    exact ⟨by first | rfl | (simp [errW_none, errW_some] <;> rfl) | (simp [*, errW_none, errW_some] <;> rfl), by repeat (first | (with_reducible first | exact HB.out | apply below_alloc | apply pw_below_drewN | apply below_drew1 | refine below_set ?_ GE232.out) | exact HB.out)⟩
                · rw [if_neg c15] at H
                  have c15b0 : ((l1_3.length : Int) == 0) = false := beq_eq_false_iff_ne.mpr c15
                  have c15b1 : ((l1_3.length : Int) != 0) = true := bne_iff_ne.mpr c15
                  have c15b2 : ¬ (l1_3 = []) := fun h_ => c15 (by rw [h_]; rfl)
                  obtain rfl := Option.some.inj H
                  have hcz19_0 : wc.cell? ⟨gb232, 0, none⟩ = some (.int .i64 a1_0) := (blk_cell BK232.out 0).trans rfl
                  have hcz19_1 : wc.cell? ⟨gb232, 1, none⟩ = some (.int .i64 a1_1) := (blk_cell BK232.out 1).trans rfl
                  have hcz19_2 : wc.cell? ⟨gb232, 2, none⟩ = some (.slice A1_2 l1_2.length c1_2) := (blk_cell BK232.out 2).trans rfl
                  have hcz19_3 : wc.cell? ⟨gb232, 3, none⟩ = some (.slice A1_3 l1_3.length c1_3) := (blk_cell BK232.out 3).trans rfl
                  have hcz19_4 : wc.cell? ⟨gb232, 4, none⟩ = some (.bool a1_4) := (blk_cell BK232.out 4).trans rfl
                  have hcz19_5 : wc.cell? ⟨gb232, 5, none⟩ = some (.slice A1_5 l1_5.length c1_5) := (blk_cell BK232.out 5).trans rfl
                  have hcz19_6 : wc.cell? ⟨gb232, 6, none⟩ = some (.int .i64 a1_6) := (blk_cell BK232.out 6).trans rfl
                  have hfz19_0 := blk_frozen BK232.out 0
                  have hfz19_1 := blk_frozen BK232.out 1
                  have hfz19_2 := blk_frozen BK232.out 2
                  have hfz19_3 := blk_frozen BK232.out 3
                  have hfz19_4 := blk_frozen BK232.out 4
                  have hfz19_5 := blk_frozen BK232.out 5
                  have hfz19_6 := blk_frozen BK232.out 6
                  go_wp2
                  go_ret
                  exact ⟨by first | rfl | (simp [errW_none, errW_some] <;> rfl) | (simp [*, errW_none, errW_some] <;> rfl), by repeat (first | (with_reducible first | exact HB.out | apply below_alloc | apply pw_below_drewN | apply below_drew1 | refine below_set ?_ GE232.out) | exact HB.out)⟩
              · rw [if_neg c14] at H
                have c14b0 : ((l1_2.length : Int) == 0) = false := beq_eq_false_iff_ne.mpr c14
                have c14b1 : ((l1_2.length : Int) != 0) = true := bne_iff_ne.mpr c14
                have c14b2 : ¬ (l1_2 = []) := fun h_ => c14 (by rw [h_]; rfl)
                obtain rfl := Option.some.inj H
                have hcz20_0 : wc.cell? ⟨gb232, 0, none⟩ = some (.int .i64 a1_0) := (blk_cell BK232.out 0).trans rfl
                have hcz20_1 : wc.cell? ⟨gb232, 1, none⟩ = some (.int .i64 a1_1) := (blk_cell BK232.out 1).trans rfl
                have hcz20_2 : wc.cell? ⟨gb232, 2, none⟩ = some (.slice A1_2 l1_2.length c1_2) := (blk_cell BK232.out 2).trans rfl
                have hcz20_3 : wc.cell? ⟨gb232, 3, none⟩ = some (.slice A1_3 l1_3.length c1_3) := (blk_cell BK232.out 3).trans rfl
                have hcz20_4 : wc.cell? ⟨gb232, 4, none⟩ = some (.bool a1_4) := (blk_cell BK232.out 4).trans rfl
                have hcz20_5 : wc.cell? ⟨gb232, 5, none⟩ = some (.slice A1_5 l1_5.length c1_5) := (blk_cell BK232.out 5).trans rfl
                have hcz20_6 : wc.cell? ⟨gb232, 6, none⟩ = some (.int .i64 a1_6) := (blk_cell BK232.out 6).trans rfl
                have hfz20_0 := blk_frozen BK232.out 0
                have hfz20_1 := blk_frozen BK232.out 1
                have hfz20_2 := blk_frozen BK232.out 2
                have hfz20_3 := blk_frozen BK232.out 3
                have hfz20_4 := blk_frozen BK232.out 4
                have hfz20_5 := blk_frozen BK232.out 5
                have hfz20_6 := blk_frozen BK232.out 6
                go_wp2
                go_ret
                exact ⟨by first | rfl | (simp [errW_none, errW_some] <;> rfl) | (simp [*, errW_none, errW_some] <;> rfl), by repeat (first | (with_reducible first | exact HB.out | apply below_alloc | apply pw_below_drewN | apply below_drew1 | refine below_set ?_ GE232.out) | exact HB.out)⟩
            · rw [if_neg c13] at H
              have c13b0 : (a1_1 == 0) = false := beq_eq_false_iff_ne.mpr c13
              have c13b1 : (a1_1 != 0) = true := bne_iff_ne.mpr c13
              obtain rfl := Option.some.inj H
              have hcz21_0 : wc.cell? ⟨gb232, 0, none⟩ = some (.int .i64 a1_0) := (blk_cell BK232.out 0).trans rfl
              have hcz21_1 : wc.cell? ⟨gb232, 1, none⟩ = some (.int .i64 a1_1) := (blk_cell BK232.out 1).trans rfl
              have hcz21_2 : wc.cell? ⟨gb232, 2, none⟩ = some (.slice A1_2 l1_2.length c1_2) := (blk_cell BK232.out 2).trans rfl
              have hcz21_3 : wc.cell? ⟨gb232, 3, none⟩ = some (.slice A1_3 l1_3.length c1_3) := (blk_cell BK232.out 3).trans rfl
              have hcz21_4 : wc.cell? ⟨gb232, 4, none⟩ = some (.bool a1_4) := (blk_cell BK232.out 4).trans rfl
              have hcz21_5 : wc.cell? ⟨gb232, 5, none⟩ = some (.slice A1_5 l1_5.length c1_5) := (blk_cell BK232.out 5).trans rfl
              have hcz21_6 : wc.cell? ⟨gb232, 6, none⟩ = some (.int .i64 a1_6) := (blk_cell BK232.out 6).trans rfl
              have hfz21_0 := blk_frozen BK232.out 0
              have hfz21_1 := blk_frozen BK232.out 1
              have hfz21_2 := blk_frozen BK232.out 2
              have hfz21_3 := blk_frozen BK232.out 3
              have hfz21_4 := blk_frozen BK232.out 4
              have hfz21_5 := blk_frozen BK232.out 5
              have hfz21_6 := blk_frozen BK232.out 6
              go_wp2
              go_ret
              exact ⟨by first | rfl | (simp [errW_none, errW_some] <;> rfl) | (simp [*, errW_none, errW_some] <;> rfl), by repeat (first | (with_reducible first | exact HB.out | apply below_alloc | apply pw_below_drewN | apply below_drew1 | refine below_set ?_ GE232.out) | exact HB.out)⟩
          · rw [if_neg c12] at H
            have c12b0 : (a0 == 0) = false := beq_eq_false_iff_ne.mpr c12
            have c12b1 : (a0 != 0) = true := bne_iff_ne.mpr c12
            obtain rfl := Option.some.inj H
            have hcz22_0 : wc.cell? ⟨gb232, 0, none⟩ = some (.int .i64 a1_0) := (blk_cell BK232.out 0).trans rfl
            have hcz22_1 : wc.cell? ⟨gb232, 1, none⟩ = some (.int .i64 a1_1) := (blk_cell BK232.out 1).trans rfl
            have hcz22_2 : wc.cell? ⟨gb232, 2, none⟩ = some (.slice A1_2 l1_2.length c1_2) := (blk_cell BK232.out 2).trans rfl
            have hcz22_3 : wc.cell? ⟨gb232, 3, none⟩ = some (.slice A1_3 l1_3.length c1_3) := (blk_cell BK232.out 3).trans rfl
            have hcz22_4 : wc.cell? ⟨gb232, 4, none⟩ = some (.bool a1_4) := (blk_cell BK232.out 4).trans rfl
            have hcz22_5 : wc.cell? ⟨gb232, 5, none⟩ = some (.slice A1_5 l1_5.length c1_5) := (blk_cell BK232.out 5).trans rfl
            have hcz22_6 : wc.cell? ⟨gb232, 6, none⟩ = some (.int .i64 a1_6) := (blk_cell BK232.out 6).trans rfl
            have hfz22_0 := blk_frozen BK232.out 0
            have hfz22_1 := blk_frozen BK232.out 1
            have hfz22_2 := blk_frozen BK232.out 2
            have hfz22_3 := blk_frozen BK232.out 3
            have hfz22_4 := blk_frozen BK232.out 4
            have hfz22_5 := blk_frozen BK232.out 5
            have hfz22_6 := blk_frozen BK232.out 6
            go_wp2
            go_ret
            exact ⟨by first | rfl | (simp [errW_none, errW_some] <;> rfl) | (simp [*, errW_none, errW_some] <;> rfl), by repeat (first | (with_reducible first | exact HB.out | apply below_alloc | apply pw_below_drewN | apply below_drew1 | refine below_set ?_ GE232.out) | exact HB.out)⟩
        · rw [if_neg c11] at H
          have c11b0 : (a1_0 == 12) = false := beq_eq_false_iff_ne.mpr c11
          have c11b1 : (a1_0 != 12) = true := bne_iff_ne.mpr c11
          replace H := Option.bind_eq_some_iff.mp H
          obtain ⟨t233, A230, H⟩ := H
          replace H : (some (t233 == 0)) = some r := H
          have A23 := Aside0.mk A230
          clear A230
          obtain rfl := Option.some.inj H
          have hcz24_0 : wc.cell? ⟨gb232, 0, none⟩ = some (.int .i64 a1_0) := (blk_cell BK232.out 0).trans rfl
          have hcz24_1 : wc.cell? ⟨gb232, 1, none⟩ = some (.int .i64 a1_1) := (blk_cell BK232.out 1).trans rfl
          have hcz24_2 : wc.cell? ⟨gb232, 2, none⟩ = some (.slice A1_2 l1_2.length c1_2) := (blk_cell BK232.out 2).trans rfl
          have hcz24_3 : wc.cell? ⟨gb232, 3, none⟩ = some (.slice A1_3 l1_3.length c1_3) := (blk_cell BK232.out 3).trans rfl
          have hcz24_4 : wc.cell? ⟨gb232, 4, none⟩ = some (.bool a1_4) := (blk_cell BK232.out 4).trans rfl
          have hcz24_5 : wc.cell? ⟨gb232, 5, none⟩ = some (.slice A1_5 l1_5.length c1_5) := (blk_cell BK232.out 5).trans rfl
          have hcz24_6 : wc.cell? ⟨gb232, 6, none⟩ = some (.int .i64 a1_6) := (blk_cell BK232.out 6).trans rfl
          have hfz24_0 := blk_frozen BK232.out 0
          have hfz24_1 := blk_frozen BK232.out 1
          have hfz24_2 := blk_frozen BK232.out 2
          have hfz24_3 := blk_frozen BK232.out 3
          have hfz24_4 := blk_frozen BK232.out 4
          have hfz24_5 := blk_frozen BK232.out 5
          have hfz24_6 := blk_frozen BK232.out 6
          go_wp2_with (first | ((with_reducible refine gate_callee (f := 40) rfl ?_); refine goesL_ (some 55) rfl rfl Try.func40 (by kernel_rfl) rfl #[.agg #[.int .i64 a1_0, .int .i64 a1_1, .slice A1_2 l1_2.length c1_2, .slice A1_3 l1_3.length c1_3, .bool a1_4, .slice A1_5 l1_5.length c1_5, .int .i64 a1_6]] rfl (by (try simp only [List.map_toArray, List.map_cons, List.map_nil]); first | done | rfl | (simp only [List.length_drop, List.length_take]; rfl)) ?_; (with_reducible refine (banksmanref15_Check.calls a1_0 a1_1 _ _ l1_2 _ _ l1_3 a1_4 _ _ l1_5 a1_6 t233 _ ?side1 ?side2 ?side3 ?side4 ?side5 ?side6 A23.out).mono ?_); (case side1 => repeat (first | exact (Kd.C_below HR1_2.out HB.out) | (with_reducible refine Kd.C_alloc ?_ _) | (with_reducible refine Kd.C_drewN ?_ _) | (with_reducible refine Kd.C_drew ?_))); (case side2 => exact HC1_2.out); (case side3 => repeat (first | exact (Kd.C_below HR1_3.out HB.out) | (with_reducible refine Kd.C_alloc ?_ _) | (with_reducible refine Kd.C_drewN ?_ _) | (with_reducible refine Kd.C_drew ?_))); (case side4 => exact HC1_3.out); (case side5 => repeat (first | exact (Kd.C_below HR1_5.out HB.out) | (with_reducible refine Kd.C_alloc ?_ _) | (with_reducible refine Kd.C_drewN ?_ _) | (with_reducible refine Kd.C_drew ?_))); (case side6 => exact HC1_5.out); rintro e w25 ⟨rfl, hb⟩; refine ⟨_, rfl, ?_⟩; have n0_ := Aside0.mk (blk_below (g := gb232) (o := .cells #[.int .i64 a1_0, .int .i64 a1_1, .slice A1_2 l1_2.length c1_2, .slice A1_3 l1_3.length c1_3, .bool a1_4, .slice A1_5 l1_5.length c1_5, .int .i64 a1_6] 24 (0, 0)) (by (with_reducible repeat (first | refine blk_drewN ?_ _ | refine blk_drew ?_ | refine blk_alloc ?_ _)); exact BK232.out) hb); have n1_ := Aside0.mk (below_step (by repeat (first | (with_reducible first | exact HB.out | apply below_alloc | apply pw_below_drewN | apply below_drew1 | refine below_set ?_ GE232.out) | exact HB.out)) hb); clear BK232; clear HB; have BK232 := n0_; have HB := n1_; clear n0_ n1_; (try clear hb); (try clear hb2); (try clear hk); (try clear hi)))
          go_ret
          exact ⟨by first | rfl | (simp [errW_none, errW_some] <;> rfl) | (simp [*, errW_none, errW_some] <;> rfl), by repeat (first | (with_reducible first | exact HB.out | apply below_alloc | apply pw_below_drewN | apply below_drew1 | refine below_set ?_ GE232.out) | exact HB.out)⟩

end Go.Proofs.Ytfbjabpjfalmlaa.P
