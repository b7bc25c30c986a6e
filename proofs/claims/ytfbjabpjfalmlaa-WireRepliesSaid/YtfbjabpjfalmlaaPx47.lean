import Derived.Test.YtfbjabpjfalmlaaPx0
namespace Go.Proofs.Ytfbjabpjfalmlaa.P
open Go.RowKit Go.Proofs.YtfbjabpjfalmlaaW.PrintWords Go.Proofs.YtfbjabpjfalmlaaW.PrintLast Go.Proofs.YtfbjabpjfalmlaaW.PrintMore
attribute [local go_sem] max2_int min2_int max_two min_two max_three min_three max_four min_four
set_option linter.unusedVariables false
set_option linter.unusedSimpArgs false
mutual
def banksmanref21_Reply.j0 : Nat → Bool → Int → Bool → List Int → List (S47) → Option (Bool)
  | 0, _, _, _, _, _ => none
  | k + 1, x34, x429000, x429001, x429002, x429003 => if x34 = true then (some false) else (banksmanref21_Reply.l0 k 0 x429000 x429001 x429002 x429003)
def banksmanref21_Reply.l0 : Nat → Int → Int → Bool → List Int → List (S47) → Option (Bool)
  | 0, _, _, _, _, _ => none
  | k + 1, x3, x429000, x429001, x429002, x429003 => if x3 < (x429003.length : Int) then (if 0 ≤ x3 then (if (((rd_T47 x429003 x3).f0).length : Int) > 16 then (some false) else (if (((rd_T47 x429003 x3).f1).length : Int) > 32 then (some false) else (banksmanref21_Reply.l0 k (wrap64 (x3 + 1)) x429000 x429001 x429002 x429003))) else (none)) else (some true)
end
def banksmanref21_Reply.f (k : Nat) (a0_0 : Int) (a0_1 : Bool) (l0_2 : List Int) (l0_3 : List (S47)) : Option (Bool) := if a0_0 < 0 then (banksmanref21_Reply.j0 k true a0_0 a0_1 l0_2 l0_3) else (if a0_0 ≥ 2147483648 then (banksmanref21_Reply.j0 k true a0_0 a0_1 l0_2 l0_3) else (if (l0_2.length : Int) > 32 then (banksmanref21_Reply.j0 k true a0_0 a0_1 l0_2 l0_3) else (if a0_1 = true then (banksmanref21_Reply.j0 k (decide ((l0_3.length : Int) > 80)) a0_0 a0_1 l0_2 l0_3) else (if (l0_2.length : Int) > 0 then (banksmanref21_Reply.j0 k true a0_0 a0_1 l0_2 l0_3) else (banksmanref21_Reply.j0 k (decide ((l0_3.length : Int) > 80)) a0_0 a0_1 l0_2 l0_3)))))
theorem banksmanref21_Reply.mono_l : ∀ k, (∀ y0 y1 y2 y3 y4, LeO (banksmanref21_Reply.j0 k y0 y1 y2 y3 y4) (banksmanref21_Reply.j0 (k + 1) y0 y1 y2 y3 y4)) ∧ (∀ y0 y1 y2 y3 y4, LeO (banksmanref21_Reply.l0 k y0 y1 y2 y3 y4) (banksmanref21_Reply.l0 (k + 1) y0 y1 y2 y3 y4))
  | 0 => ⟨fun _ _ _ _ _ r h => by simp [banksmanref21_Reply.j0] at h, fun _ _ _ _ _ r h => by simp [banksmanref21_Reply.l0] at h⟩
  | k + 1 => by
    obtain ⟨ih0, ih1⟩ := banksmanref21_Reply.mono_l k
    refine ⟨?_, ?_⟩
    · intro y0 y1 y2 y3 y4
      unfold banksmanref21_Reply.j0
      repeat' first
      | (with_reducible exact ih0 _ _ _ _ _)
      | (with_reducible exact ih1 _ _ _ _ _)
      | (with_reducible exact LeO.refl _)
      | (with_reducible exact LeO.none _)
      | (with_reducible refine LeO.ite ?_ ?_)
      | (with_reducible refine LeO.bind ?_ (fun _ => ?_))
      | exact ih0 _ _ _ _ _
      | exact ih1 _ _ _ _ _
      | exact LeO.none _
      | refine LeO.ite ?_ ?_
      | refine LeO.bind ?_ (fun _ => ?_)
    · intro y0 y1 y2 y3 y4
      unfold banksmanref21_Reply.l0
      repeat' first
      | (with_reducible exact ih0 _ _ _ _ _)
      | (with_reducible exact ih1 _ _ _ _ _)
      | (with_reducible exact LeO.refl _)
      | (with_reducible exact LeO.none _)
      | (with_reducible refine LeO.ite ?_ ?_)
      | (with_reducible refine LeO.bind ?_ (fun _ => ?_))
      | exact ih0 _ _ _ _ _
      | exact ih1 _ _ _ _ _
      | exact LeO.none _
      | refine LeO.ite ?_ ?_
      | refine LeO.bind ?_ (fun _ => ?_)
theorem banksmanref21_Reply.mono : ∀ a0 a1 a2 a3 k, LeO (banksmanref21_Reply.f k a0 a1 a2 a3) (banksmanref21_Reply.f (k + 1) a0 a1 a2 a3) := by
  intro a0 a1 a2 a3 k
  obtain ⟨ih0, ih1⟩ := banksmanref21_Reply.mono_l k
  unfold banksmanref21_Reply.f
  repeat' first
      | (with_reducible exact ih0 _ _ _ _ _)
      | (with_reducible exact ih1 _ _ _ _ _)
      | (with_reducible exact LeO.refl _)
      | (with_reducible exact LeO.none _)
      | (with_reducible refine LeO.ite ?_ ?_)
      | (with_reducible refine LeO.bind ?_ (fun _ => ?_))
      | exact ih0 _ _ _ _ _
      | exact ih1 _ _ _ _ _
      | exact LeO.none _
      | refine LeO.ite ?_ ?_
      | refine LeO.bind ?_ (fun _ => ?_)
set_option maxHeartbeats 8000000 in
set_option maxRecDepth 100000 in
theorem banksmanref21_Reply.calls (k : Nat) (a0_0 : Int) (a0_1 : Bool) (A0_2 : Option Addr) (c0_2 : Nat) (l0_2 : List Int) (A0_3 : Option Addr) (c0_3 : Nat) (l0_3 : List (S47)) (r : Bool) (w : World) (hr0_2 : Kd.C (Kd.int .u8) w A0_2 l0_2.length l0_2) (hc0_2 : l0_2.length ≤ c0_2) (hr0_3 : Kd.C k47 w A0_3 l0_3.length l0_3) (hc0_3 : l0_3.length ≤ c0_3) (h : banksmanref21_Reply.f k a0_0 a0_1 l0_2 l0_3 = some r) :
    Calls Try.prog 33 #[.agg #[.int .i64 a0_0, .bool a0_1, .slice A0_2 l0_2.length c0_2, .slice A0_3 l0_3.length c0_3]] w fun e w' => e = .returned (.bool r) ∧ Below w.heap.size w w' := by
  have hu36 := Try.underlying36
  have HR0_2 := Aside0.mk hr0_2
  have HC0_2 := Aside0.mk hc0_2
  clear hr0_2 hc0_2
  have HR0_3 := Aside0.mk hr0_3
  have HC0_3 := Aside0.mk hc0_3
  clear hr0_3 hc0_3
  have HB := Aside0.mk (Below.refl w.heap.size w)
  have H : (if a0_0 < 0 then (banksmanref21_Reply.j0 k true a0_0 a0_1 l0_2 l0_3) else (if a0_0 ≥ 2147483648 then (banksmanref21_Reply.j0 k true a0_0 a0_1 l0_2 l0_3) else (if (l0_2.length : Int) > 32 then (banksmanref21_Reply.j0 k true a0_0 a0_1 l0_2 l0_3) else (if a0_1 = true then (banksmanref21_Reply.j0 k (decide ((l0_3.length : Int) > 80)) a0_0 a0_1 l0_2 l0_3) else (if (l0_2.length : Int) > 0 then (banksmanref21_Reply.j0 k true a0_0 a0_1 l0_2 l0_3) else (banksmanref21_Reply.j0 k (decide ((l0_3.length : Int) > 80)) a0_0 a0_1 l0_2 l0_3)))))) = some r := h
  clear h
  have HC2 := Aside0.mk H
  clear H
  go_enter Try.func33, Try.ntmps33
  go_upto_region 1 with (first | ((with_reducible refine gate_dst (N := 1) rfl ?_); (try (refine gate_guard (by rfl) ?_; dsimp only)); refine box_event ?hg (N := 1) ?hd (cs := #[.int .i64 a0_0, .bool a0_1, .slice A0_2 l0_2.length c0_2, .slice A0_3 l0_3.length c0_3]) (t := 36) ?hr ?_; (case hd => rfl); (case hg => rfl); (case hr => first | (go_simp; done) | (go_simp; rfl)); intro gb428 hg w3 hbox hb; have n0_ := Aside0.mk (below_step (by repeat (first | (with_reducible first | exact HB.out | apply below_alloc | apply pw_below_drewN | apply below_drew1) | exact HB.out)) hb); have n1_ := Aside0.mk (hbox); have n2_ := Aside0.mk ((by rw [hg]; exact (below_size (by repeat (first | (with_reducible first | exact HB.out | apply below_alloc | apply pw_below_drewN | apply below_drew1) | exact HB.out))) : w.heap.size ≤ gb428)); have n3_ := Aside0.mk ((by rw [hg]; exact (below_size (by repeat (first | (with_reducible first | exact HB.out | apply below_alloc | apply pw_below_drewN | apply below_drew1) | exact HB.out))) : w.heap.size ≤ gb428)); clear HB; have HB := n0_; have BK428 := n1_; have GW428 := n2_; have GE428 := n3_; clear n0_ n1_ n2_ n3_; clear hb hbox hg))
  (try simp only [Act.put, List.setIfInBounds_toArray, List.set_cons_zero, List.set_cons_succ])
  go_cut [34] (fun v34 wc => ∃ (kq : Nat) (x34_1 : Bool), v34 = .bool x34_1 ∧ Aside0 (banksmanref21_Reply.j0 kq x34_1 a0_0 a0_1 l0_2 l0_3 = some r) ∧ Aside0 (kq ≤ k) ∧ Aside0 (wc.heap[gb428]? = some (.cells #[.int .i64 a0_0, .bool a0_1, (.slice A0_2 l0_2.length c0_2), (.slice A0_3 l0_3.length c0_3)] 36 (0, 0))) ∧ Aside0 (Below w.heap.size w wc))
  case first =>
    have H := HC2.out
    clear HC2
    by_cases c4 : a0_0 < 0
    · rw [if_pos c4] at H
      have c4b0 : decide (a0_0 < 0) = true := decide_eq_true c4
      clear c4
      (first | rw [c4b0] | (simp only [i64_w, i32_w]; rw [c4b0]) | skip)
      have H' := Aside0.mk H
      clear H
      have hcz5_0 : w3.cell? ⟨gb428, 0, none⟩ = some (.int .i64 a0_0) := (blk_cell BK428.out 0).trans rfl
      have hcz5_1 : w3.cell? ⟨gb428, 1, none⟩ = some (.bool a0_1) := (blk_cell BK428.out 1).trans rfl
      have hcz5_2 : w3.cell? ⟨gb428, 2, none⟩ = some (.slice A0_2 l0_2.length c0_2) := (blk_cell BK428.out 2).trans rfl
      have hcz5_3 : w3.cell? ⟨gb428, 3, none⟩ = some (.slice A0_3 l0_3.length c0_3) := (blk_cell BK428.out 3).trans rfl
      have hfz5_0 := blk_frozen BK428.out 0
      have hfz5_1 := blk_frozen BK428.out 1
      have hfz5_2 := blk_frozen BK428.out 2
      have hfz5_3 := blk_frozen BK428.out 3
      go_wp2
      go_meet
      case rel => exact ⟨_, (true), (by first | rfl | (simp; done) | (simp [*]; done)), H', ⟨by first | omega | exact Nat.le_refl _⟩, ⟨by (with_reducible repeat (first | refine blk_drewN ?_ _ | refine blk_drew ?_ | refine blk_alloc ?_ _)); exact BK428.out⟩, ⟨by repeat (first | (with_reducible first | exact HB.out | apply below_alloc | apply pw_below_drewN | apply below_drew1 | refine below_set ?_ GE428.out) | exact HB.out)⟩⟩
    · rw [if_neg c4] at H
      have c4b0 : decide (a0_0 < 0) = false := decide_eq_false c4
      clear c4
      (first | rw [c4b0] | (simp only [i64_w, i32_w]; rw [c4b0]) | skip)
      by_cases c6 : a0_0 ≥ 2147483648
      · rw [if_pos c6] at H
        have c6b0 : decide (2147483648 ≤ a0_0) = true := decide_eq_true c6
        clear c6
        have H' := Aside0.mk H
        clear H
        have hcz7_0 : w3.cell? ⟨gb428, 0, none⟩ = some (.int .i64 a0_0) := (blk_cell BK428.out 0).trans rfl
        have hcz7_1 : w3.cell? ⟨gb428, 1, none⟩ = some (.bool a0_1) := (blk_cell BK428.out 1).trans rfl
        have hcz7_2 : w3.cell? ⟨gb428, 2, none⟩ = some (.slice A0_2 l0_2.length c0_2) := (blk_cell BK428.out 2).trans rfl
        have hcz7_3 : w3.cell? ⟨gb428, 3, none⟩ = some (.slice A0_3 l0_3.length c0_3) := (blk_cell BK428.out 3).trans rfl
        have hfz7_0 := blk_frozen BK428.out 0
        have hfz7_1 := blk_frozen BK428.out 1
        have hfz7_2 := blk_frozen BK428.out 2
        have hfz7_3 := blk_frozen BK428.out 3
        go_wp2
        go_meet
        case rel => exact ⟨_, (true), (by first | rfl | (simp; done) | (simp [*]; done)), H', ⟨by first | omega | exact Nat.le_refl _⟩, ⟨by (with_reducible repeat (first | refine blk_drewN ?_ _ | refine blk_drew ?_ | refine blk_alloc ?_ _)); exact BK428.out⟩, ⟨by repeat (first | (with_reducible first | exact HB.out | apply below_alloc | apply pw_below_drewN | apply below_drew1 | refine below_set ?_ GE428.out) | exact HB.out)⟩⟩
      · rw [if_neg c6] at H
        have c6b0 : decide (2147483648 ≤ a0_0) = false := decide_eq_false c6
        clear c6
        by_cases c8 : (l0_2.length : Int) > 32
        · rw [if_pos c8] at H
          have c8b0 : decide (32 < (l0_2.length : Int)) = true := decide_eq_true c8
          have c8b1 : decide (32 < l0_2.length) = true := decide_eq_true (by omega)
          clear c8
          have H' := Aside0.mk H
          clear H
          have hcz9_0 : w3.cell? ⟨gb428, 0, none⟩ = some (.int .i64 a0_0) := (blk_cell BK428.out 0).trans rfl
          have hcz9_1 : w3.cell? ⟨gb428, 1, none⟩ = some (.bool a0_1) := (blk_cell BK428.out 1).trans rfl
          have hcz9_2 : w3.cell? ⟨gb428, 2, none⟩ = some (.slice A0_2 l0_2.length c0_2) := (blk_cell BK428.out 2).trans rfl
          have hcz9_3 : w3.cell? ⟨gb428, 3, none⟩ = some (.slice A0_3 l0_3.length c0_3) := (blk_cell BK428.out 3).trans rfl
          have hfz9_0 := blk_frozen BK428.out 0
          have hfz9_1 := blk_frozen BK428.out 1
          have hfz9_2 := blk_frozen BK428.out 2
          have hfz9_3 := blk_frozen BK428.out 3
          go_wp2
          go_meet
          case rel => exact ⟨_, (true), (by first | rfl | (simp; done) | (simp [*]; done)), H', ⟨by first | omega | exact Nat.le_refl _⟩, ⟨by (with_reducible repeat (first | refine blk_drewN ?_ _ | refine blk_drew ?_ | refine blk_alloc ?_ _)); exact BK428.out⟩, ⟨by repeat (first | (with_reducible first | exact HB.out | apply below_alloc | apply pw_below_drewN | apply below_drew1 | refine below_set ?_ GE428.out) | exact HB.out)⟩⟩
        · rw [if_neg c8] at H
          have c8b0 : decide (32 < (l0_2.length : Int)) = false := decide_eq_false c8
          have c8b1 : decide (32 < l0_2.length) = false := decide_eq_false (by omega)
          clear c8
          by_cases c10 : a0_1 = true
          · subst c10
            have H1 : (banksmanref21_Reply.j0 k (decide ((l0_3.length : Int) > 80)) a0_0 true l0_2 l0_3) = some r := by rw [if_pos rfl] at H; exact H
            clear H
            have H := H1
            clear H1
            have H' := Aside0.mk H
            clear H
            have hcz11_0 : w3.cell? ⟨gb428, 0, none⟩ = some (.int .i64 a0_0) := (blk_cell BK428.out 0).trans rfl
            have hcz11_1 : w3.cell? ⟨gb428, 1, none⟩ = some (.bool true) := (blk_cell BK428.out 1).trans rfl
            have hcz11_2 : w3.cell? ⟨gb428, 2, none⟩ = some (.slice A0_2 l0_2.length c0_2) := (blk_cell BK428.out 2).trans rfl
            have hcz11_3 : w3.cell? ⟨gb428, 3, none⟩ = some (.slice A0_3 l0_3.length c0_3) := (blk_cell BK428.out 3).trans rfl
            have hfz11_0 := blk_frozen BK428.out 0
            have hfz11_1 := blk_frozen BK428.out 1
            have hfz11_2 := blk_frozen BK428.out 2
            have hfz11_3 := blk_frozen BK428.out 3
            go_wp2
            go_meet
            case rel => exact ⟨_, (decide ((l0_3.length : Int) > 80)), (by first | rfl | (simp; done) | (simp [*]; done)), H', ⟨by first | omega | exact Nat.le_refl _⟩, ⟨by (with_reducible repeat (first | refine blk_drewN ?_ _ | refine blk_drew ?_ | refine blk_alloc ?_ _)); exact BK428.out⟩, ⟨by repeat (first | (with_reducible first | exact HB.out | apply below_alloc | apply pw_below_drewN | apply below_drew1 | refine below_set ?_ GE428.out) | exact HB.out)⟩⟩
          · replace c10 := Bool.eq_false_iff.mpr c10
            subst c10
            have H1 : (if (l0_2.length : Int) > 0 then (banksmanref21_Reply.j0 k true a0_0 false l0_2 l0_3) else (banksmanref21_Reply.j0 k (decide ((l0_3.length : Int) > 80)) a0_0 false l0_2 l0_3)) = some r := by rw [if_neg (show ¬ (false = true) by decide)] at H; exact H
            clear H
            have H := H1
            clear H1
            by_cases c12 : (l0_2.length : Int) > 0
            · rw [if_pos c12] at H
              have c12b0 : decide (0 < (l0_2.length : Int)) = true := decide_eq_true c12
              have c12b1 : decide (0 < l0_2.length) = true := decide_eq_true (by omega)
              clear c12
              have H' := Aside0.mk H
              clear H
              have hcz13_0 : w3.cell? ⟨gb428, 0, none⟩ = some (.int .i64 a0_0) := (blk_cell BK428.out 0).trans rfl
              have hcz13_1 : w3.cell? ⟨gb428, 1, none⟩ = some (.bool false) := (blk_cell BK428.out 1).trans rfl
              have hcz13_2 : w3.cell? ⟨gb428, 2, none⟩ = some (.slice A0_2 l0_2.length c0_2) := (blk_cell BK428.out 2).trans rfl
              have hcz13_3 : w3.cell? ⟨gb428, 3, none⟩ = some (.slice A0_3 l0_3.length c0_3) := (blk_cell BK428.out 3).trans rfl
              have hfz13_0 := blk_frozen BK428.out 0
              have hfz13_1 := blk_frozen BK428.out 1
              have hfz13_2 := blk_frozen BK428.out 2
              have hfz13_3 := blk_frozen BK428.out 3
              go_wp2
              go_meet
              case rel => exact ⟨_, (true), (by first | rfl | (simp; done) | (simp [*]; done)), H', ⟨by first | omega | exact Nat.le_refl _⟩, ⟨by (with_reducible repeat (first | refine blk_drewN ?_ _ | refine blk_drew ?_ | refine blk_alloc ?_ _)); exact BK428.out⟩, ⟨by repeat (first | (with_reducible first | exact HB.out | apply below_alloc | apply pw_below_drewN | apply below_drew1 | refine below_set ?_ GE428.out) | exact HB.out)⟩⟩
            · rw [if_neg c12] at H
              have c12b0 : decide (0 < (l0_2.length : Int)) = false := decide_eq_false c12
              have c12b1 : decide (0 < l0_2.length) = false := decide_eq_false (by omega)
              clear c12
              have H' := Aside0.mk H
              clear H
              have hcz14_0 : w3.cell? ⟨gb428, 0, none⟩ = some (.int .i64 a0_0) := (blk_cell BK428.out 0).trans rfl
              have hcz14_1 : w3.cell? ⟨gb428, 1, none⟩ = some (.bool false) := (blk_cell BK428.out 1).trans rfl
              have hcz14_2 : w3.cell? ⟨gb428, 2, none⟩ = some (.slice A0_2 l0_2.length c0_2) := (blk_cell BK428.out 2).trans rfl
              have hcz14_3 : w3.cell? ⟨gb428, 3, none⟩ = some (.slice A0_3 l0_3.length c0_3) := (blk_cell BK428.out 3).trans rfl
              have hfz14_0 := blk_frozen BK428.out 0
              have hfz14_1 := blk_frozen BK428.out 1
              have hfz14_2 := blk_frozen BK428.out 2
              have hfz14_3 := blk_frozen BK428.out 3
              go_wp2
              go_meet
              case rel => exact ⟨_, (decide ((l0_3.length : Int) > 80)), (by first | rfl | (simp; done) | (simp [*]; done)), H', ⟨by first | omega | exact Nat.le_refl _⟩, ⟨by (with_reducible repeat (first | refine blk_drewN ?_ _ | refine blk_drew ?_ | refine blk_alloc ?_ _)); exact BK428.out⟩, ⟨by repeat (first | (with_reducible first | exact HB.out | apply below_alloc | apply pw_below_drewN | apply below_drew1 | refine below_set ?_ GE428.out) | exact HB.out)⟩⟩
  case rest =>
    clear HC2
    try clear c1
    try clear p2
    try clear c3
    try clear c4
    try clear c4b0
    try clear c6
    try clear c6b0
    try clear c8
    try clear c8b0
    try clear c8b1
    try clear c10
    try clear c12
    try clear c12b0
    try clear c12b1
    try clear hcz11_0
    try clear hcz11_1
    try clear hcz11_2
    try clear hcz11_3
    try clear hcz13_0
    try clear hcz13_1
    try clear hcz13_2
    try clear hcz13_3
    try clear hcz14_0
    try clear hcz14_1
    try clear hcz14_2
    try clear hcz14_3
    try clear hcz5_0
    try clear hcz5_1
    try clear hcz5_2
    try clear hcz5_3
    try clear hcz7_0
    try clear hcz7_1
    try clear hcz7_2
    try clear hcz7_3
    try clear hcz9_0
    try clear hcz9_1
    try clear hcz9_2
    try clear hcz9_3
    try clear hfz11_0
    try clear hfz11_1
    try clear hfz11_2
    try clear hfz11_3
    try clear hfz13_0
    try clear hfz13_1
    try clear hfz13_2
    try clear hfz13_3
    try clear hfz14_0
    try clear hfz14_1
    try clear hfz14_2
    try clear hfz14_3
    try clear hfz5_0
    try clear hfz5_1
    try clear hfz5_2
    try clear hfz5_3
    try clear hfz7_0
    try clear hfz7_1
    try clear hfz7_2
    try clear hfz7_3
    try clear hfz9_0
    try clear hfz9_1
    try clear hfz9_2
    try clear hfz9_3
    obtain ⟨kq, x34_1, rfl, HA, HJ1, BK428, HB⟩ := hcut
    cases kq with
    | zero => exact absurd HA.out (by simp [banksmanref21_Reply.j0])
    | succ kj1 =>
      have H := HA.out
      clear HA
      simp only [banksmanref21_Reply.j0] at H
      by_cases c15 : x34_1 = true
      · subst c15
        have H1 : (some false) = some r := by rw [if_pos rfl] at H; exact H
        clear H
        have H := H1
        clear H1
        obtain rfl := Option.some.inj H
        go_wp2
        go_ret
        exact ⟨by first | rfl | (simp [errW_none, errW_some] <;> rfl) | (simp [*, errW_none, errW_some] <;> rfl), by repeat (first | (with_reducible first | exact HB.out | apply below_alloc | apply pw_below_drewN | apply below_drew1 | refine below_set ?_ GE428.out) | exact HB.out)⟩
      · replace c15 := Bool.eq_false_iff.mpr c15
        subst c15
        have H1 : (banksmanref21_Reply.l0 kj1 0 a0_0 a0_1 l0_2 l0_3) = some r := by rw [if_neg (show ¬ (false = true) by decide)] at H; exact H
        clear H
        have H := H1
        clear H1
        have H' := Aside0.mk H
        clear H
        go_wp2
        go_loopg [3] kj1 (fun kq v3 w' => ∃ (x3_2 : Int), v3 = .int .i64 x3_2 ∧ Aside0 (banksmanref21_Reply.l0 kq x3_2 a0_0 a0_1 l0_2 l0_3 = some r) ∧ Aside0 (kq ≤ kj1) ∧ Aside0 (w'.heap[gb428]? = some (.cells #[.int .i64 a0_0, .bool a0_1, (.slice A0_2 l0_2.length c0_2), (.slice A0_3 l0_3.length c0_3)] 36 (0, 0))) ∧ Aside0 (Below w.heap.size w w'))
        case atStart => exact ⟨(0), (by first | rfl | (simp; done) | (simp [*]; done)), H', ⟨Nat.le_refl _⟩, ⟨by (with_reducible repeat (first | refine blk_drewN ?_ _ | refine blk_drew ?_ | refine blk_alloc ?_ _)); exact BK428.out⟩, ⟨by repeat (first | (with_reducible first | exact HB.out | apply below_alloc | apply pw_below_drewN | apply below_drew1 | refine below_set ?_ GE428.out) | exact HB.out)⟩⟩
        case round =>
          clear H'
          try clear c1
          try clear p2
          try clear c3
          try clear c4
          try clear c4b0
          try clear c6
          try clear c6b0
          try clear c8
          try clear c8b0
          try clear c8b1
          try clear c10
          try clear c12
          try clear c12b0
          try clear c12b1
          try clear c15
          try clear hcz11_0
          try clear hcz11_1
          try clear hcz11_2
          try clear hcz11_3
          try clear hcz13_0
          try clear hcz13_1
          try clear hcz13_2
          try clear hcz13_3
          try clear hcz14_0
          try clear hcz14_1
          try clear hcz14_2
          try clear hcz14_3
          try clear hcz5_0
          try clear hcz5_1
          try clear hcz5_2
          try clear hcz5_3
          try clear hcz7_0
          try clear hcz7_1
          try clear hcz7_2
          try clear hcz7_3
          try clear hcz9_0
          try clear hcz9_1
          try clear hcz9_2
          try clear hcz9_3
          try clear hfz11_0
          try clear hfz11_1
          try clear hfz11_2
          try clear hfz11_3
          try clear hfz13_0
          try clear hfz13_1
          try clear hfz13_2
          try clear hfz13_3
          try clear hfz14_0
          try clear hfz14_1
          try clear hfz14_2
          try clear hfz14_3
          try clear hfz5_0
          try clear hfz5_1
          try clear hfz5_2
          try clear hfz5_3
          try clear hfz7_0
          try clear hfz7_1
          try clear hfz7_2
          try clear hfz7_3
          try clear hfz9_0
          try clear hfz9_1
          try clear hfz9_2
          try clear hfz9_3
          try clear p2
          obtain ⟨x3_2, rfl, HA, HK2, BK428, HB⟩ := hrel
          cases gk with
          | zero => exact absurd HA.out (by simp [banksmanref21_Reply.l0])
          | succ k2 =>
            have H := HA.out
            clear HA
            simp only [banksmanref21_Reply.l0] at H
            by_cases c16 : x3_2 < (l0_3.length : Int)
            · rw [if_pos c16] at H
              have c16b0 : decide (x3_2 < (l0_3.length : Int)) = true := decide_eq_true c16
              clear c16
              by_cases c17 : 0 ≤ x3_2
              · rw [if_pos c17] at H
                have c17b0 : decide (0 ≤ x3_2) = true := decide_eq_true c17
                clear c17
                by_cases c18 : (((rd_T47 l0_3 x3_2).f0).length : Int) > 16
                · rw [if_pos c18] at H
                  have c18b0 : decide (16 < (((rd_T47 l0_3 x3_2).f0).length : Int)) = true := decide_eq_true c18
                  have c18b1 : decide (16 < ((rd_T47 l0_3 x3_2).f0).length) = true := decide_eq_true (by omega)
                  clear c18
                  obtain rfl := Option.some.inj H
                  have hcz19_0 : wr.cell? ⟨gb428, 0, none⟩ = some (.int .i64 a0_0) := (blk_cell BK428.out 0).trans rfl
                  have hcz19_1 : wr.cell? ⟨gb428, 1, none⟩ = some (.bool a0_1) := (blk_cell BK428.out 1).trans rfl
                  have hcz19_2 : wr.cell? ⟨gb428, 2, none⟩ = some (.slice A0_2 l0_2.length c0_2) := (blk_cell BK428.out 2).trans rfl
                  have hcz19_3 : wr.cell? ⟨gb428, 3, none⟩ = some (.slice A0_3 l0_3.length c0_3) := (blk_cell BK428.out 3).trans rfl
                  have hfz19_0 := blk_frozen BK428.out 0
                  have hfz19_1 := blk_frozen BK428.out 1
                  have hfz19_2 := blk_frozen BK428.out 2
                  have hfz19_3 := blk_frozen BK428.out 3
                  have p429 : 0 ≤ (x3_2 : Int) := of_decide_eq_true (by first | (with_reducible assumption) | assumption)
                  have q429 : x3_2 < (l0_3.length : Int) := of_decide_eq_true (by first | (with_reducible assumption) | assumption)
                  obtain ⟨ad429, A429_0, c429_0, A429_1, c429_1, e429, hx429_0, hx429_1, hl429_0, hi429_0, hl429_1, hi429_1⟩ := at_T47 HR0_3.out x3_2 p429 q429
                  cases e429
                  replace hx429_0 := (HB.out.cell (World.block_lt_of_cell? w _ hx429_0)).trans hx429_0
                  replace hx429_1 := (HB.out.cell (World.block_lt_of_cell? w _ hx429_1)).trans hx429_1
                  have HR429_0 := Aside0.mk hi429_0
                  have HC429_0 := Aside0.mk hl429_0
                  clear hi429_0 hl429_0
                  have HR429_1 := Aside0.mk hi429_1
                  have HC429_1 := Aside0.mk hl429_1
                  clear hi429_1 hl429_1
                  replace p429 := eq_true p429
                  replace q429 := eq_true q429
                  go_wp2
                  go_ret
                  exact ⟨by first | rfl | (simp [errW_none, errW_some] <;> rfl) | (simp [*, errW_none, errW_some] <;> rfl), by repeat (first | (with_reducible first | exact HB.out | apply below_alloc | apply pw_below_drewN | apply below_drew1 | refine below_set ?_ GE428.out) | exact HB.out)⟩
                · rw [if_neg c18] at H
                  have c18b0 : decide (16 < (((rd_T47 l0_3 x3_2).f0).length : Int)) = false := decide_eq_false c18
                  have c18b1 : decide (16 < ((rd_T47 l0_3 x3_2).f0).length) = false := decide_eq_false (by omega)
                  clear c18
                  by_cases c20 : (((rd_T47 l0_3 x3_2).f1).length : Int) > 32
                  · rw [if_pos c20] at H
                    have c20b0 : decide (32 < (((rd_T47 l0_3 x3_2).f1).length : Int)) = true := decide_eq_true c20
                    have c20b1 : decide (32 < ((rd_T47 l0_3 x3_2).f1).length) = true := decide_eq_true (by omega)
                    clear c20
                    obtain rfl := Option.some.inj H
                    have hcz21_0 : wr.cell? ⟨gb428, 0, none⟩ = some (.int .i64 a0_0) := (blk_cell BK428.out 0).trans rfl
                    have hcz21_1 : wr.cell? ⟨gb428, 1, none⟩ = some (.bool a0_1) := (blk_cell BK428.out 1).trans rfl
                    have hcz21_2 : wr.cell? ⟨gb428, 2, none⟩ = some (.slice A0_2 l0_2.length c0_2) := (blk_cell BK428.out 2).trans rfl
                    have hcz21_3 : wr.cell? ⟨gb428, 3, none⟩ = some (.slice A0_3 l0_3.length c0_3) := (blk_cell BK428.out 3).trans rfl
                    have hfz21_0 := blk_frozen BK428.out 0
                    have hfz21_1 := blk_frozen BK428.out 1
                    have hfz21_2 := blk_frozen BK428.out 2
                    have hfz21_3 := blk_frozen BK428.out 3
                    have p429 : 0 ≤ (x3_2 : Int) := of_decide_eq_true (by first | (with_reducible assumption) | assumption)
                    have q429 : x3_2 < (l0_3.length : Int) := of_decide_eq_true (by first | (with_reducible assumption) | assumption)
                    obtain ⟨ad429, A429_0, c429_0, A429_1, c429_1, e429, hx429_0, hx429_1, hl429_0, hi429_0, hl429_1, hi429_1⟩ := at_T47 HR0_3.out x3_2 p429 q429
                    cases e429
                    replace hx429_0 := (HB.out.cell (World.block_lt_of_cell? w _ hx429_0)).trans hx429_0
                    replace hx429_1 := (HB.out.cell (World.block_lt_of_cell? w _ hx429_1)).trans hx429_1
                    have HR429_0 := Aside0.mk hi429_0
                    have HC429_0 := Aside0.mk hl429_0
                    clear hi429_0 hl429_0
                    have HR429_1 := Aside0.mk hi429_1
                    have HC429_1 := Aside0.mk hl429_1
                    clear hi429_1 hl429_1
                    replace p429 := eq_true p429
                    replace q429 := eq_true q429
                    have p430 : 0 ≤ (x3_2 : Int) := of_decide_eq_true (by first | (with_reducible assumption) | assumption)
                    have q430 : x3_2 < (l0_3.length : Int) := of_decide_eq_true (by first | (with_reducible assumption) | assumption)
                    obtain ⟨ad430, A430_0, c430_0, A430_1, c430_1, e430, hx430_0, hx430_1, hl430_0, hi430_0, hl430_1, hi430_1⟩ := at_T47 HR0_3.out x3_2 p430 q430
                    obtain rfl : ad429 = ad430 := (by injection e430)
                    replace hx430_0 := (HB.out.cell (World.block_lt_of_cell? w _ hx430_0)).trans hx430_0
                    replace hx430_1 := (HB.out.cell (World.block_lt_of_cell? w _ hx430_1)).trans hx430_1
                    have HR430_0 := Aside0.mk hi430_0
                    have HC430_0 := Aside0.mk hl430_0
                    clear hi430_0 hl430_0
                    have HR430_1 := Aside0.mk hi430_1
                    have HC430_1 := Aside0.mk hl430_1
                    clear hi430_1 hl430_1
                    replace p430 := eq_true p430
                    replace q430 := eq_true q430
                    have ea_ := Option.some.inj (hx429_0.symm.trans hx430_0)
                    injection ea_ with ea_ en_ ec_
                    subst ea_
                    subst ec_
                    clear en_
                    have ea_ := Option.some.inj (hx429_1.symm.trans hx430_1)
                    injection ea_ with ea_ en_ ec_
                    subst ea_
                    subst ec_
                    clear en_
                    go_wp2
                    go_ret
                    exact ⟨by first | rfl | (simp [errW_none, errW_some] <;> rfl) | (simp [*, errW_none, errW_some] <;> rfl), by repeat (first | (with_reducible first | exact HB.out | apply below_alloc | apply pw_below_drewN | apply below_drew1 | refine below_set ?_ GE428.out) | exact HB.out)⟩
                  · rw [if_neg c20] at H
                    have c20b0 : decide (32 < (((rd_T47 l0_3 x3_2).f1).length : Int)) = false := decide_eq_false c20
                    have c20b1 : decide (32 < ((rd_T47 l0_3 x3_2).f1).length) = false := decide_eq_false (by omega)
                    clear c20
                    have H' := Aside0.mk H
                    clear H
                    have hcz22_0 : wr.cell? ⟨gb428, 0, none⟩ = some (.int .i64 a0_0) := (blk_cell BK428.out 0).trans rfl
                    have hcz22_1 : wr.cell? ⟨gb428, 1, none⟩ = some (.bool a0_1) := (blk_cell BK428.out 1).trans rfl
                    have hcz22_2 : wr.cell? ⟨gb428, 2, none⟩ = some (.slice A0_2 l0_2.length c0_2) := (blk_cell BK428.out 2).trans rfl
                    have hcz22_3 : wr.cell? ⟨gb428, 3, none⟩ = some (.slice A0_3 l0_3.length c0_3) := (blk_cell BK428.out 3).trans rfl
                    have hfz22_0 := blk_frozen BK428.out 0
                    have hfz22_1 := blk_frozen BK428.out 1
                    have hfz22_2 := blk_frozen BK428.out 2
                    have hfz22_3 := blk_frozen BK428.out 3
                    have p429 : 0 ≤ (x3_2 : Int) := of_decide_eq_true (by first | (with_reducible assumption) | assumption)
                    have q429 : x3_2 < (l0_3.length : Int) := of_decide_eq_true (by first | (with_reducible assumption) | assumption)
                    obtain ⟨ad429, A429_0, c429_0, A429_1, c429_1, e429, hx429_0, hx429_1, hl429_0, hi429_0, hl429_1, hi429_1⟩ := at_T47 HR0_3.out x3_2 p429 q429
                    cases e429
                    replace hx429_0 := (HB.out.cell (World.block_lt_of_cell? w _ hx429_0)).trans hx429_0
                    replace hx429_1 := (HB.out.cell (World.block_lt_of_cell? w _ hx429_1)).trans hx429_1
                    have HR429_0 := Aside0.mk hi429_0
                    have HC429_0 := Aside0.mk hl429_0
                    clear hi429_0 hl429_0
                    have HR429_1 := Aside0.mk hi429_1
                    have HC429_1 := Aside0.mk hl429_1
                    clear hi429_1 hl429_1
                    replace p429 := eq_true p429
                    replace q429 := eq_true q429
                    have p430 : 0 ≤ (x3_2 : Int) := of_decide_eq_true (by first | (with_reducible assumption) | assumption)
                    have q430 : x3_2 < (l0_3.length : Int) := of_decide_eq_true (by first | (with_reducible assumption) | assumption)
                    obtain ⟨ad430, A430_0, c430_0, A430_1, c430_1, e430, hx430_0, hx430_1, hl430_0, hi430_0, hl430_1, hi430_1⟩ := at_T47 HR0_3.out x3_2 p430 q430
                    obtain rfl : ad429 = ad430 := (by injection e430)
                    replace hx430_0 := (HB.out.cell (World.block_lt_of_cell? w _ hx430_0)).trans hx430_0
                    replace hx430_1 := (HB.out.cell (World.block_lt_of_cell? w _ hx430_1)).trans hx430_1
                    have HR430_0 := Aside0.mk hi430_0
                    have HC430_0 := Aside0.mk hl430_0
                    clear hi430_0 hl430_0
                    have HR430_1 := Aside0.mk hi430_1
                    have HC430_1 := Aside0.mk hl430_1
                    clear hi430_1 hl430_1
                    replace p430 := eq_true p430
                    replace q430 := eq_true q430
                    have ea_ := Option.some.inj (hx429_0.symm.trans hx430_0)
                    injection ea_ with ea_ en_ ec_
                    subst ea_
                    subst ec_
                    clear en_
                    have ea_ := Option.some.inj (hx429_1.symm.trans hx430_1)
                    injection ea_ with ea_ en_ ec_
                    subst ea_
                    subst ec_
                    clear en_
                    go_wp2
                    go_roundg k2
                    case measure => have := HJ1.out; have := HK2.out; omega
                    case rel => exact ⟨(wrap64 (x3_2 + 1)), (by first | rfl | (simp; done) | (simp [*]; done)), H', ⟨by have := HJ1.out; have := HK2.out; omega⟩, ⟨by (with_reducible repeat (first | refine blk_drewN ?_ _ | refine blk_drew ?_ | refine blk_alloc ?_ _)); exact BK428.out⟩, ⟨by repeat (first | (with_reducible first | exact HB.out | apply below_alloc | apply pw_below_drewN | apply below_drew1 | refine below_set ?_ GE428.out) | exact HB.out)⟩⟩
              · rw [if_neg c17] at H
                exact absurd H (by simp)
            · rw [if_neg c16] at H
              have c16b0 : decide (x3_2 < (l0_3.length : Int)) = false := decide_eq_false c16
              clear c16
              obtain rfl := Option.some.inj H
              have hcz23_0 : wr.cell? ⟨gb428, 0, none⟩ = some (.int .i64 a0_0) := (blk_cell BK428.out 0).trans rfl
              have hcz23_1 : wr.cell? ⟨gb428, 1, none⟩ = some (.bool a0_1) := (blk_cell BK428.out 1).trans rfl
              have hcz23_2 : wr.cell? ⟨gb428, 2, none⟩ = some (.slice A0_2 l0_2.length c0_2) := (blk_cell BK428.out 2).trans rfl
              have hcz23_3 : wr.cell? ⟨gb428, 3, none⟩ = some (.slice A0_3 l0_3.length c0_3) := (blk_cell BK428.out 3).trans rfl
              have hfz23_0 := blk_frozen BK428.out 0
              have hfz23_1 := blk_frozen BK428.out 1
              have hfz23_2 := blk_frozen BK428.out 2
              have hfz23_3 := blk_frozen BK428.out 3
              go_wp2
              go_ret
              exact ⟨by first | rfl | (simp [errW_none, errW_some] <;> rfl) | (simp [*, errW_none, errW_some] <;> rfl), by repeat (first | (with_reducible first | exact HB.out | apply below_alloc | apply pw_below_drewN | apply below_drew1 | refine below_set ?_ GE428.out) | exact HB.out)⟩
end Go.Proofs.Ytfbjabpjfalmlaa.P
