import Derived.Test.YtfbjabpjfalmlaaPx0
namespace Go.Proofs.Ytfbjabpjfalmlaa.P
open Go.RowKit Go.Proofs.YtfbjabpjfalmlaaW.PrintWords Go.Proofs.YtfbjabpjfalmlaaW.PrintLast Go.Proofs.YtfbjabpjfalmlaaW.PrintMore
attribute [local go_sem] max2_int min2_int max_two min_two max_three min_three max_four min_four
set_option linter.unusedVariables false
set_option linter.unusedSimpArgs false
mutual
def banksmanref21_Few.j0 : Nat → Bool → Int → Bool → List Int → List (S47) → Option (Bool)
  | 0, _, _, _, _, _ => none
  | k + 1, x13, x426000, x426001, x426002, x426003 => if x13 = true then (some false) else (banksmanref21_Few.l0 k 0 x426000 x426001 x426002 x426003)
def banksmanref21_Few.l0 : Nat → Int → Int → Bool → List Int → List (S47) → Option (Bool)
  | 0, _, _, _, _, _ => none
  | k + 1, x3, x426000, x426001, x426002, x426003 => if x3 < (x426003.length : Int) then (if 0 ≤ x3 then (if (((rd_T47 x426003 x3).f0).length : Int) > 100 then (some false) else (if (((rd_T47 x426003 x3).f1).length : Int) > 100 then (some false) else (banksmanref21_Few.l0 k (wrap64 (x3 + 1)) x426000 x426001 x426002 x426003))) else (none)) else (some true)
end
def banksmanref21_Few.f (k : Nat) (a0_0 : Int) (a0_1 : Bool) (l0_2 : List Int) (l0_3 : List (S47)) : Option (Bool) := if (l0_2.length : Int) > 100 then (banksmanref21_Few.j0 k true a0_0 a0_1 l0_2 l0_3) else (banksmanref21_Few.j0 k (decide ((l0_3.length : Int) > 100)) a0_0 a0_1 l0_2 l0_3)
theorem banksmanref21_Few.mono_l : ∀ k, (∀ y0 y1 y2 y3 y4, LeO (banksmanref21_Few.j0 k y0 y1 y2 y3 y4) (banksmanref21_Few.j0 (k + 1) y0 y1 y2 y3 y4)) ∧ (∀ y0 y1 y2 y3 y4, LeO (banksmanref21_Few.l0 k y0 y1 y2 y3 y4) (banksmanref21_Few.l0 (k + 1) y0 y1 y2 y3 y4))
  | 0 => ⟨fun _ _ _ _ _ r h => by simp [banksmanref21_Few.j0] at h, fun _ _ _ _ _ r h => by simp [banksmanref21_Few.l0] at h⟩
  | k + 1 => by
    obtain ⟨ih0, ih1⟩ := banksmanref21_Few.mono_l k
    refine ⟨?_, ?_⟩
    · intro y0 y1 y2 y3 y4
      unfold banksmanref21_Few.j0
      repeat' first
      | (with_reducible exact ih0 _ _ _ _ _)
      | (with_reducible exact ih1 _ _ _ _ _)
      | (with_reducible exact LeO.refl _)
      | (with_reducible exact LeO.none _)
      | (with_reducible refine LeO.ite ?_ ?_)
      | (with_reducible refine LeO.bind ?_ (fun _ => ?_))
      | exact ih0 _ _ _ _ _
      | exact ih1 _ _ _ _ _
      | exact LeO.none _
      | refine LeO.ite ?_ ?_
      | refine LeO.bind ?_ (fun _ => ?_)
    · intro y0 y1 y2 y3 y4
      unfold banksmanref21_Few.l0
      repeat' first
      | (with_reducible exact ih0 _ _ _ _ _)
      | (with_reducible exact ih1 _ _ _ _ _)
      | (with_reducible exact LeO.refl _)
      | (with_reducible exact LeO.none _)
      | (with_reducible refine LeO.ite ?_ ?_)
      | (with_reducible refine LeO.bind ?_ (fun _ => ?_))
      | exact ih0 _ _ _ _ _
      | exact ih1 _ _ _ _ _
      | exact LeO.none _
      | refine LeO.ite ?_ ?_
      | refine LeO.bind ?_ (fun _ => ?_)
theorem banksmanref21_Few.mono : ∀ a0 a1 a2 a3 k, LeO (banksmanref21_Few.f k a0 a1 a2 a3) (banksmanref21_Few.f (k + 1) a0 a1 a2 a3) := by
  intro a0 a1 a2 a3 k
  obtain ⟨ih0, ih1⟩ := banksmanref21_Few.mono_l k
  unfold banksmanref21_Few.f
  repeat' first
      | (with_reducible exact ih0 _ _ _ _ _)
      | (with_reducible exact ih1 _ _ _ _ _)
      | (with_reducible exact LeO.refl _)
      | (with_reducible exact LeO.none _)
      | (with_reducible refine LeO.ite ?_ ?_)
      | (with_reducible refine LeO.bind ?_ (fun _ => ?_))
      | exact ih0 _ _ _ _ _
      | exact ih1 _ _ _ _ _
      | exact LeO.none _
      | refine LeO.ite ?_ ?_
      | refine LeO.bind ?_ (fun _ => ?_)
set_option maxHeartbeats 8000000 in
set_option maxRecDepth 100000 in
theorem banksmanref21_Few.calls (k : Nat) (a0_0 : Int) (a0_1 : Bool) (A0_2 : Option Addr) (c0_2 : Nat) (l0_2 : List Int) (A0_3 : Option Addr) (c0_3 : Nat) (l0_3 : List (S47)) (r : Bool) (w : World) (hr0_2 : Kd.C (Kd.int .u8) w A0_2 l0_2.length l0_2) (hc0_2 : l0_2.length ≤ c0_2) (hr0_3 : Kd.C k47 w A0_3 l0_3.length l0_3) (hc0_3 : l0_3.length ≤ c0_3) (h : banksmanref21_Few.f k a0_0 a0_1 l0_2 l0_3 = some r) :
    Calls Try.prog 15 #[.agg #[.int .i64 a0_0, .bool a0_1, .slice A0_2 l0_2.length c0_2, .slice A0_3 l0_3.length c0_3]] w fun e w' => e = .returned (.bool r) ∧ Below w.heap.size w w' := by
  have hu36 := Try.underlying36
  have HR0_2 := Aside0.mk hr0_2
  have HC0_2 := Aside0.mk hc0_2
  clear hr0_2 hc0_2
  have HR0_3 := Aside0.mk hr0_3
  have HC0_3 := Aside0.mk hc0_3
  clear hr0_3 hc0_3
  have HB := Aside0.mk (Below.refl w.heap.size w)
  have H : (if (l0_2.length : Int) > 100 then (banksmanref21_Few.j0 k true a0_0 a0_1 l0_2 l0_3) else (banksmanref21_Few.j0 k (decide ((l0_3.length : Int) > 100)) a0_0 a0_1 l0_2 l0_3)) = some r := h
  clear h
  have HC2 := Aside0.mk H
  clear H
  go_enter Try.func15, Try.ntmps15
  go_upto_region 1 with (first | ((with_reducible refine gate_dst (N := 1) rfl ?_); (try (refine gate_guard (by rfl) ?_; dsimp only)); refine box_event ?hg (N := 1) ?hd (cs := #[.int .i64 a0_0, .bool a0_1, .slice A0_2 l0_2.length c0_2, .slice A0_3 l0_3.length c0_3]) (t := 36) ?hr ?_; (case hd => rfl); (case hg => rfl); (case hr => first | (go_simp; done) | (go_simp; rfl)); intro gb425 hg w3 hbox hb; have n0_ := Aside0.mk (below_step (by repeat (first | (with_reducible first | exact HB.out | apply below_alloc | apply pw_below_drewN | apply below_drew1) | exact HB.out)) hb); have n1_ := Aside0.mk (hbox); have n2_ := Aside0.mk ((by rw [hg]; exact (below_size (by repeat (first | (with_reducible first | exact HB.out | apply below_alloc | apply pw_below_drewN | apply below_drew1) | exact HB.out))) : w.heap.size ≤ gb425)); have n3_ := Aside0.mk ((by rw [hg]; exact (below_size (by repeat (first | (with_reducible first | exact HB.out | apply below_alloc | apply pw_below_drewN | apply below_drew1) | exact HB.out))) : w.heap.size ≤ gb425)); clear HB; have HB := n0_; have BK425 := n1_; have GW425 := n2_; have GE425 := n3_; clear n0_ n1_ n2_ n3_; clear hb hbox hg))
  (try simp only [Act.put, List.setIfInBounds_toArray, List.set_cons_zero, List.set_cons_succ])
  go_cut [13] (fun v13 wc => ∃ (kq : Nat) (x13_1 : Bool), v13 = .bool x13_1 ∧ Aside0 (banksmanref21_Few.j0 kq x13_1 a0_0 a0_1 l0_2 l0_3 = some r) ∧ Aside0 (kq ≤ k) ∧ Aside0 (wc.heap[gb425]? = some (.cells #[.int .i64 a0_0, .bool a0_1, (.slice A0_2 l0_2.length c0_2), (.slice A0_3 l0_3.length c0_3)] 36 (0, 0))) ∧ Aside0 (Below w.heap.size w wc))
  case first =>
    have H := HC2.out
    clear HC2
    by_cases c4 : (l0_2.length : Int) > 100
    · rw [if_pos c4] at H
      have c4b0 : decide (100 < (l0_2.length : Int)) = true := decide_eq_true c4
      have c4b1 : decide (100 < l0_2.length) = true := decide_eq_true (by omega)
      clear c4
      (first | rw [c4b0] | (simp only [i64_w, i32_w]; rw [c4b0]) | skip)
      have H' := Aside0.mk H
      clear H
      have hcz5_0 : w3.cell? ⟨gb425, 0, none⟩ = some (.int .i64 a0_0) := (blk_cell BK425.out 0).trans rfl
      have hcz5_1 : w3.cell? ⟨gb425, 1, none⟩ = some (.bool a0_1) := (blk_cell BK425.out 1).trans rfl
      have hcz5_2 : w3.cell? ⟨gb425, 2, none⟩ = some (.slice A0_2 l0_2.length c0_2) := (blk_cell BK425.out 2).trans rfl
      have hcz5_3 : w3.cell? ⟨gb425, 3, none⟩ = some (.slice A0_3 l0_3.length c0_3) := (blk_cell BK425.out 3).trans rfl
      have hfz5_0 := blk_frozen BK425.out 0
      have hfz5_1 := blk_frozen BK425.out 1
      have hfz5_2 := blk_frozen BK425.out 2
      have hfz5_3 := blk_frozen BK425.out 3
      go_wp2
      go_meet
      case rel => exact ⟨_, (true), (by first | rfl | (simp; done) | (simp [*]; done)), H', ⟨by first | omega | exact Nat.le_refl _⟩, ⟨by (with_reducible repeat (first | refine blk_drewN ?_ _ | refine blk_drew ?_ | refine blk_alloc ?_ _)); exact BK425.out⟩, ⟨by repeat (first | (with_reducible first | exact HB.out | apply below_alloc | apply pw_below_drewN | apply below_drew1 | refine below_set ?_ GE425.out) | exact HB.out)⟩⟩
    · rw [if_neg c4] at H
      have c4b0 : decide (100 < (l0_2.length : Int)) = false := decide_eq_false c4
      have c4b1 : decide (100 < l0_2.length) = false := decide_eq_false (by omega)
      clear c4
      (first | rw [c4b0] | (simp only [i64_w, i32_w]; rw [c4b0]) | skip)
      have H' := Aside0.mk H
      clear H
      have hcz6_0 : w3.cell? ⟨gb425, 0, none⟩ = some (.int .i64 a0_0) := (blk_cell BK425.out 0).trans rfl
      have hcz6_1 : w3.cell? ⟨gb425, 1, none⟩ = some (.bool a0_1) := (blk_cell BK425.out 1).trans rfl
      have hcz6_2 : w3.cell? ⟨gb425, 2, none⟩ = some (.slice A0_2 l0_2.length c0_2) := (blk_cell BK425.out 2).trans rfl
      have hcz6_3 : w3.cell? ⟨gb425, 3, none⟩ = some (.slice A0_3 l0_3.length c0_3) := (blk_cell BK425.out 3).trans rfl
      have hfz6_0 := blk_frozen BK425.out 0
      have hfz6_1 := blk_frozen BK425.out 1
      have hfz6_2 := blk_frozen BK425.out 2
      have hfz6_3 := blk_frozen BK425.out 3
      go_wp2
      go_meet
      case rel => exact ⟨_, (decide ((l0_3.length : Int) > 100)), (by first | rfl | (simp; done) | (simp [*]; done)), H', ⟨by first | omega | exact Nat.le_refl _⟩, ⟨by (with_reducible repeat (first | refine blk_drewN ?_ _ | refine blk_drew ?_ | refine blk_alloc ?_ _)); exact BK425.out⟩, ⟨by repeat (first | (with_reducible first | exact HB.out | apply below_alloc | apply pw_below_drewN | apply below_drew1 | refine below_set ?_ GE425.out) | exact HB.out)⟩⟩
  case rest =>
    clear HC2
    try clear c1
    try clear p2
    try clear c4
    try clear c4b0
    try clear c4b1
    try clear hcz5_0
    try clear hcz5_1
    try clear hcz5_2
    try clear hcz5_3
    try clear hcz6_0
    try clear hcz6_1
    try clear hcz6_2
    try clear hcz6_3
    try clear hfz5_0
    try clear hfz5_1
    try clear hfz5_2
    try clear hfz5_3
    try clear hfz6_0
    try clear hfz6_1
    try clear hfz6_2
    try clear hfz6_3
    obtain ⟨kq, x13_1, rfl, HA, HJ1, BK425, HB⟩ := hcut
    cases kq with
    | zero => exact absurd HA.out (by simp [banksmanref21_Few.j0])
    | succ kj1 =>
      have H := HA.out
      clear HA
      simp only [banksmanref21_Few.j0] at H
      by_cases c7 : x13_1 = true
      · subst c7
        have H1 : (some false) = some r := by rw [if_pos rfl] at H; exact H
        clear H
        have H := H1
        clear H1
        obtain rfl := Option.some.inj H
        go_wp2
        go_ret
        exact ⟨by first | rfl | (simp [errW_none, errW_some] <;> rfl) | (simp [*, errW_none, errW_some] <;> rfl), by repeat (first | (with_reducible first | exact HB.out | apply below_alloc | apply pw_below_drewN | apply below_drew1 | refine below_set ?_ GE425.out) | exact HB.out)⟩
      · replace c7 := Bool.eq_false_iff.mpr c7
        subst c7
        have H1 : (banksmanref21_Few.l0 kj1 0 a0_0 a0_1 l0_2 l0_3) = some r := by rw [if_neg (show ¬ (false = true) by decide)] at H; exact H
        clear H
        have H := H1
        clear H1
        have H' := Aside0.mk H
        clear H
        go_wp2
        go_loopg [3] kj1 (fun kq v3 w' => ∃ (x3_2 : Int), v3 = .int .i64 x3_2 ∧ Aside0 (banksmanref21_Few.l0 kq x3_2 a0_0 a0_1 l0_2 l0_3 = some r) ∧ Aside0 (kq ≤ kj1) ∧ Aside0 (w'.heap[gb425]? = some (.cells #[.int .i64 a0_0, .bool a0_1, (.slice A0_2 l0_2.length c0_2), (.slice A0_3 l0_3.length c0_3)] 36 (0, 0))) ∧ Aside0 (Below w.heap.size w w'))
        case atStart => exact ⟨(0), (by first | rfl | (simp; done) | (simp [*]; done)), H', ⟨Nat.le_refl _⟩, ⟨by (with_reducible repeat (first | refine blk_drewN ?_ _ | refine blk_drew ?_ | refine blk_alloc ?_ _)); exact BK425.out⟩, ⟨by repeat (first | (with_reducible first | exact HB.out | apply below_alloc | apply pw_below_drewN | apply below_drew1 | refine below_set ?_ GE425.out) | exact HB.out)⟩⟩
        case round =>
          clear H'
          try clear c1
          try clear p2
          try clear c4
          try clear c4b0
          try clear c4b1
          try clear c7
          try clear hcz5_0
          try clear hcz5_1
          try clear hcz5_2
          try clear hcz5_3
          try clear hcz6_0
          try clear hcz6_1
          try clear hcz6_2
          try clear hcz6_3
          try clear hfz5_0
          try clear hfz5_1
          try clear hfz5_2
          try clear hfz5_3
          try clear hfz6_0
          try clear hfz6_1
          try clear hfz6_2
          try clear hfz6_3
          try clear p2
          obtain ⟨x3_2, rfl, HA, HK2, BK425, HB⟩ := hrel
          cases gk with
          | zero => exact absurd HA.out (by simp [banksmanref21_Few.l0])
          | succ k2 =>
            have H := HA.out
            clear HA
            simp only [banksmanref21_Few.l0] at H
            by_cases c8 : x3_2 < (l0_3.length : Int)
            · rw [if_pos c8] at H
              have c8b0 : decide (x3_2 < (l0_3.length : Int)) = true := decide_eq_true c8
              clear c8
              by_cases c9 : 0 ≤ x3_2
              · rw [if_pos c9] at H
                have c9b0 : decide (0 ≤ x3_2) = true := decide_eq_true c9
                clear c9
                by_cases c10 : (((rd_T47 l0_3 x3_2).f0).length : Int) > 100
                · rw [if_pos c10] at H
                  have c10b0 : decide (100 < (((rd_T47 l0_3 x3_2).f0).length : Int)) = true := decide_eq_true c10
                  have c10b1 : decide (100 < ((rd_T47 l0_3 x3_2).f0).length) = true := decide_eq_true (by omega)
                  clear c10
                  obtain rfl := Option.some.inj H
                  have hcz11_0 : wr.cell? ⟨gb425, 0, none⟩ = some (.int .i64 a0_0) := (blk_cell BK425.out 0).trans rfl
                  have hcz11_1 : wr.cell? ⟨gb425, 1, none⟩ = some (.bool a0_1) := (blk_cell BK425.out 1).trans rfl
                  have hcz11_2 : wr.cell? ⟨gb425, 2, none⟩ = some (.slice A0_2 l0_2.length c0_2) := (blk_cell BK425.out 2).trans rfl
                  have hcz11_3 : wr.cell? ⟨gb425, 3, none⟩ = some (.slice A0_3 l0_3.length c0_3) := (blk_cell BK425.out 3).trans rfl
                  have hfz11_0 := blk_frozen BK425.out 0
                  have hfz11_1 := blk_frozen BK425.out 1
                  have hfz11_2 := blk_frozen BK425.out 2
                  have hfz11_3 := blk_frozen BK425.out 3
                  have p426 : 0 ≤ (x3_2 : Int) := of_decide_eq_true (by first | (with_reducible assumption) | assumption)
                  have q426 : x3_2 < (l0_3.length : Int) := of_decide_eq_true (by first | (with_reducible assumption) | assumption)
                  obtain ⟨ad426, A426_0, c426_0, A426_1, c426_1, e426, hx426_0, hx426_1, hl426_0, hi426_0, hl426_1, hi426_1⟩ := at_T47 HR0_3.out x3_2 p426 q426
                  cases e426
                  replace hx426_0 := (HB.out.cell (World.block_lt_of_cell? w _ hx426_0)).trans hx426_0
                  replace hx426_1 := (HB.out.cell (World.block_lt_of_cell? w _ hx426_1)).trans hx426_1
                  have HR426_0 := Aside0.mk hi426_0
                  have HC426_0 := Aside0.mk hl426_0
                  clear hi426_0 hl426_0
                  have HR426_1 := Aside0.mk hi426_1
                  have HC426_1 := Aside0.mk hl426_1
                  clear hi426_1 hl426_1
                  replace p426 := eq_true p426
                  replace q426 := eq_true q426
                  go_wp2
                  go_ret
                  exact ⟨by first | rfl | (simp [errW_none, errW_some] <;> rfl) | (simp [*, errW_none, errW_some] <;> rfl), by repeat (first | (with_reducible first | exact HB.out | apply below_alloc | apply pw_below_drewN | apply below_drew1 | refine below_set ?_ GE425.out) | exact HB.out)⟩
                · rw [if_neg c10] at H
                  have c10b0 : decide (100 < (((rd_T47 l0_3 x3_2).f0).length : Int)) = false := decide_eq_false c10
                  have c10b1 : decide (100 < ((rd_T47 l0_3 x3_2).f0).length) = false := decide_eq_false (by omega)
                  clear c10
                  by_cases c12 : (((rd_T47 l0_3 x3_2).f1).length : Int) > 100
                  · rw [if_pos c12] at H
                    have c12b0 : decide (100 < (((rd_T47 l0_3 x3_2).f1).length : Int)) = true := decide_eq_true c12
                    have c12b1 : decide (100 < ((rd_T47 l0_3 x3_2).f1).length) = true := decide_eq_true (by omega)
                    clear c12
                    obtain rfl := Option.some.inj H
                    have hcz13_0 : wr.cell? ⟨gb425, 0, none⟩ = some (.int .i64 a0_0) := (blk_cell BK425.out 0).trans rfl
                    have hcz13_1 : wr.cell? ⟨gb425, 1, none⟩ = some (.bool a0_1) := (blk_cell BK425.out 1).trans rfl
                    have hcz13_2 : wr.cell? ⟨gb425, 2, none⟩ = some (.slice A0_2 l0_2.length c0_2) := (blk_cell BK425.out 2).trans rfl
                    have hcz13_3 : wr.cell? ⟨gb425, 3, none⟩ = some (.slice A0_3 l0_3.length c0_3) := (blk_cell BK425.out 3).trans rfl
                    have hfz13_0 := blk_frozen BK425.out 0
                    have hfz13_1 := blk_frozen BK425.out 1
                    have hfz13_2 := blk_frozen BK425.out 2
                    have hfz13_3 := blk_frozen BK425.out 3
                    have p426 : 0 ≤ (x3_2 : Int) := of_decide_eq_true (by first | (with_reducible assumption) | assumption)
                    have q426 : x3_2 < (l0_3.length : Int) := of_decide_eq_true (by first | (with_reducible assumption) | assumption)
                    obtain ⟨ad426, A426_0, c426_0, A426_1, c426_1, e426, hx426_0, hx426_1, hl426_0, hi426_0, hl426_1, hi426_1⟩ := at_T47 HR0_3.out x3_2 p426 q426
                    cases e426
                    replace hx426_0 := (HB.out.cell (World.block_lt_of_cell? w _ hx426_0)).trans hx426_0
                    replace hx426_1 := (HB.out.cell (World.block_lt_of_cell? w _ hx426_1)).trans hx426_1
                    have HR426_0 := Aside0.mk hi426_0
                    have HC426_0 := Aside0.mk hl426_0
                    clear hi426_0 hl426_0
                    have HR426_1 := Aside0.mk hi426_1
                    have HC426_1 := Aside0.mk hl426_1
                    clear hi426_1 hl426_1
                    replace p426 := eq_true p426
                    replace q426 := eq_true q426
                    have p427 : 0 ≤ (x3_2 : Int) := of_decide_eq_true (by first | (with_reducible assumption) | assumption)
                    have q427 : x3_2 < (l0_3.length : Int) := of_decide_eq_true (by first | (with_reducible assumption) | assumption)
                    obtain ⟨ad427, A427_0, c427_0, A427_1, c427_1, e427, hx427_0, hx427_1, hl427_0, hi427_0, hl427_1, hi427_1⟩ := at_T47 HR0_3.out x3_2 p427 q427
                    obtain rfl : ad426 = ad427 := (by injection e427)
                    replace hx427_0 := (HB.out.cell (World.block_lt_of_cell? w _ hx427_0)).trans hx427_0
                    replace hx427_1 := (HB.out.cell (World.block_lt_of_cell? w _ hx427_1)).trans hx427_1
                    have HR427_0 := Aside0.mk hi427_0
                    have HC427_0 := Aside0.mk hl427_0
                    clear hi427_0 hl427_0
                    have HR427_1 := Aside0.mk hi427_1
                    have HC427_1 := Aside0.mk hl427_1
                    clear hi427_1 hl427_1
                    replace p427 := eq_true p427
                    replace q427 := eq_true q427
                    have ea_ := Option.some.inj (hx426_0.symm.trans hx427_0)
                    injection ea_ with ea_ en_ ec_
                    subst ea_
                    subst ec_
                    clear en_
                    have ea_ := Option.some.inj (hx426_1.symm.trans hx427_1)
                    injection ea_ with ea_ en_ ec_
                    subst ea_
                    subst ec_
                    clear en_
                    go_wp2
                    go_ret
                    exact ⟨by first | rfl | (simp [errW_none, errW_some] <;> rfl) | (simp [*, errW_none, errW_some] <;> rfl), by repeat (first | (with_reducible first | exact HB.out | apply below_alloc | apply pw_below_drewN | apply below_drew1 | refine below_set ?_ GE425.out) | exact HB.out)⟩
                  · rw [if_neg c12] at H
                    have c12b0 : decide (100 < (((rd_T47 l0_3 x3_2).f1).length : Int)) = false := decide_eq_false c12
                    have c12b1 : decide (100 < ((rd_T47 l0_3 x3_2).f1).length) = false := decide_eq_false (by omega)
                    clear c12
                    have H' := Aside0.mk H
                    clear H
                    have hcz14_0 : wr.cell? ⟨gb425, 0, none⟩ = some (.int .i64 a0_0) := (blk_cell BK425.out 0).trans rfl
                    have hcz14_1 : wr.cell? ⟨gb425, 1, none⟩ = some (.bool a0_1) := (blk_cell BK425.out 1).trans rfl
                    have hcz14_2 : wr.cell? ⟨gb425, 2, none⟩ = some (.slice A0_2 l0_2.length c0_2) := (blk_cell BK425.out 2).trans rfl
                    have hcz14_3 : wr.cell? ⟨gb425, 3, none⟩ = some (.slice A0_3 l0_3.length c0_3) := (blk_cell BK425.out 3).trans rfl
                    have hfz14_0 := blk_frozen BK425.out 0
                    have hfz14_1 := blk_frozen BK425.out 1
                    have hfz14_2 := blk_frozen BK425.out 2
                    have hfz14_3 := blk_frozen BK425.out 3
                    have p426 : 0 ≤ (x3_2 : Int) := of_decide_eq_true (by first | (with_reducible assumption) | assumption)
                    have q426 : x3_2 < (l0_3.length : Int) := of_decide_eq_true (by first | (with_reducible assumption) | assumption)
                    obtain ⟨ad426, A426_0, c426_0, A426_1, c426_1, e426, hx426_0, hx426_1, hl426_0, hi426_0, hl426_1, hi426_1⟩ := at_T47 HR0_3.out x3_2 p426 q426
                    cases e426
                    replace hx426_0 := (HB.out.cell (World.block_lt_of_cell? w _ hx426_0)).trans hx426_0
                    replace hx426_1 := (HB.out.cell (World.block_lt_of_cell? w _ hx426_1)).trans hx426_1
                    have HR426_0 := Aside0.mk hi426_0
                    have HC426_0 := Aside0.mk hl426_0
                    clear hi426_0 hl426_0
                    have HR426_1 := Aside0.mk hi426_1
                    have HC426_1 := Aside0.mk hl426_1
                    clear hi426_1 hl426_1
                    replace p426 := eq_true p426
                    replace q426 := eq_true q426
                    have p427 : 0 ≤ (x3_2 : Int) := of_decide_eq_true (by first | (with_reducible assumption) | assumption)
                    have q427 : x3_2 < (l0_3.length : Int) := of_decide_eq_true (by first | (with_reducible assumption) | assumption)
                    obtain ⟨ad427, A427_0, c427_0, A427_1, c427_1, e427, hx427_0, hx427_1, hl427_0, hi427_0, hl427_1, hi427_1⟩ := at_T47 HR0_3.out x3_2 p427 q427
                    obtain rfl : ad426 = ad427 := (by injection e427)
                    replace hx427_0 := (HB.out.cell (World.block_lt_of_cell? w _ hx427_0)).trans hx427_0
                    replace hx427_1 := (HB.out.cell (World.block_lt_of_cell? w _ hx427_1)).trans hx427_1
                    have HR427_0 := Aside0.mk hi427_0
                    have HC427_0 := Aside0.mk hl427_0
                    clear hi427_0 hl427_0
                    have HR427_1 := Aside0.mk hi427_1
                    have HC427_1 := Aside0.mk hl427_1
                    clear hi427_1 hl427_1
                    replace p427 := eq_true p427
                    replace q427 := eq_true q427
                    have ea_ := Option.some.inj (hx426_0.symm.trans hx427_0)
                    injection ea_ with ea_ en_ ec_
                    subst ea_
                    subst ec_
                    clear en_
                    have ea_ := Option.some.inj (hx426_1.symm.trans hx427_1)
                    injection ea_ with ea_ en_ ec_
                    subst ea_
                    subst ec_
                    clear en_
                    go_wp2
                    go_roundg k2
                    case measure => have := HJ1.out; have := HK2.out; omega
                    case rel => exact ⟨(wrap64 (x3_2 + 1)), (by first | rfl | (simp; done) | (simp [*]; done)), H', ⟨by have := HJ1.out; have := HK2.out; omega⟩, ⟨by (with_reducible repeat (first | refine blk_drewN ?_ _ | refine blk_drew ?_ | refine blk_alloc ?_ _)); exact BK425.out⟩, ⟨by repeat (first | (with_reducible first | exact HB.out | apply below_alloc | apply pw_below_drewN | apply below_drew1 | refine below_set ?_ GE425.out) | exact HB.out)⟩⟩
              · rw [if_neg c9] at H
                exact absurd H (by simp)
            · rw [if_neg c8] at H
              have c8b0 : decide (x3_2 < (l0_3.length : Int)) = false := decide_eq_false c8
              clear c8
              obtain rfl := Option.some.inj H
              have hcz15_0 : wr.cell? ⟨gb425, 0, none⟩ = some (.int .i64 a0_0) := (blk_cell BK425.out 0).trans rfl
              have hcz15_1 : wr.cell? ⟨gb425, 1, none⟩ = some (.bool a0_1) := (blk_cell BK425.out 1).trans rfl
              have hcz15_2 : wr.cell? ⟨gb425, 2, none⟩ = some (.slice A0_2 l0_2.length c0_2) := (blk_cell BK425.out 2).trans rfl
              have hcz15_3 : wr.cell? ⟨gb425, 3, none⟩ = some (.slice A0_3 l0_3.length c0_3) := (blk_cell BK425.out 3).trans rfl
              have hfz15_0 := blk_frozen BK425.out 0
              have hfz15_1 := blk_frozen BK425.out 1
              have hfz15_2 := blk_frozen BK425.out 2
              have hfz15_3 := blk_frozen BK425.out 3
              go_wp2
              go_ret
              exact ⟨by first | rfl | (simp [errW_none, errW_some] <;> rfl) | (simp [*, errW_none, errW_some] <;> rfl), by repeat (first | (with_reducible first | exact HB.out | apply below_alloc | apply pw_below_drewN | apply below_drew1 | refine below_set ?_ GE425.out) | exact HB.out)⟩
end Go.Proofs.Ytfbjabpjfalmlaa.P
