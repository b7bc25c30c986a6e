-- Written by wip/gprint.py, a program of this session over the kit's print; Lean checks it.
import Derived.Test.YtpoaleejhdeclaaPx0
namespace Go.Proofs.Ytpoaleejhdeclaa.P
open Go.RowKit Go.Proofs.YtpoaleejhdeclaaW.PrintWords Go.Proofs.YtpoaleejhdeclaaW.PrintLast Go.Proofs.YtpoaleejhdeclaaW.PrintMore
attribute [local go_sem] max2_int min2_int max_two min_two max_three min_three max_four min_four   -- for this text's walks alone
set_option linter.unusedVariables false
set_option linter.unusedSimpArgs false

/-! ### banksmanref08_Few: function 10 -/
mutual
def banksmanref08_Few.j0 : Nat → Bool → List (S59) → List Int → Option (Bool)
  | 0, _, _, _ => none
  | k + 1, x13, x190000, x190001 => if x13 = true then (some false) else (banksmanref08_Few.l0 k 0 x190000 x190001)
def banksmanref08_Few.l0 : Nat → Int → List (S59) → List Int → Option (Bool)
  | 0, _, _, _ => none
  | k + 1, x3, x190000, x190001 => if x3 < (x190000.length : Int) then (if 0 ≤ x3 then (if (((rd_T59 x190000 x3).f1).length : Int) > 100 then (some false) else (if (((rd_T59 x190000 x3).f3).length : Int) > 100 then (some false) else (banksmanref08_Few.l0 k (wrap64 (x3 + 1)) x190000 x190001))) else (none)) else (some true)
end
def banksmanref08_Few.f (k : Nat) (l0_0 : List (S59)) (l0_1 : List Int) : Option (Bool) := if (l0_0.length : Int) > 30 then (banksmanref08_Few.j0 k true l0_0 l0_1) else (banksmanref08_Few.j0 k (decide ((l0_1.length : Int) > 30)) l0_0 l0_1)
theorem banksmanref08_Few.mono_l : ∀ k, (∀ y0 y1 y2, LeO (banksmanref08_Few.j0 k y0 y1 y2) (banksmanref08_Few.j0 (k + 1) y0 y1 y2)) ∧ (∀ y0 y1 y2, LeO (banksmanref08_Few.l0 k y0 y1 y2) (banksmanref08_Few.l0 (k + 1) y0 y1 y2))
  | 0 => ⟨fun _ _ _ r h => by simp [banksmanref08_Few.j0] at h, fun _ _ _ r h => by simp [banksmanref08_Few.l0] at h⟩
  | k + 1 => by
    obtain ⟨ih0, ih1⟩ := banksmanref08_Few.mono_l k
    refine ⟨?_, ?_⟩
    · intro y0 y1 y2
      unfold banksmanref08_Few.j0
      repeat' first
      | (with_reducible exact ih0 _ _ _)
      | (with_reducible exact ih1 _ _ _)
      | (with_reducible exact LeO.refl _)
      | (with_reducible exact LeO.none _)
      | (with_reducible refine LeO.ite ?_ ?_)
      | (with_reducible refine LeO.bind ?_ (fun _ => ?_))
      | exact ih0 _ _ _
      | exact ih1 _ _ _
      | exact LeO.none _
      | refine LeO.ite ?_ ?_
      | refine LeO.bind ?_ (fun _ => ?_)
    · intro y0 y1 y2
      unfold banksmanref08_Few.l0
      repeat' first
      | (with_reducible exact ih0 _ _ _)
      | (with_reducible exact ih1 _ _ _)
      | (with_reducible exact LeO.refl _)
      | (with_reducible exact LeO.none _)
      | (with_reducible refine LeO.ite ?_ ?_)
      | (with_reducible refine LeO.bind ?_ (fun _ => ?_))
      | exact ih0 _ _ _
      | exact ih1 _ _ _
      | exact LeO.none _
      | refine LeO.ite ?_ ?_
      | refine LeO.bind ?_ (fun _ => ?_)
theorem banksmanref08_Few.mono : ∀ a0 a1 k, LeO (banksmanref08_Few.f k a0 a1) (banksmanref08_Few.f (k + 1) a0 a1) := by
  intro a0 a1 k
  obtain ⟨ih0, ih1⟩ := banksmanref08_Few.mono_l k
  unfold banksmanref08_Few.f
  repeat' first
      | (with_reducible exact ih0 _ _ _)
      | (with_reducible exact ih1 _ _ _)
      | (with_reducible exact LeO.refl _)
      | (with_reducible exact LeO.none _)
      | (with_reducible refine LeO.ite ?_ ?_)
      | (with_reducible refine LeO.bind ?_ (fun _ => ?_))
      | exact ih0 _ _ _
      | exact ih1 _ _ _
      | exact LeO.none _
      | refine LeO.ite ?_ ?_
      | refine LeO.bind ?_ (fun _ => ?_)
set_option maxHeartbeats 8000000 in
set_option maxRecDepth 100000 in
theorem banksmanref08_Few.calls (k : Nat) (A0_0 : Option Addr) (c0_0 : Nat) (l0_0 : List (S59)) (A0_1 : Option Addr) (c0_1 : Nat) (l0_1 : List Int) (r : Bool) (w : World) (hr0_0 : Kd.C k59 w A0_0 l0_0.length l0_0) (hc0_0 : l0_0.length ≤ c0_0) (hr0_1 : Kd.C (Kd.int .i64) w A0_1 l0_1.length l0_1) (hc0_1 : l0_1.length ≤ c0_1) (h : banksmanref08_Few.f k l0_0 l0_1 = some r) :
    Calls Try.prog 10 #[.agg #[.slice A0_0 l0_0.length c0_0, .slice A0_1 l0_1.length c0_1]] w fun e w' => e = .returned (.bool r) ∧ Below w.heap.size w w' := by
  have hu33 := Try.underlying33
  have HR0_0 := Aside0.mk hr0_0
  have HC0_0 := Aside0.mk hc0_0
  clear hr0_0 hc0_0
  have HR0_1 := Aside0.mk hr0_1
  have HC0_1 := Aside0.mk hc0_1
  clear hr0_1 hc0_1
  have HB := Aside0.mk (Below.refl w.heap.size w)
  have H : (if (l0_0.length : Int) > 30 then (banksmanref08_Few.j0 k true l0_0 l0_1) else (banksmanref08_Few.j0 k (decide ((l0_1.length : Int) > 30)) l0_0 l0_1)) = some r := h
  clear h
  have HC2 := Aside0.mk H
  clear H
  go_enter Try.func10, Try.ntmps10
  go_upto_region 1 with (first | ((with_reducible refine gate_dst (N := 1) rfl ?_); (try (refine gate_guard (by rfl) ?_; dsimp only)); refine box_event ?hg (N := 1) ?hd (cs := #[.slice A0_0 l0_0.length c0_0, .slice A0_1 l0_1.length c0_1]) (t := 33) ?hr ?_; (case hd => rfl); (case hg => rfl); (case hr => first | (go_simp; done) | (go_simp; rfl)); intro gb189 hg w3 hbox hb; have n0_ := Aside0.mk (below_step (by repeat (first | (with_reducible first | exact HB.out | apply below_alloc | apply pw_below_drewN | apply below_drew1) | exact HB.out)) hb); have n1_ := Aside0.mk (hbox); have n2_ := Aside0.mk ((by rw [hg]; exact (below_size (by repeat (first | (with_reducible first | exact HB.out | apply below_alloc | apply pw_below_drewN | apply below_drew1) | exact HB.out))) : w.heap.size ≤ gb189)); have n3_ := Aside0.mk ((by rw [hg]; exact (below_size (by repeat (first | (with_reducible first | exact HB.out | apply below_alloc | apply pw_below_drewN | apply below_drew1) | exact HB.out))) : w.heap.size ≤ gb189)); clear HB; have HB := n0_; have BK189 := n1_; have GW189 := n2_; have GE189 := n3_; clear n0_ n1_ n2_ n3_; clear hb hbox hg))
  (try simp only [Act.put, List.setIfInBounds_toArray, List.set_cons_zero, List.set_cons_succ])
  go_cut [13] (fun v13 wc => ∃ (kq : Nat) (x13_1 : Bool), v13 = .bool x13_1 ∧ Aside0 (banksmanref08_Few.j0 kq x13_1 l0_0 l0_1 = some r) ∧ Aside0 (kq ≤ k) ∧ Aside0 (wc.heap[gb189]? = some (.cells #[(.slice A0_0 l0_0.length c0_0), (.slice A0_1 l0_1.length c0_1)] 33 (0, 0))) ∧ Aside0 (Below w.heap.size w wc))
  case first =>
    have H := HC2.out
    clear HC2
    by_cases c4 : (l0_0.length : Int) > 30
    · rw [if_pos c4] at H
      have c4b0 : decide (30 < (l0_0.length : Int)) = true := decide_eq_true c4
      have c4b1 : decide (30 < l0_0.length) = true := decide_eq_true (by omega)
      clear c4
      (first | rw [c4b0] | (simp only [i64_w, i32_w]; rw [c4b0]) | skip)
      have H' := Aside0.mk H
      clear H
      have hcz5_0 : w3.cell? ⟨gb189, 0, none⟩ = some (.slice A0_0 l0_0.length c0_0) := (blk_cell BK189.out 0).trans rfl
      have hcz5_1 : w3.cell? ⟨gb189, 1, none⟩ = some (.slice A0_1 l0_1.length c0_1) := (blk_cell BK189.out 1).trans rfl
      have hfz5_0 := blk_frozen BK189.out 0
      have hfz5_1 := blk_frozen BK189.out 1
      go_wp2
      go_meet
      case rel => exact ⟨_, (true), (by first | rfl | (simp; done) | (simp [*]; done)), H', ⟨by first | omega | exact Nat.le_refl _⟩, ⟨by (with_reducible repeat (first | refine blk_drewN ?_ _ | refine blk_drew ?_ | refine blk_alloc ?_ _)); exact BK189.out⟩, ⟨by repeat (first | (with_reducible first | exact HB.out | apply below_alloc | apply pw_below_drewN | apply below_drew1 | refine below_set ?_ GE189.out) | exact HB.out)⟩⟩
    · rw [if_neg c4] at H
      have c4b0 : decide (30 < (l0_0.length : Int)) = false := decide_eq_false c4
      have c4b1 : decide (30 < l0_0.length) = false := decide_eq_false (by omega)
      clear c4
      (first | rw [c4b0] | (simp only [i64_w, i32_w]; rw [c4b0]) | skip)
      have H' := Aside0.mk H
      clear H
      have hcz6_0 : w3.cell? ⟨gb189, 0, none⟩ = some (.slice A0_0 l0_0.length c0_0) := (blk_cell BK189.out 0).trans rfl
      have hcz6_1 : w3.cell? ⟨gb189, 1, none⟩ = some (.slice A0_1 l0_1.length c0_1) := (blk_cell BK189.out 1).trans rfl
      have hfz6_0 := blk_frozen BK189.out 0
      have hfz6_1 := blk_frozen BK189.out 1
      go_wp2
      go_meet
      case rel => exact ⟨_, (decide ((l0_1.length : Int) > 30)), (by first | rfl | (simp; done) | (simp [*]; done)), H', ⟨by first | omega | exact Nat.le_refl _⟩, ⟨by (with_reducible repeat (first | refine blk_drewN ?_ _ | refine blk_drew ?_ | refine blk_alloc ?_ _)); exact BK189.out⟩, ⟨by repeat (first | (with_reducible first | exact HB.out | apply below_alloc | apply pw_below_drewN | apply below_drew1 | refine below_set ?_ GE189.out) | exact HB.out)⟩⟩
  case rest =>
    clear HC2
    try clear c1
    try clear p2
    try clear c4
    try clear c4b0
    try clear c4b1
    try clear hcz5_0
    try clear hcz5_1
    try clear hcz6_0
    try clear hcz6_1
    try clear hfz5_0
    try clear hfz5_1
    try clear hfz6_0
    try clear hfz6_1
    obtain ⟨kq, x13_1, rfl, HA, HJ1, BK189, HB⟩ := hcut
    cases kq with
    | zero => exact absurd HA.out (by simp [banksmanref08_Few.j0])
    | succ kj1 =>
      have H := HA.out
      clear HA
      simp only [banksmanref08_Few.j0] at H
      by_cases c7 : x13_1 = true
      · subst c7
        have H1 : (some false) = some r := by rw [if_pos rfl] at H; exact H
        clear H
        have H := H1
        clear H1
        obtain rfl := Option.some.inj H
        go_wp2
        go_ret
        exact ⟨by first | rfl | (simp [errW_none, errW_some] <;> rfl) | (simp [*, errW_none, errW_some] <;> rfl), by repeat (first | (with_reducible first | exact HB.out | apply below_alloc | apply pw_below_drewN | apply below_drew1 | refine below_set ?_ GE189.out) | exact HB.out)⟩
      · replace c7 := Bool.eq_false_iff.mpr c7
        subst c7
        have H1 : (banksmanref08_Few.l0 kj1 0 l0_0 l0_1) = some r := by rw [if_neg (show ¬ (false = true) by decide)] at H; exact H
        clear H
        have H := H1
        clear H1
        have H' := Aside0.mk H
        clear H
        go_wp2
        go_loopg [3] kj1 (fun kq v3 w' => ∃ (x3_2 : Int), v3 = .int .i64 x3_2 ∧ Aside0 (banksmanref08_Few.l0 kq x3_2 l0_0 l0_1 = some r) ∧ Aside0 (kq ≤ kj1) ∧ Aside0 (w'.heap[gb189]? = some (.cells #[(.slice A0_0 l0_0.length c0_0), (.slice A0_1 l0_1.length c0_1)] 33 (0, 0))) ∧ Aside0 (Below w.heap.size w w'))
        case atStart => exact ⟨(0), (by first | rfl | (simp; done) | (simp [*]; done)), H', ⟨Nat.le_refl _⟩, ⟨by (with_reducible repeat (first | refine blk_drewN ?_ _ | refine blk_drew ?_ | refine blk_alloc ?_ _)); exact BK189.out⟩, ⟨by repeat (first | (with_reducible first | exact HB.out | apply below_alloc | apply pw_below_drewN | apply below_drew1 | refine below_set ?_ GE189.out) | exact HB.out)⟩⟩
        case round =>
          clear H'
          try clear c1
          try clear p2
          try clear c4
          try clear c4b0
          try clear c4b1
          try clear c7
          try clear hcz5_0
          try clear hcz5_1
          try clear hcz6_0
          try clear hcz6_1
          try clear hfz5_0
          try clear hfz5_1
          try clear hfz6_0
          try clear hfz6_1
          try clear p2
          obtain ⟨x3_2, rfl, HA, HK2, BK189, HB⟩ := hrel
          cases gk with
          | zero => exact absurd HA.out (by simp [banksmanref08_Few.l0])
          | succ k2 =>
            have H := HA.out
            clear HA
            simp only [banksmanref08_Few.l0] at H
            by_cases c8 : x3_2 < (l0_0.length : Int)
            · rw [if_pos c8] at H
              have c8b0 : decide (x3_2 < (l0_0.length : Int)) = true := decide_eq_true c8
              clear c8
              by_cases c9 : 0 ≤ x3_2
              · rw [if_pos c9] at H
                have c9b0 : decide (0 ≤ x3_2) = true := decide_eq_true c9
                clear c9
                by_cases c10 : (((rd_T59 l0_0 x3_2).f1).length : Int) > 100
                · rw [if_pos c10] at H
                  have c10b0 : decide (100 < (((rd_T59 l0_0 x3_2).f1).length : Int)) = true := decide_eq_true c10
                  have c10b1 : decide (100 < ((rd_T59 l0_0 x3_2).f1).length) = true := decide_eq_true (by omega)
                  clear c10
                  obtain rfl := Option.some.inj H
                  have hcz11_0 : wr.cell? ⟨gb189, 0, none⟩ = some (.slice A0_0 l0_0.length c0_0) := (blk_cell BK189.out 0).trans rfl
                  have hcz11_1 : wr.cell? ⟨gb189, 1, none⟩ = some (.slice A0_1 l0_1.length c0_1) := (blk_cell BK189.out 1).trans rfl
                  have hfz11_0 := blk_frozen BK189.out 0
                  have hfz11_1 := blk_frozen BK189.out 1
                  have p190 : 0 ≤ (x3_2 : Int) := of_decide_eq_true (by first | (with_reducible assumption) | assumption)
                  have q190 : x3_2 < (l0_0.length : Int) := of_decide_eq_true (by first | (with_reducible assumption) | assumption)
                  obtain ⟨ad190, A190_1, c190_1, A190_3, c190_3, e190, hx190_0, hx190_1, hx190_2, hx190_3, hl190_1, hi190_1, hl190_3, hi190_3⟩ := at_T59 HR0_0.out x3_2 p190 q190
                  cases e190
                  replace hx190_0 := (HB.out.cell (World.block_lt_of_cell? w _ hx190_0)).trans hx190_0
                  replace hx190_1 := (HB.out.cell (World.block_lt_of_cell? w _ hx190_1)).trans hx190_1
                  replace hx190_2 := (HB.out.cell (World.block_lt_of_cell? w _ hx190_2)).trans hx190_2
                  replace hx190_3 := (HB.out.cell (World.block_lt_of_cell? w _ hx190_3)).trans hx190_3
                  have HR190_1 := Aside0.mk hi190_1
                  have HC190_1 := Aside0.mk hl190_1
                  clear hi190_1 hl190_1
                  have HR190_3 := Aside0.mk hi190_3
                  have HC190_3 := Aside0.mk hl190_3
                  clear hi190_3 hl190_3
                  replace p190 := eq_true p190
                  replace q190 := eq_true q190
                  go_wp2
                  go_ret
                  exact ⟨by first | rfl | (simp [errW_none, errW_some] <;> rfl) | (simp [*, errW_none, errW_some] <;> rfl), by repeat (first | (with_reducible first | exact HB.out | apply below_alloc | apply pw_below_drewN | apply below_drew1 | refine below_set ?_ GE189.out) | exact HB.out)⟩
                · rw [if_neg c10] at H
                  have c10b0 : decide (100 < (((rd_T59 l0_0 x3_2).f1).length : Int)) = false := decide_eq_false c10
                  have c10b1 : decide (100 < ((rd_T59 l0_0 x3_2).f1).length) = false := decide_eq_false (by omega)
                  clear c10
                  by_cases c12 : (((rd_T59 l0_0 x3_2).f3).length : Int) > 100
                  · rw [if_pos c12] at H
                    have c12b0 : decide (100 < (((rd_T59 l0_0 x3_2).f3).length : Int)) = true := decide_eq_true c12
                    have c12b1 : decide (100 < ((rd_T59 l0_0 x3_2).f3).length) = true := decide_eq_true (by omega)
                    clear c12
                    obtain rfl := Option.some.inj H
                    have hcz13_0 : wr.cell? ⟨gb189, 0, none⟩ = some (.slice A0_0 l0_0.length c0_0) := (blk_cell BK189.out 0).trans rfl
                    have hcz13_1 : wr.cell? ⟨gb189, 1, none⟩ = some (.slice A0_1 l0_1.length c0_1) := (blk_cell BK189.out 1).trans rfl
                    have hfz13_0 := blk_frozen BK189.out 0
                    have hfz13_1 := blk_frozen BK189.out 1
                    have p190 : 0 ≤ (x3_2 : Int) := of_decide_eq_true (by first | (with_reducible assumption) | assumption)
                    have q190 : x3_2 < (l0_0.length : Int) := of_decide_eq_true (by first | (with_reducible assumption) | assumption)
                    obtain ⟨ad190, A190_1, c190_1, A190_3, c190_3, e190, hx190_0, hx190_1, hx190_2, hx190_3, hl190_1, hi190_1, hl190_3, hi190_3⟩ := at_T59 HR0_0.out x3_2 p190 q190
                    cases e190
                    replace hx190_0 := (HB.out.cell (World.block_lt_of_cell? w _ hx190_0)).trans hx190_0
                    replace hx190_1 := (HB.out.cell (World.block_lt_of_cell? w _ hx190_1)).trans hx190_1
                    replace hx190_2 := (HB.out.cell (World.block_lt_of_cell? w _ hx190_2)).trans hx190_2
                    replace hx190_3 := (HB.out.cell (World.block_lt_of_cell? w _ hx190_3)).trans hx190_3
                    have HR190_1 := Aside0.mk hi190_1
                    have HC190_1 := Aside0.mk hl190_1
                    clear hi190_1 hl190_1
                    have HR190_3 := Aside0.mk hi190_3
                    have HC190_3 := Aside0.mk hl190_3
                    clear hi190_3 hl190_3
                    replace p190 := eq_true p190
                    replace q190 := eq_true q190
                    have p191 : 0 ≤ (x3_2 : Int) := of_decide_eq_true (by first | (with_reducible assumption) | assumption)
                    have q191 : x3_2 < (l0_0.length : Int) := of_decide_eq_true (by first | (with_reducible assumption) | assumption)
                    obtain ⟨ad191, A191_1, c191_1, A191_3, c191_3, e191, hx191_0, hx191_1, hx191_2, hx191_3, hl191_1, hi191_1, hl191_3, hi191_3⟩ := at_T59 HR0_0.out x3_2 p191 q191
                    obtain rfl : ad190 = ad191 := (by injection e191)
                    replace hx191_0 := (HB.out.cell (World.block_lt_of_cell? w _ hx191_0)).trans hx191_0
                    replace hx191_1 := (HB.out.cell (World.block_lt_of_cell? w _ hx191_1)).trans hx191_1
                    replace hx191_2 := (HB.out.cell (World.block_lt_of_cell? w _ hx191_2)).trans hx191_2
                    replace hx191_3 := (HB.out.cell (World.block_lt_of_cell? w _ hx191_3)).trans hx191_3
                    have HR191_1 := Aside0.mk hi191_1
                    have HC191_1 := Aside0.mk hl191_1
                    clear hi191_1 hl191_1
                    have HR191_3 := Aside0.mk hi191_3
                    have HC191_3 := Aside0.mk hl191_3
                    clear hi191_3 hl191_3
                    replace p191 := eq_true p191
                    replace q191 := eq_true q191
                    have ea_ := Option.some.inj (hx190_1.symm.trans hx191_1)
                    injection ea_ with ea_ en_ ec_
                    subst ea_
                    subst ec_
                    clear en_
                    have ea_ := Option.some.inj (hx190_3.symm.trans hx191_3)
                    injection ea_ with ea_ en_ ec_
                    subst ea_
                    subst ec_
                    clear en_
                    go_wp2
                    go_ret
                    exact ⟨by first | rfl | (simp [errW_none, errW_some] <;> rfl) | (simp [*, errW_none, errW_some] <;> rfl), by repeat (first | (with_reducible first | exact HB.out | apply below_alloc | apply pw_below_drewN | apply below_drew1 | refine below_set ?_ GE189.out) | exact HB.out)⟩
                  · rw [if_neg c12] at H
                    have c12b0 : decide (100 < (((rd_T59 l0_0 x3_2).f3).length : Int)) = false := decide_eq_false c12
                    have c12b1 : decide (100 < ((rd_T59 l0_0 x3_2).f3).length) = false := decide_eq_false (by omega)
                    clear c12
                    have H' := Aside0.mk H
                    clear H
                    have hcz14_0 : wr.cell? ⟨gb189, 0, none⟩ = some (.slice A0_0 l0_0.length c0_0) := (blk_cell BK189.out 0).trans rfl
                    have hcz14_1 : wr.cell? ⟨gb189, 1, none⟩ = some (.slice A0_1 l0_1.length c0_1) := (blk_cell BK189.out 1).trans rfl
                    have hfz14_0 := blk_frozen BK189.out 0
                    have hfz14_1 := blk_frozen BK189.out 1
                    have p190 : 0 ≤ (x3_2 : Int) := of_decide_eq_true (by first | (with_reducible assumption) | assumption)
                    have q190 : x3_2 < (l0_0.length : Int) := of_decide_eq_true (by first | (with_reducible assumption) | assumption)
                    obtain ⟨ad190, A190_1, c190_1, A190_3, c190_3, e190, hx190_0, hx190_1, hx190_2, hx190_3, hl190_1, hi190_1, hl190_3, hi190_3⟩ := at_T59 HR0_0.out x3_2 p190 q190
                    cases e190
                    replace hx190_0 := (HB.out.cell (World.block_lt_of_cell? w _ hx190_0)).trans hx190_0
                    replace hx190_1 := (HB.out.cell (World.block_lt_of_cell? w _ hx190_1)).trans hx190_1
                    replace hx190_2 := (HB.out.cell (World.block_lt_of_cell? w _ hx190_2)).trans hx190_2
                    replace hx190_3 := (HB.out.cell (World.block_lt_of_cell? w _ hx190_3)).trans hx190_3
                    have HR190_1 := Aside0.mk hi190_1
                    have HC190_1 := Aside0.mk hl190_1
                    clear hi190_1 hl190_1
                    have HR190_3 := Aside0.mk hi190_3
                    have HC190_3 := Aside0.mk hl190_3
                    clear hi190_3 hl190_3
                    replace p190 := eq_true p190
                    replace q190 := eq_true q190
                    have p191 : 0 ≤ (x3_2 : Int) := of_decide_eq_true (by first | (with_reducible assumption) | assumption)
                    have q191 : x3_2 < (l0_0.length : Int) := of_decide_eq_true (by first | (with_reducible assumption) | assumption)
                    obtain ⟨ad191, A191_1, c191_1, A191_3, c191_3, e191, hx191_0, hx191_1, hx191_2, hx191_3, hl191_1, hi191_1, hl191_3, hi191_3⟩ := at_T59 HR0_0.out x3_2 p191 q191
                    obtain rfl : ad190 = ad191 := (by injection e191)
                    replace hx191_0 := (HB.out.cell (World.block_lt_of_cell? w _ hx191_0)).trans hx191_0
                    replace hx191_1 := (HB.out.cell (World.block_lt_of_cell? w _ hx191_1)).trans hx191_1
                    replace hx191_2 := (HB.out.cell (World.block_lt_of_cell? w _ hx191_2)).trans hx191_2
                    replace hx191_3 := (HB.out.cell (World.block_lt_of_cell? w _ hx191_3)).trans hx191_3
                    have HR191_1 := Aside0.mk hi191_1
                    have HC191_1 := Aside0.mk hl191_1
                    clear hi191_1 hl191_1
                    have HR191_3 := Aside0.mk hi191_3
                    have HC191_3 := Aside0.mk hl191_3
                    clear hi191_3 hl191_3
                    replace p191 := eq_true p191
                    replace q191 := eq_true q191
                    have ea_ := Option.some.inj (hx190_1.symm.trans hx191_1)
                    injection ea_ with ea_ en_ ec_
                    subst ea_
                    subst ec_
                    clear en_
                    have ea_ := Option.some.inj (hx190_3.symm.trans hx191_3)
                    injection ea_ with ea_ en_ ec_
                    subst ea_
                    subst ec_
                    clear en_
                    go_wp2
                    go_roundg k2
                    case measure => have := HJ1.out; have := HK2.out; omega
                    case rel => exact ⟨(wrap64 (x3_2 + 1)), (by first | rfl | (simp; done) | (simp [*]; done)), H', ⟨by have := HJ1.out; have := HK2.out; omega⟩, ⟨by (with_reducible repeat (first | refine blk_drewN ?_ _ | refine blk_drew ?_ | refine blk_alloc ?_ _)); exact BK189.out⟩, ⟨by repeat (first | (with_reducible first | exact HB.out | apply below_alloc | apply pw_below_drewN | apply below_drew1 | refine below_set ?_ GE189.out) | exact HB.out)⟩⟩
              · rw [if_neg c9] at H
                exact absurd H (by simp)
            · rw [if_neg c8] at H
              have c8b0 : decide (x3_2 < (l0_0.length : Int)) = false := decide_eq_false c8
              clear c8
              obtain rfl := Option.some.inj H
              have hcz15_0 : wr.cell? ⟨gb189, 0, none⟩ = some (.slice A0_0 l0_0.length c0_0) := (blk_cell BK189.out 0).trans rfl
              have hcz15_1 : wr.cell? ⟨gb189, 1, none⟩ = some (.slice A0_1 l0_1.length c0_1) := (blk_cell BK189.out 1).trans rfl
              have hfz15_0 := blk_frozen BK189.out 0
              have hfz15_1 := blk_frozen BK189.out 1
              go_wp2
              go_ret
              exact ⟨by first | rfl | (simp [errW_none, errW_some] <;> rfl) | (simp [*, errW_none, errW_some] <;> rfl), by repeat (first | (with_reducible first | exact HB.out | apply below_alloc | apply pw_below_drewN | apply below_drew1 | refine below_set ?_ GE189.out) | exact HB.out)⟩

end Go.Proofs.Ytpoaleejhdeclaa.P
