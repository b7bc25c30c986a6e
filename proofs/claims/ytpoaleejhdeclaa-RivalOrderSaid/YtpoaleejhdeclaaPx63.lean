-- Written by wip/gprint.py, a program of this session over the kit's print; Lean checks it.
import Derived.Test.YtpoaleejhdeclaaPx0
import Derived.Test.YtpoaleejhdeclaaPx40
import Derived.Test.YtpoaleejhdeclaaPx1
import Derived.Test.YtpoaleejhdeclaaPx42
import Derived.Test.YtpoaleejhdeclaaPx60
import Derived.Test.YtpoaleejhdeclaaPx62
namespace Go.Proofs.Ytpoaleejhdeclaa.P
open Go.RowKit Go.Proofs.YtpoaleejhdeclaaW.PrintWords Go.Proofs.YtpoaleejhdeclaaW.PrintLast Go.Proofs.YtpoaleejhdeclaaW.PrintMore
attribute [local go_sem] max2_int min2_int max_two min_two max_three min_three max_four min_four   -- for this text's walks alone
set_option linter.unusedVariables false
set_option linter.unusedSimpArgs false

/-! ### banksmanlaw14_RivalOrder: function 4 -/
def banksmanlaw14_RivalOrder.l0 : Nat → List (S43) → Bool → Int → Option (Bool)
  | 0, _, _, _ => none
  | k + 1, x0, x3, x4 => if x4 < (x0.length : Int) then (if 0 ≤ x4 then (if (((rd_T43 x0 x4).f2).length : Int) > 6 then (some x3) else (if (((rd_T43 x0 x4).f3).length : Int) > 6 then (some x3) else ((banksmanref10_Few.f k ((rd_T43 x0 x4).f2)).bind fun t404 => (if t404 = true then ((banksmanref08_Few.f k ((rd_T43 x0 x4).f3) ([] : List Int)).bind fun t406 => (if t406 = true then (banksmanlaw14_RivalOrder.l0 k x0 x3 (wrap64 (x4 + 1))) else (some x3))) else (some x3))))) else (none)) else ((banksmanlaw14_committed.f k x0).bind fun t394 => ((banksmanref14_Order.f k t394).bind fun bt397 => (if x3 = true then (if bt397.2 = true then (some ((bt397.1.length : Int) == (t394.length : Int))) else (some false)) else (some false))))
def banksmanlaw14_RivalOrder.f (k : Nat) (l0 : List (S43)) : Option (Bool) := (banksmanlaw14_awake.f).bind fun t393 => (if (l0.length : Int) > 8 then (some t393) else (banksmanlaw14_RivalOrder.l0 k l0 t393 0))
theorem banksmanlaw14_RivalOrder.mono_l : ∀ k, (∀ y0 y1 y2, LeO (banksmanlaw14_RivalOrder.l0 k y0 y1 y2) (banksmanlaw14_RivalOrder.l0 (k + 1) y0 y1 y2))
  | 0 => fun _ _ _ r h => by simp [banksmanlaw14_RivalOrder.l0] at h
  | k + 1 => by
    have ih0 := banksmanlaw14_RivalOrder.mono_l k
    · intro y0 y1 y2
      unfold banksmanlaw14_RivalOrder.l0
      repeat' first
      | (with_reducible exact ih0 _ _ _)
      | (with_reducible exact banksmanlaw14_committed.mono _ _)
      | (with_reducible exact banksmanref08_Few.mono _ _ _)
      | (with_reducible exact banksmanref10_Few.mono _ _)
      | (with_reducible exact banksmanref14_Order.mono _ _)
      | (with_reducible exact LeO.refl _)
      | (with_reducible exact LeO.none _)
      | (with_reducible refine LeO.ite ?_ ?_)
      | (with_reducible refine LeO.bind ?_ (fun _ => ?_))
      | exact ih0 _ _ _
      | exact banksmanlaw14_committed.mono _ _
      | exact banksmanref08_Few.mono _ _ _
      | exact banksmanref10_Few.mono _ _
      | exact banksmanref14_Order.mono _ _
      | exact LeO.none _
      | refine LeO.ite ?_ ?_
      | refine LeO.bind ?_ (fun _ => ?_)
theorem banksmanlaw14_RivalOrder.mono : ∀ a0 k, LeO (banksmanlaw14_RivalOrder.f k a0) (banksmanlaw14_RivalOrder.f (k + 1) a0) := by
  intro a0 k
  have ih0 := banksmanlaw14_RivalOrder.mono_l k
  unfold banksmanlaw14_RivalOrder.f
  repeat' first
      | (with_reducible exact ih0 _ _ _)
      | (with_reducible exact banksmanlaw14_committed.mono _ _)
      | (with_reducible exact banksmanref08_Few.mono _ _ _)
      | (with_reducible exact banksmanref10_Few.mono _ _)
      | (with_reducible exact banksmanref14_Order.mono _ _)
      | (with_reducible exact LeO.refl _)
      | (with_reducible exact LeO.none _)
      | (with_reducible refine LeO.ite ?_ ?_)
      | (with_reducible refine LeO.bind ?_ (fun _ => ?_))
      | exact ih0 _ _ _
      | exact banksmanlaw14_committed.mono _ _
      | exact banksmanref08_Few.mono _ _ _
      | exact banksmanref10_Few.mono _ _
      | exact banksmanref14_Order.mono _ _
      | exact LeO.none _
      | refine LeO.ite ?_ ?_
      | refine LeO.bind ?_ (fun _ => ?_)
set_option maxHeartbeats 8000000 in
set_option maxRecDepth 100000 in
theorem banksmanlaw14_RivalOrder.calls (k : Nat) (A0 : Option Addr) (c0 : Nat) (l0 : List (S43)) (r : Bool) (w : World) (hr0 : Kd.C k43 w A0 l0.length l0) (hc0 : l0.length ≤ c0) (h : banksmanlaw14_RivalOrder.f k l0 = some r) (HTr_ : r = true) :
    Calls Try.prog 4 #[.slice A0 l0.length c0] w fun e w' => e = .returned (.bool r) ∧ Below w.heap.size w w' := by
  have hu33 := Try.underlying33
  have HR0 := Aside0.mk hr0
  have HC0 := Aside0.mk hc0
  clear hr0 hc0
  have HB := Aside0.mk (Below.refl w.heap.size w)
  have H : ((banksmanlaw14_awake.f).bind fun t393 => (if (l0.length : Int) > 8 then (some t393) else (banksmanlaw14_RivalOrder.l0 k l0 t393 0))) = some r := h
  clear h
  replace H := Option.bind_eq_some_iff.mp H
  obtain ⟨t393, A20, H⟩ := H
  replace H : (if (l0.length : Int) > 8 then (some t393) else (banksmanlaw14_RivalOrder.l0 k l0 t393 0)) = some r := H
  have A2 := Aside0.mk A20
  clear A20
  by_cases c3 : (l0.length : Int) > 8
  · rw [if_pos c3] at H
    have c3b0 : decide (8 < (l0.length : Int)) = true := decide_eq_true c3
    have c3b1 : decide (8 < l0.length) = true := decide_eq_true (by omega)
    clear c3
    obtain rfl := Option.some.inj H
    go_enter Try.func4, Try.ntmps4
    go_wp2_with (first | ((with_reducible refine gate_callee (f := 8) rfl ?_); refine goesL_ (some 8) rfl rfl Try.func8 (by kernel_rfl) rfl #[] rfl (by (try simp only [List.map_toArray, List.map_cons, List.map_nil]); first | done | rfl | (simp only [List.length_drop, List.length_take]; rfl)) ?_; (with_reducible refine (banksmanlaw14_awake.calls  t393 _ A2.out).mono ?_); rintro e w4 ⟨rfl, hb⟩; refine ⟨_, rfl, ?_⟩; have n0_ := Aside0.mk (below_step (by repeat (first | (with_reducible first | exact HB.out | apply below_alloc | apply pw_below_drewN | apply below_drew1) | exact HB.out)) hb); clear HB; have HB := n0_; clear n0_; (try clear hb); (try clear hb2); (try clear hk); (try clear hi)))
    go_ret
    exact ⟨by first | rfl | (simp [errW_none, errW_some] <;> rfl) | (simp [*, errW_none, errW_some] <;> rfl), by repeat (first | (with_reducible first | exact HB.out | apply below_alloc | apply pw_below_drewN | apply below_drew1) | exact HB.out)⟩
  · rw [if_neg c3] at H
    have c3b0 : decide (8 < (l0.length : Int)) = false := decide_eq_false c3
    have c3b1 : decide (8 < l0.length) = false := decide_eq_false (by omega)
    clear c3
    have H' := Aside0.mk H
    clear H
    go_enter Try.func4, Try.ntmps4
    go_wp2_with (first | ((with_reducible refine gate_callee (f := 8) rfl ?_); refine goesL_ (some 8) rfl rfl Try.func8 (by kernel_rfl) rfl #[] rfl (by (try simp only [List.map_toArray, List.map_cons, List.map_nil]); first | done | rfl | (simp only [List.length_drop, List.length_take]; rfl)) ?_; (with_reducible refine (banksmanlaw14_awake.calls  t393 _ A2.out).mono ?_); rintro e w5 ⟨rfl, hb⟩; refine ⟨_, rfl, ?_⟩; have n0_ := Aside0.mk (below_step (by repeat (first | (with_reducible first | exact HB.out | apply below_alloc | apply pw_below_drewN | apply below_drew1) | exact HB.out)) hb); clear HB; have HB := n0_; clear n0_; (try clear hb); (try clear hb2); (try clear hk); (try clear hi)))
    go_loopg [4] k (fun kq v4 w' => ∃ (x4_1 : Int), v4 = .int .i64 x4_1 ∧ Aside0 (banksmanlaw14_RivalOrder.l0 kq l0 t393 x4_1 = some r) ∧ Aside0 (kq ≤ k) ∧ Aside0 (Below w.heap.size w w'))
    case atStart => exact ⟨(0), (by first | rfl | (simp; done) | (simp [*]; done)), H', ⟨Nat.le_refl _⟩, ⟨by repeat (first | (with_reducible first | exact HB.out | apply below_alloc | apply pw_below_drewN | apply below_drew1) | exact HB.out)⟩⟩
    case round =>
      clear H'
      try clear p2
      try clear c3
      try clear c3b0
      try clear c3b1
      try clear c4
      obtain ⟨x4_1, rfl, HA, HK1, HB⟩ := hrel
      cases gk with
      | zero => exact absurd HA.out (by simp [banksmanlaw14_RivalOrder.l0])
      | succ k1 =>
        have H := HA.out
        clear HA
        simp only [banksmanlaw14_RivalOrder.l0] at H
        by_cases c6 : x4_1 < (l0.length : Int)
        · rw [if_pos c6] at H
          have c6b0 : decide (x4_1 < (l0.length : Int)) = true := decide_eq_true c6
          clear c6
          by_cases c7 : 0 ≤ x4_1
          · rw [if_pos c7] at H
            have c7b0 : decide (0 ≤ x4_1) = true := decide_eq_true c7
            clear c7
            by_cases c8 : (((rd_T43 l0 x4_1).f2).length : Int) > 6
            · rw [if_pos c8] at H
              have c8b0 : decide (6 < (((rd_T43 l0 x4_1).f2).length : Int)) = true := decide_eq_true c8
              have c8b1 : decide (6 < ((rd_T43 l0 x4_1).f2).length) = true := decide_eq_true (by omega)
              clear c8
              first
                | exact absurd (Option.some.inj (H.trans (congrArg some HTr_))) (by decide)
                | skip
                  obtain rfl := Option.some.inj H
                  have p401 : 0 ≤ (x4_1 : Int) := of_decide_eq_true (by first | (with_reducible assumption) | assumption)
                  have q401 : x4_1 < (l0.length : Int) := of_decide_eq_true (by first | (with_reducible assumption) | assumption)
                  obtain ⟨ad401, A401_2, c401_2, A401_3, c401_3, e401, hx401_0, hx401_1, hx401_2, hx401_3, hx401_4, hl401_2, hi401_2, hl401_3, hi401_3⟩ := at_T43 HR0.out x4_1 p401 q401
                  cases e401
                  replace hx401_0 := (HB.out.cell (World.block_lt_of_cell? w _ hx401_0)).trans hx401_0
                  replace hx401_1 := (HB.out.cell (World.block_lt_of_cell? w _ hx401_1)).trans hx401_1
                  replace hx401_2 := (HB.out.cell (World.block_lt_of_cell? w _ hx401_2)).trans hx401_2
                  replace hx401_3 := (HB.out.cell (World.block_lt_of_cell? w _ hx401_3)).trans hx401_3
                  replace hx401_4 := (HB.out.cell (World.block_lt_of_cell? w _ hx401_4)).trans hx401_4
                  have HR401_2 := Aside0.mk hi401_2
                  have HC401_2 := Aside0.mk hl401_2
                  clear hi401_2 hl401_2
                  have HR401_3 := Aside0.mk hi401_3
                  have HC401_3 := Aside0.mk hl401_3
                  clear hi401_3 hl401_3
                  replace p401 := eq_true p401
                  replace q401 := eq_true q401
                  go_wp2
                  go_ret
                  exact ⟨by first | rfl | (simp [errW_none, errW_some] <;> rfl) | (simp [*, errW_none, errW_some] <;> rfl), by repeat (first | (with_reducible first | exact HB.out | apply below_alloc | apply pw_below_drewN | apply below_drew1) | exact HB.out)⟩
            · rw [if_neg c8] at H
              have c8b0 : decide (6 < (((rd_T43 l0 x4_1).f2).length : Int)) = false := decide_eq_false c8
              have c8b1 : decide (6 < ((rd_T43 l0 x4_1).f2).length) = false := decide_eq_false (by omega)
              clear c8
              by_cases c9 : (((rd_T43 l0 x4_1).f3).length : Int) > 6
              · rw [if_pos c9] at H
                have c9b0 : decide (6 < (((rd_T43 l0 x4_1).f3).length : Int)) = true := decide_eq_true c9
                have c9b1 : decide (6 < ((rd_T43 l0 x4_1).f3).length) = true := decide_eq_true (by omega)
                clear c9
                first
                  | exact absurd (Option.some.inj (H.trans (congrArg some HTr_))) (by decide)
                  | skip
                    obtain rfl := Option.some.inj H
                    have p401 : 0 ≤ (x4_1 : Int) := of_decide_eq_true (by first | (with_reducible assumption) | assumption)
                    have q401 : x4_1 < (l0.length : Int) := of_decide_eq_true (by first | (with_reducible assumption) | assumption)
                    obtain ⟨ad401, A401_2, c401_2, A401_3, c401_3, e401, hx401_0, hx401_1, hx401_2, hx401_3, hx401_4, hl401_2, hi401_2, hl401_3, hi401_3⟩ := at_T43 HR0.out x4_1 p401 q401
                    cases e401
                    replace hx401_0 := (HB.out.cell (World.block_lt_of_cell? w _ hx401_0)).trans hx401_0
                    replace hx401_1 := (HB.out.cell (World.block_lt_of_cell? w _ hx401_1)).trans hx401_1
                    replace hx401_2 := (HB.out.cell (World.block_lt_of_cell? w _ hx401_2)).trans hx401_2
                    replace hx401_3 := (HB.out.cell (World.block_lt_of_cell? w _ hx401_3)).trans hx401_3
                    replace hx401_4 := (HB.out.cell (World.block_lt_of_cell? w _ hx401_4)).trans hx401_4
                    have HR401_2 := Aside0.mk hi401_2
                    have HC401_2 := Aside0.mk hl401_2
                    clear hi401_2 hl401_2
                    have HR401_3 := Aside0.mk hi401_3
                    have HC401_3 := Aside0.mk hl401_3
                    clear hi401_3 hl401_3
                    replace p401 := eq_true p401
                    replace q401 := eq_true q401
                    have p402 : 0 ≤ (x4_1 : Int) := of_decide_eq_true (by first | (with_reducible assumption) | assumption)
                    have q402 : x4_1 < (l0.length : Int) := of_decide_eq_true (by first | (with_reducible assumption) | assumption)
                    obtain ⟨ad402, A402_2, c402_2, A402_3, c402_3, e402, hx402_0, hx402_1, hx402_2, hx402_3, hx402_4, hl402_2, hi402_2, hl402_3, hi402_3⟩ := at_T43 HR0.out x4_1 p402 q402
                    obtain rfl : ad401 = ad402 := (by injection e402)
                    replace hx402_0 := (HB.out.cell (World.block_lt_of_cell? w _ hx402_0)).trans hx402_0
                    replace hx402_1 := (HB.out.cell (World.block_lt_of_cell? w _ hx402_1)).trans hx402_1
                    replace hx402_2 := (HB.out.cell (World.block_lt_of_cell? w _ hx402_2)).trans hx402_2
                    replace hx402_3 := (HB.out.cell (World.block_lt_of_cell? w _ hx402_3)).trans hx402_3
                    replace hx402_4 := (HB.out.cell (World.block_lt_of_cell? w _ hx402_4)).trans hx402_4
                    have HR402_2 := Aside0.mk hi402_2
                    have HC402_2 := Aside0.mk hl402_2
                    clear hi402_2 hl402_2
                    have HR402_3 := Aside0.mk hi402_3
                    have HC402_3 := Aside0.mk hl402_3
                    clear hi402_3 hl402_3
                    replace p402 := eq_true p402
                    replace q402 := eq_true q402
                    have ea_ := Option.some.inj (hx401_2.symm.trans hx402_2)
                    injection ea_ with ea_ en_ ec_
                    subst ea_
                    subst ec_
                    clear en_
                    have ea_ := Option.some.inj (hx401_3.symm.trans hx402_3)
                    injection ea_ with ea_ en_ ec_
                    subst ea_
                    subst ec_
                    clear en_
                    go_wp2
                    go_ret
                    exact ⟨by first | rfl | (simp [errW_none, errW_some] <;> rfl) | (simp [*, errW_none, errW_some] <;> rfl), by repeat (first | (with_reducible first | exact HB.out | apply below_alloc | apply pw_below_drewN | apply below_drew1) | exact HB.out)⟩
              · rw [if_neg c9] at H
                have c9b0 : decide (6 < (((rd_T43 l0 x4_1).f3).length : Int)) = false := decide_eq_false c9
                have c9b1 : decide (6 < ((rd_T43 l0 x4_1).f3).length) = false := decide_eq_false (by omega)
                clear c9
                replace H := Option.bind_eq_some_iff.mp H
                obtain ⟨t404, A100, H⟩ := H
                replace H : (if t404 = true then ((banksmanref08_Few.f k1 ((rd_T43 l0 x4_1).f3) ([] : List Int)).bind fun t406 => (if t406 = true then (banksmanlaw14_RivalOrder.l0 k1 l0 t393 (wrap64 (x4_1 + 1))) else (some t393))) else (some t393)) = some r := H
                have A10 := Aside0.mk A100
                clear A100
                by_cases c11 : t404 = true
                · subst c11
                  have H1 : ((banksmanref08_Few.f k1 ((rd_T43 l0 x4_1).f3) ([] : List Int)).bind fun t406 => (if t406 = true then (banksmanlaw14_RivalOrder.l0 k1 l0 t393 (wrap64 (x4_1 + 1))) else (some t393))) = some r := by rw [if_pos rfl] at H; exact H
                  clear H
                  have H := H1
                  clear H1
                  replace H := Option.bind_eq_some_iff.mp H
                  obtain ⟨t406, A120, H⟩ := H
                  replace H : (if t406 = true then (banksmanlaw14_RivalOrder.l0 k1 l0 t393 (wrap64 (x4_1 + 1))) else (some t393)) = some r := H
                  have A12 := Aside0.mk A120
                  clear A120
                  by_cases c13 : t406 = true
                  · subst c13
                    have H1 : (banksmanlaw14_RivalOrder.l0 k1 l0 t393 (wrap64 (x4_1 + 1))) = some r := by rw [if_pos rfl] at H; exact H
                    clear H
                    have H := H1
                    clear H1
                    have H' := Aside0.mk H
                    clear H
                    have p401 : 0 ≤ (x4_1 : Int) := of_decide_eq_true (by first | (with_reducible assumption) | assumption)
                    have q401 : x4_1 < (l0.length : Int) := of_decide_eq_true (by first | (with_reducible assumption) | assumption)
                    obtain ⟨ad401, A401_2, c401_2, A401_3, c401_3, e401, hx401_0, hx401_1, hx401_2, hx401_3, hx401_4, hl401_2, hi401_2, hl401_3, hi401_3⟩ := at_T43 HR0.out x4_1 p401 q401
                    cases e401
                    replace hx401_0 := (HB.out.cell (World.block_lt_of_cell? w _ hx401_0)).trans hx401_0
                    replace hx401_1 := (HB.out.cell (World.block_lt_of_cell? w _ hx401_1)).trans hx401_1
                    replace hx401_2 := (HB.out.cell (World.block_lt_of_cell? w _ hx401_2)).trans hx401_2
                    replace hx401_3 := (HB.out.cell (World.block_lt_of_cell? w _ hx401_3)).trans hx401_3
                    replace hx401_4 := (HB.out.cell (World.block_lt_of_cell? w _ hx401_4)).trans hx401_4
                    have HR401_2 := Aside0.mk hi401_2
                    have HC401_2 := Aside0.mk hl401_2
                    clear hi401_2 hl401_2
                    have HR401_3 := Aside0.mk hi401_3
                    have HC401_3 := Aside0.mk hl401_3
                    clear hi401_3 hl401_3
                    replace p401 := eq_true p401
                    replace q401 := eq_true q401
                    have p402 : 0 ≤ (x4_1 : Int) := of_decide_eq_true (by first | (with_reducible assumption) | assumption)
                    have q402 : x4_1 < (l0.length : Int) := of_decide_eq_true (by first | (with_reducible assumption) | assumption)
                    obtain ⟨ad402, A402_2, c402_2, A402_3, c402_3, e402, hx402_0, hx402_1, hx402_2, hx402_3, hx402_4, hl402_2, hi402_2, hl402_3, hi402_3⟩ := at_T43 HR0.out x4_1 p402 q402
                    obtain rfl : ad401 = ad402 := (by injection e402)
                    replace hx402_0 := (HB.out.cell (World.block_lt_of_cell? w _ hx402_0)).trans hx402_0
                    replace hx402_1 := (HB.out.cell (World.block_lt_of_cell? w _ hx402_1)).trans hx402_1
                    replace hx402_2 := (HB.out.cell (World.block_lt_of_cell? w _ hx402_2)).trans hx402_2
                    replace hx402_3 := (HB.out.cell (World.block_lt_of_cell? w _ hx402_3)).trans hx402_3
                    replace hx402_4 := (HB.out.cell (World.block_lt_of_cell? w _ hx402_4)).trans hx402_4
                    have HR402_2 := Aside0.mk hi402_2
                    have HC402_2 := Aside0.mk hl402_2
                    clear hi402_2 hl402_2
                    have HR402_3 := Aside0.mk hi402_3
                    have HC402_3 := Aside0.mk hl402_3
                    clear hi402_3 hl402_3
                    replace p402 := eq_true p402
                    replace q402 := eq_true q402
                    have ea_ := Option.some.inj (hx401_2.symm.trans hx402_2)
                    injection ea_ with ea_ en_ ec_
                    subst ea_
                    subst ec_
                    clear en_
                    have ea_ := Option.some.inj (hx401_3.symm.trans hx402_3)
                    injection ea_ with ea_ en_ ec_
                    subst ea_
                    subst ec_
                    clear en_
                    have p403 : 0 ≤ (x4_1 : Int) := of_decide_eq_true (by first | (with_reducible assumption) | assumption)
                    have q403 : x4_1 < (l0.length : Int) := of_decide_eq_true (by first | (with_reducible assumption) | assumption)
                    obtain ⟨ad403, A403_2, c403_2, A403_3, c403_3, e403, hx403_0, hx403_1, hx403_2, hx403_3, hx403_4, hl403_2, hi403_2, hl403_3, hi403_3⟩ := at_T43 HR0.out x4_1 p403 q403
                    obtain rfl : ad401 = ad403 := (by injection e403)
                    replace hx403_0 := (HB.out.cell (World.block_lt_of_cell? w _ hx403_0)).trans hx403_0
                    replace hx403_1 := (HB.out.cell (World.block_lt_of_cell? w _ hx403_1)).trans hx403_1
                    replace hx403_2 := (HB.out.cell (World.block_lt_of_cell? w _ hx403_2)).trans hx403_2
                    replace hx403_3 := (HB.out.cell (World.block_lt_of_cell? w _ hx403_3)).trans hx403_3
                    replace hx403_4 := (HB.out.cell (World.block_lt_of_cell? w _ hx403_4)).trans hx403_4
                    have HR403_2 := Aside0.mk hi403_2
                    have HC403_2 := Aside0.mk hl403_2
                    clear hi403_2 hl403_2
                    have HR403_3 := Aside0.mk hi403_3
                    have HC403_3 := Aside0.mk hl403_3
                    clear hi403_3 hl403_3
                    replace p403 := eq_true p403
                    replace q403 := eq_true q403
                    have ea_ := Option.some.inj (hx401_2.symm.trans hx403_2)
                    injection ea_ with ea_ en_ ec_
                    subst ea_
                    subst ec_
                    clear en_
                    have ea_ := Option.some.inj (hx401_3.symm.trans hx403_3)
                    injection ea_ with ea_ en_ ec_
                    subst ea_
                    subst ec_
                    clear en_
                    go_wp2_with (first | (go_at_call 9; (with_reducible refine (banksmanref10_Few.calls k1 _ _ ((rd_T43 l0 x4_1).f2) true _ ?side1 ?side2 A10.out).mono ?_); (case side1 => repeat (first | exact (Kd.C_below HR403_2.out HB.out) | (with_reducible refine Kd.C_alloc ?_ _) | (with_reducible refine Kd.C_drewN ?_ _) | (with_reducible refine Kd.C_drew ?_))); (case side2 => exact HC403_2.out); rintro e w' ⟨rfl, ⟨nd, rfl⟩⟩; have p405 : 0 ≤ (x4_1 : Int) := of_decide_eq_true (by first | (with_reducible assumption) | assumption); have q405 : x4_1 < (l0.length : Int) := of_decide_eq_true (by first | (with_reducible assumption) | assumption); obtain ⟨ad405, A405_2, c405_2, A405_3, c405_3, e405, hx405_0, hx405_1, hx405_2, hx405_3, hx405_4, hl405_2, hi405_2, hl405_3, hi405_3⟩ := at_T43 HR0.out x4_1 p405 q405; obtain rfl : ad401 = ad405 := (by injection e405); replace hx405_0 := (HB.out.cell (World.block_lt_of_cell? w _ hx405_0)).trans hx405_0; replace hx405_1 := (HB.out.cell (World.block_lt_of_cell? w _ hx405_1)).trans hx405_1; replace hx405_2 := (HB.out.cell (World.block_lt_of_cell? w _ hx405_2)).trans hx405_2; replace hx405_3 := (HB.out.cell (World.block_lt_of_cell? w _ hx405_3)).trans hx405_3; replace hx405_4 := (HB.out.cell (World.block_lt_of_cell? w _ hx405_4)).trans hx405_4; have HR405_2 := Aside0.mk hi405_2; have HC405_2 := Aside0.mk hl405_2; clear hi405_2 hl405_2; have HR405_3 := Aside0.mk hi405_3; have HC405_3 := Aside0.mk hl405_3; clear hi405_3 hl405_3; replace p405 := eq_true p405; replace q405 := eq_true q405; have ea_ := Option.some.inj (hx401_2.symm.trans hx405_2); injection ea_ with ea_ en_ ec_; subst ea_; subst ec_; clear en_; have ea_ := Option.some.inj (hx401_3.symm.trans hx405_3); injection ea_ with ea_ en_ ec_; subst ea_; subst ec_; clear en_) | (go_at_call 10; (refine (banksmanref08_Few.calls k1 _ _ ((rd_T43 l0 x4_1).f3) _ _ ([] : List Int) true _ ?side1 ?side2 ?side3 ?side4 A12.out).mono ?_); (case side1 => repeat (first | exact (Kd.C_below HR405_3.out (by repeat (first | (with_reducible first | exact HB.out | apply below_alloc | apply pw_below_drewN | apply below_drew1) | exact HB.out))) | (with_reducible refine Kd.C_alloc ?_ _) | (with_reducible refine Kd.C_drewN ?_ _) | (with_reducible refine Kd.C_drew ?_))); (case side2 => exact HC405_3.out); (case side3 => exact Kd.C_nil _ _); (case side4 => exact Nat.le_refl _); rintro e w14 ⟨rfl, hb⟩; have n0_ := Aside0.mk (below_step (by repeat (first | (with_reducible first | exact HB.out | apply below_alloc | apply pw_below_drewN | apply below_drew1) | exact HB.out)) hb); clear HB; have HB := n0_; clear n0_; (try clear hb); (try clear hb2); (try clear hk); (try clear hi)))
                    go_roundg k1
                    case measure => have := HK1.out; omega
                    case rel => exact ⟨(wrap64 (x4_1 + 1)), (by first | rfl | (simp; done) | (simp [*]; done)), H', ⟨by have := HK1.out; omega⟩, ⟨by repeat (first | (with_reducible first | exact HB.out | apply below_alloc | apply pw_below_drewN | apply below_drew1) | exact HB.out)⟩⟩
                  · replace c13 := Bool.eq_false_iff.mpr c13
                    subst c13
                    have H1 : (some t393) = some r := by rw [if_neg (show ¬ (false = true) by decide)] at H; exact H
                    clear H
                    have H := H1
                    clear H1
                    obtain rfl := Option.some.inj H
                    have p401 : 0 ≤ (x4_1 : Int) := of_decide_eq_true (by first | (with_reducible assumption) | assumption)
                    have q401 : x4_1 < (l0.length : Int) := of_decide_eq_true (by first | (with_reducible assumption) | assumption)
                    obtain ⟨ad401, A401_2, c401_2, A401_3, c401_3, e401, hx401_0, hx401_1, hx401_2, hx401_3, hx401_4, hl401_2, hi401_2, hl401_3, hi401_3⟩ := at_T43 HR0.out x4_1 p401 q401
                    cases e401
                    replace hx401_0 := (HB.out.cell (World.block_lt_of_cell? w _ hx401_0)).trans hx401_0
                    replace hx401_1 := (HB.out.cell (World.block_lt_of_cell? w _ hx401_1)).trans hx401_1
                    replace hx401_2 := (HB.out.cell (World.block_lt_of_cell? w _ hx401_2)).trans hx401_2
                    replace hx401_3 := (HB.out.cell (World.block_lt_of_cell? w _ hx401_3)).trans hx401_3
                    replace hx401_4 := (HB.out.cell (World.block_lt_of_cell? w _ hx401_4)).trans hx401_4
                    have HR401_2 := Aside0.mk hi401_2
                    have HC401_2 := Aside0.mk hl401_2
                    clear hi401_2 hl401_2
                    have HR401_3 := Aside0.mk hi401_3
                    have HC401_3 := Aside0.mk hl401_3
                    clear hi401_3 hl401_3
                    replace p401 := eq_true p401
                    replace q401 := eq_true q401
                    have p402 : 0 ≤ (x4_1 : Int) := of_decide_eq_true (by first | (with_reducible assumption) | assumption)
                    have q402 : x4_1 < (l0.length : Int) := of_decide_eq_true (by first | (with_reducible assumption) | assumption)
                    obtain ⟨ad402, A402_2, c402_2, A402_3, c402_3, e402, hx402_0, hx402_1, hx402_2, hx402_3, hx402_4, hl402_2, hi402_2, hl402_3, hi402_3⟩ := at_T43 HR0.out x4_1 p402 q402
                    obtain rfl : ad401 = ad402 := (by injection e402)
                    replace hx402_0 := (HB.out.cell (World.block_lt_of_cell? w _ hx402_0)).trans hx402_0
                    replace hx402_1 := (HB.out.cell (World.block_lt_of_cell? w _ hx402_1)).trans hx402_1
                    replace hx402_2 := (HB.out.cell (World.block_lt_of_cell? w _ hx402_2)).trans hx402_2
                    replace hx402_3 := (HB.out.cell (World.block_lt_of_cell? w _ hx402_3)).trans hx402_3
                    replace hx402_4 := (HB.out.cell (World.block_lt_of_cell? w _ hx402_4)).trans hx402_4
                    have HR402_2 := Aside0.mk hi402_2
                    have HC402_2 := Aside0.mk hl402_2
                    clear hi402_2 hl402_2
                    have HR402_3 := Aside0.mk hi402_3
                    have HC402_3 := Aside0.mk hl402_3
                    clear hi402_3 hl402_3
                    replace p402 := eq_true p402
                    replace q402 := eq_true q402
                    have ea_ := Option.some.inj (hx401_2.symm.trans hx402_2)
                    injection ea_ with ea_ en_ ec_
                    subst ea_
                    subst ec_
                    clear en_
                    have ea_ := Option.some.inj (hx401_3.symm.trans hx402_3)
                    injection ea_ with ea_ en_ ec_
                    subst ea_
                    subst ec_
                    clear en_
                    have p403 : 0 ≤ (x4_1 : Int) := of_decide_eq_true (by first | (with_reducible assumption) | assumption)
                    have q403 : x4_1 < (l0.length : Int) := of_decide_eq_true (by first | (with_reducible assumption) | assumption)
                    obtain ⟨ad403, A403_2, c403_2, A403_3, c403_3, e403, hx403_0, hx403_1, hx403_2, hx403_3, hx403_4, hl403_2, hi403_2, hl403_3, hi403_3⟩ := at_T43 HR0.out x4_1 p403 q403
                    obtain rfl : ad401 = ad403 := (by injection e403)
                    replace hx403_0 := (HB.out.cell (World.block_lt_of_cell? w _ hx403_0)).trans hx403_0
                    replace hx403_1 := (HB.out.cell (World.block_lt_of_cell? w _ hx403_1)).trans hx403_1
                    replace hx403_2 := (HB.out.cell (World.block_lt_of_cell? w _ hx403_2)).trans hx403_2
                    replace hx403_3 := (HB.out.cell (World.block_lt_of_cell? w _ hx403_3)).trans hx403_3
                    replace hx403_4 := (HB.out.cell (World.block_lt_of_cell? w _ hx403_4)).trans hx403_4
                    have HR403_2 := Aside0.mk hi403_2
                    have HC403_2 := Aside0.mk hl403_2
                    clear hi403_2 hl403_2
                    have HR403_3 := Aside0.mk hi403_3
                    have HC403_3 := Aside0.mk hl403_3
                    clear hi403_3 hl403_3
                    replace p403 := eq_true p403
                    replace q403 := eq_true q403
                    have ea_ := Option.some.inj (hx401_2.symm.trans hx403_2)
                    injection ea_ with ea_ en_ ec_
                    subst ea_
                    subst ec_
                    clear en_
                    have ea_ := Option.some.inj (hx401_3.symm.trans hx403_3)
                    injection ea_ with ea_ en_ ec_
                    subst ea_
                    subst ec_
                    clear en_
                    go_wp2_with (first | (go_at_call 9; (with_reducible refine (banksmanref10_Few.calls k1 _ _ ((rd_T43 l0 x4_1).f2) true _ ?side1 ?side2 A10.out).mono ?_); (case side1 => repeat (first | exact (Kd.C_below HR403_2.out HB.out) | (with_reducible refine Kd.C_alloc ?_ _) | (with_reducible refine Kd.C_drewN ?_ _) | (with_reducible refine Kd.C_drew ?_))); (case side2 => exact HC403_2.out); rintro e w' ⟨rfl, ⟨nd, rfl⟩⟩; have p405 : 0 ≤ (x4_1 : Int) := of_decide_eq_true (by first | (with_reducible assumption) | assumption); have q405 : x4_1 < (l0.length : Int) := of_decide_eq_true (by first | (with_reducible assumption) | assumption); obtain ⟨ad405, A405_2, c405_2, A405_3, c405_3, e405, hx405_0, hx405_1, hx405_2, hx405_3, hx405_4, hl405_2, hi405_2, hl405_3, hi405_3⟩ := at_T43 HR0.out x4_1 p405 q405; obtain rfl : ad401 = ad405 := (by injection e405); replace hx405_0 := (HB.out.cell (World.block_lt_of_cell? w _ hx405_0)).trans hx405_0; replace hx405_1 := (HB.out.cell (World.block_lt_of_cell? w _ hx405_1)).trans hx405_1; replace hx405_2 := (HB.out.cell (World.block_lt_of_cell? w _ hx405_2)).trans hx405_2; replace hx405_3 := (HB.out.cell (World.block_lt_of_cell? w _ hx405_3)).trans hx405_3; replace hx405_4 := (HB.out.cell (World.block_lt_of_cell? w _ hx405_4)).trans hx405_4; have HR405_2 := Aside0.mk hi405_2; have HC405_2 := Aside0.mk hl405_2; clear hi405_2 hl405_2; have HR405_3 := Aside0.mk hi405_3; have HC405_3 := Aside0.mk hl405_3; clear hi405_3 hl405_3; replace p405 := eq_true p405; replace q405 := eq_true q405; have ea_ := Option.some.inj (hx401_2.symm.trans hx405_2); injection ea_ with ea_ en_ ec_; subst ea_; subst ec_; clear en_; have ea_ := Option.some.inj (hx401_3.symm.trans hx405_3); injection ea_ with ea_ en_ ec_; subst ea_; subst ec_; clear en_) | (go_at_call 10; (refine (banksmanref08_Few.calls k1 _ _ ((rd_T43 l0 x4_1).f3) _ _ ([] : List Int) false _ ?side1 ?side2 ?side3 ?side4 A12.out).mono ?_); (case side1 => repeat (first | exact (Kd.C_below HR405_3.out (by repeat (first | (with_reducible first | exact HB.out | apply below_alloc | apply pw_below_drewN | apply below_drew1) | exact HB.out))) | (with_reducible refine Kd.C_alloc ?_ _) | (with_reducible refine Kd.C_drewN ?_ _) | (with_reducible refine Kd.C_drew ?_))); (case side2 => exact HC405_3.out); (case side3 => exact Kd.C_nil _ _); (case side4 => exact Nat.le_refl _); rintro e w15 ⟨rfl, hb⟩; have n0_ := Aside0.mk (below_step (by repeat (first | (with_reducible first | exact HB.out | apply below_alloc | apply pw_below_drewN | apply below_drew1) | exact HB.out)) hb); clear HB; have HB := n0_; clear n0_; (try clear hb); (try clear hb2); (try clear hk); (try clear hi)))
                    go_ret
                    exact ⟨by first | rfl | (simp [errW_none, errW_some] <;> rfl) | (simp [*, errW_none, errW_some] <;> rfl), by repeat (first | (with_reducible first | exact HB.out | apply below_alloc | apply pw_below_drewN | apply below_drew1) | exact HB.out)⟩
                · replace c11 := Bool.eq_false_iff.mpr c11
                  subst c11
                  have H1 : (some t393) = some r := by rw [if_neg (show ¬ (false = true) by decide)] at H; exact H
                  clear H
                  have H := H1
                  clear H1
                  obtain rfl := Option.some.inj H
                  have p401 : 0 ≤ (x4_1 : Int) := of_decide_eq_true (by first | (with_reducible assumption) | assumption)
                  have q401 : x4_1 < (l0.length : Int) := of_decide_eq_true (by first | (with_reducible assumption) | assumption)
                  obtain ⟨ad401, A401_2, c401_2, A401_3, c401_3, e401, hx401_0, hx401_1, hx401_2, hx401_3, hx401_4, hl401_2, hi401_2, hl401_3, hi401_3⟩ := at_T43 HR0.out x4_1 p401 q401
                  cases e401
                  replace hx401_0 := (HB.out.cell (World.block_lt_of_cell? w _ hx401_0)).trans hx401_0
                  replace hx401_1 := (HB.out.cell (World.block_lt_of_cell? w _ hx401_1)).trans hx401_1
                  replace hx401_2 := (HB.out.cell (World.block_lt_of_cell? w _ hx401_2)).trans hx401_2
                  replace hx401_3 := (HB.out.cell (World.block_lt_of_cell? w _ hx401_3)).trans hx401_3
                  replace hx401_4 := (HB.out.cell (World.block_lt_of_cell? w _ hx401_4)).trans hx401_4
                  have HR401_2 := Aside0.mk hi401_2
                  have HC401_2 := Aside0.mk hl401_2
                  clear hi401_2 hl401_2
                  have HR401_3 := Aside0.mk hi401_3
                  have HC401_3 := Aside0.mk hl401_3
                  clear hi401_3 hl401_3
                  replace p401 := eq_true p401
                  replace q401 := eq_true q401
                  have p402 : 0 ≤ (x4_1 : Int) := of_decide_eq_true (by first | (with_reducible assumption) | assumption)
                  have q402 : x4_1 < (l0.length : Int) := of_decide_eq_true (by first | (with_reducible assumption) | assumption)
                  obtain ⟨ad402, A402_2, c402_2, A402_3, c402_3, e402, hx402_0, hx402_1, hx402_2, hx402_3, hx402_4, hl402_2, hi402_2, hl402_3, hi402_3⟩ := at_T43 HR0.out x4_1 p402 q402
                  obtain rfl : ad401 = ad402 := (by injection e402)
                  replace hx402_0 := (HB.out.cell (World.block_lt_of_cell? w _ hx402_0)).trans hx402_0
                  replace hx402_1 := (HB.out.cell (World.block_lt_of_cell? w _ hx402_1)).trans hx402_1
                  replace hx402_2 := (HB.out.cell (World.block_lt_of_cell? w _ hx402_2)).trans hx402_2
                  replace hx402_3 := (HB.out.cell (World.block_lt_of_cell? w _ hx402_3)).trans hx402_3
                  replace hx402_4 := (HB.out.cell (World.block_lt_of_cell? w _ hx402_4)).trans hx402_4
                  have HR402_2 := Aside0.mk hi402_2
                  have HC402_2 := Aside0.mk hl402_2
                  clear hi402_2 hl402_2
                  have HR402_3 := Aside0.mk hi402_3
                  have HC402_3 := Aside0.mk hl402_3
                  clear hi402_3 hl402_3
                  replace p402 := eq_true p402
                  replace q402 := eq_true q402
                  have ea_ := Option.some.inj (hx401_2.symm.trans hx402_2)
                  injection ea_ with ea_ en_ ec_
                  subst ea_
                  subst ec_
                  clear en_
                  have ea_ := Option.some.inj (hx401_3.symm.trans hx402_3)
                  injection ea_ with ea_ en_ ec_
                  subst ea_
                  subst ec_
                  clear en_
                  have p403 : 0 ≤ (x4_1 : Int) := of_decide_eq_true (by first | (with_reducible assumption) | assumption)
                  have q403 : x4_1 < (l0.length : Int) := of_decide_eq_true (by first | (with_reducible assumption) | assumption)
                  obtain ⟨ad403, A403_2, c403_2, A403_3, c403_3, e403, hx403_0, hx403_1, hx403_2, hx403_3, hx403_4, hl403_2, hi403_2, hl403_3, hi403_3⟩ := at_T43 HR0.out x4_1 p403 q403
                  obtain rfl : ad401 = ad403 := (by injection e403)
                  replace hx403_0 := (HB.out.cell (World.block_lt_of_cell? w _ hx403_0)).trans hx403_0
                  replace hx403_1 := (HB.out.cell (World.block_lt_of_cell? w _ hx403_1)).trans hx403_1
                  replace hx403_2 := (HB.out.cell (World.block_lt_of_cell? w _ hx403_2)).trans hx403_2
                  replace hx403_3 := (HB.out.cell (World.block_lt_of_cell? w _ hx403_3)).trans hx403_3
                  replace hx403_4 := (HB.out.cell (World.block_lt_of_cell? w _ hx403_4)).trans hx403_4
                  have HR403_2 := Aside0.mk hi403_2
                  have HC403_2 := Aside0.mk hl403_2
                  clear hi403_2 hl403_2
                  have HR403_3 := Aside0.mk hi403_3
                  have HC403_3 := Aside0.mk hl403_3
                  clear hi403_3 hl403_3
                  replace p403 := eq_true p403
                  replace q403 := eq_true q403
                  have ea_ := Option.some.inj (hx401_2.symm.trans hx403_2)
                  injection ea_ with ea_ en_ ec_
                  subst ea_
                  subst ec_
                  clear en_
                  have ea_ := Option.some.inj (hx401_3.symm.trans hx403_3)
                  injection ea_ with ea_ en_ ec_
                  subst ea_
                  subst ec_
                  clear en_
                  go_wp2_with (first | (go_at_call 9; (with_reducible refine (banksmanref10_Few.calls k1 _ _ ((rd_T43 l0 x4_1).f2) false _ ?side1 ?side2 A10.out).mono ?_); (case side1 => repeat (first | exact (Kd.C_below HR403_2.out HB.out) | (with_reducible refine Kd.C_alloc ?_ _) | (with_reducible refine Kd.C_drewN ?_ _) | (with_reducible refine Kd.C_drew ?_))); (case side2 => exact HC403_2.out); rintro e w' ⟨rfl, ⟨nd, rfl⟩⟩))
                  go_ret
                  exact ⟨by first | rfl | (simp [errW_none, errW_some] <;> rfl) | (simp [*, errW_none, errW_some] <;> rfl), by repeat (first | (with_reducible first | exact HB.out | apply below_alloc | apply pw_below_drewN | apply below_drew1) | exact HB.out)⟩
          · rw [if_neg c7] at H
            exact absurd H (by simp)
        · rw [if_neg c6] at H
          have c6b0 : decide (x4_1 < (l0.length : Int)) = false := decide_eq_false c6
          clear c6
          replace H := Option.bind_eq_some_iff.mp H
          obtain ⟨t394, A160, H⟩ := H
          replace H : ((banksmanref14_Order.f k1 t394).bind fun bt397 => (if t393 = true then (if bt397.2 = true then (some ((bt397.1.length : Int) == (t394.length : Int))) else (some false)) else (some false))) = some r := H
          have A16 := Aside0.mk A160
          clear A160
          replace H := Option.bind_eq_some_iff.mp H
          obtain ⟨⟨t397, t398⟩, A170, H⟩ := H
          replace H : (if t393 = true then (if t398 = true then (some ((t397.length : Int) == (t394.length : Int))) else (some false)) else (some false)) = some r := H
          have A17 := Aside0.mk A170
          clear A170
          by_cases c18 : t393 = true
          · subst c18
            have H1 : (if t398 = true then (some ((t397.length : Int) == (t394.length : Int))) else (some false)) = some r := by rw [if_pos rfl] at H; exact H
            clear H
            have H := H1
            clear H1
            by_cases c19 : t398 = true
            · subst c19
              have H1 : (some ((t397.length : Int) == (t394.length : Int))) = some r := by rw [if_pos rfl] at H; exact H
              clear H
              have H := H1
              clear H1
              obtain rfl := Option.some.inj H
              go_wp2_with (first | ((with_reducible refine gate_callee (f := 17) rfl ?_); refine goesL_ (some 56) rfl rfl Try.func17 (by kernel_rfl) rfl #[.slice A0 l0.length c0] rfl (by (try simp only [List.map_toArray, List.map_cons, List.map_nil]); first | done | rfl | (simp only [List.length_drop, List.length_take]; rfl)) ?_; (with_reducible refine (banksmanlaw14_committed.calls k1 (fun k_ => k_ < w.heap.size) _ _ l0 t394 _ ?side1 A16.out).mono ?_); (case side1 => exact Kd.V_mk HC0.out (Kd.F_below (Kd.C_F k43_heap HR0.out) (by repeat (first | (with_reducible first | exact HB.out | apply below_alloc | apply pw_below_drewN | apply below_drew1) | exact HB.out)))); rintro e w20 ⟨v395, rfl, ho0, hb⟩; refine ⟨_, rfl, ?_⟩; have n0_ := Aside0.mk (Kd.N_lower (Kd.N_mono (ok' := fun k_ => True) ho0 (fun k_ hk_ => trivial)) (below_size (by repeat (first | (with_reducible first | exact HB.out | apply below_alloc | apply pw_below_drewN | apply below_drew1) | exact HB.out)))); have n1_ := Aside0.mk (below_step (by repeat (first | (with_reducible first | exact HB.out | apply below_alloc | apply pw_below_drewN | apply below_drew1) | exact HB.out)) hb); clear HB; have HO396 := n0_; have HB := n1_; clear n0_ n1_; (try clear hb); (try clear hb2); (try clear hk); (try clear hi); (try clear ho0); obtain ⟨Ao21, co21, eo21⟩ := Kd.N_slice HO396.out; subst eo21) | ((with_reducible refine gate_callee (f := 18) rfl ?_); refine goesL_ (some 59) rfl rfl Try.func18 (by kernel_rfl) rfl #[.slice Ao21 t394.length co21] rfl (by (try simp only [List.map_toArray, List.map_cons, List.map_nil]); first | done | rfl | (simp only [List.length_drop, List.length_take]; rfl)) ?_; (with_reducible refine (banksmanref14_Order.calls k1 _ _ t394 t397 true _ ?side1 ?side2 A17.out).mono ?_); (case side1 => repeat (first | exact (Kd.N_reads' HO396.out).2.2 | (with_reducible refine Kd.C_alloc ?_ _) | (with_reducible refine Kd.C_drewN ?_ _) | (with_reducible refine Kd.C_drew ?_))); (case side2 => exact (Kd.N_reads' HO396.out).2.1); rintro e w22 ⟨v399, rfl, ho0, hb⟩; refine ⟨_, rfl, ?_⟩; have n0_ := Aside0.mk (Kd.N_elder' (by (with_reducible repeat (first | apply Kd.N_alloc | apply Kd.N_drewN | apply Kd.N_drew)); exact HO396.out) (Kd.R_base ho0) hb); have n1_ := Aside0.mk (Kd.R_lower ho0 (below_size (by repeat (first | (with_reducible first | exact HB.out | apply below_alloc | apply pw_below_drewN | apply below_drew1) | exact HB.out)))); have n2_ := Aside0.mk (below_step (by repeat (first | (with_reducible first | exact HB.out | apply below_alloc | apply pw_below_drewN | apply below_drew1) | exact HB.out)) hb); clear HO396; clear HB; have HO396 := n0_; have HO400 := n1_; have HB := n2_; clear n0_ n1_ n2_; (try clear hb); (try clear hb2); (try clear hk); (try clear hi); (try clear ho0); obtain ⟨Ao23, co23, eo23⟩ := Kd.R_slice HO400.out; subst eo23))
              go_ret
              exact ⟨by first | rfl | (simp [errW_none, errW_some] <;> rfl) | (simp [*, errW_none, errW_some] <;> rfl), by repeat (first | (with_reducible first | exact HB.out | apply below_alloc | apply pw_below_drewN | apply below_drew1) | exact HB.out)⟩
            · replace c19 := Bool.eq_false_iff.mpr c19
              subst c19
              have H1 : (some false) = some r := by rw [if_neg (show ¬ (false = true) by decide)] at H; exact H
              rw [HTr_] at H1
              exact absurd (Option.some.inj H1) (by decide)
          · replace c18 := Bool.eq_false_iff.mpr c18
            subst c18
            have H1 : (some false) = some r := by rw [if_neg (show ¬ (false = true) by decide)] at H; exact H
            rw [HTr_] at H1
            exact absurd (Option.some.inj H1) (by decide)

/-- The law, plainly. -/
def banksmanlaw14_RivalOrder.Pure : Prop := ∀ (l0 : List (S43)), (fun xs_ : List (S43) => xs_.length ≤ maxLen ∧ ∀ x ∈ xs_, (fun x_ : S43 => (fun n_ : Int => (Lit.int .u8 n_).wf = true) x_.f0 ∧ (fun _ : Bool => True) x_.f1 ∧ (fun xs_ : List (S57) => xs_.length ≤ maxLen ∧ ∀ x ∈ xs_, (fun x_ : S57 => (fun n_ : Int => (Lit.int .i64 n_).wf = true) x_.f0 ∧ (fun xs_ : List Int => xs_.length ≤ maxLen ∧ ∀ x ∈ xs_, (fun n_ : Int => (Lit.int .u8 n_).wf = true) x) x_.f1 ∧ (fun xs_ : List Int => xs_.length ≤ maxLen ∧ ∀ x ∈ xs_, (fun n_ : Int => (Lit.int .u8 n_).wf = true) x) x_.f2 ∧ (fun _ : Bool => True) x_.f3) x) x_.f2 ∧ (fun xs_ : List (S59) => xs_.length ≤ maxLen ∧ ∀ x ∈ xs_, (fun x_ : S59 => (fun n_ : Int => (Lit.int .i64 n_).wf = true) x_.f0 ∧ (fun xs_ : List Int => xs_.length ≤ maxLen ∧ ∀ x ∈ xs_, (fun n_ : Int => (Lit.int .u8 n_).wf = true) x) x_.f1 ∧ (fun _ : Bool => True) x_.f2 ∧ (fun xs_ : List Int => xs_.length ≤ maxLen ∧ ∀ x ∈ xs_, (fun n_ : Int => (Lit.int .u8 n_).wf = true) x) x_.f3) x) x_.f3 ∧ (fun n_ : Int => (Lit.int .u8 n_).wf = true) x_.f4) x) l0 → ∃ k, banksmanlaw14_RivalOrder.f k l0 = some true

end Go.Proofs.Ytpoaleejhdeclaa.P
