-- Written by wip/gprint.py, a program of this session over the kit's print; Lean checks it.
import Derived.Test.YtficgggfplejpaaPx0
import Derived.Test.YtficgggfplejpaaPx15
import Derived.Test.YtficgggfplejpaaPx20
import Derived.Test.YtficgggfplejpaaPx21
import Derived.Test.YtficgggfplejpaaPx30
namespace Go.Proofs.Ytficgggfplejpaa.P
open Go.RowKit Go.Proofs.YtficgggfplejpaaW.PrintWords Go.Proofs.YtficgggfplejpaaW.PrintLast Go.Proofs.YtficgggfplejpaaW.PrintMore
attribute [local go_sem] max2_int min2_int max_two min_two max_three min_three max_four min_four   -- for this text's walks alone
set_option linter.unusedVariables false
set_option linter.unusedSimpArgs false

/-! ### banksmanlaw03_FrameCuts: function 5 -/
mutual
def banksmanlaw03_FrameCuts.l0 : Nat → List (List Int) → Int → Bool → List Int → List Int → Int → Option (Bool)
  | 0, _, _, _, _, _, _ => none
  | k + 1, x0, x1, x5, x6, x7, x8 => if x8 < (x0.length : Int) then (if 0 ≤ x8 then (if ((rd_L1 x0 x8).length : Int) > 300 then (some x5) else ((frame_Write.f (rd_L1 x0 x8)).bind fun bt349 => (if bt349.2 = 0 then (if x6.length + bt349.1.length < 140737488355328 then ((some (x6 ++ bt349.1 : List Int)).bind fun y353 => (if x7.length < 17592186044416 then (banksmanlaw03_FrameCuts.l0 k x0 x1 x5 y353 (x7 ++ [(y353.length : Int)]) (wrap64 (x8 + 1))) else (none))) else (none)) else (some false)))) else (none)) else (if (wrap64 ((x6.length : Int) + 1)) = 0 then (none) else (if 0 ≤ (Int.tmod (wrap64 (x1)) (wrap64 ((x6.length : Int) + 1))) then (if (Int.tmod (wrap64 (x1)) (wrap64 ((x6.length : Int) + 1))) ≤ (x6.length : Int) then ((frame_All.f (x6.take ((Int.tmod (wrap64 (x1)) (wrap64 ((x6.length : Int) + 1))) : Int).toNat)).bind fun bt364 => (banksmanlaw03_FrameCuts.l1 k x0 x5 x7 (Int.tmod (wrap64 (x1)) (wrap64 ((x6.length : Int) + 1))) bt364.1 bt364.2 0)) else (none)) else (none)))
def banksmanlaw03_FrameCuts.l1 : Nat → List (List Int) → Bool → List Int → Int → List (List Int) → Int → Int → Option (Bool)
  | 0, _, _, _, _, _, _, _ => none
  | k + 1, x0, x5, x7, x11, x12, x13, x14 => if x14 < (x7.length : Int) then (if 0 ≤ x14 then (if (rd x7 x14) ≤ x11 then (banksmanlaw03_FrameCuts.l1 k x0 x5 x7 x11 x12 x13 (wrap64 (x14 + 1))) else (if x14 ≤ (x0.length : Int) then ((banksmanref03_Same.f k x12 (x0.take (x14 : Int).toNat)).bind fun t373 => (if x5 = true then (if t373 = true then (if x14 = 0 then (if x13 = 0 then (some true) else (if x14 > 0 then (if 0 ≤ (wrap64 (x14 - 1)) then (if (wrap64 (x14 - 1)) < (x7.length : Int) then (some (x13 == (rd x7 (wrap64 (x14 - 1))))) else (none)) else (none)) else (some false))) else (if x14 > 0 then (if 0 ≤ (wrap64 (x14 - 1)) then (if (wrap64 (x14 - 1)) < (x7.length : Int) then (some (x13 == (rd x7 (wrap64 (x14 - 1))))) else (none)) else (none)) else (some false))) else (some false)) else (some false))) else (none))) else (none)) else (if 0 ≤ x14 then (if x14 ≤ (x0.length : Int) then ((banksmanref03_Same.f k x12 (x0.take (x14 : Int).toNat)).bind fun t380 => (if x5 = true then (if t380 = true then (if x14 = 0 then (if x13 = 0 then (some true) else (if x14 > 0 then (if 0 ≤ (wrap64 (x14 - 1)) then (if (wrap64 (x14 - 1)) < (x7.length : Int) then (some (x13 == (rd x7 (wrap64 (x14 - 1))))) else (none)) else (none)) else (some false))) else (if x14 > 0 then (if 0 ≤ (wrap64 (x14 - 1)) then (if (wrap64 (x14 - 1)) < (x7.length : Int) then (some (x13 == (rd x7 (wrap64 (x14 - 1))))) else (none)) else (none)) else (some false))) else (some false)) else (some false))) else (none)) else (none))
end
def banksmanlaw03_FrameCuts.f (k : Nat) (l0 : List (List Int)) (a1 : Int) : Option (Bool) := (banksmanlaw03_awake.f).bind fun t346 => (if (l0.length : Int) > 20 then (some t346) else (banksmanlaw03_FrameCuts.l0 k l0 a1 t346 ([] : List Int) ([] : List Int) 0))
theorem banksmanlaw03_FrameCuts.mono_l : ∀ k, (∀ y0 y1 y2 y3 y4 y5, LeO (banksmanlaw03_FrameCuts.l0 k y0 y1 y2 y3 y4 y5) (banksmanlaw03_FrameCuts.l0 (k + 1) y0 y1 y2 y3 y4 y5)) ∧ (∀ y0 y1 y2 y3 y4 y5 y6, LeO (banksmanlaw03_FrameCuts.l1 k y0 y1 y2 y3 y4 y5 y6) (banksmanlaw03_FrameCuts.l1 (k + 1) y0 y1 y2 y3 y4 y5 y6))
  | 0 => ⟨fun _ _ _ _ _ _ r h => by simp [banksmanlaw03_FrameCuts.l0] at h, fun _ _ _ _ _ _ _ r h => by simp [banksmanlaw03_FrameCuts.l1] at h⟩
  | k + 1 => by
    obtain ⟨ih0, ih1⟩ := banksmanlaw03_FrameCuts.mono_l k
    refine ⟨?_, ?_⟩
    · intro y0 y1 y2 y3 y4 y5
      unfold banksmanlaw03_FrameCuts.l0
      repeat' first
      | (with_reducible exact ih0 _ _ _ _ _ _)
      | (with_reducible exact ih1 _ _ _ _ _ _ _)
      | (with_reducible exact banksmanref03_Same.mono _ _ _)
      | (with_reducible exact LeO.refl _)
      | (with_reducible exact LeO.none _)
      | (with_reducible refine LeO.ite ?_ ?_)
      | (with_reducible refine LeO.bind ?_ (fun _ => ?_))
      | exact ih0 _ _ _ _ _ _
      | exact ih1 _ _ _ _ _ _ _
      | exact banksmanref03_Same.mono _ _ _
      | exact LeO.none _
      | refine LeO.ite ?_ ?_
      | refine LeO.bind ?_ (fun _ => ?_)
    · intro y0 y1 y2 y3 y4 y5 y6
      unfold banksmanlaw03_FrameCuts.l1
      repeat' first
      | (with_reducible exact ih0 _ _ _ _ _ _)
      | (with_reducible exact ih1 _ _ _ _ _ _ _)
      | (with_reducible exact banksmanref03_Same.mono _ _ _)
      | (with_reducible exact LeO.refl _)
      | (with_reducible exact LeO.none _)
      | (with_reducible refine LeO.ite ?_ ?_)
      | (with_reducible refine LeO.bind ?_ (fun _ => ?_))
      | exact ih0 _ _ _ _ _ _
      | exact ih1 _ _ _ _ _ _ _
      | exact banksmanref03_Same.mono _ _ _
      | exact LeO.none _
      | refine LeO.ite ?_ ?_
      | refine LeO.bind ?_ (fun _ => ?_)
theorem banksmanlaw03_FrameCuts.mono : ∀ a0 a1 k, LeO (banksmanlaw03_FrameCuts.f k a0 a1) (banksmanlaw03_FrameCuts.f (k + 1) a0 a1) := by
  intro a0 a1 k
  obtain ⟨ih0, ih1⟩ := banksmanlaw03_FrameCuts.mono_l k
  unfold banksmanlaw03_FrameCuts.f
  repeat' first
      | (with_reducible exact ih0 _ _ _ _ _ _)
      | (with_reducible exact ih1 _ _ _ _ _ _ _)
      | (with_reducible exact banksmanref03_Same.mono _ _ _)
      | (with_reducible exact LeO.refl _)
      | (with_reducible exact LeO.none _)
      | (with_reducible refine LeO.ite ?_ ?_)
      | (with_reducible refine LeO.bind ?_ (fun _ => ?_))
      | exact ih0 _ _ _ _ _ _
      | exact ih1 _ _ _ _ _ _ _
      | exact banksmanref03_Same.mono _ _ _
      | exact LeO.none _
      | refine LeO.ite ?_ ?_
      | refine LeO.bind ?_ (fun _ => ?_)
set_option maxHeartbeats 8000000 in
set_option maxRecDepth 100000 in
theorem banksmanlaw03_FrameCuts.calls (k : Nat) (A0 : Option Addr) (c0 : Nat) (l0 : List (List Int)) (a1 : Int) (r : Bool) (w : World) (hr0 : Kd.C (Kd.slice 5 (Kd.int .u8)) w A0 l0.length l0) (hc0 : l0.length ≤ c0) (h : banksmanlaw03_FrameCuts.f k l0 a1 = some r) (HTr_ : r = true) :
    Calls Try.prog 5 #[.slice A0 l0.length c0, .int .u16 a1] w fun e w' => e = .returned (.bool r) ∧ Below w.heap.size w w' := by
  have HR0 := Aside0.mk hr0
  have HC0 := Aside0.mk hc0
  clear hr0 hc0
  have HB := Aside0.mk (Below.refl w.heap.size w)
  have H : ((banksmanlaw03_awake.f).bind fun t346 => (if (l0.length : Int) > 20 then (some t346) else (banksmanlaw03_FrameCuts.l0 k l0 a1 t346 ([] : List Int) ([] : List Int) 0))) = some r := h
  clear h
  replace H := Option.bind_eq_some_iff.mp H
  obtain ⟨t346, A30, H⟩ := H
  replace H : (if (l0.length : Int) > 20 then (some t346) else (banksmanlaw03_FrameCuts.l0 k l0 a1 t346 ([] : List Int) ([] : List Int) 0)) = some r := H
  have A3 := Aside0.mk A30
  clear A30
  by_cases c4 : (l0.length : Int) > 20
  · rw [if_pos c4] at H
    have c4b0 : decide (20 < (l0.length : Int)) = true := decide_eq_true c4
    have c4b1 : decide (20 < l0.length) = true := decide_eq_true (by omega)
    clear c4
    obtain rfl := Option.some.inj H
    go_enter Try.func5, Try.ntmps5
    go_wp2_with (first | ((with_reducible refine gate_callee (f := 8) rfl ?_); refine goesL_ (some 16) rfl rfl Try.func8 (by kernel_rfl) rfl #[] rfl (by (try simp only [List.map_toArray, List.map_cons, List.map_nil]); first | done | rfl | (simp only [List.length_drop, List.length_take]; rfl)) ?_; (with_reducible refine (banksmanlaw03_awake.calls  t346 _ A3.out).mono ?_); rintro e w5 ⟨rfl, hb⟩; refine ⟨_, rfl, ?_⟩; have n0_ := Aside0.mk (below_step (by repeat (first | (with_reducible first | exact HB.out | apply below_alloc | apply pw_below_drewN | apply below_drew1) | exact HB.out)) hb); clear HB; have HB := n0_; clear n0_; (try clear hb); (try clear hb2); (try clear hk); (try clear hi)))
    go_ret
    exact ⟨by first | rfl | (simp [errW_none, errW_some] <;> rfl) | (simp [*, errW_none, errW_some] <;> rfl), by repeat (first | (with_reducible first | exact HB.out | apply below_alloc | apply pw_below_drewN | apply below_drew1) | exact HB.out)⟩
  · rw [if_neg c4] at H
    have c4b0 : decide (20 < (l0.length : Int)) = false := decide_eq_false c4
    have c4b1 : decide (20 < l0.length) = false := decide_eq_false (by omega)
    clear c4
    have H' := Aside0.mk H
    clear H
    go_enter Try.func5, Try.ntmps5
    go_wp2_with (first | ((with_reducible refine gate_callee (f := 8) rfl ?_); refine goesL_ (some 16) rfl rfl Try.func8 (by kernel_rfl) rfl #[] rfl (by (try simp only [List.map_toArray, List.map_cons, List.map_nil]); first | done | rfl | (simp only [List.length_drop, List.length_take]; rfl)) ?_; (with_reducible refine (banksmanlaw03_awake.calls  t346 _ A3.out).mono ?_); rintro e w6 ⟨rfl, hb⟩; refine ⟨_, rfl, ?_⟩; have n0_ := Aside0.mk (below_step (by repeat (first | (with_reducible first | exact HB.out | apply below_alloc | apply pw_below_drewN | apply below_drew1) | exact HB.out)) hb); clear HB; have HB := n0_; clear n0_; (try clear hb); (try clear hb2); (try clear hk); (try clear hi)))
    go_loopg [6, 7, 8] k (fun kq v6 v7 v8 w' => ∃ (x6_1 : List Int) (x7_1 : List Int) (x8_1 : Int), v8 = .int .i64 x8_1 ∧ Aside0 (banksmanlaw03_FrameCuts.l0 kq l0 a1 t346 x6_1 x7_1 x8_1 = some r) ∧ Aside0 (kq ≤ k) ∧ Aside0 (Kd.R (Kd.int .u8) 5 w' w.heap.size (fun _ => True) v6 x6_1) ∧ Aside0 (Kd.R (Kd.int .i64) 3 w' w.heap.size (fun _ => True) v7 x7_1) ∧ Aside0 (Below w.heap.size w w'))
    case atStart => exact ⟨(([] : List Int)), (([] : List Int)), (0), (by first | rfl | (simp; done) | (simp [*]; done)), H', ⟨Nat.le_refl _⟩, ⟨by first | exact Kd.R_nil _ _ _ _ _ | exact Kd.N_nil _ _ _ _ _ | exact Kd.V_nil _ _ _ _ _ | exact Kd.Q_nil _ _ _ _ _ | exact Kd.S_nil _ _ _ _ _⟩, ⟨by first | exact Kd.R_nil _ _ _ _ _ | exact Kd.N_nil _ _ _ _ _ | exact Kd.V_nil _ _ _ _ _ | exact Kd.Q_nil _ _ _ _ _ | exact Kd.S_nil _ _ _ _ _⟩, ⟨by repeat (first | (with_reducible first | exact HB.out | apply below_alloc | apply pw_below_drewN | apply below_drew1) | exact HB.out)⟩⟩
    case round =>
      clear H'
      try clear p2
      try clear c4
      try clear c4b0
      try clear c4b1
      try clear c5
      obtain ⟨x6_1, x7_1, x8_1, rfl, HA, HK1, HO_6, HO_7, HB⟩ := hrel
      cases gk with
      | zero => exact absurd HA.out (by simp [banksmanlaw03_FrameCuts.l0])
      | succ k1 =>
        have H := HA.out
        clear HA
        simp only [banksmanlaw03_FrameCuts.l0] at H
        by_cases c7 : x8_1 < (l0.length : Int)
        · rw [if_pos c7] at H
          have c7b0 : decide (x8_1 < (l0.length : Int)) = true := decide_eq_true c7
          clear c7
          by_cases c8 : 0 ≤ x8_1
          · rw [if_pos c8] at H
            have c8b0 : decide (0 ≤ x8_1) = true := decide_eq_true c8
            clear c8
            by_cases c9 : ((rd_L1 l0 x8_1).length : Int) > 300
            · rw [if_pos c9] at H
              have c9b0 : decide (300 < ((rd_L1 l0 x8_1).length : Int)) = true := decide_eq_true c9
              have c9b1 : decide (300 < (rd_L1 l0 x8_1).length) = true := decide_eq_true (by omega)
              clear c9
              obtain rfl := Option.some.inj H
              have p347 : 0 ≤ (x8_1 : Int) := of_decide_eq_true (by first | (with_reducible assumption) | assumption)
              have q347 : x8_1 < (l0.length : Int) := of_decide_eq_true (by first | (with_reducible assumption) | assumption)
              obtain ⟨ad347, A347_0, c347_0, e347, hx347_0, hl347_0, hi347_0⟩ := at_L1 HR0.out x8_1 p347 q347
              cases e347
              replace hx347_0 := (HB.out.cell (World.block_lt_of_cell? w _ hx347_0)).trans hx347_0
              have HR347_0 := Aside0.mk hi347_0
              have HC347_0 := Aside0.mk hl347_0
              clear hi347_0 hl347_0
              replace p347 := eq_true p347
              replace q347 := eq_true q347
              go_wp2
              go_ret
              exact ⟨by first | rfl | (simp [errW_none, errW_some] <;> rfl) | (simp [*, errW_none, errW_some] <;> rfl), by repeat (first | (with_reducible first | exact HB.out | apply below_alloc | apply pw_below_drewN | apply below_drew1) | exact HB.out)⟩
            · rw [if_neg c9] at H
              have c9b0 : decide (300 < ((rd_L1 l0 x8_1).length : Int)) = false := decide_eq_false c9
              have c9b1 : decide (300 < (rd_L1 l0 x8_1).length) = false := decide_eq_false (by omega)
              clear c9
              replace H := Option.bind_eq_some_iff.mp H
              obtain ⟨⟨t349, t350⟩, A100, H⟩ := H
              replace H : (if t350 = 0 then (if x6_1.length + t349.length < 140737488355328 then ((some (x6_1 ++ t349 : List Int)).bind fun y353 => (if x7_1.length < 17592186044416 then (banksmanlaw03_FrameCuts.l0 k1 l0 a1 t346 y353 (x7_1 ++ [(y353.length : Int)]) (wrap64 (x8_1 + 1))) else (none))) else (none)) else (some false)) = some r := H
              have A10 := Aside0.mk A100
              clear A100
              by_cases c11 : t350 = 0
              · rw [if_pos c11] at H
                have c11b0 : (t350 == 0) = true := beq_iff_eq.mpr c11
                have c11b1 : (t350 != 0) = false := bne_eq_false_iff_eq.mpr c11
                clear c11
                by_cases c12 : x6_1.length + t349.length < 140737488355328
                · rw [if_pos c12] at H
                  have LMc12 := Aside0.mk c12
                  clear c12
                  obtain ⟨y353, hy353⟩ : ∃ y_ : List Int, y_ = (x6_1 ++ t349) := ⟨_, rfl⟩
                  replace H : (if x7_1.length < 17592186044416 then (banksmanlaw03_FrameCuts.l0 k1 l0 a1 t346 y353 (x7_1 ++ [(y353.length : Int)]) (wrap64 (x8_1 + 1))) else (none)) = some r := by first | (rw [hy353]; with_reducible exact H) | (have H2_ := (Option.bind_some _ _).symm.trans H; rw [hy353]; with_reducible exact H2_) | (have H2_ := (Option.bind_some _ _).symm.trans H; with_reducible exact H2_) | with_reducible exact H | (rw [hy353]; exact H) | exact H
                  have Ny353 := Aside0.mk hy353
                  clear hy353
                  by_cases c13 : x7_1.length < 17592186044416
                  · rw [if_pos c13] at H
                    have LMc13 := Aside0.mk c13
                    clear c13
                    obtain ⟨y356, hy356⟩ : ∃ y_ : List Int, y_ = (x7_1 ++ [(y353.length : Int)]) := ⟨_, rfl⟩
                    replace H : (banksmanlaw03_FrameCuts.l0 k1 l0 a1 t346 y353 y356 (wrap64 (x8_1 + 1))) = some r := by first | (rw [hy356]; with_reducible exact H) | (have H2_ := (Option.bind_some _ _).symm.trans H; rw [hy356]; with_reducible exact H2_) | (have H2_ := (Option.bind_some _ _).symm.trans H; with_reducible exact H2_) | with_reducible exact H | (rw [hy356]; exact H) | exact H
                    have Ny356 := Aside0.mk hy356
                    clear hy356
                    have H' := Aside0.mk H
                    clear H
                    have p347 : 0 ≤ (x8_1 : Int) := of_decide_eq_true (by first | (with_reducible assumption) | assumption)
                    have q347 : x8_1 < (l0.length : Int) := of_decide_eq_true (by first | (with_reducible assumption) | assumption)
                    obtain ⟨ad347, A347_0, c347_0, e347, hx347_0, hl347_0, hi347_0⟩ := at_L1 HR0.out x8_1 p347 q347
                    cases e347
                    replace hx347_0 := (HB.out.cell (World.block_lt_of_cell? w _ hx347_0)).trans hx347_0
                    have HR347_0 := Aside0.mk hi347_0
                    have HC347_0 := Aside0.mk hl347_0
                    clear hi347_0 hl347_0
                    replace p347 := eq_true p347
                    replace q347 := eq_true q347
                    have p348 : 0 ≤ (x8_1 : Int) := of_decide_eq_true (by first | (with_reducible assumption) | assumption)
                    have q348 : x8_1 < (l0.length : Int) := of_decide_eq_true (by first | (with_reducible assumption) | assumption)
                    obtain ⟨ad348, A348_0, c348_0, e348, hx348_0, hl348_0, hi348_0⟩ := at_L1 HR0.out x8_1 p348 q348
                    obtain rfl : ad347 = ad348 := (by injection e348)
                    replace hx348_0 := (HB.out.cell (World.block_lt_of_cell? w _ hx348_0)).trans hx348_0
                    have HR348_0 := Aside0.mk hi348_0
                    have HC348_0 := Aside0.mk hl348_0
                    clear hi348_0 hl348_0
                    replace p348 := eq_true p348
                    replace q348 := eq_true q348
                    have ea_ := Option.some.inj (hx347_0.symm.trans hx348_0)
                    injection ea_ with ea_ en_ ec_
                    subst ea_
                    subst ec_
                    clear en_
                    go_wp2_with (first | ((with_reducible refine gate_callee (f := 9) rfl ?_); refine goesL_ (some 39) rfl rfl Try.func9 (by kernel_rfl) rfl #[.slice A347_0 (rd_L1 l0 x8_1).length c347_0] rfl (by (try simp only [List.map_toArray, List.map_cons, List.map_nil]); first | done | rfl | (simp only [List.length_drop, List.length_take]; rfl)) ?_; (with_reducible refine (frame_Write.calls _ _ (rd_L1 l0 x8_1) t349 t350 _ ?side1 ?side2 A10.out).mono ?_); (case side1 => repeat (first | exact (Kd.C_below HR348_0.out HB.out) | (with_reducible refine Kd.C_alloc ?_ _) | (with_reducible refine Kd.C_drewN ?_ _) | (with_reducible refine Kd.C_drew ?_))); (case side2 => exact HC348_0.out); rintro e w14 ⟨v351, rfl, ho0, hb⟩; refine ⟨_, rfl, ?_⟩; have n0_ := Aside0.mk (Kd.R_elder' (by (with_reducible repeat (first | apply Kd.R_alloc | apply Kd.R_drewN | apply Kd.R_drew)); exact HO_6.out) (Kd.R_base ho0) hb); have n1_ := Aside0.mk (Kd.R_below (by (with_reducible repeat (first | apply Kd.R_alloc | apply Kd.R_drewN | apply Kd.R_drew)); exact HO_7.out) hb); have n2_ := Aside0.mk (Kd.R_lower (Kd.R_new' ho0 (Kd.R_lt (by (with_reducible repeat (first | apply Kd.R_alloc | apply Kd.R_drewN | apply Kd.R_drew)); exact HO_6.out))) (below_size (by repeat (first | (with_reducible first | exact HB.out | apply below_alloc | apply pw_below_drewN | apply below_drew1) | exact HB.out)))); have n3_ := Aside0.mk (below_step (by repeat (first | (with_reducible first | exact HB.out | apply below_alloc | apply pw_below_drewN | apply below_drew1) | exact HB.out)) hb); clear HO_6; clear HO_7; clear HB; have HO_6 := n0_; have HO_7 := n1_; have HO352 := n2_; have HB := n3_; clear n0_ n1_ n2_ n3_; (try clear hb); (try clear hb2); (try clear hk); (try clear hi); (try clear ho0); obtain ⟨Ao16, co16, eo16⟩ := Kd.R_slice HO352.out; subst eo16) | ((with_reducible refine gate_builtin (b := .append) (xs := #[.tmp 44, .tmp 45]) rfl ?_); at_builtin; refine Kd.R_append_rows (Kd.int .u8) (w0 := w) w.heap.size rfl (.tmp 44) (.tmp 45) 22 5 (.int .u8 0) 1 rfl Try.underlying22 info5 rfl (by decide) (by omega) u6 x6_1 t349 _ _ _ (fun k_ => some k_ ≠ (.slice Ao16 t349.length co16 : Value).ownBlock) (fun _ => False) rfl rfl ?aO ?aR (fun _ _ h => h) (fun _ h => h.elim) ?aF ?aB ?aS ?aL ?_; (case aR => repeat (first | exact (Kd.R_reads' HO352.out).2.2 | (with_reducible refine Kd.C_alloc ?_ _) | (with_reducible refine Kd.C_drewN ?_ _) | (with_reducible refine Kd.C_drew ?_))); (case aB => exact (by repeat (first | (with_reducible first | exact HB.out | apply below_alloc | apply pw_below_drewN | apply below_drew1) | exact HB.out))); (case aF => exact (fun k_ hk => Kd.fresh' (Kd.R_lt (by (with_reducible repeat (first | apply Kd.R_alloc | apply Kd.R_drewN | apply Kd.R_drew)); exact HO352.out)) k_ hk)); (case aO => exact (by (with_reducible repeat (first | apply Kd.R_alloc | apply Kd.R_drewN | apply Kd.R_drew)); exact Kd.R_mono HO_6.out (fun _ hk => hk.2))); (case aS => exact (below_size (by repeat (first | (with_reducible first | exact HB.out | apply below_alloc | apply pw_below_drewN | apply below_drew1) | exact HB.out)))); (case aL => have := LMc12.out; omega); intro v354 w15 ho hb hg hat; rw [← Ny353.out] at ho; have n0_ := Aside0.mk (Kd.R_over' (by (with_reducible repeat (first | apply Kd.R_alloc | apply Kd.R_drewN | apply Kd.R_drew)); exact HO_7.out) (Kd.R_typed (by (with_reducible repeat (first | apply Kd.R_alloc | apply Kd.R_drewN | apply Kd.R_drew)); exact HO_6.out)) (by decide) hg); have n1_ := Aside0.mk (Kd.R_after (ok := (fun _ => True)) (by (with_reducible repeat (first | apply Kd.R_alloc | apply Kd.R_drewN | apply Kd.R_drew)); exact HO352.out) hg hat); have n2_ := Aside0.mk (hb); have n3_ := Aside0.mk (ho); clear HO_7; clear HO352; clear HB; clear HO_6; have HO_7 := n0_; have HO352 := n1_; have HB := n2_; have HO355 := n3_; clear n0_ n1_ n2_ n3_; clear ho hb hg hat; obtain ⟨Ao17, co17, eo17⟩ := Kd.R_slice HO355.out; subst eo17) | ((with_reducible refine gate_builtin (b := .append) (xs := #[.tmp 47, .tmp 50]) rfl ?_); at_builtin; refine Kd.R_append (Kd.int .i64) (w0 := w) w.heap.size rfl (.tmp 47) (.tmp 50) 36 3 (.int .i64 0) 8 rfl Try.underlying36 info3 rfl (by decide) (by omega) u7 x7_1 (y353.length : Int) [.int .i64 (y353.length : Int)] (fun _ => True) (fun _ => False) rfl rfl ?aP (fun _ hk => hk.elim) ?aF ?aO ?aB ?aS ?aL ?_; (case aP => exact rfl); (case aB => exact (by repeat (first | (with_reducible first | exact HB.out | apply below_alloc | apply pw_below_drewN | apply below_drew1) | exact HB.out))); (case aF => exact (fun _ _ => trivial)); (case aO => exact (by (with_reducible repeat (first | apply Kd.R_alloc | apply Kd.R_drewN | apply Kd.R_drew)); exact HO_7.out)); (case aS => exact (below_size (by repeat (first | (with_reducible first | exact HB.out | apply below_alloc | apply pw_below_drewN | apply below_drew1) | exact HB.out)))); (case aL => have := LMc13.out; omega); intro v357 w18 ho hb hg hat; rw [← Ny356.out] at ho; have n0_ := Aside0.mk (Kd.R_over' (by (with_reducible repeat (first | apply Kd.R_alloc | apply Kd.R_drewN | apply Kd.R_drew)); exact HO352.out) (Kd.R_typed (by (with_reducible repeat (first | apply Kd.R_alloc | apply Kd.R_drewN | apply Kd.R_drew)); exact HO_7.out)) (by decide) hg); have n1_ := Aside0.mk (Kd.R_over' (by (with_reducible repeat (first | apply Kd.R_alloc | apply Kd.R_drewN | apply Kd.R_drew)); exact HO355.out) (Kd.R_typed (by (with_reducible repeat (first | apply Kd.R_alloc | apply Kd.R_drewN | apply Kd.R_drew)); exact HO_7.out)) (by decide) hg); have n2_ := Aside0.mk (hb); have n3_ := Aside0.mk (ho); clear HO352; clear HO355; clear HB; clear HO_7; have HO352 := n0_; have HO355 := n1_; have HB := n2_; have HO358 := n3_; clear n0_ n1_ n2_ n3_; clear ho hb hg hat))
                    go_roundg k1
                    case measure => have := HK1.out; omega
                    case rel => exact ⟨(y353), (y356), (wrap64 (x8_1 + 1)), (by first | rfl | (simp; done) | (simp [*]; done)), H', ⟨by have := HK1.out; omega⟩, ⟨by (with_reducible repeat (first | apply Kd.R_alloc | apply Kd.R_drewN | apply Kd.R_drew)); exact Kd.R_mono HO355.out (fun _ hk => trivial)⟩, ⟨by (with_reducible repeat (first | apply Kd.R_alloc | apply Kd.R_drewN | apply Kd.R_drew)); exact HO358.out⟩, ⟨by repeat (first | (with_reducible first | exact HB.out | apply below_alloc | apply pw_below_drewN | apply below_drew1) | exact HB.out)⟩⟩
                  · rw [if_neg c13] at H
                    exact absurd H (by simp)
                · rw [if_neg c12] at H
                  exact absurd H (by simp)
              · rw [if_neg c11] at H
                rw [HTr_] at H
                exact absurd (Option.some.inj H) (by decide)
          · rw [if_neg c8] at H
            exact absurd H (by simp)
        · rw [if_neg c7] at H
          have c7b0 : decide (x8_1 < (l0.length : Int)) = false := decide_eq_false c7
          clear c7
          by_cases c20 : (wrap64 ((x6_1.length : Int) + 1)) = 0
          · rw [if_pos c20] at H
            exact absurd H (by simp)
          · rw [if_neg c20] at H
            have c20b0 : ((wrap64 ((x6_1.length : Int) + 1)) == 0) = false := beq_eq_false_iff_ne.mpr c20
            have c20b1 : ((wrap64 ((x6_1.length : Int) + 1)) != 0) = true := bne_iff_ne.mpr c20
            obtain ⟨ji21, hji21⟩ : ∃ j_ : Int, (Int.tmod (wrap64 (a1)) (wrap64 ((x6_1.length : Int) + 1))) = j_ := ⟨_, rfl⟩
            replace H : (if 0 ≤ (ji21) then (if (ji21) ≤ (x6_1.length : Int) then ((frame_All.f (x6_1.take ((ji21) : Int).toNat)).bind fun bt364 => (banksmanlaw03_FrameCuts.l1 k1 l0 t346 x7_1 ji21 bt364.1 bt364.2 0)) else (none)) else (none)) = some r := by first | (rw [hji21] at H; exact H) | (simp only [hji21] at H ⊢; exact H)
            by_cases c22 : 0 ≤ (ji21)
            · rw [if_pos c22] at H
              have c22b0 := eq_true c22
              have c22b1 : decide (0 ≤ (ji21)) = true := decide_eq_true c22
              clear c22
              by_cases c23 : (ji21) ≤ (x6_1.length : Int)
              · rw [if_pos c23] at H
                have c23b0 := eq_true c23
                have c23b1 : decide ((ji21) ≤ (x6_1.length : Int)) = true := decide_eq_true c23
                clear c23
                obtain ⟨y359, hy359⟩ : ∃ y_ : List Int, y_ = (x6_1.take ((ji21) : Int).toNat) := ⟨_, rfl⟩
                replace H : ((frame_All.f y359).bind fun bt364 => (banksmanlaw03_FrameCuts.l1 k1 l0 t346 x7_1 ji21 bt364.1 bt364.2 0)) = some r := by first | (rw [hy359]; with_reducible exact H) | (have H2_ := (Option.bind_some _ _).symm.trans H; rw [hy359]; with_reducible exact H2_) | (have H2_ := (Option.bind_some _ _).symm.trans H; with_reducible exact H2_) | with_reducible exact H | (rw [hy359]; exact H) | exact H
                have Ny359 := Aside0.mk hy359
                clear hy359
                replace H := Option.bind_eq_some_iff.mp H
                obtain ⟨⟨t364, t367⟩, A240, H⟩ := H
                replace H : (banksmanlaw03_FrameCuts.l1 k1 l0 t346 x7_1 ji21 t364 t367 0) = some r := H
                have A24 := Aside0.mk A240
                clear A240
                have H' := Aside0.mk H
                clear H
                obtain ⟨Ao25, co25, eo25⟩ := Kd.R_slice HO_6.out
                subst eo25
                have q26 : ((ji21) : Int) ≤ ((x6_1.length : Int) : Int) := of_decide_eq_true (by first | (with_reducible assumption) | assumption)
                obtain ⟨i026, hi026, _, hsz26, _⟩ := info_parts info5
                have hroom26 : x6_1.length ≤ co25 := (Kd.R_reads' HO_6.out).2.1
                have hC26 : Kd.F (Kd.int .u8) _ _ Ao25 x6_1.length x6_1 := (Kd.V_at (base := w.heap.size) (Kd.R_V (Kd.R_apart' (HO_6.out) (Kd.R_typed HO_7.out) (by decide)))).2.2
                have hcut26 := cut_to (P := Try.prog) 22 5 .i64 Try.underlying22 hi026 Ao25 x6_1.length co25 (ji21) (of_decide_eq_true (by first | (with_reducible assumption) | assumption)) q26 hroom26
                have hr26 := Kd.F_take (m := ((ji21) : Int).toNat) hC26 (by omega)
                have hy26 : y359.length = ((ji21) : Int).toNat := (by rw [Ny359.out, List.length_take]; omega)
                rw [← Ny359.out] at hr26
                rw [← hy26] at hcut26
                have HO363 := Aside0.mk (show Kd.V (Kd.int .u8) 5 _ w.heap.size _ (.slice Ao25 y359.length co25) y359 from Kd.V_mk (by omega) hr26)
                have HC363 := Aside0.mk (show y359.length ≤ co25 from by omega)
                clear hr26 hC26 hroom26 hi026 hsz26
                have KY26 := Aside0.mk hy26
                clear hy26
                replace q26 := eq_true q26
                go_wp2_with (first | ((with_reducible refine gate_callee (f := 13) rfl ?_); refine goesL_ (some 62) rfl rfl Try.func13 (by kernel_rfl) rfl #[.slice Ao25 y359.length co25] rfl (by (try simp only [List.map_toArray, List.map_cons, List.map_nil]); first | done | rfl | (simp only [List.length_drop, List.length_take]; rfl)) ?_; (with_reducible refine (frame_All.calls _ _ y359 t364 t367 _ ?side1 ?side2 A24.out).mono ?_); (case side1 => repeat (first | exact (Kd.V_reads' HO363.out).2.2 | (with_reducible refine Kd.C_alloc ?_ _) | (with_reducible refine Kd.C_drewN ?_ _) | (with_reducible refine Kd.C_drew ?_))); (case side2 => exact (Kd.V_reads' HO363.out).2.1); rintro e w27 ⟨v365, rfl, ho0, hb⟩; refine ⟨_, rfl, ?_⟩; have n0_ := Aside0.mk (Kd.R_below (by (with_reducible repeat (first | apply Kd.R_alloc | apply Kd.R_drewN | apply Kd.R_drew)); exact HO_6.out) hb); have n1_ := Aside0.mk (Kd.R_below (by (with_reducible repeat (first | apply Kd.R_alloc | apply Kd.R_drewN | apply Kd.R_drew)); exact HO_7.out) hb); have n2_ := Aside0.mk (Kd.V_elder' (by (with_reducible repeat (first | apply Kd.V_alloc | apply Kd.V_drewN | apply Kd.V_drew)); exact HO363.out) (Kd.N_base ho0) hb); have n3_ := Aside0.mk (Kd.N_lower (Kd.N_mono (ok' := fun k_ => some k_ ≠ (.slice Ao25 x6_1.length co25 : Value).ownBlock ∧ some k_ ≠ (u7 : Value).ownBlock) ho0 (fun k_ hk_ => ⟨(Kd.fresh' (Kd.R_lt (by (with_reducible repeat (first | apply Kd.R_alloc | apply Kd.R_drewN | apply Kd.R_drew)); exact HO_6.out)) k_ hk_), (Kd.fresh' (Kd.R_lt (by (with_reducible repeat (first | apply Kd.R_alloc | apply Kd.R_drewN | apply Kd.R_drew)); exact HO_7.out)) k_ hk_)⟩)) (below_size (by repeat (first | (with_reducible first | exact HB.out | apply below_alloc | apply pw_below_drewN | apply below_drew1) | exact HB.out)))); have n4_ := Aside0.mk (below_step (by repeat (first | (with_reducible first | exact HB.out | apply below_alloc | apply pw_below_drewN | apply below_drew1) | exact HB.out)) hb); clear HO_6; clear HO_7; clear HO363; clear HB; have HO_6 := n0_; have HO_7 := n1_; have HO363 := n2_; have HO366 := n3_; have HB := n4_; clear n0_ n1_ n2_ n3_ n4_; (try clear hb); (try clear hb2); (try clear hk); (try clear hi); (try clear ho0)))
                go_loopg [14] k1 (fun kq v14 w' => ∃ (x14_2 : Int), v14 = .int .i64 x14_2 ∧ Aside0 (banksmanlaw03_FrameCuts.l1 kq l0 t346 x7_1 ji21 t364 t367 x14_2 = some r) ∧ Aside0 (kq ≤ k1) ∧ Aside0 (Kd.R (Kd.int .i64) 3 w' w.heap.size (fun _ => True) u7 x7_1) ∧ Aside0 (Kd.N (Kd.slice 5 (Kd.int .u8)) 22 w' w.heap.size (fun k_ => some k_ ≠ (u7 : Value).ownBlock) v365 t364) ∧ Aside0 (Below w.heap.size w w'))
                case atStart => exact ⟨(0), (by first | rfl | (simp; done) | (simp [*]; done)), H', ⟨Nat.le_refl _⟩, ⟨by (with_reducible repeat (first | apply Kd.R_alloc | apply Kd.R_drewN | apply Kd.R_drew)); exact HO_7.out⟩, ⟨by (with_reducible repeat (first | apply Kd.N_alloc | apply Kd.N_drewN | apply Kd.N_drew)); exact Kd.N_mono HO366.out (fun _ hk => hk.2)⟩, ⟨by repeat (first | (with_reducible first | exact HB.out | apply below_alloc | apply pw_below_drewN | apply below_drew1) | exact HB.out)⟩⟩
                case round =>
                  clear H'
                  try clear c1
                  try clear c2
                  try clear p2
                  try clear q2
                  try clear c3
                  try clear p3
                  try clear q3
                  try clear hx3
                  try clear c4
                  try clear c4b0
                  try clear c4b1
                  try clear c5
                  try clear p6
                  try clear c7
                  try clear c7b0
                  try clear c8
                  try clear c8b0
                  try clear c9
                  try clear c9b0
                  try clear c9b1
                  try clear c11
                  try clear c11b0
                  try clear c11b1
                  try clear c12
                  try clear c13
                  try clear c20
                  try clear c20b0
                  try clear c20b1
                  try clear c22
                  try clear c22b0
                  try clear c22b1
                  try clear c23
                  try clear c23b0
                  try clear c23b1
                  try clear q26
                  try clear hx347_0
                  try clear hx348_0
                  try clear p2
                  try clear p347
                  try clear p348
                  try clear q26
                  try clear q347
                  try clear q348
                  obtain ⟨x14_2, rfl, HA, HK2, HO_7, HO_12, HB⟩ := hrel
                  cases gk with
                  | zero => exact absurd HA.out (by simp [banksmanlaw03_FrameCuts.l1])
                  | succ k2 =>
                    have H := HA.out
                    clear HA
                    simp only [banksmanlaw03_FrameCuts.l1] at H
                    by_cases c28 : x14_2 < (x7_1.length : Int)
                    · rw [if_pos c28] at H
                      have c28b0 : decide (x14_2 < (x7_1.length : Int)) = true := decide_eq_true c28
                      clear c28
                      by_cases c29 : 0 ≤ x14_2
                      · rw [if_pos c29] at H
                        have c29b0 : decide (0 ≤ x14_2) = true := decide_eq_true c29
                        clear c29
                        by_cases c30 : (rd x7_1 x14_2) ≤ ji21
                        · rw [if_pos c30] at H
                          have c30b0 : decide ((rd x7_1 x14_2) ≤ ji21) = true := decide_eq_true c30
                          clear c30
                          have H' := Aside0.mk H
                          clear H
                          obtain ⟨Ao31, co31, eo31⟩ := Kd.R_slice HO_7.out
                          subst eo31
                          have p368 : 0 ≤ (x14_2 : Int) := of_decide_eq_true (by first | (with_reducible assumption) | assumption)
                          have q368 : x14_2 < (x7_1.length : Int) := of_decide_eq_true (by first | (with_reducible assumption) | assumption)
                          obtain ⟨ad368, e368, hx368_0⟩ := Kd.at_int (Kd.R_reads' HO_7.out).2.2 x14_2 p368 q368
                          cases e368
                          replace p368 := eq_true p368
                          replace q368 := eq_true q368
                          go_wp2
                          go_roundg k2
                          case measure => have := HK1.out; have := HK2.out; omega
                          case rel => exact ⟨(wrap64 (x14_2 + 1)), (by first | rfl | (simp; done) | (simp [*]; done)), H', ⟨by have := HK1.out; have := HK2.out; omega⟩, ⟨by (with_reducible repeat (first | apply Kd.R_alloc | apply Kd.R_drewN | apply Kd.R_drew)); exact HO_7.out⟩, ⟨by (with_reducible repeat (first | apply Kd.N_alloc | apply Kd.N_drewN | apply Kd.N_drew)); exact HO_12.out⟩, ⟨by repeat (first | (with_reducible first | exact HB.out | apply below_alloc | apply pw_below_drewN | apply below_drew1) | exact HB.out)⟩⟩
                        · rw [if_neg c30] at H
                          have c30b0 : decide ((rd x7_1 x14_2) ≤ ji21) = false := decide_eq_false c30
                          clear c30
                          have c32b0 := eq_true (of_decide_eq_true (by first | (with_reducible assumption) | assumption) : 0 ≤ x14_2)
                          by_cases c33 : x14_2 ≤ (l0.length : Int)
                          · rw [if_pos c33] at H
                            have c33b0 := eq_true c33
                            have c33b1 : decide (x14_2 ≤ (l0.length : Int)) = true := decide_eq_true c33
                            clear c33
                            obtain ⟨y369, hy369⟩ : ∃ y_ : List (List Int), y_ = (l0.take (x14_2 : Int).toNat) := ⟨_, rfl⟩
                            replace H : ((banksmanref03_Same.f k2 t364 y369).bind fun t373 => (if t346 = true then (if t373 = true then (if x14_2 = 0 then (if t367 = 0 then (some true) else (if x14_2 > 0 then (if 0 ≤ (wrap64 (x14_2 - 1)) then (if (wrap64 (x14_2 - 1)) < (x7_1.length : Int) then (some (t367 == (rd x7_1 (wrap64 (x14_2 - 1))))) else (none)) else (none)) else (some false))) else (if x14_2 > 0 then (if 0 ≤ (wrap64 (x14_2 - 1)) then (if (wrap64 (x14_2 - 1)) < (x7_1.length : Int) then (some (t367 == (rd x7_1 (wrap64 (x14_2 - 1))))) else (none)) else (none)) else (some false))) else (some false)) else (some false))) = some r := by first | (rw [hy369]; with_reducible exact H) | (have H2_ := (Option.bind_some _ _).symm.trans H; rw [hy369]; with_reducible exact H2_) | (have H2_ := (Option.bind_some _ _).symm.trans H; with_reducible exact H2_) | with_reducible exact H | (rw [hy369]; exact H) | exact H
                            have Ny369 := Aside0.mk hy369
                            clear hy369
                            replace H := Option.bind_eq_some_iff.mp H
                            obtain ⟨t373, A340, H⟩ := H
                            replace H : (if t346 = true then (if t373 = true then (if x14_2 = 0 then (if t367 = 0 then (some true) else (if x14_2 > 0 then (if 0 ≤ (wrap64 (x14_2 - 1)) then (if (wrap64 (x14_2 - 1)) < (x7_1.length : Int) then (some (t367 == (rd x7_1 (wrap64 (x14_2 - 1))))) else (none)) else (none)) else (some false))) else (if x14_2 > 0 then (if 0 ≤ (wrap64 (x14_2 - 1)) then (if (wrap64 (x14_2 - 1)) < (x7_1.length : Int) then (some (t367 == (rd x7_1 (wrap64 (x14_2 - 1))))) else (none)) else (none)) else (some false))) else (some false)) else (some false)) = some r := H
                            have A34 := Aside0.mk A340
                            clear A340
                            by_cases c35 : t346 = true
                            · subst c35
                              have H1 : (if t373 = true then (if x14_2 = 0 then (if t367 = 0 then (some true) else (if x14_2 > 0 then (if 0 ≤ (wrap64 (x14_2 - 1)) then (if (wrap64 (x14_2 - 1)) < (x7_1.length : Int) then (some (t367 == (rd x7_1 (wrap64 (x14_2 - 1))))) else (none)) else (none)) else (some false))) else (if x14_2 > 0 then (if 0 ≤ (wrap64 (x14_2 - 1)) then (if (wrap64 (x14_2 - 1)) < (x7_1.length : Int) then (some (t367 == (rd x7_1 (wrap64 (x14_2 - 1))))) else (none)) else (none)) else (some false))) else (some false)) = some r := by rw [if_pos rfl] at H; exact H
                              clear H
                              have H := H1
                              clear H1
                              by_cases c36 : t373 = true
                              · subst c36
                                have H1 : (if x14_2 = 0 then (if t367 = 0 then (some true) else (if x14_2 > 0 then (if 0 ≤ (wrap64 (x14_2 - 1)) then (if (wrap64 (x14_2 - 1)) < (x7_1.length : Int) then (some (t367 == (rd x7_1 (wrap64 (x14_2 - 1))))) else (none)) else (none)) else (some false))) else (if x14_2 > 0 then (if 0 ≤ (wrap64 (x14_2 - 1)) then (if (wrap64 (x14_2 - 1)) < (x7_1.length : Int) then (some (t367 == (rd x7_1 (wrap64 (x14_2 - 1))))) else (none)) else (none)) else (some false))) = some r := by rw [if_pos rfl] at H; exact H
                                clear H
                                have H := H1
                                clear H1
                                by_cases c37 : x14_2 = 0
                                · rw [if_pos c37] at H
                                  have c37b0 : (x14_2 == 0) = true := beq_iff_eq.mpr c37
                                  have c37b1 : (x14_2 != 0) = false := bne_eq_false_iff_eq.mpr c37
                                  clear c37
                                  by_cases c38 : t367 = 0
                                  · rw [if_pos c38] at H
                                    have c38b0 : (t367 == 0) = true := beq_iff_eq.mpr c38
                                    have c38b1 : (t367 != 0) = false := bne_eq_false_iff_eq.mpr c38
                                    clear c38
                                    obtain rfl := Option.some.inj H
                                    obtain ⟨Ao39, co39, eo39⟩ := Kd.R_slice HO_7.out
                                    subst eo39
                                    have p368 : 0 ≤ (x14_2 : Int) := of_decide_eq_true (by first | (with_reducible assumption) | assumption)
                                    have q368 : x14_2 < (x7_1.length : Int) := of_decide_eq_true (by first | (with_reducible assumption) | assumption)
                                    obtain ⟨ad368, e368, hx368_0⟩ := Kd.at_int (Kd.R_reads' HO_7.out).2.2 x14_2 p368 q368
                                    cases e368
                                    replace p368 := eq_true p368
                                    replace q368 := eq_true q368
                                    have q40 : (x14_2 : Int) ≤ ((l0.length : Int) : Int) := of_decide_eq_true (by first | (with_reducible assumption) | assumption)
                                    obtain ⟨i040, hi040, _, hsz40, _⟩ := info_parts info22
                                    have hroom40 : l0.length ≤ c0 := HC0.out
                                    have hC40 : Kd.C (Kd.slice 5 (Kd.int .u8)) _ A0 l0.length l0 := HR0.out
                                    have hcut40 := cut_to (P := Try.prog) 29 22 .i64 Try.underlying29 hi040 A0 l0.length c0 x14_2 (of_decide_eq_true (by first | (with_reducible assumption) | assumption)) q40 hroom40
                                    have hr40 := Kd.C_take (m := (x14_2 : Int).toNat) hC40 (by omega)
                                    have hy40 : y369.length = (x14_2 : Int).toNat := (by rw [Ny369.out, List.length_take]; omega)
                                    rw [← Ny369.out] at hr40
                                    rw [← hy40] at hcut40
                                    have HR372 := Aside0.mk hr40
                                    have HC372 := Aside0.mk (show y369.length ≤ c0 from by omega)
                                    clear hr40 hC40 hroom40 hi040 hsz40
                                    have KY40 := Aside0.mk hy40
                                    clear hy40
                                    replace q40 := eq_true q40
                                    obtain ⟨Ao41, co41, eo41⟩ := Kd.N_slice HO_12.out
                                    subst eo41
                                    go_wp2_with (first | ((with_reducible refine gate_callee (f := 15) rfl ?_); refine goesL_ (some 83) rfl rfl Try.func15 (by kernel_rfl) rfl #[.slice Ao41 t364.length co41, .slice A0 y369.length c0] rfl (by (try simp only [List.map_toArray, List.map_cons, List.map_nil]); first | done | rfl | (simp only [List.length_drop, List.length_take]; rfl)) ?_; (with_reducible refine (banksmanref03_Same.calls k2 _ _ t364 _ _ y369 true _ ?side1 ?side2 ?side3 ?side4 A34.out).mono ?_); (case side1 => repeat (first | exact (Kd.N_reads' HO_12.out).2.2 | (with_reducible refine Kd.C_alloc ?_ _) | (with_reducible refine Kd.C_drewN ?_ _) | (with_reducible refine Kd.C_drew ?_))); (case side2 => exact (Kd.N_reads' HO_12.out).2.1); (case side3 => repeat (first | exact (Kd.C_below HR372.out HB.out) | (with_reducible refine Kd.C_alloc ?_ _) | (with_reducible refine Kd.C_drewN ?_ _) | (with_reducible refine Kd.C_drew ?_))); (case side4 => exact HC372.out); rintro e w' ⟨rfl, ⟨nd, rfl⟩⟩; refine ⟨_, rfl, ?_⟩))
                                    go_ret
                                    exact ⟨by first | rfl | (simp [errW_none, errW_some] <;> rfl) | (simp only [← hji21]; first | rfl | (simp [errW_none, errW_some] <;> rfl)) | (simp [*, errW_none, errW_some] <;> rfl), by repeat (first | (with_reducible first | exact HB.out | apply below_alloc | apply pw_below_drewN | apply below_drew1) | exact HB.out)⟩
                                  · rw [if_neg c38] at H
                                    have c38b0 : (t367 == 0) = false := beq_eq_false_iff_ne.mpr c38
                                    have c38b1 : (t367 != 0) = true := bne_iff_ne.mpr c38
                                    by_cases c42 : x14_2 > 0
                                    · rw [if_pos c42] at H
                                      have c42b0 : decide (0 < x14_2) = true := decide_eq_true c42
                                      clear c42
                                      obtain ⟨ji43, hji43⟩ : ∃ j_ : Int, (wrap64 (x14_2 - 1)) = j_ := ⟨_, rfl⟩
                                      replace H : (if 0 ≤ (ji43) then (if (ji43) < (x7_1.length : Int) then (some (t367 == (rd x7_1 (ji43)))) else (none)) else (none)) = some r := by first | (rw [hji43] at H; exact H) | (simp only [hji43] at H ⊢; exact H)
                                      (try rw [hji43] at A34)
                                      have hji43w : (IntKind.i64.wrap (x14_2 - 1)) = ji43 := (i64_w _).trans hji43
                                      by_cases c44 : 0 ≤ (ji43)
                                      · rw [if_pos c44] at H
                                        have c44b0 : decide (0 ≤ (ji43)) = true := decide_eq_true c44
                                        clear c44
                                        by_cases c45 : (ji43) < (x7_1.length : Int)
                                        · rw [if_pos c45] at H
                                          have c45b0 : decide ((ji43) < (x7_1.length : Int)) = true := decide_eq_true c45
                                          clear c45
                                          obtain rfl := Option.some.inj H
                                          obtain ⟨Ao46, co46, eo46⟩ := Kd.R_slice HO_7.out
                                          subst eo46
                                          have p368 : 0 ≤ (x14_2 : Int) := of_decide_eq_true (by first | (with_reducible assumption) | assumption)
                                          have q368 : x14_2 < (x7_1.length : Int) := of_decide_eq_true (by first | (with_reducible assumption) | assumption)
                                          obtain ⟨ad368, e368, hx368_0⟩ := Kd.at_int (Kd.R_reads' HO_7.out).2.2 x14_2 p368 q368
                                          cases e368
                                          replace p368 := eq_true p368
                                          replace q368 := eq_true q368
                                          have q47 : (x14_2 : Int) ≤ ((l0.length : Int) : Int) := of_decide_eq_true (by first | (with_reducible assumption) | assumption)
                                          obtain ⟨i047, hi047, _, hsz47, _⟩ := info_parts info22
                                          have hroom47 : l0.length ≤ c0 := HC0.out
                                          have hC47 : Kd.C (Kd.slice 5 (Kd.int .u8)) _ A0 l0.length l0 := HR0.out
                                          have hcut47 := cut_to (P := Try.prog) 29 22 .i64 Try.underlying29 hi047 A0 l0.length c0 x14_2 (of_decide_eq_true (by first | (with_reducible assumption) | assumption)) q47 hroom47
                                          have hr47 := Kd.C_take (m := (x14_2 : Int).toNat) hC47 (by omega)
                                          have hy47 : y369.length = (x14_2 : Int).toNat := (by rw [Ny369.out, List.length_take]; omega)
                                          rw [← Ny369.out] at hr47
                                          rw [← hy47] at hcut47
                                          have HR372 := Aside0.mk hr47
                                          have HC372 := Aside0.mk (show y369.length ≤ c0 from by omega)
                                          clear hr47 hC47 hroom47 hi047 hsz47
                                          have KY47 := Aside0.mk hy47
                                          clear hy47
                                          replace q47 := eq_true q47
                                          obtain ⟨Ao48, co48, eo48⟩ := Kd.N_slice HO_12.out
                                          subst eo48
                                          go_wp2_with (first | ((with_reducible refine gate_callee (f := 15) rfl ?_); refine goesL_ (some 83) rfl rfl Try.func15 (by kernel_rfl) rfl #[.slice Ao48 t364.length co48, .slice A0 y369.length c0] rfl (by (try simp only [List.map_toArray, List.map_cons, List.map_nil]); first | done | rfl | (simp only [List.length_drop, List.length_take]; rfl)) ?_; (with_reducible refine (banksmanref03_Same.calls k2 _ _ t364 _ _ y369 true _ ?side1 ?side2 ?side3 ?side4 A34.out).mono ?_); (case side1 => repeat (first | exact (Kd.N_reads' HO_12.out).2.2 | (with_reducible refine Kd.C_alloc ?_ _) | (with_reducible refine Kd.C_drewN ?_ _) | (with_reducible refine Kd.C_drew ?_))); (case side2 => exact (Kd.N_reads' HO_12.out).2.1); (case side3 => repeat (first | exact (Kd.C_below HR372.out HB.out) | (with_reducible refine Kd.C_alloc ?_ _) | (with_reducible refine Kd.C_drewN ?_ _) | (with_reducible refine Kd.C_drew ?_))); (case side4 => exact HC372.out); rintro e w' ⟨rfl, ⟨nd, rfl⟩⟩; refine ⟨_, rfl, ?_⟩; have p374 : 0 ≤ ((ji43) : Int) := of_decide_eq_true (by first | (with_reducible assumption) | assumption); have q374 : (ji43) < (x7_1.length : Int) := of_decide_eq_true (by first | (with_reducible assumption) | assumption); obtain ⟨ad374, e374, hx374_0⟩ := Kd.at_int (Kd.R_reads' HO_7.out).2.2 (ji43) p374 q374; obtain rfl : ad368 = ad374 := (by injection e374); replace p374 := eq_true p374; replace q374 := eq_true q374))
                                          go_ret
                                          exact ⟨by first | rfl | (simp [errW_none, errW_some] <;> rfl) | (simp only [← hji21, ← hji43]; first | rfl | (simp [errW_none, errW_some] <;> rfl)) | (simp [*, errW_none, errW_some] <;> rfl), by repeat (first | (with_reducible first | exact HB.out | apply below_alloc | apply pw_below_drewN | apply below_drew1) | exact HB.out)⟩
                                        · rw [if_neg c45] at H
                                          exact absurd H (by simp)
                                      · rw [if_neg c44] at H
                                        exact absurd H (by simp)
                                    · rw [if_neg c42] at H
                                      rw [HTr_] at H
                                      exact absurd (Option.some.inj H) (by decide)
                                · rw [if_neg c37] at H
                                  have c37b0 : (x14_2 == 0) = false := beq_eq_false_iff_ne.mpr c37
                                  have c37b1 : (x14_2 != 0) = true := bne_iff_ne.mpr c37
                                  by_cases c52 : x14_2 > 0
                                  · rw [if_pos c52] at H
                                    have c52b0 : decide (0 < x14_2) = true := decide_eq_true c52
                                    clear c52
                                    obtain ⟨ji53, hji53⟩ : ∃ j_ : Int, (wrap64 (x14_2 - 1)) = j_ := ⟨_, rfl⟩
                                    replace H : (if 0 ≤ (ji53) then (if (ji53) < (x7_1.length : Int) then (some (t367 == (rd x7_1 (ji53)))) else (none)) else (none)) = some r := by first | (rw [hji53] at H; exact H) | (simp only [hji53] at H ⊢; exact H)
                                    (try rw [hji53] at A34)
                                    have hji53w : (IntKind.i64.wrap (x14_2 - 1)) = ji53 := (i64_w _).trans hji53
                                    by_cases c54 : 0 ≤ (ji53)
                                    · rw [if_pos c54] at H
                                      have c54b0 : decide (0 ≤ (ji53)) = true := decide_eq_true c54
                                      clear c54
                                      by_cases c55 : (ji53) < (x7_1.length : Int)
                                      · rw [if_pos c55] at H
                                        have c55b0 : decide ((ji53) < (x7_1.length : Int)) = true := decide_eq_true c55
                                        clear c55
                                        obtain rfl := Option.some.inj H
                                        obtain ⟨Ao56, co56, eo56⟩ := Kd.R_slice HO_7.out
                                        subst eo56
                                        have p368 : 0 ≤ (x14_2 : Int) := of_decide_eq_true (by first | (with_reducible assumption) | assumption)
                                        have q368 : x14_2 < (x7_1.length : Int) := of_decide_eq_true (by first | (with_reducible assumption) | assumption)
                                        obtain ⟨ad368, e368, hx368_0⟩ := Kd.at_int (Kd.R_reads' HO_7.out).2.2 x14_2 p368 q368
                                        cases e368
                                        replace p368 := eq_true p368
                                        replace q368 := eq_true q368
                                        have q57 : (x14_2 : Int) ≤ ((l0.length : Int) : Int) := of_decide_eq_true (by first | (with_reducible assumption) | assumption)
                                        obtain ⟨i057, hi057, _, hsz57, _⟩ := info_parts info22
                                        have hroom57 : l0.length ≤ c0 := HC0.out
                                        have hC57 : Kd.C (Kd.slice 5 (Kd.int .u8)) _ A0 l0.length l0 := HR0.out
                                        have hcut57 := cut_to (P := Try.prog) 29 22 .i64 Try.underlying29 hi057 A0 l0.length c0 x14_2 (of_decide_eq_true (by first | (with_reducible assumption) | assumption)) q57 hroom57
                                        have hr57 := Kd.C_take (m := (x14_2 : Int).toNat) hC57 (by omega)
                                        have hy57 : y369.length = (x14_2 : Int).toNat := (by rw [Ny369.out, List.length_take]; omega)
                                        rw [← Ny369.out] at hr57
                                        rw [← hy57] at hcut57
                                        have HR372 := Aside0.mk hr57
                                        have HC372 := Aside0.mk (show y369.length ≤ c0 from by omega)
                                        clear hr57 hC57 hroom57 hi057 hsz57
                                        have KY57 := Aside0.mk hy57
                                        clear hy57
                                        replace q57 := eq_true q57
                                        obtain ⟨Ao58, co58, eo58⟩ := Kd.N_slice HO_12.out
                                        subst eo58
                                        go_wp2_with (first | ((with_reducible refine gate_callee (f := 15) rfl ?_); refine goesL_ (some 83) rfl rfl Try.func15 (by kernel_rfl) rfl #[.slice Ao58 t364.length co58, .slice A0 y369.length c0] rfl (by (try simp only [List.map_toArray, List.map_cons, List.map_nil]); first | done | rfl | (simp only [List.length_drop, List.length_take]; rfl)) ?_; (with_reducible refine (banksmanref03_Same.calls k2 _ _ t364 _ _ y369 true _ ?side1 ?side2 ?side3 ?side4 A34.out).mono ?_); (case side1 => repeat (first | exact (Kd.N_reads' HO_12.out).2.2 | (with_reducible refine Kd.C_alloc ?_ _) | (with_reducible refine Kd.C_drewN ?_ _) | (with_reducible refine Kd.C_drew ?_))); (case side2 => exact (Kd.N_reads' HO_12.out).2.1); (case side3 => repeat (first | exact (Kd.C_below HR372.out HB.out) | (with_reducible refine Kd.C_alloc ?_ _) | (with_reducible refine Kd.C_drewN ?_ _) | (with_reducible refine Kd.C_drew ?_))); (case side4 => exact HC372.out); rintro e w' ⟨rfl, ⟨nd, rfl⟩⟩; refine ⟨_, rfl, ?_⟩; have p375 : 0 ≤ ((ji53) : Int) := of_decide_eq_true (by first | (with_reducible assumption) | assumption); have q375 : (ji53) < (x7_1.length : Int) := of_decide_eq_true (by first | (with_reducible assumption) | assumption); obtain ⟨ad375, e375, hx375_0⟩ := Kd.at_int (Kd.R_reads' HO_7.out).2.2 (ji53) p375 q375; obtain rfl : ad368 = ad375 := (by injection e375); replace p375 := eq_true p375; replace q375 := eq_true q375))
                                        go_ret
                                        exact ⟨by first | rfl | (simp [errW_none, errW_some] <;> rfl) | (simp only [← hji21, ← hji53]; first | rfl | (simp [errW_none, errW_some] <;> rfl)) | (simp [*, errW_none, errW_some] <;> rfl), by repeat (first | (with_reducible first | exact HB.out | apply below_alloc | apply pw_below_drewN | apply below_drew1) | exact HB.out)⟩
                                      · rw [if_neg c55] at H
                                        exact absurd H (by simp)
                                    · rw [if_neg c54] at H
                                      exact absurd H (by simp)
                                  · rw [if_neg c52] at H
                                    rw [HTr_] at H
                                    exact absurd (Option.some.inj H) (by decide)
                              · replace c36 := Bool.eq_false_iff.mpr c36
                                subst c36
                                have H1 : (some false) = some r := by rw [if_neg (show ¬ (false = true) by decide)] at H; exact H
                                rw [HTr_] at H1
                                exact absurd (Option.some.inj H1) (by decide)
                            · replace c35 := Bool.eq_false_iff.mpr c35
                              subst c35
                              have H1 : (some false) = some r := by rw [if_neg (show ¬ (false = true) by decide)] at H; exact H
                              rw [HTr_] at H1
                              exact absurd (Option.some.inj H1) (by decide)
                          · rw [if_neg c33] at H
                            exact absurd H (by simp)
                      · rw [if_neg c29] at H
                        exact absurd H (by simp)
                    · rw [if_neg c28] at H
                      have c28b0 : decide (x14_2 < (x7_1.length : Int)) = false := decide_eq_false c28
                      clear c28
                      by_cases c68 : 0 ≤ x14_2
                      · rw [if_pos c68] at H
                        have c68b0 := eq_true c68
                        have c68b1 : decide (0 ≤ x14_2) = true := decide_eq_true c68
                        clear c68
                        by_cases c69 : x14_2 ≤ (l0.length : Int)
                        · rw [if_pos c69] at H
                          have c69b0 := eq_true c69
                          have c69b1 : decide (x14_2 ≤ (l0.length : Int)) = true := decide_eq_true c69
                          clear c69
                          obtain ⟨y376, hy376⟩ : ∃ y_ : List (List Int), y_ = (l0.take (x14_2 : Int).toNat) := ⟨_, rfl⟩
                          replace H : ((banksmanref03_Same.f k2 t364 y376).bind fun t380 => (if t346 = true then (if t380 = true then (if x14_2 = 0 then (if t367 = 0 then (some true) else (if x14_2 > 0 then (if 0 ≤ (wrap64 (x14_2 - 1)) then (if (wrap64 (x14_2 - 1)) < (x7_1.length : Int) then (some (t367 == (rd x7_1 (wrap64 (x14_2 - 1))))) else (none)) else (none)) else (some false))) else (if x14_2 > 0 then (if 0 ≤ (wrap64 (x14_2 - 1)) then (if (wrap64 (x14_2 - 1)) < (x7_1.length : Int) then (some (t367 == (rd x7_1 (wrap64 (x14_2 - 1))))) else (none)) else (none)) else (some false))) else (some false)) else (some false))) = some r := by first | (rw [hy376]; with_reducible exact H) | (have H2_ := (Option.bind_some _ _).symm.trans H; rw [hy376]; with_reducible exact H2_) | (have H2_ := (Option.bind_some _ _).symm.trans H; with_reducible exact H2_) | with_reducible exact H | (rw [hy376]; exact H) | exact H
                          have Ny376 := Aside0.mk hy376
                          clear hy376
                          replace H := Option.bind_eq_some_iff.mp H
                          obtain ⟨t380, A700, H⟩ := H
                          replace H : (if t346 = true then (if t380 = true then (if x14_2 = 0 then (if t367 = 0 then (some true) else (if x14_2 > 0 then (if 0 ≤ (wrap64 (x14_2 - 1)) then (if (wrap64 (x14_2 - 1)) < (x7_1.length : Int) then (some (t367 == (rd x7_1 (wrap64 (x14_2 - 1))))) else (none)) else (none)) else (some false))) else (if x14_2 > 0 then (if 0 ≤ (wrap64 (x14_2 - 1)) then (if (wrap64 (x14_2 - 1)) < (x7_1.length : Int) then (some (t367 == (rd x7_1 (wrap64 (x14_2 - 1))))) else (none)) else (none)) else (some false))) else (some false)) else (some false)) = some r := H
                          have A70 := Aside0.mk A700
                          clear A700
                          by_cases c71 : t346 = true
                          · subst c71
                            have H1 : (if t380 = true then (if x14_2 = 0 then (if t367 = 0 then (some true) else (if x14_2 > 0 then (if 0 ≤ (wrap64 (x14_2 - 1)) then (if (wrap64 (x14_2 - 1)) < (x7_1.length : Int) then (some (t367 == (rd x7_1 (wrap64 (x14_2 - 1))))) else (none)) else (none)) else (some false))) else (if x14_2 > 0 then (if 0 ≤ (wrap64 (x14_2 - 1)) then (if (wrap64 (x14_2 - 1)) < (x7_1.length : Int) then (some (t367 == (rd x7_1 (wrap64 (x14_2 - 1))))) else (none)) else (none)) else (some false))) else (some false)) = some r := by rw [if_pos rfl] at H; exact H
                            clear H
                            have H := H1
                            clear H1
                            by_cases c72 : t380 = true
                            · subst c72
                              have H1 : (if x14_2 = 0 then (if t367 = 0 then (some true) else (if x14_2 > 0 then (if 0 ≤ (wrap64 (x14_2 - 1)) then (if (wrap64 (x14_2 - 1)) < (x7_1.length : Int) then (some (t367 == (rd x7_1 (wrap64 (x14_2 - 1))))) else (none)) else (none)) else (some false))) else (if x14_2 > 0 then (if 0 ≤ (wrap64 (x14_2 - 1)) then (if (wrap64 (x14_2 - 1)) < (x7_1.length : Int) then (some (t367 == (rd x7_1 (wrap64 (x14_2 - 1))))) else (none)) else (none)) else (some false))) = some r := by rw [if_pos rfl] at H; exact H
                              clear H
                              have H := H1
                              clear H1
                              by_cases c73 : x14_2 = 0
                              · rw [if_pos c73] at H
                                have c73b0 : (x14_2 == 0) = true := beq_iff_eq.mpr c73
                                have c73b1 : (x14_2 != 0) = false := bne_eq_false_iff_eq.mpr c73
                                clear c73
                                by_cases c74 : t367 = 0
                                · rw [if_pos c74] at H
                                  have c74b0 : (t367 == 0) = true := beq_iff_eq.mpr c74
                                  have c74b1 : (t367 != 0) = false := bne_eq_false_iff_eq.mpr c74
                                  clear c74
                                  obtain rfl := Option.some.inj H
                                  obtain ⟨Ao75, co75, eo75⟩ := Kd.R_slice HO_7.out
                                  subst eo75
                                  have q76 : (x14_2 : Int) ≤ ((l0.length : Int) : Int) := of_decide_eq_true (by first | (with_reducible assumption) | assumption)
                                  obtain ⟨i076, hi076, _, hsz76, _⟩ := info_parts info22
                                  have hroom76 : l0.length ≤ c0 := HC0.out
                                  have hC76 : Kd.C (Kd.slice 5 (Kd.int .u8)) _ A0 l0.length l0 := HR0.out
                                  have hcut76 := cut_to (P := Try.prog) 29 22 .i64 Try.underlying29 hi076 A0 l0.length c0 x14_2 (of_decide_eq_true (by first | (with_reducible assumption) | assumption)) q76 hroom76
                                  have hr76 := Kd.C_take (m := (x14_2 : Int).toNat) hC76 (by omega)
                                  have hy76 : y376.length = (x14_2 : Int).toNat := (by rw [Ny376.out, List.length_take]; omega)
                                  rw [← Ny376.out] at hr76
                                  rw [← hy76] at hcut76
                                  have HR379 := Aside0.mk hr76
                                  have HC379 := Aside0.mk (show y376.length ≤ c0 from by omega)
                                  clear hr76 hC76 hroom76 hi076 hsz76
                                  have KY76 := Aside0.mk hy76
                                  clear hy76
                                  replace q76 := eq_true q76
                                  obtain ⟨Ao77, co77, eo77⟩ := Kd.N_slice HO_12.out
                                  subst eo77
                                  go_wp2_with (first | ((with_reducible refine gate_callee (f := 15) rfl ?_); refine goesL_ (some 83) rfl rfl Try.func15 (by kernel_rfl) rfl #[.slice Ao77 t364.length co77, .slice A0 y376.length c0] rfl (by (try simp only [List.map_toArray, List.map_cons, List.map_nil]); first | done | rfl | (simp only [List.length_drop, List.length_take]; rfl)) ?_; (with_reducible refine (banksmanref03_Same.calls k2 _ _ t364 _ _ y376 true _ ?side1 ?side2 ?side3 ?side4 A70.out).mono ?_); (case side1 => repeat (first | exact (Kd.N_reads' HO_12.out).2.2 | (with_reducible refine Kd.C_alloc ?_ _) | (with_reducible refine Kd.C_drewN ?_ _) | (with_reducible refine Kd.C_drew ?_))); (case side2 => exact (Kd.N_reads' HO_12.out).2.1); (case side3 => repeat (first | exact (Kd.C_below HR379.out HB.out) | (with_reducible refine Kd.C_alloc ?_ _) | (with_reducible refine Kd.C_drewN ?_ _) | (with_reducible refine Kd.C_drew ?_))); (case side4 => exact HC379.out); rintro e w' ⟨rfl, ⟨nd, rfl⟩⟩; refine ⟨_, rfl, ?_⟩))
                                  go_ret
                                  exact ⟨by first | rfl | (simp [errW_none, errW_some] <;> rfl) | (simp only [← hji21]; first | rfl | (simp [errW_none, errW_some] <;> rfl)) | (simp [*, errW_none, errW_some] <;> rfl), by repeat (first | (with_reducible first | exact HB.out | apply below_alloc | apply pw_below_drewN | apply below_drew1) | exact HB.out)⟩
                                · rw [if_neg c74] at H
                                  have c74b0 : (t367 == 0) = false := beq_eq_false_iff_ne.mpr c74
                                  have c74b1 : (t367 != 0) = true := bne_iff_ne.mpr c74
                                  by_cases c78 : x14_2 > 0
                                  · rw [if_pos c78] at H
                                    have c78b0 : decide (0 < x14_2) = true := decide_eq_true c78
                                    clear c78
                                    obtain ⟨ji79, hji79⟩ : ∃ j_ : Int, (wrap64 (x14_2 - 1)) = j_ := ⟨_, rfl⟩
                                    replace H : (if 0 ≤ (ji79) then (if (ji79) < (x7_1.length : Int) then (some (t367 == (rd x7_1 (ji79)))) else (none)) else (none)) = some r := by first | (rw [hji79] at H; exact H) | (simp only [hji79] at H ⊢; exact H)
                                    (try rw [hji79] at A70)
                                    have hji79w : (IntKind.i64.wrap (x14_2 - 1)) = ji79 := (i64_w _).trans hji79
                                    by_cases c80 : 0 ≤ (ji79)
                                    · rw [if_pos c80] at H
                                      have c80b0 : decide (0 ≤ (ji79)) = true := decide_eq_true c80
                                      clear c80
                                      by_cases c81 : (ji79) < (x7_1.length : Int)
                                      · rw [if_pos c81] at H
                                        have c81b0 : decide ((ji79) < (x7_1.length : Int)) = true := decide_eq_true c81
                                        clear c81
                                        obtain rfl := Option.some.inj H
                                        obtain ⟨Ao82, co82, eo82⟩ := Kd.R_slice HO_7.out
                                        subst eo82
                                        have q83 : (x14_2 : Int) ≤ ((l0.length : Int) : Int) := of_decide_eq_true (by first | (with_reducible assumption) | assumption)
                                        obtain ⟨i083, hi083, _, hsz83, _⟩ := info_parts info22
                                        have hroom83 : l0.length ≤ c0 := HC0.out
                                        have hC83 : Kd.C (Kd.slice 5 (Kd.int .u8)) _ A0 l0.length l0 := HR0.out
                                        have hcut83 := cut_to (P := Try.prog) 29 22 .i64 Try.underlying29 hi083 A0 l0.length c0 x14_2 (of_decide_eq_true (by first | (with_reducible assumption) | assumption)) q83 hroom83
                                        have hr83 := Kd.C_take (m := (x14_2 : Int).toNat) hC83 (by omega)
                                        have hy83 : y376.length = (x14_2 : Int).toNat := (by rw [Ny376.out, List.length_take]; omega)
                                        rw [← Ny376.out] at hr83
                                        rw [← hy83] at hcut83
                                        have HR379 := Aside0.mk hr83
                                        have HC379 := Aside0.mk (show y376.length ≤ c0 from by omega)
                                        clear hr83 hC83 hroom83 hi083 hsz83
                                        have KY83 := Aside0.mk hy83
                                        clear hy83
                                        replace q83 := eq_true q83
                                        obtain ⟨Ao84, co84, eo84⟩ := Kd.N_slice HO_12.out
                                        subst eo84
                                        go_wp2_with (first | ((with_reducible refine gate_callee (f := 15) rfl ?_); refine goesL_ (some 83) rfl rfl Try.func15 (by kernel_rfl) rfl #[.slice Ao84 t364.length co84, .slice A0 y376.length c0] rfl (by (try simp only [List.map_toArray, List.map_cons, List.map_nil]); first | done | rfl | (simp only [List.length_drop, List.length_take]; rfl)) ?_; (with_reducible refine (banksmanref03_Same.calls k2 _ _ t364 _ _ y376 true _ ?side1 ?side2 ?side3 ?side4 A70.out).mono ?_); (case side1 => repeat (first | exact (Kd.N_reads' HO_12.out).2.2 | (with_reducible refine Kd.C_alloc ?_ _) | (with_reducible refine Kd.C_drewN ?_ _) | (with_reducible refine Kd.C_drew ?_))); (case side2 => exact (Kd.N_reads' HO_12.out).2.1); (case side3 => repeat (first | exact (Kd.C_below HR379.out HB.out) | (with_reducible refine Kd.C_alloc ?_ _) | (with_reducible refine Kd.C_drewN ?_ _) | (with_reducible refine Kd.C_drew ?_))); (case side4 => exact HC379.out); rintro e w' ⟨rfl, ⟨nd, rfl⟩⟩; refine ⟨_, rfl, ?_⟩; have p381 : 0 ≤ ((ji79) : Int) := of_decide_eq_true (by first | (with_reducible assumption) | assumption); have q381 : (ji79) < (x7_1.length : Int) := of_decide_eq_true (by first | (with_reducible assumption) | assumption); obtain ⟨ad381, e381, hx381_0⟩ := Kd.at_int (Kd.R_reads' HO_7.out).2.2 (ji79) p381 q381; cases e381; replace p381 := eq_true p381; replace q381 := eq_true q381))
                                        go_ret
                                        exact ⟨by first | rfl | (simp [errW_none, errW_some] <;> rfl) | (simp only [← hji21, ← hji79]; first | rfl | (simp [errW_none, errW_some] <;> rfl)) | (simp [*, errW_none, errW_some] <;> rfl), by repeat (first | (with_reducible first | exact HB.out | apply below_alloc | apply pw_below_drewN | apply below_drew1) | exact HB.out)⟩
                                      · rw [if_neg c81] at H
                                        exact absurd H (by simp)
                                    · rw [if_neg c80] at H
                                      exact absurd H (by simp)
                                  · rw [if_neg c78] at H
                                    rw [HTr_] at H
                                    exact absurd (Option.some.inj H) (by decide)
                              · rw [if_neg c73] at H
                                have c73b0 : (x14_2 == 0) = false := beq_eq_false_iff_ne.mpr c73
                                have c73b1 : (x14_2 != 0) = true := bne_iff_ne.mpr c73
                                by_cases c88 : x14_2 > 0
                                · rw [if_pos c88] at H
                                  have c88b0 : decide (0 < x14_2) = true := decide_eq_true c88
                                  clear c88
                                  obtain ⟨ji89, hji89⟩ : ∃ j_ : Int, (wrap64 (x14_2 - 1)) = j_ := ⟨_, rfl⟩
                                  replace H : (if 0 ≤ (ji89) then (if (ji89) < (x7_1.length : Int) then (some (t367 == (rd x7_1 (ji89)))) else (none)) else (none)) = some r := by first | (rw [hji89] at H; exact H) | (simp only [hji89] at H ⊢; exact H)
                                  (try rw [hji89] at A70)
                                  have hji89w : (IntKind.i64.wrap (x14_2 - 1)) = ji89 := (i64_w _).trans hji89
                                  by_cases c90 : 0 ≤ (ji89)
                                  · rw [if_pos c90] at H
                                    have c90b0 : decide (0 ≤ (ji89)) = true := decide_eq_true c90
                                    clear c90
                                    by_cases c91 : (ji89) < (x7_1.length : Int)
                                    · rw [if_pos c91] at H
                                      have c91b0 : decide ((ji89) < (x7_1.length : Int)) = true := decide_eq_true c91
                                      clear c91
                                      obtain rfl := Option.some.inj H
                                      obtain ⟨Ao92, co92, eo92⟩ := Kd.R_slice HO_7.out
                                      subst eo92
                                      have q93 : (x14_2 : Int) ≤ ((l0.length : Int) : Int) := of_decide_eq_true (by first | (with_reducible assumption) | assumption)
                                      obtain ⟨i093, hi093, _, hsz93, _⟩ := info_parts info22
                                      have hroom93 : l0.length ≤ c0 := HC0.out
                                      have hC93 : Kd.C (Kd.slice 5 (Kd.int .u8)) _ A0 l0.length l0 := HR0.out
                                      have hcut93 := cut_to (P := Try.prog) 29 22 .i64 Try.underlying29 hi093 A0 l0.length c0 x14_2 (of_decide_eq_true (by first | (with_reducible assumption) | assumption)) q93 hroom93
                                      have hr93 := Kd.C_take (m := (x14_2 : Int).toNat) hC93 (by omega)
                                      have hy93 : y376.length = (x14_2 : Int).toNat := (by rw [Ny376.out, List.length_take]; omega)
                                      rw [← Ny376.out] at hr93
                                      rw [← hy93] at hcut93
                                      have HR379 := Aside0.mk hr93
                                      have HC379 := Aside0.mk (show y376.length ≤ c0 from by omega)
                                      clear hr93 hC93 hroom93 hi093 hsz93
                                      have KY93 := Aside0.mk hy93
                                      clear hy93
                                      replace q93 := eq_true q93
                                      obtain ⟨Ao94, co94, eo94⟩ := Kd.N_slice HO_12.out
                                      subst eo94
                                      go_wp2_with (first | ((with_reducible refine gate_callee (f := 15) rfl ?_); refine goesL_ (some 83) rfl rfl Try.func15 (by kernel_rfl) rfl #[.slice Ao94 t364.length co94, .slice A0 y376.length c0] rfl (by (try simp only [List.map_toArray, List.map_cons, List.map_nil]); first | done | rfl | (simp only [List.length_drop, List.length_take]; rfl)) ?_; (with_reducible refine (banksmanref03_Same.calls k2 _ _ t364 _ _ y376 true _ ?side1 ?side2 ?side3 ?side4 A70.out).mono ?_); (case side1 => repeat (first | exact (Kd.N_reads' HO_12.out).2.2 | (with_reducible refine Kd.C_alloc ?_ _) | (with_reducible refine Kd.C_drewN ?_ _) | (with_reducible refine Kd.C_drew ?_))); (case side2 => exact (Kd.N_reads' HO_12.out).2.1); (case side3 => repeat (first | exact (Kd.C_below HR379.out HB.out) | (with_reducible refine Kd.C_alloc ?_ _) | (with_reducible refine Kd.C_drewN ?_ _) | (with_reducible refine Kd.C_drew ?_))); (case side4 => exact HC379.out); rintro e w' ⟨rfl, ⟨nd, rfl⟩⟩; refine ⟨_, rfl, ?_⟩; have p382 : 0 ≤ ((ji89) : Int) := of_decide_eq_true (by first | (with_reducible assumption) | assumption); have q382 : (ji89) < (x7_1.length : Int) := of_decide_eq_true (by first | (with_reducible assumption) | assumption); obtain ⟨ad382, e382, hx382_0⟩ := Kd.at_int (Kd.R_reads' HO_7.out).2.2 (ji89) p382 q382; cases e382; replace p382 := eq_true p382; replace q382 := eq_true q382))
                                      go_ret
                                      exact ⟨by first | rfl | (simp [errW_none, errW_some] <;> rfl) | (simp only [← hji21, ← hji89]; first | rfl | (simp [errW_none, errW_some] <;> rfl)) | (simp [*, errW_none, errW_some] <;> rfl), by repeat (first | (with_reducible first | exact HB.out | apply below_alloc | apply pw_below_drewN | apply below_drew1) | exact HB.out)⟩
                                    · rw [if_neg c91] at H
                                      exact absurd H (by simp)
                                  · rw [if_neg c90] at H
                                    exact absurd H (by simp)
                                · rw [if_neg c88] at H
                                  rw [HTr_] at H
                                  exact absurd (Option.some.inj H) (by decide)
                            · replace c72 := Bool.eq_false_iff.mpr c72
                              subst c72
                              have H1 : (some false) = some r := by rw [if_neg (show ¬ (false = true) by decide)] at H; exact H
                              rw [HTr_] at H1
                              exact absurd (Option.some.inj H1) (by decide)
                          · replace c71 := Bool.eq_false_iff.mpr c71
                            subst c71
                            have H1 : (some false) = some r := by rw [if_neg (show ¬ (false = true) by decide)] at H; exact H
                            rw [HTr_] at H1
                            exact absurd (Option.some.inj H1) (by decide)
                        · rw [if_neg c69] at H
                          exact absurd H (by simp)
                      · rw [if_neg c68] at H
                        exact absurd H (by simp)
              · rw [if_neg c23] at H
                exact absurd H (by simp)
            · rw [if_neg c22] at H
              exact absurd H (by simp)

/-- The law, plainly. -/
def banksmanlaw03_FrameCuts.Pure : Prop := ∀ (l0 : List (List Int)) (a1 : Int), (fun xs_ : List (List Int) => xs_.length ≤ maxLen ∧ ∀ x ∈ xs_, (fun xs_ : List Int => xs_.length ≤ maxLen ∧ ∀ x ∈ xs_, (fun n_ : Int => (Lit.int .u8 n_).wf = true) x) x) l0 → (fun n_ : Int => (Lit.int .u16 n_).wf = true) a1 → ∃ k, banksmanlaw03_FrameCuts.f k l0 a1 = some true

end Go.Proofs.Ytficgggfplejpaa.P
