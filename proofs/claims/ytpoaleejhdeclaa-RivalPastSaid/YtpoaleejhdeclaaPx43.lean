-- Written by wip/gprint.py, a program of this session over the kit's print; Lean checks it.
import Derived.Test.YtpoaleejhdeclaaPx0
import Derived.Test.YtpoaleejhdeclaaPx1
import Derived.Test.YtpoaleejhdeclaaPx42
namespace Go.Proofs.Ytpoaleejhdeclaa.P
open Go.RowKit Go.Proofs.YtpoaleejhdeclaaW.PrintWords Go.Proofs.YtpoaleejhdeclaaW.PrintLast Go.Proofs.YtpoaleejhdeclaaW.PrintMore
attribute [local go_sem] max2_int min2_int max_two min_two max_three min_three max_four min_four   -- for this text's walks alone
set_option linter.unusedVariables false
set_option linter.unusedSimpArgs false

/-! ### banksmanref13_Few: function 11 -/
mutual
def banksmanref13_Few.j0 : Nat → List (S50) → List (S24) → Bool → Option (Bool)
  | 0, _, _, _ => none
  | k + 1, x0, x1, x17 => if x17 = true then (some false) else (banksmanref13_Few.l0 k x0 x1 0)
def banksmanref13_Few.l0 : Nat → List (S50) → List (S24) → Int → Option (Bool)
  | 0, _, _, _ => none
  | k + 1, x0, x1, x5 => if x5 < (x0.length : Int) then (if 0 ≤ x5 then ((banksmanref10_Few.f k ((rd_T50 x0 x5).f3)).bind fun t193 => ((banksmanref08_Few.f k ((rd_T50 x0 x5).f4) ([] : List Int)).bind fun t195 => (if t193 = true then (if t195 = true then (if (((rd_T50 x0 x5).f3).length : Int) > 30 then (some false) else (banksmanref13_Few.l0 k x0 x1 (wrap64 (x5 + 1)))) else (some false)) else (some false)))) else (none)) else (banksmanref13_Few.l1 k x1 0)
def banksmanref13_Few.l1 : Nat → List (S24) → Int → Option (Bool)
  | 0, _, _ => none
  | k + 1, x1, x8 => if x8 < (x1.length : Int) then (if 0 ≤ x8 then ((banksmanref10_Few.f k ((rd_T24 x1 x8).f1)).bind fun t198 => (if t198 = true then (if (((rd_T24 x1 x8).f1).length : Int) > 30 then (some false) else (banksmanref13_Few.l1 k x1 (wrap64 (x8 + 1)))) else (some false))) else (none)) else (some true)
end
def banksmanref13_Few.f (k : Nat) (l0 : List (S50)) (l1 : List (S24)) : Option (Bool) := if (l0.length : Int) > 30 then (banksmanref13_Few.j0 k l0 l1 true) else (banksmanref13_Few.j0 k l0 l1 (decide ((l1.length : Int) > 30)))
theorem banksmanref13_Few.mono_l : ∀ k, (∀ y0 y1 y2, LeO (banksmanref13_Few.j0 k y0 y1 y2) (banksmanref13_Few.j0 (k + 1) y0 y1 y2)) ∧ (∀ y0 y1 y2, LeO (banksmanref13_Few.l0 k y0 y1 y2) (banksmanref13_Few.l0 (k + 1) y0 y1 y2)) ∧ (∀ y0 y1, LeO (banksmanref13_Few.l1 k y0 y1) (banksmanref13_Few.l1 (k + 1) y0 y1))
  | 0 => ⟨fun _ _ _ r h => by simp [banksmanref13_Few.j0] at h, fun _ _ _ r h => by simp [banksmanref13_Few.l0] at h, fun _ _ r h => by simp [banksmanref13_Few.l1] at h⟩
  | k + 1 => by
    obtain ⟨ih0, ih1, ih2⟩ := banksmanref13_Few.mono_l k
    refine ⟨?_, ?_, ?_⟩
    · intro y0 y1 y2
      unfold banksmanref13_Few.j0
      repeat' first
      | (with_reducible exact ih0 _ _ _)
      | (with_reducible exact ih1 _ _ _)
      | (with_reducible exact ih2 _ _)
      | (with_reducible exact banksmanref08_Few.mono _ _ _)
      | (with_reducible exact banksmanref10_Few.mono _ _)
      | (with_reducible exact LeO.refl _)
      | (with_reducible exact LeO.none _)
      | (with_reducible refine LeO.ite ?_ ?_)
      | (with_reducible refine LeO.bind ?_ (fun _ => ?_))
      | exact ih0 _ _ _
      | exact ih1 _ _ _
      | exact ih2 _ _
      | exact banksmanref08_Few.mono _ _ _
      | exact banksmanref10_Few.mono _ _
      | exact LeO.none _
      | refine LeO.ite ?_ ?_
      | refine LeO.bind ?_ (fun _ => ?_)
    · intro y0 y1 y2
      unfold banksmanref13_Few.l0
      repeat' first
      | (with_reducible exact ih0 _ _ _)
      | (with_reducible exact ih1 _ _ _)
      | (with_reducible exact ih2 _ _)
      | (with_reducible exact banksmanref08_Few.mono _ _ _)
      | (with_reducible exact banksmanref10_Few.mono _ _)
      | (with_reducible exact LeO.refl _)
      | (with_reducible exact LeO.none _)
      | (with_reducible refine LeO.ite ?_ ?_)
      | (with_reducible refine LeO.bind ?_ (fun _ => ?_))
      | exact ih0 _ _ _
      | exact ih1 _ _ _
      | exact ih2 _ _
      | exact banksmanref08_Few.mono _ _ _
      | exact banksmanref10_Few.mono _ _
      | exact LeO.none _
      | refine LeO.ite ?_ ?_
      | refine LeO.bind ?_ (fun _ => ?_)
    · intro y0 y1
      unfold banksmanref13_Few.l1
      repeat' first
      | (with_reducible exact ih0 _ _ _)
      | (with_reducible exact ih1 _ _ _)
      | (with_reducible exact ih2 _ _)
      | (with_reducible exact banksmanref08_Few.mono _ _ _)
      | (with_reducible exact banksmanref10_Few.mono _ _)
      | (with_reducible exact LeO.refl _)
      | (with_reducible exact LeO.none _)
      | (with_reducible refine LeO.ite ?_ ?_)
      | (with_reducible refine LeO.bind ?_ (fun _ => ?_))
      | exact ih0 _ _ _
      | exact ih1 _ _ _
      | exact ih2 _ _
      | exact banksmanref08_Few.mono _ _ _
      | exact banksmanref10_Few.mono _ _
      | exact LeO.none _
      | refine LeO.ite ?_ ?_
      | refine LeO.bind ?_ (fun _ => ?_)
theorem banksmanref13_Few.mono : ∀ a0 a1 k, LeO (banksmanref13_Few.f k a0 a1) (banksmanref13_Few.f (k + 1) a0 a1) := by
  intro a0 a1 k
  obtain ⟨ih0, ih1, ih2⟩ := banksmanref13_Few.mono_l k
  unfold banksmanref13_Few.f
  repeat' first
      | (with_reducible exact ih0 _ _ _)
      | (with_reducible exact ih1 _ _ _)
      | (with_reducible exact ih2 _ _)
      | (with_reducible exact banksmanref08_Few.mono _ _ _)
      | (with_reducible exact banksmanref10_Few.mono _ _)
      | (with_reducible exact LeO.refl _)
      | (with_reducible exact LeO.none _)
      | (with_reducible refine LeO.ite ?_ ?_)
      | (with_reducible refine LeO.bind ?_ (fun _ => ?_))
      | exact ih0 _ _ _
      | exact ih1 _ _ _
      | exact ih2 _ _
      | exact banksmanref08_Few.mono _ _ _
      | exact banksmanref10_Few.mono _ _
      | exact LeO.none _
      | refine LeO.ite ?_ ?_
      | refine LeO.bind ?_ (fun _ => ?_)
set_option maxHeartbeats 8000000 in
set_option maxRecDepth 100000 in
theorem banksmanref13_Few.calls (k : Nat) (A0 : Option Addr) (c0 : Nat) (l0 : List (S50)) (A1 : Option Addr) (c1 : Nat) (l1 : List (S24)) (r : Bool) (w : World) (hr0 : Kd.C k50 w A0 l0.length l0) (hc0 : l0.length ≤ c0) (hr1 : Kd.C k24 w A1 l1.length l1) (hc1 : l1.length ≤ c1) (h : banksmanref13_Few.f k l0 l1 = some r) :
    Calls Try.prog 11 #[.slice A0 l0.length c0, .slice A1 l1.length c1] w fun e w' => e = .returned (.bool r) ∧ Below w.heap.size w w' := by
  have hu33 := Try.underlying33
  have HR0 := Aside0.mk hr0
  have HC0 := Aside0.mk hc0
  clear hr0 hc0
  have HR1 := Aside0.mk hr1
  have HC1 := Aside0.mk hc1
  clear hr1 hc1
  have HB := Aside0.mk (Below.refl w.heap.size w)
  have H : (if (l0.length : Int) > 30 then (banksmanref13_Few.j0 k l0 l1 true) else (banksmanref13_Few.j0 k l0 l1 (decide ((l1.length : Int) > 30)))) = some r := h
  clear h
  have HC3 := Aside0.mk H
  clear H
  go_enter Try.func11, Try.ntmps11
  go_upto_region 1 with (fail)
  go_cut [17] (fun v17 wc => ∃ (kq : Nat) (x17_2 : Bool), v17 = .bool x17_2 ∧ Aside0 (banksmanref13_Few.j0 kq l0 l1 x17_2 = some r) ∧ Aside0 (kq ≤ k) ∧ Aside0 (Below w.heap.size w wc))
  case first =>
    have H := HC3.out
    clear HC3
    by_cases c4 : (l0.length : Int) > 30
    · rw [if_pos c4] at H
      have c4b0 : decide (30 < (l0.length : Int)) = true := decide_eq_true c4
      have c4b1 : decide (30 < l0.length) = true := decide_eq_true (by omega)
      clear c4
      (first | rw [c4b0] | (simp only [i64_w, i32_w]; rw [c4b0]) | skip)
      have H' := Aside0.mk H
      clear H
      go_wp2
      go_meet
      case rel => exact ⟨_, (true), (by first | rfl | (simp; done) | (simp [*]; done)), H', ⟨by first | omega | exact Nat.le_refl _⟩, ⟨by repeat (first | (with_reducible first | exact HB.out | apply below_alloc | apply pw_below_drewN | apply below_drew1) | exact HB.out)⟩⟩
    · rw [if_neg c4] at H
      have c4b0 : decide (30 < (l0.length : Int)) = false := decide_eq_false c4
      have c4b1 : decide (30 < l0.length) = false := decide_eq_false (by omega)
      clear c4
      (first | rw [c4b0] | (simp only [i64_w, i32_w]; rw [c4b0]) | skip)
      have H' := Aside0.mk H
      clear H
      go_wp2
      go_meet
      case rel => exact ⟨_, (decide ((l1.length : Int) > 30)), (by first | rfl | (simp; done) | (simp [*]; done)), H', ⟨by first | omega | exact Nat.le_refl _⟩, ⟨by repeat (first | (with_reducible first | exact HB.out | apply below_alloc | apply pw_below_drewN | apply below_drew1) | exact HB.out)⟩⟩
  case rest =>
    clear HC3
    try clear c1
    try clear p2
    try clear c4
    try clear c4b0
    try clear c4b1
    obtain ⟨kq, x17_2, rfl, HA, HJ2, HB⟩ := hcut
    cases kq with
    | zero => exact absurd HA.out (by simp [banksmanref13_Few.j0])
    | succ kj2 =>
      have H := HA.out
      clear HA
      simp only [banksmanref13_Few.j0] at H
      by_cases c5 : x17_2 = true
      · subst c5
        have H1 : (some false) = some r := by rw [if_pos rfl] at H; exact H
        clear H
        have H := H1
        clear H1
        obtain rfl := Option.some.inj H
        go_wp2
        go_ret
        exact ⟨by first | rfl | (simp [errW_none, errW_some] <;> rfl) | (simp [*, errW_none, errW_some] <;> rfl), by repeat (first | (with_reducible first | exact HB.out | apply below_alloc | apply pw_below_drewN | apply below_drew1) | exact HB.out)⟩
      · replace c5 := Bool.eq_false_iff.mpr c5
        subst c5
        have H1 : (banksmanref13_Few.l0 kj2 l0 l1 0) = some r := by rw [if_neg (show ¬ (false = true) by decide)] at H; exact H
        clear H
        have H := H1
        clear H1
        have H' := Aside0.mk H
        clear H
        go_wp2
        go_loopg [5] kj2 (fun kq v5 w' => ∃ (x5_2 : Int), v5 = .int .i64 x5_2 ∧ Aside0 (banksmanref13_Few.l0 kq l0 l1 x5_2 = some r) ∧ Aside0 (kq ≤ kj2) ∧ Aside0 (Below w.heap.size w w'))
        case atStart => exact ⟨(0), (by first | rfl | (simp; done) | (simp [*]; done)), H', ⟨Nat.le_refl _⟩, ⟨by repeat (first | (with_reducible first | exact HB.out | apply below_alloc | apply pw_below_drewN | apply below_drew1) | exact HB.out)⟩⟩
        case round =>
          clear H'
          try clear c1
          try clear p2
          try clear c4
          try clear c4b0
          try clear c4b1
          try clear c5
          try clear p2
          obtain ⟨x5_2, rfl, HA, HK2, HB⟩ := hrel
          cases gk with
          | zero => exact absurd HA.out (by simp [banksmanref13_Few.l0])
          | succ k2 =>
            have H := HA.out
            clear HA
            simp only [banksmanref13_Few.l0] at H
            by_cases c6 : x5_2 < (l0.length : Int)
            · rw [if_pos c6] at H
              have c6b0 : decide (x5_2 < (l0.length : Int)) = true := decide_eq_true c6
              clear c6
              by_cases c7 : 0 ≤ x5_2
              · rw [if_pos c7] at H
                have c7b0 : decide (0 ≤ x5_2) = true := decide_eq_true c7
                clear c7
                replace H := Option.bind_eq_some_iff.mp H
                obtain ⟨t193, A80, H⟩ := H
                replace H : ((banksmanref08_Few.f k2 ((rd_T50 l0 x5_2).f4) ([] : List Int)).bind fun t195 => (if t193 = true then (if t195 = true then (if (((rd_T50 l0 x5_2).f3).length : Int) > 30 then (some false) else (banksmanref13_Few.l0 k2 l0 l1 (wrap64 (x5_2 + 1)))) else (some false)) else (some false))) = some r := H
                have A8 := Aside0.mk A80
                clear A80
                replace H := Option.bind_eq_some_iff.mp H
                obtain ⟨t195, A90, H⟩ := H
                replace H : (if t193 = true then (if t195 = true then (if (((rd_T50 l0 x5_2).f3).length : Int) > 30 then (some false) else (banksmanref13_Few.l0 k2 l0 l1 (wrap64 (x5_2 + 1)))) else (some false)) else (some false)) = some r := H
                have A9 := Aside0.mk A90
                clear A90
                by_cases c10 : t193 = true
                · subst c10
                  have H1 : (if t195 = true then (if (((rd_T50 l0 x5_2).f3).length : Int) > 30 then (some false) else (banksmanref13_Few.l0 k2 l0 l1 (wrap64 (x5_2 + 1)))) else (some false)) = some r := by rw [if_pos rfl] at H; exact H
                  clear H
                  have H := H1
                  clear H1
                  by_cases c11 : t195 = true
                  · subst c11
                    have H1 : (if (((rd_T50 l0 x5_2).f3).length : Int) > 30 then (some false) else (banksmanref13_Few.l0 k2 l0 l1 (wrap64 (x5_2 + 1)))) = some r := by rw [if_pos rfl] at H; exact H
                    clear H
                    have H := H1
                    clear H1
                    by_cases c12 : (((rd_T50 l0 x5_2).f3).length : Int) > 30
                    · rw [if_pos c12] at H
                      have c12b0 : decide (30 < (((rd_T50 l0 x5_2).f3).length : Int)) = true := decide_eq_true c12
                      have c12b1 : decide (30 < ((rd_T50 l0 x5_2).f3).length) = true := decide_eq_true (by omega)
                      clear c12
                      obtain rfl := Option.some.inj H
                      have p192 : 0 ≤ (x5_2 : Int) := of_decide_eq_true (by first | (with_reducible assumption) | assumption)
                      have q192 : x5_2 < (l0.length : Int) := of_decide_eq_true (by first | (with_reducible assumption) | assumption)
                      obtain ⟨ad192, A192_3, c192_3, A192_4, c192_4, e192, hx192_0, hx192_1, hx192_2, hx192_3, hx192_4, hx192_5, hl192_3, hi192_3, hl192_4, hi192_4⟩ := at_T50 HR0.out x5_2 p192 q192
                      cases e192
                      replace hx192_0 := (HB.out.cell (World.block_lt_of_cell? w _ hx192_0)).trans hx192_0
                      replace hx192_1 := (HB.out.cell (World.block_lt_of_cell? w _ hx192_1)).trans hx192_1
                      replace hx192_2 := (HB.out.cell (World.block_lt_of_cell? w _ hx192_2)).trans hx192_2
                      replace hx192_3 := (HB.out.cell (World.block_lt_of_cell? w _ hx192_3)).trans hx192_3
                      replace hx192_4 := (HB.out.cell (World.block_lt_of_cell? w _ hx192_4)).trans hx192_4
                      replace hx192_5 := (HB.out.cell (World.block_lt_of_cell? w _ hx192_5)).trans hx192_5
                      have HR192_3 := Aside0.mk hi192_3
                      have HC192_3 := Aside0.mk hl192_3
                      clear hi192_3 hl192_3
                      have HR192_4 := Aside0.mk hi192_4
                      have HC192_4 := Aside0.mk hl192_4
                      clear hi192_4 hl192_4
                      replace p192 := eq_true p192
                      replace q192 := eq_true q192
                      go_wp2_with (first | ((with_reducible refine gate_callee (f := 9) rfl ?_); refine goesL_ (some 29) rfl rfl Try.func9 (by kernel_rfl) rfl #[.slice A192_3 ((rd_T50 l0 x5_2).f3).length c192_3] rfl (by (try simp only [List.map_toArray, List.map_cons, List.map_nil]); first | done | rfl | (simp only [List.length_drop, List.length_take]; rfl)) ?_; (with_reducible refine (banksmanref10_Few.calls k2 _ _ ((rd_T50 l0 x5_2).f3) true _ ?side1 ?side2 A8.out).mono ?_); (case side1 => repeat (first | exact (Kd.C_below HR192_3.out HB.out) | (with_reducible refine Kd.C_alloc ?_ _) | (with_reducible refine Kd.C_drewN ?_ _) | (with_reducible refine Kd.C_drew ?_))); (case side2 => exact HC192_3.out); rintro e w' ⟨rfl, ⟨nd, rfl⟩⟩; refine ⟨_, rfl, ?_⟩; have p194 : 0 ≤ (x5_2 : Int) := of_decide_eq_true (by first | (with_reducible assumption) | assumption); have q194 : x5_2 < (l0.length : Int) := of_decide_eq_true (by first | (with_reducible assumption) | assumption); obtain ⟨ad194, A194_3, c194_3, A194_4, c194_4, e194, hx194_0, hx194_1, hx194_2, hx194_3, hx194_4, hx194_5, hl194_3, hi194_3, hl194_4, hi194_4⟩ := at_T50 HR0.out x5_2 p194 q194; obtain rfl : ad192 = ad194 := (by injection e194); replace hx194_0 := (HB.out.cell (World.block_lt_of_cell? w _ hx194_0)).trans hx194_0; replace hx194_1 := (HB.out.cell (World.block_lt_of_cell? w _ hx194_1)).trans hx194_1; replace hx194_2 := (HB.out.cell (World.block_lt_of_cell? w _ hx194_2)).trans hx194_2; replace hx194_3 := (HB.out.cell (World.block_lt_of_cell? w _ hx194_3)).trans hx194_3; replace hx194_4 := (HB.out.cell (World.block_lt_of_cell? w _ hx194_4)).trans hx194_4; replace hx194_5 := (HB.out.cell (World.block_lt_of_cell? w _ hx194_5)).trans hx194_5; have HR194_3 := Aside0.mk hi194_3; have HC194_3 := Aside0.mk hl194_3; clear hi194_3 hl194_3; have HR194_4 := Aside0.mk hi194_4; have HC194_4 := Aside0.mk hl194_4; clear hi194_4 hl194_4; replace p194 := eq_true p194; replace q194 := eq_true q194; have ea_ := Option.some.inj (hx192_3.symm.trans hx194_3); injection ea_ with ea_ en_ ec_; subst ea_; subst ec_; clear en_; have ea_ := Option.some.inj (hx192_4.symm.trans hx194_4); injection ea_ with ea_ en_ ec_; subst ea_; subst ec_; clear en_) | ((with_reducible refine gate_callee (f := 10) rfl ?_); refine goesL_ (some 36) rfl rfl Try.func10 (by kernel_rfl) rfl #[.agg #[.slice A192_4 ((rd_T50 l0 x5_2).f4).length c192_4, .slice none 0 0]] rfl (by (try simp only [List.map_toArray, List.map_cons, List.map_nil]); first | done | rfl | (simp only [List.length_drop, List.length_take]; rfl)) ?_; (refine (banksmanref08_Few.calls k2 _ _ ((rd_T50 l0 x5_2).f4) _ _ ([] : List Int) true _ ?side1 ?side2 ?side3 ?side4 A9.out).mono ?_); (case side1 => repeat (first | exact (Kd.C_below HR194_4.out (by repeat (first | (with_reducible first | exact HB.out | apply below_alloc | apply pw_below_drewN | apply below_drew1) | exact HB.out))) | (with_reducible refine Kd.C_alloc ?_ _) | (with_reducible refine Kd.C_drewN ?_ _) | (with_reducible refine Kd.C_drew ?_))); (case side2 => exact HC194_4.out); (case side3 => exact Kd.C_nil _ _); (case side4 => exact Nat.le_refl _); rintro e w13 ⟨rfl, hb⟩; refine ⟨_, rfl, ?_⟩; have n0_ := Aside0.mk (below_step (by repeat (first | (with_reducible first | exact HB.out | apply below_alloc | apply pw_below_drewN | apply below_drew1) | exact HB.out)) hb); clear HB; have HB := n0_; clear n0_; (try clear hb); (try clear hb2); (try clear hk); (try clear hi); have p196 : 0 ≤ (x5_2 : Int) := of_decide_eq_true (by first | (with_reducible assumption) | assumption); have q196 : x5_2 < (l0.length : Int) := of_decide_eq_true (by first | (with_reducible assumption) | assumption); obtain ⟨ad196, A196_3, c196_3, A196_4, c196_4, e196, hx196_0, hx196_1, hx196_2, hx196_3, hx196_4, hx196_5, hl196_3, hi196_3, hl196_4, hi196_4⟩ := at_T50 HR0.out x5_2 p196 q196; obtain rfl : ad192 = ad196 := (by injection e196); replace hx196_0 := (HB.out.cell (World.block_lt_of_cell? w _ hx196_0)).trans hx196_0; replace hx196_1 := (HB.out.cell (World.block_lt_of_cell? w _ hx196_1)).trans hx196_1; replace hx196_2 := (HB.out.cell (World.block_lt_of_cell? w _ hx196_2)).trans hx196_2; replace hx196_3 := (HB.out.cell (World.block_lt_of_cell? w _ hx196_3)).trans hx196_3; replace hx196_4 := (HB.out.cell (World.block_lt_of_cell? w _ hx196_4)).trans hx196_4; replace hx196_5 := (HB.out.cell (World.block_lt_of_cell? w _ hx196_5)).trans hx196_5; have HR196_3 := Aside0.mk hi196_3; have HC196_3 := Aside0.mk hl196_3; clear hi196_3 hl196_3; have HR196_4 := Aside0.mk hi196_4; have HC196_4 := Aside0.mk hl196_4; clear hi196_4 hl196_4; replace p196 := eq_true p196; replace q196 := eq_true q196))
                      go_ret
                      exact ⟨by first | rfl | (simp [errW_none, errW_some] <;> rfl) | (simp [*, errW_none, errW_some] <;> rfl), by repeat (first | (with_reducible first | exact HB.out | apply below_alloc | apply pw_below_drewN | apply below_drew1) | exact HB.out)⟩
                    · rw [if_neg c12] at H
                      have c12b0 : decide (30 < (((rd_T50 l0 x5_2).f3).length : Int)) = false := decide_eq_false c12
                      have c12b1 : decide (30 < ((rd_T50 l0 x5_2).f3).length) = false := decide_eq_false (by omega)
                      clear c12
                      have H' := Aside0.mk H
                      clear H
                      have p192 : 0 ≤ (x5_2 : Int) := of_decide_eq_true (by first | (with_reducible assumption) | assumption)
                      have q192 : x5_2 < (l0.length : Int) := of_decide_eq_true (by first | (with_reducible assumption) | assumption)
                      obtain ⟨ad192, A192_3, c192_3, A192_4, c192_4, e192, hx192_0, hx192_1, hx192_2, hx192_3, hx192_4, hx192_5, hl192_3, hi192_3, hl192_4, hi192_4⟩ := at_T50 HR0.out x5_2 p192 q192
                      cases e192
                      replace hx192_0 := (HB.out.cell (World.block_lt_of_cell? w _ hx192_0)).trans hx192_0
                      replace hx192_1 := (HB.out.cell (World.block_lt_of_cell? w _ hx192_1)).trans hx192_1
                      replace hx192_2 := (HB.out.cell (World.block_lt_of_cell? w _ hx192_2)).trans hx192_2
                      replace hx192_3 := (HB.out.cell (World.block_lt_of_cell? w _ hx192_3)).trans hx192_3
                      replace hx192_4 := (HB.out.cell (World.block_lt_of_cell? w _ hx192_4)).trans hx192_4
                      replace hx192_5 := (HB.out.cell (World.block_lt_of_cell? w _ hx192_5)).trans hx192_5
                      have HR192_3 := Aside0.mk hi192_3
                      have HC192_3 := Aside0.mk hl192_3
                      clear hi192_3 hl192_3
                      have HR192_4 := Aside0.mk hi192_4
                      have HC192_4 := Aside0.mk hl192_4
                      clear hi192_4 hl192_4
                      replace p192 := eq_true p192
                      replace q192 := eq_true q192
                      go_wp2_with (first | ((with_reducible refine gate_callee (f := 9) rfl ?_); refine goesL_ (some 29) rfl rfl Try.func9 (by kernel_rfl) rfl #[.slice A192_3 ((rd_T50 l0 x5_2).f3).length c192_3] rfl (by (try simp only [List.map_toArray, List.map_cons, List.map_nil]); first | done | rfl | (simp only [List.length_drop, List.length_take]; rfl)) ?_; (with_reducible refine (banksmanref10_Few.calls k2 _ _ ((rd_T50 l0 x5_2).f3) true _ ?side1 ?side2 A8.out).mono ?_); (case side1 => repeat (first | exact (Kd.C_below HR192_3.out HB.out) | (with_reducible refine Kd.C_alloc ?_ _) | (with_reducible refine Kd.C_drewN ?_ _) | (with_reducible refine Kd.C_drew ?_))); (case side2 => exact HC192_3.out); rintro e w' ⟨rfl, ⟨nd, rfl⟩⟩; refine ⟨_, rfl, ?_⟩; have p194 : 0 ≤ (x5_2 : Int) := of_decide_eq_true (by first | (with_reducible assumption) | assumption); have q194 : x5_2 < (l0.length : Int) := of_decide_eq_true (by first | (with_reducible assumption) | assumption); obtain ⟨ad194, A194_3, c194_3, A194_4, c194_4, e194, hx194_0, hx194_1, hx194_2, hx194_3, hx194_4, hx194_5, hl194_3, hi194_3, hl194_4, hi194_4⟩ := at_T50 HR0.out x5_2 p194 q194; obtain rfl : ad192 = ad194 := (by injection e194); replace hx194_0 := (HB.out.cell (World.block_lt_of_cell? w _ hx194_0)).trans hx194_0; replace hx194_1 := (HB.out.cell (World.block_lt_of_cell? w _ hx194_1)).trans hx194_1; replace hx194_2 := (HB.out.cell (World.block_lt_of_cell? w _ hx194_2)).trans hx194_2; replace hx194_3 := (HB.out.cell (World.block_lt_of_cell? w _ hx194_3)).trans hx194_3; replace hx194_4 := (HB.out.cell (World.block_lt_of_cell? w _ hx194_4)).trans hx194_4; replace hx194_5 := (HB.out.cell (World.block_lt_of_cell? w _ hx194_5)).trans hx194_5; have HR194_3 := Aside0.mk hi194_3; have HC194_3 := Aside0.mk hl194_3; clear hi194_3 hl194_3; have HR194_4 := Aside0.mk hi194_4; have HC194_4 := Aside0.mk hl194_4; clear hi194_4 hl194_4; replace p194 := eq_true p194; replace q194 := eq_true q194; have ea_ := Option.some.inj (hx192_3.symm.trans hx194_3); injection ea_ with ea_ en_ ec_; subst ea_; subst ec_; clear en_; have ea_ := Option.some.inj (hx192_4.symm.trans hx194_4); injection ea_ with ea_ en_ ec_; subst ea_; subst ec_; clear en_) | ((with_reducible refine gate_callee (f := 10) rfl ?_); refine goesL_ (some 36) rfl rfl Try.func10 (by kernel_rfl) rfl #[.agg #[.slice A192_4 ((rd_T50 l0 x5_2).f4).length c192_4, .slice none 0 0]] rfl (by (try simp only [List.map_toArray, List.map_cons, List.map_nil]); first | done | rfl | (simp only [List.length_drop, List.length_take]; rfl)) ?_; (refine (banksmanref08_Few.calls k2 _ _ ((rd_T50 l0 x5_2).f4) _ _ ([] : List Int) true _ ?side1 ?side2 ?side3 ?side4 A9.out).mono ?_); (case side1 => repeat (first | exact (Kd.C_below HR194_4.out (by repeat (first | (with_reducible first | exact HB.out | apply below_alloc | apply pw_below_drewN | apply below_drew1) | exact HB.out))) | (with_reducible refine Kd.C_alloc ?_ _) | (with_reducible refine Kd.C_drewN ?_ _) | (with_reducible refine Kd.C_drew ?_))); (case side2 => exact HC194_4.out); (case side3 => exact Kd.C_nil _ _); (case side4 => exact Nat.le_refl _); rintro e w14 ⟨rfl, hb⟩; refine ⟨_, rfl, ?_⟩; have n0_ := Aside0.mk (below_step (by repeat (first | (with_reducible first | exact HB.out | apply below_alloc | apply pw_below_drewN | apply below_drew1) | exact HB.out)) hb); clear HB; have HB := n0_; clear n0_; (try clear hb); (try clear hb2); (try clear hk); (try clear hi); have p196 : 0 ≤ (x5_2 : Int) := of_decide_eq_true (by first | (with_reducible assumption) | assumption); have q196 : x5_2 < (l0.length : Int) := of_decide_eq_true (by first | (with_reducible assumption) | assumption); obtain ⟨ad196, A196_3, c196_3, A196_4, c196_4, e196, hx196_0, hx196_1, hx196_2, hx196_3, hx196_4, hx196_5, hl196_3, hi196_3, hl196_4, hi196_4⟩ := at_T50 HR0.out x5_2 p196 q196; obtain rfl : ad192 = ad196 := (by injection e196); replace hx196_0 := (HB.out.cell (World.block_lt_of_cell? w _ hx196_0)).trans hx196_0; replace hx196_1 := (HB.out.cell (World.block_lt_of_cell? w _ hx196_1)).trans hx196_1; replace hx196_2 := (HB.out.cell (World.block_lt_of_cell? w _ hx196_2)).trans hx196_2; replace hx196_3 := (HB.out.cell (World.block_lt_of_cell? w _ hx196_3)).trans hx196_3; replace hx196_4 := (HB.out.cell (World.block_lt_of_cell? w _ hx196_4)).trans hx196_4; replace hx196_5 := (HB.out.cell (World.block_lt_of_cell? w _ hx196_5)).trans hx196_5; have HR196_3 := Aside0.mk hi196_3; have HC196_3 := Aside0.mk hl196_3; clear hi196_3 hl196_3; have HR196_4 := Aside0.mk hi196_4; have HC196_4 := Aside0.mk hl196_4; clear hi196_4 hl196_4; replace p196 := eq_true p196; replace q196 := eq_true q196))
                      go_roundg k2
                      case measure => have := HJ2.out; have := HK2.out; omega
                      case rel => exact ⟨(wrap64 (x5_2 + 1)), (by first | rfl | (simp; done) | (simp [*]; done)), H', ⟨by have := HJ2.out; have := HK2.out; omega⟩, ⟨by repeat (first | (with_reducible first | exact HB.out | apply below_alloc | apply pw_below_drewN | apply below_drew1) | exact HB.out)⟩⟩
                  · replace c11 := Bool.eq_false_iff.mpr c11
                    subst c11
                    have H1 : (some false) = some r := by rw [if_neg (show ¬ (false = true) by decide)] at H; exact H
                    clear H
                    have H := H1
                    clear H1
                    obtain rfl := Option.some.inj H
                    have p192 : 0 ≤ (x5_2 : Int) := of_decide_eq_true (by first | (with_reducible assumption) | assumption)
                    have q192 : x5_2 < (l0.length : Int) := of_decide_eq_true (by first | (with_reducible assumption) | assumption)
                    obtain ⟨ad192, A192_3, c192_3, A192_4, c192_4, e192, hx192_0, hx192_1, hx192_2, hx192_3, hx192_4, hx192_5, hl192_3, hi192_3, hl192_4, hi192_4⟩ := at_T50 HR0.out x5_2 p192 q192
                    cases e192
                    replace hx192_0 := (HB.out.cell (World.block_lt_of_cell? w _ hx192_0)).trans hx192_0
                    replace hx192_1 := (HB.out.cell (World.block_lt_of_cell? w _ hx192_1)).trans hx192_1
                    replace hx192_2 := (HB.out.cell (World.block_lt_of_cell? w _ hx192_2)).trans hx192_2
                    replace hx192_3 := (HB.out.cell (World.block_lt_of_cell? w _ hx192_3)).trans hx192_3
                    replace hx192_4 := (HB.out.cell (World.block_lt_of_cell? w _ hx192_4)).trans hx192_4
                    replace hx192_5 := (HB.out.cell (World.block_lt_of_cell? w _ hx192_5)).trans hx192_5
                    have HR192_3 := Aside0.mk hi192_3
                    have HC192_3 := Aside0.mk hl192_3
                    clear hi192_3 hl192_3
                    have HR192_4 := Aside0.mk hi192_4
                    have HC192_4 := Aside0.mk hl192_4
                    clear hi192_4 hl192_4
                    replace p192 := eq_true p192
                    replace q192 := eq_true q192
                    go_wp2_with (first | ((with_reducible refine gate_callee (f := 9) rfl ?_); refine goesL_ (some 29) rfl rfl Try.func9 (by kernel_rfl) rfl #[.slice A192_3 ((rd_T50 l0 x5_2).f3).length c192_3] rfl (by (try simp only [List.map_toArray, List.map_cons, List.map_nil]); first | done | rfl | (simp only [List.length_drop, List.length_take]; rfl)) ?_; (with_reducible refine (banksmanref10_Few.calls k2 _ _ ((rd_T50 l0 x5_2).f3) true _ ?side1 ?side2 A8.out).mono ?_); (case side1 => repeat (first | exact (Kd.C_below HR192_3.out HB.out) | (with_reducible refine Kd.C_alloc ?_ _) | (with_reducible refine Kd.C_drewN ?_ _) | (with_reducible refine Kd.C_drew ?_))); (case side2 => exact HC192_3.out); rintro e w' ⟨rfl, ⟨nd, rfl⟩⟩; refine ⟨_, rfl, ?_⟩; have p194 : 0 ≤ (x5_2 : Int) := of_decide_eq_true (by first | (with_reducible assumption) | assumption); have q194 : x5_2 < (l0.length : Int) := of_decide_eq_true (by first | (with_reducible assumption) | assumption); obtain ⟨ad194, A194_3, c194_3, A194_4, c194_4, e194, hx194_0, hx194_1, hx194_2, hx194_3, hx194_4, hx194_5, hl194_3, hi194_3, hl194_4, hi194_4⟩ := at_T50 HR0.out x5_2 p194 q194; obtain rfl : ad192 = ad194 := (by injection e194); replace hx194_0 := (HB.out.cell (World.block_lt_of_cell? w _ hx194_0)).trans hx194_0; replace hx194_1 := (HB.out.cell (World.block_lt_of_cell? w _ hx194_1)).trans hx194_1; replace hx194_2 := (HB.out.cell (World.block_lt_of_cell? w _ hx194_2)).trans hx194_2; replace hx194_3 := (HB.out.cell (World.block_lt_of_cell? w _ hx194_3)).trans hx194_3; replace hx194_4 := (HB.out.cell (World.block_lt_of_cell? w _ hx194_4)).trans hx194_4; replace hx194_5 := (HB.out.cell (World.block_lt_of_cell? w _ hx194_5)).trans hx194_5; have HR194_3 := Aside0.mk hi194_3; have HC194_3 := Aside0.mk hl194_3; clear hi194_3 hl194_3; have HR194_4 := Aside0.mk hi194_4; have HC194_4 := Aside0.mk hl194_4; clear hi194_4 hl194_4; replace p194 := eq_true p194; replace q194 := eq_true q194; have ea_ := Option.some.inj (hx192_3.symm.trans hx194_3); injection ea_ with ea_ en_ ec_; subst ea_; subst ec_; clear en_; have ea_ := Option.some.inj (hx192_4.symm.trans hx194_4); injection ea_ with ea_ en_ ec_; subst ea_; subst ec_; clear en_) | ((with_reducible refine gate_callee (f := 10) rfl ?_); refine goesL_ (some 36) rfl rfl Try.func10 (by kernel_rfl) rfl #[.agg #[.slice A192_4 ((rd_T50 l0 x5_2).f4).length c192_4, .slice none 0 0]] rfl (by (try simp only [List.map_toArray, List.map_cons, List.map_nil]); first | done | rfl | (simp only [List.length_drop, List.length_take]; rfl)) ?_; (refine (banksmanref08_Few.calls k2 _ _ ((rd_T50 l0 x5_2).f4) _ _ ([] : List Int) false _ ?side1 ?side2 ?side3 ?side4 A9.out).mono ?_); (case side1 => repeat (first | exact (Kd.C_below HR194_4.out (by repeat (first | (with_reducible first | exact HB.out | apply below_alloc | apply pw_below_drewN | apply below_drew1) | exact HB.out))) | (with_reducible refine Kd.C_alloc ?_ _) | (with_reducible refine Kd.C_drewN ?_ _) | (with_reducible refine Kd.C_drew ?_))); (case side2 => exact HC194_4.out); (case side3 => exact Kd.C_nil _ _); (case side4 => exact Nat.le_refl _); rintro e w15 ⟨rfl, hb⟩; refine ⟨_, rfl, ?_⟩; have n0_ := Aside0.mk (below_step (by repeat (first | (with_reducible first | exact HB.out | apply below_alloc | apply pw_below_drewN | apply below_drew1) | exact HB.out)) hb); clear HB; have HB := n0_; clear n0_; (try clear hb); (try clear hb2); (try clear hk); (try clear hi)))
                    go_ret
                    exact ⟨by first | rfl | (simp [errW_none, errW_some] <;> rfl) | (simp [*, errW_none, errW_some] <;> rfl), by repeat (first | (with_reducible first | exact HB.out | apply below_alloc | apply pw_below_drewN | apply below_drew1) | exact HB.out)⟩
                · replace c10 := Bool.eq_false_iff.mpr c10
                  subst c10
                  have H1 : (some false) = some r := by rw [if_neg (show ¬ (false = true) by decide)] at H; exact H
                  clear H
                  have H := H1
                  clear H1
                  obtain rfl := Option.some.inj H
                  have p192 : 0 ≤ (x5_2 : Int) := of_decide_eq_true (by first | (with_reducible assumption) | assumption)
                  have q192 : x5_2 < (l0.length : Int) := of_decide_eq_true (by first | (with_reducible assumption) | assumption)
                  obtain ⟨ad192, A192_3, c192_3, A192_4, c192_4, e192, hx192_0, hx192_1, hx192_2, hx192_3, hx192_4, hx192_5, hl192_3, hi192_3, hl192_4, hi192_4⟩ := at_T50 HR0.out x5_2 p192 q192
                  cases e192
                  replace hx192_0 := (HB.out.cell (World.block_lt_of_cell? w _ hx192_0)).trans hx192_0
                  replace hx192_1 := (HB.out.cell (World.block_lt_of_cell? w _ hx192_1)).trans hx192_1
                  replace hx192_2 := (HB.out.cell (World.block_lt_of_cell? w _ hx192_2)).trans hx192_2
                  replace hx192_3 := (HB.out.cell (World.block_lt_of_cell? w _ hx192_3)).trans hx192_3
                  replace hx192_4 := (HB.out.cell (World.block_lt_of_cell? w _ hx192_4)).trans hx192_4
                  replace hx192_5 := (HB.out.cell (World.block_lt_of_cell? w _ hx192_5)).trans hx192_5
                  have HR192_3 := Aside0.mk hi192_3
                  have HC192_3 := Aside0.mk hl192_3
                  clear hi192_3 hl192_3
                  have HR192_4 := Aside0.mk hi192_4
                  have HC192_4 := Aside0.mk hl192_4
                  clear hi192_4 hl192_4
                  replace p192 := eq_true p192
                  replace q192 := eq_true q192
                  go_wp2_with (first | ((with_reducible refine gate_callee (f := 9) rfl ?_); refine goesL_ (some 29) rfl rfl Try.func9 (by kernel_rfl) rfl #[.slice A192_3 ((rd_T50 l0 x5_2).f3).length c192_3] rfl (by (try simp only [List.map_toArray, List.map_cons, List.map_nil]); first | done | rfl | (simp only [List.length_drop, List.length_take]; rfl)) ?_; (with_reducible refine (banksmanref10_Few.calls k2 _ _ ((rd_T50 l0 x5_2).f3) false _ ?side1 ?side2 A8.out).mono ?_); (case side1 => repeat (first | exact (Kd.C_below HR192_3.out HB.out) | (with_reducible refine Kd.C_alloc ?_ _) | (with_reducible refine Kd.C_drewN ?_ _) | (with_reducible refine Kd.C_drew ?_))); (case side2 => exact HC192_3.out); rintro e w' ⟨rfl, ⟨nd, rfl⟩⟩; refine ⟨_, rfl, ?_⟩; have p194 : 0 ≤ (x5_2 : Int) := of_decide_eq_true (by first | (with_reducible assumption) | assumption); have q194 : x5_2 < (l0.length : Int) := of_decide_eq_true (by first | (with_reducible assumption) | assumption); obtain ⟨ad194, A194_3, c194_3, A194_4, c194_4, e194, hx194_0, hx194_1, hx194_2, hx194_3, hx194_4, hx194_5, hl194_3, hi194_3, hl194_4, hi194_4⟩ := at_T50 HR0.out x5_2 p194 q194; obtain rfl : ad192 = ad194 := (by injection e194); replace hx194_0 := (HB.out.cell (World.block_lt_of_cell? w _ hx194_0)).trans hx194_0; replace hx194_1 := (HB.out.cell (World.block_lt_of_cell? w _ hx194_1)).trans hx194_1; replace hx194_2 := (HB.out.cell (World.block_lt_of_cell? w _ hx194_2)).trans hx194_2; replace hx194_3 := (HB.out.cell (World.block_lt_of_cell? w _ hx194_3)).trans hx194_3; replace hx194_4 := (HB.out.cell (World.block_lt_of_cell? w _ hx194_4)).trans hx194_4; replace hx194_5 := (HB.out.cell (World.block_lt_of_cell? w _ hx194_5)).trans hx194_5; have HR194_3 := Aside0.mk hi194_3; have HC194_3 := Aside0.mk hl194_3; clear hi194_3 hl194_3; have HR194_4 := Aside0.mk hi194_4; have HC194_4 := Aside0.mk hl194_4; clear hi194_4 hl194_4; replace p194 := eq_true p194; replace q194 := eq_true q194; have ea_ := Option.some.inj (hx192_3.symm.trans hx194_3); injection ea_ with ea_ en_ ec_; subst ea_; subst ec_; clear en_; have ea_ := Option.some.inj (hx192_4.symm.trans hx194_4); injection ea_ with ea_ en_ ec_; subst ea_; subst ec_; clear en_) | ((with_reducible refine gate_callee (f := 10) rfl ?_); refine goesL_ (some 36) rfl rfl Try.func10 (by kernel_rfl) rfl #[.agg #[.slice A192_4 ((rd_T50 l0 x5_2).f4).length c192_4, .slice none 0 0]] rfl (by (try simp only [List.map_toArray, List.map_cons, List.map_nil]); first | done | rfl | (simp only [List.length_drop, List.length_take]; rfl)) ?_; (refine (banksmanref08_Few.calls k2 _ _ ((rd_T50 l0 x5_2).f4) _ _ ([] : List Int) t195 _ ?side1 ?side2 ?side3 ?side4 A9.out).mono ?_); (case side1 => repeat (first | exact (Kd.C_below HR194_4.out (by repeat (first | (with_reducible first | exact HB.out | apply below_alloc | apply pw_below_drewN | apply below_drew1) | exact HB.out))) | (with_reducible refine Kd.C_alloc ?_ _) | (with_reducible refine Kd.C_drewN ?_ _) | (with_reducible refine Kd.C_drew ?_))); (case side2 => exact HC194_4.out); (case side3 => exact Kd.C_nil _ _); (case side4 => exact Nat.le_refl _); rintro e w16 ⟨rfl, hb⟩; refine ⟨_, rfl, ?_⟩; have n0_ := Aside0.mk (below_step (by repeat (first | (with_reducible first | exact HB.out | apply below_alloc | apply pw_below_drewN | apply below_drew1) | exact HB.out)) hb); clear HB; have HB := n0_; clear n0_; (try clear hb); (try clear hb2); (try clear hk); (try clear hi)))
                  go_ret
                  exact ⟨by first | rfl | (simp [errW_none, errW_some] <;> rfl) | (simp [*, errW_none, errW_some] <;> rfl), by repeat (first | (with_reducible first | exact HB.out | apply below_alloc | apply pw_below_drewN | apply below_drew1) | exact HB.out)⟩
              · rw [if_neg c7] at H
                exact absurd H (by simp)
            · rw [if_neg c6] at H
              have c6b0 : decide (x5_2 < (l0.length : Int)) = false := decide_eq_false c6
              clear c6
              have H' := Aside0.mk H
              clear H
              go_wp2
              go_loopg [8] k2 (fun kq v8 w' => ∃ (x8_3 : Int), v8 = .int .i64 x8_3 ∧ Aside0 (banksmanref13_Few.l1 kq l1 x8_3 = some r) ∧ Aside0 (kq ≤ k2) ∧ Aside0 (Below w.heap.size w w'))
              case atStart => exact ⟨(0), (by first | rfl | (simp; done) | (simp [*]; done)), H', ⟨Nat.le_refl _⟩, ⟨by repeat (first | (with_reducible first | exact HB.out | apply below_alloc | apply pw_below_drewN | apply below_drew1) | exact HB.out)⟩⟩
              case round =>
                clear H'
                try clear c1
                try clear p1
                try clear q1
                try clear hx1
                try clear p2
                try clear c4
                try clear c4b0
                try clear c4b1
                try clear c5
                try clear c6
                try clear c6b0
                try clear p6
                try clear c7
                try clear c7b0
                try clear c9
                try clear c10
                try clear c11
                try clear c12
                try clear c12b0
                try clear c12b1
                try clear hx192_0
                try clear hx192_1
                try clear hx192_2
                try clear hx192_3
                try clear hx192_4
                try clear hx192_5
                try clear hx194_0
                try clear hx194_1
                try clear hx194_2
                try clear hx194_3
                try clear hx194_4
                try clear hx194_5
                try clear hx196_0
                try clear hx196_1
                try clear hx196_2
                try clear hx196_3
                try clear hx196_4
                try clear hx196_5
                try clear p192
                try clear p194
                try clear p196
                try clear p2
                try clear q192
                try clear q194
                try clear q196
                obtain ⟨x8_3, rfl, HA, HK3, HB⟩ := hrel
                cases gk with
                | zero => exact absurd HA.out (by simp [banksmanref13_Few.l1])
                | succ k3 =>
                  have H := HA.out
                  clear HA
                  simp only [banksmanref13_Few.l1] at H
                  by_cases c17 : x8_3 < (l1.length : Int)
                  · rw [if_pos c17] at H
                    have c17b0 : decide (x8_3 < (l1.length : Int)) = true := decide_eq_true c17
                    clear c17
                    by_cases c18 : 0 ≤ x8_3
                    · rw [if_pos c18] at H
                      have c18b0 : decide (0 ≤ x8_3) = true := decide_eq_true c18
                      clear c18
                      replace H := Option.bind_eq_some_iff.mp H
                      obtain ⟨t198, A190, H⟩ := H
                      replace H : (if t198 = true then (if (((rd_T24 l1 x8_3).f1).length : Int) > 30 then (some false) else (banksmanref13_Few.l1 k3 l1 (wrap64 (x8_3 + 1)))) else (some false)) = some r := H
                      have A19 := Aside0.mk A190
                      clear A190
                      by_cases c20 : t198 = true
                      · subst c20
                        have H1 : (if (((rd_T24 l1 x8_3).f1).length : Int) > 30 then (some false) else (banksmanref13_Few.l1 k3 l1 (wrap64 (x8_3 + 1)))) = some r := by rw [if_pos rfl] at H; exact H
                        clear H
                        have H := H1
                        clear H1
                        by_cases c21 : (((rd_T24 l1 x8_3).f1).length : Int) > 30
                        · rw [if_pos c21] at H
                          have c21b0 : decide (30 < (((rd_T24 l1 x8_3).f1).length : Int)) = true := decide_eq_true c21
                          have c21b1 : decide (30 < ((rd_T24 l1 x8_3).f1).length) = true := decide_eq_true (by omega)
                          clear c21
                          obtain rfl := Option.some.inj H
                          have p197 : 0 ≤ (x8_3 : Int) := of_decide_eq_true (by first | (with_reducible assumption) | assumption)
                          have q197 : x8_3 < (l1.length : Int) := of_decide_eq_true (by first | (with_reducible assumption) | assumption)
                          obtain ⟨ad197, A197_1, c197_1, e197, hx197_0, hx197_1, hl197_1, hi197_1⟩ := at_T24 HR1.out x8_3 p197 q197
                          cases e197
                          replace hx197_0 := (HB.out.cell (World.block_lt_of_cell? w _ hx197_0)).trans hx197_0
                          replace hx197_1 := (HB.out.cell (World.block_lt_of_cell? w _ hx197_1)).trans hx197_1
                          have HR197_1 := Aside0.mk hi197_1
                          have HC197_1 := Aside0.mk hl197_1
                          clear hi197_1 hl197_1
                          replace p197 := eq_true p197
                          replace q197 := eq_true q197
                          go_wp2_with (first | ((with_reducible refine gate_callee (f := 9) rfl ?_); refine goesL_ (some 63) rfl rfl Try.func9 (by kernel_rfl) rfl #[.slice A197_1 ((rd_T24 l1 x8_3).f1).length c197_1] rfl (by (try simp only [List.map_toArray, List.map_cons, List.map_nil]); first | done | rfl | (simp only [List.length_drop, List.length_take]; rfl)) ?_; (with_reducible refine (banksmanref10_Few.calls k3 _ _ ((rd_T24 l1 x8_3).f1) true _ ?side1 ?side2 A19.out).mono ?_); (case side1 => repeat (first | exact (Kd.C_below HR197_1.out HB.out) | (with_reducible refine Kd.C_alloc ?_ _) | (with_reducible refine Kd.C_drewN ?_ _) | (with_reducible refine Kd.C_drew ?_))); (case side2 => exact HC197_1.out); rintro e w' ⟨rfl, ⟨nd, rfl⟩⟩; refine ⟨_, rfl, ?_⟩; have p199 : 0 ≤ (x8_3 : Int) := of_decide_eq_true (by first | (with_reducible assumption) | assumption); have q199 : x8_3 < (l1.length : Int) := of_decide_eq_true (by first | (with_reducible assumption) | assumption); obtain ⟨ad199, A199_1, c199_1, e199, hx199_0, hx199_1, hl199_1, hi199_1⟩ := at_T24 HR1.out x8_3 p199 q199; obtain rfl : ad197 = ad199 := (by injection e199); replace hx199_0 := (HB.out.cell (World.block_lt_of_cell? w _ hx199_0)).trans hx199_0; replace hx199_1 := (HB.out.cell (World.block_lt_of_cell? w _ hx199_1)).trans hx199_1; have HR199_1 := Aside0.mk hi199_1; have HC199_1 := Aside0.mk hl199_1; clear hi199_1 hl199_1; replace p199 := eq_true p199; replace q199 := eq_true q199; have ea_ := Option.some.inj (hx197_1.symm.trans hx199_1); injection ea_ with ea_ en_ ec_; subst ea_; subst ec_; clear en_))
                          go_ret
                          exact ⟨by first | rfl | (simp [errW_none, errW_some] <;> rfl) | (simp [*, errW_none, errW_some] <;> rfl), by repeat (first | (with_reducible first | exact HB.out | apply below_alloc | apply pw_below_drewN | apply below_drew1) | exact HB.out)⟩
                        · rw [if_neg c21] at H
                          have c21b0 : decide (30 < (((rd_T24 l1 x8_3).f1).length : Int)) = false := decide_eq_false c21
                          have c21b1 : decide (30 < ((rd_T24 l1 x8_3).f1).length) = false := decide_eq_false (by omega)
                          clear c21
                          have H' := Aside0.mk H
                          clear H
                          have p197 : 0 ≤ (x8_3 : Int) := of_decide_eq_true (by first | (with_reducible assumption) | assumption)
                          have q197 : x8_3 < (l1.length : Int) := of_decide_eq_true (by first | (with_reducible assumption) | assumption)
                          obtain ⟨ad197, A197_1, c197_1, e197, hx197_0, hx197_1, hl197_1, hi197_1⟩ := at_T24 HR1.out x8_3 p197 q197
                          cases e197
                          replace hx197_0 := (HB.out.cell (World.block_lt_of_cell? w _ hx197_0)).trans hx197_0
                          replace hx197_1 := (HB.out.cell (World.block_lt_of_cell? w _ hx197_1)).trans hx197_1
                          have HR197_1 := Aside0.mk hi197_1
                          have HC197_1 := Aside0.mk hl197_1
                          clear hi197_1 hl197_1
                          replace p197 := eq_true p197
                          replace q197 := eq_true q197
                          go_wp2_with (first | ((with_reducible refine gate_callee (f := 9) rfl ?_); refine goesL_ (some 63) rfl rfl Try.func9 (by kernel_rfl) rfl #[.slice A197_1 ((rd_T24 l1 x8_3).f1).length c197_1] rfl (by (try simp only [List.map_toArray, List.map_cons, List.map_nil]); first | done | rfl | (simp only [List.length_drop, List.length_take]; rfl)) ?_; (with_reducible refine (banksmanref10_Few.calls k3 _ _ ((rd_T24 l1 x8_3).f1) true _ ?side1 ?side2 A19.out).mono ?_); (case side1 => repeat (first | exact (Kd.C_below HR197_1.out HB.out) | (with_reducible refine Kd.C_alloc ?_ _) | (with_reducible refine Kd.C_drewN ?_ _) | (with_reducible refine Kd.C_drew ?_))); (case side2 => exact HC197_1.out); rintro e w' ⟨rfl, ⟨nd, rfl⟩⟩; refine ⟨_, rfl, ?_⟩; have p199 : 0 ≤ (x8_3 : Int) := of_decide_eq_true (by first | (with_reducible assumption) | assumption); have q199 : x8_3 < (l1.length : Int) := of_decide_eq_true (by first | (with_reducible assumption) | assumption); obtain ⟨ad199, A199_1, c199_1, e199, hx199_0, hx199_1, hl199_1, hi199_1⟩ := at_T24 HR1.out x8_3 p199 q199; obtain rfl : ad197 = ad199 := (by injection e199); replace hx199_0 := (HB.out.cell (World.block_lt_of_cell? w _ hx199_0)).trans hx199_0; replace hx199_1 := (HB.out.cell (World.block_lt_of_cell? w _ hx199_1)).trans hx199_1; have HR199_1 := Aside0.mk hi199_1; have HC199_1 := Aside0.mk hl199_1; clear hi199_1 hl199_1; replace p199 := eq_true p199; replace q199 := eq_true q199; have ea_ := Option.some.inj (hx197_1.symm.trans hx199_1); injection ea_ with ea_ en_ ec_; subst ea_; subst ec_; clear en_))
                          go_roundg k3
                          case measure => have := HJ2.out; have := HK2.out; have := HK3.out; omega
                          case rel => exact ⟨(wrap64 (x8_3 + 1)), (by first | rfl | (simp; done) | (simp [*]; done)), H', ⟨by have := HJ2.out; have := HK2.out; have := HK3.out; omega⟩, ⟨by repeat (first | (with_reducible first | exact HB.out | apply below_alloc | apply pw_below_drewN | apply below_drew1) | exact HB.out)⟩⟩
                      · replace c20 := Bool.eq_false_iff.mpr c20
                        subst c20
                        have H1 : (some false) = some r := by rw [if_neg (show ¬ (false = true) by decide)] at H; exact H
                        clear H
                        have H := H1
                        clear H1
                        obtain rfl := Option.some.inj H
                        have p197 : 0 ≤ (x8_3 : Int) := of_decide_eq_true (by first | (with_reducible assumption) | assumption)
                        have q197 : x8_3 < (l1.length : Int) := of_decide_eq_true (by first | (with_reducible assumption) | assumption)
                        obtain ⟨ad197, A197_1, c197_1, e197, hx197_0, hx197_1, hl197_1, hi197_1⟩ := at_T24 HR1.out x8_3 p197 q197
                        cases e197
                        replace hx197_0 := (HB.out.cell (World.block_lt_of_cell? w _ hx197_0)).trans hx197_0
                        replace hx197_1 := (HB.out.cell (World.block_lt_of_cell? w _ hx197_1)).trans hx197_1
                        have HR197_1 := Aside0.mk hi197_1
                        have HC197_1 := Aside0.mk hl197_1
                        clear hi197_1 hl197_1
                        replace p197 := eq_true p197
                        replace q197 := eq_true q197
                        go_wp2_with (first | ((with_reducible refine gate_callee (f := 9) rfl ?_); refine goesL_ (some 63) rfl rfl Try.func9 (by kernel_rfl) rfl #[.slice A197_1 ((rd_T24 l1 x8_3).f1).length c197_1] rfl (by (try simp only [List.map_toArray, List.map_cons, List.map_nil]); first | done | rfl | (simp only [List.length_drop, List.length_take]; rfl)) ?_; (with_reducible refine (banksmanref10_Few.calls k3 _ _ ((rd_T24 l1 x8_3).f1) false _ ?side1 ?side2 A19.out).mono ?_); (case side1 => repeat (first | exact (Kd.C_below HR197_1.out HB.out) | (with_reducible refine Kd.C_alloc ?_ _) | (with_reducible refine Kd.C_drewN ?_ _) | (with_reducible refine Kd.C_drew ?_))); (case side2 => exact HC197_1.out); rintro e w' ⟨rfl, ⟨nd, rfl⟩⟩; refine ⟨_, rfl, ?_⟩))
                        go_ret
                        exact ⟨by first | rfl | (simp [errW_none, errW_some] <;> rfl) | (simp [*, errW_none, errW_some] <;> rfl), by repeat (first | (with_reducible first | exact HB.out | apply below_alloc | apply pw_below_drewN | apply below_drew1) | exact HB.out)⟩
                    · rw [if_neg c18] at H
                      exact absurd H (by simp)
                  · rw [if_neg c17] at H
                    have c17b0 : decide (x8_3 < (l1.length : Int)) = false := decide_eq_false c17
                    clear c17
                    obtain rfl := Option.some.inj H
                    go_wp2
                    go_ret
                    exact ⟨by first | rfl | (simp [errW_none, errW_some] <;> rfl) | (simp [*, errW_none, errW_some] <;> rfl), by repeat (first | (with_reducible first | exact HB.out | apply below_alloc | apply pw_below_drewN | apply below_drew1) | exact HB.out)⟩

end Go.Proofs.Ytpoaleejhdeclaa.P
