-- Written by wip/gprint.py, a program of this session over the kit's print; Lean checks it.
import Derived.Test.YtpknchaajgkbnaaPx0
import Derived.Test.YtpknchaajgkbnaaPx55
import Derived.Test.YtpknchaajgkbnaaPx56
namespace Go.Proofs.Ytpknchaajgkbnaa.P
open Go.RowKit Go.Proofs.YtpknchaajgkbnaaW.PrintWords Go.Proofs.YtpknchaajgkbnaaW.PrintLast Go.Proofs.YtpknchaajgkbnaaW.PrintMore
attribute [local go_sem] max2_int min2_int max_two min_two max_three min_three max_four min_four   -- for this text's walks alone
set_option linter.unusedVariables false
set_option linter.unusedSimpArgs false

/-! ### banksmanref13_Few: function 6 -/
mutual
def banksmanref13_Few.j0 : Nat → List (S34) → List (S29) → Bool → Option (Bool)
  | 0, _, _, _ => none
  | k + 1, x0, x1, x17 => if x17 = true then (some false) else (banksmanref13_Few.l0 k x0 x1 0)
def banksmanref13_Few.l0 : Nat → List (S34) → List (S29) → Int → Option (Bool)
  | 0, _, _, _ => none
  | k + 1, x0, x1, x5 => if x5 < (x0.length : Int) then (if 0 ≤ x5 then ((banksmanref10_Few.f k ((rd_T34 x0 x5).f3)).bind fun t144 => ((banksmanref08_Few.f k ((rd_T34 x0 x5).f4) ([] : List Int)).bind fun t146 => (if t144 = true then (if t146 = true then (if (((rd_T34 x0 x5).f3).length : Int) > 30 then (some false) else (banksmanref13_Few.l0 k x0 x1 (wrap64 (x5 + 1)))) else (some false)) else (some false)))) else (none)) else (banksmanref13_Few.l1 k x1 0)
def banksmanref13_Few.l1 : Nat → List (S29) → Int → Option (Bool)
  | 0, _, _ => none
  | k + 1, x1, x8 => if x8 < (x1.length : Int) then (if 0 ≤ x8 then ((banksmanref10_Few.f k ((rd_T29 x1 x8).f1)).bind fun t149 => (if t149 = true then (if (((rd_T29 x1 x8).f1).length : Int) > 30 then (some false) else (banksmanref13_Few.l1 k x1 (wrap64 (x8 + 1)))) else (some false))) else (none)) else (some true)
end
def banksmanref13_Few.f (k : Nat) (l0 : List (S34)) (l1 : List (S29)) : Option (Bool) := if (l0.length : Int) > 30 then (banksmanref13_Few.j0 k l0 l1 true) else (banksmanref13_Few.j0 k l0 l1 (decide ((l1.length : Int) > 30)))
theorem banksmanref13_Few.mono_l : ∀ k, (∀ y0 y1 y2, LeO (banksmanref13_Few.j0 k y0 y1 y2) (banksmanref13_Few.j0 (k + 1) y0 y1 y2)) ∧ (∀ y0 y1 y2, LeO (banksmanref13_Few.l0 k y0 y1 y2) (banksmanref13_Few.l0 (k + 1) y0 y1 y2)) ∧ (∀ y0 y1, LeO (banksmanref13_Few.l1 k y0 y1) (banksmanref13_Few.l1 (k + 1) y0 y1))
  | 0 => ⟨fun _ _ _ r h => by simp [banksmanref13_Few.j0] at h, fun _ _ _ r h => by simp [banksmanref13_Few.l0] at h, fun _ _ r h => by simp [banksmanref13_Few.l1] at h⟩
  | k + 1 => by
    obtain ⟨ih0, ih1, ih2⟩ := banksmanref13_Few.mono_l k
    refine ⟨?_, ?_, ?_⟩
    · intro y0 y1 y2
      unfold banksmanref13_Few.j0
      repeat' first
      | (with_reducible exact ih0 _ _ _)
      | (with_reducible exact ih1 _ _ _)
      | (with_reducible exact ih2 _ _)
      | (with_reducible exact banksmanref08_Few.mono _ _ _)
      | (with_reducible exact banksmanref10_Few.mono _ _)
      | (with_reducible exact LeO.refl _)
      | (with_reducible exact LeO.none _)
      | (with_reducible refine LeO.ite ?_ ?_)
      | (with_reducible refine LeO.bind ?_ (fun _ => ?_))
      | exact ih0 _ _ _
      | exact ih1 _ _ _
      | exact ih2 _ _
      | exact banksmanref08_Few.mono _ _ _
      | exact banksmanref10_Few.mono _ _
      | exact LeO.none _
      | refine LeO.ite ?_ ?_
      | refine LeO.bind ?_ (fun _ => ?_)
    · intro y0 y1 y2
      unfold banksmanref13_Few.l0
      repeat' first
      | (with_reducible exact ih0 _ _ _)
      | (with_reducible exact ih1 _ _ _)
      | (with_reducible exact ih2 _ _)
      | (with_reducible exact banksmanref08_Few.mono _ _ _)
      | (with_reducible exact banksmanref10_Few.mono _ _)
      | (with_reducible exact LeO.refl _)
      | (with_reducible exact LeO.none _)
      | (with_reducible refine LeO.ite ?_ ?_)
      | (with_reducible refine LeO.bind ?_ (fun _ => ?_))
      | exact ih0 _ _ _
      | exact ih1 _ _ _
      | exact ih2 _ _
      | exact banksmanref08_Few.mono _ _ _
      | exact banksmanref10_Few.mono _ _
      | exact LeO.none _
      | refine LeO.ite ?_ ?_
      | refine LeO.bind ?_ (fun _ => ?_)
    · intro y0 y1
      unfold banksmanref13_Few.l1
      repeat' first
      | (with_reducible exact ih0 _ _ _)
      | (with_reducible exact ih1 _ _ _)
      | (with_reducible exact ih2 _ _)
      | (with_reducible exact banksmanref08_Few.mono _ _ _)
      | (with_reducible exact banksmanref10_Few.mono _ _)
      | (with_reducible exact LeO.refl _)
      | (with_reducible exact LeO.none _)
      | (with_reducible refine LeO.ite ?_ ?_)
      | (with_reducible refine LeO.bind ?_ (fun _ => ?_))
      | exact ih0 _ _ _
      | exact ih1 _ _ _
      | exact ih2 _ _
      | exact banksmanref08_Few.mono _ _ _
      | exact banksmanref10_Few.mono _ _
      | exact LeO.none _
      | refine LeO.ite ?_ ?_
      | refine LeO.bind ?_ (fun _ => ?_)
theorem banksmanref13_Few.mono : ∀ a0 a1 k, LeO (banksmanref13_Few.f k a0 a1) (banksmanref13_Few.f (k + 1) a0 a1) := by
  intro a0 a1 k
  obtain ⟨ih0, ih1, ih2⟩ := banksmanref13_Few.mono_l k
  unfold banksmanref13_Few.f
  repeat' first
      | (with_reducible exact ih0 _ _ _)
      | (with_reducible exact ih1 _ _ _)
      | (with_reducible exact ih2 _ _)
      | (with_reducible exact banksmanref08_Few.mono _ _ _)
      | (with_reducible exact banksmanref10_Few.mono _ _)
      | (with_reducible exact LeO.refl _)
      | (with_reducible exact LeO.none _)
      | (with_reducible refine LeO.ite ?_ ?_)
      | (with_reducible refine LeO.bind ?_ (fun _ => ?_))
      | exact ih0 _ _ _
      | exact ih1 _ _ _
      | exact ih2 _ _
      | exact banksmanref08_Few.mono _ _ _
      | exact banksmanref10_Few.mono _ _
      | exact LeO.none _
      | refine LeO.ite ?_ ?_
      | refine LeO.bind ?_ (fun _ => ?_)
set_option maxHeartbeats 8000000 in
set_option maxRecDepth 100000 in
theorem banksmanref13_Few.calls (k : Nat) (A0 : Option Addr) (c0 : Nat) (l0 : List (S34)) (A1 : Option Addr) (c1 : Nat) (l1 : List (S29)) (r : Bool) (w : World) (hr0 : Kd.C k34 w A0 l0.length l0) (hc0 : l0.length ≤ c0) (hr1 : Kd.C k29 w A1 l1.length l1) (hc1 : l1.length ≤ c1) (h : banksmanref13_Few.f k l0 l1 = some r) :
    Calls Try.prog 6 #[.slice A0 l0.length c0, .slice A1 l1.length c1] w fun e w' => e = .returned (.bool r) ∧ Below w.heap.size w w' := by
  have hu53 := Try.underlying53
  have HR0 := Aside0.mk hr0
  have HC0 := Aside0.mk hc0
  clear hr0 hc0
  have HR1 := Aside0.mk hr1
  have HC1 := Aside0.mk hc1
  clear hr1 hc1
  have HB := Aside0.mk (Below.refl w.heap.size w)
  have H : (if (l0.length : Int) > 30 then (banksmanref13_Few.j0 k l0 l1 true) else (banksmanref13_Few.j0 k l0 l1 (decide ((l1.length : Int) > 30)))) = some r := h
  clear h
  have HC3 := Aside0.mk H
  clear H
  go_enter Try.func6, Try.ntmps6
  go_upto_region 1 with (fail)
  go_cut [17] (fun v17 wc => ∃ (kq : Nat) (x17_2 : Bool), v17 = .bool x17_2 ∧ Aside0 (banksmanref13_Few.j0 kq l0 l1 x17_2 = some r) ∧ Aside0 (kq ≤ k) ∧ Aside0 (Below w.heap.size w wc))
  case first =>
    have H := HC3.out
    clear HC3
    by_cases c4 : (l0.length : Int) > 30
    · rw [if_pos c4] at H
      have c4b0 : decide (30 < (l0.length : Int)) = true := decide_eq_true c4
      have c4b1 : decide (30 < l0.length) = true := decide_eq_true (by omega)
      clear c4
      (first | rw [c4b0] | (simp only [i64_w, i32_w]; rw [c4b0]) | skip)
      have H' := Aside0.mk H
      clear H
      go_wp2
      go_meet
      case rel => exact ⟨_, (true), (by first | rfl | (simp; done) | (simp [*]; done)), H', ⟨by first | omega | exact Nat.le_refl _⟩, ⟨by repeat (first | (with_reducible first | exact HB.out | apply below_alloc | apply pw_below_drewN | apply below_drew1) | exact HB.out)⟩⟩
    · rw [if_neg c4] at H
      have c4b0 : decide (30 < (l0.length : Int)) = false := decide_eq_false c4
      have c4b1 : decide (30 < l0.length) = false := decide_eq_false (by omega)
      clear c4
      (first | rw [c4b0] | (simp only [i64_w, i32_w]; rw [c4b0]) | skip)
      have H' := Aside0.mk H
      clear H
      go_wp2
      go_meet
      case rel => exact ⟨_, (decide ((l1.length : Int) > 30)), (by first | rfl | (simp; done) | (simp [*]; done)), H', ⟨by first | omega | exact Nat.le_refl _⟩, ⟨by repeat (first | (with_reducible first | exact HB.out | apply below_alloc | apply pw_below_drewN | apply below_drew1) | exact HB.out)⟩⟩
  case rest =>
    clear HC3
    try clear c1
    try clear p2
    try clear c4
    try clear c4b0
    try clear c4b1
    obtain ⟨kq, x17_2, rfl, HA, HJ2, HB⟩ := hcut
    cases kq with
    | zero => exact absurd HA.out (by simp [banksmanref13_Few.j0])
    | succ kj2 =>
      have H := HA.out
      clear HA
      simp only [banksmanref13_Few.j0] at H
      by_cases c5 : x17_2 = true
      · subst c5
        have H1 : (some false) = some r := by rw [if_pos rfl] at H; exact H
        clear H
        have H := H1
        clear H1
        obtain rfl := Option.some.inj H
        go_wp2
        go_ret
        exact ⟨by first | rfl | (simp [errW_none, errW_some] <;> rfl) | (simp [*, errW_none, errW_some] <;> rfl), by repeat (first | (with_reducible first | exact HB.out | apply below_alloc | apply pw_below_drewN | apply below_drew1) | exact HB.out)⟩
      · replace c5 := Bool.eq_false_iff.mpr c5
        subst c5
        have H1 : (banksmanref13_Few.l0 kj2 l0 l1 0) = some r := by rw [if_neg (show ¬ (false = true) by decide)] at H; exact H
        clear H
        have H := H1
        clear H1
        have H' := Aside0.mk H
        clear H
        go_wp2
        go_loopg [5] kj2 (fun kq v5 w' => ∃ (x5_2 : Int), v5 = .int .i64 x5_2 ∧ Aside0 (banksmanref13_Few.l0 kq l0 l1 x5_2 = some r) ∧ Aside0 (kq ≤ kj2) ∧ Aside0 (Below w.heap.size w w'))
        case atStart => exact ⟨(0), (by first | rfl | (simp; done) | (simp [*]; done)), H', ⟨Nat.le_refl _⟩, ⟨by repeat (first | (with_reducible first | exact HB.out | apply below_alloc | apply pw_below_drewN | apply below_drew1) | exact HB.out)⟩⟩
        case round =>
          clear H'
          try clear c1
          try clear p2
          try clear c4
          try clear c4b0
          try clear c4b1
          try clear c5
          try clear p2
          obtain ⟨x5_2, rfl, HA, HK2, HB⟩ := hrel
          cases gk with
          | zero => exact absurd HA.out (by simp [banksmanref13_Few.l0])
          | succ k2 =>
            have H := HA.out
            clear HA
            simp only [banksmanref13_Few.l0] at H
            by_cases c6 : x5_2 < (l0.length : Int)
            · rw [if_pos c6] at H
              have c6b0 : decide (x5_2 < (l0.length : Int)) = true := decide_eq_true c6
              clear c6
              by_cases c7 : 0 ≤ x5_2
              · rw [if_pos c7] at H
                have c7b0 : decide (0 ≤ x5_2) = true := decide_eq_true c7
                clear c7
                replace H := Option.bind_eq_some_iff.mp H
                obtain ⟨t144, A80, H⟩ := H
                replace H : ((banksmanref08_Few.f k2 ((rd_T34 l0 x5_2).f4) ([] : List Int)).bind fun t146 => (if t144 = true then (if t146 = true then (if (((rd_T34 l0 x5_2).f3).length : Int) > 30 then (some false) else (banksmanref13_Few.l0 k2 l0 l1 (wrap64 (x5_2 + 1)))) else (some false)) else (some false))) = some r := H
                have A8 := Aside0.mk A80
                clear A80
                replace H := Option.bind_eq_some_iff.mp H
                obtain ⟨t146, A90, H⟩ := H
                replace H : (if t144 = true then (if t146 = true then (if (((rd_T34 l0 x5_2).f3).length : Int) > 30 then (some false) else (banksmanref13_Few.l0 k2 l0 l1 (wrap64 (x5_2 + 1)))) else (some false)) else (some false)) = some r := H
                have A9 := Aside0.mk A90
                clear A90
                by_cases c10 : t144 = true
                · subst c10
                  have H1 : (if t146 = true then (if (((rd_T34 l0 x5_2).f3).length : Int) > 30 then (some false) else (banksmanref13_Few.l0 k2 l0 l1 (wrap64 (x5_2 + 1)))) else (some false)) = some r := by rw [if_pos rfl] at H; exact H
                  clear H
                  have H := H1
                  clear H1
                  by_cases c11 : t146 = true
                  · subst c11
                    have H1 : (if (((rd_T34 l0 x5_2).f3).length : Int) > 30 then (some false) else (banksmanref13_Few.l0 k2 l0 l1 (wrap64 (x5_2 + 1)))) = some r := by rw [if_pos rfl] at H; exact H
                    clear H
                    have H := H1
                    clear H1
                    by_cases c12 : (((rd_T34 l0 x5_2).f3).length : Int) > 30
                    · rw [if_pos c12] at H
                      have c12b0 : decide (30 < (((rd_T34 l0 x5_2).f3).length : Int)) = true := decide_eq_true c12
                      have c12b1 : decide (30 < ((rd_T34 l0 x5_2).f3).length) = true := decide_eq_true (by omega)
                      clear c12
                      obtain rfl := Option.some.inj H
                      have p143 : 0 ≤ (x5_2 : Int) := of_decide_eq_true (by first | (with_reducible assumption) | assumption)
                      have q143 : x5_2 < (l0.length : Int) := of_decide_eq_true (by first | (with_reducible assumption) | assumption)
                      obtain ⟨ad143, A143_3, c143_3, A143_4, c143_4, e143, hx143_0, hx143_1, hx143_2, hx143_3, hx143_4, hx143_5, hl143_3, hi143_3, hl143_4, hi143_4⟩ := at_T34 HR0.out x5_2 p143 q143
                      cases e143
                      replace hx143_0 := (HB.out.cell (World.block_lt_of_cell? w _ hx143_0)).trans hx143_0
                      replace hx143_1 := (HB.out.cell (World.block_lt_of_cell? w _ hx143_1)).trans hx143_1
                      replace hx143_2 := (HB.out.cell (World.block_lt_of_cell? w _ hx143_2)).trans hx143_2
                      replace hx143_3 := (HB.out.cell (World.block_lt_of_cell? w _ hx143_3)).trans hx143_3
                      replace hx143_4 := (HB.out.cell (World.block_lt_of_cell? w _ hx143_4)).trans hx143_4
                      replace hx143_5 := (HB.out.cell (World.block_lt_of_cell? w _ hx143_5)).trans hx143_5
                      have HR143_3 := Aside0.mk hi143_3
                      have HC143_3 := Aside0.mk hl143_3
                      clear hi143_3 hl143_3
                      have HR143_4 := Aside0.mk hi143_4
                      have HC143_4 := Aside0.mk hl143_4
                      clear hi143_4 hl143_4
                      replace p143 := eq_true p143
                      replace q143 := eq_true q143
                      go_wp2_with (first | ((with_reducible refine gate_callee (f := 15) rfl ?_); refine goesL_ (some 29) rfl rfl Try.func15 (by kernel_rfl) rfl #[.slice A143_3 ((rd_T34 l0 x5_2).f3).length c143_3] rfl (by (try simp only [List.map_toArray, List.map_cons, List.map_nil]); first | done | rfl | (simp only [List.length_drop, List.length_take]; rfl)) ?_; (with_reducible refine (banksmanref10_Few.calls k2 _ _ ((rd_T34 l0 x5_2).f3) true _ ?side1 ?side2 A8.out).mono ?_); (case side1 => repeat (first | exact (Kd.C_below HR143_3.out HB.out) | (with_reducible refine Kd.C_alloc ?_ _) | (with_reducible refine Kd.C_drewN ?_ _) | (with_reducible refine Kd.C_drew ?_))); (case side2 => exact HC143_3.out); rintro e w' ⟨rfl, ⟨nd, rfl⟩⟩; refine ⟨_, rfl, ?_⟩; have p145 : 0 ≤ (x5_2 : Int) := of_decide_eq_true (by first | (with_reducible assumption) | assumption); have q145 : x5_2 < (l0.length : Int) := of_decide_eq_true (by first | (with_reducible assumption) | assumption); obtain ⟨ad145, A145_3, c145_3, A145_4, c145_4, e145, hx145_0, hx145_1, hx145_2, hx145_3, hx145_4, hx145_5, hl145_3, hi145_3, hl145_4, hi145_4⟩ := at_T34 HR0.out x5_2 p145 q145; obtain rfl : ad143 = ad145 := (by injection e145); replace hx145_0 := (HB.out.cell (World.block_lt_of_cell? w _ hx145_0)).trans hx145_0; replace hx145_1 := (HB.out.cell (World.block_lt_of_cell? w _ hx145_1)).trans hx145_1; replace hx145_2 := (HB.out.cell (World.block_lt_of_cell? w _ hx145_2)).trans hx145_2; replace hx145_3 := (HB.out.cell (World.block_lt_of_cell? w _ hx145_3)).trans hx145_3; replace hx145_4 := (HB.out.cell (World.block_lt_of_cell? w _ hx145_4)).trans hx145_4; replace hx145_5 := (HB.out.cell (World.block_lt_of_cell? w _ hx145_5)).trans hx145_5; have HR145_3 := Aside0.mk hi145_3; have HC145_3 := Aside0.mk hl145_3; clear hi145_3 hl145_3; have HR145_4 := Aside0.mk hi145_4; have HC145_4 := Aside0.mk hl145_4; clear hi145_4 hl145_4; replace p145 := eq_true p145; replace q145 := eq_true q145; have ea_ := Option.some.inj (hx143_3.symm.trans hx145_3); injection ea_ with ea_ en_ ec_; subst ea_; subst ec_; clear en_; have ea_ := Option.some.inj (hx143_4.symm.trans hx145_4); injection ea_ with ea_ en_ ec_; subst ea_; subst ec_; clear en_) | ((with_reducible refine gate_callee (f := 16) rfl ?_); refine goesL_ (some 36) rfl rfl Try.func16 (by kernel_rfl) rfl #[.agg #[.slice A143_4 ((rd_T34 l0 x5_2).f4).length c143_4, .slice none 0 0]] rfl (by (try simp only [List.map_toArray, List.map_cons, List.map_nil]); first | done | rfl | (simp only [List.length_drop, List.length_take]; rfl)) ?_; (refine (banksmanref08_Few.calls k2 _ _ ((rd_T34 l0 x5_2).f4) _ _ ([] : List Int) true _ ?side1 ?side2 ?side3 ?side4 A9.out).mono ?_); (case side1 => repeat (first | exact (Kd.C_below HR145_4.out (by repeat (first | (with_reducible first | exact HB.out | apply below_alloc | apply pw_below_drewN | apply below_drew1) | exact HB.out))) | (with_reducible refine Kd.C_alloc ?_ _) | (with_reducible refine Kd.C_drewN ?_ _) | (with_reducible refine Kd.C_drew ?_))); (case side2 => exact HC145_4.out); (case side3 => exact Kd.C_nil _ _); (case side4 => exact Nat.le_refl _); rintro e w13 ⟨rfl, hb⟩; refine ⟨_, rfl, ?_⟩; have n0_ := Aside0.mk (below_step (by repeat (first | (with_reducible first | exact HB.out | apply below_alloc | apply pw_below_drewN | apply below_drew1) | exact HB.out)) hb); clear HB; have HB := n0_; clear n0_; (try clear hb); (try clear hb2); (try clear hk); (try clear hi); have p147 : 0 ≤ (x5_2 : Int) := of_decide_eq_true (by first | (with_reducible assumption) | assumption); have q147 : x5_2 < (l0.length : Int) := of_decide_eq_true (by first | (with_reducible assumption) | assumption); obtain ⟨ad147, A147_3, c147_3, A147_4, c147_4, e147, hx147_0, hx147_1, hx147_2, hx147_3, hx147_4, hx147_5, hl147_3, hi147_3, hl147_4, hi147_4⟩ := at_T34 HR0.out x5_2 p147 q147; obtain rfl : ad143 = ad147 := (by injection e147); replace hx147_0 := (HB.out.cell (World.block_lt_of_cell? w _ hx147_0)).trans hx147_0; replace hx147_1 := (HB.out.cell (World.block_lt_of_cell? w _ hx147_1)).trans hx147_1; replace hx147_2 := (HB.out.cell (World.block_lt_of_cell? w _ hx147_2)).trans hx147_2; replace hx147_3 := (HB.out.cell (World.block_lt_of_cell? w _ hx147_3)).trans hx147_3; replace hx147_4 := (HB.out.cell (World.block_lt_of_cell? w _ hx147_4)).trans hx147_4; replace hx147_5 := (HB.out.cell (World.block_lt_of_cell? w _ hx147_5)).trans hx147_5; have HR147_3 := Aside0.mk hi147_3; have HC147_3 := Aside0.mk hl147_3; clear hi147_3 hl147_3; have HR147_4 := Aside0.mk hi147_4; have HC147_4 := Aside0.mk hl147_4; clear hi147_4 hl147_4; replace p147 := eq_true p147; replace q147 := eq_true q147))
                      go_ret
                      exact ⟨by first | rfl | (simp [errW_none, errW_some] <;> rfl) | (simp [*, errW_none, errW_some] <;> rfl), by repeat (first | (with_reducible first | exact HB.out | apply below_alloc | apply pw_below_drewN | apply below_drew1) | exact HB.out)⟩
                    · rw [if_neg c12] at H
                      have c12b0 : decide (30 < (((rd_T34 l0 x5_2).f3).length : Int)) = false := decide_eq_false c12
                      have c12b1 : decide (30 < ((rd_T34 l0 x5_2).f3).length) = false := decide_eq_false (by omega)
                      clear c12
                      have H' := Aside0.mk H
                      clear H
                      have p143 : 0 ≤ (x5_2 : Int) := of_decide_eq_true (by first | (with_reducible assumption) | assumption)
                      have q143 : x5_2 < (l0.length : Int) := of_decide_eq_true (by first | (with_reducible assumption) | assumption)
                      obtain ⟨ad143, A143_3, c143_3, A143_4, c143_4, e143, hx143_0, hx143_1, hx143_2, hx143_3, hx143_4, hx143_5, hl143_3, hi143_3, hl143_4, hi143_4⟩ := at_T34 HR0.out x5_2 p143 q143
                      cases e143
                      replace hx143_0 := (HB.out.cell (World.block_lt_of_cell? w _ hx143_0)).trans hx143_0
                      replace hx143_1 := (HB.out.cell (World.block_lt_of_cell? w _ hx143_1)).trans hx143_1
                      replace hx143_2 := (HB.out.cell (World.block_lt_of_cell? w _ hx143_2)).trans hx143_2
                      replace hx143_3 := (HB.out.cell (World.block_lt_of_cell? w _ hx143_3)).trans hx143_3
                      replace hx143_4 := (HB.out.cell (World.block_lt_of_cell? w _ hx143_4)).trans hx143_4
                      replace hx143_5 := (HB.out.cell (World.block_lt_of_cell? w _ hx143_5)).trans hx143_5
                      have HR143_3 := Aside0.mk hi143_3
                      have HC143_3 := Aside0.mk hl143_3
                      clear hi143_3 hl143_3
                      have HR143_4 := Aside0.mk hi143_4
                      have HC143_4 := Aside0.mk hl143_4
                      clear hi143_4 hl143_4
                      replace p143 := eq_true p143
                      replace q143 := eq_true q143
                      go_wp2_with (first | ((with_reducible refine gate_callee (f := 15) rfl ?_); refine goesL_ (some 29) rfl rfl Try.func15 (by kernel_rfl) rfl #[.slice A143_3 ((rd_T34 l0 x5_2).f3).length c143_3] rfl (by (try simp only [List.map_toArray, List.map_cons, List.map_nil]); first | done | rfl | (simp only [List.length_drop, List.length_take]; rfl)) ?_; (with_reducible refine (banksmanref10_Few.calls k2 _ _ ((rd_T34 l0 x5_2).f3) true _ ?side1 ?side2 A8.out).mono ?_); (case side1 => repeat (first | exact (Kd.C_below HR143_3.out HB.out) | (with_reducible refine Kd.C_alloc ?_ _) | (with_reducible refine Kd.C_drewN ?_ _) | (with_reducible refine Kd.C_drew ?_))); (case side2 => exact HC143_3.out); rintro e w' ⟨rfl, ⟨nd, rfl⟩⟩; refine ⟨_, rfl, ?_⟩; have p145 : 0 ≤ (x5_2 : Int) := of_decide_eq_true (by first | (with_reducible assumption) | assumption); have q145 : x5_2 < (l0.length : Int) := of_decide_eq_true (by first | (with_reducible assumption) | assumption); obtain ⟨ad145, A145_3, c145_3, A145_4, c145_4, e145, hx145_0, hx145_1, hx145_2, hx145_3, hx145_4, hx145_5, hl145_3, hi145_3, hl145_4, hi145_4⟩ := at_T34 HR0.out x5_2 p145 q145; obtain rfl : ad143 = ad145 := (by injection e145); replace hx145_0 := (HB.out.cell (World.block_lt_of_cell? w _ hx145_0)).trans hx145_0; replace hx145_1 := (HB.out.cell (World.block_lt_of_cell? w _ hx145_1)).trans hx145_1; replace hx145_2 := (HB.out.cell (World.block_lt_of_cell? w _ hx145_2)).trans hx145_2; replace hx145_3 := (HB.out.cell (World.block_lt_of_cell? w _ hx145_3)).trans hx145_3; replace hx145_4 := (HB.out.cell (World.block_lt_of_cell? w _ hx145_4)).trans hx145_4; replace hx145_5 := (HB.out.cell (World.block_lt_of_cell? w _ hx145_5)).trans hx145_5; have HR145_3 := Aside0.mk hi145_3; have HC145_3 := Aside0.mk hl145_3; clear hi145_3 hl145_3; have HR145_4 := Aside0.mk hi145_4; have HC145_4 := Aside0.mk hl145_4; clear hi145_4 hl145_4; replace p145 := eq_true p145; replace q145 := eq_true q145; have ea_ := Option.some.inj (hx143_3.symm.trans hx145_3); injection ea_ with ea_ en_ ec_; subst ea_; subst ec_; clear en_; have ea_ := Option.some.inj (hx143_4.symm.trans hx145_4); injection ea_ with ea_ en_ ec_; subst ea_; subst ec_; clear en_) | ((with_reducible refine gate_callee (f := 16) rfl ?_); refine goesL_ (some 36) rfl rfl Try.func16 (by kernel_rfl) rfl #[.agg #[.slice A143_4 ((rd_T34 l0 x5_2).f4).length c143_4, .slice none 0 0]] rfl (by (try simp only [List.map_toArray, List.map_cons, List.map_nil]); first | done | rfl | (simp only [List.length_drop, List.length_take]; rfl)) ?_; (refine (banksmanref08_Few.calls k2 _ _ ((rd_T34 l0 x5_2).f4) _ _ ([] : List Int) true _ ?side1 ?side2 ?side3 ?side4 A9.out).mono ?_); (case side1 => repeat (first | exact (Kd.C_below HR145_4.out (by repeat (first | (with_reducible first | exact HB.out | apply below_alloc | apply pw_below_drewN | apply below_drew1) | exact HB.out))) | (with_reducible refine Kd.C_alloc ?_ _) | (with_reducible refine Kd.C_drewN ?_ _) | (with_reducible refine Kd.C_drew ?_))); (case side2 => exact HC145_4.out); (case side3 => exact Kd.C_nil _ _); (case side4 => exact Nat.le_refl _); rintro e w14 ⟨rfl, hb⟩; refine ⟨_, rfl, ?_⟩; have n0_ := Aside0.mk (below_step (by repeat (first | (with_reducible first | exact HB.out | apply below_alloc | apply pw_below_drewN | apply below_drew1) | exact HB.out)) hb); clear HB; have HB := n0_; clear n0_; (try clear hb); (try clear hb2); (try clear hk); (try clear hi); have p147 : 0 ≤ (x5_2 : Int) := of_decide_eq_true (by first | (with_reducible assumption) | assumption); have q147 : x5_2 < (l0.length : Int) := of_decide_eq_true (by first | (with_reducible assumption) | assumption); obtain ⟨ad147, A147_3, c147_3, A147_4, c147_4, e147, hx147_0, hx147_1, hx147_2, hx147_3, hx147_4, hx147_5, hl147_3, hi147_3, hl147_4, hi147_4⟩ := at_T34 HR0.out x5_2 p147 q147; obtain rfl : ad143 = ad147 := (by injection e147); replace hx147_0 := (HB.out.cell (World.block_lt_of_cell? w _ hx147_0)).trans hx147_0; replace hx147_1 := (HB.out.cell (World.block_lt_of_cell? w _ hx147_1)).trans hx147_1; replace hx147_2 := (HB.out.cell (World.block_lt_of_cell? w _ hx147_2)).trans hx147_2; replace hx147_3 := (HB.out.cell (World.block_lt_of_cell? w _ hx147_3)).trans hx147_3; replace hx147_4 := (HB.out.cell (World.block_lt_of_cell? w _ hx147_4)).trans hx147_4; replace hx147_5 := (HB.out.cell (World.block_lt_of_cell? w _ hx147_5)).trans hx147_5; have HR147_3 := Aside0.mk hi147_3; have HC147_3 := Aside0.mk hl147_3; clear hi147_3 hl147_3; have HR147_4 := Aside0.mk hi147_4; have HC147_4 := Aside0.mk hl147_4; clear hi147_4 hl147_4; replace p147 := eq_true p147; replace q147 := eq_true q147))
                      go_roundg k2
                      case measure => have := HJ2.out; have := HK2.out; omega
                      case rel => exact ⟨(wrap64 (x5_2 + 1)), (by first | rfl | (simp; done) | (simp [*]; done)), H', ⟨by have := HJ2.out; have := HK2.out; omega⟩, ⟨by repeat (first | (with_reducible first | exact HB.out | apply below_alloc | apply pw_below_drewN | apply below_drew1) | exact HB.out)⟩⟩
                  · replace c11 := Bool.eq_false_iff.mpr c11
                    subst c11
                    have H1 : (some false) = some r := by rw [if_neg (show ¬ (false = true) by decide)] at H; exact H
                    clear H
                    have H := H1
                    clear H1
                    obtain rfl := Option.some.inj H
                    have p143 : 0 ≤ (x5_2 : Int) := of_decide_eq_true (by first | (with_reducible assumption) | assumption)
                    have q143 : x5_2 < (l0.length : Int) := of_decide_eq_true (by first | (with_reducible assumption) | assumption)
                    obtain ⟨ad143, A143_3, c143_3, A143_4, c143_4, e143, hx143_0, hx143_1, hx143_2, hx143_3, hx143_4, hx143_5, hl143_3, hi143_3, hl143_4, hi143_4⟩ := at_T34 HR0.out x5_2 p143 q143
                    cases e143
                    replace hx143_0 := (HB.out.cell (World.block_lt_of_cell? w _ hx143_0)).trans hx143_0
                    replace hx143_1 := (HB.out.cell (World.block_lt_of_cell? w _ hx143_1)).trans hx143_1
                    replace hx143_2 := (HB.out.cell (World.block_lt_of_cell? w _ hx143_2)).trans hx143_2
                    replace hx143_3 := (HB.out.cell (World.block_lt_of_cell? w _ hx143_3)).trans hx143_3
                    replace hx143_4 := (HB.out.cell (World.block_lt_of_cell? w _ hx143_4)).trans hx143_4
                    replace hx143_5 := (HB.out.cell (World.block_lt_of_cell? w _ hx143_5)).trans hx143_5
                    have HR143_3 := Aside0.mk hi143_3
                    have HC143_3 := Aside0.mk hl143_3
                    clear hi143_3 hl143_3
                    have HR143_4 := Aside0.mk hi143_4
                    have HC143_4 := Aside0.mk hl143_4
                    clear hi143_4 hl143_4
                    replace p143 := eq_true p143
                    replace q143 := eq_true q143
                    go_wp2_with (first | ((with_reducible refine gate_callee (f := 15) rfl ?_); refine goesL_ (some 29) rfl rfl Try.func15 (by kernel_rfl) rfl #[.slice A143_3 ((rd_T34 l0 x5_2).f3).length c143_3] rfl (by (try simp only [List.map_toArray, List.map_cons, List.map_nil]); first | done | rfl | (simp only [List.length_drop, List.length_take]; rfl)) ?_; (with_reducible refine (banksmanref10_Few.calls k2 _ _ ((rd_T34 l0 x5_2).f3) true _ ?side1 ?side2 A8.out).mono ?_); (case side1 => repeat (first | exact (Kd.C_below HR143_3.out HB.out) | (with_reducible refine Kd.C_alloc ?_ _) | (with_reducible refine Kd.C_drewN ?_ _) | (with_reducible refine Kd.C_drew ?_))); (case side2 => exact HC143_3.out); rintro e w' ⟨rfl, ⟨nd, rfl⟩⟩; refine ⟨_, rfl, ?_⟩; have p145 : 0 ≤ (x5_2 : Int) := of_decide_eq_true (by first | (with_reducible assumption) | assumption); have q145 : x5_2 < (l0.length : Int) := of_decide_eq_true (by first | (with_reducible assumption) | assumption); obtain ⟨ad145, A145_3, c145_3, A145_4, c145_4, e145, hx145_0, hx145_1, hx145_2, hx145_3, hx145_4, hx145_5, hl145_3, hi145_3, hl145_4, hi145_4⟩ := at_T34 HR0.out x5_2 p145 q145; obtain rfl : ad143 = ad145 := (by injection e145); replace hx145_0 := (HB.out.cell (World.block_lt_of_cell? w _ hx145_0)).trans hx145_0; replace hx145_1 := (HB.out.cell (World.block_lt_of_cell? w _ hx145_1)).trans hx145_1; replace hx145_2 := (HB.out.cell (World.block_lt_of_cell? w _ hx145_2)).trans hx145_2; replace hx145_3 := (HB.out.cell (World.block_lt_of_cell? w _ hx145_3)).trans hx145_3; replace hx145_4 := (HB.out.cell (World.block_lt_of_cell? w _ hx145_4)).trans hx145_4; replace hx145_5 := (HB.out.cell (World.block_lt_of_cell? w _ hx145_5)).trans hx145_5; have HR145_3 := Aside0.mk hi145_3; have HC145_3 := Aside0.mk hl145_3; clear hi145_3 hl145_3; have HR145_4 := Aside0.mk hi145_4; have HC145_4 := Aside0.mk hl145_4; clear hi145_4 hl145_4; replace p145 := eq_true p145; replace q145 := eq_true q145; have ea_ := Option.some.inj (hx143_3.symm.trans hx145_3); injection ea_ with ea_ en_ ec_; subst ea_; subst ec_; clear en_; have ea_ := Option.some.inj (hx143_4.symm.trans hx145_4); injection ea_ with ea_ en_ ec_; subst ea_; subst ec_; clear en_) | ((with_reducible refine gate_callee (f := 16) rfl ?_); refine goesL_ (some 36) rfl rfl Try.func16 (by kernel_rfl) rfl #[.agg #[.slice A143_4 ((rd_T34 l0 x5_2).f4).length c143_4, .slice none 0 0]] rfl (by (try simp only [List.map_toArray, List.map_cons, List.map_nil]); first | done | rfl | (simp only [List.length_drop, List.length_take]; rfl)) ?_; (refine (banksmanref08_Few.calls k2 _ _ ((rd_T34 l0 x5_2).f4) _ _ ([] : List Int) false _ ?side1 ?side2 ?side3 ?side4 A9.out).mono ?_); (case side1 => repeat (first | exact (Kd.C_below HR145_4.out (by repeat (first | (with_reducible first | exact HB.out | apply below_alloc | apply pw_below_drewN | apply below_drew1) | exact HB.out))) | (with_reducible refine Kd.C_alloc ?_ _) | (with_reducible refine Kd.C_drewN ?_ _) | (with_reducible refine Kd.C_drew ?_))); (case side2 => exact HC145_4.out); (case side3 => exact Kd.C_nil _ _); (case side4 => exact Nat.le_refl _); rintro e w15 ⟨rfl, hb⟩; refine ⟨_, rfl, ?_⟩; have n0_ := Aside0.mk (below_step (by repeat (first | (with_reducible first | exact HB.out | apply below_alloc | apply pw_below_drewN | apply below_drew1) | exact HB.out)) hb); clear HB; have HB := n0_; clear n0_; (try clear hb); (try clear hb2); (try clear hk); (try clear hi)))
                    go_ret
                    exact ⟨by first | rfl | (simp [errW_none, errW_some] <;> rfl) | (simp [*, errW_none, errW_some] <;> rfl), by repeat (first | (with_reducible first | exact HB.out | apply below_alloc | apply pw_below_drewN | apply below_drew1) | exact HB.out)⟩
                · replace c10 := Bool.eq_false_iff.mpr c10
                  subst c10
                  have H1 : (some false) = some r := by rw [if_neg (show ¬ (false = true) by decide)] at H; exact H
                  clear H
                  have H := H1
                  clear H1
                  obtain rfl := Option.some.inj H
                  have p143 : 0 ≤ (x5_2 : Int) := of_decide_eq_true (by first | (with_reducible assumption) | assumption)
                  have q143 : x5_2 < (l0.length : Int) := of_decide_eq_true (by first | (with_reducible assumption) | assumption)
                  obtain ⟨ad143, A143_3, c143_3, A143_4, c143_4, e143, hx143_0, hx143_1, hx143_2, hx143_3, hx143_4, hx143_5, hl143_3, hi143_3, hl143_4, hi143_4⟩ := at_T34 HR0.out x5_2 p143 q143
                  cases e143
                  replace hx143_0 := (HB.out.cell (World.block_lt_of_cell? w _ hx143_0)).trans hx143_0
                  replace hx143_1 := (HB.out.cell (World.block_lt_of_cell? w _ hx143_1)).trans hx143_1
                  replace hx143_2 := (HB.out.cell (World.block_lt_of_cell? w _ hx143_2)).trans hx143_2
                  replace hx143_3 := (HB.out.cell (World.block_lt_of_cell? w _ hx143_3)).trans hx143_3
                  replace hx143_4 := (HB.out.cell (World.block_lt_of_cell? w _ hx143_4)).trans hx143_4
                  replace hx143_5 := (HB.out.cell (World.block_lt_of_cell? w _ hx143_5)).trans hx143_5
                  have HR143_3 := Aside0.mk hi143_3
                  have HC143_3 := Aside0.mk hl143_3
                  clear hi143_3 hl143_3
                  have HR143_4 := Aside0.mk hi143_4
                  have HC143_4 := Aside0.mk hl143_4
                  clear hi143_4 hl143_4
                  replace p143 := eq_true p143
                  replace q143 := eq_true q143
                  go_wp2_with (first | ((with_reducible refine gate_callee (f := 15) rfl ?_); refine goesL_ (some 29) rfl rfl Try.func15 (by kernel_rfl) rfl #[.slice A143_3 ((rd_T34 l0 x5_2).f3).length c143_3] rfl (by (try simp only [List.map_toArray, List.map_cons, List.map_nil]); first | done | rfl | (simp only [List.length_drop, List.length_take]; rfl)) ?_; (with_reducible refine (banksmanref10_Few.calls k2 _ _ ((rd_T34 l0 x5_2).f3) false _ ?side1 ?side2 A8.out).mono ?_); (case side1 => repeat (first | exact (Kd.C_below HR143_3.out HB.out) | (with_reducible refine Kd.C_alloc ?_ _) | (with_reducible refine Kd.C_drewN ?_ _) | (with_reducible refine Kd.C_drew ?_))); (case side2 => exact HC143_3.out); rintro e w' ⟨rfl, ⟨nd, rfl⟩⟩; refine ⟨_, rfl, ?_⟩; have p145 : 0 ≤ (x5_2 : Int) := of_decide_eq_true (by first | (with_reducible assumption) | assumption); have q145 : x5_2 < (l0.length : Int) := of_decide_eq_true (by first | (with_reducible assumption) | assumption); obtain ⟨ad145, A145_3, c145_3, A145_4, c145_4, e145, hx145_0, hx145_1, hx145_2, hx145_3, hx145_4, hx145_5, hl145_3, hi145_3, hl145_4, hi145_4⟩ := at_T34 HR0.out x5_2 p145 q145; obtain rfl : ad143 = ad145 := (by injection e145); replace hx145_0 := (HB.out.cell (World.block_lt_of_cell? w _ hx145_0)).trans hx145_0; replace hx145_1 := (HB.out.cell (World.block_lt_of_cell? w _ hx145_1)).trans hx145_1; replace hx145_2 := (HB.out.cell (World.block_lt_of_cell? w _ hx145_2)).trans hx145_2; replace hx145_3 := (HB.out.cell (World.block_lt_of_cell? w _ hx145_3)).trans hx145_3; replace hx145_4 := (HB.out.cell (World.block_lt_of_cell? w _ hx145_4)).trans hx145_4; replace hx145_5 := (HB.out.cell (World.block_lt_of_cell? w _ hx145_5)).trans hx145_5; have HR145_3 := Aside0.mk hi145_3; have HC145_3 := Aside0.mk hl145_3; clear hi145_3 hl145_3; have HR145_4 := Aside0.mk hi145_4; have HC145_4 := Aside0.mk hl145_4; clear hi145_4 hl145_4; replace p145 := eq_true p145; replace q145 := eq_true q145; have ea_ := Option.some.inj (hx143_3.symm.trans hx145_3); injection ea_ with ea_ en_ ec_; subst ea_; subst ec_; clear en_; have ea_ := Option.some.inj (hx143_4.symm.trans hx145_4); injection ea_ with ea_ en_ ec_; subst ea_; subst ec_; clear en_) | ((with_reducible refine gate_callee (f := 16) rfl ?_); refine goesL_ (some 36) rfl rfl Try.func16 (by kernel_rfl) rfl #[.agg #[.slice A143_4 ((rd_T34 l0 x5_2).f4).length c143_4, .slice none 0 0]] rfl (by (try simp only [List.map_toArray, List.map_cons, List.map_nil]); first | done | rfl | (simp only [List.length_drop, List.length_take]; rfl)) ?_; (refine (banksmanref08_Few.calls k2 _ _ ((rd_T34 l0 x5_2).f4) _ _ ([] : List Int) t146 _ ?side1 ?side2 ?side3 ?side4 A9.out).mono ?_); (case side1 => repeat (first | exact (Kd.C_below HR145_4.out (by repeat (first | (with_reducible first | exact HB.out | apply below_alloc | apply pw_below_drewN | apply below_drew1) | exact HB.out))) | (with_reducible refine Kd.C_alloc ?_ _) | (with_reducible refine Kd.C_drewN ?_ _) | (with_reducible refine Kd.C_drew ?_))); (case side2 => exact HC145_4.out); (case side3 => exact Kd.C_nil _ _); (case side4 => exact Nat.le_refl _); rintro e w16 ⟨rfl, hb⟩; refine ⟨_, rfl, ?_⟩; have n0_ := Aside0.mk (below_step (by repeat (first | (with_reducible first | exact HB.out | apply below_alloc | apply pw_below_drewN | apply below_drew1) | exact HB.out)) hb); clear HB; have HB := n0_; clear n0_; (try clear hb); (try clear hb2); (try clear hk); (try clear hi)))
                  go_ret
                  exact ⟨by first | rfl | (simp [errW_none, errW_some] <;> rfl) | (simp [*, errW_none, errW_some] <;> rfl), by repeat (first | (with_reducible first | exact HB.out | apply below_alloc | apply pw_below_drewN | apply below_drew1) | exact HB.out)⟩
              · rw [if_neg c7] at H
                exact absurd H (by simp)
            · rw [if_neg c6] at H
              have c6b0 : decide (x5_2 < (l0.length : Int)) = false := decide_eq_false c6
              clear c6
              have H' := Aside0.mk H
              clear H
              go_wp2
              go_loopg [8] k2 (fun kq v8 w' => ∃ (x8_3 : Int), v8 = .int .i64 x8_3 ∧ Aside0 (banksmanref13_Few.l1 kq l1 x8_3 = some r) ∧ Aside0 (kq ≤ k2) ∧ Aside0 (Below w.heap.size w w'))
              case atStart => exact ⟨(0), (by first | rfl | (simp; done) | (simp [*]; done)), H', ⟨Nat.le_refl _⟩, ⟨by repeat (first | (with_reducible first | exact HB.out | apply below_alloc | apply pw_below_drewN | apply below_drew1) | exact HB.out)⟩⟩
              case round =>
                clear H'
                try clear c1
                try clear p1
                try clear q1
                try clear hx1
                try clear p2
                try clear c4
                try clear c4b0
                try clear c4b1
                try clear c5
                try clear c6
                try clear c6b0
                try clear p6
                try clear c7
                try clear c7b0
                try clear c10
                try clear c11
                try clear c12
                try clear c12b0
                try clear c12b1
                try clear c14
                try clear p14
                try clear q14
                try clear hx14
                try clear c15
                try clear c16
                try clear hx143_0
                try clear hx143_1
                try clear hx143_2
                try clear hx143_3
                try clear hx143_4
                try clear hx143_5
                try clear hx145_0
                try clear hx145_1
                try clear hx145_2
                try clear hx145_3
                try clear hx145_4
                try clear hx145_5
                try clear hx147_0
                try clear hx147_1
                try clear hx147_2
                try clear hx147_3
                try clear hx147_4
                try clear hx147_5
                try clear p143
                try clear p145
                try clear p147
                try clear p2
                try clear q143
                try clear q145
                try clear q147
                obtain ⟨x8_3, rfl, HA, HK3, HB⟩ := hrel
                cases gk with
                | zero => exact absurd HA.out (by simp [banksmanref13_Few.l1])
                | succ k3 =>
                  have H := HA.out
                  clear HA
                  simp only [banksmanref13_Few.l1] at H
                  by_cases c17 : x8_3 < (l1.length : Int)
                  · rw [if_pos c17] at H
                    have c17b0 : decide (x8_3 < (l1.length : Int)) = true := decide_eq_true c17
                    clear c17
                    by_cases c18 : 0 ≤ x8_3
                    · rw [if_pos c18] at H
                      have c18b0 : decide (0 ≤ x8_3) = true := decide_eq_true c18
                      clear c18
                      replace H := Option.bind_eq_some_iff.mp H
                      obtain ⟨t149, A190, H⟩ := H
                      replace H : (if t149 = true then (if (((rd_T29 l1 x8_3).f1).length : Int) > 30 then (some false) else (banksmanref13_Few.l1 k3 l1 (wrap64 (x8_3 + 1)))) else (some false)) = some r := H
                      have A19 := Aside0.mk A190
                      clear A190
                      by_cases c20 : t149 = true
                      · subst c20
                        have H1 : (if (((rd_T29 l1 x8_3).f1).length : Int) > 30 then (some false) else (banksmanref13_Few.l1 k3 l1 (wrap64 (x8_3 + 1)))) = some r := by rw [if_pos rfl] at H; exact H
                        clear H
                        have H := H1
                        clear H1
                        by_cases c21 : (((rd_T29 l1 x8_3).f1).length : Int) > 30
                        · rw [if_pos c21] at H
                          have c21b0 : decide (30 < (((rd_T29 l1 x8_3).f1).length : Int)) = true := decide_eq_true c21
                          have c21b1 : decide (30 < ((rd_T29 l1 x8_3).f1).length) = true := decide_eq_true (by omega)
                          clear c21
                          obtain rfl := Option.some.inj H
                          have p148 : 0 ≤ (x8_3 : Int) := of_decide_eq_true (by first | (with_reducible assumption) | assumption)
                          have q148 : x8_3 < (l1.length : Int) := of_decide_eq_true (by first | (with_reducible assumption) | assumption)
                          obtain ⟨ad148, A148_1, c148_1, e148, hx148_0, hx148_1, hl148_1, hi148_1⟩ := at_T29 HR1.out x8_3 p148 q148
                          cases e148
                          replace hx148_0 := (HB.out.cell (World.block_lt_of_cell? w _ hx148_0)).trans hx148_0
                          replace hx148_1 := (HB.out.cell (World.block_lt_of_cell? w _ hx148_1)).trans hx148_1
                          have HR148_1 := Aside0.mk hi148_1
                          have HC148_1 := Aside0.mk hl148_1
                          clear hi148_1 hl148_1
                          replace p148 := eq_true p148
                          replace q148 := eq_true q148
                          go_wp2_with (first | ((with_reducible refine gate_callee (f := 15) rfl ?_); refine goesL_ (some 63) rfl rfl Try.func15 (by kernel_rfl) rfl #[.slice A148_1 ((rd_T29 l1 x8_3).f1).length c148_1] rfl (by (try simp only [List.map_toArray, List.map_cons, List.map_nil]); first | done | rfl | (simp only [List.length_drop, List.length_take]; rfl)) ?_; (with_reducible refine (banksmanref10_Few.calls k3 _ _ ((rd_T29 l1 x8_3).f1) true _ ?side1 ?side2 A19.out).mono ?_); (case side1 => repeat (first | exact (Kd.C_below HR148_1.out HB.out) | (with_reducible refine Kd.C_alloc ?_ _) | (with_reducible refine Kd.C_drewN ?_ _) | (with_reducible refine Kd.C_drew ?_))); (case side2 => exact HC148_1.out); rintro e w' ⟨rfl, ⟨nd, rfl⟩⟩; refine ⟨_, rfl, ?_⟩; have p150 : 0 ≤ (x8_3 : Int) := of_decide_eq_true (by first | (with_reducible assumption) | assumption); have q150 : x8_3 < (l1.length : Int) := of_decide_eq_true (by first | (with_reducible assumption) | assumption); obtain ⟨ad150, A150_1, c150_1, e150, hx150_0, hx150_1, hl150_1, hi150_1⟩ := at_T29 HR1.out x8_3 p150 q150; obtain rfl : ad148 = ad150 := (by injection e150); replace hx150_0 := (HB.out.cell (World.block_lt_of_cell? w _ hx150_0)).trans hx150_0; replace hx150_1 := (HB.out.cell (World.block_lt_of_cell? w _ hx150_1)).trans hx150_1; have HR150_1 := Aside0.mk hi150_1; have HC150_1 := Aside0.mk hl150_1; clear hi150_1 hl150_1; replace p150 := eq_true p150; replace q150 := eq_true q150; have ea_ := Option.some.inj (hx148_1.symm.trans hx150_1); injection ea_ with ea_ en_ ec_; subst ea_; subst ec_; clear en_))
                          go_ret
                          exact ⟨by first | rfl | (simp [errW_none, errW_some] <;> rfl) | (simp [*, errW_none, errW_some] <;> rfl), by repeat (first | (with_reducible first | exact HB.out | apply below_alloc | apply pw_below_drewN | apply below_drew1) | exact HB.out)⟩
                        · rw [if_neg c21] at H
                          have c21b0 : decide (30 < (((rd_T29 l1 x8_3).f1).length : Int)) = false := decide_eq_false c21
                          have c21b1 : decide (30 < ((rd_T29 l1 x8_3).f1).length) = false := decide_eq_false (by omega)
                          clear c21
                          have H' := Aside0.mk H
                          clear H
                          have p148 : 0 ≤ (x8_3 : Int) := of_decide_eq_true (by first | (with_reducible assumption) | assumption)
                          have q148 : x8_3 < (l1.length : Int) := of_decide_eq_true (by first | (with_reducible assumption) | assumption)
                          obtain ⟨ad148, A148_1, c148_1, e148, hx148_0, hx148_1, hl148_1, hi148_1⟩ := at_T29 HR1.out x8_3 p148 q148
                          cases e148
                          replace hx148_0 := (HB.out.cell (World.block_lt_of_cell? w _ hx148_0)).trans hx148_0
                          replace hx148_1 := (HB.out.cell (World.block_lt_of_cell? w _ hx148_1)).trans hx148_1
                          have HR148_1 := Aside0.mk hi148_1
                          have HC148_1 := Aside0.mk hl148_1
                          clear hi148_1 hl148_1
                          replace p148 := eq_true p148
                          replace q148 := eq_true q148
                          go_wp2_with (first | ((with_reducible refine gate_callee (f := 15) rfl ?_); refine goesL_ (some 63) rfl rfl Try.func15 (by kernel_rfl) rfl #[.slice A148_1 ((rd_T29 l1 x8_3).f1).length c148_1] rfl (by (try simp only [List.map_toArray, List.map_cons, List.map_nil]); first | done | rfl | (simp only [List.length_drop, List.length_take]; rfl)) ?_; (with_reducible refine (banksmanref10_Few.calls k3 _ _ ((rd_T29 l1 x8_3).f1) true _ ?side1 ?side2 A19.out).mono ?_); (case side1 => repeat (first | exact (Kd.C_below HR148_1.out HB.out) | (with_reducible refine Kd.C_alloc ?_ _) | (with_reducible refine Kd.C_drewN ?_ _) | (with_reducible refine Kd.C_drew ?_))); (case side2 => exact HC148_1.out); rintro e w' ⟨rfl, ⟨nd, rfl⟩⟩; refine ⟨_, rfl, ?_⟩; have p150 : 0 ≤ (x8_3 : Int) := of_decide_eq_true (by first | (with_reducible assumption) | assumption); have q150 : x8_3 < (l1.length : Int) := of_decide_eq_true (by first | (with_reducible assumption) | assumption); obtain ⟨ad150, A150_1, c150_1, e150, hx150_0, hx150_1, hl150_1, hi150_1⟩ := at_T29 HR1.out x8_3 p150 q150; obtain rfl : ad148 = ad150 := (by injection e150); replace hx150_0 := (HB.out.cell (World.block_lt_of_cell? w _ hx150_0)).trans hx150_0; replace hx150_1 := (HB.out.cell (World.block_lt_of_cell? w _ hx150_1)).trans hx150_1; have HR150_1 := Aside0.mk hi150_1; have HC150_1 := Aside0.mk hl150_1; clear hi150_1 hl150_1; replace p150 := eq_true p150; replace q150 := eq_true q150; have ea_ := Option.some.inj (hx148_1.symm.trans hx150_1); injection ea_ with ea_ en_ ec_; subst ea_; subst ec_; clear en_))
                          go_roundg k3
                          case measure => have := HJ2.out; have := HK2.out; have := HK3.out; omega
                          case rel => exact ⟨(wrap64 (x8_3 + 1)), (by first | rfl | (simp; done) | (simp [*]; done)), H', ⟨by have := HJ2.out; have := HK2.out; have := HK3.out; omega⟩, ⟨by repeat (first | (with_reducible first | exact HB.out | apply below_alloc | apply pw_below_drewN | apply below_drew1) | exact HB.out)⟩⟩
                      · replace c20 := Bool.eq_false_iff.mpr c20
                        subst c20
                        have H1 : (some false) = some r := by rw [if_neg (show ¬ (false = true) by decide)] at H; exact H
                        clear H
                        have H := H1
                        clear H1
                        obtain rfl := Option.some.inj H
                        have p148 : 0 ≤ (x8_3 : Int) := of_decide_eq_true (by first | (with_reducible assumption) | assumption)
                        have q148 : x8_3 < (l1.length : Int) := of_decide_eq_true (by first | (with_reducible assumption) | assumption)
                        obtain ⟨ad148, A148_1, c148_1, e148, hx148_0, hx148_1, hl148_1, hi148_1⟩ := at_T29 HR1.out x8_3 p148 q148
                        cases e148
                        replace hx148_0 := (HB.out.cell (World.block_lt_of_cell? w _ hx148_0)).trans hx148_0
                        replace hx148_1 := (HB.out.cell (World.block_lt_of_cell? w _ hx148_1)).trans hx148_1
                        have HR148_1 := Aside0.mk hi148_1
                        have HC148_1 := Aside0.mk hl148_1
                        clear hi148_1 hl148_1
                        replace p148 := eq_true p148
                        replace q148 := eq_true q148
                        go_wp2_with (first | ((with_reducible refine gate_callee (f := 15) rfl ?_); refine goesL_ (some 63) rfl rfl Try.func15 (by kernel_rfl) rfl #[.slice A148_1 ((rd_T29 l1 x8_3).f1).length c148_1] rfl (by (try simp only [List.map_toArray, List.map_cons, List.map_nil]); first | done | rfl | (simp only [List.length_drop, List.length_take]; rfl)) ?_; (with_reducible refine (banksmanref10_Few.calls k3 _ _ ((rd_T29 l1 x8_3).f1) false _ ?side1 ?side2 A19.out).mono ?_); (case side1 => repeat (first | exact (Kd.C_below HR148_1.out HB.out) | (with_reducible refine Kd.C_alloc ?_ _) | (with_reducible refine Kd.C_drewN ?_ _) | (with_reducible refine Kd.C_drew ?_))); (case side2 => exact HC148_1.out); rintro e w' ⟨rfl, ⟨nd, rfl⟩⟩; refine ⟨_, rfl, ?_⟩))
                        go_ret
                        exact ⟨by first | rfl | (simp [errW_none, errW_some] <;> rfl) | (simp [*, errW_none, errW_some] <;> rfl), by repeat (first | (with_reducible first | exact HB.out | apply below_alloc | apply pw_below_drewN | apply below_drew1) | exact HB.out)⟩
                    · rw [if_neg c18] at H
                      exact absurd H (by simp)
                  · rw [if_neg c17] at H
                    have c17b0 : decide (x8_3 < (l1.length : Int)) = false := decide_eq_false c17
                    clear c17
                    obtain rfl := Option.some.inj H
                    go_wp2
                    go_ret
                    exact ⟨by first | rfl | (simp [errW_none, errW_some] <;> rfl) | (simp [*, errW_none, errW_some] <;> rfl), by repeat (first | (with_reducible first | exact HB.out | apply below_alloc | apply pw_below_drewN | apply below_drew1) | exact HB.out)⟩

end Go.Proofs.Ytpknchaajgkbnaa.P
