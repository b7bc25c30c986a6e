-- Written by wip/gprint.py, a program of this session over the kit's print; Lean checks it.
import Derived.Test.YtdkfahobgnmglaaPx0
import Derived.Test.YtdkfahobgnmglaaPx6
import Derived.Test.YtdkfahobgnmglaaPx10
import Derived.Test.YtdkfahobgnmglaaPx13
import Derived.Test.YtdkfahobgnmglaaPx14
import Derived.Test.YtdkfahobgnmglaaPx15
import Derived.Test.YtdkfahobgnmglaaPx16
namespace Go.Proofs.Ytdkfahobgnmglaa.P
open Go.RowKit Go.Proofs.YtdkfahobgnmglaaW.PrintWords Go.Proofs.YtdkfahobgnmglaaW.PrintLast Go.Proofs.YtdkfahobgnmglaaW.PrintMore
attribute [local go_sem] max2_int min2_int max_two min_two max_three min_three max_four min_four   -- for this text's walks alone
set_option linter.unusedVariables false
set_option linter.unusedSimpArgs false

/-! ### banksmanlaw05_ChainGone: function 9 -/
def banksmanlaw05_ChainGone.j0 : Nat → List (S25) → Int → Int → Bool → Bool → Option (Bool)
  | 0, _, _, _, _, _ => none
  | k + 1, x0, x1, x2, x7, x23 => if x23 = true then (some x7) else ((chain_Install.f k x0 x1 true ([] : List Int)).bind fun bt428 => (if bt428.2 = 0 then ((chain_Read.f k x0 x2).bind fun bt432 => ((chain_Read.f k bt428.1 x2).bind fun bt436 => (if x2 ≥ x1 then (if bt436.2 = true then (if x2 < x1 then (if (bt436.2 == bt432.2) = true then (if x7 = true then (if (strOfNums bt432.1).toList = (strOfNums bt436.1).toList then (if (bt428.1.length : Int) = (wrap64 ((x0.length : Int) + 1)) then ((chain_Vacuum.f k bt428.1 x1).bind fun t440 => (if (t440.length : Int) = 0 then ((chain_Newer.f k bt428.1 (wrap64 (x1 - 1))).bind fun t443 => (if t443 = true then ((chain_Newer.f k bt428.1 x1).bind fun t444 => (some (!t444))) else (some false))) else (some false))) else (some false)) else (some false)) else (some false)) else (if x7 = true then (some false) else (some false))) else (if x7 = true then (some false) else (some false))) else (if (bt436.1.length : Int) = 0 then (if x7 = true then (if (bt428.1.length : Int) = (wrap64 ((x0.length : Int) + 1)) then ((chain_Vacuum.f k bt428.1 x1).bind fun t445 => (if (t445.length : Int) = 0 then ((chain_Newer.f k bt428.1 (wrap64 (x1 - 1))).bind fun t448 => (if t448 = true then ((chain_Newer.f k bt428.1 x1).bind fun t449 => (some (!t449))) else (some false))) else (some false))) else (some false)) else (some false)) else (if x2 < x1 then (if (bt436.2 == bt432.2) = true then (if x7 = true then (if (strOfNums bt432.1).toList = (strOfNums bt436.1).toList then (if (bt428.1.length : Int) = (wrap64 ((x0.length : Int) + 1)) then ((chain_Vacuum.f k bt428.1 x1).bind fun t450 => (if (t450.length : Int) = 0 then ((chain_Newer.f k bt428.1 (wrap64 (x1 - 1))).bind fun t453 => (if t453 = true then ((chain_Newer.f k bt428.1 x1).bind fun t454 => (some (!t454))) else (some false))) else (some false))) else (some false)) else (some false)) else (some false)) else (if x7 = true then (some false) else (some false))) else (if x7 = true then (some false) else (some false))))) else (if x2 < x1 then (if (bt436.2 == bt432.2) = true then (if x7 = true then (if (strOfNums bt432.1).toList = (strOfNums bt436.1).toList then (if (bt428.1.length : Int) = (wrap64 ((x0.length : Int) + 1)) then ((chain_Vacuum.f k bt428.1 x1).bind fun t455 => (if (t455.length : Int) = 0 then ((chain_Newer.f k bt428.1 (wrap64 (x1 - 1))).bind fun t458 => (if t458 = true then ((chain_Newer.f k bt428.1 x1).bind fun t459 => (some (!t459))) else (some false))) else (some false))) else (some false)) else (some false)) else (some false)) else (if x7 = true then (some false) else (some false))) else (if x7 = true then (some false) else (some false)))))) else (if x7 = true then (some ((bt428.1.length : Int) == (x0.length : Int))) else (some false))))
def banksmanlaw05_ChainGone.f (k : Nat) (l0 : List (S25)) (a1 : Int) (a2 : Int) : Option (Bool) := (banksmanlaw05_awake.f k).bind fun t426 => (if (l0.length : Int) > 100 then (banksmanlaw05_ChainGone.j0 k l0 a1 a2 t426 true) else ((chain_Check.f k l0).bind fun t427 => (banksmanlaw05_ChainGone.j0 k l0 a1 a2 t426 (!t427))))
theorem banksmanlaw05_ChainGone.mono_l : ∀ k, (∀ y0 y1 y2 y3 y4, LeO (banksmanlaw05_ChainGone.j0 k y0 y1 y2 y3 y4) (banksmanlaw05_ChainGone.j0 (k + 1) y0 y1 y2 y3 y4))
  | 0 => fun _ _ _ _ _ r h => by simp [banksmanlaw05_ChainGone.j0] at h
  | k + 1 => by
    have ih0 := banksmanlaw05_ChainGone.mono_l k
    · intro y0 y1 y2 y3 y4
      unfold banksmanlaw05_ChainGone.j0
      repeat' first
      | (with_reducible exact ih0 _ _ _ _ _)
      | (with_reducible exact banksmanlaw05_awake.mono _)
      | (with_reducible exact chain_Check.mono _ _)
      | (with_reducible exact chain_Install.mono _ _ _ _ _)
      | (with_reducible exact chain_Newer.mono _ _ _)
      | (with_reducible exact chain_Read.mono _ _ _)
      | (with_reducible exact chain_Vacuum.mono _ _ _)
      | (with_reducible exact LeO.refl _)
      | (with_reducible exact LeO.none _)
      | (with_reducible refine LeO.ite ?_ ?_)
      | (with_reducible refine LeO.bind ?_ (fun _ => ?_))
      | exact ih0 _ _ _ _ _
      | exact banksmanlaw05_awake.mono _
      | exact chain_Check.mono _ _
      | exact chain_Install.mono _ _ _ _ _
      | exact chain_Newer.mono _ _ _
      | exact chain_Read.mono _ _ _
      | exact chain_Vacuum.mono _ _ _
      | exact LeO.none _
      | refine LeO.ite ?_ ?_
      | refine LeO.bind ?_ (fun _ => ?_)
theorem banksmanlaw05_ChainGone.mono : ∀ a0 a1 a2 k, LeO (banksmanlaw05_ChainGone.f k a0 a1 a2) (banksmanlaw05_ChainGone.f (k + 1) a0 a1 a2) := by
  intro a0 a1 a2 k
  have ih0 := banksmanlaw05_ChainGone.mono_l k
  unfold banksmanlaw05_ChainGone.f
  repeat' first
      | (with_reducible exact ih0 _ _ _ _ _)
      | (with_reducible exact banksmanlaw05_awake.mono _)
      | (with_reducible exact chain_Check.mono _ _)
      | (with_reducible exact chain_Install.mono _ _ _ _ _)
      | (with_reducible exact chain_Newer.mono _ _ _)
      | (with_reducible exact chain_Read.mono _ _ _)
      | (with_reducible exact chain_Vacuum.mono _ _ _)
      | (with_reducible exact LeO.refl _)
      | (with_reducible exact LeO.none _)
      | (with_reducible refine LeO.ite ?_ ?_)
      | (with_reducible refine LeO.bind ?_ (fun _ => ?_))
      | exact ih0 _ _ _ _ _
      | exact banksmanlaw05_awake.mono _
      | exact chain_Check.mono _ _
      | exact chain_Install.mono _ _ _ _ _
      | exact chain_Newer.mono _ _ _
      | exact chain_Read.mono _ _ _
      | exact chain_Vacuum.mono _ _ _
      | exact LeO.none _
      | refine LeO.ite ?_ ?_
      | refine LeO.bind ?_ (fun _ => ?_)
set_option maxHeartbeats 8000000 in
set_option maxRecDepth 100000 in
theorem banksmanlaw05_ChainGone.calls (k : Nat) (A0 : Option Addr) (c0 : Nat) (l0 : List (S25)) (a1 : Int) (a2 : Int) (r : Bool) (w : World) (hr0 : Kd.C k25 w A0 l0.length l0) (hc0 : l0.length ≤ c0) (h : banksmanlaw05_ChainGone.f k l0 a1 a2 = some r) (HTr_ : r = true) :
    Calls Try.prog 9 #[.slice A0 l0.length c0, .int .i64 a1, .int .i64 a2] w fun e w' => e = .returned (.bool r) ∧ Below w.heap.size w w' := by
  have hu25 := Try.underlying25
  have HR0 := Aside0.mk hr0
  have HC0 := Aside0.mk hc0
  clear hr0 hc0
  have HB := Aside0.mk (Below.refl w.heap.size w)
  have H : ((banksmanlaw05_awake.f k).bind fun t426 => (if (l0.length : Int) > 100 then (banksmanlaw05_ChainGone.j0 k l0 a1 a2 t426 true) else ((chain_Check.f k l0).bind fun t427 => (banksmanlaw05_ChainGone.j0 k l0 a1 a2 t426 (!t427))))) = some r := h
  clear h
  replace H := Option.bind_eq_some_iff.mp H
  obtain ⟨t426, A40, H⟩ := H
  replace H : (if (l0.length : Int) > 100 then (banksmanlaw05_ChainGone.j0 k l0 a1 a2 t426 true) else ((chain_Check.f k l0).bind fun t427 => (banksmanlaw05_ChainGone.j0 k l0 a1 a2 t426 (!t427)))) = some r := H
  have A4 := Aside0.mk A40
  clear A40
  have HC5 := Aside0.mk H
  clear H
  go_enter Try.func9, Try.ntmps9
  go_upto_region 2 with (first | ((with_reducible refine gate_callee (f := 10) rfl ?_); refine goesL_ (some 15) rfl rfl Try.func10 (by kernel_rfl) rfl #[] rfl (by (try simp only [List.map_toArray, List.map_cons, List.map_nil]); first | done | rfl | (simp only [List.length_drop, List.length_take]; rfl)) ?_; (with_reducible refine (banksmanlaw05_awake.calls k  t426 _ A4.out).mono ?_); rintro e w6 ⟨rfl, hb⟩; refine ⟨_, rfl, ?_⟩; have n0_ := Aside0.mk (below_step (by repeat (first | (with_reducible first | exact HB.out | apply below_alloc | apply pw_below_drewN | apply below_drew1) | exact HB.out)) hb); clear HB; have HB := n0_; clear n0_; (try clear hb); (try clear hb2); (try clear hk); (try clear hi)))
  (try simp only [Act.put, List.setIfInBounds_toArray, List.set_cons_zero, List.set_cons_succ])
  go_cut [23] (fun v23 wc => ∃ (kq : Nat) (x23_4 : Bool), v23 = .bool x23_4 ∧ Aside0 (banksmanlaw05_ChainGone.j0 kq l0 a1 a2 t426 x23_4 = some r) ∧ Aside0 (kq ≤ k) ∧ Aside0 (Below w.heap.size w wc))
  case first =>
    have H := HC5.out
    clear HC5
    by_cases c7 : (l0.length : Int) > 100
    · rw [if_pos c7] at H
      have c7b0 : decide (100 < (l0.length : Int)) = true := decide_eq_true c7
      have c7b1 : decide (100 < l0.length) = true := decide_eq_true (by omega)
      clear c7
      (first | rw [c7b0] | (simp only [i64_w, i32_w]; rw [c7b0]) | skip)
      have H' := Aside0.mk H
      clear H
      go_wp2
      go_meet
      case rel => exact ⟨_, (true), (by first | rfl | (simp; done) | (simp [*]; done)), H', ⟨by first | omega | exact Nat.le_refl _⟩, ⟨by repeat (first | (with_reducible first | exact HB.out | apply below_alloc | apply pw_below_drewN | apply below_drew1) | exact HB.out)⟩⟩
    · rw [if_neg c7] at H
      have c7b0 : decide (100 < (l0.length : Int)) = false := decide_eq_false c7
      have c7b1 : decide (100 < l0.length) = false := decide_eq_false (by omega)
      clear c7
      (first | rw [c7b0] | (simp only [i64_w, i32_w]; rw [c7b0]) | skip)
      replace H := Option.bind_eq_some_iff.mp H
      obtain ⟨t427, A80, H⟩ := H
      replace H : (banksmanlaw05_ChainGone.j0 k l0 a1 a2 t426 (!t427)) = some r := H
      have A8 := Aside0.mk A80
      clear A80
      have H' := Aside0.mk H
      clear H
      go_wp2_with (first | (go_at_call 19; (with_reducible refine (chain_Check.calls k _ _ l0 t427 _ ?side1 ?side2 A8.out).mono ?_); (case side1 => repeat (first | exact (Kd.C_below HR0.out HB.out) | (with_reducible refine Kd.C_alloc ?_ _) | (with_reducible refine Kd.C_drewN ?_ _) | (with_reducible refine Kd.C_drew ?_))); (case side2 => exact HC0.out); rintro e w9 ⟨rfl, hb⟩; have n0_ := Aside0.mk (below_step (by repeat (first | (with_reducible first | exact HB.out | apply below_alloc | apply pw_below_drewN | apply below_drew1) | exact HB.out)) hb); clear HB; have HB := n0_; clear n0_; (try clear hb); (try clear hb2); (try clear hk); (try clear hi)))
      go_meet
      case rel => exact ⟨_, (!t427), (by first | rfl | (simp; done) | (simp [*]; done)), H', ⟨by first | omega | exact Nat.le_refl _⟩, ⟨by repeat (first | (with_reducible first | exact HB.out | apply below_alloc | apply pw_below_drewN | apply below_drew1) | exact HB.out)⟩⟩
  case rest =>
    clear HC5
    try clear c1
    try clear p2
    try clear c7
    try clear c7b0
    try clear c7b1
    try clear c9
    obtain ⟨kq, x23_4, rfl, HA, HJ4, HB⟩ := hcut
    cases kq with
    | zero => exact absurd HA.out (by simp [banksmanlaw05_ChainGone.j0])
    | succ kj4 =>
      have H := HA.out
      clear HA
      simp only [banksmanlaw05_ChainGone.j0] at H
      by_cases c10 : x23_4 = true
      · subst c10
        have H1 : (some t426) = some r := by rw [if_pos rfl] at H; exact H
        clear H
        have H := H1
        clear H1
        obtain rfl := Option.some.inj H
        go_wp2
        go_ret
        exact ⟨by first | rfl | (simp [errW_none, errW_some] <;> rfl) | (simp [*, errW_none, errW_some] <;> rfl), by repeat (first | (with_reducible first | exact HB.out | apply below_alloc | apply pw_below_drewN | apply below_drew1) | exact HB.out)⟩
      · replace c10 := Bool.eq_false_iff.mpr c10
        subst c10
        have H1 : ((chain_Install.f kj4 l0 a1 true ([] : List Int)).bind fun bt428 => (if bt428.2 = 0 then ((chain_Read.f kj4 l0 a2).bind fun bt432 => ((chain_Read.f kj4 bt428.1 a2).bind fun bt436 => (if a2 ≥ a1 then (if bt436.2 = true then (if a2 < a1 then (if (bt436.2 == bt432.2) = true then (if t426 = true then (if (strOfNums bt432.1).toList = (strOfNums bt436.1).toList then (if (bt428.1.length : Int) = (wrap64 ((l0.length : Int) + 1)) then ((chain_Vacuum.f kj4 bt428.1 a1).bind fun t440 => (if (t440.length : Int) = 0 then ((chain_Newer.f kj4 bt428.1 (wrap64 (a1 - 1))).bind fun t443 => (if t443 = true then ((chain_Newer.f kj4 bt428.1 a1).bind fun t444 => (some (!t444))) else (some false))) else (some false))) else (some false)) else (some false)) else (some false)) else (if t426 = true then (some false) else (some false))) else (if t426 = true then (some false) else (some false))) else (if (bt436.1.length : Int) = 0 then (if t426 = true then (if (bt428.1.length : Int) = (wrap64 ((l0.length : Int) + 1)) then ((chain_Vacuum.f kj4 bt428.1 a1).bind fun t445 => (if (t445.length : Int) = 0 then ((chain_Newer.f kj4 bt428.1 (wrap64 (a1 - 1))).bind fun t448 => (if t448 = true then ((chain_Newer.f kj4 bt428.1 a1).bind fun t449 => (some (!t449))) else (some false))) else (some false))) else (some false)) else (some false)) else (if a2 < a1 then (if (bt436.2 == bt432.2) = true then (if t426 = true then (if (strOfNums bt432.1).toList = (strOfNums bt436.1).toList then (if (bt428.1.length : Int) = (wrap64 ((l0.length : Int) + 1)) then ((chain_Vacuum.f kj4 bt428.1 a1).bind fun t450 => (if (t450.length : Int) = 0 then ((chain_Newer.f kj4 bt428.1 (wrap64 (a1 - 1))).bind fun t453 => (if t453 = true then ((chain_Newer.f kj4 bt428.1 a1).bind fun t454 => (some (!t454))) else (some false))) else (some false))) else (some false)) else (some false)) else (some false)) else (if t426 = true then (some false) else (some false))) else (if t426 = true then (some false) else (some false))))) else (if a2 < a1 then (if (bt436.2 == bt432.2) = true then (if t426 = true then (if (strOfNums bt432.1).toList = (strOfNums bt436.1).toList then (if (bt428.1.length : Int) = (wrap64 ((l0.length : Int) + 1)) then ((chain_Vacuum.f kj4 bt428.1 a1).bind fun t455 => (if (t455.length : Int) = 0 then ((chain_Newer.f kj4 bt428.1 (wrap64 (a1 - 1))).bind fun t458 => (if t458 = true then ((chain_Newer.f kj4 bt428.1 a1).bind fun t459 => (some (!t459))) else (some false))) else (some false))) else (some false)) else (some false)) else (some false)) else (if t426 = true then (some false) else (some false))) else (if t426 = true then (some false) else (some false)))))) else (if t426 = true then (some ((bt428.1.length : Int) == (l0.length : Int))) else (some false)))) = some r := by rw [if_neg (show ¬ (false = true) by decide)] at H; exact H
        clear H
        have H := H1
        clear H1
        replace H := Option.bind_eq_some_iff.mp H
        obtain ⟨⟨t428, t431⟩, A110, H⟩ := H
        replace H : (if t431 = 0 then ((chain_Read.f kj4 l0 a2).bind fun bt432 => ((chain_Read.f kj4 t428 a2).bind fun bt436 => (if a2 ≥ a1 then (if bt436.2 = true then (if a2 < a1 then (if (bt436.2 == bt432.2) = true then (if t426 = true then (if (strOfNums bt432.1).toList = (strOfNums bt436.1).toList then (if (t428.length : Int) = (wrap64 ((l0.length : Int) + 1)) then ((chain_Vacuum.f kj4 t428 a1).bind fun t440 => (if (t440.length : Int) = 0 then ((chain_Newer.f kj4 t428 (wrap64 (a1 - 1))).bind fun t443 => (if t443 = true then ((chain_Newer.f kj4 t428 a1).bind fun t444 => (some (!t444))) else (some false))) else (some false))) else (some false)) else (some false)) else (some false)) else (if t426 = true then (some false) else (some false))) else (if t426 = true then (some false) else (some false))) else (if (bt436.1.length : Int) = 0 then (if t426 = true then (if (t428.length : Int) = (wrap64 ((l0.length : Int) + 1)) then ((chain_Vacuum.f kj4 t428 a1).bind fun t445 => (if (t445.length : Int) = 0 then ((chain_Newer.f kj4 t428 (wrap64 (a1 - 1))).bind fun t448 => (if t448 = true then ((chain_Newer.f kj4 t428 a1).bind fun t449 => (some (!t449))) else (some false))) else (some false))) else (some false)) else (some false)) else (if a2 < a1 then (if (bt436.2 == bt432.2) = true then (if t426 = true then (if (strOfNums bt432.1).toList = (strOfNums bt436.1).toList then (if (t428.length : Int) = (wrap64 ((l0.length : Int) + 1)) then ((chain_Vacuum.f kj4 t428 a1).bind fun t450 => (if (t450.length : Int) = 0 then ((chain_Newer.f kj4 t428 (wrap64 (a1 - 1))).bind fun t453 => (if t453 = true then ((chain_Newer.f kj4 t428 a1).bind fun t454 => (some (!t454))) else (some false))) else (some false))) else (some false)) else (some false)) else (some false)) else (if t426 = true then (some false) else (some false))) else (if t426 = true then (some false) else (some false))))) else (if a2 < a1 then (if (bt436.2 == bt432.2) = true then (if t426 = true then (if (strOfNums bt432.1).toList = (strOfNums bt436.1).toList then (if (t428.length : Int) = (wrap64 ((l0.length : Int) + 1)) then ((chain_Vacuum.f kj4 t428 a1).bind fun t455 => (if (t455.length : Int) = 0 then ((chain_Newer.f kj4 t428 (wrap64 (a1 - 1))).bind fun t458 => (if t458 = true then ((chain_Newer.f kj4 t428 a1).bind fun t459 => (some (!t459))) else (some false))) else (some false))) else (some false)) else (some false)) else (some false)) else (if t426 = true then (some false) else (some false))) else (if t426 = true then (some false) else (some false)))))) else (if t426 = true then (some ((t428.length : Int) == (l0.length : Int))) else (some false))) = some r := H
        have A11 := Aside0.mk A110
        clear A110
        by_cases c12 : t431 = 0
        · rw [if_pos c12] at H
          have c12b0 : (t431 == 0) = true := beq_iff_eq.mpr c12
          have c12b1 : (t431 != 0) = false := bne_eq_false_iff_eq.mpr c12
          clear c12
          replace H := Option.bind_eq_some_iff.mp H
          obtain ⟨⟨t432, t433⟩, A130, H⟩ := H
          replace H : ((chain_Read.f kj4 t428 a2).bind fun bt436 => (if a2 ≥ a1 then (if bt436.2 = true then (if a2 < a1 then (if (bt436.2 == t433) = true then (if t426 = true then (if (strOfNums t432).toList = (strOfNums bt436.1).toList then (if (t428.length : Int) = (wrap64 ((l0.length : Int) + 1)) then ((chain_Vacuum.f kj4 t428 a1).bind fun t440 => (if (t440.length : Int) = 0 then ((chain_Newer.f kj4 t428 (wrap64 (a1 - 1))).bind fun t443 => (if t443 = true then ((chain_Newer.f kj4 t428 a1).bind fun t444 => (some (!t444))) else (some false))) else (some false))) else (some false)) else (some false)) else (some false)) else (if t426 = true then (some false) else (some false))) else (if t426 = true then (some false) else (some false))) else (if (bt436.1.length : Int) = 0 then (if t426 = true then (if (t428.length : Int) = (wrap64 ((l0.length : Int) + 1)) then ((chain_Vacuum.f kj4 t428 a1).bind fun t445 => (if (t445.length : Int) = 0 then ((chain_Newer.f kj4 t428 (wrap64 (a1 - 1))).bind fun t448 => (if t448 = true then ((chain_Newer.f kj4 t428 a1).bind fun t449 => (some (!t449))) else (some false))) else (some false))) else (some false)) else (some false)) else (if a2 < a1 then (if (bt436.2 == t433) = true then (if t426 = true then (if (strOfNums t432).toList = (strOfNums bt436.1).toList then (if (t428.length : Int) = (wrap64 ((l0.length : Int) + 1)) then ((chain_Vacuum.f kj4 t428 a1).bind fun t450 => (if (t450.length : Int) = 0 then ((chain_Newer.f kj4 t428 (wrap64 (a1 - 1))).bind fun t453 => (if t453 = true then ((chain_Newer.f kj4 t428 a1).bind fun t454 => (some (!t454))) else (some false))) else (some false))) else (some false)) else (some false)) else (some false)) else (if t426 = true then (some false) else (some false))) else (if t426 = true then (some false) else (some false))))) else (if a2 < a1 then (if (bt436.2 == t433) = true then (if t426 = true then (if (strOfNums t432).toList = (strOfNums bt436.1).toList then (if (t428.length : Int) = (wrap64 ((l0.length : Int) + 1)) then ((chain_Vacuum.f kj4 t428 a1).bind fun t455 => (if (t455.length : Int) = 0 then ((chain_Newer.f kj4 t428 (wrap64 (a1 - 1))).bind fun t458 => (if t458 = true then ((chain_Newer.f kj4 t428 a1).bind fun t459 => (some (!t459))) else (some false))) else (some false))) else (some false)) else (some false)) else (some false)) else (if t426 = true then (some false) else (some false))) else (if t426 = true then (some false) else (some false))))) = some r := H
          have A13 := Aside0.mk A130
          clear A130
          replace H := Option.bind_eq_some_iff.mp H
          obtain ⟨⟨t436, t437⟩, A140, H⟩ := H
          replace H : (if a2 ≥ a1 then (if t437 = true then (if a2 < a1 then (if (t437 == t433) = true then (if t426 = true then (if (strOfNums t432).toList = (strOfNums t436).toList then (if (t428.length : Int) = (wrap64 ((l0.length : Int) + 1)) then ((chain_Vacuum.f kj4 t428 a1).bind fun t440 => (if (t440.length : Int) = 0 then ((chain_Newer.f kj4 t428 (wrap64 (a1 - 1))).bind fun t443 => (if t443 = true then ((chain_Newer.f kj4 t428 a1).bind fun t444 => (some (!t444))) else (some false))) else (some false))) else (some false)) else (some false)) else (some false)) else (if t426 = true then (some false) else (some false))) else (if t426 = true then (some false) else (some false))) else (if (t436.length : Int) = 0 then (if t426 = true then (if (t428.length : Int) = (wrap64 ((l0.length : Int) + 1)) then ((chain_Vacuum.f kj4 t428 a1).bind fun t445 => (if (t445.length : Int) = 0 then ((chain_Newer.f kj4 t428 (wrap64 (a1 - 1))).bind fun t448 => (if t448 = true then ((chain_Newer.f kj4 t428 a1).bind fun t449 => (some (!t449))) else (some false))) else (some false))) else (some false)) else (some false)) else (if a2 < a1 then (if (t437 == t433) = true then (if t426 = true then (if (strOfNums t432).toList = (strOfNums t436).toList then (if (t428.length : Int) = (wrap64 ((l0.length : Int) + 1)) then ((chain_Vacuum.f kj4 t428 a1).bind fun t450 => (if (t450.length : Int) = 0 then ((chain_Newer.f kj4 t428 (wrap64 (a1 - 1))).bind fun t453 => (if t453 = true then ((chain_Newer.f kj4 t428 a1).bind fun t454 => (some (!t454))) else (some false))) else (some false))) else (some false)) else (some false)) else (some false)) else (if t426 = true then (some false) else (some false))) else (if t426 = true then (some false) else (some false))))) else (if a2 < a1 then (if (t437 == t433) = true then (if t426 = true then (if (strOfNums t432).toList = (strOfNums t436).toList then (if (t428.length : Int) = (wrap64 ((l0.length : Int) + 1)) then ((chain_Vacuum.f kj4 t428 a1).bind fun t455 => (if (t455.length : Int) = 0 then ((chain_Newer.f kj4 t428 (wrap64 (a1 - 1))).bind fun t458 => (if t458 = true then ((chain_Newer.f kj4 t428 a1).bind fun t459 => (some (!t459))) else (some false))) else (some false))) else (some false)) else (some false)) else (some false)) else (if t426 = true then (some false) else (some false))) else (if t426 = true then (some false) else (some false)))) = some r := H
          have A14 := Aside0.mk A140
          clear A140
          by_cases c15 : a2 ≥ a1
          · rw [if_pos c15] at H
            have c15b0 : decide (a1 ≤ a2) = true := decide_eq_true c15
            clear c15
            by_cases c16 : t437 = true
            · subst c16
              have H1 : (if a2 < a1 then (if (true == t433) = true then (if t426 = true then (if (strOfNums t432).toList = (strOfNums t436).toList then (if (t428.length : Int) = (wrap64 ((l0.length : Int) + 1)) then ((chain_Vacuum.f kj4 t428 a1).bind fun t440 => (if (t440.length : Int) = 0 then ((chain_Newer.f kj4 t428 (wrap64 (a1 - 1))).bind fun t443 => (if t443 = true then ((chain_Newer.f kj4 t428 a1).bind fun t444 => (some (!t444))) else (some false))) else (some false))) else (some false)) else (some false)) else (some false)) else (if t426 = true then (some false) else (some false))) else (if t426 = true then (some false) else (some false))) = some r := by rw [if_pos rfl] at H; exact H
              clear H
              have H := H1
              clear H1
              by_cases c17 : a2 < a1
              · rw [if_pos c17] at H
                have c17b0 : decide (a2 < a1) = true := decide_eq_true c17
                clear c17
                by_cases c18 : (true == t433) = true
                · rw [if_pos c18] at H
                  have c18b0 : (true == t433) = true := c18
                  (try (have c18b1 : decide (true = t433) = true := by simpa using c18))
                  (try (have c18b2 : (true == t433) = true := by simpa using c18))
                  clear c18
                  by_cases c19 : t426 = true
                  · subst c19
                    have H1 : (if (strOfNums t432).toList = (strOfNums t436).toList then (if (t428.length : Int) = (wrap64 ((l0.length : Int) + 1)) then ((chain_Vacuum.f kj4 t428 a1).bind fun t440 => (if (t440.length : Int) = 0 then ((chain_Newer.f kj4 t428 (wrap64 (a1 - 1))).bind fun t443 => (if t443 = true then ((chain_Newer.f kj4 t428 a1).bind fun t444 => (some (!t444))) else (some false))) else (some false))) else (some false)) else (some false)) = some r := by rw [if_pos rfl] at H; exact H
                    clear H
                    have H := H1
                    clear H1
                    by_cases c20 : (strOfNums t432).toList = (strOfNums t436).toList
                    · rw [if_pos c20] at H
                      have c20b0 : ((strOfNums t432).toList == (strOfNums t436).toList) = true := beq_iff_eq.mpr c20
                      have c20b1 : ((strOfNums t432).toList != (strOfNums t436).toList) = false := bne_eq_false_iff_eq.mpr c20
                      clear c20
                      by_cases c21 : (t428.length : Int) = (wrap64 ((l0.length : Int) + 1))
                      · rw [if_pos c21] at H
                        have c21b0 : ((t428.length : Int) == (wrap64 ((l0.length : Int) + 1))) = true := beq_iff_eq.mpr c21
                        have c21b1 : ((t428.length : Int) != (wrap64 ((l0.length : Int) + 1))) = false := bne_eq_false_iff_eq.mpr c21
                        clear c21
                        replace H := Option.bind_eq_some_iff.mp H
                        obtain ⟨t440, A220, H⟩ := H
                        replace H : (if (t440.length : Int) = 0 then ((chain_Newer.f kj4 t428 (wrap64 (a1 - 1))).bind fun t443 => (if t443 = true then ((chain_Newer.f kj4 t428 a1).bind fun t444 => (some (!t444))) else (some false))) else (some false)) = some r := H
                        have A22 := Aside0.mk A220
                        clear A220
                        by_cases c23 : (t440.length : Int) = 0
                        · rw [if_pos c23] at H
                          have c23b0 : ((t440.length : Int) == 0) = true := beq_iff_eq.mpr c23
                          have c23b1 : ((t440.length : Int) != 0) = false := bne_eq_false_iff_eq.mpr c23
                          clear c23
                          replace H := Option.bind_eq_some_iff.mp H
                          obtain ⟨t443, A240, H⟩ := H
                          replace H : (if t443 = true then ((chain_Newer.f kj4 t428 a1).bind fun t444 => (some (!t444))) else (some false)) = some r := H
                          have A24 := Aside0.mk A240
                          clear A240
                          by_cases c25 : t443 = true
                          · subst c25
                            have H1 : ((chain_Newer.f kj4 t428 a1).bind fun t444 => (some (!t444))) = some r := by rw [if_pos rfl] at H; exact H
                            clear H
                            have H := H1
                            clear H1
                            replace H := Option.bind_eq_some_iff.mp H
                            obtain ⟨t444, A260, H⟩ := H
                            replace H : (some (!t444)) = some r := H
                            have A26 := Aside0.mk A260
                            clear A260
                            obtain rfl := Option.some.inj H
                            go_wp2_with (first | ((with_reducible refine gate_callee (f := 14) rfl ?_); refine goesL_ (some 29) rfl rfl Try.func14 (by kernel_rfl) rfl #[.slice A0 l0.length c0, .agg #[.int .i64 a1, .bool true, .slice none 0 0]] rfl (by (try simp only [List.map_toArray, List.map_cons, List.map_nil]); first | done | rfl | (simp only [List.length_drop, List.length_take]; rfl)) ?_; (refine (chain_Install.calls kj4 (fun k_ => k_ < w.heap.size) _ _ l0 a1 true (fun k_ => False) _ _ ([] : List Int) t428 t431 _ ?side1 ?side2 A11.out).mono ?_); (case side1 => exact Kd.V_mk HC0.out (Kd.F_below (Kd.C_F k25_heap HR0.out) (by repeat (first | (with_reducible first | exact HB.out | apply below_alloc | apply pw_below_drewN | apply below_drew1) | exact HB.out)))); (case side2 => exact Kd.V_nil _ _ _ _ _); rintro e w27 ⟨v429, rfl, ho0, hb⟩; refine ⟨_, rfl, ?_⟩; have n0_ := Aside0.mk (Kd.V_lower (Kd.V_mono (ok' := fun k_ => True) ho0 (fun k_ hk_ => trivial)) (below_size (by repeat (first | (with_reducible first | exact HB.out | apply below_alloc | apply pw_below_drewN | apply below_drew1) | exact HB.out)))); have n1_ := Aside0.mk (below_step (by repeat (first | (with_reducible first | exact HB.out | apply below_alloc | apply pw_below_drewN | apply below_drew1) | exact HB.out)) hb); clear HB; have HO430 := n0_; have HB := n1_; clear n0_ n1_; (try clear hb); (try clear hb2); (try clear hk); (try clear hi); (try clear ho0)) | ((with_reducible refine gate_callee (f := 12) rfl ?_); refine goesL_ (some 45) rfl rfl Try.func12 (by kernel_rfl) rfl #[.slice A0 l0.length c0, .int .i64 a2] rfl (by (try simp only [List.map_toArray, List.map_cons, List.map_nil]); first | done | rfl | (simp only [List.length_drop, List.length_take]; rfl)) ?_; (with_reducible refine (chain_Read.calls kj4 _ _ l0 a2 t432 t433 _ ?side1 ?side2 A13.out).mono ?_); (case side1 => repeat (first | exact (Kd.C_below HR0.out HB.out) | (with_reducible refine Kd.C_alloc ?_ _) | (with_reducible refine Kd.C_drewN ?_ _) | (with_reducible refine Kd.C_drew ?_))); (case side2 => exact HC0.out); rintro e w28 ⟨v434, rfl, ho0, hb⟩; refine ⟨_, rfl, ?_⟩; have n0_ := Aside0.mk (Kd.V_elder' (by (with_reducible repeat (first | apply Kd.V_alloc | apply Kd.V_drewN | apply Kd.V_drew)); exact HO430.out) (Kd.R_base ho0) hb); have n1_ := Aside0.mk (Kd.R_lower ho0 (below_size (by repeat (first | (with_reducible first | exact HB.out | apply below_alloc | apply pw_below_drewN | apply below_drew1) | exact HB.out)))); have n2_ := Aside0.mk (below_step (by repeat (first | (with_reducible first | exact HB.out | apply below_alloc | apply pw_below_drewN | apply below_drew1) | exact HB.out)) hb); clear HO430; clear HB; have HO430 := n0_; have HO435 := n1_; have HB := n2_; clear n0_ n1_ n2_; (try clear hb); (try clear hb2); (try clear hk); (try clear hi); (try clear ho0); obtain ⟨Ao29, co29, eo29⟩ := Kd.V_slice HO430.out; subst eo29) | ((with_reducible refine gate_callee (f := 12) rfl ?_); refine goesL_ (some 51) rfl rfl Try.func12 (by kernel_rfl) rfl #[.slice Ao29 t428.length co29, .int .i64 a2] rfl (by (try simp only [List.map_toArray, List.map_cons, List.map_nil]); first | done | rfl | (simp only [List.length_drop, List.length_take]; rfl)) ?_; (with_reducible refine (chain_Read.calls kj4 _ _ t428 a2 t436 true _ ?side1 ?side2 A14.out).mono ?_); (case side1 => repeat (first | exact (Kd.V_reads' HO430.out).2.2 | (with_reducible refine Kd.C_alloc ?_ _) | (with_reducible refine Kd.C_drewN ?_ _) | (with_reducible refine Kd.C_drew ?_))); (case side2 => exact (Kd.V_reads' HO430.out).2.1); rintro e w30 ⟨v438, rfl, ho0, hb⟩; refine ⟨_, rfl, ?_⟩; have n0_ := Aside0.mk (Kd.V_elder' (by (with_reducible repeat (first | apply Kd.V_alloc | apply Kd.V_drewN | apply Kd.V_drew)); exact HO430.out) (Kd.R_base ho0) hb); have n1_ := Aside0.mk (Kd.R_elder' (by (with_reducible repeat (first | apply Kd.R_alloc | apply Kd.R_drewN | apply Kd.R_drew)); exact HO435.out) (Kd.R_base ho0) hb); have n2_ := Aside0.mk (Kd.R_lower (Kd.R_new' ho0 (Kd.R_lt (by (with_reducible repeat (first | apply Kd.R_alloc | apply Kd.R_drewN | apply Kd.R_drew)); exact HO435.out))) (below_size (by repeat (first | (with_reducible first | exact HB.out | apply below_alloc | apply pw_below_drewN | apply below_drew1) | exact HB.out)))); have n3_ := Aside0.mk (below_step (by repeat (first | (with_reducible first | exact HB.out | apply below_alloc | apply pw_below_drewN | apply below_drew1) | exact HB.out)) hb); clear HO430; clear HO435; clear HB; have HO430 := n0_; have HO435 := n1_; have HO439 := n2_; have HB := n3_; clear n0_ n1_ n2_ n3_; (try clear hb); (try clear hb2); (try clear hk); (try clear hi); (try clear ho0); have hcv31 := own_string (P := Try.prog) Try.underlying23 Try.underlying5 Try.underlying9 (Kd.own_of_R HO435.out); have hcv32 := own_string (P := Try.prog) Try.underlying23 Try.underlying5 Try.underlying9 (Kd.own_of_R HO439.out)) | (go_at_call 17; (with_reducible refine (chain_Vacuum.calls kj4 _ _ t428 a1 t440 _ ?side1 ?side2 A22.out).mono ?_); (case side1 => repeat (first | exact (Kd.V_reads' HO430.out).2.2 | (with_reducible refine Kd.C_alloc ?_ _) | (with_reducible refine Kd.C_drewN ?_ _) | (with_reducible refine Kd.C_drew ?_))); (case side2 => exact (Kd.V_reads' HO430.out).2.1); rintro e w33 ⟨v441, rfl, ho0, hb⟩; have n0_ := Aside0.mk (Kd.V_below (by (with_reducible repeat (first | apply Kd.V_alloc | apply Kd.V_drewN | apply Kd.V_drew)); exact HO430.out) hb); have n1_ := Aside0.mk (Kd.R_below (by (with_reducible repeat (first | apply Kd.R_alloc | apply Kd.R_drewN | apply Kd.R_drew)); exact HO435.out) hb); have n2_ := Aside0.mk (Kd.R_below (by (with_reducible repeat (first | apply Kd.R_alloc | apply Kd.R_drewN | apply Kd.R_drew)); exact HO439.out) hb); have n3_ := Aside0.mk (Kd.V_lower (Kd.V_mono (ok' := fun k_ => some k_ ≠ (v434 : Value).ownBlock ∧ some k_ ≠ (v438 : Value).ownBlock) ho0 (fun k_ hk_ => ⟨(Kd.fresh' (Kd.R_lt (by (with_reducible repeat (first | apply Kd.R_alloc | apply Kd.R_drewN | apply Kd.R_drew)); exact HO435.out)) k_ hk_), (Kd.fresh' (Kd.R_lt (by (with_reducible repeat (first | apply Kd.R_alloc | apply Kd.R_drewN | apply Kd.R_drew)); exact HO439.out)) k_ hk_)⟩)) (below_size (by repeat (first | (with_reducible first | exact HB.out | apply below_alloc | apply pw_below_drewN | apply below_drew1) | exact HB.out)))); have n4_ := Aside0.mk (below_step (by repeat (first | (with_reducible first | exact HB.out | apply below_alloc | apply pw_below_drewN | apply below_drew1) | exact HB.out)) hb); clear HO430; clear HO435; clear HO439; clear HB; have HO430 := n0_; have HO435 := n1_; have HO439 := n2_; have HO442 := n3_; have HB := n4_; clear n0_ n1_ n2_ n3_ n4_; (try clear hb); (try clear hb2); (try clear hk); (try clear hi); (try clear ho0); obtain ⟨Ao34, co34, eo34⟩ := Kd.V_slice HO442.out; subst eo34) | (go_at_call 21; (with_reducible refine (chain_Newer.calls kj4 _ _ t428 (wrap64 (a1 - 1)) true _ ?side1 ?side2 A24.out).mono ?_); (case side1 => repeat (first | exact (Kd.V_reads' HO430.out).2.2 | (with_reducible refine Kd.C_alloc ?_ _) | (with_reducible refine Kd.C_drewN ?_ _) | (with_reducible refine Kd.C_drew ?_))); (case side2 => exact (Kd.V_reads' HO430.out).2.1); rintro e w35 ⟨rfl, hb⟩; have n0_ := Aside0.mk (Kd.V_below (by (with_reducible repeat (first | apply Kd.V_alloc | apply Kd.V_drewN | apply Kd.V_drew)); exact HO430.out) hb); have n1_ := Aside0.mk (Kd.R_below (by (with_reducible repeat (first | apply Kd.R_alloc | apply Kd.R_drewN | apply Kd.R_drew)); exact HO435.out) hb); have n2_ := Aside0.mk (Kd.R_below (by (with_reducible repeat (first | apply Kd.R_alloc | apply Kd.R_drewN | apply Kd.R_drew)); exact HO439.out) hb); have n3_ := Aside0.mk (Kd.V_below (by (with_reducible repeat (first | apply Kd.V_alloc | apply Kd.V_drewN | apply Kd.V_drew)); exact HO442.out) hb); have n4_ := Aside0.mk (below_step (by repeat (first | (with_reducible first | exact HB.out | apply below_alloc | apply pw_below_drewN | apply below_drew1) | exact HB.out)) hb); clear HO430; clear HO435; clear HO439; clear HO442; clear HB; have HO430 := n0_; have HO435 := n1_; have HO439 := n2_; have HO442 := n3_; have HB := n4_; clear n0_ n1_ n2_ n3_ n4_; (try clear hb); (try clear hb2); (try clear hk); (try clear hi)) | (go_at_call 21; (with_reducible refine (chain_Newer.calls kj4 _ _ t428 a1 t444 _ ?side1 ?side2 A26.out).mono ?_); (case side1 => repeat (first | exact (Kd.V_reads' HO430.out).2.2 | (with_reducible refine Kd.C_alloc ?_ _) | (with_reducible refine Kd.C_drewN ?_ _) | (with_reducible refine Kd.C_drew ?_))); (case side2 => exact (Kd.V_reads' HO430.out).2.1); rintro e w36 ⟨rfl, hb⟩; have n0_ := Aside0.mk (Kd.V_below (by (with_reducible repeat (first | apply Kd.V_alloc | apply Kd.V_drewN | apply Kd.V_drew)); exact HO430.out) hb); have n1_ := Aside0.mk (Kd.R_below (by (with_reducible repeat (first | apply Kd.R_alloc | apply Kd.R_drewN | apply Kd.R_drew)); exact HO435.out) hb); have n2_ := Aside0.mk (Kd.R_below (by (with_reducible repeat (first | apply Kd.R_alloc | apply Kd.R_drewN | apply Kd.R_drew)); exact HO439.out) hb); have n3_ := Aside0.mk (Kd.V_below (by (with_reducible repeat (first | apply Kd.V_alloc | apply Kd.V_drewN | apply Kd.V_drew)); exact HO442.out) hb); have n4_ := Aside0.mk (below_step (by repeat (first | (with_reducible first | exact HB.out | apply below_alloc | apply pw_below_drewN | apply below_drew1) | exact HB.out)) hb); clear HO430; clear HO435; clear HO439; clear HO442; clear HB; have HO430 := n0_; have HO435 := n1_; have HO439 := n2_; have HO442 := n3_; have HB := n4_; clear n0_ n1_ n2_ n3_ n4_; (try clear hb); (try clear hb2); (try clear hk); (try clear hi)))
                            go_ret
                            exact ⟨by first | rfl | (simp [errW_none, errW_some] <;> rfl) | (simp [*, errW_none, errW_some] <;> rfl), by repeat (first | (with_reducible first | exact HB.out | apply below_alloc | apply pw_below_drewN | apply below_drew1) | exact HB.out)⟩
                          · replace c25 := Bool.eq_false_iff.mpr c25
                            subst c25
                            have H1 : (some false) = some r := by rw [if_neg (show ¬ (false = true) by decide)] at H; exact H
                            rw [HTr_] at H1
                            exact absurd (Option.some.inj H1) (by decide)
                        · rw [if_neg c23] at H
                          rw [HTr_] at H
                          exact absurd (Option.some.inj H) (by decide)
                      · rw [if_neg c21] at H
                        rw [HTr_] at H
                        exact absurd (Option.some.inj H) (by decide)
                    · rw [if_neg c20] at H
                      rw [HTr_] at H
                      exact absurd (Option.some.inj H) (by decide)
                  · replace c19 := Bool.eq_false_iff.mpr c19
                    subst c19
                    have H1 : (some false) = some r := by rw [if_neg (show ¬ (false = true) by decide)] at H; exact H
                    rw [HTr_] at H1
                    exact absurd (Option.some.inj H1) (by decide)
                · rw [if_neg c18] at H
                  have c18b0 : (true == t433) = false := by simpa using c18
                  (try (have c18b1 : decide (true = t433) = false := by simpa using c18))
                  (try (have c18b2 : (true == t433) = false := by simpa using c18))
                  (try (have c18b3 : ¬ (true = t433) := by simpa using c18))
                  clear c18
                  by_cases c72 : t426 = true
                  · subst c72
                    have H1 : (some false) = some r := by rw [if_pos rfl] at H; exact H
                    rw [HTr_] at H1
                    exact absurd (Option.some.inj H1) (by decide)
                  · replace c72 := Bool.eq_false_iff.mpr c72
                    subst c72
                    have H1 : (some false) = some r := by rw [if_neg (show ¬ (false = true) by decide)] at H; exact H
                    rw [HTr_] at H1
                    exact absurd (Option.some.inj H1) (by decide)
              · rw [if_neg c17] at H
                have c17b0 : decide (a2 < a1) = false := decide_eq_false c17
                clear c17
                by_cases c81 : t426 = true
                · subst c81
                  have H1 : (some false) = some r := by rw [if_pos rfl] at H; exact H
                  rw [HTr_] at H1
                  exact absurd (Option.some.inj H1) (by decide)
                · replace c81 := Bool.eq_false_iff.mpr c81
                  subst c81
                  have H1 : (some false) = some r := by rw [if_neg (show ¬ (false = true) by decide)] at H; exact H
                  rw [HTr_] at H1
                  exact absurd (Option.some.inj H1) (by decide)
            · replace c16 := Bool.eq_false_iff.mpr c16
              subst c16
              have H1 : (if (t436.length : Int) = 0 then (if t426 = true then (if (t428.length : Int) = (wrap64 ((l0.length : Int) + 1)) then ((chain_Vacuum.f kj4 t428 a1).bind fun t445 => (if (t445.length : Int) = 0 then ((chain_Newer.f kj4 t428 (wrap64 (a1 - 1))).bind fun t448 => (if t448 = true then ((chain_Newer.f kj4 t428 a1).bind fun t449 => (some (!t449))) else (some false))) else (some false))) else (some false)) else (some false)) else (if a2 < a1 then (if (false == t433) = true then (if t426 = true then (if (strOfNums t432).toList = (strOfNums t436).toList then (if (t428.length : Int) = (wrap64 ((l0.length : Int) + 1)) then ((chain_Vacuum.f kj4 t428 a1).bind fun t450 => (if (t450.length : Int) = 0 then ((chain_Newer.f kj4 t428 (wrap64 (a1 - 1))).bind fun t453 => (if t453 = true then ((chain_Newer.f kj4 t428 a1).bind fun t454 => (some (!t454))) else (some false))) else (some false))) else (some false)) else (some false)) else (some false)) else (if t426 = true then (some false) else (some false))) else (if t426 = true then (some false) else (some false)))) = some r := by rw [if_neg (show ¬ (false = true) by decide)] at H; exact H
              clear H
              have H := H1
              clear H1
              by_cases c90 : (t436.length : Int) = 0
              · rw [if_pos c90] at H
                have c90b0 : ((t436.length : Int) == 0) = true := beq_iff_eq.mpr c90
                have c90b1 : ((t436.length : Int) != 0) = false := bne_eq_false_iff_eq.mpr c90
                clear c90
                by_cases c91 : t426 = true
                · subst c91
                  have H1 : (if (t428.length : Int) = (wrap64 ((l0.length : Int) + 1)) then ((chain_Vacuum.f kj4 t428 a1).bind fun t445 => (if (t445.length : Int) = 0 then ((chain_Newer.f kj4 t428 (wrap64 (a1 - 1))).bind fun t448 => (if t448 = true then ((chain_Newer.f kj4 t428 a1).bind fun t449 => (some (!t449))) else (some false))) else (some false))) else (some false)) = some r := by rw [if_pos rfl] at H; exact H
                  clear H
                  have H := H1
                  clear H1
                  by_cases c92 : (t428.length : Int) = (wrap64 ((l0.length : Int) + 1))
                  · rw [if_pos c92] at H
                    have c92b0 : ((t428.length : Int) == (wrap64 ((l0.length : Int) + 1))) = true := beq_iff_eq.mpr c92
                    have c92b1 : ((t428.length : Int) != (wrap64 ((l0.length : Int) + 1))) = false := bne_eq_false_iff_eq.mpr c92
                    clear c92
                    replace H := Option.bind_eq_some_iff.mp H
                    obtain ⟨t445, A930, H⟩ := H
                    replace H : (if (t445.length : Int) = 0 then ((chain_Newer.f kj4 t428 (wrap64 (a1 - 1))).bind fun t448 => (if t448 = true then ((chain_Newer.f kj4 t428 a1).bind fun t449 => (some (!t449))) else (some false))) else (some false)) = some r := H
                    have A93 := Aside0.mk A930
                    clear A930
                    by_cases c94 : (t445.length : Int) = 0
                    · rw [if_pos c94] at H
                      have c94b0 : ((t445.length : Int) == 0) = true := beq_iff_eq.mpr c94
                      have c94b1 : ((t445.length : Int) != 0) = false := bne_eq_false_iff_eq.mpr c94
                      clear c94
                      replace H := Option.bind_eq_some_iff.mp H
                      obtain ⟨t448, A950, H⟩ := H
                      replace H : (if t448 = true then ((chain_Newer.f kj4 t428 a1).bind fun t449 => (some (!t449))) else (some false)) = some r := H
                      have A95 := Aside0.mk A950
                      clear A950
                      by_cases c96 : t448 = true
                      · subst c96
                        have H1 : ((chain_Newer.f kj4 t428 a1).bind fun t449 => (some (!t449))) = some r := by rw [if_pos rfl] at H; exact H
                        clear H
                        have H := H1
                        clear H1
                        replace H := Option.bind_eq_some_iff.mp H
                        obtain ⟨t449, A970, H⟩ := H
                        replace H : (some (!t449)) = some r := H
                        have A97 := Aside0.mk A970
                        clear A970
                        obtain rfl := Option.some.inj H
                        go_wp2_with (first | ((with_reducible refine gate_callee (f := 14) rfl ?_); refine goesL_ (some 29) rfl rfl Try.func14 (by kernel_rfl) rfl #[.slice A0 l0.length c0, .agg #[.int .i64 a1, .bool true, .slice none 0 0]] rfl (by (try simp only [List.map_toArray, List.map_cons, List.map_nil]); first | done | rfl | (simp only [List.length_drop, List.length_take]; rfl)) ?_; (refine (chain_Install.calls kj4 (fun k_ => k_ < w.heap.size) _ _ l0 a1 true (fun k_ => False) _ _ ([] : List Int) t428 t431 _ ?side1 ?side2 A11.out).mono ?_); (case side1 => exact Kd.V_mk HC0.out (Kd.F_below (Kd.C_F k25_heap HR0.out) (by repeat (first | (with_reducible first | exact HB.out | apply below_alloc | apply pw_below_drewN | apply below_drew1) | exact HB.out)))); (case side2 => exact Kd.V_nil _ _ _ _ _); rintro e w98 ⟨v429, rfl, ho0, hb⟩; refine ⟨_, rfl, ?_⟩; have n0_ := Aside0.mk (Kd.V_lower (Kd.V_mono (ok' := fun k_ => True) ho0 (fun k_ hk_ => trivial)) (below_size (by repeat (first | (with_reducible first | exact HB.out | apply below_alloc | apply pw_below_drewN | apply below_drew1) | exact HB.out)))); have n1_ := Aside0.mk (below_step (by repeat (first | (with_reducible first | exact HB.out | apply below_alloc | apply pw_below_drewN | apply below_drew1) | exact HB.out)) hb); clear HB; have HO430 := n0_; have HB := n1_; clear n0_ n1_; (try clear hb); (try clear hb2); (try clear hk); (try clear hi); (try clear ho0)) | ((with_reducible refine gate_callee (f := 12) rfl ?_); refine goesL_ (some 45) rfl rfl Try.func12 (by kernel_rfl) rfl #[.slice A0 l0.length c0, .int .i64 a2] rfl (by (try simp only [List.map_toArray, List.map_cons, List.map_nil]); first | done | rfl | (simp only [List.length_drop, List.length_take]; rfl)) ?_; (with_reducible refine (chain_Read.calls kj4 _ _ l0 a2 t432 t433 _ ?side1 ?side2 A13.out).mono ?_); (case side1 => repeat (first | exact (Kd.C_below HR0.out HB.out) | (with_reducible refine Kd.C_alloc ?_ _) | (with_reducible refine Kd.C_drewN ?_ _) | (with_reducible refine Kd.C_drew ?_))); (case side2 => exact HC0.out); rintro e w99 ⟨v434, rfl, ho0, hb⟩; refine ⟨_, rfl, ?_⟩; have n0_ := Aside0.mk (Kd.V_elder' (by (with_reducible repeat (first | apply Kd.V_alloc | apply Kd.V_drewN | apply Kd.V_drew)); exact HO430.out) (Kd.R_base ho0) hb); have n1_ := Aside0.mk (Kd.R_lower ho0 (below_size (by repeat (first | (with_reducible first | exact HB.out | apply below_alloc | apply pw_below_drewN | apply below_drew1) | exact HB.out)))); have n2_ := Aside0.mk (below_step (by repeat (first | (with_reducible first | exact HB.out | apply below_alloc | apply pw_below_drewN | apply below_drew1) | exact HB.out)) hb); clear HO430; clear HB; have HO430 := n0_; have HO435 := n1_; have HB := n2_; clear n0_ n1_ n2_; (try clear hb); (try clear hb2); (try clear hk); (try clear hi); (try clear ho0); obtain ⟨Ao100, co100, eo100⟩ := Kd.V_slice HO430.out; subst eo100) | ((with_reducible refine gate_callee (f := 12) rfl ?_); refine goesL_ (some 51) rfl rfl Try.func12 (by kernel_rfl) rfl #[.slice Ao100 t428.length co100, .int .i64 a2] rfl (by (try simp only [List.map_toArray, List.map_cons, List.map_nil]); first | done | rfl | (simp only [List.length_drop, List.length_take]; rfl)) ?_; (with_reducible refine (chain_Read.calls kj4 _ _ t428 a2 t436 false _ ?side1 ?side2 A14.out).mono ?_); (case side1 => repeat (first | exact (Kd.V_reads' HO430.out).2.2 | (with_reducible refine Kd.C_alloc ?_ _) | (with_reducible refine Kd.C_drewN ?_ _) | (with_reducible refine Kd.C_drew ?_))); (case side2 => exact (Kd.V_reads' HO430.out).2.1); rintro e w101 ⟨v438, rfl, ho0, hb⟩; refine ⟨_, rfl, ?_⟩; have n0_ := Aside0.mk (Kd.V_elder' (by (with_reducible repeat (first | apply Kd.V_alloc | apply Kd.V_drewN | apply Kd.V_drew)); exact HO430.out) (Kd.R_base ho0) hb); have n1_ := Aside0.mk (Kd.R_elder' (by (with_reducible repeat (first | apply Kd.R_alloc | apply Kd.R_drewN | apply Kd.R_drew)); exact HO435.out) (Kd.R_base ho0) hb); have n2_ := Aside0.mk (Kd.R_lower (Kd.R_new' ho0 (Kd.R_lt (by (with_reducible repeat (first | apply Kd.R_alloc | apply Kd.R_drewN | apply Kd.R_drew)); exact HO435.out))) (below_size (by repeat (first | (with_reducible first | exact HB.out | apply below_alloc | apply pw_below_drewN | apply below_drew1) | exact HB.out)))); have n3_ := Aside0.mk (below_step (by repeat (first | (with_reducible first | exact HB.out | apply below_alloc | apply pw_below_drewN | apply below_drew1) | exact HB.out)) hb); clear HO430; clear HO435; clear HB; have HO430 := n0_; have HO435 := n1_; have HO439 := n2_; have HB := n3_; clear n0_ n1_ n2_ n3_; (try clear hb); (try clear hb2); (try clear hk); (try clear hi); (try clear ho0); obtain ⟨Ao102, co102, eo102⟩ := Kd.R_slice HO439.out; subst eo102) | (go_at_call 17; (with_reducible refine (chain_Vacuum.calls kj4 _ _ t428 a1 t445 _ ?side1 ?side2 A93.out).mono ?_); (case side1 => repeat (first | exact (Kd.V_reads' HO430.out).2.2 | (with_reducible refine Kd.C_alloc ?_ _) | (with_reducible refine Kd.C_drewN ?_ _) | (with_reducible refine Kd.C_drew ?_))); (case side2 => exact (Kd.V_reads' HO430.out).2.1); rintro e w103 ⟨v446, rfl, ho0, hb⟩; have n0_ := Aside0.mk (Kd.V_below (by (with_reducible repeat (first | apply Kd.V_alloc | apply Kd.V_drewN | apply Kd.V_drew)); exact HO430.out) hb); have n1_ := Aside0.mk (Kd.R_below (by (with_reducible repeat (first | apply Kd.R_alloc | apply Kd.R_drewN | apply Kd.R_drew)); exact HO435.out) hb); have n2_ := Aside0.mk (Kd.R_below (by (with_reducible repeat (first | apply Kd.R_alloc | apply Kd.R_drewN | apply Kd.R_drew)); exact HO439.out) hb); have n3_ := Aside0.mk (Kd.V_lower (Kd.V_mono (ok' := fun k_ => some k_ ≠ (v434 : Value).ownBlock ∧ some k_ ≠ (.slice Ao102 t436.length co102 : Value).ownBlock) ho0 (fun k_ hk_ => ⟨(Kd.fresh' (Kd.R_lt (by (with_reducible repeat (first | apply Kd.R_alloc | apply Kd.R_drewN | apply Kd.R_drew)); exact HO435.out)) k_ hk_), (Kd.fresh' (Kd.R_lt (by (with_reducible repeat (first | apply Kd.R_alloc | apply Kd.R_drewN | apply Kd.R_drew)); exact HO439.out)) k_ hk_)⟩)) (below_size (by repeat (first | (with_reducible first | exact HB.out | apply below_alloc | apply pw_below_drewN | apply below_drew1) | exact HB.out)))); have n4_ := Aside0.mk (below_step (by repeat (first | (with_reducible first | exact HB.out | apply below_alloc | apply pw_below_drewN | apply below_drew1) | exact HB.out)) hb); clear HO430; clear HO435; clear HO439; clear HB; have HO430 := n0_; have HO435 := n1_; have HO439 := n2_; have HO447 := n3_; have HB := n4_; clear n0_ n1_ n2_ n3_ n4_; (try clear hb); (try clear hb2); (try clear hk); (try clear hi); (try clear ho0); obtain ⟨Ao104, co104, eo104⟩ := Kd.V_slice HO447.out; subst eo104) | (go_at_call 21; (with_reducible refine (chain_Newer.calls kj4 _ _ t428 (wrap64 (a1 - 1)) true _ ?side1 ?side2 A95.out).mono ?_); (case side1 => repeat (first | exact (Kd.V_reads' HO430.out).2.2 | (with_reducible refine Kd.C_alloc ?_ _) | (with_reducible refine Kd.C_drewN ?_ _) | (with_reducible refine Kd.C_drew ?_))); (case side2 => exact (Kd.V_reads' HO430.out).2.1); rintro e w105 ⟨rfl, hb⟩; have n0_ := Aside0.mk (Kd.V_below (by (with_reducible repeat (first | apply Kd.V_alloc | apply Kd.V_drewN | apply Kd.V_drew)); exact HO430.out) hb); have n1_ := Aside0.mk (Kd.R_below (by (with_reducible repeat (first | apply Kd.R_alloc | apply Kd.R_drewN | apply Kd.R_drew)); exact HO435.out) hb); have n2_ := Aside0.mk (Kd.R_below (by (with_reducible repeat (first | apply Kd.R_alloc | apply Kd.R_drewN | apply Kd.R_drew)); exact HO439.out) hb); have n3_ := Aside0.mk (Kd.V_below (by (with_reducible repeat (first | apply Kd.V_alloc | apply Kd.V_drewN | apply Kd.V_drew)); exact HO447.out) hb); have n4_ := Aside0.mk (below_step (by repeat (first | (with_reducible first | exact HB.out | apply below_alloc | apply pw_below_drewN | apply below_drew1) | exact HB.out)) hb); clear HO430; clear HO435; clear HO439; clear HO447; clear HB; have HO430 := n0_; have HO435 := n1_; have HO439 := n2_; have HO447 := n3_; have HB := n4_; clear n0_ n1_ n2_ n3_ n4_; (try clear hb); (try clear hb2); (try clear hk); (try clear hi)) | (go_at_call 21; (with_reducible refine (chain_Newer.calls kj4 _ _ t428 a1 t449 _ ?side1 ?side2 A97.out).mono ?_); (case side1 => repeat (first | exact (Kd.V_reads' HO430.out).2.2 | (with_reducible refine Kd.C_alloc ?_ _) | (with_reducible refine Kd.C_drewN ?_ _) | (with_reducible refine Kd.C_drew ?_))); (case side2 => exact (Kd.V_reads' HO430.out).2.1); rintro e w106 ⟨rfl, hb⟩; have n0_ := Aside0.mk (Kd.V_below (by (with_reducible repeat (first | apply Kd.V_alloc | apply Kd.V_drewN | apply Kd.V_drew)); exact HO430.out) hb); have n1_ := Aside0.mk (Kd.R_below (by (with_reducible repeat (first | apply Kd.R_alloc | apply Kd.R_drewN | apply Kd.R_drew)); exact HO435.out) hb); have n2_ := Aside0.mk (Kd.R_below (by (with_reducible repeat (first | apply Kd.R_alloc | apply Kd.R_drewN | apply Kd.R_drew)); exact HO439.out) hb); have n3_ := Aside0.mk (Kd.V_below (by (with_reducible repeat (first | apply Kd.V_alloc | apply Kd.V_drewN | apply Kd.V_drew)); exact HO447.out) hb); have n4_ := Aside0.mk (below_step (by repeat (first | (with_reducible first | exact HB.out | apply below_alloc | apply pw_below_drewN | apply below_drew1) | exact HB.out)) hb); clear HO430; clear HO435; clear HO439; clear HO447; clear HB; have HO430 := n0_; have HO435 := n1_; have HO439 := n2_; have HO447 := n3_; have HB := n4_; clear n0_ n1_ n2_ n3_ n4_; (try clear hb); (try clear hb2); (try clear hk); (try clear hi)))
                        go_ret
                        exact ⟨by first | rfl | (simp [errW_none, errW_some] <;> rfl) | (simp [*, errW_none, errW_some] <;> rfl), by repeat (first | (with_reducible first | exact HB.out | apply below_alloc | apply pw_below_drewN | apply below_drew1) | exact HB.out)⟩
                      · replace c96 := Bool.eq_false_iff.mpr c96
                        subst c96
                        have H1 : (some false) = some r := by rw [if_neg (show ¬ (false = true) by decide)] at H; exact H
                        rw [HTr_] at H1
                        exact absurd (Option.some.inj H1) (by decide)
                    · rw [if_neg c94] at H
                      rw [HTr_] at H
                      exact absurd (Option.some.inj H) (by decide)
                  · rw [if_neg c92] at H
                    rw [HTr_] at H
                    exact absurd (Option.some.inj H) (by decide)
                · replace c91 := Bool.eq_false_iff.mpr c91
                  subst c91
                  have H1 : (some false) = some r := by rw [if_neg (show ¬ (false = true) by decide)] at H; exact H
                  rw [HTr_] at H1
                  exact absurd (Option.some.inj H1) (by decide)
              · rw [if_neg c90] at H
                have c90b0 : ((t436.length : Int) == 0) = false := beq_eq_false_iff_ne.mpr c90
                have c90b1 : ((t436.length : Int) != 0) = true := bne_iff_ne.mpr c90
                have c90b2 : ¬ (t436 = []) := fun h_ => c90 (by rw [h_]; rfl)
                by_cases c132 : a2 < a1
                · rw [if_pos c132] at H
                  have c132b0 : decide (a2 < a1) = true := decide_eq_true c132
                  clear c132
                  by_cases c133 : (false == t433) = true
                  · rw [if_pos c133] at H
                    have c133b0 : (false == t433) = true := c133
                    (try (have c133b1 : decide (false = t433) = true := by simpa using c133))
                    (try (have c133b2 : (false == t433) = true := by simpa using c133))
                    clear c133
                    by_cases c134 : t426 = true
                    · subst c134
                      have H1 : (if (strOfNums t432).toList = (strOfNums t436).toList then (if (t428.length : Int) = (wrap64 ((l0.length : Int) + 1)) then ((chain_Vacuum.f kj4 t428 a1).bind fun t450 => (if (t450.length : Int) = 0 then ((chain_Newer.f kj4 t428 (wrap64 (a1 - 1))).bind fun t453 => (if t453 = true then ((chain_Newer.f kj4 t428 a1).bind fun t454 => (some (!t454))) else (some false))) else (some false))) else (some false)) else (some false)) = some r := by rw [if_pos rfl] at H; exact H
                      clear H
                      have H := H1
                      clear H1
                      by_cases c135 : (strOfNums t432).toList = (strOfNums t436).toList
                      · rw [if_pos c135] at H
                        have c135b0 : ((strOfNums t432).toList == (strOfNums t436).toList) = true := beq_iff_eq.mpr c135
                        have c135b1 : ((strOfNums t432).toList != (strOfNums t436).toList) = false := bne_eq_false_iff_eq.mpr c135
                        clear c135
                        by_cases c136 : (t428.length : Int) = (wrap64 ((l0.length : Int) + 1))
                        · rw [if_pos c136] at H
                          have c136b0 : ((t428.length : Int) == (wrap64 ((l0.length : Int) + 1))) = true := beq_iff_eq.mpr c136
                          have c136b1 : ((t428.length : Int) != (wrap64 ((l0.length : Int) + 1))) = false := bne_eq_false_iff_eq.mpr c136
                          clear c136
                          replace H := Option.bind_eq_some_iff.mp H
                          obtain ⟨t450, A1370, H⟩ := H
                          replace H : (if (t450.length : Int) = 0 then ((chain_Newer.f kj4 t428 (wrap64 (a1 - 1))).bind fun t453 => (if t453 = true then ((chain_Newer.f kj4 t428 a1).bind fun t454 => (some (!t454))) else (some false))) else (some false)) = some r := H
                          have A137 := Aside0.mk A1370
                          clear A1370
                          by_cases c138 : (t450.length : Int) = 0
                          · rw [if_pos c138] at H
                            have c138b0 : ((t450.length : Int) == 0) = true := beq_iff_eq.mpr c138
                            have c138b1 : ((t450.length : Int) != 0) = false := bne_eq_false_iff_eq.mpr c138
                            clear c138
                            replace H := Option.bind_eq_some_iff.mp H
                            obtain ⟨t453, A1390, H⟩ := H
                            replace H : (if t453 = true then ((chain_Newer.f kj4 t428 a1).bind fun t454 => (some (!t454))) else (some false)) = some r := H
                            have A139 := Aside0.mk A1390
                            clear A1390
                            by_cases c140 : t453 = true
                            · subst c140
                              have H1 : ((chain_Newer.f kj4 t428 a1).bind fun t454 => (some (!t454))) = some r := by rw [if_pos rfl] at H; exact H
                              clear H
                              have H := H1
                              clear H1
                              replace H := Option.bind_eq_some_iff.mp H
                              obtain ⟨t454, A1410, H⟩ := H
                              replace H : (some (!t454)) = some r := H
                              have A141 := Aside0.mk A1410
                              clear A1410
                              obtain rfl := Option.some.inj H
                              go_wp2_with (first | ((with_reducible refine gate_callee (f := 14) rfl ?_); refine goesL_ (some 29) rfl rfl Try.func14 (by kernel_rfl) rfl #[.slice A0 l0.length c0, .agg #[.int .i64 a1, .bool true, .slice none 0 0]] rfl (by (try simp only [List.map_toArray, List.map_cons, List.map_nil]); first | done | rfl | (simp only [List.length_drop, List.length_take]; rfl)) ?_; (refine (chain_Install.calls kj4 (fun k_ => k_ < w.heap.size) _ _ l0 a1 true (fun k_ => False) _ _ ([] : List Int) t428 t431 _ ?side1 ?side2 A11.out).mono ?_); (case side1 => exact Kd.V_mk HC0.out (Kd.F_below (Kd.C_F k25_heap HR0.out) (by repeat (first | (with_reducible first | exact HB.out | apply below_alloc | apply pw_below_drewN | apply below_drew1) | exact HB.out)))); (case side2 => exact Kd.V_nil _ _ _ _ _); rintro e w142 ⟨v429, rfl, ho0, hb⟩; refine ⟨_, rfl, ?_⟩; have n0_ := Aside0.mk (Kd.V_lower (Kd.V_mono (ok' := fun k_ => True) ho0 (fun k_ hk_ => trivial)) (below_size (by repeat (first | (with_reducible first | exact HB.out | apply below_alloc | apply pw_below_drewN | apply below_drew1) | exact HB.out)))); have n1_ := Aside0.mk (below_step (by repeat (first | (with_reducible first | exact HB.out | apply below_alloc | apply pw_below_drewN | apply below_drew1) | exact HB.out)) hb); clear HB; have HO430 := n0_; have HB := n1_; clear n0_ n1_; (try clear hb); (try clear hb2); (try clear hk); (try clear hi); (try clear ho0)) | ((with_reducible refine gate_callee (f := 12) rfl ?_); refine goesL_ (some 45) rfl rfl Try.func12 (by kernel_rfl) rfl #[.slice A0 l0.length c0, .int .i64 a2] rfl (by (try simp only [List.map_toArray, List.map_cons, List.map_nil]); first | done | rfl | (simp only [List.length_drop, List.length_take]; rfl)) ?_; (with_reducible refine (chain_Read.calls kj4 _ _ l0 a2 t432 t433 _ ?side1 ?side2 A13.out).mono ?_); (case side1 => repeat (first | exact (Kd.C_below HR0.out HB.out) | (with_reducible refine Kd.C_alloc ?_ _) | (with_reducible refine Kd.C_drewN ?_ _) | (with_reducible refine Kd.C_drew ?_))); (case side2 => exact HC0.out); rintro e w143 ⟨v434, rfl, ho0, hb⟩; refine ⟨_, rfl, ?_⟩; have n0_ := Aside0.mk (Kd.V_elder' (by (with_reducible repeat (first | apply Kd.V_alloc | apply Kd.V_drewN | apply Kd.V_drew)); exact HO430.out) (Kd.R_base ho0) hb); have n1_ := Aside0.mk (Kd.R_lower ho0 (below_size (by repeat (first | (with_reducible first | exact HB.out | apply below_alloc | apply pw_below_drewN | apply below_drew1) | exact HB.out)))); have n2_ := Aside0.mk (below_step (by repeat (first | (with_reducible first | exact HB.out | apply below_alloc | apply pw_below_drewN | apply below_drew1) | exact HB.out)) hb); clear HO430; clear HB; have HO430 := n0_; have HO435 := n1_; have HB := n2_; clear n0_ n1_ n2_; (try clear hb); (try clear hb2); (try clear hk); (try clear hi); (try clear ho0); obtain ⟨Ao144, co144, eo144⟩ := Kd.V_slice HO430.out; subst eo144) | ((with_reducible refine gate_callee (f := 12) rfl ?_); refine goesL_ (some 51) rfl rfl Try.func12 (by kernel_rfl) rfl #[.slice Ao144 t428.length co144, .int .i64 a2] rfl (by (try simp only [List.map_toArray, List.map_cons, List.map_nil]); first | done | rfl | (simp only [List.length_drop, List.length_take]; rfl)) ?_; (with_reducible refine (chain_Read.calls kj4 _ _ t428 a2 t436 false _ ?side1 ?side2 A14.out).mono ?_); (case side1 => repeat (first | exact (Kd.V_reads' HO430.out).2.2 | (with_reducible refine Kd.C_alloc ?_ _) | (with_reducible refine Kd.C_drewN ?_ _) | (with_reducible refine Kd.C_drew ?_))); (case side2 => exact (Kd.V_reads' HO430.out).2.1); rintro e w145 ⟨v438, rfl, ho0, hb⟩; refine ⟨_, rfl, ?_⟩; have n0_ := Aside0.mk (Kd.V_elder' (by (with_reducible repeat (first | apply Kd.V_alloc | apply Kd.V_drewN | apply Kd.V_drew)); exact HO430.out) (Kd.R_base ho0) hb); have n1_ := Aside0.mk (Kd.R_elder' (by (with_reducible repeat (first | apply Kd.R_alloc | apply Kd.R_drewN | apply Kd.R_drew)); exact HO435.out) (Kd.R_base ho0) hb); have n2_ := Aside0.mk (Kd.R_lower (Kd.R_new' ho0 (Kd.R_lt (by (with_reducible repeat (first | apply Kd.R_alloc | apply Kd.R_drewN | apply Kd.R_drew)); exact HO435.out))) (below_size (by repeat (first | (with_reducible first | exact HB.out | apply below_alloc | apply pw_below_drewN | apply below_drew1) | exact HB.out)))); have n3_ := Aside0.mk (below_step (by repeat (first | (with_reducible first | exact HB.out | apply below_alloc | apply pw_below_drewN | apply below_drew1) | exact HB.out)) hb); clear HO430; clear HO435; clear HB; have HO430 := n0_; have HO435 := n1_; have HO439 := n2_; have HB := n3_; clear n0_ n1_ n2_ n3_; (try clear hb); (try clear hb2); (try clear hk); (try clear hi); (try clear ho0); obtain ⟨Ao146, co146, eo146⟩ := Kd.R_slice HO439.out; subst eo146; have hcv147 := own_string (P := Try.prog) Try.underlying23 Try.underlying5 Try.underlying9 (Kd.own_of_R HO435.out); have hcv148 := own_string (P := Try.prog) Try.underlying23 Try.underlying5 Try.underlying9 (Kd.own_of_R HO439.out)) | (go_at_call 17; (with_reducible refine (chain_Vacuum.calls kj4 _ _ t428 a1 t450 _ ?side1 ?side2 A137.out).mono ?_); (case side1 => repeat (first | exact (Kd.V_reads' HO430.out).2.2 | (with_reducible refine Kd.C_alloc ?_ _) | (with_reducible refine Kd.C_drewN ?_ _) | (with_reducible refine Kd.C_drew ?_))); (case side2 => exact (Kd.V_reads' HO430.out).2.1); rintro e w149 ⟨v451, rfl, ho0, hb⟩; have n0_ := Aside0.mk (Kd.V_below (by (with_reducible repeat (first | apply Kd.V_alloc | apply Kd.V_drewN | apply Kd.V_drew)); exact HO430.out) hb); have n1_ := Aside0.mk (Kd.R_below (by (with_reducible repeat (first | apply Kd.R_alloc | apply Kd.R_drewN | apply Kd.R_drew)); exact HO435.out) hb); have n2_ := Aside0.mk (Kd.R_below (by (with_reducible repeat (first | apply Kd.R_alloc | apply Kd.R_drewN | apply Kd.R_drew)); exact HO439.out) hb); have n3_ := Aside0.mk (Kd.V_lower (Kd.V_mono (ok' := fun k_ => some k_ ≠ (v434 : Value).ownBlock ∧ some k_ ≠ (.slice Ao146 t436.length co146 : Value).ownBlock) ho0 (fun k_ hk_ => ⟨(Kd.fresh' (Kd.R_lt (by (with_reducible repeat (first | apply Kd.R_alloc | apply Kd.R_drewN | apply Kd.R_drew)); exact HO435.out)) k_ hk_), (Kd.fresh' (Kd.R_lt (by (with_reducible repeat (first | apply Kd.R_alloc | apply Kd.R_drewN | apply Kd.R_drew)); exact HO439.out)) k_ hk_)⟩)) (below_size (by repeat (first | (with_reducible first | exact HB.out | apply below_alloc | apply pw_below_drewN | apply below_drew1) | exact HB.out)))); have n4_ := Aside0.mk (below_step (by repeat (first | (with_reducible first | exact HB.out | apply below_alloc | apply pw_below_drewN | apply below_drew1) | exact HB.out)) hb); clear HO430; clear HO435; clear HO439; clear HB; have HO430 := n0_; have HO435 := n1_; have HO439 := n2_; have HO452 := n3_; have HB := n4_; clear n0_ n1_ n2_ n3_ n4_; (try clear hb); (try clear hb2); (try clear hk); (try clear hi); (try clear ho0); obtain ⟨Ao150, co150, eo150⟩ := Kd.V_slice HO452.out; subst eo150) | (go_at_call 21; (with_reducible refine (chain_Newer.calls kj4 _ _ t428 (wrap64 (a1 - 1)) true _ ?side1 ?side2 A139.out).mono ?_); (case side1 => repeat (first | exact (Kd.V_reads' HO430.out).2.2 | (with_reducible refine Kd.C_alloc ?_ _) | (with_reducible refine Kd.C_drewN ?_ _) | (with_reducible refine Kd.C_drew ?_))); (case side2 => exact (Kd.V_reads' HO430.out).2.1); rintro e w151 ⟨rfl, hb⟩; have n0_ := Aside0.mk (Kd.V_below (by (with_reducible repeat (first | apply Kd.V_alloc | apply Kd.V_drewN | apply Kd.V_drew)); exact HO430.out) hb); have n1_ := Aside0.mk (Kd.R_below (by (with_reducible repeat (first | apply Kd.R_alloc | apply Kd.R_drewN | apply Kd.R_drew)); exact HO435.out) hb); have n2_ := Aside0.mk (Kd.R_below (by (with_reducible repeat (first | apply Kd.R_alloc | apply Kd.R_drewN | apply Kd.R_drew)); exact HO439.out) hb); have n3_ := Aside0.mk (Kd.V_below (by (with_reducible repeat (first | apply Kd.V_alloc | apply Kd.V_drewN | apply Kd.V_drew)); exact HO452.out) hb); have n4_ := Aside0.mk (below_step (by repeat (first | (with_reducible first | exact HB.out | apply below_alloc | apply pw_below_drewN | apply below_drew1) | exact HB.out)) hb); clear HO430; clear HO435; clear HO439; clear HO452; clear HB; have HO430 := n0_; have HO435 := n1_; have HO439 := n2_; have HO452 := n3_; have HB := n4_; clear n0_ n1_ n2_ n3_ n4_; (try clear hb); (try clear hb2); (try clear hk); (try clear hi)) | (go_at_call 21; (with_reducible refine (chain_Newer.calls kj4 _ _ t428 a1 t454 _ ?side1 ?side2 A141.out).mono ?_); (case side1 => repeat (first | exact (Kd.V_reads' HO430.out).2.2 | (with_reducible refine Kd.C_alloc ?_ _) | (with_reducible refine Kd.C_drewN ?_ _) | (with_reducible refine Kd.C_drew ?_))); (case side2 => exact (Kd.V_reads' HO430.out).2.1); rintro e w152 ⟨rfl, hb⟩; have n0_ := Aside0.mk (Kd.V_below (by (with_reducible repeat (first | apply Kd.V_alloc | apply Kd.V_drewN | apply Kd.V_drew)); exact HO430.out) hb); have n1_ := Aside0.mk (Kd.R_below (by (with_reducible repeat (first | apply Kd.R_alloc | apply Kd.R_drewN | apply Kd.R_drew)); exact HO435.out) hb); have n2_ := Aside0.mk (Kd.R_below (by (with_reducible repeat (first | apply Kd.R_alloc | apply Kd.R_drewN | apply Kd.R_drew)); exact HO439.out) hb); have n3_ := Aside0.mk (Kd.V_below (by (with_reducible repeat (first | apply Kd.V_alloc | apply Kd.V_drewN | apply Kd.V_drew)); exact HO452.out) hb); have n4_ := Aside0.mk (below_step (by repeat (first | (with_reducible first | exact HB.out | apply below_alloc | apply pw_below_drewN | apply below_drew1) | exact HB.out)) hb); clear HO430; clear HO435; clear HO439; clear HO452; clear HB; have HO430 := n0_; have HO435 := n1_; have HO439 := n2_; have HO452 := n3_; have HB := n4_; clear n0_ n1_ n2_ n3_ n4_; (try clear hb); (try clear hb2); (try clear hk); (try clear hi)))
                              go_ret
                              exact ⟨by first | rfl | (simp [errW_none, errW_some] <;> rfl) | (simp [*, errW_none, errW_some] <;> rfl), by repeat (first | (with_reducible first | exact HB.out | apply below_alloc | apply pw_below_drewN | apply below_drew1) | exact HB.out)⟩
                            · replace c140 := Bool.eq_false_iff.mpr c140
                              subst c140
                              have H1 : (some false) = some r := by rw [if_neg (show ¬ (false = true) by decide)] at H; exact H
                              rw [HTr_] at H1
                              exact absurd (Option.some.inj H1) (by decide)
                          · rw [if_neg c138] at H
                            rw [HTr_] at H
                            exact absurd (Option.some.inj H) (by decide)
                        · rw [if_neg c136] at H
                          rw [HTr_] at H
                          exact absurd (Option.some.inj H) (by decide)
                      · rw [if_neg c135] at H
                        rw [HTr_] at H
                        exact absurd (Option.some.inj H) (by decide)
                    · replace c134 := Bool.eq_false_iff.mpr c134
                      subst c134
                      have H1 : (some false) = some r := by rw [if_neg (show ¬ (false = true) by decide)] at H; exact H
                      rw [HTr_] at H1
                      exact absurd (Option.some.inj H1) (by decide)
                  · rw [if_neg c133] at H
                    have c133b0 : (false == t433) = false := by simpa using c133
                    (try (have c133b1 : decide (false = t433) = false := by simpa using c133))
                    (try (have c133b2 : (false == t433) = false := by simpa using c133))
                    (try (have c133b3 : ¬ (false = t433) := by simpa using c133))
                    clear c133
                    by_cases c193 : t426 = true
                    · subst c193
                      have H1 : (some false) = some r := by rw [if_pos rfl] at H; exact H
                      rw [HTr_] at H1
                      exact absurd (Option.some.inj H1) (by decide)
                    · replace c193 := Bool.eq_false_iff.mpr c193
                      subst c193
                      have H1 : (some false) = some r := by rw [if_neg (show ¬ (false = true) by decide)] at H; exact H
                      rw [HTr_] at H1
                      exact absurd (Option.some.inj H1) (by decide)
                · rw [if_neg c132] at H
                  have c132b0 : decide (a2 < a1) = false := decide_eq_false c132
                  clear c132
                  by_cases c204 : t426 = true
                  · subst c204
                    have H1 : (some false) = some r := by rw [if_pos rfl] at H; exact H
                    rw [HTr_] at H1
                    exact absurd (Option.some.inj H1) (by decide)
                  · replace c204 := Bool.eq_false_iff.mpr c204
                    subst c204
                    have H1 : (some false) = some r := by rw [if_neg (show ¬ (false = true) by decide)] at H; exact H
                    rw [HTr_] at H1
                    exact absurd (Option.some.inj H1) (by decide)
          · rw [if_neg c15] at H
            have c15b0 : decide (a1 ≤ a2) = false := decide_eq_false c15
            clear c15
            by_cases c215 : a2 < a1
            · rw [if_pos c215] at H
              have c215b0 : decide (a2 < a1) = true := decide_eq_true c215
              clear c215
              by_cases c216 : (t437 == t433) = true
              · rw [if_pos c216] at H
                have c216b0 : (t437 == t433) = true := c216
                (try (have c216b1 : decide (t437 = t433) = true := by simpa using c216))
                (try (have c216b2 : (t437 == t433) = true := by simpa using c216))
                clear c216
                by_cases c217 : t426 = true
                · subst c217
                  have H1 : (if (strOfNums t432).toList = (strOfNums t436).toList then (if (t428.length : Int) = (wrap64 ((l0.length : Int) + 1)) then ((chain_Vacuum.f kj4 t428 a1).bind fun t455 => (if (t455.length : Int) = 0 then ((chain_Newer.f kj4 t428 (wrap64 (a1 - 1))).bind fun t458 => (if t458 = true then ((chain_Newer.f kj4 t428 a1).bind fun t459 => (some (!t459))) else (some false))) else (some false))) else (some false)) else (some false)) = some r := by rw [if_pos rfl] at H; exact H
                  clear H
                  have H := H1
                  clear H1
                  by_cases c218 : (strOfNums t432).toList = (strOfNums t436).toList
                  · rw [if_pos c218] at H
                    have c218b0 : ((strOfNums t432).toList == (strOfNums t436).toList) = true := beq_iff_eq.mpr c218
                    have c218b1 : ((strOfNums t432).toList != (strOfNums t436).toList) = false := bne_eq_false_iff_eq.mpr c218
                    clear c218
                    by_cases c219 : (t428.length : Int) = (wrap64 ((l0.length : Int) + 1))
                    · rw [if_pos c219] at H
                      have c219b0 : ((t428.length : Int) == (wrap64 ((l0.length : Int) + 1))) = true := beq_iff_eq.mpr c219
                      have c219b1 : ((t428.length : Int) != (wrap64 ((l0.length : Int) + 1))) = false := bne_eq_false_iff_eq.mpr c219
                      clear c219
                      replace H := Option.bind_eq_some_iff.mp H
                      obtain ⟨t455, A2200, H⟩ := H
                      replace H : (if (t455.length : Int) = 0 then ((chain_Newer.f kj4 t428 (wrap64 (a1 - 1))).bind fun t458 => (if t458 = true then ((chain_Newer.f kj4 t428 a1).bind fun t459 => (some (!t459))) else (some false))) else (some false)) = some r := H
                      have A220 := Aside0.mk A2200
                      clear A2200
                      by_cases c221 : (t455.length : Int) = 0
                      · rw [if_pos c221] at H
                        have c221b0 : ((t455.length : Int) == 0) = true := beq_iff_eq.mpr c221
                        have c221b1 : ((t455.length : Int) != 0) = false := bne_eq_false_iff_eq.mpr c221
                        clear c221
                        replace H := Option.bind_eq_some_iff.mp H
                        obtain ⟨t458, A2220, H⟩ := H
                        replace H : (if t458 = true then ((chain_Newer.f kj4 t428 a1).bind fun t459 => (some (!t459))) else (some false)) = some r := H
                        have A222 := Aside0.mk A2220
                        clear A2220
                        by_cases c223 : t458 = true
                        · subst c223
                          have H1 : ((chain_Newer.f kj4 t428 a1).bind fun t459 => (some (!t459))) = some r := by rw [if_pos rfl] at H; exact H
                          clear H
                          have H := H1
                          clear H1
                          replace H := Option.bind_eq_some_iff.mp H
                          obtain ⟨t459, A2240, H⟩ := H
                          replace H : (some (!t459)) = some r := H
                          have A224 := Aside0.mk A2240
                          clear A2240
                          obtain rfl := Option.some.inj H
                          go_wp2_with (first | ((with_reducible refine gate_callee (f := 14) rfl ?_); refine goesL_ (some 29) rfl rfl Try.func14 (by kernel_rfl) rfl #[.slice A0 l0.length c0, .agg #[.int .i64 a1, .bool true, .slice none 0 0]] rfl (by (try simp only [List.map_toArray, List.map_cons, List.map_nil]); first | done | rfl | (simp only [List.length_drop, List.length_take]; rfl)) ?_; (refine (chain_Install.calls kj4 (fun k_ => k_ < w.heap.size) _ _ l0 a1 true (fun k_ => False) _ _ ([] : List Int) t428 t431 _ ?side1 ?side2 A11.out).mono ?_); (case side1 => exact Kd.V_mk HC0.out (Kd.F_below (Kd.C_F k25_heap HR0.out) (by repeat (first | (with_reducible first | exact HB.out | apply below_alloc | apply pw_below_drewN | apply below_drew1) | exact HB.out)))); (case side2 => exact Kd.V_nil _ _ _ _ _); rintro e w225 ⟨v429, rfl, ho0, hb⟩; refine ⟨_, rfl, ?_⟩; have n0_ := Aside0.mk (Kd.V_lower (Kd.V_mono (ok' := fun k_ => True) ho0 (fun k_ hk_ => trivial)) (below_size (by repeat (first | (with_reducible first | exact HB.out | apply below_alloc | apply pw_below_drewN | apply below_drew1) | exact HB.out)))); have n1_ := Aside0.mk (below_step (by repeat (first | (with_reducible first | exact HB.out | apply below_alloc | apply pw_below_drewN | apply below_drew1) | exact HB.out)) hb); clear HB; have HO430 := n0_; have HB := n1_; clear n0_ n1_; (try clear hb); (try clear hb2); (try clear hk); (try clear hi); (try clear ho0)) | ((with_reducible refine gate_callee (f := 12) rfl ?_); refine goesL_ (some 45) rfl rfl Try.func12 (by kernel_rfl) rfl #[.slice A0 l0.length c0, .int .i64 a2] rfl (by (try simp only [List.map_toArray, List.map_cons, List.map_nil]); first | done | rfl | (simp only [List.length_drop, List.length_take]; rfl)) ?_; (with_reducible refine (chain_Read.calls kj4 _ _ l0 a2 t432 t433 _ ?side1 ?side2 A13.out).mono ?_); (case side1 => repeat (first | exact (Kd.C_below HR0.out HB.out) | (with_reducible refine Kd.C_alloc ?_ _) | (with_reducible refine Kd.C_drewN ?_ _) | (with_reducible refine Kd.C_drew ?_))); (case side2 => exact HC0.out); rintro e w226 ⟨v434, rfl, ho0, hb⟩; refine ⟨_, rfl, ?_⟩; have n0_ := Aside0.mk (Kd.V_elder' (by (with_reducible repeat (first | apply Kd.V_alloc | apply Kd.V_drewN | apply Kd.V_drew)); exact HO430.out) (Kd.R_base ho0) hb); have n1_ := Aside0.mk (Kd.R_lower ho0 (below_size (by repeat (first | (with_reducible first | exact HB.out | apply below_alloc | apply pw_below_drewN | apply below_drew1) | exact HB.out)))); have n2_ := Aside0.mk (below_step (by repeat (first | (with_reducible first | exact HB.out | apply below_alloc | apply pw_below_drewN | apply below_drew1) | exact HB.out)) hb); clear HO430; clear HB; have HO430 := n0_; have HO435 := n1_; have HB := n2_; clear n0_ n1_ n2_; (try clear hb); (try clear hb2); (try clear hk); (try clear hi); (try clear ho0); obtain ⟨Ao227, co227, eo227⟩ := Kd.V_slice HO430.out; subst eo227) | ((with_reducible refine gate_callee (f := 12) rfl ?_); refine goesL_ (some 51) rfl rfl Try.func12 (by kernel_rfl) rfl #[.slice Ao227 t428.length co227, .int .i64 a2] rfl (by (try simp only [List.map_toArray, List.map_cons, List.map_nil]); first | done | rfl | (simp only [List.length_drop, List.length_take]; rfl)) ?_; (with_reducible refine (chain_Read.calls kj4 _ _ t428 a2 t436 t437 _ ?side1 ?side2 A14.out).mono ?_); (case side1 => repeat (first | exact (Kd.V_reads' HO430.out).2.2 | (with_reducible refine Kd.C_alloc ?_ _) | (with_reducible refine Kd.C_drewN ?_ _) | (with_reducible refine Kd.C_drew ?_))); (case side2 => exact (Kd.V_reads' HO430.out).2.1); rintro e w228 ⟨v438, rfl, ho0, hb⟩; refine ⟨_, rfl, ?_⟩; have n0_ := Aside0.mk (Kd.V_elder' (by (with_reducible repeat (first | apply Kd.V_alloc | apply Kd.V_drewN | apply Kd.V_drew)); exact HO430.out) (Kd.R_base ho0) hb); have n1_ := Aside0.mk (Kd.R_elder' (by (with_reducible repeat (first | apply Kd.R_alloc | apply Kd.R_drewN | apply Kd.R_drew)); exact HO435.out) (Kd.R_base ho0) hb); have n2_ := Aside0.mk (Kd.R_lower (Kd.R_new' ho0 (Kd.R_lt (by (with_reducible repeat (first | apply Kd.R_alloc | apply Kd.R_drewN | apply Kd.R_drew)); exact HO435.out))) (below_size (by repeat (first | (with_reducible first | exact HB.out | apply below_alloc | apply pw_below_drewN | apply below_drew1) | exact HB.out)))); have n3_ := Aside0.mk (below_step (by repeat (first | (with_reducible first | exact HB.out | apply below_alloc | apply pw_below_drewN | apply below_drew1) | exact HB.out)) hb); clear HO430; clear HO435; clear HB; have HO430 := n0_; have HO435 := n1_; have HO439 := n2_; have HB := n3_; clear n0_ n1_ n2_ n3_; (try clear hb); (try clear hb2); (try clear hk); (try clear hi); (try clear ho0); have hcv229 := own_string (P := Try.prog) Try.underlying23 Try.underlying5 Try.underlying9 (Kd.own_of_R HO435.out); have hcv230 := own_string (P := Try.prog) Try.underlying23 Try.underlying5 Try.underlying9 (Kd.own_of_R HO439.out)) | (go_at_call 17; (with_reducible refine (chain_Vacuum.calls kj4 _ _ t428 a1 t455 _ ?side1 ?side2 A220.out).mono ?_); (case side1 => repeat (first | exact (Kd.V_reads' HO430.out).2.2 | (with_reducible refine Kd.C_alloc ?_ _) | (with_reducible refine Kd.C_drewN ?_ _) | (with_reducible refine Kd.C_drew ?_))); (case side2 => exact (Kd.V_reads' HO430.out).2.1); rintro e w231 ⟨v456, rfl, ho0, hb⟩; have n0_ := Aside0.mk (Kd.V_below (by (with_reducible repeat (first | apply Kd.V_alloc | apply Kd.V_drewN | apply Kd.V_drew)); exact HO430.out) hb); have n1_ := Aside0.mk (Kd.R_below (by (with_reducible repeat (first | apply Kd.R_alloc | apply Kd.R_drewN | apply Kd.R_drew)); exact HO435.out) hb); have n2_ := Aside0.mk (Kd.R_below (by (with_reducible repeat (first | apply Kd.R_alloc | apply Kd.R_drewN | apply Kd.R_drew)); exact HO439.out) hb); have n3_ := Aside0.mk (Kd.V_lower (Kd.V_mono (ok' := fun k_ => some k_ ≠ (v434 : Value).ownBlock ∧ some k_ ≠ (v438 : Value).ownBlock) ho0 (fun k_ hk_ => ⟨(Kd.fresh' (Kd.R_lt (by (with_reducible repeat (first | apply Kd.R_alloc | apply Kd.R_drewN | apply Kd.R_drew)); exact HO435.out)) k_ hk_), (Kd.fresh' (Kd.R_lt (by (with_reducible repeat (first | apply Kd.R_alloc | apply Kd.R_drewN | apply Kd.R_drew)); exact HO439.out)) k_ hk_)⟩)) (below_size (by repeat (first | (with_reducible first | exact HB.out | apply below_alloc | apply pw_below_drewN | apply below_drew1) | exact HB.out)))); have n4_ := Aside0.mk (below_step (by repeat (first | (with_reducible first | exact HB.out | apply below_alloc | apply pw_below_drewN | apply below_drew1) | exact HB.out)) hb); clear HO430; clear HO435; clear HO439; clear HB; have HO430 := n0_; have HO435 := n1_; have HO439 := n2_; have HO457 := n3_; have HB := n4_; clear n0_ n1_ n2_ n3_ n4_; (try clear hb); (try clear hb2); (try clear hk); (try clear hi); (try clear ho0); obtain ⟨Ao232, co232, eo232⟩ := Kd.V_slice HO457.out; subst eo232) | (go_at_call 21; (with_reducible refine (chain_Newer.calls kj4 _ _ t428 (wrap64 (a1 - 1)) true _ ?side1 ?side2 A222.out).mono ?_); (case side1 => repeat (first | exact (Kd.V_reads' HO430.out).2.2 | (with_reducible refine Kd.C_alloc ?_ _) | (with_reducible refine Kd.C_drewN ?_ _) | (with_reducible refine Kd.C_drew ?_))); (case side2 => exact (Kd.V_reads' HO430.out).2.1); rintro e w233 ⟨rfl, hb⟩; have n0_ := Aside0.mk (Kd.V_below (by (with_reducible repeat (first | apply Kd.V_alloc | apply Kd.V_drewN | apply Kd.V_drew)); exact HO430.out) hb); have n1_ := Aside0.mk (Kd.R_below (by (with_reducible repeat (first | apply Kd.R_alloc | apply Kd.R_drewN | apply Kd.R_drew)); exact HO435.out) hb); have n2_ := Aside0.mk (Kd.R_below (by (with_reducible repeat (first | apply Kd.R_alloc | apply Kd.R_drewN | apply Kd.R_drew)); exact HO439.out) hb); have n3_ := Aside0.mk (Kd.V_below (by (with_reducible repeat (first | apply Kd.V_alloc | apply Kd.V_drewN | apply Kd.V_drew)); exact HO457.out) hb); have n4_ := Aside0.mk (below_step (by repeat (first | (with_reducible first | exact HB.out | apply below_alloc | apply pw_below_drewN | apply below_drew1) | exact HB.out)) hb); clear HO430; clear HO435; clear HO439; clear HO457; clear HB; have HO430 := n0_; have HO435 := n1_; have HO439 := n2_; have HO457 := n3_; have HB := n4_; clear n0_ n1_ n2_ n3_ n4_; (try clear hb); (try clear hb2); (try clear hk); (try clear hi)) | (go_at_call 21; (with_reducible refine (chain_Newer.calls kj4 _ _ t428 a1 t459 _ ?side1 ?side2 A224.out).mono ?_); (case side1 => repeat (first | exact (Kd.V_reads' HO430.out).2.2 | (with_reducible refine Kd.C_alloc ?_ _) | (with_reducible refine Kd.C_drewN ?_ _) | (with_reducible refine Kd.C_drew ?_))); (case side2 => exact (Kd.V_reads' HO430.out).2.1); rintro e w234 ⟨rfl, hb⟩; have n0_ := Aside0.mk (Kd.V_below (by (with_reducible repeat (first | apply Kd.V_alloc | apply Kd.V_drewN | apply Kd.V_drew)); exact HO430.out) hb); have n1_ := Aside0.mk (Kd.R_below (by (with_reducible repeat (first | apply Kd.R_alloc | apply Kd.R_drewN | apply Kd.R_drew)); exact HO435.out) hb); have n2_ := Aside0.mk (Kd.R_below (by (with_reducible repeat (first | apply Kd.R_alloc | apply Kd.R_drewN | apply Kd.R_drew)); exact HO439.out) hb); have n3_ := Aside0.mk (Kd.V_below (by (with_reducible repeat (first | apply Kd.V_alloc | apply Kd.V_drewN | apply Kd.V_drew)); exact HO457.out) hb); have n4_ := Aside0.mk (below_step (by repeat (first | (with_reducible first | exact HB.out | apply below_alloc | apply pw_below_drewN | apply below_drew1) | exact HB.out)) hb); clear HO430; clear HO435; clear HO439; clear HO457; clear HB; have HO430 := n0_; have HO435 := n1_; have HO439 := n2_; have HO457 := n3_; have HB := n4_; clear n0_ n1_ n2_ n3_ n4_; (try clear hb); (try clear hb2); (try clear hk); (try clear hi)))
                          go_ret
                          exact ⟨by first | rfl | (simp [errW_none, errW_some] <;> rfl) | (simp [*, errW_none, errW_some] <;> rfl), by repeat (first | (with_reducible first | exact HB.out | apply below_alloc | apply pw_below_drewN | apply below_drew1) | exact HB.out)⟩
                        · replace c223 := Bool.eq_false_iff.mpr c223
                          subst c223
                          have H1 : (some false) = some r := by rw [if_neg (show ¬ (false = true) by decide)] at H; exact H
                          rw [HTr_] at H1
                          exact absurd (Option.some.inj H1) (by decide)
                      · rw [if_neg c221] at H
                        rw [HTr_] at H
                        exact absurd (Option.some.inj H) (by decide)
                    · rw [if_neg c219] at H
                      rw [HTr_] at H
                      exact absurd (Option.some.inj H) (by decide)
                  · rw [if_neg c218] at H
                    rw [HTr_] at H
                    exact absurd (Option.some.inj H) (by decide)
                · replace c217 := Bool.eq_false_iff.mpr c217
                  subst c217
                  have H1 : (some false) = some r := by rw [if_neg (show ¬ (false = true) by decide)] at H; exact H
                  rw [HTr_] at H1
                  exact absurd (Option.some.inj H1) (by decide)
              · rw [if_neg c216] at H
                have c216b0 : (t437 == t433) = false := by simpa using c216
                (try (have c216b1 : decide (t437 = t433) = false := by simpa using c216))
                (try (have c216b2 : (t437 == t433) = false := by simpa using c216))
                (try (have c216b3 : ¬ (t437 = t433) := by simpa using c216))
                clear c216
                by_cases c270 : t426 = true
                · subst c270
                  have H1 : (some false) = some r := by rw [if_pos rfl] at H; exact H
                  rw [HTr_] at H1
                  exact absurd (Option.some.inj H1) (by decide)
                · replace c270 := Bool.eq_false_iff.mpr c270
                  subst c270
                  have H1 : (some false) = some r := by rw [if_neg (show ¬ (false = true) by decide)] at H; exact H
                  rw [HTr_] at H1
                  exact absurd (Option.some.inj H1) (by decide)
            · rw [if_neg c215] at H
              have c215b0 : decide (a2 < a1) = false := decide_eq_false c215
              clear c215
              by_cases c279 : t426 = true
              · subst c279
                have H1 : (some false) = some r := by rw [if_pos rfl] at H; exact H
                rw [HTr_] at H1
                exact absurd (Option.some.inj H1) (by decide)
              · replace c279 := Bool.eq_false_iff.mpr c279
                subst c279
                have H1 : (some false) = some r := by rw [if_neg (show ¬ (false = true) by decide)] at H; exact H
                rw [HTr_] at H1
                exact absurd (Option.some.inj H1) (by decide)
        · rw [if_neg c12] at H
          have c12b0 : (t431 == 0) = false := beq_eq_false_iff_ne.mpr c12
          have c12b1 : (t431 != 0) = true := bne_iff_ne.mpr c12
          by_cases c288 : t426 = true
          · subst c288
            have H1 : (some ((t428.length : Int) == (l0.length : Int))) = some r := by rw [if_pos rfl] at H; exact H
            clear H
            have H := H1
            clear H1
            obtain rfl := Option.some.inj H
            go_wp2_with (first | ((with_reducible refine gate_callee (f := 14) rfl ?_); refine goesL_ (some 29) rfl rfl Try.func14 (by kernel_rfl) rfl #[.slice A0 l0.length c0, .agg #[.int .i64 a1, .bool true, .slice none 0 0]] rfl (by (try simp only [List.map_toArray, List.map_cons, List.map_nil]); first | done | rfl | (simp only [List.length_drop, List.length_take]; rfl)) ?_; (refine (chain_Install.calls kj4 (fun k_ => k_ < w.heap.size) _ _ l0 a1 true (fun k_ => False) _ _ ([] : List Int) t428 t431 _ ?side1 ?side2 A11.out).mono ?_); (case side1 => exact Kd.V_mk HC0.out (Kd.F_below (Kd.C_F k25_heap HR0.out) (by repeat (first | (with_reducible first | exact HB.out | apply below_alloc | apply pw_below_drewN | apply below_drew1) | exact HB.out)))); (case side2 => exact Kd.V_nil _ _ _ _ _); rintro e w289 ⟨v429, rfl, ho0, hb⟩; refine ⟨_, rfl, ?_⟩; have n0_ := Aside0.mk (Kd.V_lower (Kd.V_mono (ok' := fun k_ => True) ho0 (fun k_ hk_ => trivial)) (below_size (by repeat (first | (with_reducible first | exact HB.out | apply below_alloc | apply pw_below_drewN | apply below_drew1) | exact HB.out)))); have n1_ := Aside0.mk (below_step (by repeat (first | (with_reducible first | exact HB.out | apply below_alloc | apply pw_below_drewN | apply below_drew1) | exact HB.out)) hb); clear HB; have HO430 := n0_; have HB := n1_; clear n0_ n1_; (try clear hb); (try clear hb2); (try clear hk); (try clear hi); (try clear ho0); obtain ⟨Ao290, co290, eo290⟩ := Kd.V_slice HO430.out; subst eo290))
            go_ret
            exact ⟨by first | rfl | (simp [errW_none, errW_some] <;> rfl) | (simp [*, errW_none, errW_some] <;> rfl), by repeat (first | (with_reducible first | exact HB.out | apply below_alloc | apply pw_below_drewN | apply below_drew1) | exact HB.out)⟩
          · replace c288 := Bool.eq_false_iff.mpr c288
            subst c288
            have H1 : (some false) = some r := by rw [if_neg (show ¬ (false = true) by decide)] at H; exact H
            rw [HTr_] at H1
            exact absurd (Option.some.inj H1) (by decide)

/-- The law, plainly. -/
def banksmanlaw05_ChainGone.Pure : Prop := ∀ (l0 : List (S25)) (a1 : Int) (a2 : Int), (fun xs_ : List (S25) => xs_.length ≤ maxLen ∧ ∀ x ∈ xs_, (fun x_ : S25 => (fun n_ : Int => (Lit.int .i64 n_).wf = true) x_.f0 ∧ (fun _ : Bool => True) x_.f1 ∧ (fun xs_ : List Int => xs_.length ≤ maxLen ∧ ∀ x ∈ xs_, (fun n_ : Int => (Lit.int .u8 n_).wf = true) x) x_.f2) x) l0 → (fun n_ : Int => (Lit.int .i64 n_).wf = true) a1 → (fun n_ : Int => (Lit.int .i64 n_).wf = true) a2 → ∃ k, banksmanlaw05_ChainGone.f k l0 a1 a2 = some true

end Go.Proofs.Ytdkfahobgnmglaa.P
