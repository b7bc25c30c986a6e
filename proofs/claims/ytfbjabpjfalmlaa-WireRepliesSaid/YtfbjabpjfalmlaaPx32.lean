import Derived.Test.YtfbjabpjfalmlaaPx0
namespace Go.Proofs.Ytfbjabpjfalmlaa.P
open Go.RowKit Go.Proofs.YtfbjabpjfalmlaaW.PrintWords Go.Proofs.YtfbjabpjfalmlaaW.PrintLast Go.Proofs.YtfbjabpjfalmlaaW.PrintMore
attribute [local go_sem] max2_int min2_int max_two min_two max_three min_three max_four min_four
set_option linter.unusedVariables false
set_option linter.unusedSimpArgs false
def banksmanref07_Pairs.l0 : Nat → List (S47) → List (S47) → Int → Option (Bool)
  | 0, _, _, _ => none
  | k + 1, x0, x1, x5 => if x5 < (x0.length : Int) then (if 0 ≤ x5 then (if x5 < (x1.length : Int) then (if (strOfNums ((rd_T47 x0 x5).f0)).toList = (strOfNums ((rd_T47 x1 x5).f0)).toList then (if (strOfNums ((rd_T47 x0 x5).f1)).toList = (strOfNums ((rd_T47 x1 x5).f1)).toList then (banksmanref07_Pairs.l0 k x0 x1 (wrap64 (x5 + 1))) else (some false)) else (some false)) else (none)) else (none)) else (some true)
def banksmanref07_Pairs.f (k : Nat) (l0 : List (S47)) (l1 : List (S47)) : Option (Bool) := if (l0.length : Int) = (l1.length : Int) then (banksmanref07_Pairs.l0 k l0 l1 0) else (some false)
theorem banksmanref07_Pairs.mono_l : ∀ k, (∀ y0 y1 y2, LeO (banksmanref07_Pairs.l0 k y0 y1 y2) (banksmanref07_Pairs.l0 (k + 1) y0 y1 y2))
  | 0 => fun _ _ _ r h => by simp [banksmanref07_Pairs.l0] at h
  | k + 1 => by
    have ih0 := banksmanref07_Pairs.mono_l k
    · intro y0 y1 y2
      unfold banksmanref07_Pairs.l0
      repeat' first
      | (with_reducible exact ih0 _ _ _)
      | (with_reducible exact LeO.refl _)
      | (with_reducible exact LeO.none _)
      | (with_reducible refine LeO.ite ?_ ?_)
      | (with_reducible refine LeO.bind ?_ (fun _ => ?_))
      | exact ih0 _ _ _
      | exact LeO.none _
      | refine LeO.ite ?_ ?_
      | refine LeO.bind ?_ (fun _ => ?_)
theorem banksmanref07_Pairs.mono : ∀ a0 a1 k, LeO (banksmanref07_Pairs.f k a0 a1) (banksmanref07_Pairs.f (k + 1) a0 a1) := by
  intro a0 a1 k
  have ih0 := banksmanref07_Pairs.mono_l k
  unfold banksmanref07_Pairs.f
  repeat' first
      | (with_reducible exact ih0 _ _ _)
      | (with_reducible exact LeO.refl _)
      | (with_reducible exact LeO.none _)
      | (with_reducible refine LeO.ite ?_ ?_)
      | (with_reducible refine LeO.bind ?_ (fun _ => ?_))
      | exact ih0 _ _ _
      | exact LeO.none _
      | refine LeO.ite ?_ ?_
      | refine LeO.bind ?_ (fun _ => ?_)
set_option maxHeartbeats 8000000 in
set_option maxRecDepth 100000 in
theorem banksmanref07_Pairs.calls (k : Nat) (A0 : Option Addr) (c0 : Nat) (l0 : List (S47)) (A1 : Option Addr) (c1 : Nat) (l1 : List (S47)) (r : Bool) (w : World) (hr0 : Kd.C k47 w A0 l0.length l0) (hc0 : l0.length ≤ c0) (hr1 : Kd.C k47 w A1 l1.length l1) (hc1 : l1.length ≤ c1) (h : banksmanref07_Pairs.f k l0 l1 = some r) :
    Calls Try.prog 36 #[.slice A0 l0.length c0, .slice A1 l1.length c1] w fun e w' => e = .returned (.bool r) ∧ Drawn0 w w' := by
  have HR0 := Aside0.mk hr0
  have HC0 := Aside0.mk hc0
  clear hr0 hc0
  have HR1 := Aside0.mk hr1
  have HC1 := Aside0.mk hc1
  clear hr1 hc1
  have H : (if (l0.length : Int) = (l1.length : Int) then (banksmanref07_Pairs.l0 k l0 l1 0) else (some false)) = some r := h
  clear h
  by_cases c3 : (l0.length : Int) = (l1.length : Int)
  · rw [if_pos c3] at H
    have c3b0 : ((l0.length : Int) == (l1.length : Int)) = true := beq_iff_eq.mpr c3
    have c3b1 : ((l0.length : Int) != (l1.length : Int)) = false := bne_eq_false_iff_eq.mpr c3
    have c3b2 : (l0.length == l1.length) = true := by first | simpa using c3 | (simp at c3 ⊢; omega)
    clear c3
    have H' := Aside0.mk H
    clear H
    go_enter Try.func36, Try.ntmps36
    go_wp2
    repeat (go_quiet (fail); try go_wp2)
    go_loopg [5] k (fun kq v5 w' => ∃ (x5_1 : Int), v5 = .int .i64 x5_1 ∧ Aside0 (banksmanref07_Pairs.l0 kq l0 l1 x5_1 = some r) ∧ Aside0 (kq ≤ k) ∧ Drawn0 w w')
    case atStart => exact ⟨(0), (by first | rfl | (simp; done) | (simp [*]; done)), H', ⟨Nat.le_refl _⟩, by repeat (first | exact Drawn0.refl _ | apply Drawn0.step)⟩
    case round =>
      clear H'
      try clear c1
      try clear p2
      try clear c3
      try clear c3b0
      try clear c3b1
      try clear c3b2
      obtain ⟨x5_1, rfl, HA, HK1, ⟨m1, rfl⟩⟩ := hrel
      cases gk with
      | zero => exact absurd HA.out (by simp [banksmanref07_Pairs.l0])
      | succ k1 =>
        have H := HA.out
        clear HA
        simp only [banksmanref07_Pairs.l0] at H
        by_cases c4 : x5_1 < (l0.length : Int)
        · rw [if_pos c4] at H
          have c4b0 : decide (x5_1 < (l0.length : Int)) = true := decide_eq_true c4
          clear c4
          by_cases c5 : 0 ≤ x5_1
          · rw [if_pos c5] at H
            have c5b0 : decide (0 ≤ x5_1) = true := decide_eq_true c5
            clear c5
            by_cases c6 : x5_1 < (l1.length : Int)
            · rw [if_pos c6] at H
              have c6b0 : decide (x5_1 < (l1.length : Int)) = true := decide_eq_true c6
              clear c6
              by_cases c7 : (strOfNums ((rd_T47 l0 x5_1).f0)).toList = (strOfNums ((rd_T47 l1 x5_1).f0)).toList
              · rw [if_pos c7] at H
                have c7b0 : ((strOfNums ((rd_T47 l0 x5_1).f0)).toList == (strOfNums ((rd_T47 l1 x5_1).f0)).toList) = true := beq_iff_eq.mpr c7
                have c7b1 : ((strOfNums ((rd_T47 l0 x5_1).f0)).toList != (strOfNums ((rd_T47 l1 x5_1).f0)).toList) = false := bne_eq_false_iff_eq.mpr c7
                clear c7
                by_cases c8 : (strOfNums ((rd_T47 l0 x5_1).f1)).toList = (strOfNums ((rd_T47 l1 x5_1).f1)).toList
                · rw [if_pos c8] at H
                  have c8b0 : ((strOfNums ((rd_T47 l0 x5_1).f1)).toList == (strOfNums ((rd_T47 l1 x5_1).f1)).toList) = true := beq_iff_eq.mpr c8
                  have c8b1 : ((strOfNums ((rd_T47 l0 x5_1).f1)).toList != (strOfNums ((rd_T47 l1 x5_1).f1)).toList) = false := bne_eq_false_iff_eq.mpr c8
                  clear c8
                  have H' := Aside0.mk H
                  clear H
                  have p110 : 0 ≤ (x5_1 : Int) := of_decide_eq_true (by first | (with_reducible assumption) | assumption)
                  have q110 : x5_1 < (l0.length : Int) := of_decide_eq_true (by first | (with_reducible assumption) | assumption)
                  obtain ⟨ad110, A110_0, c110_0, A110_1, c110_1, e110, hx110_0, hx110_1, hl110_0, hi110_0, hl110_1, hi110_1⟩ := at_T47 HR0.out x5_1 p110 q110
                  cases e110
                  have HR110_0 := Aside0.mk hi110_0
                  have HC110_0 := Aside0.mk hl110_0
                  clear hi110_0 hl110_0
                  have HR110_1 := Aside0.mk hi110_1
                  have HC110_1 := Aside0.mk hl110_1
                  clear hi110_1 hl110_1
                  replace p110 := eq_true p110
                  replace q110 := eq_true q110
                  have hcv9 := Kd.C_string (P := Try.prog) (A := A110_0) (c := c110_0) Try.underlying22 Try.underlying5 Try.underlying9 HR110_0.out; have hcv9q := fun n_ => Kd.C_string (P := Try.prog) (A := A110_0) (c := c110_0) Try.underlying22 Try.underlying5 Try.underlying9 (Kd.C_drewN HR110_0.out n_)
                  have p111 : 0 ≤ (x5_1 : Int) := of_decide_eq_true (by first | (with_reducible assumption) | assumption)
                  have q111 : x5_1 < (l1.length : Int) := of_decide_eq_true (by first | (with_reducible assumption) | assumption)
                  obtain ⟨ad111, A111_0, c111_0, A111_1, c111_1, e111, hx111_0, hx111_1, hl111_0, hi111_0, hl111_1, hi111_1⟩ := at_T47 HR1.out x5_1 p111 q111
                  cases e111
                  have HR111_0 := Aside0.mk hi111_0
                  have HC111_0 := Aside0.mk hl111_0
                  clear hi111_0 hl111_0
                  have HR111_1 := Aside0.mk hi111_1
                  have HC111_1 := Aside0.mk hl111_1
                  clear hi111_1 hl111_1
                  replace p111 := eq_true p111
                  replace q111 := eq_true q111
                  have hcv10 := Kd.C_string (P := Try.prog) (A := A111_0) (c := c111_0) Try.underlying22 Try.underlying5 Try.underlying9 HR111_0.out; have hcv10q := fun n_ => Kd.C_string (P := Try.prog) (A := A111_0) (c := c111_0) Try.underlying22 Try.underlying5 Try.underlying9 (Kd.C_drewN HR111_0.out n_)
                  have p112 : 0 ≤ (x5_1 : Int) := of_decide_eq_true (by first | (with_reducible assumption) | assumption)
                  have q112 : x5_1 < (l0.length : Int) := of_decide_eq_true (by first | (with_reducible assumption) | assumption)
                  obtain ⟨ad112, A112_0, c112_0, A112_1, c112_1, e112, hx112_0, hx112_1, hl112_0, hi112_0, hl112_1, hi112_1⟩ := at_T47 HR0.out x5_1 p112 q112
                  obtain rfl : ad110 = ad112 := (by injection e112)
                  have HR112_0 := Aside0.mk hi112_0
                  have HC112_0 := Aside0.mk hl112_0
                  clear hi112_0 hl112_0
                  have HR112_1 := Aside0.mk hi112_1
                  have HC112_1 := Aside0.mk hl112_1
                  clear hi112_1 hl112_1
                  replace p112 := eq_true p112
                  replace q112 := eq_true q112
                  have ea_ := Option.some.inj (hx110_0.symm.trans hx112_0)
                  injection ea_ with ea_ en_ ec_
                  subst ea_
                  subst ec_
                  clear en_
                  have ea_ := Option.some.inj (hx110_1.symm.trans hx112_1)
                  injection ea_ with ea_ en_ ec_
                  subst ea_
                  subst ec_
                  clear en_
                  have hcv11 := Kd.C_string (P := Try.prog) (A := A110_1) (c := c110_1) Try.underlying22 Try.underlying5 Try.underlying9 HR112_1.out; have hcv11q := fun n_ => Kd.C_string (P := Try.prog) (A := A110_1) (c := c110_1) Try.underlying22 Try.underlying5 Try.underlying9 (Kd.C_drewN HR112_1.out n_)
                  have p113 : 0 ≤ (x5_1 : Int) := of_decide_eq_true (by first | (with_reducible assumption) | assumption)
                  have q113 : x5_1 < (l1.length : Int) := of_decide_eq_true (by first | (with_reducible assumption) | assumption)
                  obtain ⟨ad113, A113_0, c113_0, A113_1, c113_1, e113, hx113_0, hx113_1, hl113_0, hi113_0, hl113_1, hi113_1⟩ := at_T47 HR1.out x5_1 p113 q113
                  obtain rfl : ad111 = ad113 := (by injection e113)
                  have HR113_0 := Aside0.mk hi113_0
                  have HC113_0 := Aside0.mk hl113_0
                  clear hi113_0 hl113_0
                  have HR113_1 := Aside0.mk hi113_1
                  have HC113_1 := Aside0.mk hl113_1
                  clear hi113_1 hl113_1
                  replace p113 := eq_true p113
                  replace q113 := eq_true q113
                  have ea_ := Option.some.inj (hx111_0.symm.trans hx113_0)
                  injection ea_ with ea_ en_ ec_
                  subst ea_
                  subst ec_
                  clear en_
                  have ea_ := Option.some.inj (hx111_1.symm.trans hx113_1)
                  injection ea_ with ea_ en_ ec_
                  subst ea_
                  subst ec_
                  clear en_
                  have hcv12 := Kd.C_string (P := Try.prog) (A := A111_1) (c := c111_1) Try.underlying22 Try.underlying5 Try.underlying9 HR113_1.out; have hcv12q := fun n_ => Kd.C_string (P := Try.prog) (A := A111_1) (c := c111_1) Try.underlying22 Try.underlying5 Try.underlying9 (Kd.C_drewN HR113_1.out n_)
                  go_wp2
                  repeat (go_quiet (fail); try go_wp2)
                  go_roundg k1
                  case measure => have := HK1.out; omega
                  case rel => exact ⟨(wrap64 (x5_1 + 1)), (by first | rfl | (simp; done) | (simp [*]; done)), H', ⟨by have := HK1.out; omega⟩, by repeat (first | exact Drawn0.refl _ | apply Drawn0.step)⟩
                · rw [if_neg c8] at H
                  have c8b0 : ((strOfNums ((rd_T47 l0 x5_1).f1)).toList == (strOfNums ((rd_T47 l1 x5_1).f1)).toList) = false := beq_eq_false_iff_ne.mpr c8
                  have c8b1 : ((strOfNums ((rd_T47 l0 x5_1).f1)).toList != (strOfNums ((rd_T47 l1 x5_1).f1)).toList) = true := bne_iff_ne.mpr c8
                  obtain rfl := Option.some.inj H
                  have p110 : 0 ≤ (x5_1 : Int) := of_decide_eq_true (by first | (with_reducible assumption) | assumption)
                  have q110 : x5_1 < (l0.length : Int) := of_decide_eq_true (by first | (with_reducible assumption) | assumption)
                  obtain ⟨ad110, A110_0, c110_0, A110_1, c110_1, e110, hx110_0, hx110_1, hl110_0, hi110_0, hl110_1, hi110_1⟩ := at_T47 HR0.out x5_1 p110 q110
                  cases e110
                  have HR110_0 := Aside0.mk hi110_0
                  have HC110_0 := Aside0.mk hl110_0
                  clear hi110_0 hl110_0
                  have HR110_1 := Aside0.mk hi110_1
                  have HC110_1 := Aside0.mk hl110_1
                  clear hi110_1 hl110_1
                  replace p110 := eq_true p110
                  replace q110 := eq_true q110
                  have hcv13 := Kd.C_string (P := Try.prog) (A := A110_0) (c := c110_0) Try.underlying22 Try.underlying5 Try.underlying9 HR110_0.out; have hcv13q := fun n_ => Kd.C_string (P := Try.prog) (A := A110_0) (c := c110_0) Try.underlying22 Try.underlying5 Try.underlying9 (Kd.C_drewN HR110_0.out n_)
                  have p111 : 0 ≤ (x5_1 : Int) := of_decide_eq_true (by first | (with_reducible assumption) | assumption)
                  have q111 : x5_1 < (l1.length : Int) := of_decide_eq_true (by first | (with_reducible assumption) | assumption)
                  obtain ⟨ad111, A111_0, c111_0, A111_1, c111_1, e111, hx111_0, hx111_1, hl111_0, hi111_0, hl111_1, hi111_1⟩ := at_T47 HR1.out x5_1 p111 q111
                  cases e111
                  have HR111_0 := Aside0.mk hi111_0
                  have HC111_0 := Aside0.mk hl111_0
                  clear hi111_0 hl111_0
                  have HR111_1 := Aside0.mk hi111_1
                  have HC111_1 := Aside0.mk hl111_1
                  clear hi111_1 hl111_1
                  replace p111 := eq_true p111
                  replace q111 := eq_true q111
                  have hcv14 := Kd.C_string (P := Try.prog) (A := A111_0) (c := c111_0) Try.underlying22 Try.underlying5 Try.underlying9 HR111_0.out; have hcv14q := fun n_ => Kd.C_string (P := Try.prog) (A := A111_0) (c := c111_0) Try.underlying22 Try.underlying5 Try.underlying9 (Kd.C_drewN HR111_0.out n_)
                  have p112 : 0 ≤ (x5_1 : Int) := of_decide_eq_true (by first | (with_reducible assumption) | assumption)
                  have q112 : x5_1 < (l0.length : Int) := of_decide_eq_true (by first | (with_reducible assumption) | assumption)
                  obtain ⟨ad112, A112_0, c112_0, A112_1, c112_1, e112, hx112_0, hx112_1, hl112_0, hi112_0, hl112_1, hi112_1⟩ := at_T47 HR0.out x5_1 p112 q112
                  obtain rfl : ad110 = ad112 := (by injection e112)
                  have HR112_0 := Aside0.mk hi112_0
                  have HC112_0 := Aside0.mk hl112_0
                  clear hi112_0 hl112_0
                  have HR112_1 := Aside0.mk hi112_1
                  have HC112_1 := Aside0.mk hl112_1
                  clear hi112_1 hl112_1
                  replace p112 := eq_true p112
                  replace q112 := eq_true q112
                  have ea_ := Option.some.inj (hx110_0.symm.trans hx112_0)
                  injection ea_ with ea_ en_ ec_
                  subst ea_
                  subst ec_
                  clear en_
                  have ea_ := Option.some.inj (hx110_1.symm.trans hx112_1)
                  injection ea_ with ea_ en_ ec_
                  subst ea_
                  subst ec_
                  clear en_
                  have hcv15 := Kd.C_string (P := Try.prog) (A := A110_1) (c := c110_1) Try.underlying22 Try.underlying5 Try.underlying9 HR112_1.out; have hcv15q := fun n_ => Kd.C_string (P := Try.prog) (A := A110_1) (c := c110_1) Try.underlying22 Try.underlying5 Try.underlying9 (Kd.C_drewN HR112_1.out n_)
                  have p113 : 0 ≤ (x5_1 : Int) := of_decide_eq_true (by first | (with_reducible assumption) | assumption)
                  have q113 : x5_1 < (l1.length : Int) := of_decide_eq_true (by first | (with_reducible assumption) | assumption)
                  obtain ⟨ad113, A113_0, c113_0, A113_1, c113_1, e113, hx113_0, hx113_1, hl113_0, hi113_0, hl113_1, hi113_1⟩ := at_T47 HR1.out x5_1 p113 q113
                  obtain rfl : ad111 = ad113 := (by injection e113)
                  have HR113_0 := Aside0.mk hi113_0
                  have HC113_0 := Aside0.mk hl113_0
                  clear hi113_0 hl113_0
                  have HR113_1 := Aside0.mk hi113_1
                  have HC113_1 := Aside0.mk hl113_1
                  clear hi113_1 hl113_1
                  replace p113 := eq_true p113
                  replace q113 := eq_true q113
                  have ea_ := Option.some.inj (hx111_0.symm.trans hx113_0)
                  injection ea_ with ea_ en_ ec_
                  subst ea_
                  subst ec_
                  clear en_
                  have ea_ := Option.some.inj (hx111_1.symm.trans hx113_1)
                  injection ea_ with ea_ en_ ec_
                  subst ea_
                  subst ec_
                  clear en_
                  have hcv16 := Kd.C_string (P := Try.prog) (A := A111_1) (c := c111_1) Try.underlying22 Try.underlying5 Try.underlying9 HR113_1.out; have hcv16q := fun n_ => Kd.C_string (P := Try.prog) (A := A111_1) (c := c111_1) Try.underlying22 Try.underlying5 Try.underlying9 (Kd.C_drewN HR113_1.out n_)
                  go_wp2
                  repeat (go_quiet (fail); try go_wp2)
                  go_ret
                  exact ⟨by first | rfl | (simp; done) | (simp [*]; done), by repeat (first | exact Drawn0.refl _ | apply Drawn0.step)⟩
              · rw [if_neg c7] at H
                have c7b0 : ((strOfNums ((rd_T47 l0 x5_1).f0)).toList == (strOfNums ((rd_T47 l1 x5_1).f0)).toList) = false := beq_eq_false_iff_ne.mpr c7
                have c7b1 : ((strOfNums ((rd_T47 l0 x5_1).f0)).toList != (strOfNums ((rd_T47 l1 x5_1).f0)).toList) = true := bne_iff_ne.mpr c7
                obtain rfl := Option.some.inj H
                have p110 : 0 ≤ (x5_1 : Int) := of_decide_eq_true (by first | (with_reducible assumption) | assumption)
                have q110 : x5_1 < (l0.length : Int) := of_decide_eq_true (by first | (with_reducible assumption) | assumption)
                obtain ⟨ad110, A110_0, c110_0, A110_1, c110_1, e110, hx110_0, hx110_1, hl110_0, hi110_0, hl110_1, hi110_1⟩ := at_T47 HR0.out x5_1 p110 q110
                cases e110
                have HR110_0 := Aside0.mk hi110_0
                have HC110_0 := Aside0.mk hl110_0
                clear hi110_0 hl110_0
                have HR110_1 := Aside0.mk hi110_1
                have HC110_1 := Aside0.mk hl110_1
                clear hi110_1 hl110_1
                replace p110 := eq_true p110
                replace q110 := eq_true q110
                have hcv17 := Kd.C_string (P := Try.prog) (A := A110_0) (c := c110_0) Try.underlying22 Try.underlying5 Try.underlying9 HR110_0.out; have hcv17q := fun n_ => Kd.C_string (P := Try.prog) (A := A110_0) (c := c110_0) Try.underlying22 Try.underlying5 Try.underlying9 (Kd.C_drewN HR110_0.out n_)
                have p111 : 0 ≤ (x5_1 : Int) := of_decide_eq_true (by first | (with_reducible assumption) | assumption)
                have q111 : x5_1 < (l1.length : Int) := of_decide_eq_true (by first | (with_reducible assumption) | assumption)
                obtain ⟨ad111, A111_0, c111_0, A111_1, c111_1, e111, hx111_0, hx111_1, hl111_0, hi111_0, hl111_1, hi111_1⟩ := at_T47 HR1.out x5_1 p111 q111
                cases e111
                have HR111_0 := Aside0.mk hi111_0
                have HC111_0 := Aside0.mk hl111_0
                clear hi111_0 hl111_0
                have HR111_1 := Aside0.mk hi111_1
                have HC111_1 := Aside0.mk hl111_1
                clear hi111_1 hl111_1
                replace p111 := eq_true p111
                replace q111 := eq_true q111
                have hcv18 := Kd.C_string (P := Try.prog) (A := A111_0) (c := c111_0) Try.underlying22 Try.underlying5 Try.underlying9 HR111_0.out; have hcv18q := fun n_ => Kd.C_string (P := Try.prog) (A := A111_0) (c := c111_0) Try.underlying22 Try.underlying5 Try.underlying9 (Kd.C_drewN HR111_0.out n_)
                go_wp2
                repeat (go_quiet (fail); try go_wp2)
                go_ret
                exact ⟨by first | rfl | (simp; done) | (simp [*]; done), by repeat (first | exact Drawn0.refl _ | apply Drawn0.step)⟩
            · rw [if_neg c6] at H
              exact absurd H (by simp)
          · rw [if_neg c5] at H
            exact absurd H (by simp)
        · rw [if_neg c4] at H
          have c4b0 : decide (x5_1 < (l0.length : Int)) = false := decide_eq_false c4
          clear c4
          obtain rfl := Option.some.inj H
          go_wp2
          repeat (go_quiet (fail); try go_wp2)
          go_ret
          exact ⟨by first | rfl | (simp; done) | (simp [*]; done), by repeat (first | exact Drawn0.refl _ | apply Drawn0.step)⟩
  · rw [if_neg c3] at H
    have c3b0 : ((l0.length : Int) == (l1.length : Int)) = false := beq_eq_false_iff_ne.mpr c3
    have c3b1 : ((l0.length : Int) != (l1.length : Int)) = true := bne_iff_ne.mpr c3
    have c3b2 : (l0.length == l1.length) = false := by first | simpa using c3 | (simp at c3 ⊢; omega)
    obtain rfl := Option.some.inj H
    go_enter Try.func36, Try.ntmps36
    go_wp2
    repeat (go_quiet (fail); try go_wp2)
    go_ret
    exact ⟨by first | rfl | (simp; done) | (simp [*]; done), by repeat (first | exact Drawn0.refl _ | apply Drawn0.step)⟩
end Go.Proofs.Ytfbjabpjfalmlaa.P
