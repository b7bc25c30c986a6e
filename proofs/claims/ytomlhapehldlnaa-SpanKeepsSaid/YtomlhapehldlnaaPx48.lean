-- Written by wip/gprint.py, a program of this session over the kit's print; Lean checks it.
import Derived.Test.YtomlhapehldlnaaPx0
namespace Go.Proofs.Ytomlhapehldlnaa.P
open Go.RowKit Go.Proofs.YtomlhapehldlnaaW.PrintWords Go.Proofs.YtomlhapehldlnaaW.PrintLast Go.Proofs.YtomlhapehldlnaaW.PrintMore
attribute [local go_sem] max2_int min2_int max_two min_two max_three min_three max_four min_four   -- for this text's walks alone
set_option linter.unusedVariables false
set_option linter.unusedSimpArgs false

/-! ### banksmanref10_Few: function 24 -/
def banksmanref10_Few.l0 : Nat → List (S24) → Int → Option (Bool)
  | 0, _, _ => none
  | k + 1, x0, x3 => if x3 < (x0.length : Int) then (if 0 ≤ x3 then (if (((rd_T24 x0 x3).f1).length : Int) > 100 then (some false) else (if (((rd_T24 x0 x3).f2).length : Int) > 100 then (some false) else (banksmanref10_Few.l0 k x0 (wrap64 (x3 + 1))))) else (none)) else (some true)
def banksmanref10_Few.f (k : Nat) (l0 : List (S24)) : Option (Bool) := if (l0.length : Int) > 100 then (some false) else (banksmanref10_Few.l0 k l0 0)
set_option maxHeartbeats 8000000 in
set_option maxRecDepth 100000 in
theorem banksmanref10_Few.calls (k : Nat) (A0 : Option Addr) (c0 : Nat) (l0 : List (S24)) (r : Bool) (w : World) (hr0 : Kd.C k24 w A0 l0.length l0) (hc0 : l0.length ≤ c0) (h : banksmanref10_Few.f k l0 = some r) :
    Calls Try.prog 24 #[.slice A0 l0.length c0] w fun e w' => e = .returned (.bool r) ∧ Drawn0 w w' := by
  have HR0 := Aside0.mk hr0
  have HC0 := Aside0.mk hc0
  clear hr0 hc0
  have H : (if (l0.length : Int) > 100 then (some false) else (banksmanref10_Few.l0 k l0 0)) = some r := h
  clear h
  by_cases c2 : (l0.length : Int) > 100
  · rw [if_pos c2] at H
    have c2b0 : decide (100 < (l0.length : Int)) = true := decide_eq_true c2
    have c2b1 : decide (100 < l0.length) = true := decide_eq_true (by omega)
    clear c2
    obtain rfl := Option.some.inj H
    go_enter Try.func24, Try.ntmps24
    go_wp2
    go_ret
    exact ⟨by first | rfl | (simp; done) | (simp [*]; done), by repeat (first | exact Drawn0.refl _ | apply Drawn0.step)⟩
  · rw [if_neg c2] at H
    have c2b0 : decide (100 < (l0.length : Int)) = false := decide_eq_false c2
    have c2b1 : decide (100 < l0.length) = false := decide_eq_false (by omega)
    clear c2
    have H' := Aside0.mk H
    clear H
    go_enter Try.func24, Try.ntmps24
    go_wp2
    go_loopg [3] k (fun kq v3 w' => ∃ (x3_1 : Int), v3 = .int .i64 x3_1 ∧ Aside0 (banksmanref10_Few.l0 kq l0 x3_1 = some r) ∧ Aside0 (kq ≤ k) ∧ Drawn0 w w')
    case atStart => exact ⟨(0), (by first | rfl | (simp; done) | (simp [*]; done)), H', ⟨Nat.le_refl _⟩, by repeat (first | exact Drawn0.refl _ | apply Drawn0.step)⟩
    case round =>
      clear H'
      try clear c2
      try clear c2b0
      try clear c2b1
      try clear p2
      obtain ⟨x3_1, rfl, HA, HK1, ⟨m1, rfl⟩⟩ := hrel
      cases gk with
      | zero => exact absurd HA.out (by simp [banksmanref10_Few.l0])
      | succ k1 =>
        have H := HA.out
        clear HA
        simp only [banksmanref10_Few.l0] at H
        by_cases c3 : x3_1 < (l0.length : Int)
        · rw [if_pos c3] at H
          have c3b0 : decide (x3_1 < (l0.length : Int)) = true := decide_eq_true c3
          clear c3
          by_cases c4 : 0 ≤ x3_1
          · rw [if_pos c4] at H
            have c4b0 : decide (0 ≤ x3_1) = true := decide_eq_true c4
            clear c4
            by_cases c5 : (((rd_T24 l0 x3_1).f1).length : Int) > 100
            · rw [if_pos c5] at H
              have c5b0 : decide (100 < (((rd_T24 l0 x3_1).f1).length : Int)) = true := decide_eq_true c5
              have c5b1 : decide (100 < ((rd_T24 l0 x3_1).f1).length) = true := decide_eq_true (by omega)
              clear c5
              obtain rfl := Option.some.inj H
              have p200 : 0 ≤ (x3_1 : Int) := of_decide_eq_true (by first | (with_reducible assumption) | assumption)
              have q200 : x3_1 < (l0.length : Int) := of_decide_eq_true (by first | (with_reducible assumption) | assumption)
              obtain ⟨ad200, A200_1, c200_1, A200_2, c200_2, e200, hx200_0, hx200_1, hx200_2, hx200_3, hl200_1, hi200_1, hl200_2, hi200_2⟩ := at_T24 HR0.out x3_1 p200 q200
              cases e200
              have HR200_1 := Aside0.mk hi200_1
              have HC200_1 := Aside0.mk hl200_1
              clear hi200_1 hl200_1
              have HR200_2 := Aside0.mk hi200_2
              have HC200_2 := Aside0.mk hl200_2
              clear hi200_2 hl200_2
              replace p200 := eq_true p200
              replace q200 := eq_true q200
              go_wp2
              go_ret
              exact ⟨by first | rfl | (simp; done) | (simp [*]; done), by repeat (first | exact Drawn0.refl _ | apply Drawn0.step)⟩
            · rw [if_neg c5] at H
              have c5b0 : decide (100 < (((rd_T24 l0 x3_1).f1).length : Int)) = false := decide_eq_false c5
              have c5b1 : decide (100 < ((rd_T24 l0 x3_1).f1).length) = false := decide_eq_false (by omega)
              clear c5
              by_cases c6 : (((rd_T24 l0 x3_1).f2).length : Int) > 100
              · rw [if_pos c6] at H
                have c6b0 : decide (100 < (((rd_T24 l0 x3_1).f2).length : Int)) = true := decide_eq_true c6
                have c6b1 : decide (100 < ((rd_T24 l0 x3_1).f2).length) = true := decide_eq_true (by omega)
                clear c6
                obtain rfl := Option.some.inj H
                have p200 : 0 ≤ (x3_1 : Int) := of_decide_eq_true (by first | (with_reducible assumption) | assumption)
                have q200 : x3_1 < (l0.length : Int) := of_decide_eq_true (by first | (with_reducible assumption) | assumption)
                obtain ⟨ad200, A200_1, c200_1, A200_2, c200_2, e200, hx200_0, hx200_1, hx200_2, hx200_3, hl200_1, hi200_1, hl200_2, hi200_2⟩ := at_T24 HR0.out x3_1 p200 q200
                cases e200
                have HR200_1 := Aside0.mk hi200_1
                have HC200_1 := Aside0.mk hl200_1
                clear hi200_1 hl200_1
                have HR200_2 := Aside0.mk hi200_2
                have HC200_2 := Aside0.mk hl200_2
                clear hi200_2 hl200_2
                replace p200 := eq_true p200
                replace q200 := eq_true q200
                have p201 : 0 ≤ (x3_1 : Int) := of_decide_eq_true (by first | (with_reducible assumption) | assumption)
                have q201 : x3_1 < (l0.length : Int) := of_decide_eq_true (by first | (with_reducible assumption) | assumption)
                obtain ⟨ad201, A201_1, c201_1, A201_2, c201_2, e201, hx201_0, hx201_1, hx201_2, hx201_3, hl201_1, hi201_1, hl201_2, hi201_2⟩ := at_T24 HR0.out x3_1 p201 q201
                obtain rfl : ad200 = ad201 := (by injection e201)
                have HR201_1 := Aside0.mk hi201_1
                have HC201_1 := Aside0.mk hl201_1
                clear hi201_1 hl201_1
                have HR201_2 := Aside0.mk hi201_2
                have HC201_2 := Aside0.mk hl201_2
                clear hi201_2 hl201_2
                replace p201 := eq_true p201
                replace q201 := eq_true q201
                have ea_ := Option.some.inj (hx200_1.symm.trans hx201_1)
                injection ea_ with ea_ en_ ec_
                subst ea_
                subst ec_
                clear en_
                have ea_ := Option.some.inj (hx200_2.symm.trans hx201_2)
                injection ea_ with ea_ en_ ec_
                subst ea_
                subst ec_
                clear en_
                go_wp2
                go_ret
                exact ⟨by first | rfl | (simp; done) | (simp [*]; done), by repeat (first | exact Drawn0.refl _ | apply Drawn0.step)⟩
              · rw [if_neg c6] at H
                have c6b0 : decide (100 < (((rd_T24 l0 x3_1).f2).length : Int)) = false := decide_eq_false c6
                have c6b1 : decide (100 < ((rd_T24 l0 x3_1).f2).length) = false := decide_eq_false (by omega)
                clear c6
                have H' := Aside0.mk H
                clear H
                have p200 : 0 ≤ (x3_1 : Int) := of_decide_eq_true (by first | (with_reducible assumption) | assumption)
                have q200 : x3_1 < (l0.length : Int) := of_decide_eq_true (by first | (with_reducible assumption) | assumption)
                obtain ⟨ad200, A200_1, c200_1, A200_2, c200_2, e200, hx200_0, hx200_1, hx200_2, hx200_3, hl200_1, hi200_1, hl200_2, hi200_2⟩ := at_T24 HR0.out x3_1 p200 q200
                cases e200
                have HR200_1 := Aside0.mk hi200_1
                have HC200_1 := Aside0.mk hl200_1
                clear hi200_1 hl200_1
                have HR200_2 := Aside0.mk hi200_2
                have HC200_2 := Aside0.mk hl200_2
                clear hi200_2 hl200_2
                replace p200 := eq_true p200
                replace q200 := eq_true q200
                have p201 : 0 ≤ (x3_1 : Int) := of_decide_eq_true (by first | (with_reducible assumption) | assumption)
                have q201 : x3_1 < (l0.length : Int) := of_decide_eq_true (by first | (with_reducible assumption) | assumption)
                obtain ⟨ad201, A201_1, c201_1, A201_2, c201_2, e201, hx201_0, hx201_1, hx201_2, hx201_3, hl201_1, hi201_1, hl201_2, hi201_2⟩ := at_T24 HR0.out x3_1 p201 q201
                obtain rfl : ad200 = ad201 := (by injection e201)
                have HR201_1 := Aside0.mk hi201_1
                have HC201_1 := Aside0.mk hl201_1
                clear hi201_1 hl201_1
                have HR201_2 := Aside0.mk hi201_2
                have HC201_2 := Aside0.mk hl201_2
                clear hi201_2 hl201_2
                replace p201 := eq_true p201
                replace q201 := eq_true q201
                have ea_ := Option.some.inj (hx200_1.symm.trans hx201_1)
                injection ea_ with ea_ en_ ec_
                subst ea_
                subst ec_
                clear en_
                have ea_ := Option.some.inj (hx200_2.symm.trans hx201_2)
                injection ea_ with ea_ en_ ec_
                subst ea_
                subst ec_
                clear en_
                go_wp2
                go_roundg k1
                case measure => have := HK1.out; omega
                case rel => exact ⟨(wrap64 (x3_1 + 1)), (by first | rfl | (simp; done) | (simp [*]; done)), H', ⟨by have := HK1.out; omega⟩, by repeat (first | exact Drawn0.refl _ | apply Drawn0.step)⟩
          · rw [if_neg c4] at H
            exact absurd H (by simp)
        · rw [if_neg c3] at H
          have c3b0 : decide (x3_1 < (l0.length : Int)) = false := decide_eq_false c3
          clear c3
          obtain rfl := Option.some.inj H
          go_wp2
          go_ret
          exact ⟨by first | rfl | (simp; done) | (simp [*]; done), by repeat (first | exact Drawn0.refl _ | apply Drawn0.step)⟩

end Go.Proofs.Ytomlhapehldlnaa.P
