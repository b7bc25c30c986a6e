-- Written by wip/gprint.py, a program of this session over the kit's print; Lean checks it.
import Derived.Test.YtpknchaajgkbnaaPx0
namespace Go.Proofs.Ytpknchaajgkbnaa.P
open Go.RowKit Go.Proofs.YtpknchaajgkbnaaW.PrintWords Go.Proofs.YtpknchaajgkbnaaW.PrintLast Go.Proofs.YtpknchaajgkbnaaW.PrintMore
attribute [local go_sem] max2_int min2_int max_two min_two max_three min_three max_four min_four   -- for this text's walks alone
set_option linter.unusedVariables false
set_option linter.unusedSimpArgs false

/-! ### banksmanref10_Few: function 15 -/
def banksmanref10_Few.l0 : Nat → List (S38) → Int → Option (Bool)
  | 0, _, _ => none
  | k + 1, x0, x3 => if x3 < (x0.length : Int) then (if 0 ≤ x3 then (if (((rd_T38 x0 x3).f1).length : Int) > 100 then (some false) else (if (((rd_T38 x0 x3).f2).length : Int) > 100 then (some false) else (banksmanref10_Few.l0 k x0 (wrap64 (x3 + 1))))) else (none)) else (some true)
def banksmanref10_Few.f (k : Nat) (l0 : List (S38)) : Option (Bool) := if (l0.length : Int) > 100 then (some false) else (banksmanref10_Few.l0 k l0 0)
set_option maxHeartbeats 8000000 in
set_option maxRecDepth 100000 in
theorem banksmanref10_Few.calls (k : Nat) (A0 : Option Addr) (c0 : Nat) (l0 : List (S38)) (r : Bool) (w : World) (hr0 : Kd.C k38 w A0 l0.length l0) (hc0 : l0.length ≤ c0) (h : banksmanref10_Few.f k l0 = some r) :
    Calls Try.prog 15 #[.slice A0 l0.length c0] w fun e w' => e = .returned (.bool r) ∧ Drawn0 w w' := by
  have HR0 := Aside0.mk hr0
  have HC0 := Aside0.mk hc0
  clear hr0 hc0
  have H : (if (l0.length : Int) > 100 then (some false) else (banksmanref10_Few.l0 k l0 0)) = some r := h
  clear h
  by_cases c2 : (l0.length : Int) > 100
  · rw [if_pos c2] at H
    have c2b0 : decide (100 < (l0.length : Int)) = true := decide_eq_true c2
    have c2b1 : decide (100 < l0.length) = true := decide_eq_true (by omega)
    clear c2
    obtain rfl := Option.some.inj H
    go_enter Try.func15, Try.ntmps15
    go_wp2
    go_ret
    exact ⟨by first | rfl | (simp; done) | (simp [*]; done), by repeat (first | exact Drawn0.refl _ | apply Drawn0.step)⟩
  · rw [if_neg c2] at H
    have c2b0 : decide (100 < (l0.length : Int)) = false := decide_eq_false c2
    have c2b1 : decide (100 < l0.length) = false := decide_eq_false (by omega)
    clear c2
    have H' := Aside0.mk H
    clear H
    go_enter Try.func15, Try.ntmps15
    go_wp2
    go_loopg [3] k (fun kq v3 w' => ∃ (x3_1 : Int), v3 = .int .i64 x3_1 ∧ Aside0 (banksmanref10_Few.l0 kq l0 x3_1 = some r) ∧ Aside0 (kq ≤ k) ∧ Drawn0 w w')
    case atStart => exact ⟨(0), (by first | rfl | (simp; done) | (simp [*]; done)), H', ⟨Nat.le_refl _⟩, by repeat (first | exact Drawn0.refl _ | apply Drawn0.step)⟩
    case round =>
      clear H'
      try clear c1
      try clear c2
      try clear c2b0
      try clear c2b1
      try clear p2
      obtain ⟨x3_1, rfl, HA, HK1, ⟨m1, rfl⟩⟩ := hrel
      cases gk with
      | zero => exact absurd HA.out (by simp [banksmanref10_Few.l0])
      | succ k1 =>
        have H := HA.out
        clear HA
        simp only [banksmanref10_Few.l0] at H
        by_cases c3 : x3_1 < (l0.length : Int)
        · rw [if_pos c3] at H
          have c3b0 : decide (x3_1 < (l0.length : Int)) = true := decide_eq_true c3
          clear c3
          by_cases c4 : 0 ≤ x3_1
          · rw [if_pos c4] at H
            have c4b0 : decide (0 ≤ x3_1) = true := decide_eq_true c4
            clear c4
            by_cases c5 : (((rd_T38 l0 x3_1).f1).length : Int) > 100
            · rw [if_pos c5] at H
              have c5b0 : decide (100 < (((rd_T38 l0 x3_1).f1).length : Int)) = true := decide_eq_true c5
              have c5b1 : decide (100 < ((rd_T38 l0 x3_1).f1).length) = true := decide_eq_true (by omega)
              clear c5
              obtain rfl := Option.some.inj H
              have p138 : 0 ≤ (x3_1 : Int) := of_decide_eq_true (by first | (with_reducible assumption) | assumption)
              have q138 : x3_1 < (l0.length : Int) := of_decide_eq_true (by first | (with_reducible assumption) | assumption)
              obtain ⟨ad138, A138_1, c138_1, A138_2, c138_2, e138, hx138_0, hx138_1, hx138_2, hx138_3, hl138_1, hi138_1, hl138_2, hi138_2⟩ := at_T38 HR0.out x3_1 p138 q138
              cases e138
              have HR138_1 := Aside0.mk hi138_1
              have HC138_1 := Aside0.mk hl138_1
              clear hi138_1 hl138_1
              have HR138_2 := Aside0.mk hi138_2
              have HC138_2 := Aside0.mk hl138_2
              clear hi138_2 hl138_2
              replace p138 := eq_true p138
              replace q138 := eq_true q138
              go_wp2
              go_ret
              exact ⟨by first | rfl | (simp; done) | (simp [*]; done), by repeat (first | exact Drawn0.refl _ | apply Drawn0.step)⟩
            · rw [if_neg c5] at H
              have c5b0 : decide (100 < (((rd_T38 l0 x3_1).f1).length : Int)) = false := decide_eq_false c5
              have c5b1 : decide (100 < ((rd_T38 l0 x3_1).f1).length) = false := decide_eq_false (by omega)
              clear c5
              by_cases c6 : (((rd_T38 l0 x3_1).f2).length : Int) > 100
              · rw [if_pos c6] at H
                have c6b0 : decide (100 < (((rd_T38 l0 x3_1).f2).length : Int)) = true := decide_eq_true c6
                have c6b1 : decide (100 < ((rd_T38 l0 x3_1).f2).length) = true := decide_eq_true (by omega)
                clear c6
                obtain rfl := Option.some.inj H
                have p138 : 0 ≤ (x3_1 : Int) := of_decide_eq_true (by first | (with_reducible assumption) | assumption)
                have q138 : x3_1 < (l0.length : Int) := of_decide_eq_true (by first | (with_reducible assumption) | assumption)
                obtain ⟨ad138, A138_1, c138_1, A138_2, c138_2, e138, hx138_0, hx138_1, hx138_2, hx138_3, hl138_1, hi138_1, hl138_2, hi138_2⟩ := at_T38 HR0.out x3_1 p138 q138
                cases e138
                have HR138_1 := Aside0.mk hi138_1
                have HC138_1 := Aside0.mk hl138_1
                clear hi138_1 hl138_1
                have HR138_2 := Aside0.mk hi138_2
                have HC138_2 := Aside0.mk hl138_2
                clear hi138_2 hl138_2
                replace p138 := eq_true p138
                replace q138 := eq_true q138
                have p139 : 0 ≤ (x3_1 : Int) := of_decide_eq_true (by first | (with_reducible assumption) | assumption)
                have q139 : x3_1 < (l0.length : Int) := of_decide_eq_true (by first | (with_reducible assumption) | assumption)
                obtain ⟨ad139, A139_1, c139_1, A139_2, c139_2, e139, hx139_0, hx139_1, hx139_2, hx139_3, hl139_1, hi139_1, hl139_2, hi139_2⟩ := at_T38 HR0.out x3_1 p139 q139
                obtain rfl : ad138 = ad139 := (by injection e139)
                have HR139_1 := Aside0.mk hi139_1
                have HC139_1 := Aside0.mk hl139_1
                clear hi139_1 hl139_1
                have HR139_2 := Aside0.mk hi139_2
                have HC139_2 := Aside0.mk hl139_2
                clear hi139_2 hl139_2
                replace p139 := eq_true p139
                replace q139 := eq_true q139
                have ea_ := Option.some.inj (hx138_1.symm.trans hx139_1)
                injection ea_ with ea_ en_ ec_
                subst ea_
                subst ec_
                clear en_
                have ea_ := Option.some.inj (hx138_2.symm.trans hx139_2)
                injection ea_ with ea_ en_ ec_
                subst ea_
                subst ec_
                clear en_
                go_wp2
                go_ret
                exact ⟨by first | rfl | (simp; done) | (simp [*]; done), by repeat (first | exact Drawn0.refl _ | apply Drawn0.step)⟩
              · rw [if_neg c6] at H
                have c6b0 : decide (100 < (((rd_T38 l0 x3_1).f2).length : Int)) = false := decide_eq_false c6
                have c6b1 : decide (100 < ((rd_T38 l0 x3_1).f2).length) = false := decide_eq_false (by omega)
                clear c6
                have H' := Aside0.mk H
                clear H
                have p138 : 0 ≤ (x3_1 : Int) := of_decide_eq_true (by first | (with_reducible assumption) | assumption)
                have q138 : x3_1 < (l0.length : Int) := of_decide_eq_true (by first | (with_reducible assumption) | assumption)
                obtain ⟨ad138, A138_1, c138_1, A138_2, c138_2, e138, hx138_0, hx138_1, hx138_2, hx138_3, hl138_1, hi138_1, hl138_2, hi138_2⟩ := at_T38 HR0.out x3_1 p138 q138
                cases e138
                have HR138_1 := Aside0.mk hi138_1
                have HC138_1 := Aside0.mk hl138_1
                clear hi138_1 hl138_1
                have HR138_2 := Aside0.mk hi138_2
                have HC138_2 := Aside0.mk hl138_2
                clear hi138_2 hl138_2
                replace p138 := eq_true p138
                replace q138 := eq_true q138
                have p139 : 0 ≤ (x3_1 : Int) := of_decide_eq_true (by first | (with_reducible assumption) | assumption)
                have q139 : x3_1 < (l0.length : Int) := of_decide_eq_true (by first | (with_reducible assumption) | assumption)
                obtain ⟨ad139, A139_1, c139_1, A139_2, c139_2, e139, hx139_0, hx139_1, hx139_2, hx139_3, hl139_1, hi139_1, hl139_2, hi139_2⟩ := at_T38 HR0.out x3_1 p139 q139
                obtain rfl : ad138 = ad139 := (by injection e139)
                have HR139_1 := Aside0.mk hi139_1
                have HC139_1 := Aside0.mk hl139_1
                clear hi139_1 hl139_1
                have HR139_2 := Aside0.mk hi139_2
                have HC139_2 := Aside0.mk hl139_2
                clear hi139_2 hl139_2
                replace p139 := eq_true p139
                replace q139 := eq_true q139
                have ea_ := Option.some.inj (hx138_1.symm.trans hx139_1)
                injection ea_ with ea_ en_ ec_
                subst ea_
                subst ec_
                clear en_
                have ea_ := Option.some.inj (hx138_2.symm.trans hx139_2)
                injection ea_ with ea_ en_ ec_
                subst ea_
                subst ec_
                clear en_
                go_wp2
                go_roundg k1
                case measure => have := HK1.out; omega
                case rel => exact ⟨(wrap64 (x3_1 + 1)), (by first | rfl | (simp; done) | (simp [*]; done)), H', ⟨by have := HK1.out; omega⟩, by repeat (first | exact Drawn0.refl _ | apply Drawn0.step)⟩
          · rw [if_neg c4] at H
            exact absurd H (by simp)
        · rw [if_neg c3] at H
          have c3b0 : decide (x3_1 < (l0.length : Int)) = false := decide_eq_false c3
          clear c3
          obtain rfl := Option.some.inj H
          go_wp2
          go_ret
          exact ⟨by first | rfl | (simp; done) | (simp [*]; done), by repeat (first | exact Drawn0.refl _ | apply Drawn0.step)⟩

end Go.Proofs.Ytpknchaajgkbnaa.P
