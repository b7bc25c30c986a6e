import Derived.Test.YtbjeaalbdaedpaaPx0
namespace Go.Proofs.Ytbjeaalbdaedpaa.P
open Go.RowKit Go.Proofs.YtbjeaalbdaedpaaW.PrintWords Go.Proofs.YtbjeaalbdaedpaaW.PrintLast Go.Proofs.YtbjeaalbdaedpaaW.PrintMore
attribute [local go_sem] max2_int min2_int max_two min_two max_three min_three max_four min_four
set_option linter.unusedVariables false
set_option linter.unusedSimpArgs false
def banksmanlaw08_short.l0 : Nat → List (S53) → Int → Option (Bool)
  | 0, _, _ => none
  | k + 1, x0, x3 => if x3 < (x0.length : Int) then (if 0 ≤ x3 then (if (((rd_T53 x0 x3).f0).length : Int) > 100 then (some false) else (if (((rd_T53 x0 x3).f1).length : Int) > 100 then (some false) else (banksmanlaw08_short.l0 k x0 (wrap64 (x3 + 1))))) else (none)) else (some true)
def banksmanlaw08_short.f (k : Nat) (l0 : List (S53)) : Option (Bool) := if (l0.length : Int) > 100 then (some false) else (banksmanlaw08_short.l0 k l0 0)
set_option maxHeartbeats 8000000 in
set_option maxRecDepth 100000 in
theorem banksmanlaw08_short.calls (k : Nat) (A0 : Option Addr) (c0 : Nat) (l0 : List (S53)) (r : Bool) (w : World) (hr0 : Kd.C k53 w A0 l0.length l0) (hc0 : l0.length ≤ c0) (h : banksmanlaw08_short.f k l0 = some r) :
    Calls Try.prog 19 #[.slice A0 l0.length c0] w fun e w' => e = .returned (.bool r) ∧ Drawn0 w w' := by
  have HR0 := Aside0.mk hr0
  have HC0 := Aside0.mk hc0
  clear hr0 hc0
  have H : (if (l0.length : Int) > 100 then (some false) else (banksmanlaw08_short.l0 k l0 0)) = some r := h
  clear h
  by_cases c2 : (l0.length : Int) > 100
  · rw [if_pos c2] at H
    have c2b0 : decide (100 < (l0.length : Int)) = true := decide_eq_true c2
    have c2b1 : decide (100 < l0.length) = true := decide_eq_true (by omega)
    clear c2
    obtain rfl := Option.some.inj H
    go_enter Try.func19, Try.ntmps19
    go_wp2
    go_ret
    exact ⟨by first | rfl | (simp; done) | (simp [*]; done), by repeat (first | exact Drawn0.refl _ | apply Drawn0.step)⟩
  · rw [if_neg c2] at H
    have c2b0 : decide (100 < (l0.length : Int)) = false := decide_eq_false c2
    have c2b1 : decide (100 < l0.length) = false := decide_eq_false (by omega)
    clear c2
    have H' := Aside0.mk H
    clear H
    go_enter Try.func19, Try.ntmps19
    go_wp2
    go_loopg [3] k (fun kq v3 w' => ∃ (x3_1 : Int), v3 = .int .i64 x3_1 ∧ Aside0 (banksmanlaw08_short.l0 kq l0 x3_1 = some r) ∧ Aside0 (kq ≤ k) ∧ Drawn0 w w')
    case atStart => exact ⟨(0), (by first | rfl | (simp; done) | (simp [*]; done)), H', ⟨Nat.le_refl _⟩, by repeat (first | exact Drawn0.refl _ | apply Drawn0.step)⟩
    case round =>
      clear H'
      try clear c1
      try clear c2
      try clear c2b0
      try clear c2b1
      try clear p2
      obtain ⟨x3_1, rfl, HA, HK1, ⟨m1, rfl⟩⟩ := hrel
      cases gk with
      | zero => exact absurd HA.out (by simp [banksmanlaw08_short.l0])
      | succ k1 =>
        have H := HA.out
        clear HA
        simp only [banksmanlaw08_short.l0] at H
        by_cases c3 : x3_1 < (l0.length : Int)
        · rw [if_pos c3] at H
          have c3b0 : decide (x3_1 < (l0.length : Int)) = true := decide_eq_true c3
          clear c3
          by_cases c4 : 0 ≤ x3_1
          · rw [if_pos c4] at H
            have c4b0 : decide (0 ≤ x3_1) = true := decide_eq_true c4
            clear c4
            by_cases c5 : (((rd_T53 l0 x3_1).f0).length : Int) > 100
            · rw [if_pos c5] at H
              have c5b0 : decide (100 < (((rd_T53 l0 x3_1).f0).length : Int)) = true := decide_eq_true c5
              have c5b1 : decide (100 < ((rd_T53 l0 x3_1).f0).length) = true := decide_eq_true (by omega)
              clear c5
              obtain rfl := Option.some.inj H
              have p338 : 0 ≤ (x3_1 : Int) := of_decide_eq_true (by first | (with_reducible assumption) | assumption)
              have q338 : x3_1 < (l0.length : Int) := of_decide_eq_true (by first | (with_reducible assumption) | assumption)
              obtain ⟨ad338, A338_0, c338_0, A338_1, c338_1, e338, hx338_0, hx338_1, hl338_0, hi338_0, hl338_1, hi338_1⟩ := at_T53 HR0.out x3_1 p338 q338
              cases e338
              have HR338_0 := Aside0.mk hi338_0
              have HC338_0 := Aside0.mk hl338_0
              clear hi338_0 hl338_0
              have HR338_1 := Aside0.mk hi338_1
              have HC338_1 := Aside0.mk hl338_1
              clear hi338_1 hl338_1
              replace p338 := eq_true p338
              replace q338 := eq_true q338
              go_wp2
              go_ret
              exact ⟨by first | rfl | (simp; done) | (simp [*]; done), by repeat (first | exact Drawn0.refl _ | apply Drawn0.step)⟩
            · rw [if_neg c5] at H
              have c5b0 : decide (100 < (((rd_T53 l0 x3_1).f0).length : Int)) = false := decide_eq_false c5
              have c5b1 : decide (100 < ((rd_T53 l0 x3_1).f0).length) = false := decide_eq_false (by omega)
              clear c5
              by_cases c6 : (((rd_T53 l0 x3_1).f1).length : Int) > 100
              · rw [if_pos c6] at H
                have c6b0 : decide (100 < (((rd_T53 l0 x3_1).f1).length : Int)) = true := decide_eq_true c6
                have c6b1 : decide (100 < ((rd_T53 l0 x3_1).f1).length) = true := decide_eq_true (by omega)
                clear c6
                obtain rfl := Option.some.inj H
                have p338 : 0 ≤ (x3_1 : Int) := of_decide_eq_true (by first | (with_reducible assumption) | assumption)
                have q338 : x3_1 < (l0.length : Int) := of_decide_eq_true (by first | (with_reducible assumption) | assumption)
                obtain ⟨ad338, A338_0, c338_0, A338_1, c338_1, e338, hx338_0, hx338_1, hl338_0, hi338_0, hl338_1, hi338_1⟩ := at_T53 HR0.out x3_1 p338 q338
                cases e338
                have HR338_0 := Aside0.mk hi338_0
                have HC338_0 := Aside0.mk hl338_0
                clear hi338_0 hl338_0
                have HR338_1 := Aside0.mk hi338_1
                have HC338_1 := Aside0.mk hl338_1
                clear hi338_1 hl338_1
                replace p338 := eq_true p338
                replace q338 := eq_true q338
                have p339 : 0 ≤ (x3_1 : Int) := of_decide_eq_true (by first | (with_reducible assumption) | assumption)
                have q339 : x3_1 < (l0.length : Int) := of_decide_eq_true (by first | (with_reducible assumption) | assumption)
                obtain ⟨ad339, A339_0, c339_0, A339_1, c339_1, e339, hx339_0, hx339_1, hl339_0, hi339_0, hl339_1, hi339_1⟩ := at_T53 HR0.out x3_1 p339 q339
                obtain rfl : ad338 = ad339 := (by injection e339)
                have HR339_0 := Aside0.mk hi339_0
                have HC339_0 := Aside0.mk hl339_0
                clear hi339_0 hl339_0
                have HR339_1 := Aside0.mk hi339_1
                have HC339_1 := Aside0.mk hl339_1
                clear hi339_1 hl339_1
                replace p339 := eq_true p339
                replace q339 := eq_true q339
                have ea_ := Option.some.inj (hx338_0.symm.trans hx339_0)
                injection ea_ with ea_ en_ ec_
                subst ea_
                subst ec_
                clear en_
                have ea_ := Option.some.inj (hx338_1.symm.trans hx339_1)
                injection ea_ with ea_ en_ ec_
                subst ea_
                subst ec_
                clear en_
                go_wp2
                go_ret
                exact ⟨by first | rfl | (simp; done) | (simp [*]; done), by repeat (first | exact Drawn0.refl _ | apply Drawn0.step)⟩
              · rw [if_neg c6] at H
                have c6b0 : decide (100 < (((rd_T53 l0 x3_1).f1).length : Int)) = false := decide_eq_false c6
                have c6b1 : decide (100 < ((rd_T53 l0 x3_1).f1).length) = false := decide_eq_false (by omega)
                clear c6
                have H' := Aside0.mk H
                clear H
                have p338 : 0 ≤ (x3_1 : Int) := of_decide_eq_true (by first | (with_reducible assumption) | assumption)
                have q338 : x3_1 < (l0.length : Int) := of_decide_eq_true (by first | (with_reducible assumption) | assumption)
                obtain ⟨ad338, A338_0, c338_0, A338_1, c338_1, e338, hx338_0, hx338_1, hl338_0, hi338_0, hl338_1, hi338_1⟩ := at_T53 HR0.out x3_1 p338 q338
                cases e338
                have HR338_0 := Aside0.mk hi338_0
                have HC338_0 := Aside0.mk hl338_0
                clear hi338_0 hl338_0
                have HR338_1 := Aside0.mk hi338_1
                have HC338_1 := Aside0.mk hl338_1
                clear hi338_1 hl338_1
                replace p338 := eq_true p338
                replace q338 := eq_true q338
                have p339 : 0 ≤ (x3_1 : Int) := of_decide_eq_true (by first | (with_reducible assumption) | assumption)
                have q339 : x3_1 < (l0.length : Int) := of_decide_eq_true (by first | (with_reducible assumption) | assumption)
                obtain ⟨ad339, A339_0, c339_0, A339_1, c339_1, e339, hx339_0, hx339_1, hl339_0, hi339_0, hl339_1, hi339_1⟩ := at_T53 HR0.out x3_1 p339 q339
                obtain rfl : ad338 = ad339 := (by injection e339)
                have HR339_0 := Aside0.mk hi339_0
                have HC339_0 := Aside0.mk hl339_0
                clear hi339_0 hl339_0
                have HR339_1 := Aside0.mk hi339_1
                have HC339_1 := Aside0.mk hl339_1
                clear hi339_1 hl339_1
                replace p339 := eq_true p339
                replace q339 := eq_true q339
                have ea_ := Option.some.inj (hx338_0.symm.trans hx339_0)
                injection ea_ with ea_ en_ ec_
                subst ea_
                subst ec_
                clear en_
                have ea_ := Option.some.inj (hx338_1.symm.trans hx339_1)
                injection ea_ with ea_ en_ ec_
                subst ea_
                subst ec_
                clear en_
                go_wp2
                go_roundg k1
                case measure => have := HK1.out; omega
                case rel => exact ⟨(wrap64 (x3_1 + 1)), (by first | rfl | (simp; done) | (simp [*]; done)), H', ⟨by have := HK1.out; omega⟩, by repeat (first | exact Drawn0.refl _ | apply Drawn0.step)⟩
          · rw [if_neg c4] at H
            exact absurd H (by simp)
        · rw [if_neg c3] at H
          have c3b0 : decide (x3_1 < (l0.length : Int)) = false := decide_eq_false c3
          clear c3
          obtain rfl := Option.some.inj H
          go_wp2
          go_ret
          exact ⟨by first | rfl | (simp; done) | (simp [*]; done), by repeat (first | exact Drawn0.refl _ | apply Drawn0.step)⟩
end Go.Proofs.Ytbjeaalbdaedpaa.P
