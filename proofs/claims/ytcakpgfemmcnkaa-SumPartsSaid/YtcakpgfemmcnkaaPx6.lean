-- Written by wip/gprint.py, a program of this session over the kit's print; Lean checks it.
import Derived.Test.YtcakpgfemmcnkaaPx0
namespace Go.Proofs.Ytcakpgfemmcnkaa.P
open Go.RowKit Go.Proofs.YtcakpgfemmcnkaaW.PrintWords Go.Proofs.YtcakpgfemmcnkaaW.PrintLast Go.Proofs.YtcakpgfemmcnkaaW.PrintMore
attribute [local go_sem] max2_int min2_int max_two min_two max_three min_three max_four min_four   -- for this text's walks alone
set_option linter.unusedVariables false
set_option linter.unusedSimpArgs false

/-! ### banksmanref02_Join: function 11 -/
def banksmanref02_Join.f (a0 : Int) (a1 : Int) (a2 : Int) : Option (Int × Int) := if a2 < 0 then (some (0, 1)) else (if a2 ≥ 2147483648 then (some (0, 1)) else (if (wrap64 (Int.tmod a0 65536)) ≥ 65535 then (some (0, 1)) else (if ((Int.tdiv a0 65536) % 4294967296) ≥ 65535 then (some (0, 1)) else (if (wrap64 (Int.tmod a1 65536)) ≥ 65535 then (some (0, 1)) else (if ((Int.tdiv a1 65536) % 4294967296) ≥ 65535 then (some (0, 1)) else (some ((wrap64 ((Int.tmod (wrap64 ((wrap64 (Int.tmod a0 65536)) + (wrap64 (Int.tmod a1 65536)))) 65535) + (wrap64 (65536 * (Int.tmod (wrap64 ((((Int.tdiv a0 65536) % 4294967296) + ((Int.tdiv a1 65536) % 4294967296)) + (wrap64 ((Int.tmod a2 65535) * (wrap64 (Int.tmod a0 65536)))))) 65535))))) % 4294967296, 0)))))))
set_option maxHeartbeats 8000000 in
set_option maxRecDepth 100000 in
theorem banksmanref02_Join.calls (a0 : Int) (a1 : Int) (a2 : Int) (r1 : Int) (r2 : Int) (w : World) (h : banksmanref02_Join.f a0 a1 a2 = some (r1, r2)) :
    Calls Try.prog 11 #[.int .u32 a0, .int .u32 a1, .int .i64 a2] w fun e w' => e = .returned (.tuple #[.int .u32 r1, .int .i64 r2]) ∧ Drawn0 w w' := by
  have H : (if a2 < 0 then (some (0, 1)) else (if a2 ≥ 2147483648 then (some (0, 1)) else (if (wrap64 (Int.tmod a0 65536)) ≥ 65535 then (some (0, 1)) else (if ((Int.tdiv a0 65536) % 4294967296) ≥ 65535 then (some (0, 1)) else (if (wrap64 (Int.tmod a1 65536)) ≥ 65535 then (some (0, 1)) else (if ((Int.tdiv a1 65536) % 4294967296) ≥ 65535 then (some (0, 1)) else (some ((wrap64 ((Int.tmod (wrap64 ((wrap64 (Int.tmod a0 65536)) + (wrap64 (Int.tmod a1 65536)))) 65535) + (wrap64 (65536 * (Int.tmod (wrap64 ((((Int.tdiv a0 65536) % 4294967296) + ((Int.tdiv a1 65536) % 4294967296)) + (wrap64 ((Int.tmod a2 65535) * (wrap64 (Int.tmod a0 65536)))))) 65535))))) % 4294967296, 0)))))))) = some (r1, r2) := h
  clear h
  by_cases c4 : a2 < 0
  · rw [if_pos c4] at H
    have c4b0 : decide (a2 < 0) = true := decide_eq_true c4
    clear c4
    simp only [Option.some.injEq, Prod.mk.injEq] at H
    obtain ⟨rfl, rfl⟩ := H
    go_enter Try.func11, Try.ntmps11
    go_wp2
    go_ret2
    exact ⟨by first | rfl | (simp; done) | (simp [*]; done), by repeat (first | exact Drawn0.refl _ | apply Drawn0.step)⟩
  · rw [if_neg c4] at H
    have c4b0 : decide (a2 < 0) = false := decide_eq_false c4
    clear c4
    by_cases c5 : a2 ≥ 2147483648
    · rw [if_pos c5] at H
      have c5b0 : decide (2147483648 ≤ a2) = true := decide_eq_true c5
      clear c5
      simp only [Option.some.injEq, Prod.mk.injEq] at H
      obtain ⟨rfl, rfl⟩ := H
      go_enter Try.func11, Try.ntmps11
      go_wp2
      go_ret2
      exact ⟨by first | rfl | (simp; done) | (simp [*]; done), by repeat (first | exact Drawn0.refl _ | apply Drawn0.step)⟩
    · rw [if_neg c5] at H
      have c5b0 : decide (2147483648 ≤ a2) = false := decide_eq_false c5
      clear c5
      by_cases c6 : (wrap64 (Int.tmod a0 65536)) ≥ 65535
      · rw [if_pos c6] at H
        have c6b0 : decide (65535 ≤ (wrap64 (Int.tmod a0 65536))) = true := decide_eq_true c6
        clear c6
        simp only [Option.some.injEq, Prod.mk.injEq] at H
        obtain ⟨rfl, rfl⟩ := H
        go_enter Try.func11, Try.ntmps11
        go_wp2
        go_ret2
        exact ⟨by first | rfl | (simp; done) | (simp [*]; done), by repeat (first | exact Drawn0.refl _ | apply Drawn0.step)⟩
      · rw [if_neg c6] at H
        have c6b0 : decide (65535 ≤ (wrap64 (Int.tmod a0 65536))) = false := decide_eq_false c6
        clear c6
        by_cases c7 : ((Int.tdiv a0 65536) % 4294967296) ≥ 65535
        · rw [if_pos c7] at H
          have c7b0 : decide (65535 ≤ ((Int.tdiv a0 65536) % 4294967296)) = true := decide_eq_true c7
          clear c7
          simp only [Option.some.injEq, Prod.mk.injEq] at H
          obtain ⟨rfl, rfl⟩ := H
          go_enter Try.func11, Try.ntmps11
          go_wp2
          go_ret2
          exact ⟨by first | rfl | (simp; done) | (simp [*]; done), by repeat (first | exact Drawn0.refl _ | apply Drawn0.step)⟩
        · rw [if_neg c7] at H
          have c7b0 : decide (65535 ≤ ((Int.tdiv a0 65536) % 4294967296)) = false := decide_eq_false c7
          clear c7
          by_cases c8 : (wrap64 (Int.tmod a1 65536)) ≥ 65535
          · rw [if_pos c8] at H
            have c8b0 : decide (65535 ≤ (wrap64 (Int.tmod a1 65536))) = true := decide_eq_true c8
            clear c8
            simp only [Option.some.injEq, Prod.mk.injEq] at H
            obtain ⟨rfl, rfl⟩ := H
            go_enter Try.func11, Try.ntmps11
            go_wp2
            go_ret2
            exact ⟨by first | rfl | (simp; done) | (simp [*]; done), by repeat (first | exact Drawn0.refl _ | apply Drawn0.step)⟩
          · rw [if_neg c8] at H
            have c8b0 : decide (65535 ≤ (wrap64 (Int.tmod a1 65536))) = false := decide_eq_false c8
            clear c8
            by_cases c9 : ((Int.tdiv a1 65536) % 4294967296) ≥ 65535
            · rw [if_pos c9] at H
              have c9b0 : decide (65535 ≤ ((Int.tdiv a1 65536) % 4294967296)) = true := decide_eq_true c9
              clear c9
              simp only [Option.some.injEq, Prod.mk.injEq] at H
              obtain ⟨rfl, rfl⟩ := H
              go_enter Try.func11, Try.ntmps11
              go_wp2
              go_ret2
              exact ⟨by first | rfl | (simp; done) | (simp [*]; done), by repeat (first | exact Drawn0.refl _ | apply Drawn0.step)⟩
            · rw [if_neg c9] at H
              have c9b0 : decide (65535 ≤ ((Int.tdiv a1 65536) % 4294967296)) = false := decide_eq_false c9
              clear c9
              simp only [Option.some.injEq, Prod.mk.injEq] at H
              obtain ⟨rfl, rfl⟩ := H
              go_enter Try.func11, Try.ntmps11
              go_wp2
              go_ret2
              exact ⟨by first | rfl | (simp; done) | (simp [*]; done), by repeat (first | exact Drawn0.refl _ | apply Drawn0.step)⟩

end Go.Proofs.Ytcakpgfemmcnkaa.P
