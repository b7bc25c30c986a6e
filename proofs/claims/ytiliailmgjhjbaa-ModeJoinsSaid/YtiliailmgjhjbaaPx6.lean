-- Written by wip/gprint.py, a program of this session over the kit's print; Lean checks it.
import Derived.Test.YtiliailmgjhjbaaPx0
import Derived.Test.YtiliailmgjhjbaaPx5
namespace Go.Proofs.Ytiliailmgjhjbaa.P
open Go.RowKit Go.Proofs.YtiliailmgjhjbaaW.PrintWords Go.Proofs.YtiliailmgjhjbaaW.PrintLast Go.Proofs.YtiliailmgjhjbaaW.PrintMore
attribute [local go_sem] max2_int min2_int max_two min_two max_three min_three max_four min_four   -- for this text's walks alone
set_option linter.unusedVariables false
set_option linter.unusedSimpArgs false

/-! ### mode_Join: function 12 -/
def mode_Join.l0 : Nat → Int → Int → Int → Option (Int)
  | 0, _, _, _ => none
  | k + 1, x0, x1, x7 => if x7 < 5 then ((mode_Covers.f (wrap64 (x7 + 1)) x0).bind fun t103 => (if t103 = true then ((mode_Covers.f (wrap64 (x7 + 1)) x1).bind fun t104 => (if t104 = true then (some (wrap64 (x7 + 1))) else (mode_Join.l0 k x0 x1 (wrap64 (x7 + 1))))) else (mode_Join.l0 k x0 x1 (wrap64 (x7 + 1))))) else (some 0)
def mode_Join.f (k : Nat) (a0 : Int) (a1 : Int) : Option (Int) := mode_Join.l0 k a0 a1 0
theorem mode_Join.mono_l : ∀ k, (∀ y0 y1 y2, LeO (mode_Join.l0 k y0 y1 y2) (mode_Join.l0 (k + 1) y0 y1 y2))
  | 0 => fun _ _ _ r h => by simp [mode_Join.l0] at h
  | k + 1 => by
    have ih0 := mode_Join.mono_l k
    · intro y0 y1 y2
      unfold mode_Join.l0
      repeat' first
      | (with_reducible exact ih0 _ _ _)
      | (with_reducible exact LeO.refl _)
      | (with_reducible exact LeO.none _)
      | (with_reducible refine LeO.ite ?_ ?_)
      | (with_reducible refine LeO.bind ?_ (fun _ => ?_))
      | exact ih0 _ _ _
      | exact LeO.none _
      | refine LeO.ite ?_ ?_
      | refine LeO.bind ?_ (fun _ => ?_)
theorem mode_Join.mono : ∀ a0 a1 k, LeO (mode_Join.f k a0 a1) (mode_Join.f (k + 1) a0 a1) := by
  intro a0 a1 k
  have ih0 := mode_Join.mono_l k
  unfold mode_Join.f
  repeat' first
      | (with_reducible exact ih0 _ _ _)
      | (with_reducible exact LeO.refl _)
      | (with_reducible exact LeO.none _)
      | (with_reducible refine LeO.ite ?_ ?_)
      | (with_reducible refine LeO.bind ?_ (fun _ => ?_))
      | exact ih0 _ _ _
      | exact LeO.none _
      | refine LeO.ite ?_ ?_
      | refine LeO.bind ?_ (fun _ => ?_)
set_option maxHeartbeats 8000000 in
set_option maxRecDepth 100000 in
theorem mode_Join.calls (k : Nat) (a0 : Int) (a1 : Int) (r : Int) (w : World) (h : mode_Join.f k a0 a1 = some r) :
    Calls Try.prog 12 #[.int .i64 a0, .int .i64 a1] w fun e w' => e = .returned (.int .i64 r) ∧ Drawn0 w w' := by
  have H : (mode_Join.l0 k a0 a1 0) = some r := h
  clear h
  have H' := Aside0.mk H
  clear H
  go_enter Try.func12, Try.ntmps12
  go_wp2
  go_loopg [7] k (fun kq v7 w' => ∃ (x7_1 : Int), v7 = .int .i64 x7_1 ∧ Aside0 (mode_Join.l0 kq a0 a1 x7_1 = some r) ∧ Aside0 (kq ≤ k) ∧ Drawn0 w w')
  case atStart => exact ⟨(0), (by first | rfl | (simp; done) | (simp [*]; done)), H', ⟨Nat.le_refl _⟩, by repeat (first | exact Drawn0.refl _ | apply Drawn0.step)⟩
  case round =>
    clear H'
    try clear c1
    try clear p2
    obtain ⟨x7_1, rfl, HA, HK1, ⟨m1, rfl⟩⟩ := hrel
    cases gk with
    | zero => exact absurd HA.out (by simp [mode_Join.l0])
    | succ k1 =>
      have H := HA.out
      clear HA
      simp only [mode_Join.l0] at H
      by_cases c3 : x7_1 < 5
      · rw [if_pos c3] at H
        have c3b0 : decide (x7_1 < 5) = true := decide_eq_true c3
        clear c3
        replace H := Option.bind_eq_some_iff.mp H
        obtain ⟨t103, A40, H⟩ := H
        replace H : (if t103 = true then ((mode_Covers.f (wrap64 (x7_1 + 1)) a1).bind fun t104 => (if t104 = true then (some (wrap64 (x7_1 + 1))) else (mode_Join.l0 k1 a0 a1 (wrap64 (x7_1 + 1))))) else (mode_Join.l0 k1 a0 a1 (wrap64 (x7_1 + 1)))) = some r := H
        have A4 := Aside0.mk A40
        clear A40
        by_cases c5 : t103 = true
        · subst c5
          have H1 : ((mode_Covers.f (wrap64 (x7_1 + 1)) a1).bind fun t104 => (if t104 = true then (some (wrap64 (x7_1 + 1))) else (mode_Join.l0 k1 a0 a1 (wrap64 (x7_1 + 1))))) = some r := by rw [if_pos rfl] at H; exact H
          clear H
          have H := H1
          clear H1
          replace H := Option.bind_eq_some_iff.mp H
          obtain ⟨t104, A60, H⟩ := H
          replace H : (if t104 = true then (some (wrap64 (x7_1 + 1))) else (mode_Join.l0 k1 a0 a1 (wrap64 (x7_1 + 1)))) = some r := H
          have A6 := Aside0.mk A60
          clear A60
          by_cases c7 : t104 = true
          · subst c7
            have H1 : (some (wrap64 (x7_1 + 1))) = some r := by rw [if_pos rfl] at H; exact H
            clear H
            have H := H1
            clear H1
            obtain rfl := Option.some.inj H
            go_wp2_with (first | ((with_reducible refine gate_callee (f := 10) rfl ?_); refine goesL_ (some 14) rfl rfl Try.func10 (by kernel_rfl) rfl #[.int .i64 (wrap64 (x7_1 + 1)), .int .i64 a0] rfl (by (try simp only [List.map_toArray, List.map_cons, List.map_nil]); first | done | rfl | (simp only [List.length_drop, List.length_take]; rfl)) ?_; (with_reducible refine (mode_Covers.calls (wrap64 (x7_1 + 1)) a0 true _ A4.out).mono ?_); rintro e w' ⟨rfl, ⟨nd, rfl⟩⟩; refine ⟨_, rfl, ?_⟩) | (go_at_call 10; (with_reducible refine (mode_Covers.calls (wrap64 (x7_1 + 1)) a1 true _ A6.out).mono ?_); rintro e w' ⟨rfl, ⟨nd, rfl⟩⟩))
            go_ret
            exact ⟨by first | rfl | (simp; done) | (simp [*]; done), by repeat (first | exact Drawn0.refl _ | apply Drawn0.step)⟩
          · replace c7 := Bool.eq_false_iff.mpr c7
            subst c7
            have H1 : (mode_Join.l0 k1 a0 a1 (wrap64 (x7_1 + 1))) = some r := by rw [if_neg (show ¬ (false = true) by decide)] at H; exact H
            clear H
            have H := H1
            clear H1
            have H' := Aside0.mk H
            clear H
            go_wp2_with (first | ((with_reducible refine gate_callee (f := 10) rfl ?_); refine goesL_ (some 14) rfl rfl Try.func10 (by kernel_rfl) rfl #[.int .i64 (wrap64 (x7_1 + 1)), .int .i64 a0] rfl (by (try simp only [List.map_toArray, List.map_cons, List.map_nil]); first | done | rfl | (simp only [List.length_drop, List.length_take]; rfl)) ?_; (with_reducible refine (mode_Covers.calls (wrap64 (x7_1 + 1)) a0 true _ A4.out).mono ?_); rintro e w' ⟨rfl, ⟨nd, rfl⟩⟩; refine ⟨_, rfl, ?_⟩) | (go_at_call 10; (with_reducible refine (mode_Covers.calls (wrap64 (x7_1 + 1)) a1 false _ A6.out).mono ?_); rintro e w' ⟨rfl, ⟨nd, rfl⟩⟩))
            go_roundg k1
            case measure => have := HK1.out; omega
            case rel => exact ⟨(wrap64 (x7_1 + 1)), (by first | rfl | (simp; done) | (simp [*]; done)), H', ⟨by have := HK1.out; omega⟩, by repeat (first | exact Drawn0.refl _ | apply Drawn0.step)⟩
        · replace c5 := Bool.eq_false_iff.mpr c5
          subst c5
          have H1 : (mode_Join.l0 k1 a0 a1 (wrap64 (x7_1 + 1))) = some r := by rw [if_neg (show ¬ (false = true) by decide)] at H; exact H
          clear H
          have H := H1
          clear H1
          have H' := Aside0.mk H
          clear H
          go_wp2_with (first | ((with_reducible refine gate_callee (f := 10) rfl ?_); refine goesL_ (some 14) rfl rfl Try.func10 (by kernel_rfl) rfl #[.int .i64 (wrap64 (x7_1 + 1)), .int .i64 a0] rfl (by (try simp only [List.map_toArray, List.map_cons, List.map_nil]); first | done | rfl | (simp only [List.length_drop, List.length_take]; rfl)) ?_; (with_reducible refine (mode_Covers.calls (wrap64 (x7_1 + 1)) a0 false _ A4.out).mono ?_); rintro e w' ⟨rfl, ⟨nd, rfl⟩⟩; refine ⟨_, rfl, ?_⟩))
          go_roundg k1
          case measure => have := HK1.out; omega
          case rel => exact ⟨(wrap64 (x7_1 + 1)), (by first | rfl | (simp; done) | (simp [*]; done)), H', ⟨by have := HK1.out; omega⟩, by repeat (first | exact Drawn0.refl _ | apply Drawn0.step)⟩
      · rw [if_neg c3] at H
        have c3b0 : decide (x7_1 < 5) = false := decide_eq_false c3
        clear c3
        obtain rfl := Option.some.inj H
        go_wp2
        go_ret
        exact ⟨by first | rfl | (simp; done) | (simp [*]; done), by repeat (first | exact Drawn0.refl _ | apply Drawn0.step)⟩

end Go.Proofs.Ytiliailmgjhjbaa.P
