-- Written by wip/gprint.py, a program of this session over the kit's print; Lean checks it.
import Derived.Test.YtiliailmgjhjbaaPx0
import Derived.Test.YtiliailmgjhjbaaPx4
import Derived.Test.YtiliailmgjhjbaaPx5
import Derived.Test.YtiliailmgjhjbaaPx6
import Derived.Test.YtiliailmgjhjbaaPx7
import Derived.Test.YtiliailmgjhjbaaPx8
import Derived.Test.YtiliailmgjhjbaaPx10
import Derived.Test.YtiliailmgjhjbaaPx11
import Derived.Test.YtiliailmgjhjbaaPx12
import Derived.Test.YtiliailmgjhjbaaPx13
namespace Go.Proofs.Ytiliailmgjhjbaa.P
open Go.RowKit Go.Proofs.YtiliailmgjhjbaaW.PrintWords Go.Proofs.YtiliailmgjhjbaaW.PrintLast Go.Proofs.YtiliailmgjhjbaaW.PrintMore
attribute [local go_sem] max2_int min2_int max_two min_two max_three min_three max_four min_four   -- for this text's walks alone
set_option linter.unusedVariables false
set_option linter.unusedSimpArgs false

/-! ### banksmanlaw09_ModeTells: function 3 -/
def banksmanlaw09_ModeTells.f (k : Nat) (a0 : Int) (a1 : Int) : Option (Bool) := (banksmanlaw09_awake.f k).bind fun t127 => (if t127 = true then ((mode_Fits.f a0 a1).bind fun t128 => ((banksmanref09_Fits.f a0 a1).bind fun t129 => (if (t128 == t129) = true then ((mode_Covers.f a0 a1).bind fun t130 => ((banksmanref09_Covers.f a0 a1).bind fun t131 => (if (t130 == t131) = true then ((mode_Join.f k a0 a1).bind fun t132 => ((banksmanref09_Join.f k a0 a1).bind fun t133 => (if t132 = t133 then ((mode_Above.f k a0).bind fun t134 => ((banksmanref09_Above.f a0).bind fun t135 => (some (t134 == t135)))) else (some false)))) else (some false)))) else (some false)))) else (some false))
theorem banksmanlaw09_ModeTells.mono : ∀ a0 a1 k, LeO (banksmanlaw09_ModeTells.f k a0 a1) (banksmanlaw09_ModeTells.f (k + 1) a0 a1) := by
  intro a0 a1 k
  unfold banksmanlaw09_ModeTells.f
  repeat' first
      | (with_reducible exact banksmanlaw09_awake.mono _)
      | (with_reducible exact banksmanref09_Join.mono _ _ _)
      | (with_reducible exact mode_Above.mono _ _)
      | (with_reducible exact mode_Join.mono _ _ _)
      | (with_reducible exact LeO.refl _)
      | (with_reducible exact LeO.none _)
      | (with_reducible refine LeO.ite ?_ ?_)
      | (with_reducible refine LeO.bind ?_ (fun _ => ?_))
      | exact banksmanlaw09_awake.mono _
      | exact banksmanref09_Join.mono _ _ _
      | exact mode_Above.mono _ _
      | exact mode_Join.mono _ _ _
      | exact LeO.none _
      | refine LeO.ite ?_ ?_
      | refine LeO.bind ?_ (fun _ => ?_)
set_option maxHeartbeats 8000000 in
set_option maxRecDepth 100000 in
theorem banksmanlaw09_ModeTells.calls (k : Nat) (a0 : Int) (a1 : Int) (r : Bool) (w : World) (h : banksmanlaw09_ModeTells.f k a0 a1 = some r) :
    Calls Try.prog 3 #[.int .i64 a0, .int .i64 a1] w fun e w' => e = .returned (.bool r) ∧ Below w.heap.size w w' := by
  have HB := Aside0.mk (Below.refl w.heap.size w)
  have H : ((banksmanlaw09_awake.f k).bind fun t127 => (if t127 = true then ((mode_Fits.f a0 a1).bind fun t128 => ((banksmanref09_Fits.f a0 a1).bind fun t129 => (if (t128 == t129) = true then ((mode_Covers.f a0 a1).bind fun t130 => ((banksmanref09_Covers.f a0 a1).bind fun t131 => (if (t130 == t131) = true then ((mode_Join.f k a0 a1).bind fun t132 => ((banksmanref09_Join.f k a0 a1).bind fun t133 => (if t132 = t133 then ((mode_Above.f k a0).bind fun t134 => ((banksmanref09_Above.f a0).bind fun t135 => (some (t134 == t135)))) else (some false)))) else (some false)))) else (some false)))) else (some false))) = some r := h
  clear h
  replace H := Option.bind_eq_some_iff.mp H
  obtain ⟨t127, A30, H⟩ := H
  replace H : (if t127 = true then ((mode_Fits.f a0 a1).bind fun t128 => ((banksmanref09_Fits.f a0 a1).bind fun t129 => (if (t128 == t129) = true then ((mode_Covers.f a0 a1).bind fun t130 => ((banksmanref09_Covers.f a0 a1).bind fun t131 => (if (t130 == t131) = true then ((mode_Join.f k a0 a1).bind fun t132 => ((banksmanref09_Join.f k a0 a1).bind fun t133 => (if t132 = t133 then ((mode_Above.f k a0).bind fun t134 => ((banksmanref09_Above.f a0).bind fun t135 => (some (t134 == t135)))) else (some false)))) else (some false)))) else (some false)))) else (some false)) = some r := H
  have A3 := Aside0.mk A30
  clear A30
  by_cases c4 : t127 = true
  · subst c4
    have H1 : ((mode_Fits.f a0 a1).bind fun t128 => ((banksmanref09_Fits.f a0 a1).bind fun t129 => (if (t128 == t129) = true then ((mode_Covers.f a0 a1).bind fun t130 => ((banksmanref09_Covers.f a0 a1).bind fun t131 => (if (t130 == t131) = true then ((mode_Join.f k a0 a1).bind fun t132 => ((banksmanref09_Join.f k a0 a1).bind fun t133 => (if t132 = t133 then ((mode_Above.f k a0).bind fun t134 => ((banksmanref09_Above.f a0).bind fun t135 => (some (t134 == t135)))) else (some false)))) else (some false)))) else (some false)))) = some r := by rw [if_pos rfl] at H; exact H
    clear H
    have H := H1
    clear H1
    replace H := Option.bind_eq_some_iff.mp H
    obtain ⟨t128, A50, H⟩ := H
    replace H : ((banksmanref09_Fits.f a0 a1).bind fun t129 => (if (t128 == t129) = true then ((mode_Covers.f a0 a1).bind fun t130 => ((banksmanref09_Covers.f a0 a1).bind fun t131 => (if (t130 == t131) = true then ((mode_Join.f k a0 a1).bind fun t132 => ((banksmanref09_Join.f k a0 a1).bind fun t133 => (if t132 = t133 then ((mode_Above.f k a0).bind fun t134 => ((banksmanref09_Above.f a0).bind fun t135 => (some (t134 == t135)))) else (some false)))) else (some false)))) else (some false))) = some r := H
    have A5 := Aside0.mk A50
    clear A50
    replace H := Option.bind_eq_some_iff.mp H
    obtain ⟨t129, A60, H⟩ := H
    replace H : (if (t128 == t129) = true then ((mode_Covers.f a0 a1).bind fun t130 => ((banksmanref09_Covers.f a0 a1).bind fun t131 => (if (t130 == t131) = true then ((mode_Join.f k a0 a1).bind fun t132 => ((banksmanref09_Join.f k a0 a1).bind fun t133 => (if t132 = t133 then ((mode_Above.f k a0).bind fun t134 => ((banksmanref09_Above.f a0).bind fun t135 => (some (t134 == t135)))) else (some false)))) else (some false)))) else (some false)) = some r := H
    have A6 := Aside0.mk A60
    clear A60
    by_cases c7 : (t128 == t129) = true
    · rw [if_pos c7] at H
      have c7b0 : (t128 == t129) = true := c7
      (try (have c7b1 : decide (t128 = t129) = true := by simpa using c7))
      (try (have c7b2 : (t128 == t129) = true := by simpa using c7))
      clear c7
      replace H := Option.bind_eq_some_iff.mp H
      obtain ⟨t130, A80, H⟩ := H
      replace H : ((banksmanref09_Covers.f a0 a1).bind fun t131 => (if (t130 == t131) = true then ((mode_Join.f k a0 a1).bind fun t132 => ((banksmanref09_Join.f k a0 a1).bind fun t133 => (if t132 = t133 then ((mode_Above.f k a0).bind fun t134 => ((banksmanref09_Above.f a0).bind fun t135 => (some (t134 == t135)))) else (some false)))) else (some false))) = some r := H
      have A8 := Aside0.mk A80
      clear A80
      replace H := Option.bind_eq_some_iff.mp H
      obtain ⟨t131, A90, H⟩ := H
      replace H : (if (t130 == t131) = true then ((mode_Join.f k a0 a1).bind fun t132 => ((banksmanref09_Join.f k a0 a1).bind fun t133 => (if t132 = t133 then ((mode_Above.f k a0).bind fun t134 => ((banksmanref09_Above.f a0).bind fun t135 => (some (t134 == t135)))) else (some false)))) else (some false)) = some r := H
      have A9 := Aside0.mk A90
      clear A90
      by_cases c10 : (t130 == t131) = true
      · rw [if_pos c10] at H
        have c10b0 : (t130 == t131) = true := c10
        (try (have c10b1 : decide (t130 = t131) = true := by simpa using c10))
        (try (have c10b2 : (t130 == t131) = true := by simpa using c10))
        clear c10
        replace H := Option.bind_eq_some_iff.mp H
        obtain ⟨t132, A110, H⟩ := H
        replace H : ((banksmanref09_Join.f k a0 a1).bind fun t133 => (if t132 = t133 then ((mode_Above.f k a0).bind fun t134 => ((banksmanref09_Above.f a0).bind fun t135 => (some (t134 == t135)))) else (some false))) = some r := H
        have A11 := Aside0.mk A110
        clear A110
        replace H := Option.bind_eq_some_iff.mp H
        obtain ⟨t133, A120, H⟩ := H
        replace H : (if t132 = t133 then ((mode_Above.f k a0).bind fun t134 => ((banksmanref09_Above.f a0).bind fun t135 => (some (t134 == t135)))) else (some false)) = some r := H
        have A12 := Aside0.mk A120
        clear A120
        by_cases c13 : t132 = t133
        · rw [if_pos c13] at H
          have c13b0 : (t132 == t133) = true := beq_iff_eq.mpr c13
          have c13b1 : (t132 != t133) = false := bne_eq_false_iff_eq.mpr c13
          clear c13
          replace H := Option.bind_eq_some_iff.mp H
          obtain ⟨t134, A140, H⟩ := H
          replace H : ((banksmanref09_Above.f a0).bind fun t135 => (some (t134 == t135))) = some r := H
          have A14 := Aside0.mk A140
          clear A140
          replace H := Option.bind_eq_some_iff.mp H
          obtain ⟨t135, A150, H⟩ := H
          replace H : (some (t134 == t135)) = some r := H
          have A15 := Aside0.mk A150
          clear A150
          obtain rfl := Option.some.inj H
          go_enter Try.func3, Try.ntmps3
          go_wp2_with (first | ((with_reducible refine gate_callee (f := 7) rfl ?_); refine goesL_ (some 6) rfl rfl Try.func7 (by kernel_rfl) rfl #[] rfl (by (try simp only [List.map_toArray, List.map_cons, List.map_nil]); first | done | rfl | (simp only [List.length_drop, List.length_take]; rfl)) ?_; (with_reducible refine (banksmanlaw09_awake.calls k  true _ A3.out).mono ?_); rintro e w16 ⟨rfl, hb⟩; refine ⟨_, rfl, ?_⟩; have n0_ := Aside0.mk (below_step (by repeat (first | (with_reducible first | exact HB.out | apply below_alloc | apply pw_below_drewN | apply below_drew1) | exact HB.out)) hb); clear HB; have HB := n0_; clear n0_; (try clear hb); (try clear hb2); (try clear hk); (try clear hi)) | (go_at_call 8; (with_reducible refine (mode_Fits.calls a0 a1 t128 _ A5.out).mono ?_); rintro e w17 ⟨rfl, hb⟩; have n0_ := Aside0.mk (below_step (by repeat (first | (with_reducible first | exact HB.out | apply below_alloc | apply pw_below_drewN | apply below_drew1) | exact HB.out)) hb); clear HB; have HB := n0_; clear n0_; (try clear hb); (try clear hb2); (try clear hk); (try clear hi)) | (go_at_call 9; (with_reducible refine (banksmanref09_Fits.calls a0 a1 t129 _ A6.out).mono ?_); rintro e w' ⟨rfl, ⟨nd, rfl⟩⟩) | (go_at_call 10; (with_reducible refine (mode_Covers.calls a0 a1 t130 _ A8.out).mono ?_); rintro e w' ⟨rfl, ⟨nd, rfl⟩⟩) | (go_at_call 11; (with_reducible refine (banksmanref09_Covers.calls a0 a1 t131 _ A9.out).mono ?_); rintro e w' ⟨rfl, ⟨nd, rfl⟩⟩) | (go_at_call 12; (with_reducible refine (mode_Join.calls k a0 a1 t132 _ A11.out).mono ?_); rintro e w' ⟨rfl, ⟨nd, rfl⟩⟩) | (go_at_call 13; (with_reducible refine (banksmanref09_Join.calls k a0 a1 t133 _ A12.out).mono ?_); rintro e w' ⟨rfl, ⟨nd, rfl⟩⟩) | (go_at_call 14; (with_reducible refine (mode_Above.calls k a0 t134 _ A14.out).mono ?_); rintro e w' ⟨rfl, ⟨nd, rfl⟩⟩) | (go_at_call 15; (with_reducible refine (banksmanref09_Above.calls a0 t135 _ A15.out).mono ?_); rintro e w' ⟨rfl, ⟨nd, rfl⟩⟩))
          go_ret
          exact ⟨by first | rfl | (simp [errW_none, errW_some] <;> rfl) | (simp [*, errW_none, errW_some] <;> rfl), by repeat (first | (with_reducible first | exact HB.out | apply below_alloc | apply pw_below_drewN | apply below_drew1) | exact HB.out)⟩
        · rw [if_neg c13] at H
          have c13b0 : (t132 == t133) = false := beq_eq_false_iff_ne.mpr c13
          have c13b1 : (t132 != t133) = true := bne_iff_ne.mpr c13
          obtain rfl := Option.some.inj H
          go_enter Try.func3, Try.ntmps3
          go_wp2_with (first | ((with_reducible refine gate_callee (f := 7) rfl ?_); refine goesL_ (some 6) rfl rfl Try.func7 (by kernel_rfl) rfl #[] rfl (by (try simp only [List.map_toArray, List.map_cons, List.map_nil]); first | done | rfl | (simp only [List.length_drop, List.length_take]; rfl)) ?_; (with_reducible refine (banksmanlaw09_awake.calls k  true _ A3.out).mono ?_); rintro e w18 ⟨rfl, hb⟩; refine ⟨_, rfl, ?_⟩; have n0_ := Aside0.mk (below_step (by repeat (first | (with_reducible first | exact HB.out | apply below_alloc | apply pw_below_drewN | apply below_drew1) | exact HB.out)) hb); clear HB; have HB := n0_; clear n0_; (try clear hb); (try clear hb2); (try clear hk); (try clear hi)) | (go_at_call 8; (with_reducible refine (mode_Fits.calls a0 a1 t128 _ A5.out).mono ?_); rintro e w19 ⟨rfl, hb⟩; have n0_ := Aside0.mk (below_step (by repeat (first | (with_reducible first | exact HB.out | apply below_alloc | apply pw_below_drewN | apply below_drew1) | exact HB.out)) hb); clear HB; have HB := n0_; clear n0_; (try clear hb); (try clear hb2); (try clear hk); (try clear hi)) | (go_at_call 9; (with_reducible refine (banksmanref09_Fits.calls a0 a1 t129 _ A6.out).mono ?_); rintro e w' ⟨rfl, ⟨nd, rfl⟩⟩) | (go_at_call 10; (with_reducible refine (mode_Covers.calls a0 a1 t130 _ A8.out).mono ?_); rintro e w' ⟨rfl, ⟨nd, rfl⟩⟩) | (go_at_call 11; (with_reducible refine (banksmanref09_Covers.calls a0 a1 t131 _ A9.out).mono ?_); rintro e w' ⟨rfl, ⟨nd, rfl⟩⟩) | (go_at_call 12; (with_reducible refine (mode_Join.calls k a0 a1 t132 _ A11.out).mono ?_); rintro e w' ⟨rfl, ⟨nd, rfl⟩⟩) | (go_at_call 13; (with_reducible refine (banksmanref09_Join.calls k a0 a1 t133 _ A12.out).mono ?_); rintro e w' ⟨rfl, ⟨nd, rfl⟩⟩))
          go_ret
          exact ⟨by first | rfl | (simp [errW_none, errW_some] <;> rfl) | (simp [*, errW_none, errW_some] <;> rfl), by repeat (first | (with_reducible first | exact HB.out | apply below_alloc | apply pw_below_drewN | apply below_drew1) | exact HB.out)⟩
      · rw [if_neg c10] at H
        have c10b0 : (t130 == t131) = false := by simpa using c10
        (try (have c10b1 : decide (t130 = t131) = false := by simpa using c10))
        (try (have c10b2 : (t130 == t131) = false := by simpa using c10))
        (try (have c10b3 : ¬ (t130 = t131) := by simpa using c10))
        clear c10
        obtain rfl := Option.some.inj H
        go_enter Try.func3, Try.ntmps3
        go_wp2_with (first | ((with_reducible refine gate_callee (f := 7) rfl ?_); refine goesL_ (some 6) rfl rfl Try.func7 (by kernel_rfl) rfl #[] rfl (by (try simp only [List.map_toArray, List.map_cons, List.map_nil]); first | done | rfl | (simp only [List.length_drop, List.length_take]; rfl)) ?_; (with_reducible refine (banksmanlaw09_awake.calls k  true _ A3.out).mono ?_); rintro e w20 ⟨rfl, hb⟩; refine ⟨_, rfl, ?_⟩; have n0_ := Aside0.mk (below_step (by repeat (first | (with_reducible first | exact HB.out | apply below_alloc | apply pw_below_drewN | apply below_drew1) | exact HB.out)) hb); clear HB; have HB := n0_; clear n0_; (try clear hb); (try clear hb2); (try clear hk); (try clear hi)) | (go_at_call 8; (with_reducible refine (mode_Fits.calls a0 a1 t128 _ A5.out).mono ?_); rintro e w21 ⟨rfl, hb⟩; have n0_ := Aside0.mk (below_step (by repeat (first | (with_reducible first | exact HB.out | apply below_alloc | apply pw_below_drewN | apply below_drew1) | exact HB.out)) hb); clear HB; have HB := n0_; clear n0_; (try clear hb); (try clear hb2); (try clear hk); (try clear hi)) | (go_at_call 9; (with_reducible refine (banksmanref09_Fits.calls a0 a1 t129 _ A6.out).mono ?_); rintro e w' ⟨rfl, ⟨nd, rfl⟩⟩) | (go_at_call 10; (with_reducible refine (mode_Covers.calls a0 a1 t130 _ A8.out).mono ?_); rintro e w' ⟨rfl, ⟨nd, rfl⟩⟩) | (go_at_call 11; (with_reducible refine (banksmanref09_Covers.calls a0 a1 t131 _ A9.out).mono ?_); rintro e w' ⟨rfl, ⟨nd, rfl⟩⟩))
        go_ret
        exact ⟨by first | rfl | (simp [errW_none, errW_some] <;> rfl) | (simp [*, errW_none, errW_some] <;> rfl), by repeat (first | (with_reducible first | exact HB.out | apply below_alloc | apply pw_below_drewN | apply below_drew1) | exact HB.out)⟩
    · rw [if_neg c7] at H
      have c7b0 : (t128 == t129) = false := by simpa using c7
      (try (have c7b1 : decide (t128 = t129) = false := by simpa using c7))
      (try (have c7b2 : (t128 == t129) = false := by simpa using c7))
      (try (have c7b3 : ¬ (t128 = t129) := by simpa using c7))
      clear c7
      obtain rfl := Option.some.inj H
      go_enter Try.func3, Try.ntmps3
      go_wp2_with (first | ((with_reducible refine gate_callee (f := 7) rfl ?_); refine goesL_ (some 6) rfl rfl Try.func7 (by kernel_rfl) rfl #[] rfl (by (try simp only [List.map_toArray, List.map_cons, List.map_nil]); first | done | rfl | (simp only [List.length_drop, List.length_take]; rfl)) ?_; (with_reducible refine (banksmanlaw09_awake.calls k  true _ A3.out).mono ?_); rintro e w22 ⟨rfl, hb⟩; refine ⟨_, rfl, ?_⟩; have n0_ := Aside0.mk (below_step (by repeat (first | (with_reducible first | exact HB.out | apply below_alloc | apply pw_below_drewN | apply below_drew1) | exact HB.out)) hb); clear HB; have HB := n0_; clear n0_; (try clear hb); (try clear hb2); (try clear hk); (try clear hi)) | (go_at_call 8; (with_reducible refine (mode_Fits.calls a0 a1 t128 _ A5.out).mono ?_); rintro e w23 ⟨rfl, hb⟩; have n0_ := Aside0.mk (below_step (by repeat (first | (with_reducible first | exact HB.out | apply below_alloc | apply pw_below_drewN | apply below_drew1) | exact HB.out)) hb); clear HB; have HB := n0_; clear n0_; (try clear hb); (try clear hb2); (try clear hk); (try clear hi)) | (go_at_call 9; (with_reducible refine (banksmanref09_Fits.calls a0 a1 t129 _ A6.out).mono ?_); rintro e w' ⟨rfl, ⟨nd, rfl⟩⟩))
      go_ret
      exact ⟨by first | rfl | (simp [errW_none, errW_some] <;> rfl) | (simp [*, errW_none, errW_some] <;> rfl), by repeat (first | (with_reducible first | exact HB.out | apply below_alloc | apply pw_below_drewN | apply below_drew1) | exact HB.out)⟩
  · replace c4 := Bool.eq_false_iff.mpr c4
    subst c4
    have H1 : (some false) = some r := by rw [if_neg (show ¬ (false = true) by decide)] at H; exact H
    clear H
    have H := H1
    clear H1
    obtain rfl := Option.some.inj H
    go_enter Try.func3, Try.ntmps3
    go_wp2_with (first | ((with_reducible refine gate_callee (f := 7) rfl ?_); refine goesL_ (some 6) rfl rfl Try.func7 (by kernel_rfl) rfl #[] rfl (by (try simp only [List.map_toArray, List.map_cons, List.map_nil]); first | done | rfl | (simp only [List.length_drop, List.length_take]; rfl)) ?_; (with_reducible refine (banksmanlaw09_awake.calls k  false _ A3.out).mono ?_); rintro e w24 ⟨rfl, hb⟩; refine ⟨_, rfl, ?_⟩; have n0_ := Aside0.mk (below_step (by repeat (first | (with_reducible first | exact HB.out | apply below_alloc | apply pw_below_drewN | apply below_drew1) | exact HB.out)) hb); clear HB; have HB := n0_; clear n0_; (try clear hb); (try clear hb2); (try clear hk); (try clear hi)))
    go_ret
    exact ⟨by first | rfl | (simp [errW_none, errW_some] <;> rfl) | (simp [*, errW_none, errW_some] <;> rfl), by repeat (first | (with_reducible first | exact HB.out | apply below_alloc | apply pw_below_drewN | apply below_drew1) | exact HB.out)⟩

/-- THE ONE PURE STATEMENT of banksmanlaw09_ModeTells: yours. -/
def banksmanlaw09_ModeTells.Pure : Prop := ∀ (a0 : Int) (a1 : Int), (Lit.int .i64 a0).wf = true → (Lit.int .i64 a1).wf = true → ∃ k, banksmanlaw09_ModeTells.f k a0 a1 = some true
theorem banksmanlaw09_ModeTells.walk (P : banksmanlaw09_ModeTells.Pure) (a0 : Int) (a1 : Int) (w : World) (w0 : (Lit.int .i64 a0).wf = true) (w1 : (Lit.int .i64 a1).wf = true) :
    Calls Try.prog 3 #[.int .i64 a0, .int .i64 a1] w fun e w' => e = .returned (.bool true) ∧ Below w.heap.size w w' := by
  obtain ⟨k, h⟩ := P a0 a1 w0 w1
  refine (banksmanlaw09_ModeTells.calls k a0 a1 true w h).mono ?_
  rintro e w' ⟨rfl, hd⟩
  exact ⟨rfl, hd⟩

end Go.Proofs.Ytiliailmgjhjbaa.P
