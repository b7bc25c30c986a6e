-- Written by wip/gprint.py, a program of this session over the kit's print; Lean checks it.
import Derived.Test.YtiliailmgjhjbaaPx0
import Derived.Test.YtiliailmgjhjbaaPx5
import Derived.Test.YtiliailmgjhjbaaPx6
import Derived.Test.YtiliailmgjhjbaaPx7
import Derived.Test.YtiliailmgjhjbaaPx8
namespace Go.Proofs.Ytiliailmgjhjbaa.P
open Go.RowKit Go.Proofs.YtiliailmgjhjbaaW.PrintWords Go.Proofs.YtiliailmgjhjbaaW.PrintLast Go.Proofs.YtiliailmgjhjbaaW.PrintMore
attribute [local go_sem] max2_int min2_int max_two min_two max_three min_three max_four min_four   -- for this text's walks alone
set_option linter.unusedVariables false
set_option linter.unusedSimpArgs false

/-! ### banksmanlaw09_ModeJoins: function 4 -/
def banksmanlaw09_ModeJoins.j0 : Nat → Int → Int → Int → Bool → Int → Bool → Option (Bool)
  | 0, _, _, _, _, _, _ => none
  | k + 1, x0, x1, x2, x7, x8, x9 => if x7 = true then ((mode_Join.f k x1 x0).bind fun t143 => (if x8 = t143 then ((mode_Covers.f x8 x0).bind fun t144 => (if t144 = true then ((mode_Covers.f x8 x1).bind fun t145 => (if t145 = true then (if x9 = true then ((mode_Join.f k x0 x0).bind fun t146 => (if t146 = x0 then ((mode_Join.f k x8 x2).bind fun t147 => ((mode_Join.f k x1 x2).bind fun t148 => ((mode_Join.f k x0 t148).bind fun t149 => (some (t147 == t149))))) else (some false))) else (some false)) else (some false))) else (some false))) else (some false))) else (some false)
def banksmanlaw09_ModeJoins.f (k : Nat) (a0 : Int) (a1 : Int) (a2 : Int) : Option (Bool) := (banksmanlaw09_awake.f k).bind fun t136 => ((mode_Join.f k a0 a1).bind fun t137 => (if t137 = 0 then (if t136 = true then ((mode_Above.f k a0).bind fun t138 => (if t138 = 0 then (some true) else ((mode_Above.f k a1).bind fun t139 => (some (t139 == 0))))) else (some false)) else ((mode_Covers.f a2 a0).bind fun t140 => (if t140 = true then ((mode_Covers.f a2 a1).bind fun t141 => (if t141 = true then ((mode_Covers.f a2 t137).bind fun t142 => (banksmanlaw09_ModeJoins.j0 k a0 a1 a2 t136 t137 t142)) else (banksmanlaw09_ModeJoins.j0 k a0 a1 a2 t136 t137 true))) else (banksmanlaw09_ModeJoins.j0 k a0 a1 a2 t136 t137 true)))))
theorem banksmanlaw09_ModeJoins.mono_l : ∀ k, (∀ y0 y1 y2 y3 y4 y5, LeO (banksmanlaw09_ModeJoins.j0 k y0 y1 y2 y3 y4 y5) (banksmanlaw09_ModeJoins.j0 (k + 1) y0 y1 y2 y3 y4 y5))
  | 0 => fun _ _ _ _ _ _ r h => by simp [banksmanlaw09_ModeJoins.j0] at h
  | k + 1 => by
    have ih0 := banksmanlaw09_ModeJoins.mono_l k
    · intro y0 y1 y2 y3 y4 y5
      unfold banksmanlaw09_ModeJoins.j0
      repeat' first
      | (with_reducible exact ih0 _ _ _ _ _ _)
      | (with_reducible exact banksmanlaw09_awake.mono _)
      | (with_reducible exact mode_Above.mono _ _)
      | (with_reducible exact mode_Join.mono _ _ _)
      | (with_reducible exact LeO.refl _)
      | (with_reducible exact LeO.none _)
      | (with_reducible refine LeO.ite ?_ ?_)
      | (with_reducible refine LeO.bind ?_ (fun _ => ?_))
      | exact ih0 _ _ _ _ _ _
      | exact banksmanlaw09_awake.mono _
      | exact mode_Above.mono _ _
      | exact mode_Join.mono _ _ _
      | exact LeO.none _
      | refine LeO.ite ?_ ?_
      | refine LeO.bind ?_ (fun _ => ?_)
theorem banksmanlaw09_ModeJoins.mono : ∀ a0 a1 a2 k, LeO (banksmanlaw09_ModeJoins.f k a0 a1 a2) (banksmanlaw09_ModeJoins.f (k + 1) a0 a1 a2) := by
  intro a0 a1 a2 k
  have ih0 := banksmanlaw09_ModeJoins.mono_l k
  unfold banksmanlaw09_ModeJoins.f
  repeat' first
      | (with_reducible exact ih0 _ _ _ _ _ _)
      | (with_reducible exact banksmanlaw09_awake.mono _)
      | (with_reducible exact mode_Above.mono _ _)
      | (with_reducible exact mode_Join.mono _ _ _)
      | (with_reducible exact LeO.refl _)
      | (with_reducible exact LeO.none _)
      | (with_reducible refine LeO.ite ?_ ?_)
      | (with_reducible refine LeO.bind ?_ (fun _ => ?_))
      | exact ih0 _ _ _ _ _ _
      | exact banksmanlaw09_awake.mono _
      | exact mode_Above.mono _ _
      | exact mode_Join.mono _ _ _
      | exact LeO.none _
      | refine LeO.ite ?_ ?_
      | refine LeO.bind ?_ (fun _ => ?_)
set_option maxHeartbeats 8000000 in
set_option maxRecDepth 100000 in
theorem banksmanlaw09_ModeJoins.calls (k : Nat) (a0 : Int) (a1 : Int) (a2 : Int) (r : Bool) (w : World) (h : banksmanlaw09_ModeJoins.f k a0 a1 a2 = some r) :
    Calls Try.prog 4 #[.int .i64 a0, .int .i64 a1, .int .i64 a2] w fun e w' => e = .returned (.bool r) ∧ Below w.heap.size w w' := by
  have HB := Aside0.mk (Below.refl w.heap.size w)
  have H : ((banksmanlaw09_awake.f k).bind fun t136 => ((mode_Join.f k a0 a1).bind fun t137 => (if t137 = 0 then (if t136 = true then ((mode_Above.f k a0).bind fun t138 => (if t138 = 0 then (some true) else ((mode_Above.f k a1).bind fun t139 => (some (t139 == 0))))) else (some false)) else ((mode_Covers.f a2 a0).bind fun t140 => (if t140 = true then ((mode_Covers.f a2 a1).bind fun t141 => (if t141 = true then ((mode_Covers.f a2 t137).bind fun t142 => (banksmanlaw09_ModeJoins.j0 k a0 a1 a2 t136 t137 t142)) else (banksmanlaw09_ModeJoins.j0 k a0 a1 a2 t136 t137 true))) else (banksmanlaw09_ModeJoins.j0 k a0 a1 a2 t136 t137 true)))))) = some r := h
  clear h
  replace H := Option.bind_eq_some_iff.mp H
  obtain ⟨t136, A40, H⟩ := H
  replace H : ((mode_Join.f k a0 a1).bind fun t137 => (if t137 = 0 then (if t136 = true then ((mode_Above.f k a0).bind fun t138 => (if t138 = 0 then (some true) else ((mode_Above.f k a1).bind fun t139 => (some (t139 == 0))))) else (some false)) else ((mode_Covers.f a2 a0).bind fun t140 => (if t140 = true then ((mode_Covers.f a2 a1).bind fun t141 => (if t141 = true then ((mode_Covers.f a2 t137).bind fun t142 => (banksmanlaw09_ModeJoins.j0 k a0 a1 a2 t136 t137 t142)) else (banksmanlaw09_ModeJoins.j0 k a0 a1 a2 t136 t137 true))) else (banksmanlaw09_ModeJoins.j0 k a0 a1 a2 t136 t137 true))))) = some r := H
  have A4 := Aside0.mk A40
  clear A40
  replace H := Option.bind_eq_some_iff.mp H
  obtain ⟨t137, A50, H⟩ := H
  replace H : (if t137 = 0 then (if t136 = true then ((mode_Above.f k a0).bind fun t138 => (if t138 = 0 then (some true) else ((mode_Above.f k a1).bind fun t139 => (some (t139 == 0))))) else (some false)) else ((mode_Covers.f a2 a0).bind fun t140 => (if t140 = true then ((mode_Covers.f a2 a1).bind fun t141 => (if t141 = true then ((mode_Covers.f a2 t137).bind fun t142 => (banksmanlaw09_ModeJoins.j0 k a0 a1 a2 t136 t137 t142)) else (banksmanlaw09_ModeJoins.j0 k a0 a1 a2 t136 t137 true))) else (banksmanlaw09_ModeJoins.j0 k a0 a1 a2 t136 t137 true)))) = some r := H
  have A5 := Aside0.mk A50
  clear A50
  by_cases c6 : t137 = 0
  · rw [if_pos c6] at H
    have c6b0 : (t137 == 0) = true := beq_iff_eq.mpr c6
    have c6b1 : (t137 != 0) = false := bne_eq_false_iff_eq.mpr c6
    clear c6
    by_cases c7 : t136 = true
    · subst c7
      have H1 : ((mode_Above.f k a0).bind fun t138 => (if t138 = 0 then (some true) else ((mode_Above.f k a1).bind fun t139 => (some (t139 == 0))))) = some r := by rw [if_pos rfl] at H; exact H
      clear H
      have H := H1
      clear H1
      replace H := Option.bind_eq_some_iff.mp H
      obtain ⟨t138, A80, H⟩ := H
      replace H : (if t138 = 0 then (some true) else ((mode_Above.f k a1).bind fun t139 => (some (t139 == 0)))) = some r := H
      have A8 := Aside0.mk A80
      clear A80
      by_cases c9 : t138 = 0
      · rw [if_pos c9] at H
        have c9b0 : (t138 == 0) = true := beq_iff_eq.mpr c9
        have c9b1 : (t138 != 0) = false := bne_eq_false_iff_eq.mpr c9
        clear c9
        obtain rfl := Option.some.inj H
        go_enter Try.func4, Try.ntmps4
        go_wp2_with (first | ((with_reducible refine gate_callee (f := 7) rfl ?_); refine goesL_ (some 10) rfl rfl Try.func7 (by kernel_rfl) rfl #[] rfl (by (try simp only [List.map_toArray, List.map_cons, List.map_nil]); first | done | rfl | (simp only [List.length_drop, List.length_take]; rfl)) ?_; (with_reducible refine (banksmanlaw09_awake.calls k  true _ A4.out).mono ?_); rintro e w10 ⟨rfl, hb⟩; refine ⟨_, rfl, ?_⟩; have n0_ := Aside0.mk (below_step (by repeat (first | (with_reducible first | exact HB.out | apply below_alloc | apply pw_below_drewN | apply below_drew1) | exact HB.out)) hb); clear HB; have HB := n0_; clear n0_; (try clear hb); (try clear hb2); (try clear hk); (try clear hi)) | ((with_reducible refine gate_callee (f := 12) rfl ?_); refine goesL_ (some 13) rfl rfl Try.func12 (by kernel_rfl) rfl #[.int .i64 a0, .int .i64 a1] rfl (by (try simp only [List.map_toArray, List.map_cons, List.map_nil]); first | done | rfl | (simp only [List.length_drop, List.length_take]; rfl)) ?_; (with_reducible refine (mode_Join.calls k a0 a1 t137 _ A5.out).mono ?_); rintro e w' ⟨rfl, ⟨nd, rfl⟩⟩; refine ⟨_, rfl, ?_⟩) | (go_at_call 14; (with_reducible refine (mode_Above.calls k a0 t138 _ A8.out).mono ?_); rintro e w' ⟨rfl, ⟨nd, rfl⟩⟩))
        go_ret
        exact ⟨by first | rfl | (simp [errW_none, errW_some] <;> rfl) | (simp [*, errW_none, errW_some] <;> rfl), by repeat (first | (with_reducible first | exact HB.out | apply below_alloc | apply pw_below_drewN | apply below_drew1) | exact HB.out)⟩
      · rw [if_neg c9] at H
        have c9b0 : (t138 == 0) = false := beq_eq_false_iff_ne.mpr c9
        have c9b1 : (t138 != 0) = true := bne_iff_ne.mpr c9
        replace H := Option.bind_eq_some_iff.mp H
        obtain ⟨t139, A110, H⟩ := H
        replace H : (some (t139 == 0)) = some r := H
        have A11 := Aside0.mk A110
        clear A110
        obtain rfl := Option.some.inj H
        go_enter Try.func4, Try.ntmps4
        go_wp2_with (first | ((with_reducible refine gate_callee (f := 7) rfl ?_); refine goesL_ (some 10) rfl rfl Try.func7 (by kernel_rfl) rfl #[] rfl (by (try simp only [List.map_toArray, List.map_cons, List.map_nil]); first | done | rfl | (simp only [List.length_drop, List.length_take]; rfl)) ?_; (with_reducible refine (banksmanlaw09_awake.calls k  true _ A4.out).mono ?_); rintro e w12 ⟨rfl, hb⟩; refine ⟨_, rfl, ?_⟩; have n0_ := Aside0.mk (below_step (by repeat (first | (with_reducible first | exact HB.out | apply below_alloc | apply pw_below_drewN | apply below_drew1) | exact HB.out)) hb); clear HB; have HB := n0_; clear n0_; (try clear hb); (try clear hb2); (try clear hk); (try clear hi)) | ((with_reducible refine gate_callee (f := 12) rfl ?_); refine goesL_ (some 13) rfl rfl Try.func12 (by kernel_rfl) rfl #[.int .i64 a0, .int .i64 a1] rfl (by (try simp only [List.map_toArray, List.map_cons, List.map_nil]); first | done | rfl | (simp only [List.length_drop, List.length_take]; rfl)) ?_; (with_reducible refine (mode_Join.calls k a0 a1 t137 _ A5.out).mono ?_); rintro e w' ⟨rfl, ⟨nd, rfl⟩⟩; refine ⟨_, rfl, ?_⟩) | (go_at_call 14; (with_reducible refine (mode_Above.calls k a0 t138 _ A8.out).mono ?_); rintro e w' ⟨rfl, ⟨nd, rfl⟩⟩) | (go_at_call 14; (with_reducible refine (mode_Above.calls k a1 t139 _ A11.out).mono ?_); rintro e w' ⟨rfl, ⟨nd, rfl⟩⟩))
        go_ret
        exact ⟨by first | rfl | (simp [errW_none, errW_some] <;> rfl) | (simp [*, errW_none, errW_some] <;> rfl), by repeat (first | (with_reducible first | exact HB.out | apply below_alloc | apply pw_below_drewN | apply below_drew1) | exact HB.out)⟩
    · replace c7 := Bool.eq_false_iff.mpr c7
      subst c7
      have H1 : (some false) = some r := by rw [if_neg (show ¬ (false = true) by decide)] at H; exact H
      clear H
      have H := H1
      clear H1
      obtain rfl := Option.some.inj H
      go_enter Try.func4, Try.ntmps4
      go_wp2_with (first | ((with_reducible refine gate_callee (f := 7) rfl ?_); refine goesL_ (some 10) rfl rfl Try.func7 (by kernel_rfl) rfl #[] rfl (by (try simp only [List.map_toArray, List.map_cons, List.map_nil]); first | done | rfl | (simp only [List.length_drop, List.length_take]; rfl)) ?_; (with_reducible refine (banksmanlaw09_awake.calls k  false _ A4.out).mono ?_); rintro e w13 ⟨rfl, hb⟩; refine ⟨_, rfl, ?_⟩; have n0_ := Aside0.mk (below_step (by repeat (first | (with_reducible first | exact HB.out | apply below_alloc | apply pw_below_drewN | apply below_drew1) | exact HB.out)) hb); clear HB; have HB := n0_; clear n0_; (try clear hb); (try clear hb2); (try clear hk); (try clear hi)) | ((with_reducible refine gate_callee (f := 12) rfl ?_); refine goesL_ (some 13) rfl rfl Try.func12 (by kernel_rfl) rfl #[.int .i64 a0, .int .i64 a1] rfl (by (try simp only [List.map_toArray, List.map_cons, List.map_nil]); first | done | rfl | (simp only [List.length_drop, List.length_take]; rfl)) ?_; (with_reducible refine (mode_Join.calls k a0 a1 t137 _ A5.out).mono ?_); rintro e w' ⟨rfl, ⟨nd, rfl⟩⟩; refine ⟨_, rfl, ?_⟩))
      go_ret
      exact ⟨by first | rfl | (simp [errW_none, errW_some] <;> rfl) | (simp [*, errW_none, errW_some] <;> rfl), by repeat (first | (with_reducible first | exact HB.out | apply below_alloc | apply pw_below_drewN | apply below_drew1) | exact HB.out)⟩
  · rw [if_neg c6] at H
    have c6b0 : (t137 == 0) = false := beq_eq_false_iff_ne.mpr c6
    have c6b1 : (t137 != 0) = true := bne_iff_ne.mpr c6
    have HC14 := Aside0.mk H
    clear H
    go_enter Try.func4, Try.ntmps4
    go_upto_region 5 with (first | ((with_reducible refine gate_callee (f := 7) rfl ?_); refine goesL_ (some 10) rfl rfl Try.func7 (by kernel_rfl) rfl #[] rfl (by (try simp only [List.map_toArray, List.map_cons, List.map_nil]); first | done | rfl | (simp only [List.length_drop, List.length_take]; rfl)) ?_; (with_reducible refine (banksmanlaw09_awake.calls k  t136 _ A4.out).mono ?_); rintro e w15 ⟨rfl, hb⟩; refine ⟨_, rfl, ?_⟩; have n0_ := Aside0.mk (below_step (by repeat (first | (with_reducible first | exact HB.out | apply below_alloc | apply pw_below_drewN | apply below_drew1) | exact HB.out)) hb); clear HB; have HB := n0_; clear n0_; (try clear hb); (try clear hb2); (try clear hk); (try clear hi)) | ((with_reducible refine gate_callee (f := 12) rfl ?_); refine goesL_ (some 13) rfl rfl Try.func12 (by kernel_rfl) rfl #[.int .i64 a0, .int .i64 a1] rfl (by (try simp only [List.map_toArray, List.map_cons, List.map_nil]); first | done | rfl | (simp only [List.length_drop, List.length_take]; rfl)) ?_; (with_reducible refine (mode_Join.calls k a0 a1 t137 _ A5.out).mono ?_); rintro e w' ⟨rfl, ⟨nd, rfl⟩⟩; refine ⟨_, rfl, ?_⟩))
    (try simp only [Act.put, List.setIfInBounds_toArray, List.set_cons_zero, List.set_cons_succ])
    go_cut [9] (fun v9 wc => ∃ (kq : Nat) (x9_13 : Bool), v9 = .bool x9_13 ∧ Aside0 (banksmanlaw09_ModeJoins.j0 kq a0 a1 a2 t136 t137 x9_13 = some r) ∧ Aside0 (kq ≤ k) ∧ Aside0 (Below w.heap.size w wc))
    case first =>
      have H := HC14.out
      clear HC14
      replace H := Option.bind_eq_some_iff.mp H
      obtain ⟨t140, A160, H⟩ := H
      replace H : (if t140 = true then ((mode_Covers.f a2 a1).bind fun t141 => (if t141 = true then ((mode_Covers.f a2 t137).bind fun t142 => (banksmanlaw09_ModeJoins.j0 k a0 a1 a2 t136 t137 t142)) else (banksmanlaw09_ModeJoins.j0 k a0 a1 a2 t136 t137 true))) else (banksmanlaw09_ModeJoins.j0 k a0 a1 a2 t136 t137 true)) = some r := H
      have A16 := Aside0.mk A160
      clear A160
      by_cases c17 : t140 = true
      · subst c17
        have H1 : ((mode_Covers.f a2 a1).bind fun t141 => (if t141 = true then ((mode_Covers.f a2 t137).bind fun t142 => (banksmanlaw09_ModeJoins.j0 k a0 a1 a2 t136 t137 t142)) else (banksmanlaw09_ModeJoins.j0 k a0 a1 a2 t136 t137 true))) = some r := by rw [if_pos rfl] at H; exact H
        clear H
        have H := H1
        clear H1
        replace H := Option.bind_eq_some_iff.mp H
        obtain ⟨t141, A180, H⟩ := H
        replace H : (if t141 = true then ((mode_Covers.f a2 t137).bind fun t142 => (banksmanlaw09_ModeJoins.j0 k a0 a1 a2 t136 t137 t142)) else (banksmanlaw09_ModeJoins.j0 k a0 a1 a2 t136 t137 true)) = some r := H
        have A18 := Aside0.mk A180
        clear A180
        by_cases c19 : t141 = true
        · subst c19
          have H1 : ((mode_Covers.f a2 t137).bind fun t142 => (banksmanlaw09_ModeJoins.j0 k a0 a1 a2 t136 t137 t142)) = some r := by rw [if_pos rfl] at H; exact H
          clear H
          have H := H1
          clear H1
          replace H := Option.bind_eq_some_iff.mp H
          obtain ⟨t142, A200, H⟩ := H
          replace H : (banksmanlaw09_ModeJoins.j0 k a0 a1 a2 t136 t137 t142) = some r := H
          have A20 := Aside0.mk A200
          clear A200
          have H' := Aside0.mk H
          clear H
          go_wp2_with (first | ((with_reducible refine gate_callee (f := 10) rfl ?_); refine goesL_ (some 29) rfl rfl Try.func10 (by kernel_rfl) rfl #[.int .i64 a2, .int .i64 a0] rfl (by (try simp only [List.map_toArray, List.map_cons, List.map_nil]); first | done | rfl | (simp only [List.length_drop, List.length_take]; rfl)) ?_; (with_reducible refine (mode_Covers.calls a2 a0 true _ A16.out).mono ?_); rintro e w' ⟨rfl, ⟨nd, rfl⟩⟩; refine ⟨_, rfl, ?_⟩) | (go_at_call 10; (with_reducible refine (mode_Covers.calls a2 a1 true _ A18.out).mono ?_); rintro e w' ⟨rfl, ⟨nd, rfl⟩⟩) | (go_at_call 10; (with_reducible refine (mode_Covers.calls a2 t137 t142 _ A20.out).mono ?_); rintro e w' ⟨rfl, ⟨nd, rfl⟩⟩))
          go_meet
          case rel => exact ⟨_, (t142), (by first | rfl | (simp; done) | (simp [*]; done)), H', ⟨by first | omega | exact Nat.le_refl _⟩, ⟨by repeat (first | (with_reducible first | exact HB.out | apply below_alloc | apply pw_below_drewN | apply below_drew1) | exact HB.out)⟩⟩
        · replace c19 := Bool.eq_false_iff.mpr c19
          subst c19
          have H1 : (banksmanlaw09_ModeJoins.j0 k a0 a1 a2 t136 t137 true) = some r := by rw [if_neg (show ¬ (false = true) by decide)] at H; exact H
          clear H
          have H := H1
          clear H1
          have H' := Aside0.mk H
          clear H
          go_wp2_with (first | ((with_reducible refine gate_callee (f := 10) rfl ?_); refine goesL_ (some 29) rfl rfl Try.func10 (by kernel_rfl) rfl #[.int .i64 a2, .int .i64 a0] rfl (by (try simp only [List.map_toArray, List.map_cons, List.map_nil]); first | done | rfl | (simp only [List.length_drop, List.length_take]; rfl)) ?_; (with_reducible refine (mode_Covers.calls a2 a0 true _ A16.out).mono ?_); rintro e w' ⟨rfl, ⟨nd, rfl⟩⟩; refine ⟨_, rfl, ?_⟩) | (go_at_call 10; (with_reducible refine (mode_Covers.calls a2 a1 false _ A18.out).mono ?_); rintro e w' ⟨rfl, ⟨nd, rfl⟩⟩))
          go_meet
          case rel => exact ⟨_, (true), (by first | rfl | (simp; done) | (simp [*]; done)), H', ⟨by first | omega | exact Nat.le_refl _⟩, ⟨by repeat (first | (with_reducible first | exact HB.out | apply below_alloc | apply pw_below_drewN | apply below_drew1) | exact HB.out)⟩⟩
      · replace c17 := Bool.eq_false_iff.mpr c17
        subst c17
        have H1 : (banksmanlaw09_ModeJoins.j0 k a0 a1 a2 t136 t137 true) = some r := by rw [if_neg (show ¬ (false = true) by decide)] at H; exact H
        clear H
        have H := H1
        clear H1
        have H' := Aside0.mk H
        clear H
        go_wp2_with (first | ((with_reducible refine gate_callee (f := 10) rfl ?_); refine goesL_ (some 29) rfl rfl Try.func10 (by kernel_rfl) rfl #[.int .i64 a2, .int .i64 a0] rfl (by (try simp only [List.map_toArray, List.map_cons, List.map_nil]); first | done | rfl | (simp only [List.length_drop, List.length_take]; rfl)) ?_; (with_reducible refine (mode_Covers.calls a2 a0 false _ A16.out).mono ?_); rintro e w' ⟨rfl, ⟨nd, rfl⟩⟩; refine ⟨_, rfl, ?_⟩))
        go_meet
        case rel => exact ⟨_, (true), (by first | rfl | (simp; done) | (simp [*]; done)), H', ⟨by first | omega | exact Nat.le_refl _⟩, ⟨by repeat (first | (with_reducible first | exact HB.out | apply below_alloc | apply pw_below_drewN | apply below_drew1) | exact HB.out)⟩⟩
    case rest =>
      clear HC14
      try clear c1
      try clear p2
      try clear c4
      try clear c6
      try clear c6b0
      try clear c6b1
      try clear c7
      try clear c9
      try clear c9b0
      try clear c9b1
      try clear c10
      try clear c12
      try clear c17
      try clear c19
      obtain ⟨kq, x9_13, rfl, HA, HJ13, HB⟩ := hcut
      cases kq with
      | zero => exact absurd HA.out (by simp [banksmanlaw09_ModeJoins.j0])
      | succ kj13 =>
        have H := HA.out
        clear HA
        simp only [banksmanlaw09_ModeJoins.j0] at H
        by_cases c21 : t136 = true
        · subst c21
          have H1 : ((mode_Join.f kj13 a1 a0).bind fun t143 => (if t137 = t143 then ((mode_Covers.f t137 a0).bind fun t144 => (if t144 = true then ((mode_Covers.f t137 a1).bind fun t145 => (if t145 = true then (if x9_13 = true then ((mode_Join.f kj13 a0 a0).bind fun t146 => (if t146 = a0 then ((mode_Join.f kj13 t137 a2).bind fun t147 => ((mode_Join.f kj13 a1 a2).bind fun t148 => ((mode_Join.f kj13 a0 t148).bind fun t149 => (some (t147 == t149))))) else (some false))) else (some false)) else (some false))) else (some false))) else (some false))) = some r := by rw [if_pos rfl] at H; exact H
          clear H
          have H := H1
          clear H1
          replace H := Option.bind_eq_some_iff.mp H
          obtain ⟨t143, A220, H⟩ := H
          replace H : (if t137 = t143 then ((mode_Covers.f t137 a0).bind fun t144 => (if t144 = true then ((mode_Covers.f t137 a1).bind fun t145 => (if t145 = true then (if x9_13 = true then ((mode_Join.f kj13 a0 a0).bind fun t146 => (if t146 = a0 then ((mode_Join.f kj13 t137 a2).bind fun t147 => ((mode_Join.f kj13 a1 a2).bind fun t148 => ((mode_Join.f kj13 a0 t148).bind fun t149 => (some (t147 == t149))))) else (some false))) else (some false)) else (some false))) else (some false))) else (some false)) = some r := H
          have A22 := Aside0.mk A220
          clear A220
          by_cases c23 : t137 = t143
          · rw [if_pos c23] at H
            have c23b0 : (t137 == t143) = true := beq_iff_eq.mpr c23
            have c23b1 : (t137 != t143) = false := bne_eq_false_iff_eq.mpr c23
            clear c23
            replace H := Option.bind_eq_some_iff.mp H
            obtain ⟨t144, A240, H⟩ := H
            replace H : (if t144 = true then ((mode_Covers.f t137 a1).bind fun t145 => (if t145 = true then (if x9_13 = true then ((mode_Join.f kj13 a0 a0).bind fun t146 => (if t146 = a0 then ((mode_Join.f kj13 t137 a2).bind fun t147 => ((mode_Join.f kj13 a1 a2).bind fun t148 => ((mode_Join.f kj13 a0 t148).bind fun t149 => (some (t147 == t149))))) else (some false))) else (some false)) else (some false))) else (some false)) = some r := H
            have A24 := Aside0.mk A240
            clear A240
            by_cases c25 : t144 = true
            · subst c25
              have H1 : ((mode_Covers.f t137 a1).bind fun t145 => (if t145 = true then (if x9_13 = true then ((mode_Join.f kj13 a0 a0).bind fun t146 => (if t146 = a0 then ((mode_Join.f kj13 t137 a2).bind fun t147 => ((mode_Join.f kj13 a1 a2).bind fun t148 => ((mode_Join.f kj13 a0 t148).bind fun t149 => (some (t147 == t149))))) else (some false))) else (some false)) else (some false))) = some r := by rw [if_pos rfl] at H; exact H
              clear H
              have H := H1
              clear H1
              replace H := Option.bind_eq_some_iff.mp H
              obtain ⟨t145, A260, H⟩ := H
              replace H : (if t145 = true then (if x9_13 = true then ((mode_Join.f kj13 a0 a0).bind fun t146 => (if t146 = a0 then ((mode_Join.f kj13 t137 a2).bind fun t147 => ((mode_Join.f kj13 a1 a2).bind fun t148 => ((mode_Join.f kj13 a0 t148).bind fun t149 => (some (t147 == t149))))) else (some false))) else (some false)) else (some false)) = some r := H
              have A26 := Aside0.mk A260
              clear A260
              by_cases c27 : t145 = true
              · subst c27
                have H1 : (if x9_13 = true then ((mode_Join.f kj13 a0 a0).bind fun t146 => (if t146 = a0 then ((mode_Join.f kj13 t137 a2).bind fun t147 => ((mode_Join.f kj13 a1 a2).bind fun t148 => ((mode_Join.f kj13 a0 t148).bind fun t149 => (some (t147 == t149))))) else (some false))) else (some false)) = some r := by rw [if_pos rfl] at H; exact H
                clear H
                have H := H1
                clear H1
                by_cases c28 : x9_13 = true
                · subst c28
                  have H1 : ((mode_Join.f kj13 a0 a0).bind fun t146 => (if t146 = a0 then ((mode_Join.f kj13 t137 a2).bind fun t147 => ((mode_Join.f kj13 a1 a2).bind fun t148 => ((mode_Join.f kj13 a0 t148).bind fun t149 => (some (t147 == t149))))) else (some false))) = some r := by rw [if_pos rfl] at H; exact H
                  clear H
                  have H := H1
                  clear H1
                  replace H := Option.bind_eq_some_iff.mp H
                  obtain ⟨t146, A290, H⟩ := H
                  replace H : (if t146 = a0 then ((mode_Join.f kj13 t137 a2).bind fun t147 => ((mode_Join.f kj13 a1 a2).bind fun t148 => ((mode_Join.f kj13 a0 t148).bind fun t149 => (some (t147 == t149))))) else (some false)) = some r := H
                  have A29 := Aside0.mk A290
                  clear A290
                  by_cases c30 : t146 = a0
                  · rw [if_pos c30] at H
                    have c30b0 : (t146 == a0) = true := beq_iff_eq.mpr c30
                    have c30b1 : (t146 != a0) = false := bne_eq_false_iff_eq.mpr c30
                    clear c30
                    replace H := Option.bind_eq_some_iff.mp H
                    obtain ⟨t147, A310, H⟩ := H
                    replace H : ((mode_Join.f kj13 a1 a2).bind fun t148 => ((mode_Join.f kj13 a0 t148).bind fun t149 => (some (t147 == t149)))) = some r := H
                    have A31 := Aside0.mk A310
                    clear A310
                    replace H := Option.bind_eq_some_iff.mp H
                    obtain ⟨t148, A320, H⟩ := H
                    replace H : ((mode_Join.f kj13 a0 t148).bind fun t149 => (some (t147 == t149))) = some r := H
                    have A32 := Aside0.mk A320
                    clear A320
                    replace H := Option.bind_eq_some_iff.mp H
                    obtain ⟨t149, A330, H⟩ := H
                    replace H : (some (t147 == t149)) = some r := H
                    have A33 := Aside0.mk A330
                    clear A330
                    obtain rfl := Option.some.inj H
                    go_wp2_with (first | (go_at_call 12; (with_reducible refine (mode_Join.calls kj13 a1 a0 t143 _ A22.out).mono ?_); rintro e w' ⟨rfl, ⟨nd, rfl⟩⟩) | (go_at_call 10; (with_reducible refine (mode_Covers.calls t137 a0 true _ A24.out).mono ?_); rintro e w' ⟨rfl, ⟨nd, rfl⟩⟩) | (go_at_call 10; (with_reducible refine (mode_Covers.calls t137 a1 true _ A26.out).mono ?_); rintro e w' ⟨rfl, ⟨nd, rfl⟩⟩) | (go_at_call 12; (with_reducible refine (mode_Join.calls kj13 a0 a0 t146 _ A29.out).mono ?_); rintro e w' ⟨rfl, ⟨nd, rfl⟩⟩) | (go_at_call 12; (with_reducible refine (mode_Join.calls kj13 t137 a2 t147 _ A31.out).mono ?_); rintro e w' ⟨rfl, ⟨nd, rfl⟩⟩) | (go_at_call 12; (with_reducible refine (mode_Join.calls kj13 a1 a2 t148 _ A32.out).mono ?_); rintro e w' ⟨rfl, ⟨nd, rfl⟩⟩) | (go_at_call 12; (with_reducible refine (mode_Join.calls kj13 a0 t148 t149 _ A33.out).mono ?_); rintro e w' ⟨rfl, ⟨nd, rfl⟩⟩))
                    go_ret
                    exact ⟨by first | rfl | (simp [errW_none, errW_some] <;> rfl) | (simp [*, errW_none, errW_some] <;> rfl), by repeat (first | (with_reducible first | exact HB.out | apply below_alloc | apply pw_below_drewN | apply below_drew1) | exact HB.out)⟩
                  · rw [if_neg c30] at H
                    have c30b0 : (t146 == a0) = false := beq_eq_false_iff_ne.mpr c30
                    have c30b1 : (t146 != a0) = true := bne_iff_ne.mpr c30
                    obtain rfl := Option.some.inj H
                    go_wp2_with (first | (go_at_call 12; (with_reducible refine (mode_Join.calls kj13 a1 a0 t143 _ A22.out).mono ?_); rintro e w' ⟨rfl, ⟨nd, rfl⟩⟩) | (go_at_call 10; (with_reducible refine (mode_Covers.calls t137 a0 true _ A24.out).mono ?_); rintro e w' ⟨rfl, ⟨nd, rfl⟩⟩) | (go_at_call 10; (with_reducible refine (mode_Covers.calls t137 a1 true _ A26.out).mono ?_); rintro e w' ⟨rfl, ⟨nd, rfl⟩⟩) | (go_at_call 12; (with_reducible refine (mode_Join.calls kj13 a0 a0 t146 _ A29.out).mono ?_); rintro e w' ⟨rfl, ⟨nd, rfl⟩⟩))
                    go_ret
                    exact ⟨by first | rfl | (simp [errW_none, errW_some] <;> rfl) | (simp [*, errW_none, errW_some] <;> rfl), by repeat (first | (with_reducible first | exact HB.out | apply below_alloc | apply pw_below_drewN | apply below_drew1) | exact HB.out)⟩
                · replace c28 := Bool.eq_false_iff.mpr c28
                  subst c28
                  have H1 : (some false) = some r := by rw [if_neg (show ¬ (false = true) by decide)] at H; exact H
                  clear H
                  have H := H1
                  clear H1
                  obtain rfl := Option.some.inj H
                  go_wp2_with (first | (go_at_call 12; (with_reducible refine (mode_Join.calls kj13 a1 a0 t143 _ A22.out).mono ?_); rintro e w' ⟨rfl, ⟨nd, rfl⟩⟩) | (go_at_call 10; (with_reducible refine (mode_Covers.calls t137 a0 true _ A24.out).mono ?_); rintro e w' ⟨rfl, ⟨nd, rfl⟩⟩) | (go_at_call 10; (with_reducible refine (mode_Covers.calls t137 a1 true _ A26.out).mono ?_); rintro e w' ⟨rfl, ⟨nd, rfl⟩⟩))
                  go_ret
                  exact ⟨by first | rfl | (simp [errW_none, errW_some] <;> rfl) | (simp [*, errW_none, errW_some] <;> rfl), by repeat (first | (with_reducible first | exact HB.out | apply below_alloc | apply pw_below_drewN | apply below_drew1) | exact HB.out)⟩
              · replace c27 := Bool.eq_false_iff.mpr c27
                subst c27
                have H1 : (some false) = some r := by rw [if_neg (show ¬ (false = true) by decide)] at H; exact H
                clear H
                have H := H1
                clear H1
                obtain rfl := Option.some.inj H
                go_wp2_with (first | (go_at_call 12; (with_reducible refine (mode_Join.calls kj13 a1 a0 t143 _ A22.out).mono ?_); rintro e w' ⟨rfl, ⟨nd, rfl⟩⟩) | (go_at_call 10; (with_reducible refine (mode_Covers.calls t137 a0 true _ A24.out).mono ?_); rintro e w' ⟨rfl, ⟨nd, rfl⟩⟩) | (go_at_call 10; (with_reducible refine (mode_Covers.calls t137 a1 false _ A26.out).mono ?_); rintro e w' ⟨rfl, ⟨nd, rfl⟩⟩))
                go_ret
                exact ⟨by first | rfl | (simp [errW_none, errW_some] <;> rfl) | (simp [*, errW_none, errW_some] <;> rfl), by repeat (first | (with_reducible first | exact HB.out | apply below_alloc | apply pw_below_drewN | apply below_drew1) | exact HB.out)⟩
            · replace c25 := Bool.eq_false_iff.mpr c25
              subst c25
              have H1 : (some false) = some r := by rw [if_neg (show ¬ (false = true) by decide)] at H; exact H
              clear H
              have H := H1
              clear H1
              obtain rfl := Option.some.inj H
              go_wp2_with (first | (go_at_call 12; (with_reducible refine (mode_Join.calls kj13 a1 a0 t143 _ A22.out).mono ?_); rintro e w' ⟨rfl, ⟨nd, rfl⟩⟩) | (go_at_call 10; (with_reducible refine (mode_Covers.calls t137 a0 false _ A24.out).mono ?_); rintro e w' ⟨rfl, ⟨nd, rfl⟩⟩))
              go_ret
              exact ⟨by first | rfl | (simp [errW_none, errW_some] <;> rfl) | (simp [*, errW_none, errW_some] <;> rfl), by repeat (first | (with_reducible first | exact HB.out | apply below_alloc | apply pw_below_drewN | apply below_drew1) | exact HB.out)⟩
          · rw [if_neg c23] at H
            have c23b0 : (t137 == t143) = false := beq_eq_false_iff_ne.mpr c23
            have c23b1 : (t137 != t143) = true := bne_iff_ne.mpr c23
            obtain rfl := Option.some.inj H
            go_wp2_with (first | (go_at_call 12; (with_reducible refine (mode_Join.calls kj13 a1 a0 t143 _ A22.out).mono ?_); rintro e w' ⟨rfl, ⟨nd, rfl⟩⟩))
            go_ret
            exact ⟨by first | rfl | (simp [errW_none, errW_some] <;> rfl) | (simp [*, errW_none, errW_some] <;> rfl), by repeat (first | (with_reducible first | exact HB.out | apply below_alloc | apply pw_below_drewN | apply below_drew1) | exact HB.out)⟩
        · replace c21 := Bool.eq_false_iff.mpr c21
          subst c21
          have H1 : (some false) = some r := by rw [if_neg (show ¬ (false = true) by decide)] at H; exact H
          clear H
          have H := H1
          clear H1
          obtain rfl := Option.some.inj H
          go_wp2
          go_ret
          exact ⟨by first | rfl | (simp [errW_none, errW_some] <;> rfl) | (simp [*, errW_none, errW_some] <;> rfl), by repeat (first | (with_reducible first | exact HB.out | apply below_alloc | apply pw_below_drewN | apply below_drew1) | exact HB.out)⟩

/-- THE ONE PURE STATEMENT of banksmanlaw09_ModeJoins: yours. -/
def banksmanlaw09_ModeJoins.Pure : Prop := ∀ (a0 : Int) (a1 : Int) (a2 : Int), (Lit.int .i64 a0).wf = true → (Lit.int .i64 a1).wf = true → (Lit.int .i64 a2).wf = true → ∃ k, banksmanlaw09_ModeJoins.f k a0 a1 a2 = some true
theorem banksmanlaw09_ModeJoins.walk (P : banksmanlaw09_ModeJoins.Pure) (a0 : Int) (a1 : Int) (a2 : Int) (w : World) (w0 : (Lit.int .i64 a0).wf = true) (w1 : (Lit.int .i64 a1).wf = true) (w2 : (Lit.int .i64 a2).wf = true) :
    Calls Try.prog 4 #[.int .i64 a0, .int .i64 a1, .int .i64 a2] w fun e w' => e = .returned (.bool true) ∧ Below w.heap.size w w' := by
  obtain ⟨k, h⟩ := P a0 a1 a2 w0 w1 w2
  refine (banksmanlaw09_ModeJoins.calls k a0 a1 a2 true w h).mono ?_
  rintro e w' ⟨rfl, hd⟩
  exact ⟨rfl, hd⟩

end Go.Proofs.Ytiliailmgjhjbaa.P
