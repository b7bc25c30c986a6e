-- Written by wip/gprint.py, a program of this session over the kit's print; Lean checks it.
import Derived.Test.YtiliailmgjhjbaaPx0
import Derived.Test.YtiliailmgjhjbaaPx4
import Derived.Test.YtiliailmgjhjbaaPx5
import Derived.Test.YtiliailmgjhjbaaPx6
import Derived.Test.YtiliailmgjhjbaaPx7
import Derived.Test.YtiliailmgjhjbaaPx8
namespace Go.Proofs.Ytiliailmgjhjbaa.P
open Go.RowKit Go.Proofs.YtiliailmgjhjbaaW.PrintWords Go.Proofs.YtiliailmgjhjbaaW.PrintLast Go.Proofs.YtiliailmgjhjbaaW.PrintMore
attribute [local go_sem] max2_int min2_int max_two min_two max_three min_three max_four min_four   -- for this text's walks alone
set_option linter.unusedVariables false
set_option linter.unusedSimpArgs false

/-! ### banksmanlaw09_ModeFits: function 5 -/
mutual
def banksmanlaw09_ModeFits.j0 : Nat → Int → Int → Int → Bool → Bool → Option (Bool)
  | 0, _, _, _, _, _ => none
  | k + 1, x0, x1, x2, x7, x8 => (mode_Fits.f x0 x2).bind fun t154 => (if t154 = true then ((mode_Fits.f x1 x2).bind fun t155 => (if t155 = true then ((mode_Join.f k x0 x1).bind fun t156 => ((mode_Fits.f t156 x2).bind fun t157 => (banksmanlaw09_ModeFits.j1 k x0 x1 x7 x8 t157))) else (banksmanlaw09_ModeFits.j1 k x0 x1 x7 x8 true))) else (banksmanlaw09_ModeFits.j1 k x0 x1 x7 x8 true))
def banksmanlaw09_ModeFits.j1 : Nat → Int → Int → Bool → Bool → Bool → Option (Bool)
  | 0, _, _, _, _, _ => none
  | k + 1, x0, x1, x7, x8, x9 => if x7 = true then ((mode_Fits.f x0 x1).bind fun t158 => ((mode_Fits.f x1 x0).bind fun t159 => (if (t158 == t159) = true then (if x8 = true then (if x9 = true then ((mode_Covers.f x0 x0).bind fun t160 => ((mode_Above.f k x0).bind fun t161 => (some (t160 == (decide (t161 > 0)))))) else (some false)) else (some false)) else (some false)))) else (some false)
end
def banksmanlaw09_ModeFits.f (k : Nat) (a0 : Int) (a1 : Int) (a2 : Int) : Option (Bool) := (banksmanlaw09_awake.f k).bind fun t150 => ((mode_Covers.f a2 a0).bind fun t151 => (if t151 = true then ((mode_Fits.f a2 a1).bind fun t152 => (if t152 = true then ((mode_Fits.f a0 a1).bind fun t153 => (banksmanlaw09_ModeFits.j0 k a0 a1 a2 t150 t153)) else (banksmanlaw09_ModeFits.j0 k a0 a1 a2 t150 true))) else (banksmanlaw09_ModeFits.j0 k a0 a1 a2 t150 true)))
theorem banksmanlaw09_ModeFits.mono_l : ∀ k, (∀ y0 y1 y2 y3 y4, LeO (banksmanlaw09_ModeFits.j0 k y0 y1 y2 y3 y4) (banksmanlaw09_ModeFits.j0 (k + 1) y0 y1 y2 y3 y4)) ∧ (∀ y0 y1 y2 y3 y4, LeO (banksmanlaw09_ModeFits.j1 k y0 y1 y2 y3 y4) (banksmanlaw09_ModeFits.j1 (k + 1) y0 y1 y2 y3 y4))
  | 0 => ⟨fun _ _ _ _ _ r h => by simp [banksmanlaw09_ModeFits.j0] at h, fun _ _ _ _ _ r h => by simp [banksmanlaw09_ModeFits.j1] at h⟩
  | k + 1 => by
    obtain ⟨ih0, ih1⟩ := banksmanlaw09_ModeFits.mono_l k
    refine ⟨?_, ?_⟩
    · intro y0 y1 y2 y3 y4
      unfold banksmanlaw09_ModeFits.j0
      repeat' first
      | (with_reducible exact ih0 _ _ _ _ _)
      | (with_reducible exact ih1 _ _ _ _ _)
      | (with_reducible exact banksmanlaw09_awake.mono _)
      | (with_reducible exact mode_Above.mono _ _)
      | (with_reducible exact mode_Join.mono _ _ _)
      | (with_reducible exact LeO.refl _)
      | (with_reducible exact LeO.none _)
      | (with_reducible refine LeO.ite ?_ ?_)
      | (with_reducible refine LeO.bind ?_ (fun _ => ?_))
      | exact ih0 _ _ _ _ _
      | exact ih1 _ _ _ _ _
      | exact banksmanlaw09_awake.mono _
      | exact mode_Above.mono _ _
      | exact mode_Join.mono _ _ _
      | exact LeO.none _
      | refine LeO.ite ?_ ?_
      | refine LeO.bind ?_ (fun _ => ?_)
    · intro y0 y1 y2 y3 y4
      unfold banksmanlaw09_ModeFits.j1
      repeat' first
      | (with_reducible exact ih0 _ _ _ _ _)
      | (with_reducible exact ih1 _ _ _ _ _)
      | (with_reducible exact banksmanlaw09_awake.mono _)
      | (with_reducible exact mode_Above.mono _ _)
      | (with_reducible exact mode_Join.mono _ _ _)
      | (with_reducible exact LeO.refl _)
      | (with_reducible exact LeO.none _)
      | (with_reducible refine LeO.ite ?_ ?_)
      | (with_reducible refine LeO.bind ?_ (fun _ => ?_))
      | exact ih0 _ _ _ _ _
      | exact ih1 _ _ _ _ _
      | exact banksmanlaw09_awake.mono _
      | exact mode_Above.mono _ _
      | exact mode_Join.mono _ _ _
      | exact LeO.none _
      | refine LeO.ite ?_ ?_
      | refine LeO.bind ?_ (fun _ => ?_)
theorem banksmanlaw09_ModeFits.mono : ∀ a0 a1 a2 k, LeO (banksmanlaw09_ModeFits.f k a0 a1 a2) (banksmanlaw09_ModeFits.f (k + 1) a0 a1 a2) := by
  intro a0 a1 a2 k
  obtain ⟨ih0, ih1⟩ := banksmanlaw09_ModeFits.mono_l k
  unfold banksmanlaw09_ModeFits.f
  repeat' first
      | (with_reducible exact ih0 _ _ _ _ _)
      | (with_reducible exact ih1 _ _ _ _ _)
      | (with_reducible exact banksmanlaw09_awake.mono _)
      | (with_reducible exact mode_Above.mono _ _)
      | (with_reducible exact mode_Join.mono _ _ _)
      | (with_reducible exact LeO.refl _)
      | (with_reducible exact LeO.none _)
      | (with_reducible refine LeO.ite ?_ ?_)
      | (with_reducible refine LeO.bind ?_ (fun _ => ?_))
      | exact ih0 _ _ _ _ _
      | exact ih1 _ _ _ _ _
      | exact banksmanlaw09_awake.mono _
      | exact mode_Above.mono _ _
      | exact mode_Join.mono _ _ _
      | exact LeO.none _
      | refine LeO.ite ?_ ?_
      | refine LeO.bind ?_ (fun _ => ?_)
set_option maxHeartbeats 8000000 in
set_option maxRecDepth 100000 in
theorem banksmanlaw09_ModeFits.calls (k : Nat) (a0 : Int) (a1 : Int) (a2 : Int) (r : Bool) (w : World) (h : banksmanlaw09_ModeFits.f k a0 a1 a2 = some r) :
    Calls Try.prog 5 #[.int .i64 a0, .int .i64 a1, .int .i64 a2] w fun e w' => e = .returned (.bool r) ∧ Below w.heap.size w w' := by
  have HB := Aside0.mk (Below.refl w.heap.size w)
  have H : ((banksmanlaw09_awake.f k).bind fun t150 => ((mode_Covers.f a2 a0).bind fun t151 => (if t151 = true then ((mode_Fits.f a2 a1).bind fun t152 => (if t152 = true then ((mode_Fits.f a0 a1).bind fun t153 => (banksmanlaw09_ModeFits.j0 k a0 a1 a2 t150 t153)) else (banksmanlaw09_ModeFits.j0 k a0 a1 a2 t150 true))) else (banksmanlaw09_ModeFits.j0 k a0 a1 a2 t150 true)))) = some r := h
  clear h
  replace H := Option.bind_eq_some_iff.mp H
  obtain ⟨t150, A40, H⟩ := H
  replace H : ((mode_Covers.f a2 a0).bind fun t151 => (if t151 = true then ((mode_Fits.f a2 a1).bind fun t152 => (if t152 = true then ((mode_Fits.f a0 a1).bind fun t153 => (banksmanlaw09_ModeFits.j0 k a0 a1 a2 t150 t153)) else (banksmanlaw09_ModeFits.j0 k a0 a1 a2 t150 true))) else (banksmanlaw09_ModeFits.j0 k a0 a1 a2 t150 true))) = some r := H
  have A4 := Aside0.mk A40
  clear A40
  have HC5 := Aside0.mk H
  clear H
  go_enter Try.func5, Try.ntmps5
  go_upto_region 2 with (first | ((with_reducible refine gate_callee (f := 7) rfl ?_); refine goesL_ (some 10) rfl rfl Try.func7 (by kernel_rfl) rfl #[] rfl (by (try simp only [List.map_toArray, List.map_cons, List.map_nil]); first | done | rfl | (simp only [List.length_drop, List.length_take]; rfl)) ?_; (with_reducible refine (banksmanlaw09_awake.calls k  t150 _ A4.out).mono ?_); rintro e w6 ⟨rfl, hb⟩; refine ⟨_, rfl, ?_⟩; have n0_ := Aside0.mk (below_step (by repeat (first | (with_reducible first | exact HB.out | apply below_alloc | apply pw_below_drewN | apply below_drew1) | exact HB.out)) hb); clear HB; have HB := n0_; clear n0_; (try clear hb); (try clear hb2); (try clear hk); (try clear hi)))
  (try simp only [Act.put, List.setIfInBounds_toArray, List.set_cons_zero, List.set_cons_succ])
  go_cut [8] (fun v8 wc => ∃ (kq : Nat) (x8_4 : Bool), v8 = .bool x8_4 ∧ Aside0 (banksmanlaw09_ModeFits.j0 kq a0 a1 a2 t150 x8_4 = some r) ∧ Aside0 (kq ≤ k) ∧ Aside0 (Below w.heap.size w wc))
  case first =>
    have H := HC5.out
    clear HC5
    replace H := Option.bind_eq_some_iff.mp H
    obtain ⟨t151, A70, H⟩ := H
    replace H : (if t151 = true then ((mode_Fits.f a2 a1).bind fun t152 => (if t152 = true then ((mode_Fits.f a0 a1).bind fun t153 => (banksmanlaw09_ModeFits.j0 k a0 a1 a2 t150 t153)) else (banksmanlaw09_ModeFits.j0 k a0 a1 a2 t150 true))) else (banksmanlaw09_ModeFits.j0 k a0 a1 a2 t150 true)) = some r := H
    have A7 := Aside0.mk A70
    clear A70
    by_cases c8 : t151 = true
    · subst c8
      have H1 : ((mode_Fits.f a2 a1).bind fun t152 => (if t152 = true then ((mode_Fits.f a0 a1).bind fun t153 => (banksmanlaw09_ModeFits.j0 k a0 a1 a2 t150 t153)) else (banksmanlaw09_ModeFits.j0 k a0 a1 a2 t150 true))) = some r := by rw [if_pos rfl] at H; exact H
      clear H
      have H := H1
      clear H1
      replace H := Option.bind_eq_some_iff.mp H
      obtain ⟨t152, A90, H⟩ := H
      replace H : (if t152 = true then ((mode_Fits.f a0 a1).bind fun t153 => (banksmanlaw09_ModeFits.j0 k a0 a1 a2 t150 t153)) else (banksmanlaw09_ModeFits.j0 k a0 a1 a2 t150 true)) = some r := H
      have A9 := Aside0.mk A90
      clear A90
      by_cases c10 : t152 = true
      · subst c10
        have H1 : ((mode_Fits.f a0 a1).bind fun t153 => (banksmanlaw09_ModeFits.j0 k a0 a1 a2 t150 t153)) = some r := by rw [if_pos rfl] at H; exact H
        clear H
        have H := H1
        clear H1
        replace H := Option.bind_eq_some_iff.mp H
        obtain ⟨t153, A110, H⟩ := H
        replace H : (banksmanlaw09_ModeFits.j0 k a0 a1 a2 t150 t153) = some r := H
        have A11 := Aside0.mk A110
        clear A110
        have H' := Aside0.mk H
        clear H
        go_wp2_with (first | ((with_reducible refine gate_callee (f := 10) rfl ?_); refine goesL_ (some 13) rfl rfl Try.func10 (by kernel_rfl) rfl #[.int .i64 a2, .int .i64 a0] rfl (by (try simp only [List.map_toArray, List.map_cons, List.map_nil]); first | done | rfl | (simp only [List.length_drop, List.length_take]; rfl)) ?_; (with_reducible refine (mode_Covers.calls a2 a0 true _ A7.out).mono ?_); rintro e w' ⟨rfl, ⟨nd, rfl⟩⟩; refine ⟨_, rfl, ?_⟩) | (go_at_call 8; (with_reducible refine (mode_Fits.calls a2 a1 true _ A9.out).mono ?_); rintro e w12 ⟨rfl, hb⟩; have n0_ := Aside0.mk (below_step (by repeat (first | (with_reducible first | exact HB.out | apply below_alloc | apply pw_below_drewN | apply below_drew1) | exact HB.out)) hb); clear HB; have HB := n0_; clear n0_; (try clear hb); (try clear hb2); (try clear hk); (try clear hi)) | (go_at_call 8; (with_reducible refine (mode_Fits.calls a0 a1 t153 _ A11.out).mono ?_); rintro e w13 ⟨rfl, hb⟩; have n0_ := Aside0.mk (below_step (by repeat (first | (with_reducible first | exact HB.out | apply below_alloc | apply pw_below_drewN | apply below_drew1) | exact HB.out)) hb); clear HB; have HB := n0_; clear n0_; (try clear hb); (try clear hb2); (try clear hk); (try clear hi)))
        go_meet
        case rel => exact ⟨_, (t153), (by first | rfl | (simp; done) | (simp [*]; done)), H', ⟨by first | omega | exact Nat.le_refl _⟩, ⟨by repeat (first | (with_reducible first | exact HB.out | apply below_alloc | apply pw_below_drewN | apply below_drew1) | exact HB.out)⟩⟩
      · replace c10 := Bool.eq_false_iff.mpr c10
        subst c10
        have H1 : (banksmanlaw09_ModeFits.j0 k a0 a1 a2 t150 true) = some r := by rw [if_neg (show ¬ (false = true) by decide)] at H; exact H
        clear H
        have H := H1
        clear H1
        have H' := Aside0.mk H
        clear H
        go_wp2_with (first | ((with_reducible refine gate_callee (f := 10) rfl ?_); refine goesL_ (some 13) rfl rfl Try.func10 (by kernel_rfl) rfl #[.int .i64 a2, .int .i64 a0] rfl (by (try simp only [List.map_toArray, List.map_cons, List.map_nil]); first | done | rfl | (simp only [List.length_drop, List.length_take]; rfl)) ?_; (with_reducible refine (mode_Covers.calls a2 a0 true _ A7.out).mono ?_); rintro e w' ⟨rfl, ⟨nd, rfl⟩⟩; refine ⟨_, rfl, ?_⟩) | (go_at_call 8; (with_reducible refine (mode_Fits.calls a2 a1 false _ A9.out).mono ?_); rintro e w14 ⟨rfl, hb⟩; have n0_ := Aside0.mk (below_step (by repeat (first | (with_reducible first | exact HB.out | apply below_alloc | apply pw_below_drewN | apply below_drew1) | exact HB.out)) hb); clear HB; have HB := n0_; clear n0_; (try clear hb); (try clear hb2); (try clear hk); (try clear hi)))
        go_meet
        case rel => exact ⟨_, (true), (by first | rfl | (simp; done) | (simp [*]; done)), H', ⟨by first | omega | exact Nat.le_refl _⟩, ⟨by repeat (first | (with_reducible first | exact HB.out | apply below_alloc | apply pw_below_drewN | apply below_drew1) | exact HB.out)⟩⟩
    · replace c8 := Bool.eq_false_iff.mpr c8
      subst c8
      have H1 : (banksmanlaw09_ModeFits.j0 k a0 a1 a2 t150 true) = some r := by rw [if_neg (show ¬ (false = true) by decide)] at H; exact H
      clear H
      have H := H1
      clear H1
      have H' := Aside0.mk H
      clear H
      go_wp2_with (first | ((with_reducible refine gate_callee (f := 10) rfl ?_); refine goesL_ (some 13) rfl rfl Try.func10 (by kernel_rfl) rfl #[.int .i64 a2, .int .i64 a0] rfl (by (try simp only [List.map_toArray, List.map_cons, List.map_nil]); first | done | rfl | (simp only [List.length_drop, List.length_take]; rfl)) ?_; (with_reducible refine (mode_Covers.calls a2 a0 false _ A7.out).mono ?_); rintro e w' ⟨rfl, ⟨nd, rfl⟩⟩; refine ⟨_, rfl, ?_⟩))
      go_meet
      case rel => exact ⟨_, (true), (by first | rfl | (simp; done) | (simp [*]; done)), H', ⟨by first | omega | exact Nat.le_refl _⟩, ⟨by repeat (first | (with_reducible first | exact HB.out | apply below_alloc | apply pw_below_drewN | apply below_drew1) | exact HB.out)⟩⟩
  case rest =>
    clear HC5
    try clear c1
    try clear p2
    try clear c5
    try clear c7
    try clear c8
    try clear c10
    obtain ⟨kq, x8_4, rfl, HA, HJ4, HB⟩ := hcut
    cases kq with
    | zero => exact absurd HA.out (by simp [banksmanlaw09_ModeFits.j0])
    | succ kj4 =>
      have H := HA.out
      clear HA
      simp only [banksmanlaw09_ModeFits.j0] at H
      have HC15 := Aside0.mk H
      clear H
      go_upto_region 3 with (fail)
      go_cut [9] (fun v9 wc => ∃ (kq : Nat) (x9_14 : Bool), v9 = .bool x9_14 ∧ Aside0 (banksmanlaw09_ModeFits.j1 kq a0 a1 t150 x8_4 x9_14 = some r) ∧ Aside0 (kq ≤ kj4) ∧ Aside0 (Below w.heap.size w wc))
      case first =>
        have H := HC15.out
        clear HC15
        replace H := Option.bind_eq_some_iff.mp H
        obtain ⟨t154, A160, H⟩ := H
        replace H : (if t154 = true then ((mode_Fits.f a1 a2).bind fun t155 => (if t155 = true then ((mode_Join.f kj4 a0 a1).bind fun t156 => ((mode_Fits.f t156 a2).bind fun t157 => (banksmanlaw09_ModeFits.j1 kj4 a0 a1 t150 x8_4 t157))) else (banksmanlaw09_ModeFits.j1 kj4 a0 a1 t150 x8_4 true))) else (banksmanlaw09_ModeFits.j1 kj4 a0 a1 t150 x8_4 true)) = some r := H
        have A16 := Aside0.mk A160
        clear A160
        by_cases c17 : t154 = true
        · subst c17
          have H1 : ((mode_Fits.f a1 a2).bind fun t155 => (if t155 = true then ((mode_Join.f kj4 a0 a1).bind fun t156 => ((mode_Fits.f t156 a2).bind fun t157 => (banksmanlaw09_ModeFits.j1 kj4 a0 a1 t150 x8_4 t157))) else (banksmanlaw09_ModeFits.j1 kj4 a0 a1 t150 x8_4 true))) = some r := by rw [if_pos rfl] at H; exact H
          clear H
          have H := H1
          clear H1
          replace H := Option.bind_eq_some_iff.mp H
          obtain ⟨t155, A180, H⟩ := H
          replace H : (if t155 = true then ((mode_Join.f kj4 a0 a1).bind fun t156 => ((mode_Fits.f t156 a2).bind fun t157 => (banksmanlaw09_ModeFits.j1 kj4 a0 a1 t150 x8_4 t157))) else (banksmanlaw09_ModeFits.j1 kj4 a0 a1 t150 x8_4 true)) = some r := H
          have A18 := Aside0.mk A180
          clear A180
          by_cases c19 : t155 = true
          · subst c19
            have H1 : ((mode_Join.f kj4 a0 a1).bind fun t156 => ((mode_Fits.f t156 a2).bind fun t157 => (banksmanlaw09_ModeFits.j1 kj4 a0 a1 t150 x8_4 t157))) = some r := by rw [if_pos rfl] at H; exact H
            clear H
            have H := H1
            clear H1
            replace H := Option.bind_eq_some_iff.mp H
            obtain ⟨t156, A200, H⟩ := H
            replace H : ((mode_Fits.f t156 a2).bind fun t157 => (banksmanlaw09_ModeFits.j1 kj4 a0 a1 t150 x8_4 t157)) = some r := H
            have A20 := Aside0.mk A200
            clear A200
            replace H := Option.bind_eq_some_iff.mp H
            obtain ⟨t157, A210, H⟩ := H
            replace H : (banksmanlaw09_ModeFits.j1 kj4 a0 a1 t150 x8_4 t157) = some r := H
            have A21 := Aside0.mk A210
            clear A210
            have H' := Aside0.mk H
            clear H
            go_wp2_with (first | ((with_reducible refine gate_callee (f := 8) rfl ?_); refine goesL_ (some 28) rfl rfl Try.func8 (by kernel_rfl) rfl #[.int .i64 a0, .int .i64 a2] rfl (by (try simp only [List.map_toArray, List.map_cons, List.map_nil]); first | done | rfl | (simp only [List.length_drop, List.length_take]; rfl)) ?_; (with_reducible refine (mode_Fits.calls a0 a2 true _ A16.out).mono ?_); rintro e w22 ⟨rfl, hb⟩; refine ⟨_, rfl, ?_⟩; have n0_ := Aside0.mk (below_step (by repeat (first | (with_reducible first | exact HB.out | apply below_alloc | apply pw_below_drewN | apply below_drew1) | exact HB.out)) hb); clear HB; have HB := n0_; clear n0_; (try clear hb); (try clear hb2); (try clear hk); (try clear hi)) | (go_at_call 8; (with_reducible refine (mode_Fits.calls a1 a2 true _ A18.out).mono ?_); rintro e w23 ⟨rfl, hb⟩; have n0_ := Aside0.mk (below_step (by repeat (first | (with_reducible first | exact HB.out | apply below_alloc | apply pw_below_drewN | apply below_drew1) | exact HB.out)) hb); clear HB; have HB := n0_; clear n0_; (try clear hb); (try clear hb2); (try clear hk); (try clear hi)) | (go_at_call 12; (with_reducible refine (mode_Join.calls kj4 a0 a1 t156 _ A20.out).mono ?_); rintro e w' ⟨rfl, ⟨nd, rfl⟩⟩) | (go_at_call 8; (with_reducible refine (mode_Fits.calls t156 a2 t157 _ A21.out).mono ?_); rintro e w24 ⟨rfl, hb⟩; have n0_ := Aside0.mk (below_step (by repeat (first | (with_reducible first | exact HB.out | apply below_alloc | apply pw_below_drewN | apply below_drew1) | exact HB.out)) hb); clear HB; have HB := n0_; clear n0_; (try clear hb); (try clear hb2); (try clear hk); (try clear hi)))
            go_meet
            case rel => exact ⟨_, (t157), (by first | rfl | (simp; done) | (simp [*]; done)), H', ⟨by have := HJ4.out; first | omega | exact Nat.le_refl _⟩, ⟨by repeat (first | (with_reducible first | exact HB.out | apply below_alloc | apply pw_below_drewN | apply below_drew1) | exact HB.out)⟩⟩
          · replace c19 := Bool.eq_false_iff.mpr c19
            subst c19
            have H1 : (banksmanlaw09_ModeFits.j1 kj4 a0 a1 t150 x8_4 true) = some r := by rw [if_neg (show ¬ (false = true) by decide)] at H; exact H
            clear H
            have H := H1
            clear H1
            have H' := Aside0.mk H
            clear H
            go_wp2_with (first | ((with_reducible refine gate_callee (f := 8) rfl ?_); refine goesL_ (some 28) rfl rfl Try.func8 (by kernel_rfl) rfl #[.int .i64 a0, .int .i64 a2] rfl (by (try simp only [List.map_toArray, List.map_cons, List.map_nil]); first | done | rfl | (simp only [List.length_drop, List.length_take]; rfl)) ?_; (with_reducible refine (mode_Fits.calls a0 a2 true _ A16.out).mono ?_); rintro e w25 ⟨rfl, hb⟩; refine ⟨_, rfl, ?_⟩; have n0_ := Aside0.mk (below_step (by repeat (first | (with_reducible first | exact HB.out | apply below_alloc | apply pw_below_drewN | apply below_drew1) | exact HB.out)) hb); clear HB; have HB := n0_; clear n0_; (try clear hb); (try clear hb2); (try clear hk); (try clear hi)) | (go_at_call 8; (with_reducible refine (mode_Fits.calls a1 a2 false _ A18.out).mono ?_); rintro e w26 ⟨rfl, hb⟩; have n0_ := Aside0.mk (below_step (by repeat (first | (with_reducible first | exact HB.out | apply below_alloc | apply pw_below_drewN | apply below_drew1) | exact HB.out)) hb); clear HB; have HB := n0_; clear n0_; (try clear hb); (try clear hb2); (try clear hk); (try clear hi)))
            go_meet
            case rel => exact ⟨_, (true), (by first | rfl | (simp; done) | (simp [*]; done)), H', ⟨by have := HJ4.out; first | omega | exact Nat.le_refl _⟩, ⟨by repeat (first | (with_reducible first | exact HB.out | apply below_alloc | apply pw_below_drewN | apply below_drew1) | exact HB.out)⟩⟩
        · replace c17 := Bool.eq_false_iff.mpr c17
          subst c17
          have H1 : (banksmanlaw09_ModeFits.j1 kj4 a0 a1 t150 x8_4 true) = some r := by rw [if_neg (show ¬ (false = true) by decide)] at H; exact H
          clear H
          have H := H1
          clear H1
          have H' := Aside0.mk H
          clear H
          go_wp2_with (first | ((with_reducible refine gate_callee (f := 8) rfl ?_); refine goesL_ (some 28) rfl rfl Try.func8 (by kernel_rfl) rfl #[.int .i64 a0, .int .i64 a2] rfl (by (try simp only [List.map_toArray, List.map_cons, List.map_nil]); first | done | rfl | (simp only [List.length_drop, List.length_take]; rfl)) ?_; (with_reducible refine (mode_Fits.calls a0 a2 false _ A16.out).mono ?_); rintro e w27 ⟨rfl, hb⟩; refine ⟨_, rfl, ?_⟩; have n0_ := Aside0.mk (below_step (by repeat (first | (with_reducible first | exact HB.out | apply below_alloc | apply pw_below_drewN | apply below_drew1) | exact HB.out)) hb); clear HB; have HB := n0_; clear n0_; (try clear hb); (try clear hb2); (try clear hk); (try clear hi)))
          go_meet
          case rel => exact ⟨_, (true), (by first | rfl | (simp; done) | (simp [*]; done)), H', ⟨by have := HJ4.out; first | omega | exact Nat.le_refl _⟩, ⟨by repeat (first | (with_reducible first | exact HB.out | apply below_alloc | apply pw_below_drewN | apply below_drew1) | exact HB.out)⟩⟩
      case rest =>
        clear HC15
        try clear c1
        try clear p2
        try clear c5
        try clear c7
        try clear c8
        try clear c10
        try clear c17
        try clear c19
        try clear p2
        obtain ⟨kq, x9_14, rfl, HA, HJ14, HB⟩ := hcut
        cases kq with
        | zero => exact absurd HA.out (by simp [banksmanlaw09_ModeFits.j1])
        | succ kj14 =>
          have H := HA.out
          clear HA
          simp only [banksmanlaw09_ModeFits.j1] at H
          by_cases c28 : t150 = true
          · subst c28
            have H1 : ((mode_Fits.f a0 a1).bind fun t158 => ((mode_Fits.f a1 a0).bind fun t159 => (if (t158 == t159) = true then (if x8_4 = true then (if x9_14 = true then ((mode_Covers.f a0 a0).bind fun t160 => ((mode_Above.f kj14 a0).bind fun t161 => (some (t160 == (decide (t161 > 0)))))) else (some false)) else (some false)) else (some false)))) = some r := by rw [if_pos rfl] at H; exact H
            clear H
            have H := H1
            clear H1
            replace H := Option.bind_eq_some_iff.mp H
            obtain ⟨t158, A290, H⟩ := H
            replace H : ((mode_Fits.f a1 a0).bind fun t159 => (if (t158 == t159) = true then (if x8_4 = true then (if x9_14 = true then ((mode_Covers.f a0 a0).bind fun t160 => ((mode_Above.f kj14 a0).bind fun t161 => (some (t160 == (decide (t161 > 0)))))) else (some false)) else (some false)) else (some false))) = some r := H
            have A29 := Aside0.mk A290
            clear A290
            replace H := Option.bind_eq_some_iff.mp H
            obtain ⟨t159, A300, H⟩ := H
            replace H : (if (t158 == t159) = true then (if x8_4 = true then (if x9_14 = true then ((mode_Covers.f a0 a0).bind fun t160 => ((mode_Above.f kj14 a0).bind fun t161 => (some (t160 == (decide (t161 > 0)))))) else (some false)) else (some false)) else (some false)) = some r := H
            have A30 := Aside0.mk A300
            clear A300
            by_cases c31 : (t158 == t159) = true
            · rw [if_pos c31] at H
              have c31b0 : (t158 == t159) = true := c31
              (try (have c31b1 : decide (t158 = t159) = true := by simpa using c31))
              (try (have c31b2 : (t158 == t159) = true := by simpa using c31))
              clear c31
              by_cases c32 : x8_4 = true
              · subst c32
                have H1 : (if x9_14 = true then ((mode_Covers.f a0 a0).bind fun t160 => ((mode_Above.f kj14 a0).bind fun t161 => (some (t160 == (decide (t161 > 0)))))) else (some false)) = some r := by rw [if_pos rfl] at H; exact H
                clear H
                have H := H1
                clear H1
                by_cases c33 : x9_14 = true
                · subst c33
                  have H1 : ((mode_Covers.f a0 a0).bind fun t160 => ((mode_Above.f kj14 a0).bind fun t161 => (some (t160 == (decide (t161 > 0)))))) = some r := by rw [if_pos rfl] at H; exact H
                  clear H
                  have H := H1
                  clear H1
                  replace H := Option.bind_eq_some_iff.mp H
                  obtain ⟨t160, A340, H⟩ := H
                  replace H : ((mode_Above.f kj14 a0).bind fun t161 => (some (t160 == (decide (t161 > 0))))) = some r := H
                  have A34 := Aside0.mk A340
                  clear A340
                  replace H := Option.bind_eq_some_iff.mp H
                  obtain ⟨t161, A350, H⟩ := H
                  replace H : (some (t160 == (decide (t161 > 0)))) = some r := H
                  have A35 := Aside0.mk A350
                  clear A350
                  obtain rfl := Option.some.inj H
                  go_wp2_with (first | (go_at_call 8; (with_reducible refine (mode_Fits.calls a0 a1 t158 _ A29.out).mono ?_); rintro e w36 ⟨rfl, hb⟩; have n0_ := Aside0.mk (below_step (by repeat (first | (with_reducible first | exact HB.out | apply below_alloc | apply pw_below_drewN | apply below_drew1) | exact HB.out)) hb); clear HB; have HB := n0_; clear n0_; (try clear hb); (try clear hb2); (try clear hk); (try clear hi)) | (go_at_call 8; (with_reducible refine (mode_Fits.calls a1 a0 t159 _ A30.out).mono ?_); rintro e w37 ⟨rfl, hb⟩; have n0_ := Aside0.mk (below_step (by repeat (first | (with_reducible first | exact HB.out | apply below_alloc | apply pw_below_drewN | apply below_drew1) | exact HB.out)) hb); clear HB; have HB := n0_; clear n0_; (try clear hb); (try clear hb2); (try clear hk); (try clear hi)) | (go_at_call 10; (with_reducible refine (mode_Covers.calls a0 a0 t160 _ A34.out).mono ?_); rintro e w' ⟨rfl, ⟨nd, rfl⟩⟩) | (go_at_call 14; (with_reducible refine (mode_Above.calls kj14 a0 t161 _ A35.out).mono ?_); rintro e w' ⟨rfl, ⟨nd, rfl⟩⟩))
                  go_ret
                  exact ⟨by first | rfl | (simp [errW_none, errW_some] <;> rfl) | (simp [*, errW_none, errW_some] <;> rfl), by repeat (first | (with_reducible first | exact HB.out | apply below_alloc | apply pw_below_drewN | apply below_drew1) | exact HB.out)⟩
                · replace c33 := Bool.eq_false_iff.mpr c33
                  subst c33
                  have H1 : (some false) = some r := by rw [if_neg (show ¬ (false = true) by decide)] at H; exact H
                  clear H
                  have H := H1
                  clear H1
                  obtain rfl := Option.some.inj H
                  go_wp2_with (first | (go_at_call 8; (with_reducible refine (mode_Fits.calls a0 a1 t158 _ A29.out).mono ?_); rintro e w38 ⟨rfl, hb⟩; have n0_ := Aside0.mk (below_step (by repeat (first | (with_reducible first | exact HB.out | apply below_alloc | apply pw_below_drewN | apply below_drew1) | exact HB.out)) hb); clear HB; have HB := n0_; clear n0_; (try clear hb); (try clear hb2); (try clear hk); (try clear hi)) | (go_at_call 8; (with_reducible refine (mode_Fits.calls a1 a0 t159 _ A30.out).mono ?_); rintro e w39 ⟨rfl, hb⟩; have n0_ := Aside0.mk (below_step (by repeat (first | (with_reducible first | exact HB.out | apply below_alloc | apply pw_below_drewN | apply below_drew1) | exact HB.out)) hb); clear HB; have HB := n0_; clear n0_; (try clear hb); (try clear hb2); (try clear hk); (try clear hi)))
                  go_ret
                  exact ⟨by first | rfl | (simp [errW_none, errW_some] <;> rfl) | (simp [*, errW_none, errW_some] <;> rfl), by repeat (first | (with_reducible first | exact HB.out | apply below_alloc | apply pw_below_drewN | apply below_drew1) | exact HB.out)⟩
              · replace c32 := Bool.eq_false_iff.mpr c32
                subst c32
                have H1 : (some false) = some r := by rw [if_neg (show ¬ (false = true) by decide)] at H; exact H
                clear H
                have H := H1
                clear H1
                obtain rfl := Option.some.inj H
                go_wp2_with (first | (go_at_call 8; (with_reducible refine (mode_Fits.calls a0 a1 t158 _ A29.out).mono ?_); rintro e w40 ⟨rfl, hb⟩; have n0_ := Aside0.mk (below_step (by repeat (first | (with_reducible first | exact HB.out | apply below_alloc | apply pw_below_drewN | apply below_drew1) | exact HB.out)) hb); clear HB; have HB := n0_; clear n0_; (try clear hb); (try clear hb2); (try clear hk); (try clear hi)) | (go_at_call 8; (with_reducible refine (mode_Fits.calls a1 a0 t159 _ A30.out).mono ?_); rintro e w41 ⟨rfl, hb⟩; have n0_ := Aside0.mk (below_step (by repeat (first | (with_reducible first | exact HB.out | apply below_alloc | apply pw_below_drewN | apply below_drew1) | exact HB.out)) hb); clear HB; have HB := n0_; clear n0_; (try clear hb); (try clear hb2); (try clear hk); (try clear hi)))
                go_ret
                exact ⟨by first | rfl | (simp [errW_none, errW_some] <;> rfl) | (simp [*, errW_none, errW_some] <;> rfl), by repeat (first | (with_reducible first | exact HB.out | apply below_alloc | apply pw_below_drewN | apply below_drew1) | exact HB.out)⟩
            · rw [if_neg c31] at H
              have c31b0 : (t158 == t159) = false := by simpa using c31
              (try (have c31b1 : decide (t158 = t159) = false := by simpa using c31))
              (try (have c31b2 : (t158 == t159) = false := by simpa using c31))
              (try (have c31b3 : ¬ (t158 = t159) := by simpa using c31))
              clear c31
              obtain rfl := Option.some.inj H
              go_wp2_with (first | (go_at_call 8; (with_reducible refine (mode_Fits.calls a0 a1 t158 _ A29.out).mono ?_); rintro e w42 ⟨rfl, hb⟩; have n0_ := Aside0.mk (below_step (by repeat (first | (with_reducible first | exact HB.out | apply below_alloc | apply pw_below_drewN | apply below_drew1) | exact HB.out)) hb); clear HB; have HB := n0_; clear n0_; (try clear hb); (try clear hb2); (try clear hk); (try clear hi)) | (go_at_call 8; (with_reducible refine (mode_Fits.calls a1 a0 t159 _ A30.out).mono ?_); rintro e w43 ⟨rfl, hb⟩; have n0_ := Aside0.mk (below_step (by repeat (first | (with_reducible first | exact HB.out | apply below_alloc | apply pw_below_drewN | apply below_drew1) | exact HB.out)) hb); clear HB; have HB := n0_; clear n0_; (try clear hb); (try clear hb2); (try clear hk); (try clear hi)))
              go_ret
              exact ⟨by first | rfl | (simp [errW_none, errW_some] <;> rfl) | (simp [*, errW_none, errW_some] <;> rfl), by repeat (first | (with_reducible first | exact HB.out | apply below_alloc | apply pw_below_drewN | apply below_drew1) | exact HB.out)⟩
          · replace c28 := Bool.eq_false_iff.mpr c28
            subst c28
            have H1 : (some false) = some r := by rw [if_neg (show ¬ (false = true) by decide)] at H; exact H
            clear H
            have H := H1
            clear H1
            obtain rfl := Option.some.inj H
            go_wp2
            go_ret
            exact ⟨by first | rfl | (simp [errW_none, errW_some] <;> rfl) | (simp [*, errW_none, errW_some] <;> rfl), by repeat (first | (with_reducible first | exact HB.out | apply below_alloc | apply pw_below_drewN | apply below_drew1) | exact HB.out)⟩

/-- THE ONE PURE STATEMENT of banksmanlaw09_ModeFits: yours. -/
def banksmanlaw09_ModeFits.Pure : Prop := ∀ (a0 : Int) (a1 : Int) (a2 : Int), (Lit.int .i64 a0).wf = true → (Lit.int .i64 a1).wf = true → (Lit.int .i64 a2).wf = true → ∃ k, banksmanlaw09_ModeFits.f k a0 a1 a2 = some true
theorem banksmanlaw09_ModeFits.walk (P : banksmanlaw09_ModeFits.Pure) (a0 : Int) (a1 : Int) (a2 : Int) (w : World) (w0 : (Lit.int .i64 a0).wf = true) (w1 : (Lit.int .i64 a1).wf = true) (w2 : (Lit.int .i64 a2).wf = true) :
    Calls Try.prog 5 #[.int .i64 a0, .int .i64 a1, .int .i64 a2] w fun e w' => e = .returned (.bool true) ∧ Below w.heap.size w w' := by
  obtain ⟨k, h⟩ := P a0 a1 a2 w0 w1 w2
  refine (banksmanlaw09_ModeFits.calls k a0 a1 a2 true w h).mono ?_
  rintro e w' ⟨rfl, hd⟩
  exact ⟨rfl, hd⟩

end Go.Proofs.Ytiliailmgjhjbaa.P
