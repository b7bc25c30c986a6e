-- Written by wip/gprint.py, a program of this session over the kit's print; Lean checks it.
import Derived.Test.YtficgggfplejpaaPx0
import Derived.Test.YtficgggfplejpaaPx15
import Derived.Test.YtficgggfplejpaaPx18
import Derived.Test.YtficgggfplejpaaPx20
import Derived.Test.YtficgggfplejpaaPx21
import Derived.Test.YtficgggfplejpaaPx25
import Derived.Test.YtficgggfplejpaaPx28
import Derived.Test.YtficgggfplejpaaPx29
import Derived.Test.YtficgggfplejpaaPx30
namespace Go.Proofs.Ytficgggfplejpaa.P
open Go.RowKit Go.Proofs.YtficgggfplejpaaW.PrintWords Go.Proofs.YtficgggfplejpaaW.PrintLast Go.Proofs.YtficgggfplejpaaW.PrintMore
attribute [local go_sem] max2_int min2_int max_two min_two max_three min_three max_four min_four   -- for this text's walks alone
set_option linter.unusedVariables false
set_option linter.unusedSimpArgs false

/-! ### banksmanlaw03_FrameTells: function 3 -/
def banksmanlaw03_FrameTells.j0 : Nat → List Int → List Int → Bool → Bool → Option (Bool)
  | 0, _, _, _, _ => none
  | k + 1, x0, x1, x5, x29 => if x29 = true then (some x5) else ((frame_Write.f x0).bind fun bt291 => ((banksmanref03_Write.f k x0).bind fun bt295 => ((frame_Read.f x1).bind fun bt299 => ((banksmanref03_Read.f k x1).bind fun bt304 => ((frame_All.f x1).bind fun bt309 => ((banksmanref03_All.f k x1).bind fun bt313 => ((banksmanref03_Same.f k bt309.1 bt313.1).bind fun t317 => (if x5 = true then (if (strOfNums bt291.1).toList = (strOfNums bt295.1).toList then (if bt291.2 = bt295.2 then (if (strOfNums bt299.1).toList = (strOfNums bt304.1).toList then (if bt299.2.1 = bt304.2.1 then (if bt299.2.2 = bt304.2.2 then (if t317 = true then (some (bt309.2 == bt313.2)) else (some false)) else (some false)) else (some false)) else (some false)) else (some false)) else (some false)) else (some false)))))))))
def banksmanlaw03_FrameTells.f (k : Nat) (l0 : List Int) (l1 : List Int) : Option (Bool) := (banksmanlaw03_awake.f).bind fun t290 => (if (l0.length : Int) > 3000 then (banksmanlaw03_FrameTells.j0 k l0 l1 t290 true) else (banksmanlaw03_FrameTells.j0 k l0 l1 t290 (decide ((l1.length : Int) > 3000))))
theorem banksmanlaw03_FrameTells.mono_l : ∀ k, (∀ y0 y1 y2 y3, LeO (banksmanlaw03_FrameTells.j0 k y0 y1 y2 y3) (banksmanlaw03_FrameTells.j0 (k + 1) y0 y1 y2 y3))
  | 0 => fun _ _ _ _ r h => by simp [banksmanlaw03_FrameTells.j0] at h
  | k + 1 => by
    have ih0 := banksmanlaw03_FrameTells.mono_l k
    · intro y0 y1 y2 y3
      unfold banksmanlaw03_FrameTells.j0
      repeat' first
      | (with_reducible exact ih0 _ _ _ _)
      | (with_reducible exact banksmanref03_All.mono _ _)
      | (with_reducible exact banksmanref03_Read.mono _ _)
      | (with_reducible exact banksmanref03_Same.mono _ _ _)
      | (with_reducible exact banksmanref03_Write.mono _ _)
      | (with_reducible exact LeO.refl _)
      | (with_reducible exact LeO.none _)
      | (with_reducible refine LeO.ite ?_ ?_)
      | (with_reducible refine LeO.bind ?_ (fun _ => ?_))
      | exact ih0 _ _ _ _
      | exact banksmanref03_All.mono _ _
      | exact banksmanref03_Read.mono _ _
      | exact banksmanref03_Same.mono _ _ _
      | exact banksmanref03_Write.mono _ _
      | exact LeO.none _
      | refine LeO.ite ?_ ?_
      | refine LeO.bind ?_ (fun _ => ?_)
theorem banksmanlaw03_FrameTells.mono : ∀ a0 a1 k, LeO (banksmanlaw03_FrameTells.f k a0 a1) (banksmanlaw03_FrameTells.f (k + 1) a0 a1) := by
  intro a0 a1 k
  have ih0 := banksmanlaw03_FrameTells.mono_l k
  unfold banksmanlaw03_FrameTells.f
  repeat' first
      | (with_reducible exact ih0 _ _ _ _)
      | (with_reducible exact banksmanref03_All.mono _ _)
      | (with_reducible exact banksmanref03_Read.mono _ _)
      | (with_reducible exact banksmanref03_Same.mono _ _ _)
      | (with_reducible exact banksmanref03_Write.mono _ _)
      | (with_reducible exact LeO.refl _)
      | (with_reducible exact LeO.none _)
      | (with_reducible refine LeO.ite ?_ ?_)
      | (with_reducible refine LeO.bind ?_ (fun _ => ?_))
      | exact ih0 _ _ _ _
      | exact banksmanref03_All.mono _ _
      | exact banksmanref03_Read.mono _ _
      | exact banksmanref03_Same.mono _ _ _
      | exact banksmanref03_Write.mono _ _
      | exact LeO.none _
      | refine LeO.ite ?_ ?_
      | refine LeO.bind ?_ (fun _ => ?_)
set_option maxHeartbeats 8000000 in
set_option maxRecDepth 100000 in
theorem banksmanlaw03_FrameTells.calls (k : Nat) (A0 : Option Addr) (c0 : Nat) (l0 : List Int) (A1 : Option Addr) (c1 : Nat) (l1 : List Int) (r : Bool) (w : World) (hr0 : Kd.C (Kd.int .u8) w A0 l0.length l0) (hc0 : l0.length ≤ c0) (hr1 : Kd.C (Kd.int .u8) w A1 l1.length l1) (hc1 : l1.length ≤ c1) (h : banksmanlaw03_FrameTells.f k l0 l1 = some r) (HTr_ : r = true) :
    Calls Try.prog 3 #[.slice A0 l0.length c0, .slice A1 l1.length c1] w fun e w' => e = .returned (.bool r) ∧ Below w.heap.size w w' := by
  have HR0 := Aside0.mk hr0
  have HC0 := Aside0.mk hc0
  clear hr0 hc0
  have HR1 := Aside0.mk hr1
  have HC1 := Aside0.mk hc1
  clear hr1 hc1
  have HB := Aside0.mk (Below.refl w.heap.size w)
  have H : ((banksmanlaw03_awake.f).bind fun t290 => (if (l0.length : Int) > 3000 then (banksmanlaw03_FrameTells.j0 k l0 l1 t290 true) else (banksmanlaw03_FrameTells.j0 k l0 l1 t290 (decide ((l1.length : Int) > 3000))))) = some r := h
  clear h
  replace H := Option.bind_eq_some_iff.mp H
  obtain ⟨t290, A30, H⟩ := H
  replace H : (if (l0.length : Int) > 3000 then (banksmanlaw03_FrameTells.j0 k l0 l1 t290 true) else (banksmanlaw03_FrameTells.j0 k l0 l1 t290 (decide ((l1.length : Int) > 3000)))) = some r := H
  have A3 := Aside0.mk A30
  clear A30
  have HC4 := Aside0.mk H
  clear H
  go_enter Try.func3, Try.ntmps3
  go_upto_region 2 with (first | ((with_reducible refine gate_callee (f := 8) rfl ?_); refine goesL_ (some 21) rfl rfl Try.func8 (by kernel_rfl) rfl #[] rfl (by (try simp only [List.map_toArray, List.map_cons, List.map_nil]); first | done | rfl | (simp only [List.length_drop, List.length_take]; rfl)) ?_; (with_reducible refine (banksmanlaw03_awake.calls  t290 _ A3.out).mono ?_); rintro e w5 ⟨rfl, hb⟩; refine ⟨_, rfl, ?_⟩; have n0_ := Aside0.mk (below_step (by repeat (first | (with_reducible first | exact HB.out | apply below_alloc | apply pw_below_drewN | apply below_drew1) | exact HB.out)) hb); clear HB; have HB := n0_; clear n0_; (try clear hb); (try clear hb2); (try clear hk); (try clear hi)))
  (try simp only [Act.put, List.setIfInBounds_toArray, List.set_cons_zero, List.set_cons_succ])
  go_cut [29] (fun v29 wc => ∃ (kq : Nat) (x29_3 : Bool), v29 = .bool x29_3 ∧ Aside0 (banksmanlaw03_FrameTells.j0 kq l0 l1 t290 x29_3 = some r) ∧ Aside0 (kq ≤ k) ∧ Aside0 (Below w.heap.size w wc))
  case first =>
    have H := HC4.out
    clear HC4
    by_cases c6 : (l0.length : Int) > 3000
    · rw [if_pos c6] at H
      have c6b0 : decide (3000 < (l0.length : Int)) = true := decide_eq_true c6
      have c6b1 : decide (3000 < l0.length) = true := decide_eq_true (by omega)
      clear c6
      (first | rw [c6b0] | (simp only [i64_w, i32_w]; rw [c6b0]) | skip)
      have H' := Aside0.mk H
      clear H
      go_wp2
      go_meet
      case rel => exact ⟨_, (true), (by first | rfl | (simp; done) | (simp [*]; done)), H', ⟨by first | omega | exact Nat.le_refl _⟩, ⟨by repeat (first | (with_reducible first | exact HB.out | apply below_alloc | apply pw_below_drewN | apply below_drew1) | exact HB.out)⟩⟩
    · rw [if_neg c6] at H
      have c6b0 : decide (3000 < (l0.length : Int)) = false := decide_eq_false c6
      have c6b1 : decide (3000 < l0.length) = false := decide_eq_false (by omega)
      clear c6
      (first | rw [c6b0] | (simp only [i64_w, i32_w]; rw [c6b0]) | skip)
      have H' := Aside0.mk H
      clear H
      go_wp2
      go_meet
      case rel => exact ⟨_, (decide ((l1.length : Int) > 3000)), (by first | rfl | (simp; done) | (simp [*]; done)), H', ⟨by first | omega | exact Nat.le_refl _⟩, ⟨by repeat (first | (with_reducible first | exact HB.out | apply below_alloc | apply pw_below_drewN | apply below_drew1) | exact HB.out)⟩⟩
  case rest =>
    clear HC4
    try clear c1
    try clear p2
    try clear c3
    try clear c6
    try clear c6b0
    try clear c6b1
    obtain ⟨kq, x29_3, rfl, HA, HJ3, HB⟩ := hcut
    cases kq with
    | zero => exact absurd HA.out (by simp [banksmanlaw03_FrameTells.j0])
    | succ kj3 =>
      have H := HA.out
      clear HA
      simp only [banksmanlaw03_FrameTells.j0] at H
      by_cases c7 : x29_3 = true
      · subst c7
        have H1 : (some t290) = some r := by rw [if_pos rfl] at H; exact H
        clear H
        have H := H1
        clear H1
        obtain rfl := Option.some.inj H
        go_wp2
        go_ret
        exact ⟨by first | rfl | (simp [errW_none, errW_some] <;> rfl) | (simp [*, errW_none, errW_some] <;> rfl), by repeat (first | (with_reducible first | exact HB.out | apply below_alloc | apply pw_below_drewN | apply below_drew1) | exact HB.out)⟩
      · replace c7 := Bool.eq_false_iff.mpr c7
        subst c7
        have H1 : ((frame_Write.f l0).bind fun bt291 => ((banksmanref03_Write.f kj3 l0).bind fun bt295 => ((frame_Read.f l1).bind fun bt299 => ((banksmanref03_Read.f kj3 l1).bind fun bt304 => ((frame_All.f l1).bind fun bt309 => ((banksmanref03_All.f kj3 l1).bind fun bt313 => ((banksmanref03_Same.f kj3 bt309.1 bt313.1).bind fun t317 => (if t290 = true then (if (strOfNums bt291.1).toList = (strOfNums bt295.1).toList then (if bt291.2 = bt295.2 then (if (strOfNums bt299.1).toList = (strOfNums bt304.1).toList then (if bt299.2.1 = bt304.2.1 then (if bt299.2.2 = bt304.2.2 then (if t317 = true then (some (bt309.2 == bt313.2)) else (some false)) else (some false)) else (some false)) else (some false)) else (some false)) else (some false)) else (some false))))))))) = some r := by rw [if_neg (show ¬ (false = true) by decide)] at H; exact H
        clear H
        have H := H1
        clear H1
        replace H := Option.bind_eq_some_iff.mp H
        obtain ⟨⟨t291, t292⟩, A80, H⟩ := H
        replace H : ((banksmanref03_Write.f kj3 l0).bind fun bt295 => ((frame_Read.f l1).bind fun bt299 => ((banksmanref03_Read.f kj3 l1).bind fun bt304 => ((frame_All.f l1).bind fun bt309 => ((banksmanref03_All.f kj3 l1).bind fun bt313 => ((banksmanref03_Same.f kj3 bt309.1 bt313.1).bind fun t317 => (if t290 = true then (if (strOfNums t291).toList = (strOfNums bt295.1).toList then (if t292 = bt295.2 then (if (strOfNums bt299.1).toList = (strOfNums bt304.1).toList then (if bt299.2.1 = bt304.2.1 then (if bt299.2.2 = bt304.2.2 then (if t317 = true then (some (bt309.2 == bt313.2)) else (some false)) else (some false)) else (some false)) else (some false)) else (some false)) else (some false)) else (some false)))))))) = some r := H
        have A8 := Aside0.mk A80
        clear A80
        replace H := Option.bind_eq_some_iff.mp H
        obtain ⟨⟨t295, t296⟩, A90, H⟩ := H
        replace H : ((frame_Read.f l1).bind fun bt299 => ((banksmanref03_Read.f kj3 l1).bind fun bt304 => ((frame_All.f l1).bind fun bt309 => ((banksmanref03_All.f kj3 l1).bind fun bt313 => ((banksmanref03_Same.f kj3 bt309.1 bt313.1).bind fun t317 => (if t290 = true then (if (strOfNums t291).toList = (strOfNums t295).toList then (if t292 = t296 then (if (strOfNums bt299.1).toList = (strOfNums bt304.1).toList then (if bt299.2.1 = bt304.2.1 then (if bt299.2.2 = bt304.2.2 then (if t317 = true then (some (bt309.2 == bt313.2)) else (some false)) else (some false)) else (some false)) else (some false)) else (some false)) else (some false)) else (some false))))))) = some r := H
        have A9 := Aside0.mk A90
        clear A90
        replace H := Option.bind_eq_some_iff.mp H
        obtain ⟨⟨t299, t302, t303⟩, A100, H⟩ := H
        replace H : ((banksmanref03_Read.f kj3 l1).bind fun bt304 => ((frame_All.f l1).bind fun bt309 => ((banksmanref03_All.f kj3 l1).bind fun bt313 => ((banksmanref03_Same.f kj3 bt309.1 bt313.1).bind fun t317 => (if t290 = true then (if (strOfNums t291).toList = (strOfNums t295).toList then (if t292 = t296 then (if (strOfNums t299).toList = (strOfNums bt304.1).toList then (if t302 = bt304.2.1 then (if t303 = bt304.2.2 then (if t317 = true then (some (bt309.2 == bt313.2)) else (some false)) else (some false)) else (some false)) else (some false)) else (some false)) else (some false)) else (some false)))))) = some r := H
        have A10 := Aside0.mk A100
        clear A100
        replace H := Option.bind_eq_some_iff.mp H
        obtain ⟨⟨t304, t305, t306⟩, A110, H⟩ := H
        replace H : ((frame_All.f l1).bind fun bt309 => ((banksmanref03_All.f kj3 l1).bind fun bt313 => ((banksmanref03_Same.f kj3 bt309.1 bt313.1).bind fun t317 => (if t290 = true then (if (strOfNums t291).toList = (strOfNums t295).toList then (if t292 = t296 then (if (strOfNums t299).toList = (strOfNums t304).toList then (if t302 = t305 then (if t303 = t306 then (if t317 = true then (some (bt309.2 == bt313.2)) else (some false)) else (some false)) else (some false)) else (some false)) else (some false)) else (some false)) else (some false))))) = some r := H
        have A11 := Aside0.mk A110
        clear A110
        replace H := Option.bind_eq_some_iff.mp H
        obtain ⟨⟨t309, t312⟩, A120, H⟩ := H
        replace H : ((banksmanref03_All.f kj3 l1).bind fun bt313 => ((banksmanref03_Same.f kj3 t309 bt313.1).bind fun t317 => (if t290 = true then (if (strOfNums t291).toList = (strOfNums t295).toList then (if t292 = t296 then (if (strOfNums t299).toList = (strOfNums t304).toList then (if t302 = t305 then (if t303 = t306 then (if t317 = true then (some (t312 == bt313.2)) else (some false)) else (some false)) else (some false)) else (some false)) else (some false)) else (some false)) else (some false)))) = some r := H
        have A12 := Aside0.mk A120
        clear A120
        replace H := Option.bind_eq_some_iff.mp H
        obtain ⟨⟨t313, t314⟩, A130, H⟩ := H
        replace H : ((banksmanref03_Same.f kj3 t309 t313).bind fun t317 => (if t290 = true then (if (strOfNums t291).toList = (strOfNums t295).toList then (if t292 = t296 then (if (strOfNums t299).toList = (strOfNums t304).toList then (if t302 = t305 then (if t303 = t306 then (if t317 = true then (some (t312 == t314)) else (some false)) else (some false)) else (some false)) else (some false)) else (some false)) else (some false)) else (some false))) = some r := H
        have A13 := Aside0.mk A130
        clear A130
        replace H := Option.bind_eq_some_iff.mp H
        obtain ⟨t317, A140, H⟩ := H
        replace H : (if t290 = true then (if (strOfNums t291).toList = (strOfNums t295).toList then (if t292 = t296 then (if (strOfNums t299).toList = (strOfNums t304).toList then (if t302 = t305 then (if t303 = t306 then (if t317 = true then (some (t312 == t314)) else (some false)) else (some false)) else (some false)) else (some false)) else (some false)) else (some false)) else (some false)) = some r := H
        have A14 := Aside0.mk A140
        clear A140
        by_cases c15 : t290 = true
        · subst c15
          have H1 : (if (strOfNums t291).toList = (strOfNums t295).toList then (if t292 = t296 then (if (strOfNums t299).toList = (strOfNums t304).toList then (if t302 = t305 then (if t303 = t306 then (if t317 = true then (some (t312 == t314)) else (some false)) else (some false)) else (some false)) else (some false)) else (some false)) else (some false)) = some r := by rw [if_pos rfl] at H; exact H
          clear H
          have H := H1
          clear H1
          by_cases c16 : (strOfNums t291).toList = (strOfNums t295).toList
          · rw [if_pos c16] at H
            have c16b0 : ((strOfNums t291).toList == (strOfNums t295).toList) = true := beq_iff_eq.mpr c16
            have c16b1 : ((strOfNums t291).toList != (strOfNums t295).toList) = false := bne_eq_false_iff_eq.mpr c16
            clear c16
            by_cases c17 : t292 = t296
            · rw [if_pos c17] at H
              have c17b0 : (t292 == t296) = true := beq_iff_eq.mpr c17
              have c17b1 : (t292 != t296) = false := bne_eq_false_iff_eq.mpr c17
              clear c17
              by_cases c18 : (strOfNums t299).toList = (strOfNums t304).toList
              · rw [if_pos c18] at H
                have c18b0 : ((strOfNums t299).toList == (strOfNums t304).toList) = true := beq_iff_eq.mpr c18
                have c18b1 : ((strOfNums t299).toList != (strOfNums t304).toList) = false := bne_eq_false_iff_eq.mpr c18
                clear c18
                by_cases c19 : t302 = t305
                · rw [if_pos c19] at H
                  have c19b0 : (t302 == t305) = true := beq_iff_eq.mpr c19
                  have c19b1 : (t302 != t305) = false := bne_eq_false_iff_eq.mpr c19
                  clear c19
                  by_cases c20 : t303 = t306
                  · rw [if_pos c20] at H
                    have c20b0 : (t303 == t306) = true := beq_iff_eq.mpr c20
                    have c20b1 : (t303 != t306) = false := bne_eq_false_iff_eq.mpr c20
                    clear c20
                    by_cases c21 : t317 = true
                    · subst c21
                      have H1 : (some (t312 == t314)) = some r := by rw [if_pos rfl] at H; exact H
                      clear H
                      have H := H1
                      clear H1
                      obtain rfl := Option.some.inj H
                      go_wp2_with (first | ((with_reducible refine gate_callee (f := 9) rfl ?_); refine goesL_ (some 33) rfl rfl Try.func9 (by kernel_rfl) rfl #[.slice A0 l0.length c0] rfl (by (try simp only [List.map_toArray, List.map_cons, List.map_nil]); first | done | rfl | (simp only [List.length_drop, List.length_take]; rfl)) ?_; (with_reducible refine (frame_Write.calls _ _ l0 t291 t292 _ ?side1 ?side2 A8.out).mono ?_); (case side1 => repeat (first | exact (Kd.C_below HR0.out HB.out) | (with_reducible refine Kd.C_alloc ?_ _) | (with_reducible refine Kd.C_drewN ?_ _) | (with_reducible refine Kd.C_drew ?_))); (case side2 => exact HC0.out); rintro e w22 ⟨v293, rfl, ho0, hb⟩; refine ⟨_, rfl, ?_⟩; have n0_ := Aside0.mk (Kd.R_lower ho0 (below_size (by repeat (first | (with_reducible first | exact HB.out | apply below_alloc | apply pw_below_drewN | apply below_drew1) | exact HB.out)))); have n1_ := Aside0.mk (below_step (by repeat (first | (with_reducible first | exact HB.out | apply below_alloc | apply pw_below_drewN | apply below_drew1) | exact HB.out)) hb); clear HB; have HO294 := n0_; have HB := n1_; clear n0_ n1_; (try clear hb); (try clear hb2); (try clear hk); (try clear hi); (try clear ho0)) | ((with_reducible refine gate_callee (f := 10) rfl ?_); refine goesL_ (some 38) rfl rfl Try.func10 (by kernel_rfl) rfl #[.slice A0 l0.length c0] rfl (by (try simp only [List.map_toArray, List.map_cons, List.map_nil]); first | done | rfl | (simp only [List.length_drop, List.length_take]; rfl)) ?_; (with_reducible refine (banksmanref03_Write.calls kj3 _ _ l0 t295 t296 _ ?side1 ?side2 A9.out).mono ?_); (case side1 => repeat (first | exact (Kd.C_below HR0.out HB.out) | (with_reducible refine Kd.C_alloc ?_ _) | (with_reducible refine Kd.C_drewN ?_ _) | (with_reducible refine Kd.C_drew ?_))); (case side2 => exact HC0.out); rintro e w23 ⟨v297, rfl, ho0, hb⟩; refine ⟨_, rfl, ?_⟩; have n0_ := Aside0.mk (Kd.R_elder' (by (with_reducible repeat (first | apply Kd.R_alloc | apply Kd.R_drewN | apply Kd.R_drew)); exact HO294.out) (Kd.R_base ho0) hb); have n1_ := Aside0.mk (Kd.R_lower (Kd.R_new' ho0 (Kd.R_lt (by (with_reducible repeat (first | apply Kd.R_alloc | apply Kd.R_drewN | apply Kd.R_drew)); exact HO294.out))) (below_size (by repeat (first | (with_reducible first | exact HB.out | apply below_alloc | apply pw_below_drewN | apply below_drew1) | exact HB.out)))); have n2_ := Aside0.mk (below_step (by repeat (first | (with_reducible first | exact HB.out | apply below_alloc | apply pw_below_drewN | apply below_drew1) | exact HB.out)) hb); clear HO294; clear HB; have HO294 := n0_; have HO298 := n1_; have HB := n2_; clear n0_ n1_ n2_; (try clear hb); (try clear hb2); (try clear hk); (try clear hi); (try clear ho0)) | ((with_reducible refine gate_callee (f := 11) rfl ?_); refine goesL_ (some 43) rfl rfl Try.func11 (by kernel_rfl) rfl #[.slice A1 l1.length c1] rfl (by (try simp only [List.map_toArray, List.map_cons, List.map_nil]); first | done | rfl | (simp only [List.length_drop, List.length_take]; rfl)) ?_; (with_reducible refine (frame_Read.calls _ _ l1 t299 t302 t303 _ ?side1 ?side2 A10.out).mono ?_); (case side1 => repeat (first | exact (Kd.C_below HR1.out HB.out) | (with_reducible refine Kd.C_alloc ?_ _) | (with_reducible refine Kd.C_drewN ?_ _) | (with_reducible refine Kd.C_drew ?_))); (case side2 => exact HC1.out); rintro e w24 ⟨v300, rfl, ho0, hb⟩; refine ⟨_, rfl, ?_⟩; have n0_ := Aside0.mk (Kd.R_below (by (with_reducible repeat (first | apply Kd.R_alloc | apply Kd.R_drewN | apply Kd.R_drew)); exact HO294.out) hb); have n1_ := Aside0.mk (Kd.R_below (by (with_reducible repeat (first | apply Kd.R_alloc | apply Kd.R_drewN | apply Kd.R_drew)); exact HO298.out) hb); have n2_ := Aside0.mk (Kd.V_lower (Kd.V_mono (ok' := fun k_ => some k_ ≠ (v293 : Value).ownBlock ∧ some k_ ≠ (v297 : Value).ownBlock) ho0 (fun k_ hk_ => ⟨(Kd.fresh' (Kd.R_lt (by (with_reducible repeat (first | apply Kd.R_alloc | apply Kd.R_drewN | apply Kd.R_drew)); exact HO294.out)) k_ hk_), (Kd.fresh' (Kd.R_lt (by (with_reducible repeat (first | apply Kd.R_alloc | apply Kd.R_drewN | apply Kd.R_drew)); exact HO298.out)) k_ hk_)⟩)) (below_size (by repeat (first | (with_reducible first | exact HB.out | apply below_alloc | apply pw_below_drewN | apply below_drew1) | exact HB.out)))); have n3_ := Aside0.mk (below_step (by repeat (first | (with_reducible first | exact HB.out | apply below_alloc | apply pw_below_drewN | apply below_drew1) | exact HB.out)) hb); clear HO294; clear HO298; clear HB; have HO294 := n0_; have HO298 := n1_; have HO301 := n2_; have HB := n3_; clear n0_ n1_ n2_ n3_; (try clear hb); (try clear hb2); (try clear hk); (try clear hi); (try clear ho0)) | ((with_reducible refine gate_callee (f := 12) rfl ?_); refine goesL_ (some 49) rfl rfl Try.func12 (by kernel_rfl) rfl #[.slice A1 l1.length c1] rfl (by (try simp only [List.map_toArray, List.map_cons, List.map_nil]); first | done | rfl | (simp only [List.length_drop, List.length_take]; rfl)) ?_; (with_reducible refine (banksmanref03_Read.calls kj3 _ _ l1 t304 t305 t306 _ ?side1 ?side2 A11.out).mono ?_); (case side1 => repeat (first | exact (Kd.C_below HR1.out HB.out) | (with_reducible refine Kd.C_alloc ?_ _) | (with_reducible refine Kd.C_drewN ?_ _) | (with_reducible refine Kd.C_drew ?_))); (case side2 => exact HC1.out); rintro e w25 ⟨v307, rfl, ho0, hb⟩; refine ⟨_, rfl, ?_⟩; have n0_ := Aside0.mk (Kd.R_elder' (by (with_reducible repeat (first | apply Kd.R_alloc | apply Kd.R_drewN | apply Kd.R_drew)); exact HO294.out) (Kd.R_base ho0) hb); have n1_ := Aside0.mk (Kd.R_elder' (by (with_reducible repeat (first | apply Kd.R_alloc | apply Kd.R_drewN | apply Kd.R_drew)); exact HO298.out) (Kd.R_base ho0) hb); have n2_ := Aside0.mk (Kd.V_elder' (by (with_reducible repeat (first | apply Kd.V_alloc | apply Kd.V_drewN | apply Kd.V_drew)); exact HO301.out) (Kd.R_base ho0) hb); have n3_ := Aside0.mk (Kd.R_lower (Kd.R_new' (Kd.R_new' ho0 (Kd.R_lt (by (with_reducible repeat (first | apply Kd.R_alloc | apply Kd.R_drewN | apply Kd.R_drew)); exact HO294.out))) (Kd.R_lt (by (with_reducible repeat (first | apply Kd.R_alloc | apply Kd.R_drewN | apply Kd.R_drew)); exact HO298.out))) (below_size (by repeat (first | (with_reducible first | exact HB.out | apply below_alloc | apply pw_below_drewN | apply below_drew1) | exact HB.out)))); have n4_ := Aside0.mk (below_step (by repeat (first | (with_reducible first | exact HB.out | apply below_alloc | apply pw_below_drewN | apply below_drew1) | exact HB.out)) hb); clear HO294; clear HO298; clear HO301; clear HB; have HO294 := n0_; have HO298 := n1_; have HO301 := n2_; have HO308 := n3_; have HB := n4_; clear n0_ n1_ n2_ n3_ n4_; (try clear hb); (try clear hb2); (try clear hk); (try clear hi); (try clear ho0)) | ((with_reducible refine gate_callee (f := 13) rfl ?_); refine goesL_ (some 55) rfl rfl Try.func13 (by kernel_rfl) rfl #[.slice A1 l1.length c1] rfl (by (try simp only [List.map_toArray, List.map_cons, List.map_nil]); first | done | rfl | (simp only [List.length_drop, List.length_take]; rfl)) ?_; (with_reducible refine (frame_All.calls _ _ l1 t309 t312 _ ?side1 ?side2 A12.out).mono ?_); (case side1 => repeat (first | exact (Kd.C_below HR1.out HB.out) | (with_reducible refine Kd.C_alloc ?_ _) | (with_reducible refine Kd.C_drewN ?_ _) | (with_reducible refine Kd.C_drew ?_))); (case side2 => exact HC1.out); rintro e w26 ⟨v310, rfl, ho0, hb⟩; refine ⟨_, rfl, ?_⟩; have n0_ := Aside0.mk (Kd.R_below (by (with_reducible repeat (first | apply Kd.R_alloc | apply Kd.R_drewN | apply Kd.R_drew)); exact HO294.out) hb); have n1_ := Aside0.mk (Kd.R_below (by (with_reducible repeat (first | apply Kd.R_alloc | apply Kd.R_drewN | apply Kd.R_drew)); exact HO298.out) hb); have n2_ := Aside0.mk (Kd.V_elder' (by (with_reducible repeat (first | apply Kd.V_alloc | apply Kd.V_drewN | apply Kd.V_drew)); exact HO301.out) (by first | exact Kd.N_base ho0 | exact Kd.N_base (Kd.S_N ho0)) hb); have n3_ := Aside0.mk (Kd.R_below (by (with_reducible repeat (first | apply Kd.R_alloc | apply Kd.R_drewN | apply Kd.R_drew)); exact HO308.out) hb); have n4_ := Aside0.mk (Kd.N_lower (Kd.N_mono (ok' := fun k_ => some k_ ≠ (v293 : Value).ownBlock ∧ some k_ ≠ (v297 : Value).ownBlock ∧ some k_ ≠ (v307 : Value).ownBlock) ho0 (fun k_ hk_ => ⟨(Kd.fresh' (Kd.R_lt (by (with_reducible repeat (first | apply Kd.R_alloc | apply Kd.R_drewN | apply Kd.R_drew)); exact HO294.out)) k_ hk_), (Kd.fresh' (Kd.R_lt (by (with_reducible repeat (first | apply Kd.R_alloc | apply Kd.R_drewN | apply Kd.R_drew)); exact HO298.out)) k_ hk_), (Kd.fresh' (Kd.R_lt (by (with_reducible repeat (first | apply Kd.R_alloc | apply Kd.R_drewN | apply Kd.R_drew)); exact HO308.out)) k_ hk_)⟩)) (below_size (by repeat (first | (with_reducible first | exact HB.out | apply below_alloc | apply pw_below_drewN | apply below_drew1) | exact HB.out)))); have n5_ := Aside0.mk (below_step (by repeat (first | (with_reducible first | exact HB.out | apply below_alloc | apply pw_below_drewN | apply below_drew1) | exact HB.out)) hb); clear HO294; clear HO298; clear HO301; clear HO308; clear HB; have HO294 := n0_; have HO298 := n1_; have HO301 := n2_; have HO308 := n3_; have HO311 := n4_; have HB := n5_; clear n0_ n1_ n2_ n3_ n4_ n5_; (try clear hb); (try clear hb2); (try clear hk); (try clear hi); (try clear ho0)) | ((with_reducible refine gate_callee (f := 14) rfl ?_); refine goesL_ (some 60) rfl rfl Try.func14 (by kernel_rfl) rfl #[.slice A1 l1.length c1] rfl (by (try simp only [List.map_toArray, List.map_cons, List.map_nil]); first | done | rfl | (simp only [List.length_drop, List.length_take]; rfl)) ?_; (with_reducible refine (banksmanref03_All.calls kj3 _ _ l1 t313 t314 _ ?side1 ?side2 A13.out).mono ?_); (case side1 => repeat (first | exact (Kd.C_below HR1.out HB.out) | (with_reducible refine Kd.C_alloc ?_ _) | (with_reducible refine Kd.C_drewN ?_ _) | (with_reducible refine Kd.C_drew ?_))); (case side2 => exact HC1.out); rintro e w27 ⟨v315, rfl, ho0, hb⟩; refine ⟨_, rfl, ?_⟩; have n0_ := Aside0.mk (Kd.R_below (by (with_reducible repeat (first | apply Kd.R_alloc | apply Kd.R_drewN | apply Kd.R_drew)); exact HO294.out) hb); have n1_ := Aside0.mk (Kd.R_below (by (with_reducible repeat (first | apply Kd.R_alloc | apply Kd.R_drewN | apply Kd.R_drew)); exact HO298.out) hb); have n2_ := Aside0.mk (Kd.V_elder' (by (with_reducible repeat (first | apply Kd.V_alloc | apply Kd.V_drewN | apply Kd.V_drew)); exact HO301.out) (by first | exact Kd.N_base ho0 | exact Kd.N_base (Kd.S_N ho0)) hb); have n3_ := Aside0.mk (Kd.R_below (by (with_reducible repeat (first | apply Kd.R_alloc | apply Kd.R_drewN | apply Kd.R_drew)); exact HO308.out) hb); have n4_ := Aside0.mk (Kd.N_elder' (by (with_reducible repeat (first | apply Kd.N_alloc | apply Kd.N_drewN | apply Kd.N_drew)); exact HO311.out) (by first | exact Kd.N_base ho0 | exact Kd.N_base (Kd.S_N ho0)) hb); have n5_ := Aside0.mk (Kd.N_lower (Kd.N_mono (ok' := fun k_ => some k_ ≠ (v293 : Value).ownBlock ∧ some k_ ≠ (v297 : Value).ownBlock ∧ some k_ ≠ (v307 : Value).ownBlock ∧ some k_ ≠ (v310 : Value).ownBlock) (Kd.S_N (Kd.S_bound ho0)) (fun k_ hk_ => ⟨(Kd.fresh' (Kd.R_lt (by (with_reducible repeat (first | apply Kd.R_alloc | apply Kd.R_drewN | apply Kd.R_drew)); exact HO294.out)) k_ hk_.2.1), (Kd.fresh' (Kd.R_lt (by (with_reducible repeat (first | apply Kd.R_alloc | apply Kd.R_drewN | apply Kd.R_drew)); exact HO298.out)) k_ hk_.2.1), (Kd.fresh' (Kd.R_lt (by (with_reducible repeat (first | apply Kd.R_alloc | apply Kd.R_drewN | apply Kd.R_drew)); exact HO308.out)) k_ hk_.2.1), (Kd.fresh' (Kd.N_lt (by (with_reducible repeat (first | apply Kd.N_alloc | apply Kd.N_drewN | apply Kd.N_drew)); exact HO311.out)) k_ hk_.2.1)⟩)) (below_size (by repeat (first | (with_reducible first | exact HB.out | apply below_alloc | apply pw_below_drewN | apply below_drew1) | exact HB.out)))); have n6_ := Aside0.mk (below_step (by repeat (first | (with_reducible first | exact HB.out | apply below_alloc | apply pw_below_drewN | apply below_drew1) | exact HB.out)) hb); clear HO294; clear HO298; clear HO301; clear HO308; clear HO311; clear HB; have HO294 := n0_; have HO298 := n1_; have HO301 := n2_; have HO308 := n3_; have HO311 := n4_; have HO316 := n5_; have HB := n6_; clear n0_ n1_ n2_ n3_ n4_ n5_ n6_; (try clear hb); (try clear hb2); (try clear hk); (try clear hi); (try clear ho0); obtain ⟨Ao28, co28, eo28⟩ := Kd.N_slice HO311.out; subst eo28; obtain ⟨Ao29, co29, eo29⟩ := Kd.N_slice HO316.out; subst eo29) | ((with_reducible refine gate_callee (f := 15) rfl ?_); refine goesL_ (some 65) rfl rfl Try.func15 (by kernel_rfl) rfl #[.slice Ao28 t309.length co28, .slice Ao29 t313.length co29] rfl (by (try simp only [List.map_toArray, List.map_cons, List.map_nil]); first | done | rfl | (simp only [List.length_drop, List.length_take]; rfl)) ?_; (with_reducible refine (banksmanref03_Same.calls kj3 _ _ t309 _ _ t313 true _ ?side1 ?side2 ?side3 ?side4 A14.out).mono ?_); (case side1 => repeat (first | exact (Kd.N_reads' HO311.out).2.2 | (with_reducible refine Kd.C_alloc ?_ _) | (with_reducible refine Kd.C_drewN ?_ _) | (with_reducible refine Kd.C_drew ?_))); (case side2 => exact (Kd.N_reads' HO311.out).2.1); (case side3 => repeat (first | exact (Kd.N_reads' HO316.out).2.2 | (with_reducible refine Kd.C_alloc ?_ _) | (with_reducible refine Kd.C_drewN ?_ _) | (with_reducible refine Kd.C_drew ?_))); (case side4 => exact (Kd.N_reads' HO316.out).2.1); rintro e w' ⟨rfl, ⟨nd, rfl⟩⟩; refine ⟨_, rfl, ?_⟩; have hcv30 := own_string (P := Try.prog) Try.underlying22 Try.underlying5 Try.underlying9 (Kd.own_of_R HO294.out); have hcv30q := fun n_ => own_string (P := Try.prog) Try.underlying22 Try.underlying5 Try.underlying9 (Kd.own_of_R (Kd.R_drewN HO294.out n_)); have hcv31 := own_string (P := Try.prog) Try.underlying22 Try.underlying5 Try.underlying9 (Kd.own_of_R HO298.out); have hcv31q := fun n_ => own_string (P := Try.prog) Try.underlying22 Try.underlying5 Try.underlying9 (Kd.own_of_R (Kd.R_drewN HO298.out n_)); obtain ⟨Ao32, co32, eo32⟩ := Kd.V_slice HO301.out; subst eo32; have hcv33 := Kd.C_string (P := Try.prog) (A := Ao32) (c := co32) Try.underlying22 Try.underlying5 Try.underlying9 (Kd.V_reads' HO301.out).2.2; have hcv33q := fun n_ => Kd.C_string (P := Try.prog) (A := Ao32) (c := co32) Try.underlying22 Try.underlying5 Try.underlying9 (Kd.C_drewN (Kd.V_reads' HO301.out).2.2 n_); have hcv34 := own_string (P := Try.prog) Try.underlying22 Try.underlying5 Try.underlying9 (Kd.own_of_R HO308.out); have hcv34q := fun n_ => own_string (P := Try.prog) Try.underlying22 Try.underlying5 Try.underlying9 (Kd.own_of_R (Kd.R_drewN HO308.out n_))))
                      go_ret
                      exact ⟨by first | rfl | (simp [errW_none, errW_some] <;> rfl) | (simp [*, errW_none, errW_some] <;> rfl), by repeat (first | (with_reducible first | exact HB.out | apply below_alloc | apply pw_below_drewN | apply below_drew1) | exact HB.out)⟩
                    · replace c21 := Bool.eq_false_iff.mpr c21
                      subst c21
                      have H1 : (some false) = some r := by rw [if_neg (show ¬ (false = true) by decide)] at H; exact H
                      rw [HTr_] at H1
                      exact absurd (Option.some.inj H1) (by decide)
                  · rw [if_neg c20] at H
                    rw [HTr_] at H
                    exact absurd (Option.some.inj H) (by decide)
                · rw [if_neg c19] at H
                  rw [HTr_] at H
                  exact absurd (Option.some.inj H) (by decide)
              · rw [if_neg c18] at H
                rw [HTr_] at H
                exact absurd (Option.some.inj H) (by decide)
            · rw [if_neg c17] at H
              rw [HTr_] at H
              exact absurd (Option.some.inj H) (by decide)
          · rw [if_neg c16] at H
            rw [HTr_] at H
            exact absurd (Option.some.inj H) (by decide)
        · replace c15 := Bool.eq_false_iff.mpr c15
          subst c15
          have H1 : (some false) = some r := by rw [if_neg (show ¬ (false = true) by decide)] at H; exact H
          rw [HTr_] at H1
          exact absurd (Option.some.inj H1) (by decide)

/-- THE ONE PURE STATEMENT of banksmanlaw03_FrameTells: yours. -/
def banksmanlaw03_FrameTells.Pure : Prop := ∀ (l0 : List Int) (l1 : List Int), l0.length ≤ maxLen → l0.length * 1 ≤ 140737488351232 → (∀ x ∈ l0, (Lit.int .u8 x).wf = true) → l1.length ≤ maxLen → l1.length * 1 ≤ 140737488351232 → (∀ x ∈ l1, (Lit.int .u8 x).wf = true) → ∃ k, banksmanlaw03_FrameTells.f k l0 l1 = some true
theorem banksmanlaw03_FrameTells.walk (P : banksmanlaw03_FrameTells.Pure) (a0 : Option Addr) (len0 cap0 : Nat) (z0 : List Int) (a1 : Option Addr) (len1 cap1 : Nat) (z1 : List Int) (w : World) (w0 : (a0 = none ∧ len0 = 0 ∧ cap0 = 0 ∧ z0 = []) ∨ ∃ x, a0 = some x ∧ len0 ≤ cap0 ∧ cap0 ≤ maxLen ∧ z0.length = cap0 ∧ (∀ i, i < z0.length → w.cell? (x.add i) = some (.int .u8 (z0.getD i 0))) ∧ ∀ n ∈ z0, (Lit.int .u8 n).wf = true) (y0 : len0 * 1 ≤ 140737488351232) (w1 : (a1 = none ∧ len1 = 0 ∧ cap1 = 0 ∧ z1 = []) ∨ ∃ x, a1 = some x ∧ len1 ≤ cap1 ∧ cap1 ≤ maxLen ∧ z1.length = cap1 ∧ (∀ i, i < z1.length → w.cell? (x.add i) = some (.int .u8 (z1.getD i 0))) ∧ ∀ n ∈ z1, (Lit.int .u8 n).wf = true) (y1 : len1 * 1 ≤ 140737488351232) :
    Calls Try.prog 3 #[.slice a0 len0 cap0, .slice a1 len1 cap1] w fun e w' => e = .returned (.bool true) ∧ Below w.heap.size w w' := by
  obtain ⟨l0, rfl, hr0, hm0, hw0, hc0⟩ := ReadsInt.ofRowC w0
  obtain ⟨l1, rfl, hr1, hm1, hw1, hc1⟩ := ReadsInt.ofRowC w1
  obtain ⟨k, h⟩ := P l0 l1 hm0 y0 hw0 hm1 y1 hw1
  refine (banksmanlaw03_FrameTells.calls k _ _ l0 _ _ l1 true w (Kd.C_of_reads (d := (0 : Int)) (h1 := fun _ => rfl) hr0) hc0 (Kd.C_of_reads (d := (0 : Int)) (h1 := fun _ => rfl) hr1) hc1 h rfl).mono ?_
  rintro e w' ⟨rfl, hd⟩
  exact ⟨rfl, hd⟩

end Go.Proofs.Ytficgggfplejpaa.P
