-- Written by wip/gprint.py, a program of this session over the kit's print; Lean checks it.
import Derived.Test.YtficgggfplejpaaPx0
import Derived.Test.YtficgggfplejpaaPx15
import Derived.Test.YtficgggfplejpaaPx18
import Derived.Test.YtficgggfplejpaaPx21
import Derived.Test.YtficgggfplejpaaPx35
namespace Go.Proofs.Ytficgggfplejpaa.P
open Go.RowKit Go.Proofs.YtficgggfplejpaaW.PrintWords Go.Proofs.YtficgggfplejpaaW.PrintLast Go.Proofs.YtficgggfplejpaaW.PrintMore
attribute [local go_sem] max2_int min2_int max_two min_two max_three min_three max_four min_four   -- for this text's walks alone
set_option linter.unusedVariables false
set_option linter.unusedSimpArgs false

/-! ### banksmanlaw03_FrameSizes: function 7 -/
def banksmanlaw03_FrameSizes.j0 : Nat → List Int → Int → Int → Bool → List Int → Int → Bool → Option (Bool)
  | 0, _, _, _, _, _, _, _ => none
  | k + 1, x0, x1, x2, x7, x8, x10, x43 => if x43 = true then (some false) else ((frame_Read.f x8).bind fun bt430 => (if (wrap64 ((x0.length : Int) + 4)) = 0 then (none) else ((some (([] : List Int) : List Int)).bind fun y435 => (if y435.length + x8.length < 140737488355328 then ((some (y435 ++ x8 : List Int)).bind fun y438 => (if 0 ≤ (wrap64 (x10 + (Int.tmod (wrap64 (x1)) (wrap64 ((x0.length : Int) + 4))))) then (if (wrap64 (x10 + (Int.tmod (wrap64 (x1)) (wrap64 ((x0.length : Int) + 4))))) < (y438.length : Int) then ((frame_Read.f (y438.set ((wrap64 (x10 + (Int.tmod (wrap64 (x1)) (wrap64 ((x0.length : Int) + 4))))) : Int).toNat (Go.bits .xor .u8 (rd y438 (wrap64 (x10 + (Int.tmod (wrap64 (x1)) (wrap64 ((x0.length : Int) + 4)))))) x2))).bind fun bt443 => (if x7 = true then (if bt430.2.2 = 0 then (if bt430.2.1 = (x8.length : Int) then (if (strOfNums bt430.1).toList = (strOfNums x0).toList then (some ((bt443.2.2 == 30) == (x2 != 0))) else (some false)) else (some false)) else (some false)) else (some false))) else (none)) else (none))) else (none)))))
def banksmanlaw03_FrameSizes.f (k : Nat) (l0 : List Int) (a1 : Int) (a2 : Int) : Option (Bool) := (banksmanlaw03_awake.f).bind fun t424 => (if (l0.length : Int) > 2000 then (some t424) else ((frame_Write.f l0).bind fun bt425 => ((octet_Size.f (l0.length : Int)).bind fun t429 => (if bt425.2 = 0 then (banksmanlaw03_FrameSizes.j0 k l0 a1 a2 t424 bt425.1 t429 ((bt425.1.length : Int) != (wrap64 ((wrap64 (t429 + (l0.length : Int))) + 4)))) else (banksmanlaw03_FrameSizes.j0 k l0 a1 a2 t424 bt425.1 t429 true)))))
theorem banksmanlaw03_FrameSizes.mono_l : ∀ k, (∀ y0 y1 y2 y3 y4 y5 y6, LeO (banksmanlaw03_FrameSizes.j0 k y0 y1 y2 y3 y4 y5 y6) (banksmanlaw03_FrameSizes.j0 (k + 1) y0 y1 y2 y3 y4 y5 y6))
  | 0 => fun _ _ _ _ _ _ _ r h => by simp [banksmanlaw03_FrameSizes.j0] at h
  | k + 1 => by
    have ih0 := banksmanlaw03_FrameSizes.mono_l k
    · intro y0 y1 y2 y3 y4 y5 y6
      unfold banksmanlaw03_FrameSizes.j0
      repeat' first
      | (with_reducible exact ih0 _ _ _ _ _ _ _)
      | (with_reducible exact LeO.refl _)
      | (with_reducible exact LeO.none _)
      | (with_reducible refine LeO.ite ?_ ?_)
      | (with_reducible refine LeO.bind ?_ (fun _ => ?_))
      | exact ih0 _ _ _ _ _ _ _
      | exact LeO.none _
      | refine LeO.ite ?_ ?_
      | refine LeO.bind ?_ (fun _ => ?_)
theorem banksmanlaw03_FrameSizes.mono : ∀ a0 a1 a2 k, LeO (banksmanlaw03_FrameSizes.f k a0 a1 a2) (banksmanlaw03_FrameSizes.f (k + 1) a0 a1 a2) := by
  intro a0 a1 a2 k
  have ih0 := banksmanlaw03_FrameSizes.mono_l k
  unfold banksmanlaw03_FrameSizes.f
  repeat' first
      | (with_reducible exact ih0 _ _ _ _ _ _ _)
      | (with_reducible exact LeO.refl _)
      | (with_reducible exact LeO.none _)
      | (with_reducible refine LeO.ite ?_ ?_)
      | (with_reducible refine LeO.bind ?_ (fun _ => ?_))
      | exact ih0 _ _ _ _ _ _ _
      | exact LeO.none _
      | refine LeO.ite ?_ ?_
      | refine LeO.bind ?_ (fun _ => ?_)
set_option maxHeartbeats 8000000 in
set_option maxRecDepth 100000 in
theorem banksmanlaw03_FrameSizes.calls (k : Nat) (A0 : Option Addr) (c0 : Nat) (l0 : List Int) (a1 : Int) (a2 : Int) (r : Bool) (w : World) (hr0 : Kd.C (Kd.int .u8) w A0 l0.length l0) (hc0 : l0.length ≤ c0) (h : banksmanlaw03_FrameSizes.f k l0 a1 a2 = some r) (HTr_ : r = true) :
    Calls Try.prog 7 #[.slice A0 l0.length c0, .int .u16 a1, .int .u8 a2] w fun e w' => e = .returned (.bool r) ∧ Below w.heap.size w w' := by
  have HR0 := Aside0.mk hr0
  have HC0 := Aside0.mk hc0
  clear hr0 hc0
  have HB := Aside0.mk (Below.refl w.heap.size w)
  have H : ((banksmanlaw03_awake.f).bind fun t424 => (if (l0.length : Int) > 2000 then (some t424) else ((frame_Write.f l0).bind fun bt425 => ((octet_Size.f (l0.length : Int)).bind fun t429 => (if bt425.2 = 0 then (banksmanlaw03_FrameSizes.j0 k l0 a1 a2 t424 bt425.1 t429 ((bt425.1.length : Int) != (wrap64 ((wrap64 (t429 + (l0.length : Int))) + 4)))) else (banksmanlaw03_FrameSizes.j0 k l0 a1 a2 t424 bt425.1 t429 true)))))) = some r := h
  clear h
  replace H := Option.bind_eq_some_iff.mp H
  obtain ⟨t424, A40, H⟩ := H
  replace H : (if (l0.length : Int) > 2000 then (some t424) else ((frame_Write.f l0).bind fun bt425 => ((octet_Size.f (l0.length : Int)).bind fun t429 => (if bt425.2 = 0 then (banksmanlaw03_FrameSizes.j0 k l0 a1 a2 t424 bt425.1 t429 ((bt425.1.length : Int) != (wrap64 ((wrap64 (t429 + (l0.length : Int))) + 4)))) else (banksmanlaw03_FrameSizes.j0 k l0 a1 a2 t424 bt425.1 t429 true))))) = some r := H
  have A4 := Aside0.mk A40
  clear A40
  by_cases c5 : (l0.length : Int) > 2000
  · rw [if_pos c5] at H
    have c5b0 : decide (2000 < (l0.length : Int)) = true := decide_eq_true c5
    have c5b1 : decide (2000 < l0.length) = true := decide_eq_true (by omega)
    clear c5
    obtain rfl := Option.some.inj H
    go_enter Try.func7, Try.ntmps7
    go_wp2_with (first | ((with_reducible refine gate_callee (f := 8) rfl ?_); refine goesL_ (some 19) rfl rfl Try.func8 (by kernel_rfl) rfl #[] rfl (by (try simp only [List.map_toArray, List.map_cons, List.map_nil]); first | done | rfl | (simp only [List.length_drop, List.length_take]; rfl)) ?_; (with_reducible refine (banksmanlaw03_awake.calls  t424 _ A4.out).mono ?_); rintro e w6 ⟨rfl, hb⟩; refine ⟨_, rfl, ?_⟩; have n0_ := Aside0.mk (below_step (by repeat (first | (with_reducible first | exact HB.out | apply below_alloc | apply pw_below_drewN | apply below_drew1) | exact HB.out)) hb); clear HB; have HB := n0_; clear n0_; (try clear hb); (try clear hb2); (try clear hk); (try clear hi)))
    go_ret
    exact ⟨by first | rfl | (simp [errW_none, errW_some] <;> rfl) | (simp [*, errW_none, errW_some] <;> rfl), by repeat (first | (with_reducible first | exact HB.out | apply below_alloc | apply pw_below_drewN | apply below_drew1) | exact HB.out)⟩
  · rw [if_neg c5] at H
    have c5b0 : decide (2000 < (l0.length : Int)) = false := decide_eq_false c5
    have c5b1 : decide (2000 < l0.length) = false := decide_eq_false (by omega)
    clear c5
    replace H := Option.bind_eq_some_iff.mp H
    obtain ⟨⟨t425, t426⟩, A70, H⟩ := H
    replace H : ((octet_Size.f (l0.length : Int)).bind fun t429 => (if t426 = 0 then (banksmanlaw03_FrameSizes.j0 k l0 a1 a2 t424 t425 t429 ((t425.length : Int) != (wrap64 ((wrap64 (t429 + (l0.length : Int))) + 4)))) else (banksmanlaw03_FrameSizes.j0 k l0 a1 a2 t424 t425 t429 true))) = some r := H
    have A7 := Aside0.mk A70
    clear A70
    replace H := Option.bind_eq_some_iff.mp H
    obtain ⟨t429, A80, H⟩ := H
    replace H : (if t426 = 0 then (banksmanlaw03_FrameSizes.j0 k l0 a1 a2 t424 t425 t429 ((t425.length : Int) != (wrap64 ((wrap64 (t429 + (l0.length : Int))) + 4)))) else (banksmanlaw03_FrameSizes.j0 k l0 a1 a2 t424 t425 t429 true)) = some r := H
    have A8 := Aside0.mk A80
    clear A80
    have HC9 := Aside0.mk H
    clear H
    go_enter Try.func7, Try.ntmps7
    go_upto_region 6 with (first | ((with_reducible refine gate_callee (f := 8) rfl ?_); refine goesL_ (some 19) rfl rfl Try.func8 (by kernel_rfl) rfl #[] rfl (by (try simp only [List.map_toArray, List.map_cons, List.map_nil]); first | done | rfl | (simp only [List.length_drop, List.length_take]; rfl)) ?_; (with_reducible refine (banksmanlaw03_awake.calls  t424 _ A4.out).mono ?_); rintro e w10 ⟨rfl, hb⟩; refine ⟨_, rfl, ?_⟩; have n0_ := Aside0.mk (below_step (by repeat (first | (with_reducible first | exact HB.out | apply below_alloc | apply pw_below_drewN | apply below_drew1) | exact HB.out)) hb); clear HB; have HB := n0_; clear n0_; (try clear hb); (try clear hb2); (try clear hk); (try clear hi)) | ((with_reducible refine gate_callee (f := 9) rfl ?_); refine goesL_ (some 26) rfl rfl Try.func9 (by kernel_rfl) rfl #[.slice A0 l0.length c0] rfl (by (try simp only [List.map_toArray, List.map_cons, List.map_nil]); first | done | rfl | (simp only [List.length_drop, List.length_take]; rfl)) ?_; (with_reducible refine (frame_Write.calls _ _ l0 t425 t426 _ ?side1 ?side2 A7.out).mono ?_); (case side1 => repeat (first | exact (Kd.C_below HR0.out HB.out) | (with_reducible refine Kd.C_alloc ?_ _) | (with_reducible refine Kd.C_drewN ?_ _) | (with_reducible refine Kd.C_drew ?_))); (case side2 => exact HC0.out); rintro e w11 ⟨v427, rfl, ho0, hb⟩; refine ⟨_, rfl, ?_⟩; have n0_ := Aside0.mk (Kd.R_lower ho0 (below_size (by repeat (first | (with_reducible first | exact HB.out | apply below_alloc | apply pw_below_drewN | apply below_drew1) | exact HB.out)))); have n1_ := Aside0.mk (below_step (by repeat (first | (with_reducible first | exact HB.out | apply below_alloc | apply pw_below_drewN | apply below_drew1) | exact HB.out)) hb); clear HB; have HO428 := n0_; have HB := n1_; clear n0_ n1_; (try clear hb); (try clear hb2); (try clear hk); (try clear hi); (try clear ho0)) | ((with_reducible refine gate_callee (f := 16) rfl ?_); refine goesL_ (some 31) rfl rfl Try.func16 (by kernel_rfl) rfl #[.int .i64 (l0.length : Int)] rfl (by (try simp only [List.map_toArray, List.map_cons, List.map_nil]); first | done | rfl | (simp only [List.length_drop, List.length_take]; rfl)) ?_; (with_reducible refine (octet_Size.calls (l0.length : Int) t429 _ A8.out).mono ?_); rintro e w12 ⟨rfl, hb⟩; refine ⟨_, rfl, ?_⟩; have n0_ := Aside0.mk (Kd.R_below (by (with_reducible repeat (first | apply Kd.R_alloc | apply Kd.R_drewN | apply Kd.R_drew)); exact HO428.out) hb); have n1_ := Aside0.mk (below_step (by repeat (first | (with_reducible first | exact HB.out | apply below_alloc | apply pw_below_drewN | apply below_drew1) | exact HB.out)) hb); clear HO428; clear HB; have HO428 := n0_; have HB := n1_; clear n0_ n1_; (try clear hb); (try clear hb2); (try clear hk); (try clear hi)))
    (try simp only [Act.put, List.setIfInBounds_toArray, List.set_cons_zero, List.set_cons_succ])
    go_cut [43] (fun v43 wc => ∃ (kq : Nat) (x43_8 : Bool), v43 = .bool x43_8 ∧ Aside0 (banksmanlaw03_FrameSizes.j0 kq l0 a1 a2 t424 t425 t429 x43_8 = some r) ∧ Aside0 (kq ≤ k) ∧ Aside0 (Kd.R (Kd.int .u8) 5 wc w.heap.size (fun _ => True) v427 t425) ∧ Aside0 (Below w.heap.size w wc))
    case first =>
      have H := HC9.out
      clear HC9
      by_cases c13 : t426 = 0
      · rw [if_pos c13] at H
        have c13b0 : (t426 == 0) = true := beq_iff_eq.mpr c13
        have c13b1 : (t426 != 0) = false := bne_eq_false_iff_eq.mpr c13
        clear c13
        (first | rw [c13b0] | (simp only [i64_w, i32_w]; rw [c13b0]) | skip)
        have H' := Aside0.mk H
        clear H
        obtain ⟨Ao14, co14, eo14⟩ := Kd.R_slice HO428.out
        subst eo14
        go_wp2
        go_meet
        case rel => exact ⟨_, (((t425.length : Int) != (wrap64 ((wrap64 (t429 + (l0.length : Int))) + 4)))), (by first | rfl | (simp; done) | (simp [*]; done)), H', ⟨by first | omega | exact Nat.le_refl _⟩, ⟨by (with_reducible repeat (first | apply Kd.R_alloc | apply Kd.R_drewN | apply Kd.R_drew)); exact HO428.out⟩, ⟨by repeat (first | (with_reducible first | exact HB.out | apply below_alloc | apply pw_below_drewN | apply below_drew1) | exact HB.out)⟩⟩
      · rw [if_neg c13] at H
        have c13b0 : (t426 == 0) = false := beq_eq_false_iff_ne.mpr c13
        have c13b1 : (t426 != 0) = true := bne_iff_ne.mpr c13
        (first | rw [c13b0] | (simp only [i64_w, i32_w]; rw [c13b0]) | skip)
        have H' := Aside0.mk H
        clear H
        go_wp2
        go_meet
        case rel => exact ⟨_, (true), (by first | rfl | (simp; done) | (simp [*]; done)), H', ⟨by first | omega | exact Nat.le_refl _⟩, ⟨by (with_reducible repeat (first | apply Kd.R_alloc | apply Kd.R_drewN | apply Kd.R_drew)); exact HO428.out⟩, ⟨by repeat (first | (with_reducible first | exact HB.out | apply below_alloc | apply pw_below_drewN | apply below_drew1) | exact HB.out)⟩⟩
    case rest =>
      clear HC9
      try clear c1
      try clear p2
      try clear c5
      try clear c5b0
      try clear c5b1
      try clear p6
      try clear c7
      try clear c8
      try clear c9
      try clear c13
      try clear c13b0
      try clear c13b1
      obtain ⟨kq, x43_8, rfl, HA, HJ8, HO_8, HB⟩ := hcut
      cases kq with
      | zero => exact absurd HA.out (by simp [banksmanlaw03_FrameSizes.j0])
      | succ kj8 =>
        have H := HA.out
        clear HA
        simp only [banksmanlaw03_FrameSizes.j0] at H
        by_cases c15 : x43_8 = true
        · subst c15
          have H1 : (some false) = some r := by rw [if_pos rfl] at H; exact H
          rw [HTr_] at H1
          exact absurd (Option.some.inj H1) (by decide)
        · replace c15 := Bool.eq_false_iff.mpr c15
          subst c15
          have H1 : ((frame_Read.f t425).bind fun bt430 => (if (wrap64 ((l0.length : Int) + 4)) = 0 then (none) else ((some (([] : List Int) : List Int)).bind fun y435 => (if y435.length + t425.length < 140737488355328 then ((some (y435 ++ t425 : List Int)).bind fun y438 => (if 0 ≤ (wrap64 (t429 + (Int.tmod (wrap64 (a1)) (wrap64 ((l0.length : Int) + 4))))) then (if (wrap64 (t429 + (Int.tmod (wrap64 (a1)) (wrap64 ((l0.length : Int) + 4))))) < (y438.length : Int) then ((frame_Read.f (y438.set ((wrap64 (t429 + (Int.tmod (wrap64 (a1)) (wrap64 ((l0.length : Int) + 4))))) : Int).toNat (Go.bits .xor .u8 (rd y438 (wrap64 (t429 + (Int.tmod (wrap64 (a1)) (wrap64 ((l0.length : Int) + 4)))))) a2))).bind fun bt443 => (if t424 = true then (if bt430.2.2 = 0 then (if bt430.2.1 = (t425.length : Int) then (if (strOfNums bt430.1).toList = (strOfNums l0).toList then (some ((bt443.2.2 == 30) == (a2 != 0))) else (some false)) else (some false)) else (some false)) else (some false))) else (none)) else (none))) else (none))))) = some r := by rw [if_neg (show ¬ (false = true) by decide)] at H; exact H
          clear H
          have H := H1
          clear H1
          replace H := Option.bind_eq_some_iff.mp H
          obtain ⟨⟨t430, t433, t434⟩, A160, H⟩ := H
          replace H : (if (wrap64 ((l0.length : Int) + 4)) = 0 then (none) else ((some (([] : List Int) : List Int)).bind fun y435 => (if y435.length + t425.length < 140737488355328 then ((some (y435 ++ t425 : List Int)).bind fun y438 => (if 0 ≤ (wrap64 (t429 + (Int.tmod (wrap64 (a1)) (wrap64 ((l0.length : Int) + 4))))) then (if (wrap64 (t429 + (Int.tmod (wrap64 (a1)) (wrap64 ((l0.length : Int) + 4))))) < (y438.length : Int) then ((frame_Read.f (y438.set ((wrap64 (t429 + (Int.tmod (wrap64 (a1)) (wrap64 ((l0.length : Int) + 4))))) : Int).toNat (Go.bits .xor .u8 (rd y438 (wrap64 (t429 + (Int.tmod (wrap64 (a1)) (wrap64 ((l0.length : Int) + 4)))))) a2))).bind fun bt443 => (if t424 = true then (if t434 = 0 then (if t433 = (t425.length : Int) then (if (strOfNums t430).toList = (strOfNums l0).toList then (some ((bt443.2.2 == 30) == (a2 != 0))) else (some false)) else (some false)) else (some false)) else (some false))) else (none)) else (none))) else (none)))) = some r := H
          have A16 := Aside0.mk A160
          clear A160
          by_cases c17 : (wrap64 ((l0.length : Int) + 4)) = 0
          · rw [if_pos c17] at H
            exact absurd H (by simp)
          · rw [if_neg c17] at H
            have c17b0 : ((wrap64 ((l0.length : Int) + 4)) == 0) = false := beq_eq_false_iff_ne.mpr c17
            have c17b1 : ((wrap64 ((l0.length : Int) + 4)) != 0) = true := bne_iff_ne.mpr c17
            obtain ⟨y435, hy435⟩ : ∃ y_ : List Int, y_ = (([] : List Int)) := ⟨_, rfl⟩
            replace H : (if y435.length + t425.length < 140737488355328 then ((some (y435 ++ t425 : List Int)).bind fun y438 => (if 0 ≤ (wrap64 (t429 + (Int.tmod (wrap64 (a1)) (wrap64 ((l0.length : Int) + 4))))) then (if (wrap64 (t429 + (Int.tmod (wrap64 (a1)) (wrap64 ((l0.length : Int) + 4))))) < (y438.length : Int) then ((frame_Read.f (y438.set ((wrap64 (t429 + (Int.tmod (wrap64 (a1)) (wrap64 ((l0.length : Int) + 4))))) : Int).toNat (Go.bits .xor .u8 (rd y438 (wrap64 (t429 + (Int.tmod (wrap64 (a1)) (wrap64 ((l0.length : Int) + 4)))))) a2))).bind fun bt443 => (if t424 = true then (if t434 = 0 then (if t433 = (t425.length : Int) then (if (strOfNums t430).toList = (strOfNums l0).toList then (some ((bt443.2.2 == 30) == (a2 != 0))) else (some false)) else (some false)) else (some false)) else (some false))) else (none)) else (none))) else (none)) = some r := by first | (rw [hy435]; with_reducible exact H) | (have H2_ := (Option.bind_some _ _).symm.trans H; rw [hy435]; with_reducible exact H2_) | (have H2_ := (Option.bind_some _ _).symm.trans H; with_reducible exact H2_) | with_reducible exact H | (rw [hy435]; exact H) | exact H
            have Ny435 := Aside0.mk hy435
            clear hy435
            by_cases c18 : y435.length + t425.length < 140737488355328
            · rw [if_pos c18] at H
              have LMc18 := Aside0.mk c18
              clear c18
              obtain ⟨y438, hy438⟩ : ∃ y_ : List Int, y_ = (y435 ++ t425) := ⟨_, rfl⟩
              replace H : (if 0 ≤ (wrap64 (t429 + (Int.tmod (wrap64 (a1)) (wrap64 ((l0.length : Int) + 4))))) then (if (wrap64 (t429 + (Int.tmod (wrap64 (a1)) (wrap64 ((l0.length : Int) + 4))))) < (y438.length : Int) then ((frame_Read.f (y438.set ((wrap64 (t429 + (Int.tmod (wrap64 (a1)) (wrap64 ((l0.length : Int) + 4))))) : Int).toNat (Go.bits .xor .u8 (rd y438 (wrap64 (t429 + (Int.tmod (wrap64 (a1)) (wrap64 ((l0.length : Int) + 4)))))) a2))).bind fun bt443 => (if t424 = true then (if t434 = 0 then (if t433 = (t425.length : Int) then (if (strOfNums t430).toList = (strOfNums l0).toList then (some ((bt443.2.2 == 30) == (a2 != 0))) else (some false)) else (some false)) else (some false)) else (some false))) else (none)) else (none)) = some r := by first | (rw [hy438]; with_reducible exact H) | (have H2_ := (Option.bind_some _ _).symm.trans H; rw [hy438]; with_reducible exact H2_) | (have H2_ := (Option.bind_some _ _).symm.trans H; with_reducible exact H2_) | with_reducible exact H | (rw [hy438]; exact H) | exact H
              have Ny438 := Aside0.mk hy438
              clear hy438
              obtain ⟨ji19, hji19⟩ : ∃ j_ : Int, (wrap64 (t429 + (Int.tmod (wrap64 (a1)) (wrap64 ((l0.length : Int) + 4))))) = j_ := ⟨_, rfl⟩
              replace H : (if 0 ≤ (ji19) then (if (ji19) < (y438.length : Int) then ((frame_Read.f (y438.set ((ji19) : Int).toNat (Go.bits .xor .u8 (rd y438 (ji19)) a2))).bind fun bt443 => (if t424 = true then (if t434 = 0 then (if t433 = (t425.length : Int) then (if (strOfNums t430).toList = (strOfNums l0).toList then (some ((bt443.2.2 == 30) == (a2 != 0))) else (some false)) else (some false)) else (some false)) else (some false))) else (none)) else (none)) = some r := by first | (rw [hji19] at H; exact H) | (simp only [hji19] at H ⊢; exact H)
              (try rw [hji19] at A16)
              have hji19w : (IntKind.i64.wrap (t429 + (Int.tmod (wrap64 (a1)) (wrap64 ((l0.length : Int) + 4))))) = ji19 := (i64_w _).trans hji19
              by_cases c20 : 0 ≤ (ji19)
              · rw [if_pos c20] at H
                have c20b0 : decide (0 ≤ (ji19)) = true := decide_eq_true c20
                clear c20
                by_cases c21 : (ji19) < (y438.length : Int)
                · rw [if_pos c21] at H
                  have c21b0 : decide ((ji19) < (y438.length : Int)) = true := decide_eq_true c21
                  clear c21
                  obtain ⟨y442, hy442⟩ : ∃ y_ : List Int, y_ = (y438.set ((ji19) : Int).toNat (Go.bits .xor .u8 (rd y438 (ji19)) a2)) := ⟨_, rfl⟩
                  replace H : ((frame_Read.f y442).bind fun bt443 => (if t424 = true then (if t434 = 0 then (if t433 = (t425.length : Int) then (if (strOfNums t430).toList = (strOfNums l0).toList then (some ((bt443.2.2 == 30) == (a2 != 0))) else (some false)) else (some false)) else (some false)) else (some false))) = some r := by first | (rw [hy442]; with_reducible exact H) | (have H2_ := (Option.bind_some _ _).symm.trans H; rw [hy442]; with_reducible exact H2_) | (have H2_ := (Option.bind_some _ _).symm.trans H; with_reducible exact H2_) | with_reducible exact H | (rw [hy442]; exact H) | exact H
                  have Ny442 := Aside0.mk hy442
                  clear hy442
                  replace H := Option.bind_eq_some_iff.mp H
                  obtain ⟨⟨t443, t446, t447⟩, A230, H⟩ := H
                  replace H : (if t424 = true then (if t434 = 0 then (if t433 = (t425.length : Int) then (if (strOfNums t430).toList = (strOfNums l0).toList then (some ((t447 == 30) == (a2 != 0))) else (some false)) else (some false)) else (some false)) else (some false)) = some r := H
                  have A23 := Aside0.mk A230
                  clear A230
                  by_cases c24 : t424 = true
                  · subst c24
                    have H1 : (if t434 = 0 then (if t433 = (t425.length : Int) then (if (strOfNums t430).toList = (strOfNums l0).toList then (some ((t447 == 30) == (a2 != 0))) else (some false)) else (some false)) else (some false)) = some r := by rw [if_pos rfl] at H; exact H
                    clear H
                    have H := H1
                    clear H1
                    by_cases c25 : t434 = 0
                    · rw [if_pos c25] at H
                      have c25b0 : (t434 == 0) = true := beq_iff_eq.mpr c25
                      have c25b1 : (t434 != 0) = false := bne_eq_false_iff_eq.mpr c25
                      clear c25
                      by_cases c26 : t433 = (t425.length : Int)
                      · rw [if_pos c26] at H
                        have c26b0 : (t433 == (t425.length : Int)) = true := beq_iff_eq.mpr c26
                        have c26b1 : (t433 != (t425.length : Int)) = false := bne_eq_false_iff_eq.mpr c26
                        clear c26
                        by_cases c27 : (strOfNums t430).toList = (strOfNums l0).toList
                        · rw [if_pos c27] at H
                          have c27b0 : ((strOfNums t430).toList == (strOfNums l0).toList) = true := beq_iff_eq.mpr c27
                          have c27b1 : ((strOfNums t430).toList != (strOfNums l0).toList) = false := bne_eq_false_iff_eq.mpr c27
                          clear c27
                          obtain rfl := Option.some.inj H
                          obtain ⟨Ao28, co28, eo28⟩ := Kd.R_slice HO_8.out
                          subst eo28
                          go_wp2_with (first | ((with_reducible refine gate_callee (f := 11) rfl ?_); refine goesL_ (some 46) rfl rfl Try.func11 (by kernel_rfl) rfl #[.slice Ao28 t425.length co28] rfl (by (try simp only [List.map_toArray, List.map_cons, List.map_nil]); first | done | rfl | (simp only [List.length_drop, List.length_take]; rfl)) ?_; (with_reducible refine (frame_Read.calls _ _ t425 t430 t433 t434 _ ?side1 ?side2 A16.out).mono ?_); (case side1 => repeat (first | exact (Kd.R_reads' HO_8.out).2.2 | (with_reducible refine Kd.C_alloc ?_ _) | (with_reducible refine Kd.C_drewN ?_ _) | (with_reducible refine Kd.C_drew ?_))); (case side2 => exact (Kd.R_reads' HO_8.out).2.1); rintro e w29 ⟨v431, rfl, ho0, hb⟩; refine ⟨_, rfl, ?_⟩; have n0_ := Aside0.mk (Kd.R_below (by (with_reducible repeat (first | apply Kd.R_alloc | apply Kd.R_drewN | apply Kd.R_drew)); exact HO_8.out) hb); have n1_ := Aside0.mk (Kd.V_lower (Kd.V_mono (ok' := fun k_ => some k_ ≠ (.slice Ao28 t425.length co28 : Value).ownBlock) ho0 (fun k_ hk_ => (Kd.fresh' (Kd.R_lt (by (with_reducible repeat (first | apply Kd.R_alloc | apply Kd.R_drewN | apply Kd.R_drew)); exact HO_8.out)) k_ hk_))) (below_size (by repeat (first | (with_reducible first | exact HB.out | apply below_alloc | apply pw_below_drewN | apply below_drew1) | exact HB.out)))); have n2_ := Aside0.mk (below_step (by repeat (first | (with_reducible first | exact HB.out | apply below_alloc | apply pw_below_drewN | apply below_drew1) | exact HB.out)) hb); clear HO_8; clear HB; have HO_8 := n0_; have HO432 := n1_; have HB := n2_; clear n0_ n1_ n2_; (try clear hb); (try clear hb2); (try clear hk); (try clear hi); (try clear ho0)) | ((with_reducible refine gate_dst (N := 58) rfl ?_); (try (refine gate_guard (by rfl) ?_; dsimp only)); refine Kd.R_lit (Kd.int .u8) _ 5 ?hg (N := 58) ?hd (xs := ([] : List Int)) (inner := []) (ok := fun _ => True) (okp := fun _ => True) ?hr ?hp (fun _ hk => hk) trivial (Below.refl _ _) (Nat.le_refl _) (by simp) ?_; (case hd => rfl); (case hg => rfl); (case hr => first | (go_simp; done) | (go_simp; rfl)); (case hp => exact (Reps.none _ _)); intro v436 w30 ho31 hb hg_ hnew_; clear hg_ hnew_; (first | rw [← Ny435.out] at ho31 | (simp only [Int.reduceToNat] at ho31; rw [← Ny435.out] at ho31)); have n0_ := Aside0.mk (Kd.R_elder' (by (with_reducible repeat (first | apply Kd.R_alloc | apply Kd.R_drewN | apply Kd.R_drew)); exact HO_8.out) (Kd.R_base ho31) hb); have n1_ := Aside0.mk (Kd.V_elder' (by (with_reducible repeat (first | apply Kd.V_alloc | apply Kd.V_drewN | apply Kd.V_drew)); exact HO432.out) (Kd.R_base ho31) hb); have n2_ := Aside0.mk (Kd.R_lower (Kd.R_new' ho31 (Kd.R_lt (by (with_reducible repeat (first | apply Kd.R_alloc | apply Kd.R_drewN | apply Kd.R_drew)); exact HO_8.out))) (below_size (by repeat (first | (with_reducible first | exact HB.out | apply below_alloc | apply pw_below_drewN | apply below_drew1) | exact HB.out)))); have n3_ := Aside0.mk (below_step (by repeat (first | (with_reducible first | exact HB.out | apply below_alloc | apply pw_below_drewN | apply below_drew1) | exact HB.out)) hb); clear HO_8; clear HO432; clear HB; have HO_8 := n0_; have HO432 := n1_; have HO437 := n2_; have HB := n3_; clear n0_ n1_ n2_ n3_; clear hb ho31) | ((with_reducible refine gate_builtin (b := .append) (xs := #[.tmp 58, .tmp 59]) rfl ?_); (try (refine gate_guard (by rfl) ?_; dsimp only)); at_builtin; refine Kd.R_append_rows (Kd.int .u8) (w0 := w) w.heap.size rfl (.tmp 58) (.tmp 59) 22 5 (.int .u8 0) 1 rfl Try.underlying22 info5 rfl (by decide) (by omega) v436 y435 t425 _ _ _ (fun k_ => some k_ ≠ (.slice Ao28 t425.length co28 : Value).ownBlock) (fun _ => False) rfl rfl ?aO ?aR (fun _ _ h => h) (fun _ h => h.elim) ?aF ?aB ?aS ?aL ?_; (case aR => repeat (first | exact (Kd.R_reads' HO_8.out).2.2 | (with_reducible refine Kd.C_alloc ?_ _) | (with_reducible refine Kd.C_drewN ?_ _) | (with_reducible refine Kd.C_drew ?_))); (case aB => exact (by repeat (first | (with_reducible first | exact HB.out | apply below_alloc | apply pw_below_drewN | apply below_drew1) | exact HB.out))); (case aF => exact (fun k_ hk => Kd.fresh' (Kd.R_lt (by (with_reducible repeat (first | apply Kd.R_alloc | apply Kd.R_drewN | apply Kd.R_drew)); exact HO_8.out)) k_ hk)); (case aO => exact (by (with_reducible repeat (first | apply Kd.R_alloc | apply Kd.R_drewN | apply Kd.R_drew)); exact Kd.R_mono HO437.out (fun _ hk => hk.2))); (case aS => exact (below_size (by repeat (first | (with_reducible first | exact HB.out | apply below_alloc | apply pw_below_drewN | apply below_drew1) | exact HB.out)))); (case aL => have := LMc18.out; omega); intro v439 w32 ho hb hg hat; rw [← Ny438.out] at ho; have n0_ := Aside0.mk (Kd.R_after (ok := (fun _ => True)) (by (with_reducible repeat (first | apply Kd.R_alloc | apply Kd.R_drewN | apply Kd.R_drew)); exact HO_8.out) hg hat); have n1_ := Aside0.mk (Kd.V_afterv (ok := (fun k_ => some k_ ≠ (.slice Ao28 t425.length co28 : Value).ownBlock)) (by (with_reducible repeat (first | apply Kd.V_alloc | apply Kd.V_drewN | apply Kd.V_drew)); exact HO432.out) hg hat); have n2_ := Aside0.mk (hb); have n3_ := Aside0.mk (ho); clear HO_8; clear HO432; clear HB; clear HO437; have HO_8 := n0_; have HO432 := n1_; have HB := n2_; have HO440 := n3_; clear n0_ n1_ n2_ n3_; clear ho hb hg hat; obtain ⟨Ao33, co33, eo33⟩ := Kd.R_slice HO440.out; subst eo33; have p441 : 0 ≤ ((ji19) : Int) := of_decide_eq_true (by first | (with_reducible assumption) | assumption); have q441 : (ji19) < (y438.length : Int) := of_decide_eq_true (by first | (with_reducible assumption) | assumption); obtain ⟨ad441, e441, hx441_0⟩ := Kd.at_int (Kd.R_reads' HO440.out).2.2 (ji19) p441 q441; cases e441; replace p441 := eq_true p441; replace q441 := eq_true q441; have p22 : 0 ≤ ((ji19) : Int) := of_decide_eq_true (by first | (with_reducible assumption) | assumption); have q22 : ((ji19) : Int) < ((y438.length : Int) : Int) := of_decide_eq_true (by first | (with_reducible assumption) | assumption); obtain ⟨go22, co22, eo22, gb22, gl22, cl22, HG22⟩ := Kd.R_form HO440.out (by omega); (first | cases eo22 | (injection eo22 with ea_ en_ ec_; (first | subst ea_ | (injection ea_ with ea_; subst ea_)); subst ec_; clear en_)); have GB22 := Aside0.mk gb22; have GG22 := Aside0.mk HG22; clear gb22 gl22 HG22; (first | simp only [add_plain] at hx441_0 | skip); obtain ⟨hx22_0, hf22_0⟩ := Kd.R_celln 0 HO440.out ((ji19) : Int) p22 q22; replace p22 := eq_true p22; replace q22 := eq_true q22; obtain ⟨hy34_, hz34_⟩ := Kd.R_celln 0 HO440.out ((ji19) : Int) (of_decide_eq_true (by first | (with_reducible assumption) | assumption)) (of_decide_eq_true (by first | (with_reducible assumption) | assumption)); have HP34 := Kd.R_putg HO440.out ((ji19) : Int) (Go.bits .xor .u8 (rd y438 (ji19)) a2)) | ((with_reducible refine gate_store (t := 5) (p := 69) rfl ?_); refine store_event (t := 5) (p := 69) (v := ?vo_w35) (w1 := (w32.setCell ⟨go22, ((ji19) : Int).toNat, none⟩ (.int .u8 (Go.bits .xor .u8 (rd y438 (ji19)) a2)))) ?hg ?ho ?hn ?hr ?_; (case ho => rfl); (case hg => rfl); (case hn => rfl); (case hr => first | (go_simp; done) | (go_simp; rfl)); intro w35 hw; have hg : w32.grownBy w35 (some go22) := (by rw [hw]; exact HP34.2); have hp_ : Kd.R (Kd.int .u8) 5 w35 w.heap.size (fun k_ => some k_ ≠ (.slice Ao28 t425.length co28 : Value).ownBlock) (.slice (some ⟨go22, 0, none⟩) y438.length co33) y442 := (by rw [hw, Ny442.out]; exact HP34.1); clear HP34; have n0_ := Aside0.mk (Kd.R_after (v := (.slice (some ⟨go22, 0, none⟩) y438.length co33)) (v1 := (.slice (some ⟨go22, 0, none⟩) y438.length co33)) (ok := (fun _ => True)) (by (with_reducible repeat (first | apply Kd.R_alloc | apply Kd.R_drewN | apply Kd.R_drew)); exact HO_8.out) hg (.inl rfl)); have n1_ := Aside0.mk (Kd.V_afterv (v := (.slice (some ⟨go22, 0, none⟩) y438.length co33)) (v1 := (.slice (some ⟨go22, 0, none⟩) y438.length co33)) (ok := (fun k_ => some k_ ≠ (.slice Ao28 t425.length co28 : Value).ownBlock)) (by (with_reducible repeat (first | apply Kd.V_alloc | apply Kd.V_drewN | apply Kd.V_drew)); exact HO432.out) hg (.inl rfl)); have n2_ := Aside0.mk (hp_); have n3_ := Aside0.mk ((by rw [hw]; exact below_set (HB.out) GB22.out : Below w.heap.size w w35)); clear HO_8; clear HO432; clear HO440; clear HB; have HO_8 := n0_; have HO432 := n1_; have HO440 := n2_; have HB := n3_; clear n0_ n1_ n2_ n3_; clear hg hw hp_) | ((with_reducible refine gate_callee (f := 11) rfl ?_); refine goesL_ (some 72) rfl rfl Try.func11 (by kernel_rfl) rfl #[.slice (some ⟨go22, 0, none⟩) y442.length co33] rfl (by (try simp only [List.map_toArray, List.map_cons, List.map_nil]); first | done | (rw [show y442.length = y438.length from (Kd.R_reads' HO440.out).1.symm] <;> rfl) | rfl | (simp only [List.length_drop, List.length_take]; rfl)) ?_; (with_reducible refine (frame_Read.calls _ _ y442 t443 t446 t447 _ ?side1 ?side2 A23.out).mono ?_); (case side1 => repeat (first | exact (Kd.R_reads' HO440.out).2.2 | (with_reducible refine Kd.C_alloc ?_ _) | (with_reducible refine Kd.C_drewN ?_ _) | (with_reducible refine Kd.C_drew ?_))); (case side2 => rw [show y442.length = y438.length from (Kd.R_reads' HO440.out).1.symm]; exact (Kd.R_reads' HO440.out).2.1); rintro e w36 ⟨v444, rfl, ho0, hb⟩; refine ⟨_, rfl, ?_⟩; have n0_ := Aside0.mk (Kd.R_below (by (with_reducible repeat (first | apply Kd.R_alloc | apply Kd.R_drewN | apply Kd.R_drew)); exact HO_8.out) hb); have n1_ := Aside0.mk (Kd.V_below (by (with_reducible repeat (first | apply Kd.V_alloc | apply Kd.V_drewN | apply Kd.V_drew)); exact HO432.out) hb); have n2_ := Aside0.mk (Kd.R_below (by (with_reducible repeat (first | apply Kd.R_alloc | apply Kd.R_drewN | apply Kd.R_drew)); exact HO440.out) hb); have n3_ := Aside0.mk (Kd.V_lower (Kd.V_mono (ok' := fun k_ => some k_ ≠ (.slice Ao28 t425.length co28 : Value).ownBlock ∧ some k_ ≠ (.slice (some ⟨go22, 0, none⟩) y438.length co33 : Value).ownBlock) ho0 (fun k_ hk_ => ⟨(Kd.fresh' (Kd.R_lt (by (with_reducible repeat (first | apply Kd.R_alloc | apply Kd.R_drewN | apply Kd.R_drew)); exact HO_8.out)) k_ hk_), (Kd.fresh' (Kd.R_lt (by (with_reducible repeat (first | apply Kd.R_alloc | apply Kd.R_drewN | apply Kd.R_drew)); exact HO440.out)) k_ hk_)⟩)) (below_size (by repeat (first | (with_reducible first | exact HB.out | apply below_alloc | apply pw_below_drewN | apply below_drew1) | exact HB.out)))); have n4_ := Aside0.mk (below_step (by repeat (first | (with_reducible first | exact HB.out | apply below_alloc | apply pw_below_drewN | apply below_drew1) | exact HB.out)) hb); clear HO_8; clear HO432; clear HO440; clear HB; have HO_8 := n0_; have HO432 := n1_; have HO440 := n2_; have HO445 := n3_; have HB := n4_; clear n0_ n1_ n2_ n3_ n4_; (try clear hb); (try clear hb2); (try clear hk); (try clear hi); (try clear ho0); obtain ⟨Ao37, co37, eo37⟩ := Kd.V_slice HO432.out; subst eo37; have hcv38 := Kd.C_string (P := Try.prog) (A := Ao37) (c := co37) Try.underlying22 Try.underlying5 Try.underlying9 (Kd.V_reads' HO432.out).2.2; have hcv39 := Kd.C_string (P := Try.prog) (A := A0) (c := c0) Try.underlying22 Try.underlying5 Try.underlying9 (Kd.C_below HR0.out HB.out)))
                          go_ret
                          exact ⟨by first | rfl | (simp [errW_none, errW_some] <;> rfl) | (simp only [← hji19]; first | rfl | (simp [errW_none, errW_some] <;> rfl)) | (simp [*, errW_none, errW_some] <;> rfl), by repeat (first | (with_reducible first | exact HB.out | apply below_alloc | apply pw_below_drewN | apply below_drew1) | exact HB.out)⟩
                        · rw [if_neg c27] at H
                          rw [HTr_] at H
                          exact absurd (Option.some.inj H) (by decide)
                      · rw [if_neg c26] at H
                        rw [HTr_] at H
                        exact absurd (Option.some.inj H) (by decide)
                    · rw [if_neg c25] at H
                      rw [HTr_] at H
                      exact absurd (Option.some.inj H) (by decide)
                  · replace c24 := Bool.eq_false_iff.mpr c24
                    subst c24
                    have H1 : (some false) = some r := by rw [if_neg (show ¬ (false = true) by decide)] at H; exact H
                    rw [HTr_] at H1
                    exact absurd (Option.some.inj H1) (by decide)
                · rw [if_neg c21] at H
                  exact absurd H (by simp)
              · rw [if_neg c20] at H
                exact absurd H (by simp)
            · rw [if_neg c18] at H
              exact absurd H (by simp)

/-- THE ONE PURE STATEMENT of banksmanlaw03_FrameSizes: yours. -/
def banksmanlaw03_FrameSizes.Pure : Prop := ∀ (l0 : List Int) (a1 : Int) (a2 : Int), l0.length ≤ maxLen → l0.length * 1 ≤ 140737488351232 → (∀ x ∈ l0, (Lit.int .u8 x).wf = true) → (Lit.int .u16 a1).wf = true → (Lit.int .u8 a2).wf = true → ∃ k, banksmanlaw03_FrameSizes.f k l0 a1 a2 = some true
theorem banksmanlaw03_FrameSizes.walk (P : banksmanlaw03_FrameSizes.Pure) (a0 : Option Addr) (len0 cap0 : Nat) (z0 : List Int) (a1 : Int) (a2 : Int) (w : World) (w0 : (a0 = none ∧ len0 = 0 ∧ cap0 = 0 ∧ z0 = []) ∨ ∃ x, a0 = some x ∧ len0 ≤ cap0 ∧ cap0 ≤ maxLen ∧ z0.length = cap0 ∧ (∀ i, i < z0.length → w.cell? (x.add i) = some (.int .u8 (z0.getD i 0))) ∧ ∀ n ∈ z0, (Lit.int .u8 n).wf = true) (y0 : len0 * 1 ≤ 140737488351232) (w1 : (Lit.int .u16 a1).wf = true) (w2 : (Lit.int .u8 a2).wf = true) :
    Calls Try.prog 7 #[.slice a0 len0 cap0, .int .u16 a1, .int .u8 a2] w fun e w' => e = .returned (.bool true) ∧ Below w.heap.size w w' := by
  obtain ⟨l0, rfl, hr0, hm0, hw0, hc0⟩ := ReadsInt.ofRowC w0
  obtain ⟨k, h⟩ := P l0 a1 a2 hm0 y0 hw0 w1 w2
  refine (banksmanlaw03_FrameSizes.calls k _ _ l0 a1 a2 true w (Kd.C_of_reads (d := (0 : Int)) (h1 := fun _ => rfl) hr0) hc0 h rfl).mono ?_
  rintro e w' ⟨rfl, hd⟩
  exact ⟨rfl, hd⟩

end Go.Proofs.Ytficgggfplejpaa.P
