-- Written by wip/gprint.py, a program of this session over the kit's print; Lean checks it.
import Derived.Test.YtfbjabpjfalmlaaPx0
import Derived.Test.YtfbjabpjfalmlaaPx1
import Derived.Test.YtfbjabpjfalmlaaPx30
import Derived.Test.YtfbjabpjfalmlaaPx31
import Derived.Test.YtfbjabpjfalmlaaPx34
namespace Go.Proofs.Ytfbjabpjfalmlaa.P
open Go.RowKit Go.Proofs.YtfbjabpjfalmlaaW.PrintWords Go.Proofs.YtfbjabpjfalmlaaW.PrintLast Go.Proofs.YtfbjabpjfalmlaaW.PrintMore
attribute [local go_sem] max2_int min2_int max_two min_two max_three min_three max_four min_four   -- for this text's walks alone
set_option linter.unusedVariables false
set_option linter.unusedSimpArgs false

/-! ### banksmanlaw21_WireAgain: function 6 -/
def banksmanlaw21_WireAgain.j0 : Nat → List Int → List Int → Bool → Bool → Option (Bool)
  | 0, _, _, _, _ => none
  | k + 1, x0, x1, x5, x26 => if x26 = true then (some x5) else ((wire_Read.f x0).bind fun bt604 => ((wire_Write.f bt604.1 bt604.2.1 bt604.2.2.1 bt604.2.2.2.1 bt604.2.2.2.2.1 bt604.2.2.2.2.2.1 bt604.2.2.2.2.2.2.1 bt604.2.2.2.2.2.2.2.1).bind fun bt620 => ((wire_Tell.f x1).bind fun bt624 => ((wire_Told.f bt624.1 bt624.2.1 bt624.2.2.1 bt624.2.2.2.1).bind fun bt637 => (if bt604.2.2.2.2.2.2.2.2 = 0 then (if bt620.2 = 0 then (if bt624.2.2.2.2.2 = 0 then (if bt637.2 = 0 then ((some (([] : List Int) : List Int)).bind fun y641 => (if y641.length + bt637.1.length < 140737488355328 then ((some (y641 ++ bt637.1 : List Int)).bind fun y644 => (if y644.length + bt624.2.2.2.2.1.length < 140737488355328 then (if x5 = true then (if (strOfNums bt620.1).toList = (strOfNums x0).toList then (some ((strOfNums (y644 ++ bt624.2.2.2.2.1)).toList == (strOfNums x1).toList)) else (some false)) else (some false)) else (none))) else (none))) else (if x5 = true then (if (strOfNums bt620.1).toList = (strOfNums x0).toList then (some false) else (some false)) else (some false))) else (if x5 = true then (if (strOfNums bt620.1).toList = (strOfNums x0).toList then (some true) else (some false)) else (some false))) else (if bt624.2.2.2.2.2 = 0 then (if bt637.2 = 0 then ((some (([] : List Int) : List Int)).bind fun y650 => (if y650.length + bt637.1.length < 140737488355328 then (if (y650 ++ bt637.1).length + bt624.2.2.2.2.1.length < 140737488355328 then (if x5 = true then (some false) else (some false)) else (none)) else (none))) else (if x5 = true then (some false) else (some false))) else (if x5 = true then (some false) else (some false)))) else (if bt624.2.2.2.2.2 = 0 then (if bt637.2 = 0 then ((some (([] : List Int) : List Int)).bind fun y659 => (if y659.length + bt637.1.length < 140737488355328 then ((some (y659 ++ bt637.1 : List Int)).bind fun y662 => (if y662.length + bt624.2.2.2.2.1.length < 140737488355328 then (if x5 = true then (some ((strOfNums (y662 ++ bt624.2.2.2.2.1)).toList == (strOfNums x1).toList)) else (some false)) else (none))) else (none))) else (if x5 = true then (some false) else (some false))) else (if x5 = true then (some true) else (some false))))))))
def banksmanlaw21_WireAgain.f (k : Nat) (l0 : List Int) (l1 : List Int) : Option (Bool) := (banksmanlaw21_awake.f k).bind fun t603 => (if (l0.length : Int) > 500 then (banksmanlaw21_WireAgain.j0 k l0 l1 t603 true) else (banksmanlaw21_WireAgain.j0 k l0 l1 t603 (decide ((l1.length : Int) > 500))))
theorem banksmanlaw21_WireAgain.mono_l : ∀ k, (∀ y0 y1 y2 y3, LeO (banksmanlaw21_WireAgain.j0 k y0 y1 y2 y3) (banksmanlaw21_WireAgain.j0 (k + 1) y0 y1 y2 y3))
  | 0 => fun _ _ _ _ r h => by simp [banksmanlaw21_WireAgain.j0] at h
  | k + 1 => by
    have ih0 := banksmanlaw21_WireAgain.mono_l k
    · intro y0 y1 y2 y3
      unfold banksmanlaw21_WireAgain.j0
      repeat' first
      | (with_reducible exact ih0 _ _ _ _)
      | (with_reducible exact banksmanlaw21_awake.mono _)
      | (with_reducible exact LeO.refl _)
      | (with_reducible exact LeO.none _)
      | (with_reducible refine LeO.ite ?_ ?_)
      | (with_reducible refine LeO.bind ?_ (fun _ => ?_))
      | exact ih0 _ _ _ _
      | exact banksmanlaw21_awake.mono _
      | exact LeO.none _
      | refine LeO.ite ?_ ?_
      | refine LeO.bind ?_ (fun _ => ?_)
def banksmanlaw21_WireAgain.T9 : Bool × List (List Nat × List Nat) := (true, [([], []), ([0], [0]), ([1], [1]), ([2], [2]), ([3, 2], [2, 3]), ([4, 2, 2], [2, 4]), ([5], [5]), ([5], [5]), ([6, 7, 5, 5], [5, 6, 7]), ([5], [5]), ([8, 9, 8, 5], [5, 8, 9]), ([10, 5], [5, 10]), ([5], [5]), ([12, 5], [5, 12]), ([11, 13, 5], [5, 11, 13]), ([5, 14, 2], [2, 5, 14]), ([2, 15], [2, 15]), ([16, 10, 0, 1, 2, 3, 4, 5, 6, 7, 8, 9, 10, 11, 12, 13, 14, 15, 16], [16])])
def banksmanlaw21_WireAgain.B9 : List Nat := [0, 1, 3, 7, 15, 31, 63, 63, 255, 63, 1023, 2047, 63, 4159, 16383, 32767, 65535, 131071]
theorem banksmanlaw21_WireAgain.tab9 : rtab .any (opsOf Try.f6 9) = banksmanlaw21_WireAgain.T9 := by kernel_rfl
theorem banksmanlaw21_WireAgain.bits9 : waitsOk banksmanlaw21_WireAgain.T9.2 banksmanlaw21_WireAgain.B9 = true := by kernel_rfl
set_option maxHeartbeats 8000000 in
set_option maxRecDepth 100000 in
theorem banksmanlaw21_WireAgain.calls (k : Nat) (A0 : Option Addr) (c0 : Nat) (l0 : List Int) (A1 : Option Addr) (c1 : Nat) (l1 : List Int) (r : Bool) (w : World) (hr0 : Kd.C (Kd.int .u8) w A0 l0.length l0) (hc0 : l0.length ≤ c0) (hr1 : Kd.C (Kd.int .u8) w A1 l1.length l1) (hc1 : l1.length ≤ c1) (h : banksmanlaw21_WireAgain.f k l0 l1 = some r) (HTr_ : r = true) :
    Calls Try.prog 6 #[.slice A0 l0.length c0, .slice A1 l1.length c1] w fun e w' => e = .returned (.bool r) ∧ Below w.heap.size w w' := by
  have hu24 := Try.underlying24
  have hu36 := Try.underlying36
  have HR0 := Aside0.mk hr0
  have HC0 := Aside0.mk hc0
  clear hr0 hc0
  have HR1 := Aside0.mk hr1
  have HC1 := Aside0.mk hc1
  clear hr1 hc1
  have HB := Aside0.mk (Below.refl w.heap.size w)
  have H : ((banksmanlaw21_awake.f k).bind fun t603 => (if (l0.length : Int) > 500 then (banksmanlaw21_WireAgain.j0 k l0 l1 t603 true) else (banksmanlaw21_WireAgain.j0 k l0 l1 t603 (decide ((l1.length : Int) > 500))))) = some r := h
  clear h
  replace H := Option.bind_eq_some_iff.mp H
  obtain ⟨t603, A30, H⟩ := H
  replace H : (if (l0.length : Int) > 500 then (banksmanlaw21_WireAgain.j0 k l0 l1 t603 true) else (banksmanlaw21_WireAgain.j0 k l0 l1 t603 (decide ((l1.length : Int) > 500)))) = some r := H
  have A3 := Aside0.mk A30
  clear A30
  have HC4 := Aside0.mk H
  clear H
  go_enter Try.func6, Try.ntmps6
  go_upto_region 2 with (first | ((with_reducible refine gate_callee (f := 8) rfl ?_); refine goesL_ (some 18) rfl rfl Try.func8 (by kernel_rfl) rfl #[] rfl (by (try simp only [List.map_toArray, List.map_cons, List.map_nil]); first | done | rfl | (simp only [List.length_drop, List.length_take]; rfl)) ?_; (with_reducible refine (banksmanlaw21_awake.calls k  t603 _ A3.out).mono ?_); rintro e w5 ⟨rfl, hb⟩; refine ⟨_, rfl, ?_⟩; have n0_ := Aside0.mk (below_step (by repeat (first | (with_reducible first | exact HB.out | apply below_alloc | apply pw_below_drewN | apply below_drew1) | exact HB.out)) hb); clear HB; have HB := n0_; clear n0_; (try clear hb); (try clear hb2); (try clear hk); (try clear hi)))
  (try simp only [Act.put, List.setIfInBounds_toArray, List.set_cons_zero, List.set_cons_succ])
  go_cut [26] (fun v26 wc => ∃ (kq : Nat) (x26_3 : Bool), v26 = .bool x26_3 ∧ Aside0 (banksmanlaw21_WireAgain.j0 kq l0 l1 t603 x26_3 = some r) ∧ Aside0 (kq ≤ k) ∧ Aside0 (Below w.heap.size w wc))
  case first =>
    have H := HC4.out
    clear HC4
    by_cases c6 : (l0.length : Int) > 500
    · rw [if_pos c6] at H
      have c6b0 : decide (500 < (l0.length : Int)) = true := decide_eq_true c6
      have c6b1 : decide (500 < l0.length) = true := decide_eq_true (by omega)
      clear c6
      (first | rw [c6b0] | (simp only [i64_w, i32_w]; rw [c6b0]) | skip)
      have H' := Aside0.mk H
      clear H
      go_wp2
      go_meet
      case rel => exact ⟨_, (true), (by first | rfl | (simp; done) | (simp [*]; done)), H', ⟨by first | omega | exact Nat.le_refl _⟩, ⟨by repeat (first | (with_reducible first | exact HB.out | apply below_alloc | apply pw_below_drewN | apply below_drew1) | exact HB.out)⟩⟩
    · rw [if_neg c6] at H
      have c6b0 : decide (500 < (l0.length : Int)) = false := decide_eq_false c6
      have c6b1 : decide (500 < l0.length) = false := decide_eq_false (by omega)
      clear c6
      (first | rw [c6b0] | (simp only [i64_w, i32_w]; rw [c6b0]) | skip)
      have H' := Aside0.mk H
      clear H
      go_wp2
      go_meet
      case rel => exact ⟨_, (decide ((l1.length : Int) > 500)), (by first | rfl | (simp; done) | (simp [*]; done)), H', ⟨by first | omega | exact Nat.le_refl _⟩, ⟨by repeat (first | (with_reducible first | exact HB.out | apply below_alloc | apply pw_below_drewN | apply below_drew1) | exact HB.out)⟩⟩
  case rest =>
    clear HC4
    try clear c1
    try clear p2
    try clear c6
    try clear c6b0
    try clear c6b1
    obtain ⟨kq, x26_3, rfl, HA, HJ3, HB⟩ := hcut
    cases kq with
    | zero => exact absurd HA.out (by simp [banksmanlaw21_WireAgain.j0])
    | succ kj3 =>
      have H := HA.out
      clear HA
      simp only [banksmanlaw21_WireAgain.j0] at H
      by_cases c7 : x26_3 = true
      · subst c7
        have H1 : (some t603) = some r := by rw [if_pos rfl] at H; exact H
        clear H
        have H := H1
        clear H1
        obtain rfl := Option.some.inj H
        go_wp2
        go_ret
        exact ⟨by first | rfl | (simp [errW_none, errW_some] <;> rfl) | (simp [*, errW_none, errW_some] <;> rfl), by repeat (first | (with_reducible first | exact HB.out | apply below_alloc | apply pw_below_drewN | apply below_drew1) | exact HB.out)⟩
      · replace c7 := Bool.eq_false_iff.mpr c7
        subst c7
        have H1 : ((wire_Read.f l0).bind fun bt604 => ((wire_Write.f bt604.1 bt604.2.1 bt604.2.2.1 bt604.2.2.2.1 bt604.2.2.2.2.1 bt604.2.2.2.2.2.1 bt604.2.2.2.2.2.2.1 bt604.2.2.2.2.2.2.2.1).bind fun bt620 => ((wire_Tell.f l1).bind fun bt624 => ((wire_Told.f bt624.1 bt624.2.1 bt624.2.2.1 bt624.2.2.2.1).bind fun bt637 => (if bt604.2.2.2.2.2.2.2.2 = 0 then (if bt620.2 = 0 then (if bt624.2.2.2.2.2 = 0 then (if bt637.2 = 0 then ((some (([] : List Int) : List Int)).bind fun y641 => (if y641.length + bt637.1.length < 140737488355328 then ((some (y641 ++ bt637.1 : List Int)).bind fun y644 => (if y644.length + bt624.2.2.2.2.1.length < 140737488355328 then (if t603 = true then (if (strOfNums bt620.1).toList = (strOfNums l0).toList then (some ((strOfNums (y644 ++ bt624.2.2.2.2.1)).toList == (strOfNums l1).toList)) else (some false)) else (some false)) else (none))) else (none))) else (if t603 = true then (if (strOfNums bt620.1).toList = (strOfNums l0).toList then (some false) else (some false)) else (some false))) else (if t603 = true then (if (strOfNums bt620.1).toList = (strOfNums l0).toList then (some true) else (some false)) else (some false))) else (if bt624.2.2.2.2.2 = 0 then (if bt637.2 = 0 then ((some (([] : List Int) : List Int)).bind fun y650 => (if y650.length + bt637.1.length < 140737488355328 then (if (y650 ++ bt637.1).length + bt624.2.2.2.2.1.length < 140737488355328 then (if t603 = true then (some false) else (some false)) else (none)) else (none))) else (if t603 = true then (some false) else (some false))) else (if t603 = true then (some false) else (some false)))) else (if bt624.2.2.2.2.2 = 0 then (if bt637.2 = 0 then ((some (([] : List Int) : List Int)).bind fun y659 => (if y659.length + bt637.1.length < 140737488355328 then ((some (y659 ++ bt637.1 : List Int)).bind fun y662 => (if y662.length + bt624.2.2.2.2.1.length < 140737488355328 then (if t603 = true then (some ((strOfNums (y662 ++ bt624.2.2.2.2.1)).toList == (strOfNums l1).toList)) else (some false)) else (none))) else (none))) else (if t603 = true then (some false) else (some false))) else (if t603 = true then (some true) else (some false)))))))) = some r := by rw [if_neg (show ¬ (false = true) by decide)] at H; exact H
        clear H
        have H := H1
        clear H1
        replace H := Option.bind_eq_some_iff.mp H
        obtain ⟨⟨t604, t605, t606, t607, t610, t613, t614, t617, t618⟩, A80, H⟩ := H
        replace H : ((wire_Write.f t604 t605 t606 t607 t610 t613 t614 t617).bind fun bt620 => ((wire_Tell.f l1).bind fun bt624 => ((wire_Told.f bt624.1 bt624.2.1 bt624.2.2.1 bt624.2.2.2.1).bind fun bt637 => (if t618 = 0 then (if bt620.2 = 0 then (if bt624.2.2.2.2.2 = 0 then (if bt637.2 = 0 then ((some (([] : List Int) : List Int)).bind fun y641 => (if y641.length + bt637.1.length < 140737488355328 then ((some (y641 ++ bt637.1 : List Int)).bind fun y644 => (if y644.length + bt624.2.2.2.2.1.length < 140737488355328 then (if t603 = true then (if (strOfNums bt620.1).toList = (strOfNums l0).toList then (some ((strOfNums (y644 ++ bt624.2.2.2.2.1)).toList == (strOfNums l1).toList)) else (some false)) else (some false)) else (none))) else (none))) else (if t603 = true then (if (strOfNums bt620.1).toList = (strOfNums l0).toList then (some false) else (some false)) else (some false))) else (if t603 = true then (if (strOfNums bt620.1).toList = (strOfNums l0).toList then (some true) else (some false)) else (some false))) else (if bt624.2.2.2.2.2 = 0 then (if bt637.2 = 0 then ((some (([] : List Int) : List Int)).bind fun y650 => (if y650.length + bt637.1.length < 140737488355328 then (if (y650 ++ bt637.1).length + bt624.2.2.2.2.1.length < 140737488355328 then (if t603 = true then (some false) else (some false)) else (none)) else (none))) else (if t603 = true then (some false) else (some false))) else (if t603 = true then (some false) else (some false)))) else (if bt624.2.2.2.2.2 = 0 then (if bt637.2 = 0 then ((some (([] : List Int) : List Int)).bind fun y659 => (if y659.length + bt637.1.length < 140737488355328 then ((some (y659 ++ bt637.1 : List Int)).bind fun y662 => (if y662.length + bt624.2.2.2.2.1.length < 140737488355328 then (if t603 = true then (some ((strOfNums (y662 ++ bt624.2.2.2.2.1)).toList == (strOfNums l1).toList)) else (some false)) else (none))) else (none))) else (if t603 = true then (some false) else (some false))) else (if t603 = true then (some true) else (some false))))))) = some r := H
        have A8 := Aside0.mk A80
        clear A80
        replace H := Option.bind_eq_some_iff.mp H
        obtain ⟨⟨t620, t623⟩, A90, H⟩ := H
        replace H : ((wire_Tell.f l1).bind fun bt624 => ((wire_Told.f bt624.1 bt624.2.1 bt624.2.2.1 bt624.2.2.2.1).bind fun bt637 => (if t618 = 0 then (if t623 = 0 then (if bt624.2.2.2.2.2 = 0 then (if bt637.2 = 0 then ((some (([] : List Int) : List Int)).bind fun y641 => (if y641.length + bt637.1.length < 140737488355328 then ((some (y641 ++ bt637.1 : List Int)).bind fun y644 => (if y644.length + bt624.2.2.2.2.1.length < 140737488355328 then (if t603 = true then (if (strOfNums t620).toList = (strOfNums l0).toList then (some ((strOfNums (y644 ++ bt624.2.2.2.2.1)).toList == (strOfNums l1).toList)) else (some false)) else (some false)) else (none))) else (none))) else (if t603 = true then (if (strOfNums t620).toList = (strOfNums l0).toList then (some false) else (some false)) else (some false))) else (if t603 = true then (if (strOfNums t620).toList = (strOfNums l0).toList then (some true) else (some false)) else (some false))) else (if bt624.2.2.2.2.2 = 0 then (if bt637.2 = 0 then ((some (([] : List Int) : List Int)).bind fun y650 => (if y650.length + bt637.1.length < 140737488355328 then (if (y650 ++ bt637.1).length + bt624.2.2.2.2.1.length < 140737488355328 then (if t603 = true then (some false) else (some false)) else (none)) else (none))) else (if t603 = true then (some false) else (some false))) else (if t603 = true then (some false) else (some false)))) else (if bt624.2.2.2.2.2 = 0 then (if bt637.2 = 0 then ((some (([] : List Int) : List Int)).bind fun y659 => (if y659.length + bt637.1.length < 140737488355328 then ((some (y659 ++ bt637.1 : List Int)).bind fun y662 => (if y662.length + bt624.2.2.2.2.1.length < 140737488355328 then (if t603 = true then (some ((strOfNums (y662 ++ bt624.2.2.2.2.1)).toList == (strOfNums l1).toList)) else (some false)) else (none))) else (none))) else (if t603 = true then (some false) else (some false))) else (if t603 = true then (some true) else (some false)))))) = some r := H
        have A9 := Aside0.mk A90
        clear A90
        replace H := Option.bind_eq_some_iff.mp H
        obtain ⟨⟨t624, t625, t626, t629, t632, t635⟩, A100, H⟩ := H
        replace H : ((wire_Told.f t624 t625 t626 t629).bind fun bt637 => (if t618 = 0 then (if t623 = 0 then (if t635 = 0 then (if bt637.2 = 0 then ((some (([] : List Int) : List Int)).bind fun y641 => (if y641.length + bt637.1.length < 140737488355328 then ((some (y641 ++ bt637.1 : List Int)).bind fun y644 => (if y644.length + t632.length < 140737488355328 then (if t603 = true then (if (strOfNums t620).toList = (strOfNums l0).toList then (some ((strOfNums (y644 ++ t632)).toList == (strOfNums l1).toList)) else (some false)) else (some false)) else (none))) else (none))) else (if t603 = true then (if (strOfNums t620).toList = (strOfNums l0).toList then (some false) else (some false)) else (some false))) else (if t603 = true then (if (strOfNums t620).toList = (strOfNums l0).toList then (some true) else (some false)) else (some false))) else (if t635 = 0 then (if bt637.2 = 0 then ((some (([] : List Int) : List Int)).bind fun y650 => (if y650.length + bt637.1.length < 140737488355328 then (if (y650 ++ bt637.1).length + t632.length < 140737488355328 then (if t603 = true then (some false) else (some false)) else (none)) else (none))) else (if t603 = true then (some false) else (some false))) else (if t603 = true then (some false) else (some false)))) else (if t635 = 0 then (if bt637.2 = 0 then ((some (([] : List Int) : List Int)).bind fun y659 => (if y659.length + bt637.1.length < 140737488355328 then ((some (y659 ++ bt637.1 : List Int)).bind fun y662 => (if y662.length + t632.length < 140737488355328 then (if t603 = true then (some ((strOfNums (y662 ++ t632)).toList == (strOfNums l1).toList)) else (some false)) else (none))) else (none))) else (if t603 = true then (some false) else (some false))) else (if t603 = true then (some true) else (some false))))) = some r := H
        have A10 := Aside0.mk A100
        clear A100
        replace H := Option.bind_eq_some_iff.mp H
        obtain ⟨⟨t637, t640⟩, A110, H⟩ := H
        replace H : (if t618 = 0 then (if t623 = 0 then (if t635 = 0 then (if t640 = 0 then ((some (([] : List Int) : List Int)).bind fun y641 => (if y641.length + t637.length < 140737488355328 then ((some (y641 ++ t637 : List Int)).bind fun y644 => (if y644.length + t632.length < 140737488355328 then (if t603 = true then (if (strOfNums t620).toList = (strOfNums l0).toList then (some ((strOfNums (y644 ++ t632)).toList == (strOfNums l1).toList)) else (some false)) else (some false)) else (none))) else (none))) else (if t603 = true then (if (strOfNums t620).toList = (strOfNums l0).toList then (some false) else (some false)) else (some false))) else (if t603 = true then (if (strOfNums t620).toList = (strOfNums l0).toList then (some true) else (some false)) else (some false))) else (if t635 = 0 then (if t640 = 0 then ((some (([] : List Int) : List Int)).bind fun y650 => (if y650.length + t637.length < 140737488355328 then (if (y650 ++ t637).length + t632.length < 140737488355328 then (if t603 = true then (some false) else (some false)) else (none)) else (none))) else (if t603 = true then (some false) else (some false))) else (if t603 = true then (some false) else (some false)))) else (if t635 = 0 then (if t640 = 0 then ((some (([] : List Int) : List Int)).bind fun y659 => (if y659.length + t637.length < 140737488355328 then ((some (y659 ++ t637 : List Int)).bind fun y662 => (if y662.length + t632.length < 140737488355328 then (if t603 = true then (some ((strOfNums (y662 ++ t632)).toList == (strOfNums l1).toList)) else (some false)) else (none))) else (none))) else (if t603 = true then (some false) else (some false))) else (if t603 = true then (some true) else (some false)))) = some r := H
        have A11 := Aside0.mk A110
        clear A110
        by_cases c12 : t618 = 0
        · rw [if_pos c12] at H
          have c12b0 : (t618 == 0) = true := beq_iff_eq.mpr c12
          have c12b1 : (t618 != 0) = false := bne_eq_false_iff_eq.mpr c12
          clear c12
          by_cases c13 : t623 = 0
          · rw [if_pos c13] at H
            have c13b0 : (t623 == 0) = true := beq_iff_eq.mpr c13
            have c13b1 : (t623 != 0) = false := bne_eq_false_iff_eq.mpr c13
            clear c13
            by_cases c14 : t635 = 0
            · rw [if_pos c14] at H
              have c14b0 : (t635 == 0) = true := beq_iff_eq.mpr c14
              have c14b1 : (t635 != 0) = false := bne_eq_false_iff_eq.mpr c14
              clear c14
              by_cases c15 : t640 = 0
              · rw [if_pos c15] at H
                have c15b0 : (t640 == 0) = true := beq_iff_eq.mpr c15
                have c15b1 : (t640 != 0) = false := bne_eq_false_iff_eq.mpr c15
                clear c15
                obtain ⟨y641, hy641⟩ : ∃ y_ : List Int, y_ = (([] : List Int)) := ⟨_, rfl⟩
                replace H : (if y641.length + t637.length < 140737488355328 then ((some (y641 ++ t637 : List Int)).bind fun y644 => (if y644.length + t632.length < 140737488355328 then (if t603 = true then (if (strOfNums t620).toList = (strOfNums l0).toList then (some ((strOfNums (y644 ++ t632)).toList == (strOfNums l1).toList)) else (some false)) else (some false)) else (none))) else (none)) = some r := by first | (rw [hy641]; with_reducible exact H) | (have H2_ := (Option.bind_some _ _).symm.trans H; rw [hy641]; with_reducible exact H2_) | (have H2_ := (Option.bind_some _ _).symm.trans H; with_reducible exact H2_) | with_reducible exact H | (rw [hy641]; exact H) | exact H
                have Ny641 := Aside0.mk hy641
                clear hy641
                by_cases c16 : y641.length + t637.length < 140737488355328
                · rw [if_pos c16] at H
                  have LMc16 := Aside0.mk c16
                  clear c16
                  obtain ⟨y644, hy644⟩ : ∃ y_ : List Int, y_ = (y641 ++ t637) := ⟨_, rfl⟩
                  replace H : (if y644.length + t632.length < 140737488355328 then (if t603 = true then (if (strOfNums t620).toList = (strOfNums l0).toList then (some ((strOfNums (y644 ++ t632)).toList == (strOfNums l1).toList)) else (some false)) else (some false)) else (none)) = some r := by first | (rw [hy644]; with_reducible exact H) | (have H2_ := (Option.bind_some _ _).symm.trans H; rw [hy644]; with_reducible exact H2_) | (have H2_ := (Option.bind_some _ _).symm.trans H; with_reducible exact H2_) | with_reducible exact H | (rw [hy644]; exact H) | exact H
                  have Ny644 := Aside0.mk hy644
                  clear hy644
                  by_cases c17 : y644.length + t632.length < 140737488355328
                  · rw [if_pos c17] at H
                    have LMc17 := Aside0.mk c17
                    clear c17
                    obtain ⟨y647, hy647⟩ : ∃ y_ : List Int, y_ = (y644 ++ t632) := ⟨_, rfl⟩
                    replace H : (if t603 = true then (if (strOfNums t620).toList = (strOfNums l0).toList then (some ((strOfNums y647).toList == (strOfNums l1).toList)) else (some false)) else (some false)) = some r := by first | (rw [hy647]; with_reducible exact H) | (have H2_ := (Option.bind_some _ _).symm.trans H; rw [hy647]; with_reducible exact H2_) | (have H2_ := (Option.bind_some _ _).symm.trans H; with_reducible exact H2_) | with_reducible exact H | (rw [hy647]; exact H) | exact H
                    have Ny647 := Aside0.mk hy647
                    clear hy647
                    by_cases c18 : t603 = true
                    · subst c18
                      have H1 : (if (strOfNums t620).toList = (strOfNums l0).toList then (some ((strOfNums y647).toList == (strOfNums l1).toList)) else (some false)) = some r := by rw [if_pos rfl] at H; exact H
                      clear H
                      have H := H1
                      clear H1
                      by_cases c19 : (strOfNums t620).toList = (strOfNums l0).toList
                      · rw [if_pos c19] at H
                        have c19b0 : ((strOfNums t620).toList == (strOfNums l0).toList) = true := beq_iff_eq.mpr c19
                        have c19b1 : ((strOfNums t620).toList != (strOfNums l0).toList) = false := bne_eq_false_iff_eq.mpr c19
                        clear c19
                        obtain rfl := Option.some.inj H
                        try go_wp2_with (first | ((with_reducible refine gate_callee (f := 12) rfl ?_); refine goesL_ (some 30) rfl rfl Try.func12 (by kernel_rfl) rfl #[.slice A0 l0.length c0] rfl (by (try simp only [List.map_toArray, List.map_cons, List.map_nil]); first | done | rfl | (simp only [List.length_drop, List.length_take]; rfl)) ?_; (with_reducible refine (wire_Read.calls _ _ l0 t604 t605 t606 t607 t610 t613 t614 t617 t618 _ ?side1 ?side2 A8.out).mono ?_); (case side1 => repeat (first | exact (Kd.C_below HR0.out HB.out) | (with_reducible refine Kd.C_alloc ?_ _) | (with_reducible refine Kd.C_drewN ?_ _) | (with_reducible refine Kd.C_drew ?_))); (case side2 => exact HC0.out); rintro e w20 ⟨v608, v611, v615, rfl, ho0, ho1, ho2, hb⟩; refine ⟨_, rfl, ?_⟩; have n0_ := Aside0.mk (Kd.V_lower (Kd.V_mono (ok' := fun k_ => True) ho0 (fun k_ hk_ => trivial)) (below_size (by repeat (first | (with_reducible first | exact HB.out | apply below_alloc | apply pw_below_drewN | apply below_drew1) | exact HB.out)))); have n1_ := Aside0.mk (Kd.V_lower (Kd.V_mono (ok' := fun k_ => True) ho1 (fun k_ hk_ => trivial)) (below_size (by repeat (first | (with_reducible first | exact HB.out | apply below_alloc | apply pw_below_drewN | apply below_drew1) | exact HB.out)))); have n2_ := Aside0.mk (Kd.V_lower (Kd.V_mono (ok' := fun k_ => True) ho2 (fun k_ hk_ => trivial)) (below_size (by repeat (first | (with_reducible first | exact HB.out | apply below_alloc | apply pw_below_drewN | apply below_drew1) | exact HB.out)))); have n3_ := Aside0.mk (below_step (by repeat (first | (with_reducible first | exact HB.out | apply below_alloc | apply pw_below_drewN | apply below_drew1) | exact HB.out)) hb); clear HB; have HO609 := n0_; have HO612 := n1_; have HO616 := n2_; have HB := n3_; clear n0_ n1_ n2_ n3_; (try clear hb); (try clear hb2); (try clear hk); (try clear hi); (try clear ho0); (try clear ho1); (try clear ho2)) | ((with_reducible refine gate_dst (N := 7) rfl ?_); (try (refine gate_guard (by rfl) ?_; dsimp only)); refine box_event ?hg (N := 7) ?hd (cs := #[.int .i64 0, .int .i64 0, .slice none 0 0, .slice none 0 0, .bool false, .slice none 0 0, .int .i64 0]) (t := 24) ?hr ?_; (case hd => rfl); (case hg => rfl); (case hr => first | (go_simp; done) | (go_simp; rfl)); intro gb619 hg w21 hbox hb; have n0_ := Aside0.mk (Kd.V_below (Kd.V_elderB (by (with_reducible repeat (first | apply Kd.V_alloc | apply Kd.V_drewN | apply Kd.V_drew)); exact HO609.out) gb619 (Nat.le_of_eq hg.symm)) hb); have n1_ := Aside0.mk (Kd.V_below (Kd.V_elderB (by (with_reducible repeat (first | apply Kd.V_alloc | apply Kd.V_drewN | apply Kd.V_drew)); exact HO612.out) gb619 (Nat.le_of_eq hg.symm)) hb); have n2_ := Aside0.mk (Kd.V_below (Kd.V_elderB (by (with_reducible repeat (first | apply Kd.V_alloc | apply Kd.V_drewN | apply Kd.V_drew)); exact HO616.out) gb619 (Nat.le_of_eq hg.symm)) hb); have n3_ := Aside0.mk (below_step (by repeat (first | (with_reducible first | exact HB.out | apply below_alloc | apply pw_below_drewN | apply below_drew1) | exact HB.out)) hb); have n4_ := Aside0.mk (hbox); have n5_ := Aside0.mk ((by rw [hg]; exact (below_size (by repeat (first | (with_reducible first | exact HB.out | apply below_alloc | apply pw_below_drewN | apply below_drew1) | exact HB.out))) : w.heap.size ≤ gb619)); have n6_ := Aside0.mk ((by rw [hg]; exact (below_size (by repeat (first | (with_reducible first | exact HB.out | apply below_alloc | apply pw_below_drewN | apply below_drew1) | exact HB.out))) : w.heap.size ≤ gb619)); clear HO609; clear HO612; clear HO616; clear HB; have HO609 := n0_; have HO612 := n1_; have HO616 := n2_; have HB := n3_; have BK619 := n4_; have GW619 := n5_; have GE619 := n6_; clear n0_ n1_ n2_ n3_ n4_ n5_ n6_; clear hb hbox hg; have hcz22_0 : w21.cell? ⟨gb619, 0, none⟩ = some (.int .i64 0) := (blk_cell BK619.out 0).trans rfl; have hcz22_1 : w21.cell? ⟨gb619, 1, none⟩ = some (.int .i64 0) := (blk_cell BK619.out 1).trans rfl; have hcz22_2 : w21.cell? ⟨gb619, 2, none⟩ = some (.slice none 0 0) := (blk_cell BK619.out 2).trans rfl; have hcz22_3 : w21.cell? ⟨gb619, 3, none⟩ = some (.slice none 0 0) := (blk_cell BK619.out 3).trans rfl; have hcz22_4 : w21.cell? ⟨gb619, 4, none⟩ = some (.bool false) := (blk_cell BK619.out 4).trans rfl; have hcz22_5 : w21.cell? ⟨gb619, 5, none⟩ = some (.slice none 0 0) := (blk_cell BK619.out 5).trans rfl; have hcz22_6 : w21.cell? ⟨gb619, 6, none⟩ = some (.int .i64 0) := (blk_cell BK619.out 6).trans rfl; have hfz22_0 := blk_frozen BK619.out 0; have hfz22_1 := blk_frozen BK619.out 1; have hfz22_2 := blk_frozen BK619.out 2; have hfz22_3 := blk_frozen BK619.out 3; have hfz22_4 := blk_frozen BK619.out 4; have hfz22_5 := blk_frozen BK619.out 5; have hfz22_6 := blk_frozen BK619.out 6; obtain ⟨Ao23, co23, eo23⟩ := Kd.V_slice HO609.out; subst eo23; obtain ⟨Ao24, co24, eo24⟩ := Kd.V_slice HO612.out; subst eo24; obtain ⟨Ao25, co25, eo25⟩ := Kd.V_slice HO616.out; subst eo25) | ((with_reducible refine gate_callee (f := 10) rfl ?_); refine goesL_ (some 37) rfl rfl Try.func10 (by kernel_rfl) rfl #[.int .i64 t604, .agg #[.int .i64 t605, .int .i64 t606, .slice Ao23 t607.length co23, .slice Ao24 t610.length co24, .bool t613, .slice Ao25 t614.length co25, .int .i64 t617]] rfl (by (try simp only [List.map_toArray, List.map_cons, List.map_nil]); first | done | rfl | (simp only [List.length_drop, List.length_take]; rfl)) ?_; (with_reducible refine (wire_Write.calls t604 t605 t606 _ _ t607 _ _ t610 t613 _ _ t614 t617 t620 t623 _ ?side1 ?side2 ?side3 ?side4 ?side5 ?side6 A9.out).mono ?_); (case side1 => refine (Kd.V_reads' (e := 5) (base := w.heap.size) (ok := fun k_ => (True ∧ k_ ≠ gb619)) (n := t607.length) (c := co23) ?_).2.2; exact (by (with_reducible repeat (first | apply Kd.V_alloc | apply Kd.V_drewN | apply Kd.V_drew)); exact (Kd.V_mono (Kd.V_far (p := ⟨gb619, 6, none⟩) (Kd.V_far (p := ⟨gb619, 5, none⟩) (Kd.V_far (p := ⟨gb619, 4, none⟩) (Kd.V_far (p := ⟨gb619, 3, none⟩) (Kd.V_far (p := ⟨gb619, 2, none⟩) (Kd.V_far (p := ⟨gb619, 1, none⟩) (Kd.V_far (p := ⟨gb619, 0, none⟩) (Kd.V_mono HO609.out (fun k_ hk => (⟨hk, hk.2⟩ : _ ∧ k_ ≠ gb619))) (fun _ hk => hk.2) (.int .i64 t605)) (fun _ hk => hk.2) (.int .i64 t606)) (fun _ hk => hk.2) (.slice Ao23 t607.length co23)) (fun _ hk => hk.2) (.slice Ao24 t610.length co24)) (fun _ hk => hk.2) (.bool t613)) (fun _ hk => hk.2) (.slice Ao25 t614.length co25)) (fun _ hk => hk.2) (.int .i64 t617)) (fun _ h_ => h_.1)))); (case side2 => exact (Kd.V_reads' HO609.out).2.1); (case side3 => refine (Kd.V_reads' (e := 5) (base := w.heap.size) (ok := fun k_ => (True ∧ k_ ≠ gb619)) (n := t610.length) (c := co24) ?_).2.2; exact (by (with_reducible repeat (first | apply Kd.V_alloc | apply Kd.V_drewN | apply Kd.V_drew)); exact (Kd.V_mono (Kd.V_far (p := ⟨gb619, 6, none⟩) (Kd.V_far (p := ⟨gb619, 5, none⟩) (Kd.V_far (p := ⟨gb619, 4, none⟩) (Kd.V_far (p := ⟨gb619, 3, none⟩) (Kd.V_far (p := ⟨gb619, 2, none⟩) (Kd.V_far (p := ⟨gb619, 1, none⟩) (Kd.V_far (p := ⟨gb619, 0, none⟩) (Kd.V_mono HO612.out (fun k_ hk => (⟨hk, hk.2⟩ : _ ∧ k_ ≠ gb619))) (fun _ hk => hk.2) (.int .i64 t605)) (fun _ hk => hk.2) (.int .i64 t606)) (fun _ hk => hk.2) (.slice Ao23 t607.length co23)) (fun _ hk => hk.2) (.slice Ao24 t610.length co24)) (fun _ hk => hk.2) (.bool t613)) (fun _ hk => hk.2) (.slice Ao25 t614.length co25)) (fun _ hk => hk.2) (.int .i64 t617)) (fun _ h_ => h_.1)))); (case side4 => exact (Kd.V_reads' HO612.out).2.1); (case side5 => refine (Kd.V_reads' (e := 5) (base := w.heap.size) (ok := fun k_ => (True ∧ k_ ≠ gb619)) (n := t614.length) (c := co25) ?_).2.2; exact (by (with_reducible repeat (first | apply Kd.V_alloc | apply Kd.V_drewN | apply Kd.V_drew)); exact (Kd.V_mono (Kd.V_far (p := ⟨gb619, 6, none⟩) (Kd.V_far (p := ⟨gb619, 5, none⟩) (Kd.V_far (p := ⟨gb619, 4, none⟩) (Kd.V_far (p := ⟨gb619, 3, none⟩) (Kd.V_far (p := ⟨gb619, 2, none⟩) (Kd.V_far (p := ⟨gb619, 1, none⟩) (Kd.V_far (p := ⟨gb619, 0, none⟩) (Kd.V_mono HO616.out (fun k_ hk => (⟨hk, hk.2⟩ : _ ∧ k_ ≠ gb619))) (fun _ hk => hk.2) (.int .i64 t605)) (fun _ hk => hk.2) (.int .i64 t606)) (fun _ hk => hk.2) (.slice Ao23 t607.length co23)) (fun _ hk => hk.2) (.slice Ao24 t610.length co24)) (fun _ hk => hk.2) (.bool t613)) (fun _ hk => hk.2) (.slice Ao25 t614.length co25)) (fun _ hk => hk.2) (.int .i64 t617)) (fun _ h_ => h_.1)))); (case side6 => exact (Kd.V_reads' HO616.out).2.1); rintro e w26 ⟨v621, rfl, ho0, hb⟩; refine ⟨_, rfl, ?_⟩; have n0_ := Aside0.mk (Kd.V_elder' (by (with_reducible repeat (first | apply Kd.V_alloc | apply Kd.V_drewN | apply Kd.V_drew)); exact (Kd.V_mono (Kd.V_far (p := ⟨gb619, 6, none⟩) (Kd.V_far (p := ⟨gb619, 5, none⟩) (Kd.V_far (p := ⟨gb619, 4, none⟩) (Kd.V_far (p := ⟨gb619, 3, none⟩) (Kd.V_far (p := ⟨gb619, 2, none⟩) (Kd.V_far (p := ⟨gb619, 1, none⟩) (Kd.V_far (p := ⟨gb619, 0, none⟩) (Kd.V_mono HO609.out (fun k_ hk => (⟨hk, hk.2⟩ : _ ∧ k_ ≠ gb619))) (fun _ hk => hk.2) (.int .i64 t605)) (fun _ hk => hk.2) (.int .i64 t606)) (fun _ hk => hk.2) (.slice Ao23 t607.length co23)) (fun _ hk => hk.2) (.slice Ao24 t610.length co24)) (fun _ hk => hk.2) (.bool t613)) (fun _ hk => hk.2) (.slice Ao25 t614.length co25)) (fun _ hk => hk.2) (.int .i64 t617)) (fun _ h_ => h_.1))) (Kd.R_base ho0) hb); have n1_ := Aside0.mk (Kd.V_elder' (by (with_reducible repeat (first | apply Kd.V_alloc | apply Kd.V_drewN | apply Kd.V_drew)); exact (Kd.V_mono (Kd.V_far (p := ⟨gb619, 6, none⟩) (Kd.V_far (p := ⟨gb619, 5, none⟩) (Kd.V_far (p := ⟨gb619, 4, none⟩) (Kd.V_far (p := ⟨gb619, 3, none⟩) (Kd.V_far (p := ⟨gb619, 2, none⟩) (Kd.V_far (p := ⟨gb619, 1, none⟩) (Kd.V_far (p := ⟨gb619, 0, none⟩) (Kd.V_mono HO612.out (fun k_ hk => (⟨hk, hk.2⟩ : _ ∧ k_ ≠ gb619))) (fun _ hk => hk.2) (.int .i64 t605)) (fun _ hk => hk.2) (.int .i64 t606)) (fun _ hk => hk.2) (.slice Ao23 t607.length co23)) (fun _ hk => hk.2) (.slice Ao24 t610.length co24)) (fun _ hk => hk.2) (.bool t613)) (fun _ hk => hk.2) (.slice Ao25 t614.length co25)) (fun _ hk => hk.2) (.int .i64 t617)) (fun _ h_ => h_.1))) (Kd.R_base ho0) hb); have n2_ := Aside0.mk (Kd.V_elder' (by (with_reducible repeat (first | apply Kd.V_alloc | apply Kd.V_drewN | apply Kd.V_drew)); exact (Kd.V_mono (Kd.V_far (p := ⟨gb619, 6, none⟩) (Kd.V_far (p := ⟨gb619, 5, none⟩) (Kd.V_far (p := ⟨gb619, 4, none⟩) (Kd.V_far (p := ⟨gb619, 3, none⟩) (Kd.V_far (p := ⟨gb619, 2, none⟩) (Kd.V_far (p := ⟨gb619, 1, none⟩) (Kd.V_far (p := ⟨gb619, 0, none⟩) (Kd.V_mono HO616.out (fun k_ hk => (⟨hk, hk.2⟩ : _ ∧ k_ ≠ gb619))) (fun _ hk => hk.2) (.int .i64 t605)) (fun _ hk => hk.2) (.int .i64 t606)) (fun _ hk => hk.2) (.slice Ao23 t607.length co23)) (fun _ hk => hk.2) (.slice Ao24 t610.length co24)) (fun _ hk => hk.2) (.bool t613)) (fun _ hk => hk.2) (.slice Ao25 t614.length co25)) (fun _ hk => hk.2) (.int .i64 t617)) (fun _ h_ => h_.1))) (Kd.R_base ho0) hb); have n3_ := Aside0.mk (Kd.R_lower ho0 (below_size (by repeat (first | (with_reducible first | exact HB.out | apply below_alloc | apply pw_below_drewN | apply below_drew1 | refine below_set ?_ GE619.out) | exact HB.out)))); have n4_ := Aside0.mk (blk_below (g := gb619) (o := .cells #[.int .i64 t605, .int .i64 t606, .slice Ao23 t607.length co23, .slice Ao24 t610.length co24, .bool t613, .slice Ao25 t614.length co25, .int .i64 t617] 24 (0, 0)) (by (with_reducible repeat (first | refine blk_drewN ?_ _ | refine blk_drew ?_ | refine blk_alloc ?_ _)); refine blk_put (cs := #[.int .i64 t605, .int .i64 t606, .slice Ao23 t607.length co23, .slice Ao24 t610.length co24, .bool t613, .slice Ao25 t614.length co25, .int .i64 0]) ?_ 6 _ rfl; (with_reducible repeat (first | refine blk_drewN ?_ _ | refine blk_drew ?_ | refine blk_alloc ?_ _)); refine blk_put (cs := #[.int .i64 t605, .int .i64 t606, .slice Ao23 t607.length co23, .slice Ao24 t610.length co24, .bool t613, .slice none 0 0, .int .i64 0]) ?_ 5 _ rfl; (with_reducible repeat (first | refine blk_drewN ?_ _ | refine blk_drew ?_ | refine blk_alloc ?_ _)); refine blk_put (cs := #[.int .i64 t605, .int .i64 t606, .slice Ao23 t607.length co23, .slice Ao24 t610.length co24, .bool false, .slice none 0 0, .int .i64 0]) ?_ 4 _ rfl; (with_reducible repeat (first | refine blk_drewN ?_ _ | refine blk_drew ?_ | refine blk_alloc ?_ _)); refine blk_put (cs := #[.int .i64 t605, .int .i64 t606, .slice Ao23 t607.length co23, .slice none 0 0, .bool false, .slice none 0 0, .int .i64 0]) ?_ 3 _ rfl; (with_reducible repeat (first | refine blk_drewN ?_ _ | refine blk_drew ?_ | refine blk_alloc ?_ _)); refine blk_put (cs := #[.int .i64 t605, .int .i64 t606, .slice none 0 0, .slice none 0 0, .bool false, .slice none 0 0, .int .i64 0]) ?_ 2 _ rfl; (with_reducible repeat (first | refine blk_drewN ?_ _ | refine blk_drew ?_ | refine blk_alloc ?_ _)); refine blk_put (cs := #[.int .i64 t605, .int .i64 0, .slice none 0 0, .slice none 0 0, .bool false, .slice none 0 0, .int .i64 0]) ?_ 1 _ rfl; (with_reducible repeat (first | refine blk_drewN ?_ _ | refine blk_drew ?_ | refine blk_alloc ?_ _)); refine blk_put (cs := #[.int .i64 0, .int .i64 0, .slice none 0 0, .slice none 0 0, .bool false, .slice none 0 0, .int .i64 0]) ?_ 0 _ rfl; (with_reducible repeat (first | refine blk_drewN ?_ _ | refine blk_drew ?_ | refine blk_alloc ?_ _)); exact BK619.out) hb); have n5_ := Aside0.mk (below_step (by repeat (first | (with_reducible first | exact HB.out | apply below_alloc | apply pw_below_drewN | apply below_drew1 | refine below_set ?_ GE619.out) | exact HB.out)) hb); clear HO609; clear HO612; clear HO616; clear BK619; clear HB; have HO609 := n0_; have HO612 := n1_; have HO616 := n2_; have HO622 := n3_; have BK619 := n4_; have HB := n5_; clear n0_ n1_ n2_ n3_ n4_ n5_; (try clear hb); (try clear hb2); (try clear hk); (try clear hi); (try clear ho0)) | ((with_reducible refine gate_callee (f := 18) rfl ?_); refine goesL_ (some 42) rfl rfl Try.func18 (by kernel_rfl) rfl #[.slice A1 l1.length c1] rfl (by (try simp only [List.map_toArray, List.map_cons, List.map_nil]); first | done | rfl | (simp only [List.length_drop, List.length_take]; rfl)) ?_; (with_reducible refine (wire_Tell.calls _ _ l1 t624 t625 t626 t629 t632 t635 _ ?side1 ?side2 A10.out).mono ?_); (case side1 => repeat (first | exact (Kd.C_below HR1.out HB.out) | (with_reducible refine Kd.C_alloc ?_ _) | (with_reducible refine Kd.C_drewN ?_ _) | (with_reducible refine Kd.C_drew ?_))); (case side2 => exact HC1.out); rintro e w27 ⟨v627, v630, v633, rfl, ho0, ho1, ho2, hb⟩; refine ⟨_, rfl, ?_⟩; have n0_ := Aside0.mk (Kd.V_mono (Kd.V_told (Kd.V_told (Kd.V_old (by (with_reducible repeat (first | apply Kd.V_alloc | apply Kd.V_drewN | apply Kd.V_drew)); exact HO609.out) hb) (by first | exact Kd.N_base ho1 | exact Kd.S_base ho1 | exact Kd.R_base ho1)) (Kd.R_base ho2)) (fun _ h_ => h_.1)); have n1_ := Aside0.mk (Kd.V_mono (Kd.V_told (Kd.V_told (Kd.V_old (by (with_reducible repeat (first | apply Kd.V_alloc | apply Kd.V_drewN | apply Kd.V_drew)); exact HO612.out) hb) (by first | exact Kd.N_base ho1 | exact Kd.S_base ho1 | exact Kd.R_base ho1)) (Kd.R_base ho2)) (fun _ h_ => h_.1)); have n2_ := Aside0.mk (Kd.V_mono (Kd.V_told (Kd.V_told (Kd.V_old (by (with_reducible repeat (first | apply Kd.V_alloc | apply Kd.V_drewN | apply Kd.V_drew)); exact HO616.out) hb) (by first | exact Kd.N_base ho1 | exact Kd.S_base ho1 | exact Kd.R_base ho1)) (Kd.R_base ho2)) (fun _ h_ => h_.1)); have n3_ := Aside0.mk (Kd.R_elder' (by (with_reducible repeat (first | apply Kd.R_alloc | apply Kd.R_drewN | apply Kd.R_drew)); exact HO622.out) (Kd.R_base ho2) hb); have n4_ := Aside0.mk (Kd.V_lower (Kd.V_mono (ok' := fun k_ => some k_ ≠ (v630 : Value).ownBlock ∧ some k_ ≠ (v633 : Value).ownBlock ∧ some k_ ≠ (v621 : Value).ownBlock ∧ k_ ≠ gb619) ho0 (fun k_ hk_ => ⟨hk_.2.1, hk_.2.2, (Kd.fresh' (Kd.R_lt (by (with_reducible repeat (first | apply Kd.R_alloc | apply Kd.R_drewN | apply Kd.R_drew)); exact HO622.out)) k_ hk_.1), (Kd.freshB (g := gb619) (o := .cells #[.int .i64 t605, .int .i64 t606, .slice Ao23 t607.length co23, .slice Ao24 t610.length co24, .bool t613, .slice Ao25 t614.length co25, .int .i64 t617] 24 (0, 0)) (by (with_reducible repeat (first | refine blk_drewN ?_ _ | refine blk_drew ?_ | refine blk_alloc ?_ _)); exact BK619.out) k_ hk_.1)⟩)) (below_size (by repeat (first | (with_reducible first | exact HB.out | apply below_alloc | apply pw_below_drewN | apply below_drew1 | refine below_set ?_ GE619.out) | exact HB.out)))); have n5_ := Aside0.mk (Kd.N_lower (Kd.N_mono (ok' := fun k_ => some k_ ≠ (v633 : Value).ownBlock ∧ some k_ ≠ (v621 : Value).ownBlock ∧ k_ ≠ gb619) ho1 (fun k_ hk_ => ⟨hk_.2, (Kd.fresh' (Kd.R_lt (by (with_reducible repeat (first | apply Kd.R_alloc | apply Kd.R_drewN | apply Kd.R_drew)); exact HO622.out)) k_ hk_.1), (Kd.freshB (g := gb619) (o := .cells #[.int .i64 t605, .int .i64 t606, .slice Ao23 t607.length co23, .slice Ao24 t610.length co24, .bool t613, .slice Ao25 t614.length co25, .int .i64 t617] 24 (0, 0)) (by (with_reducible repeat (first | refine blk_drewN ?_ _ | refine blk_drew ?_ | refine blk_alloc ?_ _)); exact BK619.out) k_ hk_.1)⟩)) (below_size (by repeat (first | (with_reducible first | exact HB.out | apply below_alloc | apply pw_below_drewN | apply below_drew1 | refine below_set ?_ GE619.out) | exact HB.out)))); have n6_ := Aside0.mk (Kd.R_lower (Kd.R_new' (Kd.R_mono (ok' := fun k_ => True) ho2 (fun _ hk_ => trivial)) (Kd.R_lt (by (with_reducible repeat (first | apply Kd.R_alloc | apply Kd.R_drewN | apply Kd.R_drew)); exact HO622.out))) (below_size (by repeat (first | (with_reducible first | exact HB.out | apply below_alloc | apply pw_below_drewN | apply below_drew1 | refine below_set ?_ GE619.out) | exact HB.out)))); have n7_ := Aside0.mk (blk_below (g := gb619) (o := .cells #[.int .i64 t605, .int .i64 t606, .slice Ao23 t607.length co23, .slice Ao24 t610.length co24, .bool t613, .slice Ao25 t614.length co25, .int .i64 t617] 24 (0, 0)) (by (with_reducible repeat (first | refine blk_drewN ?_ _ | refine blk_drew ?_ | refine blk_alloc ?_ _)); exact BK619.out) hb); have n8_ := Aside0.mk (below_step (by repeat (first | (with_reducible first | exact HB.out | apply below_alloc | apply pw_below_drewN | apply below_drew1 | refine below_set ?_ GE619.out) | exact HB.out)) hb); clear HO609; clear HO612; clear HO616; clear HO622; clear BK619; clear HB; have HO609 := n0_; have HO612 := n1_; have HO616 := n2_; have HO622 := n3_; have HO628 := n4_; have HO631 := n5_; have HO634 := n6_; have BK619 := n7_; have HB := n8_; clear n0_ n1_ n2_ n3_ n4_ n5_ n6_ n7_ n8_; (try clear hb); (try clear hb2); (try clear hk); (try clear hi); (try clear ho0); (try clear ho1); (try clear ho2)) | ((with_reducible refine gate_dst (N := 11) rfl ?_); (try (refine gate_guard (by rfl) ?_; dsimp only)); refine box_event ?hg (N := 11) ?hd (cs := #[.int .i64 0, .bool false, .slice none 0 0, .slice none 0 0]) (t := 36) ?hr ?_; (case hd => rfl); (case hg => rfl); (case hr => first | (go_simp; done) | (go_simp; rfl)); intro gb636 hg w28 hbox hb; have n0_ := Aside0.mk (Kd.V_below (Kd.V_elderB (by (with_reducible repeat (first | apply Kd.V_alloc | apply Kd.V_drewN | apply Kd.V_drew)); exact HO609.out) gb636 (Nat.le_of_eq hg.symm)) hb); have n1_ := Aside0.mk (Kd.V_below (Kd.V_elderB (by (with_reducible repeat (first | apply Kd.V_alloc | apply Kd.V_drewN | apply Kd.V_drew)); exact HO612.out) gb636 (Nat.le_of_eq hg.symm)) hb); have n2_ := Aside0.mk (Kd.V_below (Kd.V_elderB (by (with_reducible repeat (first | apply Kd.V_alloc | apply Kd.V_drewN | apply Kd.V_drew)); exact HO616.out) gb636 (Nat.le_of_eq hg.symm)) hb); have n3_ := Aside0.mk (Kd.R_below (by (with_reducible repeat (first | apply Kd.R_alloc | apply Kd.R_drewN | apply Kd.R_drew)); exact HO622.out) hb); have n4_ := Aside0.mk (Kd.V_below (Kd.V_elderB (by (with_reducible repeat (first | apply Kd.V_alloc | apply Kd.V_drewN | apply Kd.V_drew)); exact HO628.out) gb636 (Nat.le_of_eq hg.symm)) hb); have n5_ := Aside0.mk (Kd.N_below (Kd.N_elderB (by (with_reducible repeat (first | apply Kd.N_alloc | apply Kd.N_drewN | apply Kd.N_drew)); exact HO631.out) gb636 (Nat.le_of_eq hg.symm)) hb); have n6_ := Aside0.mk (Kd.R_below (by (with_reducible repeat (first | apply Kd.R_alloc | apply Kd.R_drewN | apply Kd.R_drew)); exact HO634.out) hb); have n7_ := Aside0.mk (blk_below (g := gb619) (o := .cells #[.int .i64 t605, .int .i64 t606, .slice Ao23 t607.length co23, .slice Ao24 t610.length co24, .bool t613, .slice Ao25 t614.length co25, .int .i64 t617] 24 (0, 0)) (by (with_reducible repeat (first | refine blk_drewN ?_ _ | refine blk_drew ?_ | refine blk_alloc ?_ _)); exact BK619.out) hb); have n8_ := Aside0.mk (below_step (by repeat (first | (with_reducible first | exact HB.out | apply below_alloc | apply pw_below_drewN | apply below_drew1 | refine below_set ?_ GE619.out) | exact HB.out)) hb); have n9_ := Aside0.mk (hbox); have n10_ := Aside0.mk ((by rw [hg]; exact (below_size (by repeat (first | (with_reducible first | exact HB.out | apply below_alloc | apply pw_below_drewN | apply below_drew1 | refine below_set ?_ GE619.out) | exact HB.out))) : w.heap.size ≤ gb636)); have n11_ := Aside0.mk ((by rw [hg]; exact (below_size (by repeat (first | (with_reducible first | exact HB.out | apply below_alloc | apply pw_below_drewN | apply below_drew1 | refine below_set ?_ GE619.out) | exact HB.out))) : w.heap.size ≤ gb636)); have n12_ := Aside0.mk ((by rw [hg]; exact Nat.ne_of_lt (blk_lt (g := gb619) (o := .cells #[.int .i64 t605, .int .i64 t606, .slice Ao23 t607.length co23, .slice Ao24 t610.length co24, .bool t613, .slice Ao25 t614.length co25, .int .i64 t617] 24 (0, 0)) (by (with_reducible repeat (first | refine blk_drewN ?_ _ | refine blk_drew ?_ | refine blk_alloc ?_ _)); exact BK619.out)) : gb619 ≠ gb636)); have n13_ := Aside0.mk ((by rw [hg]; exact Nat.ne_of_gt (blk_lt (g := gb619) (o := .cells #[.int .i64 t605, .int .i64 t606, .slice Ao23 t607.length co23, .slice Ao24 t610.length co24, .bool t613, .slice Ao25 t614.length co25, .int .i64 t617] 24 (0, 0)) (by (with_reducible repeat (first | refine blk_drewN ?_ _ | refine blk_drew ?_ | refine blk_alloc ?_ _)); exact BK619.out)) : gb636 ≠ gb619)); clear HO609; clear HO612; clear HO616; clear HO622; clear HO628; clear HO631; clear HO634; clear BK619; clear HB; have HO609 := n0_; have HO612 := n1_; have HO616 := n2_; have HO622 := n3_; have HO628 := n4_; have HO631 := n5_; have HO634 := n6_; have BK619 := n7_; have HB := n8_; have BK636 := n9_; have GW636 := n10_; have GE636 := n11_; have NB619_636 := n12_; have NB636_619 := n13_; clear n0_ n1_ n2_ n3_ n4_ n5_ n6_ n7_ n8_ n9_ n10_ n11_ n12_ n13_; clear hb hbox hg; have hnb29 := NB636_619.out; have hnc29 := NB619_636.out; have hcz30_0 : w28.cell? ⟨gb636, 0, none⟩ = some (.int .i64 0) := (blk_cell BK636.out 0).trans rfl; have hcz30_1 : w28.cell? ⟨gb636, 1, none⟩ = some (.bool false) := (blk_cell BK636.out 1).trans rfl; have hcz30_2 : w28.cell? ⟨gb636, 2, none⟩ = some (.slice none 0 0) := (blk_cell BK636.out 2).trans rfl; have hcz30_3 : w28.cell? ⟨gb636, 3, none⟩ = some (.slice none 0 0) := (blk_cell BK636.out 3).trans rfl; have hfz30_0 := blk_frozen BK636.out 0; have hfz30_1 := blk_frozen BK636.out 1; have hfz30_2 := blk_frozen BK636.out 2; have hfz30_3 := blk_frozen BK636.out 3; obtain ⟨Ao31, co31, eo31⟩ := Kd.V_slice HO628.out; subst eo31; obtain ⟨Ao32, co32, eo32⟩ := Kd.N_slice HO631.out; subst eo32) | ((with_reducible refine gate_callee (f := 16) rfl ?_); refine goesL_ (some 48) rfl rfl Try.func16 (by kernel_rfl) rfl #[.agg #[.int .i64 t624, .bool t625, .slice Ao31 t626.length co31, .slice Ao32 t629.length co32]] rfl (by (try simp only [List.map_toArray, List.map_cons, List.map_nil]); first | done | rfl | (simp only [List.length_drop, List.length_take]; rfl)) ?_; (with_reducible refine (wire_Told.calls t624 t625 _ _ t626 _ _ t629 t637 t640 _ ?side1 ?side2 ?side3 ?side4 A11.out).mono ?_); (case side1 => refine (Kd.V_reads' (e := 5) (base := w.heap.size) (ok := fun k_ => ((some k_ ≠ (.slice Ao32 t629.length co32 : Value).ownBlock ∧ (some k_ ≠ (v633 : Value).ownBlock ∧ (some k_ ≠ (v621 : Value).ownBlock ∧ k_ ≠ gb619))) ∧ k_ ≠ gb636)) (n := t626.length) (c := co31) ?_).2.2; exact (by (with_reducible repeat (first | apply Kd.V_alloc | apply Kd.V_drewN | apply Kd.V_drew)); exact (Kd.V_mono (Kd.V_far (p := ⟨gb636, 3, none⟩) (Kd.V_far (p := ⟨gb636, 2, none⟩) (Kd.V_far (p := ⟨gb636, 1, none⟩) (Kd.V_far (p := ⟨gb636, 0, none⟩) (Kd.V_mono HO628.out (fun k_ hk => (⟨hk, hk.2⟩ : _ ∧ k_ ≠ gb636))) (fun _ hk => hk.2) (.int .i64 t624)) (fun _ hk => hk.2) (.bool t625)) (fun _ hk => hk.2) (.slice Ao31 t626.length co31)) (fun _ hk => hk.2) (.slice Ao32 t629.length co32)) (fun _ h_ => h_.1)))); (case side2 => exact (Kd.V_reads' HO628.out).2.1); (case side3 => refine (Kd.N_reads' (e := 47) (base := w.heap.size) (ok := fun k_ => ((some k_ ≠ (v633 : Value).ownBlock ∧ (some k_ ≠ (v621 : Value).ownBlock ∧ k_ ≠ gb619)) ∧ k_ ≠ gb636)) (n := t629.length) (c := co32) ?_).2.2; exact (by (with_reducible repeat (first | apply Kd.N_alloc | apply Kd.N_drewN | apply Kd.N_drew)); exact (Kd.N_mono (Kd.N_far (p := ⟨gb636, 3, none⟩) (Kd.N_far (p := ⟨gb636, 2, none⟩) (Kd.N_far (p := ⟨gb636, 1, none⟩) (Kd.N_far (p := ⟨gb636, 0, none⟩) (Kd.N_mono HO631.out (fun k_ hk => (⟨hk, hk.2⟩ : _ ∧ k_ ≠ gb636))) (fun _ hk => hk.2) (.int .i64 t624)) (fun _ hk => hk.2) (.bool t625)) (fun _ hk => hk.2) (.slice Ao31 t626.length co31)) (fun _ hk => hk.2) (.slice Ao32 t629.length co32)) (fun _ h_ => h_.1)))); (case side4 => exact (Kd.N_reads' HO631.out).2.1); rintro e w33 ⟨v638, rfl, ho0, hb⟩; refine ⟨_, rfl, ?_⟩; have n0_ := Aside0.mk (Kd.V_elder' (by (with_reducible repeat (first | apply Kd.V_alloc | apply Kd.V_drewN | apply Kd.V_drew)); exact (Kd.V_mono (Kd.V_far (p := ⟨gb636, 3, none⟩) (Kd.V_far (p := ⟨gb636, 2, none⟩) (Kd.V_far (p := ⟨gb636, 1, none⟩) (Kd.V_far (p := ⟨gb636, 0, none⟩) (Kd.V_mono HO609.out (fun k_ hk => (⟨hk, hk.2⟩ : _ ∧ k_ ≠ gb636))) (fun _ hk => hk.2) (.int .i64 t624)) (fun _ hk => hk.2) (.bool t625)) (fun _ hk => hk.2) (.slice Ao31 t626.length co31)) (fun _ hk => hk.2) (.slice Ao32 t629.length co32)) (fun _ h_ => h_.1))) (Kd.R_base ho0) hb); have n1_ := Aside0.mk (Kd.V_elder' (by (with_reducible repeat (first | apply Kd.V_alloc | apply Kd.V_drewN | apply Kd.V_drew)); exact (Kd.V_mono (Kd.V_far (p := ⟨gb636, 3, none⟩) (Kd.V_far (p := ⟨gb636, 2, none⟩) (Kd.V_far (p := ⟨gb636, 1, none⟩) (Kd.V_far (p := ⟨gb636, 0, none⟩) (Kd.V_mono HO612.out (fun k_ hk => (⟨hk, hk.2⟩ : _ ∧ k_ ≠ gb636))) (fun _ hk => hk.2) (.int .i64 t624)) (fun _ hk => hk.2) (.bool t625)) (fun _ hk => hk.2) (.slice Ao31 t626.length co31)) (fun _ hk => hk.2) (.slice Ao32 t629.length co32)) (fun _ h_ => h_.1))) (Kd.R_base ho0) hb); have n2_ := Aside0.mk (Kd.V_elder' (by (with_reducible repeat (first | apply Kd.V_alloc | apply Kd.V_drewN | apply Kd.V_drew)); exact (Kd.V_mono (Kd.V_far (p := ⟨gb636, 3, none⟩) (Kd.V_far (p := ⟨gb636, 2, none⟩) (Kd.V_far (p := ⟨gb636, 1, none⟩) (Kd.V_far (p := ⟨gb636, 0, none⟩) (Kd.V_mono HO616.out (fun k_ hk => (⟨hk, hk.2⟩ : _ ∧ k_ ≠ gb636))) (fun _ hk => hk.2) (.int .i64 t624)) (fun _ hk => hk.2) (.bool t625)) (fun _ hk => hk.2) (.slice Ao31 t626.length co31)) (fun _ hk => hk.2) (.slice Ao32 t629.length co32)) (fun _ h_ => h_.1))) (Kd.R_base ho0) hb); have n3_ := Aside0.mk (Kd.R_elder' (by (with_reducible repeat (first | apply Kd.R_alloc | apply Kd.R_drewN | apply Kd.R_drew)); exact (Kd.R_mono (Kd.R_far (p := ⟨gb636, 3, none⟩) (Kd.R_far (p := ⟨gb636, 2, none⟩) (Kd.R_far (p := ⟨gb636, 1, none⟩) (Kd.R_far (p := ⟨gb636, 0, none⟩) (Kd.R_types HO622.out BK636.out (by decide)) (fun _ hk => hk.2) (.int .i64 t624)) (fun _ hk => hk.2) (.bool t625)) (fun _ hk => hk.2) (.slice Ao31 t626.length co31)) (fun _ hk => hk.2) (.slice Ao32 t629.length co32)) (fun _ h_ => h_.1))) (Kd.R_base ho0) hb); have n4_ := Aside0.mk (Kd.V_elder' (by (with_reducible repeat (first | apply Kd.V_alloc | apply Kd.V_drewN | apply Kd.V_drew)); exact (Kd.V_mono (Kd.V_far (p := ⟨gb636, 3, none⟩) (Kd.V_far (p := ⟨gb636, 2, none⟩) (Kd.V_far (p := ⟨gb636, 1, none⟩) (Kd.V_far (p := ⟨gb636, 0, none⟩) (Kd.V_mono HO628.out (fun k_ hk => (⟨hk, hk.2⟩ : _ ∧ k_ ≠ gb636))) (fun _ hk => hk.2) (.int .i64 t624)) (fun _ hk => hk.2) (.bool t625)) (fun _ hk => hk.2) (.slice Ao31 t626.length co31)) (fun _ hk => hk.2) (.slice Ao32 t629.length co32)) (fun _ h_ => h_.1))) (Kd.R_base ho0) hb); have n5_ := Aside0.mk (Kd.N_elder' (by (with_reducible repeat (first | apply Kd.N_alloc | apply Kd.N_drewN | apply Kd.N_drew)); exact (Kd.N_mono (Kd.N_far (p := ⟨gb636, 3, none⟩) (Kd.N_far (p := ⟨gb636, 2, none⟩) (Kd.N_far (p := ⟨gb636, 1, none⟩) (Kd.N_far (p := ⟨gb636, 0, none⟩) (Kd.N_mono HO631.out (fun k_ hk => (⟨hk, hk.2⟩ : _ ∧ k_ ≠ gb636))) (fun _ hk => hk.2) (.int .i64 t624)) (fun _ hk => hk.2) (.bool t625)) (fun _ hk => hk.2) (.slice Ao31 t626.length co31)) (fun _ hk => hk.2) (.slice Ao32 t629.length co32)) (fun _ h_ => h_.1))) (Kd.R_base ho0) hb); have n6_ := Aside0.mk (Kd.R_elder' (by (with_reducible repeat (first | apply Kd.R_alloc | apply Kd.R_drewN | apply Kd.R_drew)); exact (Kd.R_mono (Kd.R_far (p := ⟨gb636, 3, none⟩) (Kd.R_far (p := ⟨gb636, 2, none⟩) (Kd.R_far (p := ⟨gb636, 1, none⟩) (Kd.R_far (p := ⟨gb636, 0, none⟩) (Kd.R_types HO634.out BK636.out (by decide)) (fun _ hk => hk.2) (.int .i64 t624)) (fun _ hk => hk.2) (.bool t625)) (fun _ hk => hk.2) (.slice Ao31 t626.length co31)) (fun _ hk => hk.2) (.slice Ao32 t629.length co32)) (fun _ h_ => h_.1))) (Kd.R_base ho0) hb); have n7_ := Aside0.mk (Kd.R_lower (Kd.R_new' (Kd.R_new' ho0 (Kd.R_lt (by (with_reducible repeat (first | apply Kd.R_alloc | apply Kd.R_drewN | apply Kd.R_drew)); exact (Kd.R_mono (Kd.R_far (p := ⟨gb636, 3, none⟩) (Kd.R_far (p := ⟨gb636, 2, none⟩) (Kd.R_far (p := ⟨gb636, 1, none⟩) (Kd.R_far (p := ⟨gb636, 0, none⟩) (Kd.R_types HO622.out BK636.out (by decide)) (fun _ hk => hk.2) (.int .i64 t624)) (fun _ hk => hk.2) (.bool t625)) (fun _ hk => hk.2) (.slice Ao31 t626.length co31)) (fun _ hk => hk.2) (.slice Ao32 t629.length co32)) (fun _ h_ => h_.1))))) (Kd.R_lt (by (with_reducible repeat (first | apply Kd.R_alloc | apply Kd.R_drewN | apply Kd.R_drew)); exact (Kd.R_mono (Kd.R_far (p := ⟨gb636, 3, none⟩) (Kd.R_far (p := ⟨gb636, 2, none⟩) (Kd.R_far (p := ⟨gb636, 1, none⟩) (Kd.R_far (p := ⟨gb636, 0, none⟩) (Kd.R_types HO634.out BK636.out (by decide)) (fun _ hk => hk.2) (.int .i64 t624)) (fun _ hk => hk.2) (.bool t625)) (fun _ hk => hk.2) (.slice Ao31 t626.length co31)) (fun _ hk => hk.2) (.slice Ao32 t629.length co32)) (fun _ h_ => h_.1))))) (below_size (by repeat (first | (with_reducible first | exact HB.out | apply below_alloc | apply pw_below_drewN | apply below_drew1 | refine below_set ?_ GE619.out | refine below_set ?_ GE636.out) | exact HB.out)))); have n8_ := Aside0.mk (blk_below (g := gb619) (o := .cells #[.int .i64 t605, .int .i64 t606, .slice Ao23 t607.length co23, .slice Ao24 t610.length co24, .bool t613, .slice Ao25 t614.length co25, .int .i64 t617] 24 (0, 0)) (by (with_reducible repeat (first | refine blk_drewN ?_ _ | refine blk_drew ?_ | refine blk_alloc ?_ _)); refine blk_far ?_ NB619_636.out _; (with_reducible repeat (first | refine blk_drewN ?_ _ | refine blk_drew ?_ | refine blk_alloc ?_ _)); refine blk_far ?_ NB619_636.out _; (with_reducible repeat (first | refine blk_drewN ?_ _ | refine blk_drew ?_ | refine blk_alloc ?_ _)); refine blk_far ?_ NB619_636.out _; (with_reducible repeat (first | refine blk_drewN ?_ _ | refine blk_drew ?_ | refine blk_alloc ?_ _)); refine blk_far ?_ NB619_636.out _; (with_reducible repeat (first | refine blk_drewN ?_ _ | refine blk_drew ?_ | refine blk_alloc ?_ _)); exact BK619.out) hb); have n9_ := Aside0.mk (blk_below (g := gb636) (o := .cells #[.int .i64 t624, .bool t625, .slice Ao31 t626.length co31, .slice Ao32 t629.length co32] 36 (0, 0)) (by (with_reducible repeat (first | refine blk_drewN ?_ _ | refine blk_drew ?_ | refine blk_alloc ?_ _)); refine blk_put (cs := #[.int .i64 t624, .bool t625, .slice Ao31 t626.length co31, .slice none 0 0]) ?_ 3 _ rfl; (with_reducible repeat (first | refine blk_drewN ?_ _ | refine blk_drew ?_ | refine blk_alloc ?_ _)); refine blk_put (cs := #[.int .i64 t624, .bool t625, .slice none 0 0, .slice none 0 0]) ?_ 2 _ rfl; (with_reducible repeat (first | refine blk_drewN ?_ _ | refine blk_drew ?_ | refine blk_alloc ?_ _)); refine blk_put (cs := #[.int .i64 t624, .bool false, .slice none 0 0, .slice none 0 0]) ?_ 1 _ rfl; (with_reducible repeat (first | refine blk_drewN ?_ _ | refine blk_drew ?_ | refine blk_alloc ?_ _)); refine blk_put (cs := #[.int .i64 0, .bool false, .slice none 0 0, .slice none 0 0]) ?_ 0 _ rfl; (with_reducible repeat (first | refine blk_drewN ?_ _ | refine blk_drew ?_ | refine blk_alloc ?_ _)); exact BK636.out) hb); have n10_ := Aside0.mk (below_step (by repeat (first | (with_reducible first | exact HB.out | apply below_alloc | apply pw_below_drewN | apply below_drew1 | refine below_set ?_ GE619.out | refine below_set ?_ GE636.out) | exact HB.out)) hb); clear HO609; clear HO612; clear HO616; clear HO622; clear HO628; clear HO631; clear HO634; clear BK619; clear BK636; clear HB; have HO609 := n0_; have HO612 := n1_; have HO616 := n2_; have HO622 := n3_; have HO628 := n4_; have HO631 := n5_; have HO634 := n6_; have HO639 := n7_; have BK619 := n8_; have BK636 := n9_; have HB := n10_; clear n0_ n1_ n2_ n3_ n4_ n5_ n6_ n7_ n8_ n9_ n10_; (try clear hb); (try clear hb2); (try clear hk); (try clear hi); (try clear ho0); have hcv34 := own_string (P := Try.prog) Try.underlying22 Try.underlying5 Try.underlying9 (Kd.own_of_R HO622.out); have hcv35 := Kd.C_string (P := Try.prog) (A := A0) (c := c0) Try.underlying22 Try.underlying5 Try.underlying9 (Kd.C_below HR0.out HB.out); obtain ⟨Ao36, co36, eo36⟩ := Kd.R_slice HO639.out; subst eo36; obtain ⟨Ao37, co37, eo37⟩ := Kd.R_slice HO634.out; subst eo37))
                        have n0_ := Aside0.mk (Kd.V_drew HO609.out)
                        have n1_ := Aside0.mk (Kd.V_drew HO612.out)
                        have n2_ := Aside0.mk (Kd.V_drew HO616.out)
                        have n3_ := Aside0.mk (Kd.R_drew HO622.out)
                        have n4_ := Aside0.mk (Kd.V_drew HO628.out)
                        have n5_ := Aside0.mk (Kd.N_drew HO631.out)
                        have n6_ := Aside0.mk (Kd.R_drew HO634.out)
                        have n7_ := Aside0.mk (Kd.R_drew HO639.out)
                        have n8_ := Aside0.mk (blk_drew BK619.out)
                        have n9_ := Aside0.mk (blk_drew BK636.out)
                        have n10_ := Aside0.mk (below_drew1 HB.out)
                        clear HO609
                        clear HO612
                        clear HO616
                        clear HO622
                        clear HO628
                        clear HO631
                        clear HO634
                        clear HO639
                        clear BK619
                        clear BK636
                        clear HB
                        have HO609 := n0_
                        have HO612 := n1_
                        have HO616 := n2_
                        have HO622 := n3_
                        have HO628 := n4_
                        have HO631 := n5_
                        have HO634 := n6_
                        have HO639 := n7_
                        have BK619 := n8_
                        have BK636 := n9_
                        have HB := n10_
                        clear n0_ n1_ n2_ n3_ n4_ n5_ n6_ n7_ n8_ n9_ n10_
                        refine start_ (n := 18) (S := fun w' => (convert 22 9 (v621)).run Try.prog w' = .ok (.string (strOfNums t620)) w' ∧ (convert 22 9 (.slice A0 l0.length c0)).run Try.prog w' = .ok (.string (strOfNums l0)) w' ∧ (convert 22 9 (.slice A1 l1.length c1)).run Try.prog w' = .ok (.string (strOfNums l1)) w') (ds := []) #[false, false, false, false, false, false, false, false, false, false, false, false, false, false, false, false, false, false] (by kernel_rfl) rfl rfl ⟨(own_string (P := Try.prog) Try.underlying22 Try.underlying5 Try.underlying9 (Kd.own_of_R HO622.out)), (Kd.C_string (P := Try.prog) (A := A0) (c := c0) Try.underlying22 Try.underlying5 Try.underlying9 (Kd.C_below HR0.out HB.out)), (Kd.C_string (P := Try.prog) (A := A1) (c := c1) Try.underlying22 Try.underlying5 Try.underlying9 (Kd.C_below HR1.out HB.out))⟩ (fun hHeld => ?_); refine with_tabW banksmanlaw21_WireAgain.tab9 banksmanlaw21_WireAgain.bits9 (fun HT_ HW_ => ?_)
                        generalize w33.drew = w38 at HO609 HO612 HO616 HO622 HO628 HO631 HO634 HO639 BK619 BK636 HB hHeld ⊢
                        refine pure_ (i := 0) (N := some 64) (v := ?_) (a' := ?_) #[true, false, false, false, false, false, false, false, false, false, false, false, false, false, false, false, false, false] rfl rfl (any_of HT_.out (by kernel_rfl)) (fun _ _ _ h => h) (Or.inl ⟨by rfl, ?_⟩) ?_ ?_
                        rotate_left
                        · intro w'
                          go_simp
                          with_reducible rfl
                        rotate_left
                        · simp only [Act.put, List.setIfInBounds_toArray, List.set_cons_zero, List.set_cons_succ, i64_w, i32_w]
                          rfl
                        refine pure_ (i := 1) (N := some 65) (v := ?_) (a' := ?_) #[true, true, false, false, false, false, false, false, false, false, false, false, false, false, false, false, false, false] rfl rfl (any_of HT_.out (by kernel_rfl)) (fun _ _ _ h => h) (Or.inl ⟨by rfl, ?_⟩) ?_ ?_
                        rotate_left
                        · intro w'
                          go_simp
                          with_reducible rfl
                        rotate_left
                        · simp only [Act.put, List.setIfInBounds_toArray, List.set_cons_zero, List.set_cons_succ, i64_w, i32_w]
                          rfl
                        refine pure_ (i := 2) (N := some 66) (v := ?_) (a' := ?_) #[true, true, true, false, false, false, false, false, false, false, false, false, false, false, false, false, false, false] rfl rfl (any_of HT_.out (by kernel_rfl)) (fun _ _ _ h => h) (Or.inl ⟨by rfl, ?_⟩) ?_ ?_
                        rotate_left
                        · intro w'
                          go_simp
                          with_reducible rfl
                        rotate_left
                        · simp only [Act.put, List.setIfInBounds_toArray, List.set_cons_zero, List.set_cons_succ, i64_w, i32_w]
                          rfl
                        refine pure_ (i := 3) (N := some 67) (v := ?_) (a' := ?_) #[true, true, true, true, false, false, false, false, false, false, false, false, false, false, false, false, false, false] rfl rfl (any_of HT_.out (by kernel_rfl)) (fun _ _ _ h => h) (Or.inl ⟨by rfl, ?_⟩) ?_ ?_
                        rotate_left
                        · intro w'
                          go_simp
                          with_reducible rfl
                        rotate_left
                        · simp only [Act.put, List.setIfInBounds_toArray, List.set_cons_zero, List.set_cons_succ, i64_w, i32_w]
                          rfl
                        refine pure_ (i := 4) (N := some 68) (v := ?_) (a' := ?_) #[true, true, true, true, true, false, false, false, false, false, false, false, false, false, false, false, false, false] rfl rfl (any_of HT_.out (by kernel_rfl)) (fun _ _ _ h => h) (Or.inl ⟨by rfl, ?_⟩) ?_ ?_
                        rotate_left
                        · intro w'
                          go_simp
                          with_reducible rfl
                        rotate_left
                        · simp only [Act.put, List.setIfInBounds_toArray, List.set_cons_zero, List.set_cons_succ, i64_w, i32_w]
                          rfl
                        refine pure_ (i := 5) (N := some 69) (v := ?_) (a' := ?_) #[true, true, true, true, true, true, false, false, false, false, false, false, false, false, false, false, false, false] rfl rfl (any_of HT_.out (by kernel_rfl)) (fun _ _ _ h => h) (Or.inl ⟨by rfl, ?_⟩) ?_ ?_
                        rotate_left
                        · intro w'
                          go_simp
                          with_reducible rfl
                        rotate_left
                        · simp only [Act.put, List.setIfInBounds_toArray, List.set_cons_zero, List.set_cons_succ, i64_w, i32_w]
                          rfl
                        refine pure_ (i := 7) (N := some 71) (v := ?_) (a' := ?_) #[true, true, true, true, true, true, false, true, false, false, false, false, false, false, false, false, false, false] rfl rfl (any_of HT_.out (by kernel_rfl)) (fun _ _ _ h => h) (Or.inl ⟨by rfl, ?_⟩) ?_ ?_
                        rotate_left
                        · intro w'
                          go_simp
                          with_reducible rfl
                        rotate_left
                        · simp only [Act.put, List.setIfInBounds_toArray, List.set_cons_zero, List.set_cons_succ, i64_w, i32_w]
                          rfl
                        refine pure_ (i := 9) (N := some 73) (v := ?_) (a' := ?_) #[true, true, true, true, true, true, false, true, false, true, false, false, false, false, false, false, false, false] rfl rfl (any_of HT_.out (by kernel_rfl)) (fun _ _ _ h => h) (Or.inl ⟨by rfl, ?_⟩) ?_ ?_
                        rotate_left
                        · intro w'
                          go_simp
                          with_reducible rfl
                        rotate_left
                        · simp only [Act.put, List.setIfInBounds_toArray, List.set_cons_zero, List.set_cons_succ, i64_w, i32_w]
                          rfl
                        refine pure_ (i := 12) (N := some 76) (v := ?_) (a' := ?_) #[true, true, true, true, true, true, false, true, false, true, false, false, true, false, false, false, false, false] rfl rfl (any_of HT_.out (by kernel_rfl)) (fun _ _ _ h => h) (Or.inl ⟨by rfl, ?_⟩) ?_ ?_
                        rotate_left
                        · intro w'
                          go_simp
                          with_reducible rfl
                        rotate_left
                        · simp only [Act.put, List.setIfInBounds_toArray, List.set_cons_zero, List.set_cons_succ, i64_w, i32_w]
                          rfl
                        refine take_ (i := 13) (N := some 77) (v := ?_) (a' := ?_) #[true, true, true, true, true, true, false, true, false, true, false, false, true, true, false, false, false, false] rfl rfl (take_ofW HT_.out HW_.out (by kernel_rfl)) (fun _ _ _ h => h) (Or.inl ⟨by rfl, ?_⟩) hHeld ?_ ?_
                        rotate_left
                        · rintro w' ⟨s0, s1, s2⟩
                          go_simp
                          with_reducible rfl
                        rotate_left
                        · simp only [Act.put, List.setIfInBounds_toArray, List.set_cons_zero, List.set_cons_succ, i64_w, i32_w]
                          rfl
                        refine one_ (i := 6) (N := some 70) #[true, true, true, true, true, true, true, true, false, true, false, false, true, true, false, false, false, false] rfl rfl (one_of HT_.out (by kernel_rfl)) (by decide) (fun K hK => ?_)
                        refine Kd.R_lit_step (Kd.int .u8) _ 5 ?hg (N := 70) ?hd (xs := ([] : List Int)) (inner := []) (ok := fun _ => True) (okp := fun _ => True) ?hr ?hp (fun _ hk => hk) trivial (Below.refl _ _) (Nat.le_refl _) (by simp) ?_; (case hd => rfl); (case hg => rfl); (case hr => first | (go_simp; done) | (go_simp; rfl)); (case hp => exact (Reps.none _ _))
                        intro v642 w39 ho40 hb hg_ hnew_
                        clear hg_ hnew_
                        (first | rw [← Ny641.out] at ho40 | (simp only [Int.reduceToNat] at ho40; rw [← Ny641.out] at ho40))
                        have n0_ := Aside0.mk (Kd.V_elder' (by (with_reducible repeat (first | apply Kd.V_alloc | apply Kd.V_drewN | apply Kd.V_drew)); exact HO609.out) (Kd.R_base ho40) hb)
                        have n1_ := Aside0.mk (Kd.V_elder' (by (with_reducible repeat (first | apply Kd.V_alloc | apply Kd.V_drewN | apply Kd.V_drew)); exact HO612.out) (Kd.R_base ho40) hb)
                        have n2_ := Aside0.mk (Kd.V_elder' (by (with_reducible repeat (first | apply Kd.V_alloc | apply Kd.V_drewN | apply Kd.V_drew)); exact HO616.out) (Kd.R_base ho40) hb)
                        have n3_ := Aside0.mk (Kd.R_elder' (by (with_reducible repeat (first | apply Kd.R_alloc | apply Kd.R_drewN | apply Kd.R_drew)); exact HO622.out) (Kd.R_base ho40) hb)
                        have n4_ := Aside0.mk (Kd.V_elder' (by (with_reducible repeat (first | apply Kd.V_alloc | apply Kd.V_drewN | apply Kd.V_drew)); exact HO628.out) (Kd.R_base ho40) hb)
                        have n5_ := Aside0.mk (Kd.N_elder' (by (with_reducible repeat (first | apply Kd.N_alloc | apply Kd.N_drewN | apply Kd.N_drew)); exact HO631.out) (Kd.R_base ho40) hb)
                        have n6_ := Aside0.mk (Kd.R_elder' (by (with_reducible repeat (first | apply Kd.R_alloc | apply Kd.R_drewN | apply Kd.R_drew)); exact HO634.out) (Kd.R_base ho40) hb)
                        have n7_ := Aside0.mk (Kd.R_elder' (by (with_reducible repeat (first | apply Kd.R_alloc | apply Kd.R_drewN | apply Kd.R_drew)); exact HO639.out) (Kd.R_base ho40) hb)
                        have n8_ := Aside0.mk (Kd.R_lower (Kd.R_new' (Kd.R_new' (Kd.R_new' ho40 (Kd.R_lt (by (with_reducible repeat (first | apply Kd.R_alloc | apply Kd.R_drewN | apply Kd.R_drew)); exact HO622.out))) (Kd.R_lt (by (with_reducible repeat (first | apply Kd.R_alloc | apply Kd.R_drewN | apply Kd.R_drew)); exact HO634.out))) (Kd.R_lt (by (with_reducible repeat (first | apply Kd.R_alloc | apply Kd.R_drewN | apply Kd.R_drew)); exact HO639.out))) (below_size (by repeat (first | (with_reducible first | exact HB.out | apply below_alloc | apply pw_below_drewN | apply below_drew1 | refine below_set ?_ GE619.out | refine below_set ?_ GE636.out) | exact HB.out))))
                        have n9_ := Aside0.mk (blk_below (g := gb619) (o := .cells #[.int .i64 t605, .int .i64 t606, .slice Ao23 t607.length co23, .slice Ao24 t610.length co24, .bool t613, .slice Ao25 t614.length co25, .int .i64 t617] 24 (0, 0)) (by (with_reducible repeat (first | refine blk_drewN ?_ _ | refine blk_drew ?_ | refine blk_alloc ?_ _)); exact BK619.out) hb)
                        have n10_ := Aside0.mk (blk_below (g := gb636) (o := .cells #[.int .i64 t624, .bool t625, .slice Ao31 t626.length co31, .slice Ao32 t629.length co32] 36 (0, 0)) (by (with_reducible repeat (first | refine blk_drewN ?_ _ | refine blk_drew ?_ | refine blk_alloc ?_ _)); exact BK636.out) hb)
                        have n11_ := Aside0.mk (below_step (by repeat (first | (with_reducible first | exact HB.out | apply below_alloc | apply pw_below_drewN | apply below_drew1 | refine below_set ?_ GE619.out | refine below_set ?_ GE636.out) | exact HB.out)) hb)
                        clear HO609
                        clear HO612
                        clear HO616
                        clear HO622
                        clear HO628
                        clear HO631
                        clear HO634
                        clear HO639
                        clear BK619
                        clear BK636
                        clear HB
                        have HO609 := n0_
                        have HO612 := n1_
                        have HO616 := n2_
                        have HO622 := n3_
                        have HO628 := n4_
                        have HO631 := n5_
                        have HO634 := n6_
                        have HO639 := n7_
                        have HO643 := n8_
                        have BK619 := n9_
                        have BK636 := n10_
                        have HB := n11_
                        clear n0_ n1_ n2_ n3_ n4_ n5_ n6_ n7_ n8_ n9_ n10_ n11_
                        clear hb ho40
                        refine hK.out _ _ ⟨(own_string (P := Try.prog) Try.underlying22 Try.underlying5 Try.underlying9 (Kd.own_of_R HO622.out)), (Kd.C_string (P := Try.prog) (A := A0) (c := c0) Try.underlying22 Try.underlying5 Try.underlying9 (Kd.C_below HR0.out HB.out)), (Kd.C_string (P := Try.prog) (A := A1) (c := c1) Try.underlying22 Try.underlying5 Try.underlying9 (Kd.C_below HR1.out HB.out))⟩ (fun hHeld => ?_)
                        clear hK K
                        refine norm_ (a' := ?_) ?_ ?_
                        rotate_left
                        · show Act.put _ (some 70) _ = _
                          simp only [Act.put, List.setIfInBounds_toArray, List.set_cons_zero, List.set_cons_succ, i64_w, i32_w]
                          rfl
                        refine one_ (i := 8) (N := some 72) #[true, true, true, true, true, true, true, true, true, true, false, false, true, true, false, false, false, false] rfl rfl (one_of HT_.out (by kernel_rfl)) (by decide) (fun K hK => ?_)
                        refine Kd.R_append_rows_step (Kd.int .u8) (w0 := w) w.heap.size (by rfl) (.tmp 70) (.tmp 71) 22 5 (.int .u8 0) 1 rfl Try.underlying22 info5 rfl (by decide) (by omega) v642 y641 t637 _ _ _ (fun k_ => some k_ ≠ (v621 : Value).ownBlock ∧ some k_ ≠ (.slice Ao37 t632.length co37 : Value).ownBlock ∧ some k_ ≠ (.slice Ao36 t637.length co36 : Value).ownBlock) (fun _ => False) rfl rfl ?aO ?aR (fun _ _ h => h) (fun _ h => h.elim) ?aF ?aB ?aS ?aL ?_
                        (case aR => repeat (first | exact (Kd.R_reads' HO639.out).2.2 | (with_reducible refine Kd.C_alloc ?_ _) | (with_reducible refine Kd.C_drewN ?_ _) | (with_reducible refine Kd.C_drew ?_)))
                        (case aB => exact (by repeat (first | (with_reducible first | exact HB.out | apply below_alloc | apply pw_below_drewN | apply below_drew1 | refine below_set ?_ GE619.out | refine below_set ?_ GE636.out) | exact HB.out)))
                        (case aF => exact (fun k_ hk => ⟨Kd.fresh' (Kd.R_lt (by (with_reducible repeat (first | apply Kd.R_alloc | apply Kd.R_drewN | apply Kd.R_drew)); exact HO622.out)) k_ hk, Kd.fresh' (Kd.R_lt (by (with_reducible repeat (first | apply Kd.R_alloc | apply Kd.R_drewN | apply Kd.R_drew)); exact HO634.out)) k_ hk, Kd.fresh' (Kd.R_lt (by (with_reducible repeat (first | apply Kd.R_alloc | apply Kd.R_drewN | apply Kd.R_drew)); exact HO639.out)) k_ hk⟩))
                        (case aO => exact (by (with_reducible repeat (first | apply Kd.R_alloc | apply Kd.R_drewN | apply Kd.R_drew)); exact Kd.R_mono HO643.out (fun _ hk => ⟨hk.1.1.2, ⟨hk.1.2, hk.2⟩⟩)))
                        (case aS => exact (below_size (by repeat (first | (with_reducible first | exact HB.out | apply below_alloc | apply pw_below_drewN | apply below_drew1 | refine below_set ?_ GE619.out | refine below_set ?_ GE636.out) | exact HB.out))))
                        (case aL => have := LMc16.out; omega)
                        intro v645 w41 ho hb hg hat
                        rw [← Ny644.out] at ho
                        have n0_ := Aside0.mk (Kd.V_afterv (ok := (fun k_ => some k_ ≠ (v621 : Value).ownBlock ∧ some k_ ≠ (.slice Ao32 t629.length co32 : Value).ownBlock ∧ some k_ ≠ (.slice Ao37 t632.length co37 : Value).ownBlock ∧ some k_ ≠ (.slice Ao36 t637.length co36 : Value).ownBlock ∧ k_ ≠ gb619 ∧ k_ ≠ gb636)) (by (with_reducible repeat (first | apply Kd.V_alloc | apply Kd.V_drewN | apply Kd.V_drew)); exact Kd.V_mono HO609.out (fun _ hk => ⟨⟨hk.1.1.1.1.1.2, ⟨hk.1.1.1.1.2, ⟨hk.1.1.1.2, ⟨hk.1.2, ⟨hk.1.1.1.1.1.1.2, hk.1.1.2⟩⟩⟩⟩⟩, hk.2⟩)) hg hat)
                        have n1_ := Aside0.mk (Kd.V_afterv (ok := (fun k_ => some k_ ≠ (v621 : Value).ownBlock ∧ some k_ ≠ (.slice Ao32 t629.length co32 : Value).ownBlock ∧ some k_ ≠ (.slice Ao37 t632.length co37 : Value).ownBlock ∧ some k_ ≠ (.slice Ao36 t637.length co36 : Value).ownBlock ∧ k_ ≠ gb619 ∧ k_ ≠ gb636)) (by (with_reducible repeat (first | apply Kd.V_alloc | apply Kd.V_drewN | apply Kd.V_drew)); exact Kd.V_mono HO612.out (fun _ hk => ⟨⟨hk.1.1.1.1.1.2, ⟨hk.1.1.1.1.2, ⟨hk.1.1.1.2, ⟨hk.1.2, ⟨hk.1.1.1.1.1.1.2, hk.1.1.2⟩⟩⟩⟩⟩, hk.2⟩)) hg hat)
                        have n2_ := Aside0.mk (Kd.V_afterv (ok := (fun k_ => some k_ ≠ (v621 : Value).ownBlock ∧ some k_ ≠ (.slice Ao32 t629.length co32 : Value).ownBlock ∧ some k_ ≠ (.slice Ao37 t632.length co37 : Value).ownBlock ∧ some k_ ≠ (.slice Ao36 t637.length co36 : Value).ownBlock ∧ k_ ≠ gb619 ∧ k_ ≠ gb636)) (by (with_reducible repeat (first | apply Kd.V_alloc | apply Kd.V_drewN | apply Kd.V_drew)); exact Kd.V_mono HO616.out (fun _ hk => ⟨⟨hk.1.1.1.1.1.2, ⟨hk.1.1.1.1.2, ⟨hk.1.1.1.2, ⟨hk.1.2, ⟨hk.1.1.1.1.1.1.2, hk.1.1.2⟩⟩⟩⟩⟩, hk.2⟩)) hg hat)
                        have n3_ := Aside0.mk (blk_grown (g := gb619) (o := .cells #[.int .i64 t605, .int .i64 t606, .slice Ao23 t607.length co23, .slice Ao24 t610.length co24, .bool t613, .slice Ao25 t614.length co25, .int .i64 t617] 24 (0, 0)) (by (with_reducible repeat (first | refine blk_drewN ?_ _ | refine blk_drew ?_ | refine blk_alloc ?_ _)); exact BK619.out) hg (Kd.R_ne HO643.out BK619.out (by decide)))
                        have n4_ := Aside0.mk (Kd.R_after (ok := (fun k_ => some k_ ≠ (.slice Ao37 t632.length co37 : Value).ownBlock ∧ some k_ ≠ (.slice Ao36 t637.length co36 : Value).ownBlock)) (by (with_reducible repeat (first | apply Kd.R_alloc | apply Kd.R_drewN | apply Kd.R_drew)); exact Kd.R_mono HO622.out (fun _ hk => ⟨⟨hk.1.1.2, hk.1.2⟩, hk.2⟩)) hg hat)
                        have n5_ := Aside0.mk (Kd.V_afterv (ok := (fun k_ => some k_ ≠ (v621 : Value).ownBlock ∧ some k_ ≠ (.slice Ao32 t629.length co32 : Value).ownBlock ∧ some k_ ≠ (.slice Ao37 t632.length co37 : Value).ownBlock ∧ some k_ ≠ (.slice Ao36 t637.length co36 : Value).ownBlock ∧ k_ ≠ gb619 ∧ k_ ≠ gb636)) (by (with_reducible repeat (first | apply Kd.V_alloc | apply Kd.V_drewN | apply Kd.V_drew)); exact Kd.V_mono HO628.out (fun _ hk => ⟨⟨hk.1.1.1.2.2.1, ⟨hk.1.1.1.1, ⟨hk.1.1.1.2.1, ⟨hk.1.2, ⟨hk.1.1.1.2.2.2, hk.1.1.2⟩⟩⟩⟩⟩, hk.2⟩)) hg hat)
                        have n6_ := Aside0.mk (Kd.N_afterv (ok := (fun k_ => some k_ ≠ (v621 : Value).ownBlock ∧ some k_ ≠ (.slice Ao37 t632.length co37 : Value).ownBlock ∧ some k_ ≠ (.slice Ao36 t637.length co36 : Value).ownBlock ∧ k_ ≠ gb619 ∧ k_ ≠ gb636)) (by (with_reducible repeat (first | apply Kd.N_alloc | apply Kd.N_drewN | apply Kd.N_drew)); exact Kd.N_mono HO631.out (fun _ hk => ⟨⟨hk.1.1.1.2.1, ⟨hk.1.1.1.1, ⟨hk.1.2, ⟨hk.1.1.1.2.2, hk.1.1.2⟩⟩⟩⟩, hk.2⟩)) hg hat)
                        have n7_ := Aside0.mk (Kd.R_after (ok := (fun k_ => some k_ ≠ (v621 : Value).ownBlock ∧ some k_ ≠ (.slice Ao36 t637.length co36 : Value).ownBlock)) (by (with_reducible repeat (first | apply Kd.R_alloc | apply Kd.R_drewN | apply Kd.R_drew)); exact Kd.R_mono HO634.out (fun _ hk => ⟨⟨hk.1.1.2, hk.1.2⟩, hk.2⟩)) hg hat)
                        have n8_ := Aside0.mk (blk_grown (g := gb636) (o := .cells #[.int .i64 t624, .bool t625, .slice Ao31 t626.length co31, .slice Ao32 t629.length co32] 36 (0, 0)) (by (with_reducible repeat (first | refine blk_drewN ?_ _ | refine blk_drew ?_ | refine blk_alloc ?_ _)); exact BK636.out) hg (Kd.R_ne HO643.out BK636.out (by decide)))
                        have n9_ := Aside0.mk (Kd.R_after (ok := (fun k_ => some k_ ≠ (v621 : Value).ownBlock ∧ some k_ ≠ (.slice Ao37 t632.length co37 : Value).ownBlock)) (by (with_reducible repeat (first | apply Kd.R_alloc | apply Kd.R_drewN | apply Kd.R_drew)); exact Kd.R_mono HO639.out (fun _ hk => ⟨⟨hk.1.1.2, hk.1.2⟩, hk.2⟩)) hg hat)
                        have n10_ := Aside0.mk (hb)
                        have n11_ := Aside0.mk (ho)
                        clear HO609
                        clear HO612
                        clear HO616
                        clear BK619
                        clear HO622
                        clear HO628
                        clear HO631
                        clear HO634
                        clear BK636
                        clear HO639
                        clear HB
                        clear HO643
                        have HO609 := n0_
                        have HO612 := n1_
                        have HO616 := n2_
                        have BK619 := n3_
                        have HO622 := n4_
                        have HO628 := n5_
                        have HO631 := n6_
                        have HO634 := n7_
                        have BK636 := n8_
                        have HO639 := n9_
                        have HB := n10_
                        have HO646 := n11_
                        clear n0_ n1_ n2_ n3_ n4_ n5_ n6_ n7_ n8_ n9_ n10_ n11_
                        clear ho hb hg hat
                        refine hK.out _ _ ⟨(own_string (P := Try.prog) Try.underlying22 Try.underlying5 Try.underlying9 (Kd.own_of_R HO622.out)), (Kd.C_string (P := Try.prog) (A := A0) (c := c0) Try.underlying22 Try.underlying5 Try.underlying9 (Kd.C_below HR0.out HB.out)), (Kd.C_string (P := Try.prog) (A := A1) (c := c1) Try.underlying22 Try.underlying5 Try.underlying9 (Kd.C_below HR1.out HB.out))⟩ (fun hHeld => ?_)
                        clear hK K
                        refine norm_ (a' := ?_) ?_ ?_
                        rotate_left
                        · show Act.put _ (some 72) _ = _
                          simp only [Act.put, List.setIfInBounds_toArray, List.set_cons_zero, List.set_cons_succ, i64_w, i32_w]
                          rfl
                        refine one_ (i := 10) (N := some 74) #[true, true, true, true, true, true, true, true, true, true, true, false, true, true, false, false, false, false] rfl rfl (one_of HT_.out (by kernel_rfl)) (by decide) (fun K hK => ?_)
                        refine Kd.R_append_rows_step (Kd.int .u8) (w0 := w) w.heap.size (by rfl) (.tmp 72) (.tmp 73) 22 5 (.int .u8 0) 1 rfl Try.underlying22 info5 rfl (by decide) (by omega) v645 y644 t632 _ _ _ (fun k_ => some k_ ≠ (v621 : Value).ownBlock ∧ some k_ ≠ (.slice Ao37 t632.length co37 : Value).ownBlock ∧ some k_ ≠ (.slice Ao36 t637.length co36 : Value).ownBlock) (fun _ => False) rfl rfl ?aO ?aR (fun _ _ h => h) (fun _ h => h.elim) ?aF ?aB ?aS ?aL ?_
                        (case aR => repeat (first | exact (Kd.R_reads' HO634.out).2.2 | (with_reducible refine Kd.C_alloc ?_ _) | (with_reducible refine Kd.C_drewN ?_ _) | (with_reducible refine Kd.C_drew ?_)))
                        (case aB => exact (by repeat (first | (with_reducible first | exact HB.out | apply below_alloc | apply pw_below_drewN | apply below_drew1 | refine below_set ?_ GE619.out | refine below_set ?_ GE636.out) | exact HB.out)))
                        (case aF => exact (fun k_ hk => ⟨Kd.fresh' (Kd.R_lt (by (with_reducible repeat (first | apply Kd.R_alloc | apply Kd.R_drewN | apply Kd.R_drew)); exact HO622.out)) k_ hk, Kd.fresh' (Kd.R_lt (by (with_reducible repeat (first | apply Kd.R_alloc | apply Kd.R_drewN | apply Kd.R_drew)); exact HO634.out)) k_ hk, Kd.fresh' (Kd.R_lt (by (with_reducible repeat (first | apply Kd.R_alloc | apply Kd.R_drewN | apply Kd.R_drew)); exact HO639.out)) k_ hk⟩))
                        (case aO => exact (by (with_reducible repeat (first | apply Kd.R_alloc | apply Kd.R_drewN | apply Kd.R_drew)); exact HO646.out))
                        (case aS => exact (below_size (by repeat (first | (with_reducible first | exact HB.out | apply below_alloc | apply pw_below_drewN | apply below_drew1 | refine below_set ?_ GE619.out | refine below_set ?_ GE636.out) | exact HB.out))))
                        (case aL => have := LMc17.out; omega)
                        intro v648 w42 ho hb hg hat
                        rw [← Ny647.out] at ho
                        have n0_ := Aside0.mk (Kd.V_afterv (ok := (fun k_ => some k_ ≠ (v621 : Value).ownBlock ∧ some k_ ≠ (.slice Ao32 t629.length co32 : Value).ownBlock ∧ some k_ ≠ (.slice Ao37 t632.length co37 : Value).ownBlock ∧ some k_ ≠ (.slice Ao36 t637.length co36 : Value).ownBlock ∧ k_ ≠ gb619 ∧ k_ ≠ gb636)) (by (with_reducible repeat (first | apply Kd.V_alloc | apply Kd.V_drewN | apply Kd.V_drew)); exact HO609.out) hg hat)
                        have n1_ := Aside0.mk (Kd.V_afterv (ok := (fun k_ => some k_ ≠ (v621 : Value).ownBlock ∧ some k_ ≠ (.slice Ao32 t629.length co32 : Value).ownBlock ∧ some k_ ≠ (.slice Ao37 t632.length co37 : Value).ownBlock ∧ some k_ ≠ (.slice Ao36 t637.length co36 : Value).ownBlock ∧ k_ ≠ gb619 ∧ k_ ≠ gb636)) (by (with_reducible repeat (first | apply Kd.V_alloc | apply Kd.V_drewN | apply Kd.V_drew)); exact HO612.out) hg hat)
                        have n2_ := Aside0.mk (Kd.V_afterv (ok := (fun k_ => some k_ ≠ (v621 : Value).ownBlock ∧ some k_ ≠ (.slice Ao32 t629.length co32 : Value).ownBlock ∧ some k_ ≠ (.slice Ao37 t632.length co37 : Value).ownBlock ∧ some k_ ≠ (.slice Ao36 t637.length co36 : Value).ownBlock ∧ k_ ≠ gb619 ∧ k_ ≠ gb636)) (by (with_reducible repeat (first | apply Kd.V_alloc | apply Kd.V_drewN | apply Kd.V_drew)); exact HO616.out) hg hat)
                        have n3_ := Aside0.mk (blk_grown (g := gb619) (o := .cells #[.int .i64 t605, .int .i64 t606, .slice Ao23 t607.length co23, .slice Ao24 t610.length co24, .bool t613, .slice Ao25 t614.length co25, .int .i64 t617] 24 (0, 0)) (by (with_reducible repeat (first | refine blk_drewN ?_ _ | refine blk_drew ?_ | refine blk_alloc ?_ _)); exact BK619.out) hg (Kd.R_ne HO646.out BK619.out (by decide)))
                        have n4_ := Aside0.mk (Kd.R_after (ok := (fun k_ => some k_ ≠ (.slice Ao37 t632.length co37 : Value).ownBlock ∧ some k_ ≠ (.slice Ao36 t637.length co36 : Value).ownBlock)) (by (with_reducible repeat (first | apply Kd.R_alloc | apply Kd.R_drewN | apply Kd.R_drew)); exact HO622.out) hg hat)
                        have n5_ := Aside0.mk (Kd.V_afterv (ok := (fun k_ => some k_ ≠ (v621 : Value).ownBlock ∧ some k_ ≠ (.slice Ao32 t629.length co32 : Value).ownBlock ∧ some k_ ≠ (.slice Ao37 t632.length co37 : Value).ownBlock ∧ some k_ ≠ (.slice Ao36 t637.length co36 : Value).ownBlock ∧ k_ ≠ gb619 ∧ k_ ≠ gb636)) (by (with_reducible repeat (first | apply Kd.V_alloc | apply Kd.V_drewN | apply Kd.V_drew)); exact HO628.out) hg hat)
                        have n6_ := Aside0.mk (Kd.N_afterv (ok := (fun k_ => some k_ ≠ (v621 : Value).ownBlock ∧ some k_ ≠ (.slice Ao37 t632.length co37 : Value).ownBlock ∧ some k_ ≠ (.slice Ao36 t637.length co36 : Value).ownBlock ∧ k_ ≠ gb619 ∧ k_ ≠ gb636)) (by (with_reducible repeat (first | apply Kd.N_alloc | apply Kd.N_drewN | apply Kd.N_drew)); exact HO631.out) hg hat)
                        have n7_ := Aside0.mk (Kd.R_after (ok := (fun k_ => some k_ ≠ (v621 : Value).ownBlock ∧ some k_ ≠ (.slice Ao36 t637.length co36 : Value).ownBlock)) (by (with_reducible repeat (first | apply Kd.R_alloc | apply Kd.R_drewN | apply Kd.R_drew)); exact HO634.out) hg hat)
                        have n8_ := Aside0.mk (blk_grown (g := gb636) (o := .cells #[.int .i64 t624, .bool t625, .slice Ao31 t626.length co31, .slice Ao32 t629.length co32] 36 (0, 0)) (by (with_reducible repeat (first | refine blk_drewN ?_ _ | refine blk_drew ?_ | refine blk_alloc ?_ _)); exact BK636.out) hg (Kd.R_ne HO646.out BK636.out (by decide)))
                        have n9_ := Aside0.mk (Kd.R_after (ok := (fun k_ => some k_ ≠ (v621 : Value).ownBlock ∧ some k_ ≠ (.slice Ao37 t632.length co37 : Value).ownBlock)) (by (with_reducible repeat (first | apply Kd.R_alloc | apply Kd.R_drewN | apply Kd.R_drew)); exact HO639.out) hg hat)
                        have n10_ := Aside0.mk (hb)
                        have n11_ := Aside0.mk (ho)
                        clear HO609
                        clear HO612
                        clear HO616
                        clear BK619
                        clear HO622
                        clear HO628
                        clear HO631
                        clear HO634
                        clear BK636
                        clear HO639
                        clear HB
                        clear HO646
                        have HO609 := n0_
                        have HO612 := n1_
                        have HO616 := n2_
                        have BK619 := n3_
                        have HO622 := n4_
                        have HO628 := n5_
                        have HO631 := n6_
                        have HO634 := n7_
                        have BK636 := n8_
                        have HO639 := n9_
                        have HB := n10_
                        have HO649 := n11_
                        clear n0_ n1_ n2_ n3_ n4_ n5_ n6_ n7_ n8_ n9_ n10_ n11_
                        clear ho hb hg hat
                        have hcv44 := Kd.C_string (P := Try.prog) (A := A1) (c := c1) Try.underlying22 Try.underlying5 Try.underlying9 (Kd.C_below HR1.out HB.out)
                        refine hK.out _ _ ⟨(own_string (P := Try.prog) Try.underlying22 Try.underlying5 Try.underlying9 (Kd.own_of_R HO622.out)), (Kd.C_string (P := Try.prog) (A := A0) (c := c0) Try.underlying22 Try.underlying5 Try.underlying9 (Kd.C_below HR0.out HB.out)), (Kd.C_string (P := Try.prog) (A := A1) (c := c1) Try.underlying22 Try.underlying5 Try.underlying9 (Kd.C_below HR1.out HB.out))⟩ (fun hHeld => ?_)
                        clear hK K
                        refine norm_ (a' := ?_) ?_ ?_
                        rotate_left
                        · show Act.put _ (some 74) _ = _
                          simp only [Act.put, List.setIfInBounds_toArray, List.set_cons_zero, List.set_cons_succ, i64_w, i32_w]
                          rfl
                        refine one_ (i := 11) (N := some 75) #[true, true, true, true, true, true, true, true, true, true, true, true, true, true, false, false, false, false] rfl rfl (one_of HT_.out (by kernel_rfl)) (by decide) (fun K hK => ?_)
                        have hcv43 := own_string (P := Try.prog) Try.underlying22 Try.underlying5 Try.underlying9 (Kd.own_of_R HO649.out)
                        refine value_ (w1 := ?_) (v := ?_) (by rfl) rfl ?_ ?_
                        rotate_left 2
                        · go_simp
                          constructor
                          · rfl
                          · rfl
                        clear hcv43
                        refine hK.out _ _ ⟨(own_string (P := Try.prog) Try.underlying22 Try.underlying5 Try.underlying9 (Kd.own_of_R HO622.out)), (Kd.C_string (P := Try.prog) (A := A0) (c := c0) Try.underlying22 Try.underlying5 Try.underlying9 (Kd.C_below HR0.out HB.out)), (Kd.C_string (P := Try.prog) (A := A1) (c := c1) Try.underlying22 Try.underlying5 Try.underlying9 (Kd.C_below HR1.out HB.out))⟩ (fun hHeld => ?_)
                        clear hK K
                        refine norm_ (a' := ?_) ?_ ?_
                        rotate_left
                        · show Act.put _ (some 75) _ = _
                          simp only [Act.put, List.setIfInBounds_toArray, List.set_cons_zero, List.set_cons_succ, i64_w, i32_w]
                          rfl
                        refine pure_ (i := 14) (N := some 78) (v := ?_) (a' := ?_) #[true, true, true, true, true, true, true, true, true, true, true, true, true, true, true, false, false, false] rfl rfl (any_of HT_.out (by kernel_rfl)) (fun _ _ _ h => h) (Or.inl ⟨by rfl, ?_⟩) ?_ ?_
                        rotate_left
                        · intro w'
                          go_simp
                          with_reducible rfl
                        rotate_left
                        · simp only [Act.put, List.setIfInBounds_toArray, List.set_cons_zero, List.set_cons_succ, i64_w, i32_w]
                          rfl
                        refine pure_ (i := 15) (N := some 79) (v := ?_) (a' := ?_) #[true, true, true, true, true, true, true, true, true, true, true, true, true, true, true, true, false, false] rfl rfl (any_of HT_.out (by kernel_rfl)) (fun _ _ _ h => h) (Or.inl ⟨by rfl, ?_⟩) ?_ ?_
                        rotate_left
                        · intro w'
                          go_simp
                          with_reducible rfl
                        rotate_left
                        · simp only [Act.put, List.setIfInBounds_toArray, List.set_cons_zero, List.set_cons_succ, i64_w, i32_w]
                          rfl
                        refine pure_ (i := 16) (N := some 80) (v := ?_) (a' := ?_) #[true, true, true, true, true, true, true, true, true, true, true, true, true, true, true, true, true, false] rfl rfl (any_of HT_.out (by kernel_rfl)) (fun _ _ _ h => h) (Or.inl ⟨by rfl, ?_⟩) ?_ ?_
                        rotate_left
                        · intro w'
                          go_simp
                          with_reducible rfl
                        rotate_left
                        · simp only [Act.put, List.setIfInBounds_toArray, List.set_cons_zero, List.set_cons_succ, i64_w, i32_w]
                          rfl
                        refine pure_ (i := 17) (N := some 17) (v := ?_) (a' := ?_) #[true, true, true, true, true, true, true, true, true, true, true, true, true, true, true, true, true, true] rfl rfl (any_of HT_.out (by kernel_rfl)) (fun _ _ _ h => h) (Or.inl ⟨by rfl, ?_⟩) ?_ ?_
                        rotate_left
                        · intro w'
                          go_simp
                          with_reducible rfl
                        rotate_left
                        · simp only [Act.put, List.setIfInBounds_toArray, List.set_cons_zero, List.set_cons_succ, i64_w, i32_w]
                          rfl
                        refine done_ (done_of HT_.out (by kernel_rfl)) ?_
                        try go_wp2
                        go_ret
                        exact ⟨by first | rfl | (simp [errW_none, errW_some] <;> rfl) | (simp [*, errW_none, errW_some] <;> rfl), by repeat (first | (with_reducible first | exact HB.out | apply below_alloc | apply pw_below_drewN | apply below_drew1 | refine below_set ?_ GE619.out | refine below_set ?_ GE636.out) | exact HB.out)⟩
                      · rw [if_neg c19] at H
                        rw [HTr_] at H
                        exact absurd (Option.some.inj H) (by decide)
                    · replace c18 := Bool.eq_false_iff.mpr c18
                      subst c18
                      have H1 : (some false) = some r := by rw [if_neg (show ¬ (false = true) by decide)] at H; exact H
                      rw [HTr_] at H1
                      exact absurd (Option.some.inj H1) (by decide)
                  · rw [if_neg c17] at H
                    exact absurd H (by simp)
                · rw [if_neg c16] at H
                  exact absurd H (by simp)
              · rw [if_neg c15] at H
                have c15b0 : (t640 == 0) = false := beq_eq_false_iff_ne.mpr c15
                have c15b1 : (t640 != 0) = true := bne_iff_ne.mpr c15
                by_cases c98 : t603 = true
                · subst c98
                  have H1 : (if (strOfNums t620).toList = (strOfNums l0).toList then (some false) else (some false)) = some r := by rw [if_pos rfl] at H; exact H
                  clear H
                  have H := H1
                  clear H1
                  by_cases c99 : (strOfNums t620).toList = (strOfNums l0).toList
                  · rw [if_pos c99] at H
                    rw [HTr_] at H
                    exact absurd (Option.some.inj H) (by decide)
                  · rw [if_neg c99] at H
                    rw [HTr_] at H
                    exact absurd (Option.some.inj H) (by decide)
                · replace c98 := Bool.eq_false_iff.mpr c98
                  subst c98
                  have H1 : (some false) = some r := by rw [if_neg (show ¬ (false = true) by decide)] at H; exact H
                  rw [HTr_] at H1
                  exact absurd (Option.some.inj H1) (by decide)
            · rw [if_neg c14] at H
              have c14b0 : (t635 == 0) = false := beq_eq_false_iff_ne.mpr c14
              have c14b1 : (t635 != 0) = true := bne_iff_ne.mpr c14
              by_cases c151 : t603 = true
              · subst c151
                have H1 : (if (strOfNums t620).toList = (strOfNums l0).toList then (some true) else (some false)) = some r := by rw [if_pos rfl] at H; exact H
                clear H
                have H := H1
                clear H1
                by_cases c152 : (strOfNums t620).toList = (strOfNums l0).toList
                · rw [if_pos c152] at H
                  have c152b0 : ((strOfNums t620).toList == (strOfNums l0).toList) = true := beq_iff_eq.mpr c152
                  have c152b1 : ((strOfNums t620).toList != (strOfNums l0).toList) = false := bne_eq_false_iff_eq.mpr c152
                  clear c152
                  obtain rfl := Option.some.inj H
                  try go_wp2_with (first | ((with_reducible refine gate_callee (f := 12) rfl ?_); refine goesL_ (some 30) rfl rfl Try.func12 (by kernel_rfl) rfl #[.slice A0 l0.length c0] rfl (by (try simp only [List.map_toArray, List.map_cons, List.map_nil]); first | done | rfl | (simp only [List.length_drop, List.length_take]; rfl)) ?_; (with_reducible refine (wire_Read.calls _ _ l0 t604 t605 t606 t607 t610 t613 t614 t617 t618 _ ?side1 ?side2 A8.out).mono ?_); (case side1 => repeat (first | exact (Kd.C_below HR0.out HB.out) | (with_reducible refine Kd.C_alloc ?_ _) | (with_reducible refine Kd.C_drewN ?_ _) | (with_reducible refine Kd.C_drew ?_))); (case side2 => exact HC0.out); rintro e w153 ⟨v608, v611, v615, rfl, ho0, ho1, ho2, hb⟩; refine ⟨_, rfl, ?_⟩; have n0_ := Aside0.mk (Kd.V_lower (Kd.V_mono (ok' := fun k_ => True) ho0 (fun k_ hk_ => trivial)) (below_size (by repeat (first | (with_reducible first | exact HB.out | apply below_alloc | apply pw_below_drewN | apply below_drew1) | exact HB.out)))); have n1_ := Aside0.mk (Kd.V_lower (Kd.V_mono (ok' := fun k_ => True) ho1 (fun k_ hk_ => trivial)) (below_size (by repeat (first | (with_reducible first | exact HB.out | apply below_alloc | apply pw_below_drewN | apply below_drew1) | exact HB.out)))); have n2_ := Aside0.mk (Kd.V_lower (Kd.V_mono (ok' := fun k_ => True) ho2 (fun k_ hk_ => trivial)) (below_size (by repeat (first | (with_reducible first | exact HB.out | apply below_alloc | apply pw_below_drewN | apply below_drew1) | exact HB.out)))); have n3_ := Aside0.mk (below_step (by repeat (first | (with_reducible first | exact HB.out | apply below_alloc | apply pw_below_drewN | apply below_drew1) | exact HB.out)) hb); clear HB; have HO609 := n0_; have HO612 := n1_; have HO616 := n2_; have HB := n3_; clear n0_ n1_ n2_ n3_; (try clear hb); (try clear hb2); (try clear hk); (try clear hi); (try clear ho0); (try clear ho1); (try clear ho2)) | ((with_reducible refine gate_dst (N := 7) rfl ?_); (try (refine gate_guard (by rfl) ?_; dsimp only)); refine box_event ?hg (N := 7) ?hd (cs := #[.int .i64 0, .int .i64 0, .slice none 0 0, .slice none 0 0, .bool false, .slice none 0 0, .int .i64 0]) (t := 24) ?hr ?_; (case hd => rfl); (case hg => rfl); (case hr => first | (go_simp; done) | (go_simp; rfl)); intro gb619 hg w154 hbox hb; have n0_ := Aside0.mk (Kd.V_below (Kd.V_elderB (by (with_reducible repeat (first | apply Kd.V_alloc | apply Kd.V_drewN | apply Kd.V_drew)); exact HO609.out) gb619 (Nat.le_of_eq hg.symm)) hb); have n1_ := Aside0.mk (Kd.V_below (Kd.V_elderB (by (with_reducible repeat (first | apply Kd.V_alloc | apply Kd.V_drewN | apply Kd.V_drew)); exact HO612.out) gb619 (Nat.le_of_eq hg.symm)) hb); have n2_ := Aside0.mk (Kd.V_below (Kd.V_elderB (by (with_reducible repeat (first | apply Kd.V_alloc | apply Kd.V_drewN | apply Kd.V_drew)); exact HO616.out) gb619 (Nat.le_of_eq hg.symm)) hb); have n3_ := Aside0.mk (below_step (by repeat (first | (with_reducible first | exact HB.out | apply below_alloc | apply pw_below_drewN | apply below_drew1) | exact HB.out)) hb); have n4_ := Aside0.mk (hbox); have n5_ := Aside0.mk ((by rw [hg]; exact (below_size (by repeat (first | (with_reducible first | exact HB.out | apply below_alloc | apply pw_below_drewN | apply below_drew1) | exact HB.out))) : w.heap.size ≤ gb619)); have n6_ := Aside0.mk ((by rw [hg]; exact (below_size (by repeat (first | (with_reducible first | exact HB.out | apply below_alloc | apply pw_below_drewN | apply below_drew1) | exact HB.out))) : w.heap.size ≤ gb619)); clear HO609; clear HO612; clear HO616; clear HB; have HO609 := n0_; have HO612 := n1_; have HO616 := n2_; have HB := n3_; have BK619 := n4_; have GW619 := n5_; have GE619 := n6_; clear n0_ n1_ n2_ n3_ n4_ n5_ n6_; clear hb hbox hg; have hcz155_0 : w154.cell? ⟨gb619, 0, none⟩ = some (.int .i64 0) := (blk_cell BK619.out 0).trans rfl; have hcz155_1 : w154.cell? ⟨gb619, 1, none⟩ = some (.int .i64 0) := (blk_cell BK619.out 1).trans rfl; have hcz155_2 : w154.cell? ⟨gb619, 2, none⟩ = some (.slice none 0 0) := (blk_cell BK619.out 2).trans rfl; have hcz155_3 : w154.cell? ⟨gb619, 3, none⟩ = some (.slice none 0 0) := (blk_cell BK619.out 3).trans rfl; have hcz155_4 : w154.cell? ⟨gb619, 4, none⟩ = some (.bool false) := (blk_cell BK619.out 4).trans rfl; have hcz155_5 : w154.cell? ⟨gb619, 5, none⟩ = some (.slice none 0 0) := (blk_cell BK619.out 5).trans rfl; have hcz155_6 : w154.cell? ⟨gb619, 6, none⟩ = some (.int .i64 0) := (blk_cell BK619.out 6).trans rfl; have hfz155_0 := blk_frozen BK619.out 0; have hfz155_1 := blk_frozen BK619.out 1; have hfz155_2 := blk_frozen BK619.out 2; have hfz155_3 := blk_frozen BK619.out 3; have hfz155_4 := blk_frozen BK619.out 4; have hfz155_5 := blk_frozen BK619.out 5; have hfz155_6 := blk_frozen BK619.out 6; obtain ⟨Ao156, co156, eo156⟩ := Kd.V_slice HO609.out; subst eo156; obtain ⟨Ao157, co157, eo157⟩ := Kd.V_slice HO612.out; subst eo157; obtain ⟨Ao158, co158, eo158⟩ := Kd.V_slice HO616.out; subst eo158) | ((with_reducible refine gate_callee (f := 10) rfl ?_); refine goesL_ (some 37) rfl rfl Try.func10 (by kernel_rfl) rfl #[.int .i64 t604, .agg #[.int .i64 t605, .int .i64 t606, .slice Ao156 t607.length co156, .slice Ao157 t610.length co157, .bool t613, .slice Ao158 t614.length co158, .int .i64 t617]] rfl (by (try simp only [List.map_toArray, List.map_cons, List.map_nil]); first | done | rfl | (simp only [List.length_drop, List.length_take]; rfl)) ?_; (with_reducible refine (wire_Write.calls t604 t605 t606 _ _ t607 _ _ t610 t613 _ _ t614 t617 t620 t623 _ ?side1 ?side2 ?side3 ?side4 ?side5 ?side6 A9.out).mono ?_); (case side1 => refine (Kd.V_reads' (e := 5) (base := w.heap.size) (ok := fun k_ => (True ∧ k_ ≠ gb619)) (n := t607.length) (c := co156) ?_).2.2; exact (by (with_reducible repeat (first | apply Kd.V_alloc | apply Kd.V_drewN | apply Kd.V_drew)); exact (Kd.V_mono (Kd.V_far (p := ⟨gb619, 6, none⟩) (Kd.V_far (p := ⟨gb619, 5, none⟩) (Kd.V_far (p := ⟨gb619, 4, none⟩) (Kd.V_far (p := ⟨gb619, 3, none⟩) (Kd.V_far (p := ⟨gb619, 2, none⟩) (Kd.V_far (p := ⟨gb619, 1, none⟩) (Kd.V_far (p := ⟨gb619, 0, none⟩) (Kd.V_mono HO609.out (fun k_ hk => (⟨hk, hk.2⟩ : _ ∧ k_ ≠ gb619))) (fun _ hk => hk.2) (.int .i64 t605)) (fun _ hk => hk.2) (.int .i64 t606)) (fun _ hk => hk.2) (.slice Ao156 t607.length co156)) (fun _ hk => hk.2) (.slice Ao157 t610.length co157)) (fun _ hk => hk.2) (.bool t613)) (fun _ hk => hk.2) (.slice Ao158 t614.length co158)) (fun _ hk => hk.2) (.int .i64 t617)) (fun _ h_ => h_.1)))); (case side2 => exact (Kd.V_reads' HO609.out).2.1); (case side3 => refine (Kd.V_reads' (e := 5) (base := w.heap.size) (ok := fun k_ => (True ∧ k_ ≠ gb619)) (n := t610.length) (c := co157) ?_).2.2; exact (by (with_reducible repeat (first | apply Kd.V_alloc | apply Kd.V_drewN | apply Kd.V_drew)); exact (Kd.V_mono (Kd.V_far (p := ⟨gb619, 6, none⟩) (Kd.V_far (p := ⟨gb619, 5, none⟩) (Kd.V_far (p := ⟨gb619, 4, none⟩) (Kd.V_far (p := ⟨gb619, 3, none⟩) (Kd.V_far (p := ⟨gb619, 2, none⟩) (Kd.V_far (p := ⟨gb619, 1, none⟩) (Kd.V_far (p := ⟨gb619, 0, none⟩) (Kd.V_mono HO612.out (fun k_ hk => (⟨hk, hk.2⟩ : _ ∧ k_ ≠ gb619))) (fun _ hk => hk.2) (.int .i64 t605)) (fun _ hk => hk.2) (.int .i64 t606)) (fun _ hk => hk.2) (.slice Ao156 t607.length co156)) (fun _ hk => hk.2) (.slice Ao157 t610.length co157)) (fun _ hk => hk.2) (.bool t613)) (fun _ hk => hk.2) (.slice Ao158 t614.length co158)) (fun _ hk => hk.2) (.int .i64 t617)) (fun _ h_ => h_.1)))); (case side4 => exact (Kd.V_reads' HO612.out).2.1); (case side5 => refine (Kd.V_reads' (e := 5) (base := w.heap.size) (ok := fun k_ => (True ∧ k_ ≠ gb619)) (n := t614.length) (c := co158) ?_).2.2; exact (by (with_reducible repeat (first | apply Kd.V_alloc | apply Kd.V_drewN | apply Kd.V_drew)); exact (Kd.V_mono (Kd.V_far (p := ⟨gb619, 6, none⟩) (Kd.V_far (p := ⟨gb619, 5, none⟩) (Kd.V_far (p := ⟨gb619, 4, none⟩) (Kd.V_far (p := ⟨gb619, 3, none⟩) (Kd.V_far (p := ⟨gb619, 2, none⟩) (Kd.V_far (p := ⟨gb619, 1, none⟩) (Kd.V_far (p := ⟨gb619, 0, none⟩) (Kd.V_mono HO616.out (fun k_ hk => (⟨hk, hk.2⟩ : _ ∧ k_ ≠ gb619))) (fun _ hk => hk.2) (.int .i64 t605)) (fun _ hk => hk.2) (.int .i64 t606)) (fun _ hk => hk.2) (.slice Ao156 t607.length co156)) (fun _ hk => hk.2) (.slice Ao157 t610.length co157)) (fun _ hk => hk.2) (.bool t613)) (fun _ hk => hk.2) (.slice Ao158 t614.length co158)) (fun _ hk => hk.2) (.int .i64 t617)) (fun _ h_ => h_.1)))); (case side6 => exact (Kd.V_reads' HO616.out).2.1); rintro e w159 ⟨v621, rfl, ho0, hb⟩; refine ⟨_, rfl, ?_⟩; have n0_ := Aside0.mk (Kd.V_elder' (by (with_reducible repeat (first | apply Kd.V_alloc | apply Kd.V_drewN | apply Kd.V_drew)); exact (Kd.V_mono (Kd.V_far (p := ⟨gb619, 6, none⟩) (Kd.V_far (p := ⟨gb619, 5, none⟩) (Kd.V_far (p := ⟨gb619, 4, none⟩) (Kd.V_far (p := ⟨gb619, 3, none⟩) (Kd.V_far (p := ⟨gb619, 2, none⟩) (Kd.V_far (p := ⟨gb619, 1, none⟩) (Kd.V_far (p := ⟨gb619, 0, none⟩) (Kd.V_mono HO609.out (fun k_ hk => (⟨hk, hk.2⟩ : _ ∧ k_ ≠ gb619))) (fun _ hk => hk.2) (.int .i64 t605)) (fun _ hk => hk.2) (.int .i64 t606)) (fun _ hk => hk.2) (.slice Ao156 t607.length co156)) (fun _ hk => hk.2) (.slice Ao157 t610.length co157)) (fun _ hk => hk.2) (.bool t613)) (fun _ hk => hk.2) (.slice Ao158 t614.length co158)) (fun _ hk => hk.2) (.int .i64 t617)) (fun _ h_ => h_.1))) (Kd.R_base ho0) hb); have n1_ := Aside0.mk (Kd.V_elder' (by (with_reducible repeat (first | apply Kd.V_alloc | apply Kd.V_drewN | apply Kd.V_drew)); exact (Kd.V_mono (Kd.V_far (p := ⟨gb619, 6, none⟩) (Kd.V_far (p := ⟨gb619, 5, none⟩) (Kd.V_far (p := ⟨gb619, 4, none⟩) (Kd.V_far (p := ⟨gb619, 3, none⟩) (Kd.V_far (p := ⟨gb619, 2, none⟩) (Kd.V_far (p := ⟨gb619, 1, none⟩) (Kd.V_far (p := ⟨gb619, 0, none⟩) (Kd.V_mono HO612.out (fun k_ hk => (⟨hk, hk.2⟩ : _ ∧ k_ ≠ gb619))) (fun _ hk => hk.2) (.int .i64 t605)) (fun _ hk => hk.2) (.int .i64 t606)) (fun _ hk => hk.2) (.slice Ao156 t607.length co156)) (fun _ hk => hk.2) (.slice Ao157 t610.length co157)) (fun _ hk => hk.2) (.bool t613)) (fun _ hk => hk.2) (.slice Ao158 t614.length co158)) (fun _ hk => hk.2) (.int .i64 t617)) (fun _ h_ => h_.1))) (Kd.R_base ho0) hb); have n2_ := Aside0.mk (Kd.V_elder' (by (with_reducible repeat (first | apply Kd.V_alloc | apply Kd.V_drewN | apply Kd.V_drew)); exact (Kd.V_mono (Kd.V_far (p := ⟨gb619, 6, none⟩) (Kd.V_far (p := ⟨gb619, 5, none⟩) (Kd.V_far (p := ⟨gb619, 4, none⟩) (Kd.V_far (p := ⟨gb619, 3, none⟩) (Kd.V_far (p := ⟨gb619, 2, none⟩) (Kd.V_far (p := ⟨gb619, 1, none⟩) (Kd.V_far (p := ⟨gb619, 0, none⟩) (Kd.V_mono HO616.out (fun k_ hk => (⟨hk, hk.2⟩ : _ ∧ k_ ≠ gb619))) (fun _ hk => hk.2) (.int .i64 t605)) (fun _ hk => hk.2) (.int .i64 t606)) (fun _ hk => hk.2) (.slice Ao156 t607.length co156)) (fun _ hk => hk.2) (.slice Ao157 t610.length co157)) (fun _ hk => hk.2) (.bool t613)) (fun _ hk => hk.2) (.slice Ao158 t614.length co158)) (fun _ hk => hk.2) (.int .i64 t617)) (fun _ h_ => h_.1))) (Kd.R_base ho0) hb); have n3_ := Aside0.mk (Kd.R_lower ho0 (below_size (by repeat (first | (with_reducible first | exact HB.out | apply below_alloc | apply pw_below_drewN | apply below_drew1 | refine below_set ?_ GE619.out) | exact HB.out)))); have n4_ := Aside0.mk (blk_below (g := gb619) (o := .cells #[.int .i64 t605, .int .i64 t606, .slice Ao156 t607.length co156, .slice Ao157 t610.length co157, .bool t613, .slice Ao158 t614.length co158, .int .i64 t617] 24 (0, 0)) (by (with_reducible repeat (first | refine blk_drewN ?_ _ | refine blk_drew ?_ | refine blk_alloc ?_ _)); refine blk_put (cs := #[.int .i64 t605, .int .i64 t606, .slice Ao156 t607.length co156, .slice Ao157 t610.length co157, .bool t613, .slice Ao158 t614.length co158, .int .i64 0]) ?_ 6 _ rfl; (with_reducible repeat (first | refine blk_drewN ?_ _ | refine blk_drew ?_ | refine blk_alloc ?_ _)); refine blk_put (cs := #[.int .i64 t605, .int .i64 t606, .slice Ao156 t607.length co156, .slice Ao157 t610.length co157, .bool t613, .slice none 0 0, .int .i64 0]) ?_ 5 _ rfl; (with_reducible repeat (first | refine blk_drewN ?_ _ | refine blk_drew ?_ | refine blk_alloc ?_ _)); refine blk_put (cs := #[.int .i64 t605, .int .i64 t606, .slice Ao156 t607.length co156, .slice Ao157 t610.length co157, .bool false, .slice none 0 0, .int .i64 0]) ?_ 4 _ rfl; (with_reducible repeat (first | refine blk_drewN ?_ _ | refine blk_drew ?_ | refine blk_alloc ?_ _)); refine blk_put (cs := #[.int .i64 t605, .int .i64 t606, .slice Ao156 t607.length co156, .slice none 0 0, .bool false, .slice none 0 0, .int .i64 0]) ?_ 3 _ rfl; (with_reducible repeat (first | refine blk_drewN ?_ _ | refine blk_drew ?_ | refine blk_alloc ?_ _)); refine blk_put (cs := #[.int .i64 t605, .int .i64 t606, .slice none 0 0, .slice none 0 0, .bool false, .slice none 0 0, .int .i64 0]) ?_ 2 _ rfl; (with_reducible repeat (first | refine blk_drewN ?_ _ | refine blk_drew ?_ | refine blk_alloc ?_ _)); refine blk_put (cs := #[.int .i64 t605, .int .i64 0, .slice none 0 0, .slice none 0 0, .bool false, .slice none 0 0, .int .i64 0]) ?_ 1 _ rfl; (with_reducible repeat (first | refine blk_drewN ?_ _ | refine blk_drew ?_ | refine blk_alloc ?_ _)); refine blk_put (cs := #[.int .i64 0, .int .i64 0, .slice none 0 0, .slice none 0 0, .bool false, .slice none 0 0, .int .i64 0]) ?_ 0 _ rfl; (with_reducible repeat (first | refine blk_drewN ?_ _ | refine blk_drew ?_ | refine blk_alloc ?_ _)); exact BK619.out) hb); have n5_ := Aside0.mk (below_step (by repeat (first | (with_reducible first | exact HB.out | apply below_alloc | apply pw_below_drewN | apply below_drew1 | refine below_set ?_ GE619.out) | exact HB.out)) hb); clear HO609; clear HO612; clear HO616; clear BK619; clear HB; have HO609 := n0_; have HO612 := n1_; have HO616 := n2_; have HO622 := n3_; have BK619 := n4_; have HB := n5_; clear n0_ n1_ n2_ n3_ n4_ n5_; (try clear hb); (try clear hb2); (try clear hk); (try clear hi); (try clear ho0)) | ((with_reducible refine gate_callee (f := 18) rfl ?_); refine goesL_ (some 42) rfl rfl Try.func18 (by kernel_rfl) rfl #[.slice A1 l1.length c1] rfl (by (try simp only [List.map_toArray, List.map_cons, List.map_nil]); first | done | rfl | (simp only [List.length_drop, List.length_take]; rfl)) ?_; (with_reducible refine (wire_Tell.calls _ _ l1 t624 t625 t626 t629 t632 t635 _ ?side1 ?side2 A10.out).mono ?_); (case side1 => repeat (first | exact (Kd.C_below HR1.out HB.out) | (with_reducible refine Kd.C_alloc ?_ _) | (with_reducible refine Kd.C_drewN ?_ _) | (with_reducible refine Kd.C_drew ?_))); (case side2 => exact HC1.out); rintro e w160 ⟨v627, v630, v633, rfl, ho0, ho1, ho2, hb⟩; refine ⟨_, rfl, ?_⟩; have n0_ := Aside0.mk (Kd.V_mono (Kd.V_told (Kd.V_told (Kd.V_old (by (with_reducible repeat (first | apply Kd.V_alloc | apply Kd.V_drewN | apply Kd.V_drew)); exact HO609.out) hb) (by first | exact Kd.N_base ho1 | exact Kd.S_base ho1 | exact Kd.R_base ho1)) (Kd.R_base ho2)) (fun _ h_ => h_.1)); have n1_ := Aside0.mk (Kd.V_mono (Kd.V_told (Kd.V_told (Kd.V_old (by (with_reducible repeat (first | apply Kd.V_alloc | apply Kd.V_drewN | apply Kd.V_drew)); exact HO612.out) hb) (by first | exact Kd.N_base ho1 | exact Kd.S_base ho1 | exact Kd.R_base ho1)) (Kd.R_base ho2)) (fun _ h_ => h_.1)); have n2_ := Aside0.mk (Kd.V_mono (Kd.V_told (Kd.V_told (Kd.V_old (by (with_reducible repeat (first | apply Kd.V_alloc | apply Kd.V_drewN | apply Kd.V_drew)); exact HO616.out) hb) (by first | exact Kd.N_base ho1 | exact Kd.S_base ho1 | exact Kd.R_base ho1)) (Kd.R_base ho2)) (fun _ h_ => h_.1)); have n3_ := Aside0.mk (Kd.R_elder' (by (with_reducible repeat (first | apply Kd.R_alloc | apply Kd.R_drewN | apply Kd.R_drew)); exact HO622.out) (Kd.R_base ho2) hb); have n4_ := Aside0.mk (Kd.V_lower (Kd.V_mono (ok' := fun k_ => some k_ ≠ (v630 : Value).ownBlock ∧ some k_ ≠ (v633 : Value).ownBlock ∧ some k_ ≠ (v621 : Value).ownBlock ∧ k_ ≠ gb619) ho0 (fun k_ hk_ => ⟨hk_.2.1, hk_.2.2, (Kd.fresh' (Kd.R_lt (by (with_reducible repeat (first | apply Kd.R_alloc | apply Kd.R_drewN | apply Kd.R_drew)); exact HO622.out)) k_ hk_.1), (Kd.freshB (g := gb619) (o := .cells #[.int .i64 t605, .int .i64 t606, .slice Ao156 t607.length co156, .slice Ao157 t610.length co157, .bool t613, .slice Ao158 t614.length co158, .int .i64 t617] 24 (0, 0)) (by (with_reducible repeat (first | refine blk_drewN ?_ _ | refine blk_drew ?_ | refine blk_alloc ?_ _)); exact BK619.out) k_ hk_.1)⟩)) (below_size (by repeat (first | (with_reducible first | exact HB.out | apply below_alloc | apply pw_below_drewN | apply below_drew1 | refine below_set ?_ GE619.out) | exact HB.out)))); have n5_ := Aside0.mk (Kd.N_lower (Kd.N_mono (ok' := fun k_ => some k_ ≠ (v633 : Value).ownBlock ∧ some k_ ≠ (v621 : Value).ownBlock ∧ k_ ≠ gb619) ho1 (fun k_ hk_ => ⟨hk_.2, (Kd.fresh' (Kd.R_lt (by (with_reducible repeat (first | apply Kd.R_alloc | apply Kd.R_drewN | apply Kd.R_drew)); exact HO622.out)) k_ hk_.1), (Kd.freshB (g := gb619) (o := .cells #[.int .i64 t605, .int .i64 t606, .slice Ao156 t607.length co156, .slice Ao157 t610.length co157, .bool t613, .slice Ao158 t614.length co158, .int .i64 t617] 24 (0, 0)) (by (with_reducible repeat (first | refine blk_drewN ?_ _ | refine blk_drew ?_ | refine blk_alloc ?_ _)); exact BK619.out) k_ hk_.1)⟩)) (below_size (by repeat (first | (with_reducible first | exact HB.out | apply below_alloc | apply pw_below_drewN | apply below_drew1 | refine below_set ?_ GE619.out) | exact HB.out)))); have n6_ := Aside0.mk (Kd.R_lower (Kd.R_new' (Kd.R_mono (ok' := fun k_ => True) ho2 (fun _ hk_ => trivial)) (Kd.R_lt (by (with_reducible repeat (first | apply Kd.R_alloc | apply Kd.R_drewN | apply Kd.R_drew)); exact HO622.out))) (below_size (by repeat (first | (with_reducible first | exact HB.out | apply below_alloc | apply pw_below_drewN | apply below_drew1 | refine below_set ?_ GE619.out) | exact HB.out)))); have n7_ := Aside0.mk (blk_below (g := gb619) (o := .cells #[.int .i64 t605, .int .i64 t606, .slice Ao156 t607.length co156, .slice Ao157 t610.length co157, .bool t613, .slice Ao158 t614.length co158, .int .i64 t617] 24 (0, 0)) (by (with_reducible repeat (first | refine blk_drewN ?_ _ | refine blk_drew ?_ | refine blk_alloc ?_ _)); exact BK619.out) hb); have n8_ := Aside0.mk (below_step (by repeat (first | (with_reducible first | exact HB.out | apply below_alloc | apply pw_below_drewN | apply below_drew1 | refine below_set ?_ GE619.out) | exact HB.out)) hb); clear HO609; clear HO612; clear HO616; clear HO622; clear BK619; clear HB; have HO609 := n0_; have HO612 := n1_; have HO616 := n2_; have HO622 := n3_; have HO628 := n4_; have HO631 := n5_; have HO634 := n6_; have BK619 := n7_; have HB := n8_; clear n0_ n1_ n2_ n3_ n4_ n5_ n6_ n7_ n8_; (try clear hb); (try clear hb2); (try clear hk); (try clear hi); (try clear ho0); (try clear ho1); (try clear ho2)) | ((with_reducible refine gate_dst (N := 11) rfl ?_); (try (refine gate_guard (by rfl) ?_; dsimp only)); refine box_event ?hg (N := 11) ?hd (cs := #[.int .i64 0, .bool false, .slice none 0 0, .slice none 0 0]) (t := 36) ?hr ?_; (case hd => rfl); (case hg => rfl); (case hr => first | (go_simp; done) | (go_simp; rfl)); intro gb636 hg w161 hbox hb; have n0_ := Aside0.mk (Kd.V_below (Kd.V_elderB (by (with_reducible repeat (first | apply Kd.V_alloc | apply Kd.V_drewN | apply Kd.V_drew)); exact HO609.out) gb636 (Nat.le_of_eq hg.symm)) hb); have n1_ := Aside0.mk (Kd.V_below (Kd.V_elderB (by (with_reducible repeat (first | apply Kd.V_alloc | apply Kd.V_drewN | apply Kd.V_drew)); exact HO612.out) gb636 (Nat.le_of_eq hg.symm)) hb); have n2_ := Aside0.mk (Kd.V_below (Kd.V_elderB (by (with_reducible repeat (first | apply Kd.V_alloc | apply Kd.V_drewN | apply Kd.V_drew)); exact HO616.out) gb636 (Nat.le_of_eq hg.symm)) hb); have n3_ := Aside0.mk (Kd.R_below (by (with_reducible repeat (first | apply Kd.R_alloc | apply Kd.R_drewN | apply Kd.R_drew)); exact HO622.out) hb); have n4_ := Aside0.mk (Kd.V_below (Kd.V_elderB (by (with_reducible repeat (first | apply Kd.V_alloc | apply Kd.V_drewN | apply Kd.V_drew)); exact HO628.out) gb636 (Nat.le_of_eq hg.symm)) hb); have n5_ := Aside0.mk (Kd.N_below (Kd.N_elderB (by (with_reducible repeat (first | apply Kd.N_alloc | apply Kd.N_drewN | apply Kd.N_drew)); exact HO631.out) gb636 (Nat.le_of_eq hg.symm)) hb); have n6_ := Aside0.mk (Kd.R_below (by (with_reducible repeat (first | apply Kd.R_alloc | apply Kd.R_drewN | apply Kd.R_drew)); exact HO634.out) hb); have n7_ := Aside0.mk (blk_below (g := gb619) (o := .cells #[.int .i64 t605, .int .i64 t606, .slice Ao156 t607.length co156, .slice Ao157 t610.length co157, .bool t613, .slice Ao158 t614.length co158, .int .i64 t617] 24 (0, 0)) (by (with_reducible repeat (first | refine blk_drewN ?_ _ | refine blk_drew ?_ | refine blk_alloc ?_ _)); exact BK619.out) hb); have n8_ := Aside0.mk (below_step (by repeat (first | (with_reducible first | exact HB.out | apply below_alloc | apply pw_below_drewN | apply below_drew1 | refine below_set ?_ GE619.out) | exact HB.out)) hb); have n9_ := Aside0.mk (hbox); have n10_ := Aside0.mk ((by rw [hg]; exact (below_size (by repeat (first | (with_reducible first | exact HB.out | apply below_alloc | apply pw_below_drewN | apply below_drew1 | refine below_set ?_ GE619.out) | exact HB.out))) : w.heap.size ≤ gb636)); have n11_ := Aside0.mk ((by rw [hg]; exact (below_size (by repeat (first | (with_reducible first | exact HB.out | apply below_alloc | apply pw_below_drewN | apply below_drew1 | refine below_set ?_ GE619.out) | exact HB.out))) : w.heap.size ≤ gb636)); have n12_ := Aside0.mk ((by rw [hg]; exact Nat.ne_of_lt (blk_lt (g := gb619) (o := .cells #[.int .i64 t605, .int .i64 t606, .slice Ao156 t607.length co156, .slice Ao157 t610.length co157, .bool t613, .slice Ao158 t614.length co158, .int .i64 t617] 24 (0, 0)) (by (with_reducible repeat (first | refine blk_drewN ?_ _ | refine blk_drew ?_ | refine blk_alloc ?_ _)); exact BK619.out)) : gb619 ≠ gb636)); have n13_ := Aside0.mk ((by rw [hg]; exact Nat.ne_of_gt (blk_lt (g := gb619) (o := .cells #[.int .i64 t605, .int .i64 t606, .slice Ao156 t607.length co156, .slice Ao157 t610.length co157, .bool t613, .slice Ao158 t614.length co158, .int .i64 t617] 24 (0, 0)) (by (with_reducible repeat (first | refine blk_drewN ?_ _ | refine blk_drew ?_ | refine blk_alloc ?_ _)); exact BK619.out)) : gb636 ≠ gb619)); clear HO609; clear HO612; clear HO616; clear HO622; clear HO628; clear HO631; clear HO634; clear BK619; clear HB; have HO609 := n0_; have HO612 := n1_; have HO616 := n2_; have HO622 := n3_; have HO628 := n4_; have HO631 := n5_; have HO634 := n6_; have BK619 := n7_; have HB := n8_; have BK636 := n9_; have GW636 := n10_; have GE636 := n11_; have NB619_636 := n12_; have NB636_619 := n13_; clear n0_ n1_ n2_ n3_ n4_ n5_ n6_ n7_ n8_ n9_ n10_ n11_ n12_ n13_; clear hb hbox hg; have hnb162 := NB636_619.out; have hnc162 := NB619_636.out; have hcz163_0 : w161.cell? ⟨gb636, 0, none⟩ = some (.int .i64 0) := (blk_cell BK636.out 0).trans rfl; have hcz163_1 : w161.cell? ⟨gb636, 1, none⟩ = some (.bool false) := (blk_cell BK636.out 1).trans rfl; have hcz163_2 : w161.cell? ⟨gb636, 2, none⟩ = some (.slice none 0 0) := (blk_cell BK636.out 2).trans rfl; have hcz163_3 : w161.cell? ⟨gb636, 3, none⟩ = some (.slice none 0 0) := (blk_cell BK636.out 3).trans rfl; have hfz163_0 := blk_frozen BK636.out 0; have hfz163_1 := blk_frozen BK636.out 1; have hfz163_2 := blk_frozen BK636.out 2; have hfz163_3 := blk_frozen BK636.out 3; obtain ⟨Ao164, co164, eo164⟩ := Kd.V_slice HO628.out; subst eo164; obtain ⟨Ao165, co165, eo165⟩ := Kd.N_slice HO631.out; subst eo165) | ((with_reducible refine gate_callee (f := 16) rfl ?_); refine goesL_ (some 48) rfl rfl Try.func16 (by kernel_rfl) rfl #[.agg #[.int .i64 t624, .bool t625, .slice Ao164 t626.length co164, .slice Ao165 t629.length co165]] rfl (by (try simp only [List.map_toArray, List.map_cons, List.map_nil]); first | done | rfl | (simp only [List.length_drop, List.length_take]; rfl)) ?_; (with_reducible refine (wire_Told.calls t624 t625 _ _ t626 _ _ t629 t637 t640 _ ?side1 ?side2 ?side3 ?side4 A11.out).mono ?_); (case side1 => refine (Kd.V_reads' (e := 5) (base := w.heap.size) (ok := fun k_ => ((some k_ ≠ (.slice Ao165 t629.length co165 : Value).ownBlock ∧ (some k_ ≠ (v633 : Value).ownBlock ∧ (some k_ ≠ (v621 : Value).ownBlock ∧ k_ ≠ gb619))) ∧ k_ ≠ gb636)) (n := t626.length) (c := co164) ?_).2.2; exact (by (with_reducible repeat (first | apply Kd.V_alloc | apply Kd.V_drewN | apply Kd.V_drew)); exact (Kd.V_mono (Kd.V_far (p := ⟨gb636, 3, none⟩) (Kd.V_far (p := ⟨gb636, 2, none⟩) (Kd.V_far (p := ⟨gb636, 1, none⟩) (Kd.V_far (p := ⟨gb636, 0, none⟩) (Kd.V_mono HO628.out (fun k_ hk => (⟨hk, hk.2⟩ : _ ∧ k_ ≠ gb636))) (fun _ hk => hk.2) (.int .i64 t624)) (fun _ hk => hk.2) (.bool t625)) (fun _ hk => hk.2) (.slice Ao164 t626.length co164)) (fun _ hk => hk.2) (.slice Ao165 t629.length co165)) (fun _ h_ => h_.1)))); (case side2 => exact (Kd.V_reads' HO628.out).2.1); (case side3 => refine (Kd.N_reads' (e := 47) (base := w.heap.size) (ok := fun k_ => ((some k_ ≠ (v633 : Value).ownBlock ∧ (some k_ ≠ (v621 : Value).ownBlock ∧ k_ ≠ gb619)) ∧ k_ ≠ gb636)) (n := t629.length) (c := co165) ?_).2.2; exact (by (with_reducible repeat (first | apply Kd.N_alloc | apply Kd.N_drewN | apply Kd.N_drew)); exact (Kd.N_mono (Kd.N_far (p := ⟨gb636, 3, none⟩) (Kd.N_far (p := ⟨gb636, 2, none⟩) (Kd.N_far (p := ⟨gb636, 1, none⟩) (Kd.N_far (p := ⟨gb636, 0, none⟩) (Kd.N_mono HO631.out (fun k_ hk => (⟨hk, hk.2⟩ : _ ∧ k_ ≠ gb636))) (fun _ hk => hk.2) (.int .i64 t624)) (fun _ hk => hk.2) (.bool t625)) (fun _ hk => hk.2) (.slice Ao164 t626.length co164)) (fun _ hk => hk.2) (.slice Ao165 t629.length co165)) (fun _ h_ => h_.1)))); (case side4 => exact (Kd.N_reads' HO631.out).2.1); rintro e w166 ⟨v638, rfl, ho0, hb⟩; refine ⟨_, rfl, ?_⟩; have n0_ := Aside0.mk (Kd.V_elder' (by (with_reducible repeat (first | apply Kd.V_alloc | apply Kd.V_drewN | apply Kd.V_drew)); exact (Kd.V_mono (Kd.V_far (p := ⟨gb636, 3, none⟩) (Kd.V_far (p := ⟨gb636, 2, none⟩) (Kd.V_far (p := ⟨gb636, 1, none⟩) (Kd.V_far (p := ⟨gb636, 0, none⟩) (Kd.V_mono HO609.out (fun k_ hk => (⟨hk, hk.2⟩ : _ ∧ k_ ≠ gb636))) (fun _ hk => hk.2) (.int .i64 t624)) (fun _ hk => hk.2) (.bool t625)) (fun _ hk => hk.2) (.slice Ao164 t626.length co164)) (fun _ hk => hk.2) (.slice Ao165 t629.length co165)) (fun _ h_ => h_.1))) (Kd.R_base ho0) hb); have n1_ := Aside0.mk (Kd.V_elder' (by (with_reducible repeat (first | apply Kd.V_alloc | apply Kd.V_drewN | apply Kd.V_drew)); exact (Kd.V_mono (Kd.V_far (p := ⟨gb636, 3, none⟩) (Kd.V_far (p := ⟨gb636, 2, none⟩) (Kd.V_far (p := ⟨gb636, 1, none⟩) (Kd.V_far (p := ⟨gb636, 0, none⟩) (Kd.V_mono HO612.out (fun k_ hk => (⟨hk, hk.2⟩ : _ ∧ k_ ≠ gb636))) (fun _ hk => hk.2) (.int .i64 t624)) (fun _ hk => hk.2) (.bool t625)) (fun _ hk => hk.2) (.slice Ao164 t626.length co164)) (fun _ hk => hk.2) (.slice Ao165 t629.length co165)) (fun _ h_ => h_.1))) (Kd.R_base ho0) hb); have n2_ := Aside0.mk (Kd.V_elder' (by (with_reducible repeat (first | apply Kd.V_alloc | apply Kd.V_drewN | apply Kd.V_drew)); exact (Kd.V_mono (Kd.V_far (p := ⟨gb636, 3, none⟩) (Kd.V_far (p := ⟨gb636, 2, none⟩) (Kd.V_far (p := ⟨gb636, 1, none⟩) (Kd.V_far (p := ⟨gb636, 0, none⟩) (Kd.V_mono HO616.out (fun k_ hk => (⟨hk, hk.2⟩ : _ ∧ k_ ≠ gb636))) (fun _ hk => hk.2) (.int .i64 t624)) (fun _ hk => hk.2) (.bool t625)) (fun _ hk => hk.2) (.slice Ao164 t626.length co164)) (fun _ hk => hk.2) (.slice Ao165 t629.length co165)) (fun _ h_ => h_.1))) (Kd.R_base ho0) hb); have n3_ := Aside0.mk (Kd.R_elder' (by (with_reducible repeat (first | apply Kd.R_alloc | apply Kd.R_drewN | apply Kd.R_drew)); exact (Kd.R_mono (Kd.R_far (p := ⟨gb636, 3, none⟩) (Kd.R_far (p := ⟨gb636, 2, none⟩) (Kd.R_far (p := ⟨gb636, 1, none⟩) (Kd.R_far (p := ⟨gb636, 0, none⟩) (Kd.R_types HO622.out BK636.out (by decide)) (fun _ hk => hk.2) (.int .i64 t624)) (fun _ hk => hk.2) (.bool t625)) (fun _ hk => hk.2) (.slice Ao164 t626.length co164)) (fun _ hk => hk.2) (.slice Ao165 t629.length co165)) (fun _ h_ => h_.1))) (Kd.R_base ho0) hb); have n4_ := Aside0.mk (Kd.V_elder' (by (with_reducible repeat (first | apply Kd.V_alloc | apply Kd.V_drewN | apply Kd.V_drew)); exact (Kd.V_mono (Kd.V_far (p := ⟨gb636, 3, none⟩) (Kd.V_far (p := ⟨gb636, 2, none⟩) (Kd.V_far (p := ⟨gb636, 1, none⟩) (Kd.V_far (p := ⟨gb636, 0, none⟩) (Kd.V_mono HO628.out (fun k_ hk => (⟨hk, hk.2⟩ : _ ∧ k_ ≠ gb636))) (fun _ hk => hk.2) (.int .i64 t624)) (fun _ hk => hk.2) (.bool t625)) (fun _ hk => hk.2) (.slice Ao164 t626.length co164)) (fun _ hk => hk.2) (.slice Ao165 t629.length co165)) (fun _ h_ => h_.1))) (Kd.R_base ho0) hb); have n5_ := Aside0.mk (Kd.N_elder' (by (with_reducible repeat (first | apply Kd.N_alloc | apply Kd.N_drewN | apply Kd.N_drew)); exact (Kd.N_mono (Kd.N_far (p := ⟨gb636, 3, none⟩) (Kd.N_far (p := ⟨gb636, 2, none⟩) (Kd.N_far (p := ⟨gb636, 1, none⟩) (Kd.N_far (p := ⟨gb636, 0, none⟩) (Kd.N_mono HO631.out (fun k_ hk => (⟨hk, hk.2⟩ : _ ∧ k_ ≠ gb636))) (fun _ hk => hk.2) (.int .i64 t624)) (fun _ hk => hk.2) (.bool t625)) (fun _ hk => hk.2) (.slice Ao164 t626.length co164)) (fun _ hk => hk.2) (.slice Ao165 t629.length co165)) (fun _ h_ => h_.1))) (Kd.R_base ho0) hb); have n6_ := Aside0.mk (Kd.R_elder' (by (with_reducible repeat (first | apply Kd.R_alloc | apply Kd.R_drewN | apply Kd.R_drew)); exact (Kd.R_mono (Kd.R_far (p := ⟨gb636, 3, none⟩) (Kd.R_far (p := ⟨gb636, 2, none⟩) (Kd.R_far (p := ⟨gb636, 1, none⟩) (Kd.R_far (p := ⟨gb636, 0, none⟩) (Kd.R_types HO634.out BK636.out (by decide)) (fun _ hk => hk.2) (.int .i64 t624)) (fun _ hk => hk.2) (.bool t625)) (fun _ hk => hk.2) (.slice Ao164 t626.length co164)) (fun _ hk => hk.2) (.slice Ao165 t629.length co165)) (fun _ h_ => h_.1))) (Kd.R_base ho0) hb); have n7_ := Aside0.mk (Kd.R_lower (Kd.R_new' (Kd.R_new' ho0 (Kd.R_lt (by (with_reducible repeat (first | apply Kd.R_alloc | apply Kd.R_drewN | apply Kd.R_drew)); exact (Kd.R_mono (Kd.R_far (p := ⟨gb636, 3, none⟩) (Kd.R_far (p := ⟨gb636, 2, none⟩) (Kd.R_far (p := ⟨gb636, 1, none⟩) (Kd.R_far (p := ⟨gb636, 0, none⟩) (Kd.R_types HO622.out BK636.out (by decide)) (fun _ hk => hk.2) (.int .i64 t624)) (fun _ hk => hk.2) (.bool t625)) (fun _ hk => hk.2) (.slice Ao164 t626.length co164)) (fun _ hk => hk.2) (.slice Ao165 t629.length co165)) (fun _ h_ => h_.1))))) (Kd.R_lt (by (with_reducible repeat (first | apply Kd.R_alloc | apply Kd.R_drewN | apply Kd.R_drew)); exact (Kd.R_mono (Kd.R_far (p := ⟨gb636, 3, none⟩) (Kd.R_far (p := ⟨gb636, 2, none⟩) (Kd.R_far (p := ⟨gb636, 1, none⟩) (Kd.R_far (p := ⟨gb636, 0, none⟩) (Kd.R_types HO634.out BK636.out (by decide)) (fun _ hk => hk.2) (.int .i64 t624)) (fun _ hk => hk.2) (.bool t625)) (fun _ hk => hk.2) (.slice Ao164 t626.length co164)) (fun _ hk => hk.2) (.slice Ao165 t629.length co165)) (fun _ h_ => h_.1))))) (below_size (by repeat (first | (with_reducible first | exact HB.out | apply below_alloc | apply pw_below_drewN | apply below_drew1 | refine below_set ?_ GE619.out | refine below_set ?_ GE636.out) | exact HB.out)))); have n8_ := Aside0.mk (blk_below (g := gb619) (o := .cells #[.int .i64 t605, .int .i64 t606, .slice Ao156 t607.length co156, .slice Ao157 t610.length co157, .bool t613, .slice Ao158 t614.length co158, .int .i64 t617] 24 (0, 0)) (by (with_reducible repeat (first | refine blk_drewN ?_ _ | refine blk_drew ?_ | refine blk_alloc ?_ _)); refine blk_far ?_ NB619_636.out _; (with_reducible repeat (first | refine blk_drewN ?_ _ | refine blk_drew ?_ | refine blk_alloc ?_ _)); refine blk_far ?_ NB619_636.out _; (with_reducible repeat (first | refine blk_drewN ?_ _ | refine blk_drew ?_ | refine blk_alloc ?_ _)); refine blk_far ?_ NB619_636.out _; (with_reducible repeat (first | refine blk_drewN ?_ _ | refine blk_drew ?_ | refine blk_alloc ?_ _)); refine blk_far ?_ NB619_636.out _; (with_reducible repeat (first | refine blk_drewN ?_ _ | refine blk_drew ?_ | refine blk_alloc ?_ _)); exact BK619.out) hb); have n9_ := Aside0.mk (blk_below (g := gb636) (o := .cells #[.int .i64 t624, .bool t625, .slice Ao164 t626.length co164, .slice Ao165 t629.length co165] 36 (0, 0)) (by (with_reducible repeat (first | refine blk_drewN ?_ _ | refine blk_drew ?_ | refine blk_alloc ?_ _)); refine blk_put (cs := #[.int .i64 t624, .bool t625, .slice Ao164 t626.length co164, .slice none 0 0]) ?_ 3 _ rfl; (with_reducible repeat (first | refine blk_drewN ?_ _ | refine blk_drew ?_ | refine blk_alloc ?_ _)); refine blk_put (cs := #[.int .i64 t624, .bool t625, .slice none 0 0, .slice none 0 0]) ?_ 2 _ rfl; (with_reducible repeat (first | refine blk_drewN ?_ _ | refine blk_drew ?_ | refine blk_alloc ?_ _)); refine blk_put (cs := #[.int .i64 t624, .bool false, .slice none 0 0, .slice none 0 0]) ?_ 1 _ rfl; (with_reducible repeat (first | refine blk_drewN ?_ _ | refine blk_drew ?_ | refine blk_alloc ?_ _)); refine blk_put (cs := #[.int .i64 0, .bool false, .slice none 0 0, .slice none 0 0]) ?_ 0 _ rfl; (with_reducible repeat (first | refine blk_drewN ?_ _ | refine blk_drew ?_ | refine blk_alloc ?_ _)); exact BK636.out) hb); have n10_ := Aside0.mk (below_step (by repeat (first | (with_reducible first | exact HB.out | apply below_alloc | apply pw_below_drewN | apply below_drew1 | refine below_set ?_ GE619.out | refine below_set ?_ GE636.out) | exact HB.out)) hb); clear HO609; clear HO612; clear HO616; clear HO622; clear HO628; clear HO631; clear HO634; clear BK619; clear BK636; clear HB; have HO609 := n0_; have HO612 := n1_; have HO616 := n2_; have HO622 := n3_; have HO628 := n4_; have HO631 := n5_; have HO634 := n6_; have HO639 := n7_; have BK619 := n8_; have BK636 := n9_; have HB := n10_; clear n0_ n1_ n2_ n3_ n4_ n5_ n6_ n7_ n8_ n9_ n10_; (try clear hb); (try clear hb2); (try clear hk); (try clear hi); (try clear ho0); have hcv167 := own_string (P := Try.prog) Try.underlying22 Try.underlying5 Try.underlying9 (Kd.own_of_R HO622.out); have hcv168 := Kd.C_string (P := Try.prog) (A := A0) (c := c0) Try.underlying22 Try.underlying5 Try.underlying9 (Kd.C_below HR0.out HB.out)))
                  have n0_ := Aside0.mk (Kd.V_drew HO609.out)
                  have n1_ := Aside0.mk (Kd.V_drew HO612.out)
                  have n2_ := Aside0.mk (Kd.V_drew HO616.out)
                  have n3_ := Aside0.mk (Kd.R_drew HO622.out)
                  have n4_ := Aside0.mk (Kd.V_drew HO628.out)
                  have n5_ := Aside0.mk (Kd.N_drew HO631.out)
                  have n6_ := Aside0.mk (Kd.R_drew HO634.out)
                  have n7_ := Aside0.mk (Kd.R_drew HO639.out)
                  have n8_ := Aside0.mk (blk_drew BK619.out)
                  have n9_ := Aside0.mk (blk_drew BK636.out)
                  have n10_ := Aside0.mk (below_drew1 HB.out)
                  clear HO609
                  clear HO612
                  clear HO616
                  clear HO622
                  clear HO628
                  clear HO631
                  clear HO634
                  clear HO639
                  clear BK619
                  clear BK636
                  clear HB
                  have HO609 := n0_
                  have HO612 := n1_
                  have HO616 := n2_
                  have HO622 := n3_
                  have HO628 := n4_
                  have HO631 := n5_
                  have HO634 := n6_
                  have HO639 := n7_
                  have BK619 := n8_
                  have BK636 := n9_
                  have HB := n10_
                  clear n0_ n1_ n2_ n3_ n4_ n5_ n6_ n7_ n8_ n9_ n10_
                  refine start_ (n := 18) (S := fun w' => (convert 22 9 (v621)).run Try.prog w' = .ok (.string (strOfNums t620)) w' ∧ (convert 22 9 (.slice A0 l0.length c0)).run Try.prog w' = .ok (.string (strOfNums l0)) w') (ds := []) #[false, false, false, false, false, false, false, false, false, false, false, false, false, false, false, false, false, false] (by kernel_rfl) rfl rfl ⟨(own_string (P := Try.prog) Try.underlying22 Try.underlying5 Try.underlying9 (Kd.own_of_R HO622.out)), (Kd.C_string (P := Try.prog) (A := A0) (c := c0) Try.underlying22 Try.underlying5 Try.underlying9 (Kd.C_below HR0.out HB.out))⟩ (fun hHeld => ?_); refine with_tabW banksmanlaw21_WireAgain.tab9 banksmanlaw21_WireAgain.bits9 (fun HT_ HW_ => ?_)
                  generalize w166.drew = w169 at HO609 HO612 HO616 HO622 HO628 HO631 HO634 HO639 BK619 BK636 HB hHeld ⊢
                  refine pure_ (i := 0) (N := some 64) (v := ?_) (a' := ?_) #[true, false, false, false, false, false, false, false, false, false, false, false, false, false, false, false, false, false] rfl rfl (any_of HT_.out (by kernel_rfl)) (fun _ _ _ h => h) (Or.inl ⟨by rfl, ?_⟩) ?_ ?_
                  rotate_left
                  · intro w'
                    go_simp
                    with_reducible rfl
                  rotate_left
                  · simp only [Act.put, List.setIfInBounds_toArray, List.set_cons_zero, List.set_cons_succ, i64_w, i32_w]
                    rfl
                  refine pure_ (i := 1) (N := some 65) (v := ?_) (a' := ?_) #[true, true, false, false, false, false, false, false, false, false, false, false, false, false, false, false, false, false] rfl rfl (any_of HT_.out (by kernel_rfl)) (fun _ _ _ h => h) (Or.inl ⟨by rfl, ?_⟩) ?_ ?_
                  rotate_left
                  · intro w'
                    go_simp
                    with_reducible rfl
                  rotate_left
                  · simp only [Act.put, List.setIfInBounds_toArray, List.set_cons_zero, List.set_cons_succ, i64_w, i32_w]
                    rfl
                  refine pure_ (i := 2) (N := some 66) (v := ?_) (a' := ?_) #[true, true, true, false, false, false, false, false, false, false, false, false, false, false, false, false, false, false] rfl rfl (any_of HT_.out (by kernel_rfl)) (fun _ _ _ h => h) (Or.inl ⟨by rfl, ?_⟩) ?_ ?_
                  rotate_left
                  · intro w'
                    go_simp
                    with_reducible rfl
                  rotate_left
                  · simp only [Act.put, List.setIfInBounds_toArray, List.set_cons_zero, List.set_cons_succ, i64_w, i32_w]
                    rfl
                  refine pure_ (i := 3) (N := some 67) (v := undef) (a' := ?_) #[true, true, true, true, false, false, false, false, false, false, false, false, false, false, false, false, false, false] rfl rfl (any_of HT_.out (by kernel_rfl)) (fun _ _ _ h => h) (Or.inr ⟨by rfl, rfl⟩) ?_ ?_
                  rotate_left
                  · simp only [Act.put, List.setIfInBounds_toArray, List.set_cons_zero, List.set_cons_succ, i64_w, i32_w]
                    rfl
                  refine pure_ (i := 4) (N := some 68) (v := undef) (a' := ?_) #[true, true, true, true, true, false, false, false, false, false, false, false, false, false, false, false, false, false] rfl rfl (any_of HT_.out (by kernel_rfl)) (fun _ _ _ h => h) (Or.inr ⟨by rfl, rfl⟩) ?_ ?_
                  rotate_left
                  · simp only [Act.put, List.setIfInBounds_toArray, List.set_cons_zero, List.set_cons_succ, i64_w, i32_w]
                    rfl
                  refine pure_ (i := 5) (N := some 69) (v := undef) (a' := ?_) #[true, true, true, true, true, true, false, false, false, false, false, false, false, false, false, false, false, false] rfl rfl (any_of HT_.out (by kernel_rfl)) (fun _ _ _ h => h) (Or.inr ⟨by rfl, rfl⟩) ?_ ?_
                  rotate_left
                  · simp only [Act.put, List.setIfInBounds_toArray, List.set_cons_zero, List.set_cons_succ, i64_w, i32_w]
                    rfl
                  refine pure_ (i := 6) (N := some 70) (v := undef) (a' := ?_) #[true, true, true, true, true, true, true, false, false, false, false, false, false, false, false, false, false, false] rfl rfl (any_of HT_.out (by kernel_rfl)) (fun _ _ _ h => h) (Or.inr ⟨by rfl, rfl⟩) ?_ ?_
                  rotate_left
                  · simp only [Act.put, List.setIfInBounds_toArray, List.set_cons_zero, List.set_cons_succ, i64_w, i32_w]
                    rfl
                  refine pure_ (i := 7) (N := some 71) (v := undef) (a' := ?_) #[true, true, true, true, true, true, true, true, false, false, false, false, false, false, false, false, false, false] rfl rfl (any_of HT_.out (by kernel_rfl)) (fun _ _ _ h => h) (Or.inr ⟨by rfl, rfl⟩) ?_ ?_
                  rotate_left
                  · simp only [Act.put, List.setIfInBounds_toArray, List.set_cons_zero, List.set_cons_succ, i64_w, i32_w]
                    rfl
                  refine pure_ (i := 8) (N := some 72) (v := undef) (a' := ?_) #[true, true, true, true, true, true, true, true, true, false, false, false, false, false, false, false, false, false] rfl rfl (any_of HT_.out (by kernel_rfl)) (fun _ _ _ h => h) (Or.inr ⟨by rfl, rfl⟩) ?_ ?_
                  rotate_left
                  · simp only [Act.put, List.setIfInBounds_toArray, List.set_cons_zero, List.set_cons_succ, i64_w, i32_w]
                    rfl
                  refine pure_ (i := 9) (N := some 73) (v := undef) (a' := ?_) #[true, true, true, true, true, true, true, true, true, true, false, false, false, false, false, false, false, false] rfl rfl (any_of HT_.out (by kernel_rfl)) (fun _ _ _ h => h) (Or.inr ⟨by rfl, rfl⟩) ?_ ?_
                  rotate_left
                  · simp only [Act.put, List.setIfInBounds_toArray, List.set_cons_zero, List.set_cons_succ, i64_w, i32_w]
                    rfl
                  refine pure_ (i := 10) (N := some 74) (v := undef) (a' := ?_) #[true, true, true, true, true, true, true, true, true, true, true, false, false, false, false, false, false, false] rfl rfl (any_of HT_.out (by kernel_rfl)) (fun _ _ _ h => h) (Or.inr ⟨by rfl, rfl⟩) ?_ ?_
                  rotate_left
                  · simp only [Act.put, List.setIfInBounds_toArray, List.set_cons_zero, List.set_cons_succ, i64_w, i32_w]
                    rfl
                  refine pure_ (i := 11) (N := some 75) (v := undef) (a' := ?_) #[true, true, true, true, true, true, true, true, true, true, true, true, false, false, false, false, false, false] rfl rfl (any_of HT_.out (by kernel_rfl)) (fun _ _ _ h => h) (Or.inr ⟨by rfl, rfl⟩) ?_ ?_
                  rotate_left
                  · simp only [Act.put, List.setIfInBounds_toArray, List.set_cons_zero, List.set_cons_succ, i64_w, i32_w]
                    rfl
                  refine pure_ (i := 12) (N := some 76) (v := undef) (a' := ?_) #[true, true, true, true, true, true, true, true, true, true, true, true, true, false, false, false, false, false] rfl rfl (any_of HT_.out (by kernel_rfl)) (fun _ _ _ h => h) (Or.inr ⟨by rfl, rfl⟩) ?_ ?_
                  rotate_left
                  · simp only [Act.put, List.setIfInBounds_toArray, List.set_cons_zero, List.set_cons_succ, i64_w, i32_w]
                    rfl
                  refine pure_ (i := 13) (N := some 77) (v := undef) (a' := ?_) #[true, true, true, true, true, true, true, true, true, true, true, true, true, true, false, false, false, false] rfl rfl (any_of HT_.out (by kernel_rfl)) (fun _ _ _ h => h) (Or.inr ⟨by rfl, rfl⟩) ?_ ?_
                  rotate_left
                  · simp only [Act.put, List.setIfInBounds_toArray, List.set_cons_zero, List.set_cons_succ, i64_w, i32_w]
                    rfl
                  refine pure_ (i := 14) (N := some 78) (v := undef) (a' := ?_) #[true, true, true, true, true, true, true, true, true, true, true, true, true, true, true, false, false, false] rfl rfl (any_of HT_.out (by kernel_rfl)) (fun _ _ _ h => h) (Or.inr ⟨by rfl, rfl⟩) ?_ ?_
                  rotate_left
                  · simp only [Act.put, List.setIfInBounds_toArray, List.set_cons_zero, List.set_cons_succ, i64_w, i32_w]
                    rfl
                  refine pure_ (i := 15) (N := some 79) (v := undef) (a' := ?_) #[true, true, true, true, true, true, true, true, true, true, true, true, true, true, true, true, false, false] rfl rfl (any_of HT_.out (by kernel_rfl)) (fun _ _ _ h => h) (Or.inr ⟨by rfl, rfl⟩) ?_ ?_
                  rotate_left
                  · simp only [Act.put, List.setIfInBounds_toArray, List.set_cons_zero, List.set_cons_succ, i64_w, i32_w]
                    rfl
                  refine pure_ (i := 16) (N := some 80) (v := ?_) (a' := ?_) #[true, true, true, true, true, true, true, true, true, true, true, true, true, true, true, true, true, false] rfl rfl (any_of HT_.out (by kernel_rfl)) (fun _ _ _ h => h) (Or.inl ⟨by rfl, ?_⟩) ?_ ?_
                  rotate_left
                  · intro w'
                    go_simp
                    with_reducible rfl
                  rotate_left
                  · simp only [Act.put, List.setIfInBounds_toArray, List.set_cons_zero, List.set_cons_succ, i64_w, i32_w]
                    rfl
                  refine pure_ (i := 17) (N := some 17) (v := ?_) (a' := ?_) #[true, true, true, true, true, true, true, true, true, true, true, true, true, true, true, true, true, true] rfl rfl (any_of HT_.out (by kernel_rfl)) (fun _ _ _ h => h) (Or.inl ⟨by rfl, ?_⟩) ?_ ?_
                  rotate_left
                  · intro w'
                    go_simp
                    with_reducible rfl
                  rotate_left
                  · simp only [Act.put, List.setIfInBounds_toArray, List.set_cons_zero, List.set_cons_succ, i64_w, i32_w]
                    rfl
                  refine done_ (done_of HT_.out (by kernel_rfl)) ?_
                  try go_wp2
                  go_ret
                  exact ⟨by first | rfl | (simp [errW_none, errW_some] <;> rfl) | (simp [*, errW_none, errW_some] <;> rfl), by repeat (first | (with_reducible first | exact HB.out | apply below_alloc | apply pw_below_drewN | apply below_drew1 | refine below_set ?_ GE619.out | refine below_set ?_ GE636.out) | exact HB.out)⟩
                · rw [if_neg c152] at H
                  rw [HTr_] at H
                  exact absurd (Option.some.inj H) (by decide)
              · replace c151 := Bool.eq_false_iff.mpr c151
                subst c151
                have H1 : (some false) = some r := by rw [if_neg (show ¬ (false = true) by decide)] at H; exact H
                rw [HTr_] at H1
                exact absurd (Option.some.inj H1) (by decide)
          · rw [if_neg c13] at H
            have c13b0 : (t623 == 0) = false := beq_eq_false_iff_ne.mpr c13
            have c13b1 : (t623 != 0) = true := bne_iff_ne.mpr c13
            by_cases c204 : t635 = 0
            · rw [if_pos c204] at H
              have c204b0 : (t635 == 0) = true := beq_iff_eq.mpr c204
              have c204b1 : (t635 != 0) = false := bne_eq_false_iff_eq.mpr c204
              clear c204
              by_cases c205 : t640 = 0
              · rw [if_pos c205] at H
                have c205b0 : (t640 == 0) = true := beq_iff_eq.mpr c205
                have c205b1 : (t640 != 0) = false := bne_eq_false_iff_eq.mpr c205
                clear c205
                obtain ⟨y650, hy650⟩ : ∃ y_ : List Int, y_ = (([] : List Int)) := ⟨_, rfl⟩
                replace H : (if y650.length + t637.length < 140737488355328 then (if (y650 ++ t637).length + t632.length < 140737488355328 then (if t603 = true then (some false) else (some false)) else (none)) else (none)) = some r := by first | (rw [hy650]; with_reducible exact H) | (have H2_ := (Option.bind_some _ _).symm.trans H; rw [hy650]; with_reducible exact H2_) | (have H2_ := (Option.bind_some _ _).symm.trans H; with_reducible exact H2_) | with_reducible exact H | (rw [hy650]; exact H) | exact H
                have Ny650 := Aside0.mk hy650
                clear hy650
                by_cases c206 : y650.length + t637.length < 140737488355328
                · rw [if_pos c206] at H
                  have LMc206 := Aside0.mk c206
                  clear c206
                  obtain ⟨y653, hy653⟩ : ∃ y_ : List Int, y_ = (y650 ++ t637) := ⟨_, rfl⟩
                  replace H : (if y653.length + t632.length < 140737488355328 then (if t603 = true then (some false) else (some false)) else (none)) = some r := by first | (rw [hy653]; with_reducible exact H) | (have H2_ := (Option.bind_some _ _).symm.trans H; rw [hy653]; with_reducible exact H2_) | (have H2_ := (Option.bind_some _ _).symm.trans H; with_reducible exact H2_) | with_reducible exact H | (rw [hy653]; exact H) | exact H
                  have Ny653 := Aside0.mk hy653
                  clear hy653
                  by_cases c207 : y653.length + t632.length < 140737488355328
                  · rw [if_pos c207] at H
                    have LMc207 := Aside0.mk c207
                    clear c207
                    obtain ⟨y656, hy656⟩ : ∃ y_ : List Int, y_ = (y653 ++ t632) := ⟨_, rfl⟩
                    replace H : (if t603 = true then (some false) else (some false)) = some r := by first | (rw [hy656]; with_reducible exact H) | (have H2_ := (Option.bind_some _ _).symm.trans H; rw [hy656]; with_reducible exact H2_) | (have H2_ := (Option.bind_some _ _).symm.trans H; with_reducible exact H2_) | with_reducible exact H | (rw [hy656]; exact H) | exact H
                    have Ny656 := Aside0.mk hy656
                    clear hy656
                    by_cases c208 : t603 = true
                    · subst c208
                      have H1 : (some false) = some r := by rw [if_pos rfl] at H; exact H
                      rw [HTr_] at H1
                      exact absurd (Option.some.inj H1) (by decide)
                    · replace c208 := Bool.eq_false_iff.mpr c208
                      subst c208
                      have H1 : (some false) = some r := by rw [if_neg (show ¬ (false = true) by decide)] at H; exact H
                      rw [HTr_] at H1
                      exact absurd (Option.some.inj H1) (by decide)
                  · rw [if_neg c207] at H
                    exact absurd H (by simp)
                · rw [if_neg c206] at H
                  exact absurd H (by simp)
              · rw [if_neg c205] at H
                have c205b0 : (t640 == 0) = false := beq_eq_false_iff_ne.mpr c205
                have c205b1 : (t640 != 0) = true := bne_iff_ne.mpr c205
                by_cases c257 : t603 = true
                · subst c257
                  have H1 : (some false) = some r := by rw [if_pos rfl] at H; exact H
                  rw [HTr_] at H1
                  exact absurd (Option.some.inj H1) (by decide)
                · replace c257 := Bool.eq_false_iff.mpr c257
                  subst c257
                  have H1 : (some false) = some r := by rw [if_neg (show ¬ (false = true) by decide)] at H; exact H
                  rw [HTr_] at H1
                  exact absurd (Option.some.inj H1) (by decide)
            · rw [if_neg c204] at H
              have c204b0 : (t635 == 0) = false := beq_eq_false_iff_ne.mpr c204
              have c204b1 : (t635 != 0) = true := bne_iff_ne.mpr c204
              by_cases c288 : t603 = true
              · subst c288
                have H1 : (some false) = some r := by rw [if_pos rfl] at H; exact H
                rw [HTr_] at H1
                exact absurd (Option.some.inj H1) (by decide)
              · replace c288 := Bool.eq_false_iff.mpr c288
                subst c288
                have H1 : (some false) = some r := by rw [if_neg (show ¬ (false = true) by decide)] at H; exact H
                rw [HTr_] at H1
                exact absurd (Option.some.inj H1) (by decide)
        · rw [if_neg c12] at H
          have c12b0 : (t618 == 0) = false := beq_eq_false_iff_ne.mpr c12
          have c12b1 : (t618 != 0) = true := bne_iff_ne.mpr c12
          by_cases c319 : t635 = 0
          · rw [if_pos c319] at H
            have c319b0 : (t635 == 0) = true := beq_iff_eq.mpr c319
            have c319b1 : (t635 != 0) = false := bne_eq_false_iff_eq.mpr c319
            clear c319
            by_cases c320 : t640 = 0
            · rw [if_pos c320] at H
              have c320b0 : (t640 == 0) = true := beq_iff_eq.mpr c320
              have c320b1 : (t640 != 0) = false := bne_eq_false_iff_eq.mpr c320
              clear c320
              obtain ⟨y659, hy659⟩ : ∃ y_ : List Int, y_ = (([] : List Int)) := ⟨_, rfl⟩
              replace H : (if y659.length + t637.length < 140737488355328 then ((some (y659 ++ t637 : List Int)).bind fun y662 => (if y662.length + t632.length < 140737488355328 then (if t603 = true then (some ((strOfNums (y662 ++ t632)).toList == (strOfNums l1).toList)) else (some false)) else (none))) else (none)) = some r := by first | (rw [hy659]; with_reducible exact H) | (have H2_ := (Option.bind_some _ _).symm.trans H; rw [hy659]; with_reducible exact H2_) | (have H2_ := (Option.bind_some _ _).symm.trans H; with_reducible exact H2_) | with_reducible exact H | (rw [hy659]; exact H) | exact H
              have Ny659 := Aside0.mk hy659
              clear hy659
              by_cases c321 : y659.length + t637.length < 140737488355328
              · rw [if_pos c321] at H
                have LMc321 := Aside0.mk c321
                clear c321
                obtain ⟨y662, hy662⟩ : ∃ y_ : List Int, y_ = (y659 ++ t637) := ⟨_, rfl⟩
                replace H : (if y662.length + t632.length < 140737488355328 then (if t603 = true then (some ((strOfNums (y662 ++ t632)).toList == (strOfNums l1).toList)) else (some false)) else (none)) = some r := by first | (rw [hy662]; with_reducible exact H) | (have H2_ := (Option.bind_some _ _).symm.trans H; rw [hy662]; with_reducible exact H2_) | (have H2_ := (Option.bind_some _ _).symm.trans H; with_reducible exact H2_) | with_reducible exact H | (rw [hy662]; exact H) | exact H
                have Ny662 := Aside0.mk hy662
                clear hy662
                by_cases c322 : y662.length + t632.length < 140737488355328
                · rw [if_pos c322] at H
                  have LMc322 := Aside0.mk c322
                  clear c322
                  obtain ⟨y665, hy665⟩ : ∃ y_ : List Int, y_ = (y662 ++ t632) := ⟨_, rfl⟩
                  replace H : (if t603 = true then (some ((strOfNums y665).toList == (strOfNums l1).toList)) else (some false)) = some r := by first | (rw [hy665]; with_reducible exact H) | (have H2_ := (Option.bind_some _ _).symm.trans H; rw [hy665]; with_reducible exact H2_) | (have H2_ := (Option.bind_some _ _).symm.trans H; with_reducible exact H2_) | with_reducible exact H | (rw [hy665]; exact H) | exact H
                  have Ny665 := Aside0.mk hy665
                  clear hy665
                  by_cases c323 : t603 = true
                  · subst c323
                    have H1 : (some ((strOfNums y665).toList == (strOfNums l1).toList)) = some r := by rw [if_pos rfl] at H; exact H
                    clear H
                    have H := H1
                    clear H1
                    obtain rfl := Option.some.inj H
                    try go_wp2_with (first | ((with_reducible refine gate_callee (f := 12) rfl ?_); refine goesL_ (some 30) rfl rfl Try.func12 (by kernel_rfl) rfl #[.slice A0 l0.length c0] rfl (by (try simp only [List.map_toArray, List.map_cons, List.map_nil]); first | done | rfl | (simp only [List.length_drop, List.length_take]; rfl)) ?_; (with_reducible refine (wire_Read.calls _ _ l0 t604 t605 t606 t607 t610 t613 t614 t617 t618 _ ?side1 ?side2 A8.out).mono ?_); (case side1 => repeat (first | exact (Kd.C_below HR0.out HB.out) | (with_reducible refine Kd.C_alloc ?_ _) | (with_reducible refine Kd.C_drewN ?_ _) | (with_reducible refine Kd.C_drew ?_))); (case side2 => exact HC0.out); rintro e w324 ⟨v608, v611, v615, rfl, ho0, ho1, ho2, hb⟩; refine ⟨_, rfl, ?_⟩; have n0_ := Aside0.mk (Kd.V_lower (Kd.V_mono (ok' := fun k_ => True) ho0 (fun k_ hk_ => trivial)) (below_size (by repeat (first | (with_reducible first | exact HB.out | apply below_alloc | apply pw_below_drewN | apply below_drew1) | exact HB.out)))); have n1_ := Aside0.mk (Kd.V_lower (Kd.V_mono (ok' := fun k_ => True) ho1 (fun k_ hk_ => trivial)) (below_size (by repeat (first | (with_reducible first | exact HB.out | apply below_alloc | apply pw_below_drewN | apply below_drew1) | exact HB.out)))); have n2_ := Aside0.mk (Kd.V_lower (Kd.V_mono (ok' := fun k_ => True) ho2 (fun k_ hk_ => trivial)) (below_size (by repeat (first | (with_reducible first | exact HB.out | apply below_alloc | apply pw_below_drewN | apply below_drew1) | exact HB.out)))); have n3_ := Aside0.mk (below_step (by repeat (first | (with_reducible first | exact HB.out | apply below_alloc | apply pw_below_drewN | apply below_drew1) | exact HB.out)) hb); clear HB; have HO609 := n0_; have HO612 := n1_; have HO616 := n2_; have HB := n3_; clear n0_ n1_ n2_ n3_; (try clear hb); (try clear hb2); (try clear hk); (try clear hi); (try clear ho0); (try clear ho1); (try clear ho2)) | ((with_reducible refine gate_dst (N := 7) rfl ?_); (try (refine gate_guard (by rfl) ?_; dsimp only)); refine box_event ?hg (N := 7) ?hd (cs := #[.int .i64 0, .int .i64 0, .slice none 0 0, .slice none 0 0, .bool false, .slice none 0 0, .int .i64 0]) (t := 24) ?hr ?_; (case hd => rfl); (case hg => rfl); (case hr => first | (go_simp; done) | (go_simp; rfl)); intro gb619 hg w325 hbox hb; have n0_ := Aside0.mk (Kd.V_below (Kd.V_elderB (by (with_reducible repeat (first | apply Kd.V_alloc | apply Kd.V_drewN | apply Kd.V_drew)); exact HO609.out) gb619 (Nat.le_of_eq hg.symm)) hb); have n1_ := Aside0.mk (Kd.V_below (Kd.V_elderB (by (with_reducible repeat (first | apply Kd.V_alloc | apply Kd.V_drewN | apply Kd.V_drew)); exact HO612.out) gb619 (Nat.le_of_eq hg.symm)) hb); have n2_ := Aside0.mk (Kd.V_below (Kd.V_elderB (by (with_reducible repeat (first | apply Kd.V_alloc | apply Kd.V_drewN | apply Kd.V_drew)); exact HO616.out) gb619 (Nat.le_of_eq hg.symm)) hb); have n3_ := Aside0.mk (below_step (by repeat (first | (with_reducible first | exact HB.out | apply below_alloc | apply pw_below_drewN | apply below_drew1) | exact HB.out)) hb); have n4_ := Aside0.mk (hbox); have n5_ := Aside0.mk ((by rw [hg]; exact (below_size (by repeat (first | (with_reducible first | exact HB.out | apply below_alloc | apply pw_below_drewN | apply below_drew1) | exact HB.out))) : w.heap.size ≤ gb619)); have n6_ := Aside0.mk ((by rw [hg]; exact (below_size (by repeat (first | (with_reducible first | exact HB.out | apply below_alloc | apply pw_below_drewN | apply below_drew1) | exact HB.out))) : w.heap.size ≤ gb619)); clear HO609; clear HO612; clear HO616; clear HB; have HO609 := n0_; have HO612 := n1_; have HO616 := n2_; have HB := n3_; have BK619 := n4_; have GW619 := n5_; have GE619 := n6_; clear n0_ n1_ n2_ n3_ n4_ n5_ n6_; clear hb hbox hg; have hcz326_0 : w325.cell? ⟨gb619, 0, none⟩ = some (.int .i64 0) := (blk_cell BK619.out 0).trans rfl; have hcz326_1 : w325.cell? ⟨gb619, 1, none⟩ = some (.int .i64 0) := (blk_cell BK619.out 1).trans rfl; have hcz326_2 : w325.cell? ⟨gb619, 2, none⟩ = some (.slice none 0 0) := (blk_cell BK619.out 2).trans rfl; have hcz326_3 : w325.cell? ⟨gb619, 3, none⟩ = some (.slice none 0 0) := (blk_cell BK619.out 3).trans rfl; have hcz326_4 : w325.cell? ⟨gb619, 4, none⟩ = some (.bool false) := (blk_cell BK619.out 4).trans rfl; have hcz326_5 : w325.cell? ⟨gb619, 5, none⟩ = some (.slice none 0 0) := (blk_cell BK619.out 5).trans rfl; have hcz326_6 : w325.cell? ⟨gb619, 6, none⟩ = some (.int .i64 0) := (blk_cell BK619.out 6).trans rfl; have hfz326_0 := blk_frozen BK619.out 0; have hfz326_1 := blk_frozen BK619.out 1; have hfz326_2 := blk_frozen BK619.out 2; have hfz326_3 := blk_frozen BK619.out 3; have hfz326_4 := blk_frozen BK619.out 4; have hfz326_5 := blk_frozen BK619.out 5; have hfz326_6 := blk_frozen BK619.out 6; obtain ⟨Ao327, co327, eo327⟩ := Kd.V_slice HO609.out; subst eo327; obtain ⟨Ao328, co328, eo328⟩ := Kd.V_slice HO612.out; subst eo328; obtain ⟨Ao329, co329, eo329⟩ := Kd.V_slice HO616.out; subst eo329) | ((with_reducible refine gate_callee (f := 10) rfl ?_); refine goesL_ (some 37) rfl rfl Try.func10 (by kernel_rfl) rfl #[.int .i64 t604, .agg #[.int .i64 t605, .int .i64 t606, .slice Ao327 t607.length co327, .slice Ao328 t610.length co328, .bool t613, .slice Ao329 t614.length co329, .int .i64 t617]] rfl (by (try simp only [List.map_toArray, List.map_cons, List.map_nil]); first | done | rfl | (simp only [List.length_drop, List.length_take]; rfl)) ?_; (with_reducible refine (wire_Write.calls t604 t605 t606 _ _ t607 _ _ t610 t613 _ _ t614 t617 t620 t623 _ ?side1 ?side2 ?side3 ?side4 ?side5 ?side6 A9.out).mono ?_); (case side1 => refine (Kd.V_reads' (e := 5) (base := w.heap.size) (ok := fun k_ => (True ∧ k_ ≠ gb619)) (n := t607.length) (c := co327) ?_).2.2; exact (by (with_reducible repeat (first | apply Kd.V_alloc | apply Kd.V_drewN | apply Kd.V_drew)); exact (Kd.V_mono (Kd.V_far (p := ⟨gb619, 6, none⟩) (Kd.V_far (p := ⟨gb619, 5, none⟩) (Kd.V_far (p := ⟨gb619, 4, none⟩) (Kd.V_far (p := ⟨gb619, 3, none⟩) (Kd.V_far (p := ⟨gb619, 2, none⟩) (Kd.V_far (p := ⟨gb619, 1, none⟩) (Kd.V_far (p := ⟨gb619, 0, none⟩) (Kd.V_mono HO609.out (fun k_ hk => (⟨hk, hk.2⟩ : _ ∧ k_ ≠ gb619))) (fun _ hk => hk.2) (.int .i64 t605)) (fun _ hk => hk.2) (.int .i64 t606)) (fun _ hk => hk.2) (.slice Ao327 t607.length co327)) (fun _ hk => hk.2) (.slice Ao328 t610.length co328)) (fun _ hk => hk.2) (.bool t613)) (fun _ hk => hk.2) (.slice Ao329 t614.length co329)) (fun _ hk => hk.2) (.int .i64 t617)) (fun _ h_ => h_.1)))); (case side2 => exact (Kd.V_reads' HO609.out).2.1); (case side3 => refine (Kd.V_reads' (e := 5) (base := w.heap.size) (ok := fun k_ => (True ∧ k_ ≠ gb619)) (n := t610.length) (c := co328) ?_).2.2; exact (by (with_reducible repeat (first | apply Kd.V_alloc | apply Kd.V_drewN | apply Kd.V_drew)); exact (Kd.V_mono (Kd.V_far (p := ⟨gb619, 6, none⟩) (Kd.V_far (p := ⟨gb619, 5, none⟩) (Kd.V_far (p := ⟨gb619, 4, none⟩) (Kd.V_far (p := ⟨gb619, 3, none⟩) (Kd.V_far (p := ⟨gb619, 2, none⟩) (Kd.V_far (p := ⟨gb619, 1, none⟩) (Kd.V_far (p := ⟨gb619, 0, none⟩) (Kd.V_mono HO612.out (fun k_ hk => (⟨hk, hk.2⟩ : _ ∧ k_ ≠ gb619))) (fun _ hk => hk.2) (.int .i64 t605)) (fun _ hk => hk.2) (.int .i64 t606)) (fun _ hk => hk.2) (.slice Ao327 t607.length co327)) (fun _ hk => hk.2) (.slice Ao328 t610.length co328)) (fun _ hk => hk.2) (.bool t613)) (fun _ hk => hk.2) (.slice Ao329 t614.length co329)) (fun _ hk => hk.2) (.int .i64 t617)) (fun _ h_ => h_.1)))); (case side4 => exact (Kd.V_reads' HO612.out).2.1); (case side5 => refine (Kd.V_reads' (e := 5) (base := w.heap.size) (ok := fun k_ => (True ∧ k_ ≠ gb619)) (n := t614.length) (c := co329) ?_).2.2; exact (by (with_reducible repeat (first | apply Kd.V_alloc | apply Kd.V_drewN | apply Kd.V_drew)); exact (Kd.V_mono (Kd.V_far (p := ⟨gb619, 6, none⟩) (Kd.V_far (p := ⟨gb619, 5, none⟩) (Kd.V_far (p := ⟨gb619, 4, none⟩) (Kd.V_far (p := ⟨gb619, 3, none⟩) (Kd.V_far (p := ⟨gb619, 2, none⟩) (Kd.V_far (p := ⟨gb619, 1, none⟩) (Kd.V_far (p := ⟨gb619, 0, none⟩) (Kd.V_mono HO616.out (fun k_ hk => (⟨hk, hk.2⟩ : _ ∧ k_ ≠ gb619))) (fun _ hk => hk.2) (.int .i64 t605)) (fun _ hk => hk.2) (.int .i64 t606)) (fun _ hk => hk.2) (.slice Ao327 t607.length co327)) (fun _ hk => hk.2) (.slice Ao328 t610.length co328)) (fun _ hk => hk.2) (.bool t613)) (fun _ hk => hk.2) (.slice Ao329 t614.length co329)) (fun _ hk => hk.2) (.int .i64 t617)) (fun _ h_ => h_.1)))); (case side6 => exact (Kd.V_reads' HO616.out).2.1); rintro e w330 ⟨v621, rfl, ho0, hb⟩; refine ⟨_, rfl, ?_⟩; have n0_ := Aside0.mk (Kd.V_elder' (by (with_reducible repeat (first | apply Kd.V_alloc | apply Kd.V_drewN | apply Kd.V_drew)); exact (Kd.V_mono (Kd.V_far (p := ⟨gb619, 6, none⟩) (Kd.V_far (p := ⟨gb619, 5, none⟩) (Kd.V_far (p := ⟨gb619, 4, none⟩) (Kd.V_far (p := ⟨gb619, 3, none⟩) (Kd.V_far (p := ⟨gb619, 2, none⟩) (Kd.V_far (p := ⟨gb619, 1, none⟩) (Kd.V_far (p := ⟨gb619, 0, none⟩) (Kd.V_mono HO609.out (fun k_ hk => (⟨hk, hk.2⟩ : _ ∧ k_ ≠ gb619))) (fun _ hk => hk.2) (.int .i64 t605)) (fun _ hk => hk.2) (.int .i64 t606)) (fun _ hk => hk.2) (.slice Ao327 t607.length co327)) (fun _ hk => hk.2) (.slice Ao328 t610.length co328)) (fun _ hk => hk.2) (.bool t613)) (fun _ hk => hk.2) (.slice Ao329 t614.length co329)) (fun _ hk => hk.2) (.int .i64 t617)) (fun _ h_ => h_.1))) (Kd.R_base ho0) hb); have n1_ := Aside0.mk (Kd.V_elder' (by (with_reducible repeat (first | apply Kd.V_alloc | apply Kd.V_drewN | apply Kd.V_drew)); exact (Kd.V_mono (Kd.V_far (p := ⟨gb619, 6, none⟩) (Kd.V_far (p := ⟨gb619, 5, none⟩) (Kd.V_far (p := ⟨gb619, 4, none⟩) (Kd.V_far (p := ⟨gb619, 3, none⟩) (Kd.V_far (p := ⟨gb619, 2, none⟩) (Kd.V_far (p := ⟨gb619, 1, none⟩) (Kd.V_far (p := ⟨gb619, 0, none⟩) (Kd.V_mono HO612.out (fun k_ hk => (⟨hk, hk.2⟩ : _ ∧ k_ ≠ gb619))) (fun _ hk => hk.2) (.int .i64 t605)) (fun _ hk => hk.2) (.int .i64 t606)) (fun _ hk => hk.2) (.slice Ao327 t607.length co327)) (fun _ hk => hk.2) (.slice Ao328 t610.length co328)) (fun _ hk => hk.2) (.bool t613)) (fun _ hk => hk.2) (.slice Ao329 t614.length co329)) (fun _ hk => hk.2) (.int .i64 t617)) (fun _ h_ => h_.1))) (Kd.R_base ho0) hb); have n2_ := Aside0.mk (Kd.V_elder' (by (with_reducible repeat (first | apply Kd.V_alloc | apply Kd.V_drewN | apply Kd.V_drew)); exact (Kd.V_mono (Kd.V_far (p := ⟨gb619, 6, none⟩) (Kd.V_far (p := ⟨gb619, 5, none⟩) (Kd.V_far (p := ⟨gb619, 4, none⟩) (Kd.V_far (p := ⟨gb619, 3, none⟩) (Kd.V_far (p := ⟨gb619, 2, none⟩) (Kd.V_far (p := ⟨gb619, 1, none⟩) (Kd.V_far (p := ⟨gb619, 0, none⟩) (Kd.V_mono HO616.out (fun k_ hk => (⟨hk, hk.2⟩ : _ ∧ k_ ≠ gb619))) (fun _ hk => hk.2) (.int .i64 t605)) (fun _ hk => hk.2) (.int .i64 t606)) (fun _ hk => hk.2) (.slice Ao327 t607.length co327)) (fun _ hk => hk.2) (.slice Ao328 t610.length co328)) (fun _ hk => hk.2) (.bool t613)) (fun _ hk => hk.2) (.slice Ao329 t614.length co329)) (fun _ hk => hk.2) (.int .i64 t617)) (fun _ h_ => h_.1))) (Kd.R_base ho0) hb); have n3_ := Aside0.mk (Kd.R_lower ho0 (below_size (by repeat (first | (with_reducible first | exact HB.out | apply below_alloc | apply pw_below_drewN | apply below_drew1 | refine below_set ?_ GE619.out) | exact HB.out)))); have n4_ := Aside0.mk (blk_below (g := gb619) (o := .cells #[.int .i64 t605, .int .i64 t606, .slice Ao327 t607.length co327, .slice Ao328 t610.length co328, .bool t613, .slice Ao329 t614.length co329, .int .i64 t617] 24 (0, 0)) (by (with_reducible repeat (first | refine blk_drewN ?_ _ | refine blk_drew ?_ | refine blk_alloc ?_ _)); refine blk_put (cs := #[.int .i64 t605, .int .i64 t606, .slice Ao327 t607.length co327, .slice Ao328 t610.length co328, .bool t613, .slice Ao329 t614.length co329, .int .i64 0]) ?_ 6 _ rfl; (with_reducible repeat (first | refine blk_drewN ?_ _ | refine blk_drew ?_ | refine blk_alloc ?_ _)); refine blk_put (cs := #[.int .i64 t605, .int .i64 t606, .slice Ao327 t607.length co327, .slice Ao328 t610.length co328, .bool t613, .slice none 0 0, .int .i64 0]) ?_ 5 _ rfl; (with_reducible repeat (first | refine blk_drewN ?_ _ | refine blk_drew ?_ | refine blk_alloc ?_ _)); refine blk_put (cs := #[.int .i64 t605, .int .i64 t606, .slice Ao327 t607.length co327, .slice Ao328 t610.length co328, .bool false, .slice none 0 0, .int .i64 0]) ?_ 4 _ rfl; (with_reducible repeat (first | refine blk_drewN ?_ _ | refine blk_drew ?_ | refine blk_alloc ?_ _)); refine blk_put (cs := #[.int .i64 t605, .int .i64 t606, .slice Ao327 t607.length co327, .slice none 0 0, .bool false, .slice none 0 0, .int .i64 0]) ?_ 3 _ rfl; (with_reducible repeat (first | refine blk_drewN ?_ _ | refine blk_drew ?_ | refine blk_alloc ?_ _)); refine blk_put (cs := #[.int .i64 t605, .int .i64 t606, .slice none 0 0, .slice none 0 0, .bool false, .slice none 0 0, .int .i64 0]) ?_ 2 _ rfl; (with_reducible repeat (first | refine blk_drewN ?_ _ | refine blk_drew ?_ | refine blk_alloc ?_ _)); refine blk_put (cs := #[.int .i64 t605, .int .i64 0, .slice none 0 0, .slice none 0 0, .bool false, .slice none 0 0, .int .i64 0]) ?_ 1 _ rfl; (with_reducible repeat (first | refine blk_drewN ?_ _ | refine blk_drew ?_ | refine blk_alloc ?_ _)); refine blk_put (cs := #[.int .i64 0, .int .i64 0, .slice none 0 0, .slice none 0 0, .bool false, .slice none 0 0, .int .i64 0]) ?_ 0 _ rfl; (with_reducible repeat (first | refine blk_drewN ?_ _ | refine blk_drew ?_ | refine blk_alloc ?_ _)); exact BK619.out) hb); have n5_ := Aside0.mk (below_step (by repeat (first | (with_reducible first | exact HB.out | apply below_alloc | apply pw_below_drewN | apply below_drew1 | refine below_set ?_ GE619.out) | exact HB.out)) hb); clear HO609; clear HO612; clear HO616; clear BK619; clear HB; have HO609 := n0_; have HO612 := n1_; have HO616 := n2_; have HO622 := n3_; have BK619 := n4_; have HB := n5_; clear n0_ n1_ n2_ n3_ n4_ n5_; (try clear hb); (try clear hb2); (try clear hk); (try clear hi); (try clear ho0)) | ((with_reducible refine gate_callee (f := 18) rfl ?_); refine goesL_ (some 42) rfl rfl Try.func18 (by kernel_rfl) rfl #[.slice A1 l1.length c1] rfl (by (try simp only [List.map_toArray, List.map_cons, List.map_nil]); first | done | rfl | (simp only [List.length_drop, List.length_take]; rfl)) ?_; (with_reducible refine (wire_Tell.calls _ _ l1 t624 t625 t626 t629 t632 t635 _ ?side1 ?side2 A10.out).mono ?_); (case side1 => repeat (first | exact (Kd.C_below HR1.out HB.out) | (with_reducible refine Kd.C_alloc ?_ _) | (with_reducible refine Kd.C_drewN ?_ _) | (with_reducible refine Kd.C_drew ?_))); (case side2 => exact HC1.out); rintro e w331 ⟨v627, v630, v633, rfl, ho0, ho1, ho2, hb⟩; refine ⟨_, rfl, ?_⟩; have n0_ := Aside0.mk (Kd.V_mono (Kd.V_told (Kd.V_told (Kd.V_old (by (with_reducible repeat (first | apply Kd.V_alloc | apply Kd.V_drewN | apply Kd.V_drew)); exact HO609.out) hb) (by first | exact Kd.N_base ho1 | exact Kd.S_base ho1 | exact Kd.R_base ho1)) (Kd.R_base ho2)) (fun _ h_ => h_.1)); have n1_ := Aside0.mk (Kd.V_mono (Kd.V_told (Kd.V_told (Kd.V_old (by (with_reducible repeat (first | apply Kd.V_alloc | apply Kd.V_drewN | apply Kd.V_drew)); exact HO612.out) hb) (by first | exact Kd.N_base ho1 | exact Kd.S_base ho1 | exact Kd.R_base ho1)) (Kd.R_base ho2)) (fun _ h_ => h_.1)); have n2_ := Aside0.mk (Kd.V_mono (Kd.V_told (Kd.V_told (Kd.V_old (by (with_reducible repeat (first | apply Kd.V_alloc | apply Kd.V_drewN | apply Kd.V_drew)); exact HO616.out) hb) (by first | exact Kd.N_base ho1 | exact Kd.S_base ho1 | exact Kd.R_base ho1)) (Kd.R_base ho2)) (fun _ h_ => h_.1)); have n3_ := Aside0.mk (Kd.R_elder' (by (with_reducible repeat (first | apply Kd.R_alloc | apply Kd.R_drewN | apply Kd.R_drew)); exact HO622.out) (Kd.R_base ho2) hb); have n4_ := Aside0.mk (Kd.V_lower (Kd.V_mono (ok' := fun k_ => some k_ ≠ (v630 : Value).ownBlock ∧ some k_ ≠ (v633 : Value).ownBlock ∧ some k_ ≠ (v621 : Value).ownBlock ∧ k_ ≠ gb619) ho0 (fun k_ hk_ => ⟨hk_.2.1, hk_.2.2, (Kd.fresh' (Kd.R_lt (by (with_reducible repeat (first | apply Kd.R_alloc | apply Kd.R_drewN | apply Kd.R_drew)); exact HO622.out)) k_ hk_.1), (Kd.freshB (g := gb619) (o := .cells #[.int .i64 t605, .int .i64 t606, .slice Ao327 t607.length co327, .slice Ao328 t610.length co328, .bool t613, .slice Ao329 t614.length co329, .int .i64 t617] 24 (0, 0)) (by (with_reducible repeat (first | refine blk_drewN ?_ _ | refine blk_drew ?_ | refine blk_alloc ?_ _)); exact BK619.out) k_ hk_.1)⟩)) (below_size (by repeat (first | (with_reducible first | exact HB.out | apply below_alloc | apply pw_below_drewN | apply below_drew1 | refine below_set ?_ GE619.out) | exact HB.out)))); have n5_ := Aside0.mk (Kd.N_lower (Kd.N_mono (ok' := fun k_ => some k_ ≠ (v633 : Value).ownBlock ∧ some k_ ≠ (v621 : Value).ownBlock ∧ k_ ≠ gb619) ho1 (fun k_ hk_ => ⟨hk_.2, (Kd.fresh' (Kd.R_lt (by (with_reducible repeat (first | apply Kd.R_alloc | apply Kd.R_drewN | apply Kd.R_drew)); exact HO622.out)) k_ hk_.1), (Kd.freshB (g := gb619) (o := .cells #[.int .i64 t605, .int .i64 t606, .slice Ao327 t607.length co327, .slice Ao328 t610.length co328, .bool t613, .slice Ao329 t614.length co329, .int .i64 t617] 24 (0, 0)) (by (with_reducible repeat (first | refine blk_drewN ?_ _ | refine blk_drew ?_ | refine blk_alloc ?_ _)); exact BK619.out) k_ hk_.1)⟩)) (below_size (by repeat (first | (with_reducible first | exact HB.out | apply below_alloc | apply pw_below_drewN | apply below_drew1 | refine below_set ?_ GE619.out) | exact HB.out)))); have n6_ := Aside0.mk (Kd.R_lower (Kd.R_new' (Kd.R_mono (ok' := fun k_ => True) ho2 (fun _ hk_ => trivial)) (Kd.R_lt (by (with_reducible repeat (first | apply Kd.R_alloc | apply Kd.R_drewN | apply Kd.R_drew)); exact HO622.out))) (below_size (by repeat (first | (with_reducible first | exact HB.out | apply below_alloc | apply pw_below_drewN | apply below_drew1 | refine below_set ?_ GE619.out) | exact HB.out)))); have n7_ := Aside0.mk (blk_below (g := gb619) (o := .cells #[.int .i64 t605, .int .i64 t606, .slice Ao327 t607.length co327, .slice Ao328 t610.length co328, .bool t613, .slice Ao329 t614.length co329, .int .i64 t617] 24 (0, 0)) (by (with_reducible repeat (first | refine blk_drewN ?_ _ | refine blk_drew ?_ | refine blk_alloc ?_ _)); exact BK619.out) hb); have n8_ := Aside0.mk (below_step (by repeat (first | (with_reducible first | exact HB.out | apply below_alloc | apply pw_below_drewN | apply below_drew1 | refine below_set ?_ GE619.out) | exact HB.out)) hb); clear HO609; clear HO612; clear HO616; clear HO622; clear BK619; clear HB; have HO609 := n0_; have HO612 := n1_; have HO616 := n2_; have HO622 := n3_; have HO628 := n4_; have HO631 := n5_; have HO634 := n6_; have BK619 := n7_; have HB := n8_; clear n0_ n1_ n2_ n3_ n4_ n5_ n6_ n7_ n8_; (try clear hb); (try clear hb2); (try clear hk); (try clear hi); (try clear ho0); (try clear ho1); (try clear ho2)) | ((with_reducible refine gate_dst (N := 11) rfl ?_); (try (refine gate_guard (by rfl) ?_; dsimp only)); refine box_event ?hg (N := 11) ?hd (cs := #[.int .i64 0, .bool false, .slice none 0 0, .slice none 0 0]) (t := 36) ?hr ?_; (case hd => rfl); (case hg => rfl); (case hr => first | (go_simp; done) | (go_simp; rfl)); intro gb636 hg w332 hbox hb; have n0_ := Aside0.mk (Kd.V_below (Kd.V_elderB (by (with_reducible repeat (first | apply Kd.V_alloc | apply Kd.V_drewN | apply Kd.V_drew)); exact HO609.out) gb636 (Nat.le_of_eq hg.symm)) hb); have n1_ := Aside0.mk (Kd.V_below (Kd.V_elderB (by (with_reducible repeat (first | apply Kd.V_alloc | apply Kd.V_drewN | apply Kd.V_drew)); exact HO612.out) gb636 (Nat.le_of_eq hg.symm)) hb); have n2_ := Aside0.mk (Kd.V_below (Kd.V_elderB (by (with_reducible repeat (first | apply Kd.V_alloc | apply Kd.V_drewN | apply Kd.V_drew)); exact HO616.out) gb636 (Nat.le_of_eq hg.symm)) hb); have n3_ := Aside0.mk (Kd.R_below (by (with_reducible repeat (first | apply Kd.R_alloc | apply Kd.R_drewN | apply Kd.R_drew)); exact HO622.out) hb); have n4_ := Aside0.mk (Kd.V_below (Kd.V_elderB (by (with_reducible repeat (first | apply Kd.V_alloc | apply Kd.V_drewN | apply Kd.V_drew)); exact HO628.out) gb636 (Nat.le_of_eq hg.symm)) hb); have n5_ := Aside0.mk (Kd.N_below (Kd.N_elderB (by (with_reducible repeat (first | apply Kd.N_alloc | apply Kd.N_drewN | apply Kd.N_drew)); exact HO631.out) gb636 (Nat.le_of_eq hg.symm)) hb); have n6_ := Aside0.mk (Kd.R_below (by (with_reducible repeat (first | apply Kd.R_alloc | apply Kd.R_drewN | apply Kd.R_drew)); exact HO634.out) hb); have n7_ := Aside0.mk (blk_below (g := gb619) (o := .cells #[.int .i64 t605, .int .i64 t606, .slice Ao327 t607.length co327, .slice Ao328 t610.length co328, .bool t613, .slice Ao329 t614.length co329, .int .i64 t617] 24 (0, 0)) (by (with_reducible repeat (first | refine blk_drewN ?_ _ | refine blk_drew ?_ | refine blk_alloc ?_ _)); exact BK619.out) hb); have n8_ := Aside0.mk (below_step (by repeat (first | (with_reducible first | exact HB.out | apply below_alloc | apply pw_below_drewN | apply below_drew1 | refine below_set ?_ GE619.out) | exact HB.out)) hb); have n9_ := Aside0.mk (hbox); have n10_ := Aside0.mk ((by rw [hg]; exact (below_size (by repeat (first | (with_reducible first | exact HB.out | apply below_alloc | apply pw_below_drewN | apply below_drew1 | refine below_set ?_ GE619.out) | exact HB.out))) : w.heap.size ≤ gb636)); have n11_ := Aside0.mk ((by rw [hg]; exact (below_size (by repeat (first | (with_reducible first | exact HB.out | apply below_alloc | apply pw_below_drewN | apply below_drew1 | refine below_set ?_ GE619.out) | exact HB.out))) : w.heap.size ≤ gb636)); have n12_ := Aside0.mk ((by rw [hg]; exact Nat.ne_of_lt (blk_lt (g := gb619) (o := .cells #[.int .i64 t605, .int .i64 t606, .slice Ao327 t607.length co327, .slice Ao328 t610.length co328, .bool t613, .slice Ao329 t614.length co329, .int .i64 t617] 24 (0, 0)) (by (with_reducible repeat (first | refine blk_drewN ?_ _ | refine blk_drew ?_ | refine blk_alloc ?_ _)); exact BK619.out)) : gb619 ≠ gb636)); have n13_ := Aside0.mk ((by rw [hg]; exact Nat.ne_of_gt (blk_lt (g := gb619) (o := .cells #[.int .i64 t605, .int .i64 t606, .slice Ao327 t607.length co327, .slice Ao328 t610.length co328, .bool t613, .slice Ao329 t614.length co329, .int .i64 t617] 24 (0, 0)) (by (with_reducible repeat (first | refine blk_drewN ?_ _ | refine blk_drew ?_ | refine blk_alloc ?_ _)); exact BK619.out)) : gb636 ≠ gb619)); clear HO609; clear HO612; clear HO616; clear HO622; clear HO628; clear HO631; clear HO634; clear BK619; clear HB; have HO609 := n0_; have HO612 := n1_; have HO616 := n2_; have HO622 := n3_; have HO628 := n4_; have HO631 := n5_; have HO634 := n6_; have BK619 := n7_; have HB := n8_; have BK636 := n9_; have GW636 := n10_; have GE636 := n11_; have NB619_636 := n12_; have NB636_619 := n13_; clear n0_ n1_ n2_ n3_ n4_ n5_ n6_ n7_ n8_ n9_ n10_ n11_ n12_ n13_; clear hb hbox hg; have hnb333 := NB636_619.out; have hnc333 := NB619_636.out; have hcz334_0 : w332.cell? ⟨gb636, 0, none⟩ = some (.int .i64 0) := (blk_cell BK636.out 0).trans rfl; have hcz334_1 : w332.cell? ⟨gb636, 1, none⟩ = some (.bool false) := (blk_cell BK636.out 1).trans rfl; have hcz334_2 : w332.cell? ⟨gb636, 2, none⟩ = some (.slice none 0 0) := (blk_cell BK636.out 2).trans rfl; have hcz334_3 : w332.cell? ⟨gb636, 3, none⟩ = some (.slice none 0 0) := (blk_cell BK636.out 3).trans rfl; have hfz334_0 := blk_frozen BK636.out 0; have hfz334_1 := blk_frozen BK636.out 1; have hfz334_2 := blk_frozen BK636.out 2; have hfz334_3 := blk_frozen BK636.out 3; obtain ⟨Ao335, co335, eo335⟩ := Kd.V_slice HO628.out; subst eo335; obtain ⟨Ao336, co336, eo336⟩ := Kd.N_slice HO631.out; subst eo336) | ((with_reducible refine gate_callee (f := 16) rfl ?_); refine goesL_ (some 48) rfl rfl Try.func16 (by kernel_rfl) rfl #[.agg #[.int .i64 t624, .bool t625, .slice Ao335 t626.length co335, .slice Ao336 t629.length co336]] rfl (by (try simp only [List.map_toArray, List.map_cons, List.map_nil]); first | done | rfl | (simp only [List.length_drop, List.length_take]; rfl)) ?_; (with_reducible refine (wire_Told.calls t624 t625 _ _ t626 _ _ t629 t637 t640 _ ?side1 ?side2 ?side3 ?side4 A11.out).mono ?_); (case side1 => refine (Kd.V_reads' (e := 5) (base := w.heap.size) (ok := fun k_ => ((some k_ ≠ (.slice Ao336 t629.length co336 : Value).ownBlock ∧ (some k_ ≠ (v633 : Value).ownBlock ∧ (some k_ ≠ (v621 : Value).ownBlock ∧ k_ ≠ gb619))) ∧ k_ ≠ gb636)) (n := t626.length) (c := co335) ?_).2.2; exact (by (with_reducible repeat (first | apply Kd.V_alloc | apply Kd.V_drewN | apply Kd.V_drew)); exact (Kd.V_mono (Kd.V_far (p := ⟨gb636, 3, none⟩) (Kd.V_far (p := ⟨gb636, 2, none⟩) (Kd.V_far (p := ⟨gb636, 1, none⟩) (Kd.V_far (p := ⟨gb636, 0, none⟩) (Kd.V_mono HO628.out (fun k_ hk => (⟨hk, hk.2⟩ : _ ∧ k_ ≠ gb636))) (fun _ hk => hk.2) (.int .i64 t624)) (fun _ hk => hk.2) (.bool t625)) (fun _ hk => hk.2) (.slice Ao335 t626.length co335)) (fun _ hk => hk.2) (.slice Ao336 t629.length co336)) (fun _ h_ => h_.1)))); (case side2 => exact (Kd.V_reads' HO628.out).2.1); (case side3 => refine (Kd.N_reads' (e := 47) (base := w.heap.size) (ok := fun k_ => ((some k_ ≠ (v633 : Value).ownBlock ∧ (some k_ ≠ (v621 : Value).ownBlock ∧ k_ ≠ gb619)) ∧ k_ ≠ gb636)) (n := t629.length) (c := co336) ?_).2.2; exact (by (with_reducible repeat (first | apply Kd.N_alloc | apply Kd.N_drewN | apply Kd.N_drew)); exact (Kd.N_mono (Kd.N_far (p := ⟨gb636, 3, none⟩) (Kd.N_far (p := ⟨gb636, 2, none⟩) (Kd.N_far (p := ⟨gb636, 1, none⟩) (Kd.N_far (p := ⟨gb636, 0, none⟩) (Kd.N_mono HO631.out (fun k_ hk => (⟨hk, hk.2⟩ : _ ∧ k_ ≠ gb636))) (fun _ hk => hk.2) (.int .i64 t624)) (fun _ hk => hk.2) (.bool t625)) (fun _ hk => hk.2) (.slice Ao335 t626.length co335)) (fun _ hk => hk.2) (.slice Ao336 t629.length co336)) (fun _ h_ => h_.1)))); (case side4 => exact (Kd.N_reads' HO631.out).2.1); rintro e w337 ⟨v638, rfl, ho0, hb⟩; refine ⟨_, rfl, ?_⟩; have n0_ := Aside0.mk (Kd.V_elder' (by (with_reducible repeat (first | apply Kd.V_alloc | apply Kd.V_drewN | apply Kd.V_drew)); exact (Kd.V_mono (Kd.V_far (p := ⟨gb636, 3, none⟩) (Kd.V_far (p := ⟨gb636, 2, none⟩) (Kd.V_far (p := ⟨gb636, 1, none⟩) (Kd.V_far (p := ⟨gb636, 0, none⟩) (Kd.V_mono HO609.out (fun k_ hk => (⟨hk, hk.2⟩ : _ ∧ k_ ≠ gb636))) (fun _ hk => hk.2) (.int .i64 t624)) (fun _ hk => hk.2) (.bool t625)) (fun _ hk => hk.2) (.slice Ao335 t626.length co335)) (fun _ hk => hk.2) (.slice Ao336 t629.length co336)) (fun _ h_ => h_.1))) (Kd.R_base ho0) hb); have n1_ := Aside0.mk (Kd.V_elder' (by (with_reducible repeat (first | apply Kd.V_alloc | apply Kd.V_drewN | apply Kd.V_drew)); exact (Kd.V_mono (Kd.V_far (p := ⟨gb636, 3, none⟩) (Kd.V_far (p := ⟨gb636, 2, none⟩) (Kd.V_far (p := ⟨gb636, 1, none⟩) (Kd.V_far (p := ⟨gb636, 0, none⟩) (Kd.V_mono HO612.out (fun k_ hk => (⟨hk, hk.2⟩ : _ ∧ k_ ≠ gb636))) (fun _ hk => hk.2) (.int .i64 t624)) (fun _ hk => hk.2) (.bool t625)) (fun _ hk => hk.2) (.slice Ao335 t626.length co335)) (fun _ hk => hk.2) (.slice Ao336 t629.length co336)) (fun _ h_ => h_.1))) (Kd.R_base ho0) hb); have n2_ := Aside0.mk (Kd.V_elder' (by (with_reducible repeat (first | apply Kd.V_alloc | apply Kd.V_drewN | apply Kd.V_drew)); exact (Kd.V_mono (Kd.V_far (p := ⟨gb636, 3, none⟩) (Kd.V_far (p := ⟨gb636, 2, none⟩) (Kd.V_far (p := ⟨gb636, 1, none⟩) (Kd.V_far (p := ⟨gb636, 0, none⟩) (Kd.V_mono HO616.out (fun k_ hk => (⟨hk, hk.2⟩ : _ ∧ k_ ≠ gb636))) (fun _ hk => hk.2) (.int .i64 t624)) (fun _ hk => hk.2) (.bool t625)) (fun _ hk => hk.2) (.slice Ao335 t626.length co335)) (fun _ hk => hk.2) (.slice Ao336 t629.length co336)) (fun _ h_ => h_.1))) (Kd.R_base ho0) hb); have n3_ := Aside0.mk (Kd.R_elder' (by (with_reducible repeat (first | apply Kd.R_alloc | apply Kd.R_drewN | apply Kd.R_drew)); exact (Kd.R_mono (Kd.R_far (p := ⟨gb636, 3, none⟩) (Kd.R_far (p := ⟨gb636, 2, none⟩) (Kd.R_far (p := ⟨gb636, 1, none⟩) (Kd.R_far (p := ⟨gb636, 0, none⟩) (Kd.R_types HO622.out BK636.out (by decide)) (fun _ hk => hk.2) (.int .i64 t624)) (fun _ hk => hk.2) (.bool t625)) (fun _ hk => hk.2) (.slice Ao335 t626.length co335)) (fun _ hk => hk.2) (.slice Ao336 t629.length co336)) (fun _ h_ => h_.1))) (Kd.R_base ho0) hb); have n4_ := Aside0.mk (Kd.V_elder' (by (with_reducible repeat (first | apply Kd.V_alloc | apply Kd.V_drewN | apply Kd.V_drew)); exact (Kd.V_mono (Kd.V_far (p := ⟨gb636, 3, none⟩) (Kd.V_far (p := ⟨gb636, 2, none⟩) (Kd.V_far (p := ⟨gb636, 1, none⟩) (Kd.V_far (p := ⟨gb636, 0, none⟩) (Kd.V_mono HO628.out (fun k_ hk => (⟨hk, hk.2⟩ : _ ∧ k_ ≠ gb636))) (fun _ hk => hk.2) (.int .i64 t624)) (fun _ hk => hk.2) (.bool t625)) (fun _ hk => hk.2) (.slice Ao335 t626.length co335)) (fun _ hk => hk.2) (.slice Ao336 t629.length co336)) (fun _ h_ => h_.1))) (Kd.R_base ho0) hb); have n5_ := Aside0.mk (Kd.N_elder' (by (with_reducible repeat (first | apply Kd.N_alloc | apply Kd.N_drewN | apply Kd.N_drew)); exact (Kd.N_mono (Kd.N_far (p := ⟨gb636, 3, none⟩) (Kd.N_far (p := ⟨gb636, 2, none⟩) (Kd.N_far (p := ⟨gb636, 1, none⟩) (Kd.N_far (p := ⟨gb636, 0, none⟩) (Kd.N_mono HO631.out (fun k_ hk => (⟨hk, hk.2⟩ : _ ∧ k_ ≠ gb636))) (fun _ hk => hk.2) (.int .i64 t624)) (fun _ hk => hk.2) (.bool t625)) (fun _ hk => hk.2) (.slice Ao335 t626.length co335)) (fun _ hk => hk.2) (.slice Ao336 t629.length co336)) (fun _ h_ => h_.1))) (Kd.R_base ho0) hb); have n6_ := Aside0.mk (Kd.R_elder' (by (with_reducible repeat (first | apply Kd.R_alloc | apply Kd.R_drewN | apply Kd.R_drew)); exact (Kd.R_mono (Kd.R_far (p := ⟨gb636, 3, none⟩) (Kd.R_far (p := ⟨gb636, 2, none⟩) (Kd.R_far (p := ⟨gb636, 1, none⟩) (Kd.R_far (p := ⟨gb636, 0, none⟩) (Kd.R_types HO634.out BK636.out (by decide)) (fun _ hk => hk.2) (.int .i64 t624)) (fun _ hk => hk.2) (.bool t625)) (fun _ hk => hk.2) (.slice Ao335 t626.length co335)) (fun _ hk => hk.2) (.slice Ao336 t629.length co336)) (fun _ h_ => h_.1))) (Kd.R_base ho0) hb); have n7_ := Aside0.mk (Kd.R_lower (Kd.R_new' (Kd.R_new' ho0 (Kd.R_lt (by (with_reducible repeat (first | apply Kd.R_alloc | apply Kd.R_drewN | apply Kd.R_drew)); exact (Kd.R_mono (Kd.R_far (p := ⟨gb636, 3, none⟩) (Kd.R_far (p := ⟨gb636, 2, none⟩) (Kd.R_far (p := ⟨gb636, 1, none⟩) (Kd.R_far (p := ⟨gb636, 0, none⟩) (Kd.R_types HO622.out BK636.out (by decide)) (fun _ hk => hk.2) (.int .i64 t624)) (fun _ hk => hk.2) (.bool t625)) (fun _ hk => hk.2) (.slice Ao335 t626.length co335)) (fun _ hk => hk.2) (.slice Ao336 t629.length co336)) (fun _ h_ => h_.1))))) (Kd.R_lt (by (with_reducible repeat (first | apply Kd.R_alloc | apply Kd.R_drewN | apply Kd.R_drew)); exact (Kd.R_mono (Kd.R_far (p := ⟨gb636, 3, none⟩) (Kd.R_far (p := ⟨gb636, 2, none⟩) (Kd.R_far (p := ⟨gb636, 1, none⟩) (Kd.R_far (p := ⟨gb636, 0, none⟩) (Kd.R_types HO634.out BK636.out (by decide)) (fun _ hk => hk.2) (.int .i64 t624)) (fun _ hk => hk.2) (.bool t625)) (fun _ hk => hk.2) (.slice Ao335 t626.length co335)) (fun _ hk => hk.2) (.slice Ao336 t629.length co336)) (fun _ h_ => h_.1))))) (below_size (by repeat (first | (with_reducible first | exact HB.out | apply below_alloc | apply pw_below_drewN | apply below_drew1 | refine below_set ?_ GE619.out | refine below_set ?_ GE636.out) | exact HB.out)))); have n8_ := Aside0.mk (blk_below (g := gb619) (o := .cells #[.int .i64 t605, .int .i64 t606, .slice Ao327 t607.length co327, .slice Ao328 t610.length co328, .bool t613, .slice Ao329 t614.length co329, .int .i64 t617] 24 (0, 0)) (by (with_reducible repeat (first | refine blk_drewN ?_ _ | refine blk_drew ?_ | refine blk_alloc ?_ _)); refine blk_far ?_ NB619_636.out _; (with_reducible repeat (first | refine blk_drewN ?_ _ | refine blk_drew ?_ | refine blk_alloc ?_ _)); refine blk_far ?_ NB619_636.out _; (with_reducible repeat (first | refine blk_drewN ?_ _ | refine blk_drew ?_ | refine blk_alloc ?_ _)); refine blk_far ?_ NB619_636.out _; (with_reducible repeat (first | refine blk_drewN ?_ _ | refine blk_drew ?_ | refine blk_alloc ?_ _)); refine blk_far ?_ NB619_636.out _; (with_reducible repeat (first | refine blk_drewN ?_ _ | refine blk_drew ?_ | refine blk_alloc ?_ _)); exact BK619.out) hb); have n9_ := Aside0.mk (blk_below (g := gb636) (o := .cells #[.int .i64 t624, .bool t625, .slice Ao335 t626.length co335, .slice Ao336 t629.length co336] 36 (0, 0)) (by (with_reducible repeat (first | refine blk_drewN ?_ _ | refine blk_drew ?_ | refine blk_alloc ?_ _)); refine blk_put (cs := #[.int .i64 t624, .bool t625, .slice Ao335 t626.length co335, .slice none 0 0]) ?_ 3 _ rfl; (with_reducible repeat (first | refine blk_drewN ?_ _ | refine blk_drew ?_ | refine blk_alloc ?_ _)); refine blk_put (cs := #[.int .i64 t624, .bool t625, .slice none 0 0, .slice none 0 0]) ?_ 2 _ rfl; (with_reducible repeat (first | refine blk_drewN ?_ _ | refine blk_drew ?_ | refine blk_alloc ?_ _)); refine blk_put (cs := #[.int .i64 t624, .bool false, .slice none 0 0, .slice none 0 0]) ?_ 1 _ rfl; (with_reducible repeat (first | refine blk_drewN ?_ _ | refine blk_drew ?_ | refine blk_alloc ?_ _)); refine blk_put (cs := #[.int .i64 0, .bool false, .slice none 0 0, .slice none 0 0]) ?_ 0 _ rfl; (with_reducible repeat (first | refine blk_drewN ?_ _ | refine blk_drew ?_ | refine blk_alloc ?_ _)); exact BK636.out) hb); have n10_ := Aside0.mk (below_step (by repeat (first | (with_reducible first | exact HB.out | apply below_alloc | apply pw_below_drewN | apply below_drew1 | refine below_set ?_ GE619.out | refine below_set ?_ GE636.out) | exact HB.out)) hb); clear HO609; clear HO612; clear HO616; clear HO622; clear HO628; clear HO631; clear HO634; clear BK619; clear BK636; clear HB; have HO609 := n0_; have HO612 := n1_; have HO616 := n2_; have HO622 := n3_; have HO628 := n4_; have HO631 := n5_; have HO634 := n6_; have HO639 := n7_; have BK619 := n8_; have BK636 := n9_; have HB := n10_; clear n0_ n1_ n2_ n3_ n4_ n5_ n6_ n7_ n8_ n9_ n10_; (try clear hb); (try clear hb2); (try clear hk); (try clear hi); (try clear ho0); obtain ⟨Ao338, co338, eo338⟩ := Kd.R_slice HO639.out; subst eo338; obtain ⟨Ao339, co339, eo339⟩ := Kd.R_slice HO634.out; subst eo339))
                    have n0_ := Aside0.mk (Kd.V_drew HO609.out)
                    have n1_ := Aside0.mk (Kd.V_drew HO612.out)
                    have n2_ := Aside0.mk (Kd.V_drew HO616.out)
                    have n3_ := Aside0.mk (Kd.R_drew HO622.out)
                    have n4_ := Aside0.mk (Kd.V_drew HO628.out)
                    have n5_ := Aside0.mk (Kd.N_drew HO631.out)
                    have n6_ := Aside0.mk (Kd.R_drew HO634.out)
                    have n7_ := Aside0.mk (Kd.R_drew HO639.out)
                    have n8_ := Aside0.mk (blk_drew BK619.out)
                    have n9_ := Aside0.mk (blk_drew BK636.out)
                    have n10_ := Aside0.mk (below_drew1 HB.out)
                    clear HO609
                    clear HO612
                    clear HO616
                    clear HO622
                    clear HO628
                    clear HO631
                    clear HO634
                    clear HO639
                    clear BK619
                    clear BK636
                    clear HB
                    have HO609 := n0_
                    have HO612 := n1_
                    have HO616 := n2_
                    have HO622 := n3_
                    have HO628 := n4_
                    have HO631 := n5_
                    have HO634 := n6_
                    have HO639 := n7_
                    have BK619 := n8_
                    have BK636 := n9_
                    have HB := n10_
                    clear n0_ n1_ n2_ n3_ n4_ n5_ n6_ n7_ n8_ n9_ n10_
                    refine start_ (n := 18) (S := fun w' => (convert 22 9 (.slice A1 l1.length c1)).run Try.prog w' = .ok (.string (strOfNums l1)) w') (ds := []) #[false, false, false, false, false, false, false, false, false, false, false, false, false, false, false, false, false, false] (by kernel_rfl) rfl rfl (Kd.C_string (P := Try.prog) (A := A1) (c := c1) Try.underlying22 Try.underlying5 Try.underlying9 (Kd.C_below HR1.out HB.out)) (fun hHeld => ?_); refine with_tabW banksmanlaw21_WireAgain.tab9 banksmanlaw21_WireAgain.bits9 (fun HT_ HW_ => ?_)
                    generalize w337.drew = w340 at HO609 HO612 HO616 HO622 HO628 HO631 HO634 HO639 BK619 BK636 HB hHeld ⊢
                    refine pure_ (i := 0) (N := some 64) (v := ?_) (a' := ?_) #[true, false, false, false, false, false, false, false, false, false, false, false, false, false, false, false, false, false] rfl rfl (any_of HT_.out (by kernel_rfl)) (fun _ _ _ h => h) (Or.inl ⟨by rfl, ?_⟩) ?_ ?_
                    rotate_left
                    · intro w'
                      go_simp
                      with_reducible rfl
                    rotate_left
                    · simp only [Act.put, List.setIfInBounds_toArray, List.set_cons_zero, List.set_cons_succ, i64_w, i32_w]
                      rfl
                    refine pure_ (i := 1) (N := some 65) (v := ?_) (a' := ?_) #[true, true, false, false, false, false, false, false, false, false, false, false, false, false, false, false, false, false] rfl rfl (any_of HT_.out (by kernel_rfl)) (fun _ _ _ h => h) (Or.inl ⟨by rfl, ?_⟩) ?_ ?_
                    rotate_left
                    · intro w'
                      go_simp
                      with_reducible rfl
                    rotate_left
                    · simp only [Act.put, List.setIfInBounds_toArray, List.set_cons_zero, List.set_cons_succ, i64_w, i32_w]
                      rfl
                    refine pure_ (i := 2) (N := some 66) (v := ?_) (a' := ?_) #[true, true, true, false, false, false, false, false, false, false, false, false, false, false, false, false, false, false] rfl rfl (any_of HT_.out (by kernel_rfl)) (fun _ _ _ h => h) (Or.inl ⟨by rfl, ?_⟩) ?_ ?_
                    rotate_left
                    · intro w'
                      go_simp
                      with_reducible rfl
                    rotate_left
                    · simp only [Act.put, List.setIfInBounds_toArray, List.set_cons_zero, List.set_cons_succ, i64_w, i32_w]
                      rfl
                    refine pure_ (i := 3) (N := some 67) (v := ?_) (a' := ?_) #[true, true, true, true, false, false, false, false, false, false, false, false, false, false, false, false, false, false] rfl rfl (any_of HT_.out (by kernel_rfl)) (fun _ _ _ h => h) (Or.inl ⟨by rfl, ?_⟩) ?_ ?_
                    rotate_left
                    · intro w'
                      go_simp
                      with_reducible rfl
                    rotate_left
                    · simp only [Act.put, List.setIfInBounds_toArray, List.set_cons_zero, List.set_cons_succ, i64_w, i32_w]
                      rfl
                    refine pure_ (i := 4) (N := some 68) (v := ?_) (a' := ?_) #[true, true, true, true, true, false, false, false, false, false, false, false, false, false, false, false, false, false] rfl rfl (any_of HT_.out (by kernel_rfl)) (fun _ _ _ h => h) (Or.inl ⟨by rfl, ?_⟩) ?_ ?_
                    rotate_left
                    · intro w'
                      go_simp
                      with_reducible rfl
                    rotate_left
                    · simp only [Act.put, List.setIfInBounds_toArray, List.set_cons_zero, List.set_cons_succ, i64_w, i32_w]
                      rfl
                    refine pure_ (i := 5) (N := some 69) (v := ?_) (a' := ?_) #[true, true, true, true, true, true, false, false, false, false, false, false, false, false, false, false, false, false] rfl rfl (any_of HT_.out (by kernel_rfl)) (fun _ _ _ h => h) (Or.inl ⟨by rfl, ?_⟩) ?_ ?_
                    rotate_left
                    · intro w'
                      go_simp
                      with_reducible rfl
                    rotate_left
                    · simp only [Act.put, List.setIfInBounds_toArray, List.set_cons_zero, List.set_cons_succ, i64_w, i32_w]
                      rfl
                    refine pure_ (i := 7) (N := some 71) (v := ?_) (a' := ?_) #[true, true, true, true, true, true, false, true, false, false, false, false, false, false, false, false, false, false] rfl rfl (any_of HT_.out (by kernel_rfl)) (fun _ _ _ h => h) (Or.inl ⟨by rfl, ?_⟩) ?_ ?_
                    rotate_left
                    · intro w'
                      go_simp
                      with_reducible rfl
                    rotate_left
                    · simp only [Act.put, List.setIfInBounds_toArray, List.set_cons_zero, List.set_cons_succ, i64_w, i32_w]
                      rfl
                    refine pure_ (i := 9) (N := some 73) (v := ?_) (a' := ?_) #[true, true, true, true, true, true, false, true, false, true, false, false, false, false, false, false, false, false] rfl rfl (any_of HT_.out (by kernel_rfl)) (fun _ _ _ h => h) (Or.inl ⟨by rfl, ?_⟩) ?_ ?_
                    rotate_left
                    · intro w'
                      go_simp
                      with_reducible rfl
                    rotate_left
                    · simp only [Act.put, List.setIfInBounds_toArray, List.set_cons_zero, List.set_cons_succ, i64_w, i32_w]
                      rfl
                    refine pure_ (i := 12) (N := some 76) (v := ?_) (a' := ?_) #[true, true, true, true, true, true, false, true, false, true, false, false, true, false, false, false, false, false] rfl rfl (any_of HT_.out (by kernel_rfl)) (fun _ _ _ h => h) (Or.inl ⟨by rfl, ?_⟩) ?_ ?_
                    rotate_left
                    · intro w'
                      go_simp
                      with_reducible rfl
                    rotate_left
                    · simp only [Act.put, List.setIfInBounds_toArray, List.set_cons_zero, List.set_cons_succ, i64_w, i32_w]
                      rfl
                    refine take_ (i := 13) (N := some 77) (v := ?_) (a' := ?_) #[true, true, true, true, true, true, false, true, false, true, false, false, true, true, false, false, false, false] rfl rfl (take_ofW HT_.out HW_.out (by kernel_rfl)) (fun _ _ _ h => h) (Or.inl ⟨by rfl, ?_⟩) hHeld ?_ ?_
                    rotate_left
                    · rintro w' s0
                      go_simp
                      with_reducible rfl
                    rotate_left
                    · simp only [Act.put, List.setIfInBounds_toArray, List.set_cons_zero, List.set_cons_succ, i64_w, i32_w]
                      rfl
                    refine one_ (i := 6) (N := some 70) #[true, true, true, true, true, true, true, true, false, true, false, false, true, true, false, false, false, false] rfl rfl (one_of HT_.out (by kernel_rfl)) (by decide) (fun K hK => ?_)
                    refine Kd.R_lit_step (Kd.int .u8) _ 5 ?hg (N := 70) ?hd (xs := ([] : List Int)) (inner := []) (ok := fun _ => True) (okp := fun _ => True) ?hr ?hp (fun _ hk => hk) trivial (Below.refl _ _) (Nat.le_refl _) (by simp) ?_; (case hd => rfl); (case hg => rfl); (case hr => first | (go_simp; done) | (go_simp; rfl)); (case hp => exact (Reps.none _ _))
                    intro v660 w341 ho342 hb hg_ hnew_
                    clear hg_ hnew_
                    (first | rw [← Ny659.out] at ho342 | (simp only [Int.reduceToNat] at ho342; rw [← Ny659.out] at ho342))
                    have n0_ := Aside0.mk (Kd.V_elder' (by (with_reducible repeat (first | apply Kd.V_alloc | apply Kd.V_drewN | apply Kd.V_drew)); exact HO609.out) (Kd.R_base ho342) hb)
                    have n1_ := Aside0.mk (Kd.V_elder' (by (with_reducible repeat (first | apply Kd.V_alloc | apply Kd.V_drewN | apply Kd.V_drew)); exact HO612.out) (Kd.R_base ho342) hb)
                    have n2_ := Aside0.mk (Kd.V_elder' (by (with_reducible repeat (first | apply Kd.V_alloc | apply Kd.V_drewN | apply Kd.V_drew)); exact HO616.out) (Kd.R_base ho342) hb)
                    have n3_ := Aside0.mk (Kd.R_elder' (by (with_reducible repeat (first | apply Kd.R_alloc | apply Kd.R_drewN | apply Kd.R_drew)); exact HO622.out) (Kd.R_base ho342) hb)
                    have n4_ := Aside0.mk (Kd.V_elder' (by (with_reducible repeat (first | apply Kd.V_alloc | apply Kd.V_drewN | apply Kd.V_drew)); exact HO628.out) (Kd.R_base ho342) hb)
                    have n5_ := Aside0.mk (Kd.N_elder' (by (with_reducible repeat (first | apply Kd.N_alloc | apply Kd.N_drewN | apply Kd.N_drew)); exact HO631.out) (Kd.R_base ho342) hb)
                    have n6_ := Aside0.mk (Kd.R_elder' (by (with_reducible repeat (first | apply Kd.R_alloc | apply Kd.R_drewN | apply Kd.R_drew)); exact HO634.out) (Kd.R_base ho342) hb)
                    have n7_ := Aside0.mk (Kd.R_elder' (by (with_reducible repeat (first | apply Kd.R_alloc | apply Kd.R_drewN | apply Kd.R_drew)); exact HO639.out) (Kd.R_base ho342) hb)
                    have n8_ := Aside0.mk (Kd.R_lower (Kd.R_new' (Kd.R_new' (Kd.R_new' ho342 (Kd.R_lt (by (with_reducible repeat (first | apply Kd.R_alloc | apply Kd.R_drewN | apply Kd.R_drew)); exact HO622.out))) (Kd.R_lt (by (with_reducible repeat (first | apply Kd.R_alloc | apply Kd.R_drewN | apply Kd.R_drew)); exact HO634.out))) (Kd.R_lt (by (with_reducible repeat (first | apply Kd.R_alloc | apply Kd.R_drewN | apply Kd.R_drew)); exact HO639.out))) (below_size (by repeat (first | (with_reducible first | exact HB.out | apply below_alloc | apply pw_below_drewN | apply below_drew1 | refine below_set ?_ GE619.out | refine below_set ?_ GE636.out) | exact HB.out))))
                    have n9_ := Aside0.mk (blk_below (g := gb619) (o := .cells #[.int .i64 t605, .int .i64 t606, .slice Ao327 t607.length co327, .slice Ao328 t610.length co328, .bool t613, .slice Ao329 t614.length co329, .int .i64 t617] 24 (0, 0)) (by (with_reducible repeat (first | refine blk_drewN ?_ _ | refine blk_drew ?_ | refine blk_alloc ?_ _)); exact BK619.out) hb)
                    have n10_ := Aside0.mk (blk_below (g := gb636) (o := .cells #[.int .i64 t624, .bool t625, .slice Ao335 t626.length co335, .slice Ao336 t629.length co336] 36 (0, 0)) (by (with_reducible repeat (first | refine blk_drewN ?_ _ | refine blk_drew ?_ | refine blk_alloc ?_ _)); exact BK636.out) hb)
                    have n11_ := Aside0.mk (below_step (by repeat (first | (with_reducible first | exact HB.out | apply below_alloc | apply pw_below_drewN | apply below_drew1 | refine below_set ?_ GE619.out | refine below_set ?_ GE636.out) | exact HB.out)) hb)
                    clear HO609
                    clear HO612
                    clear HO616
                    clear HO622
                    clear HO628
                    clear HO631
                    clear HO634
                    clear HO639
                    clear BK619
                    clear BK636
                    clear HB
                    have HO609 := n0_
                    have HO612 := n1_
                    have HO616 := n2_
                    have HO622 := n3_
                    have HO628 := n4_
                    have HO631 := n5_
                    have HO634 := n6_
                    have HO639 := n7_
                    have HO661 := n8_
                    have BK619 := n9_
                    have BK636 := n10_
                    have HB := n11_
                    clear n0_ n1_ n2_ n3_ n4_ n5_ n6_ n7_ n8_ n9_ n10_ n11_
                    clear hb ho342
                    refine hK.out _ _ (Kd.C_string (P := Try.prog) (A := A1) (c := c1) Try.underlying22 Try.underlying5 Try.underlying9 (Kd.C_below HR1.out HB.out)) (fun hHeld => ?_)
                    clear hK K
                    refine norm_ (a' := ?_) ?_ ?_
                    rotate_left
                    · show Act.put _ (some 70) _ = _
                      simp only [Act.put, List.setIfInBounds_toArray, List.set_cons_zero, List.set_cons_succ, i64_w, i32_w]
                      rfl
                    refine one_ (i := 8) (N := some 72) #[true, true, true, true, true, true, true, true, true, true, false, false, true, true, false, false, false, false] rfl rfl (one_of HT_.out (by kernel_rfl)) (by decide) (fun K hK => ?_)
                    refine Kd.R_append_rows_step (Kd.int .u8) (w0 := w) w.heap.size (by rfl) (.tmp 70) (.tmp 71) 22 5 (.int .u8 0) 1 rfl Try.underlying22 info5 rfl (by decide) (by omega) v660 y659 t637 _ _ _ (fun k_ => some k_ ≠ (v621 : Value).ownBlock ∧ some k_ ≠ (.slice Ao339 t632.length co339 : Value).ownBlock ∧ some k_ ≠ (.slice Ao338 t637.length co338 : Value).ownBlock) (fun _ => False) rfl rfl ?aO ?aR (fun _ _ h => h) (fun _ h => h.elim) ?aF ?aB ?aS ?aL ?_
                    (case aR => repeat (first | exact (Kd.R_reads' HO639.out).2.2 | (with_reducible refine Kd.C_alloc ?_ _) | (with_reducible refine Kd.C_drewN ?_ _) | (with_reducible refine Kd.C_drew ?_)))
                    (case aB => exact (by repeat (first | (with_reducible first | exact HB.out | apply below_alloc | apply pw_below_drewN | apply below_drew1 | refine below_set ?_ GE619.out | refine below_set ?_ GE636.out) | exact HB.out)))
                    (case aF => exact (fun k_ hk => ⟨Kd.fresh' (Kd.R_lt (by (with_reducible repeat (first | apply Kd.R_alloc | apply Kd.R_drewN | apply Kd.R_drew)); exact HO622.out)) k_ hk, Kd.fresh' (Kd.R_lt (by (with_reducible repeat (first | apply Kd.R_alloc | apply Kd.R_drewN | apply Kd.R_drew)); exact HO634.out)) k_ hk, Kd.fresh' (Kd.R_lt (by (with_reducible repeat (first | apply Kd.R_alloc | apply Kd.R_drewN | apply Kd.R_drew)); exact HO639.out)) k_ hk⟩))
                    (case aO => exact (by (with_reducible repeat (first | apply Kd.R_alloc | apply Kd.R_drewN | apply Kd.R_drew)); exact Kd.R_mono HO661.out (fun _ hk => ⟨hk.1.1.2, ⟨hk.1.2, hk.2⟩⟩)))
                    (case aS => exact (below_size (by repeat (first | (with_reducible first | exact HB.out | apply below_alloc | apply pw_below_drewN | apply below_drew1 | refine below_set ?_ GE619.out | refine below_set ?_ GE636.out) | exact HB.out))))
                    (case aL => have := LMc321.out; omega)
                    intro v663 w343 ho hb hg hat
                    rw [← Ny662.out] at ho
                    have n0_ := Aside0.mk (Kd.V_afterv (ok := (fun k_ => some k_ ≠ (v621 : Value).ownBlock ∧ some k_ ≠ (.slice Ao336 t629.length co336 : Value).ownBlock ∧ some k_ ≠ (.slice Ao339 t632.length co339 : Value).ownBlock ∧ some k_ ≠ (.slice Ao338 t637.length co338 : Value).ownBlock ∧ k_ ≠ gb619 ∧ k_ ≠ gb636)) (by (with_reducible repeat (first | apply Kd.V_alloc | apply Kd.V_drewN | apply Kd.V_drew)); exact Kd.V_mono HO609.out (fun _ hk => ⟨⟨hk.1.1.1.1.1.2, ⟨hk.1.1.1.1.2, ⟨hk.1.1.1.2, ⟨hk.1.2, ⟨hk.1.1.1.1.1.1.2, hk.1.1.2⟩⟩⟩⟩⟩, hk.2⟩)) hg hat)
                    have n1_ := Aside0.mk (Kd.V_afterv (ok := (fun k_ => some k_ ≠ (v621 : Value).ownBlock ∧ some k_ ≠ (.slice Ao336 t629.length co336 : Value).ownBlock ∧ some k_ ≠ (.slice Ao339 t632.length co339 : Value).ownBlock ∧ some k_ ≠ (.slice Ao338 t637.length co338 : Value).ownBlock ∧ k_ ≠ gb619 ∧ k_ ≠ gb636)) (by (with_reducible repeat (first | apply Kd.V_alloc | apply Kd.V_drewN | apply Kd.V_drew)); exact Kd.V_mono HO612.out (fun _ hk => ⟨⟨hk.1.1.1.1.1.2, ⟨hk.1.1.1.1.2, ⟨hk.1.1.1.2, ⟨hk.1.2, ⟨hk.1.1.1.1.1.1.2, hk.1.1.2⟩⟩⟩⟩⟩, hk.2⟩)) hg hat)
                    have n2_ := Aside0.mk (Kd.V_afterv (ok := (fun k_ => some k_ ≠ (v621 : Value).ownBlock ∧ some k_ ≠ (.slice Ao336 t629.length co336 : Value).ownBlock ∧ some k_ ≠ (.slice Ao339 t632.length co339 : Value).ownBlock ∧ some k_ ≠ (.slice Ao338 t637.length co338 : Value).ownBlock ∧ k_ ≠ gb619 ∧ k_ ≠ gb636)) (by (with_reducible repeat (first | apply Kd.V_alloc | apply Kd.V_drewN | apply Kd.V_drew)); exact Kd.V_mono HO616.out (fun _ hk => ⟨⟨hk.1.1.1.1.1.2, ⟨hk.1.1.1.1.2, ⟨hk.1.1.1.2, ⟨hk.1.2, ⟨hk.1.1.1.1.1.1.2, hk.1.1.2⟩⟩⟩⟩⟩, hk.2⟩)) hg hat)
                    have n3_ := Aside0.mk (blk_grown (g := gb619) (o := .cells #[.int .i64 t605, .int .i64 t606, .slice Ao327 t607.length co327, .slice Ao328 t610.length co328, .bool t613, .slice Ao329 t614.length co329, .int .i64 t617] 24 (0, 0)) (by (with_reducible repeat (first | refine blk_drewN ?_ _ | refine blk_drew ?_ | refine blk_alloc ?_ _)); exact BK619.out) hg (Kd.R_ne HO661.out BK619.out (by decide)))
                    have n4_ := Aside0.mk (Kd.R_after (ok := (fun k_ => some k_ ≠ (.slice Ao339 t632.length co339 : Value).ownBlock ∧ some k_ ≠ (.slice Ao338 t637.length co338 : Value).ownBlock)) (by (with_reducible repeat (first | apply Kd.R_alloc | apply Kd.R_drewN | apply Kd.R_drew)); exact Kd.R_mono HO622.out (fun _ hk => ⟨⟨hk.1.1.2, hk.1.2⟩, hk.2⟩)) hg hat)
                    have n5_ := Aside0.mk (Kd.V_afterv (ok := (fun k_ => some k_ ≠ (v621 : Value).ownBlock ∧ some k_ ≠ (.slice Ao336 t629.length co336 : Value).ownBlock ∧ some k_ ≠ (.slice Ao339 t632.length co339 : Value).ownBlock ∧ some k_ ≠ (.slice Ao338 t637.length co338 : Value).ownBlock ∧ k_ ≠ gb619 ∧ k_ ≠ gb636)) (by (with_reducible repeat (first | apply Kd.V_alloc | apply Kd.V_drewN | apply Kd.V_drew)); exact Kd.V_mono HO628.out (fun _ hk => ⟨⟨hk.1.1.1.2.2.1, ⟨hk.1.1.1.1, ⟨hk.1.1.1.2.1, ⟨hk.1.2, ⟨hk.1.1.1.2.2.2, hk.1.1.2⟩⟩⟩⟩⟩, hk.2⟩)) hg hat)
                    have n6_ := Aside0.mk (Kd.N_afterv (ok := (fun k_ => some k_ ≠ (v621 : Value).ownBlock ∧ some k_ ≠ (.slice Ao339 t632.length co339 : Value).ownBlock ∧ some k_ ≠ (.slice Ao338 t637.length co338 : Value).ownBlock ∧ k_ ≠ gb619 ∧ k_ ≠ gb636)) (by (with_reducible repeat (first | apply Kd.N_alloc | apply Kd.N_drewN | apply Kd.N_drew)); exact Kd.N_mono HO631.out (fun _ hk => ⟨⟨hk.1.1.1.2.1, ⟨hk.1.1.1.1, ⟨hk.1.2, ⟨hk.1.1.1.2.2, hk.1.1.2⟩⟩⟩⟩, hk.2⟩)) hg hat)
                    have n7_ := Aside0.mk (Kd.R_after (ok := (fun k_ => some k_ ≠ (v621 : Value).ownBlock ∧ some k_ ≠ (.slice Ao338 t637.length co338 : Value).ownBlock)) (by (with_reducible repeat (first | apply Kd.R_alloc | apply Kd.R_drewN | apply Kd.R_drew)); exact Kd.R_mono HO634.out (fun _ hk => ⟨⟨hk.1.1.2, hk.1.2⟩, hk.2⟩)) hg hat)
                    have n8_ := Aside0.mk (blk_grown (g := gb636) (o := .cells #[.int .i64 t624, .bool t625, .slice Ao335 t626.length co335, .slice Ao336 t629.length co336] 36 (0, 0)) (by (with_reducible repeat (first | refine blk_drewN ?_ _ | refine blk_drew ?_ | refine blk_alloc ?_ _)); exact BK636.out) hg (Kd.R_ne HO661.out BK636.out (by decide)))
                    have n9_ := Aside0.mk (Kd.R_after (ok := (fun k_ => some k_ ≠ (v621 : Value).ownBlock ∧ some k_ ≠ (.slice Ao339 t632.length co339 : Value).ownBlock)) (by (with_reducible repeat (first | apply Kd.R_alloc | apply Kd.R_drewN | apply Kd.R_drew)); exact Kd.R_mono HO639.out (fun _ hk => ⟨⟨hk.1.1.2, hk.1.2⟩, hk.2⟩)) hg hat)
                    have n10_ := Aside0.mk (hb)
                    have n11_ := Aside0.mk (ho)
                    clear HO609
                    clear HO612
                    clear HO616
                    clear BK619
                    clear HO622
                    clear HO628
                    clear HO631
                    clear HO634
                    clear BK636
                    clear HO639
                    clear HB
                    clear HO661
                    have HO609 := n0_
                    have HO612 := n1_
                    have HO616 := n2_
                    have BK619 := n3_
                    have HO622 := n4_
                    have HO628 := n5_
                    have HO631 := n6_
                    have HO634 := n7_
                    have BK636 := n8_
                    have HO639 := n9_
                    have HB := n10_
                    have HO664 := n11_
                    clear n0_ n1_ n2_ n3_ n4_ n5_ n6_ n7_ n8_ n9_ n10_ n11_
                    clear ho hb hg hat
                    refine hK.out _ _ (Kd.C_string (P := Try.prog) (A := A1) (c := c1) Try.underlying22 Try.underlying5 Try.underlying9 (Kd.C_below HR1.out HB.out)) (fun hHeld => ?_)
                    clear hK K
                    refine norm_ (a' := ?_) ?_ ?_
                    rotate_left
                    · show Act.put _ (some 72) _ = _
                      simp only [Act.put, List.setIfInBounds_toArray, List.set_cons_zero, List.set_cons_succ, i64_w, i32_w]
                      rfl
                    refine one_ (i := 10) (N := some 74) #[true, true, true, true, true, true, true, true, true, true, true, false, true, true, false, false, false, false] rfl rfl (one_of HT_.out (by kernel_rfl)) (by decide) (fun K hK => ?_)
                    refine Kd.R_append_rows_step (Kd.int .u8) (w0 := w) w.heap.size (by rfl) (.tmp 72) (.tmp 73) 22 5 (.int .u8 0) 1 rfl Try.underlying22 info5 rfl (by decide) (by omega) v663 y662 t632 _ _ _ (fun k_ => some k_ ≠ (v621 : Value).ownBlock ∧ some k_ ≠ (.slice Ao339 t632.length co339 : Value).ownBlock ∧ some k_ ≠ (.slice Ao338 t637.length co338 : Value).ownBlock) (fun _ => False) rfl rfl ?aO ?aR (fun _ _ h => h) (fun _ h => h.elim) ?aF ?aB ?aS ?aL ?_
                    (case aR => repeat (first | exact (Kd.R_reads' HO634.out).2.2 | (with_reducible refine Kd.C_alloc ?_ _) | (with_reducible refine Kd.C_drewN ?_ _) | (with_reducible refine Kd.C_drew ?_)))
                    (case aB => exact (by repeat (first | (with_reducible first | exact HB.out | apply below_alloc | apply pw_below_drewN | apply below_drew1 | refine below_set ?_ GE619.out | refine below_set ?_ GE636.out) | exact HB.out)))
                    (case aF => exact (fun k_ hk => ⟨Kd.fresh' (Kd.R_lt (by (with_reducible repeat (first | apply Kd.R_alloc | apply Kd.R_drewN | apply Kd.R_drew)); exact HO622.out)) k_ hk, Kd.fresh' (Kd.R_lt (by (with_reducible repeat (first | apply Kd.R_alloc | apply Kd.R_drewN | apply Kd.R_drew)); exact HO634.out)) k_ hk, Kd.fresh' (Kd.R_lt (by (with_reducible repeat (first | apply Kd.R_alloc | apply Kd.R_drewN | apply Kd.R_drew)); exact HO639.out)) k_ hk⟩))
                    (case aO => exact (by (with_reducible repeat (first | apply Kd.R_alloc | apply Kd.R_drewN | apply Kd.R_drew)); exact HO664.out))
                    (case aS => exact (below_size (by repeat (first | (with_reducible first | exact HB.out | apply below_alloc | apply pw_below_drewN | apply below_drew1 | refine below_set ?_ GE619.out | refine below_set ?_ GE636.out) | exact HB.out))))
                    (case aL => have := LMc322.out; omega)
                    intro v666 w344 ho hb hg hat
                    rw [← Ny665.out] at ho
                    have n0_ := Aside0.mk (Kd.V_afterv (ok := (fun k_ => some k_ ≠ (v621 : Value).ownBlock ∧ some k_ ≠ (.slice Ao336 t629.length co336 : Value).ownBlock ∧ some k_ ≠ (.slice Ao339 t632.length co339 : Value).ownBlock ∧ some k_ ≠ (.slice Ao338 t637.length co338 : Value).ownBlock ∧ k_ ≠ gb619 ∧ k_ ≠ gb636)) (by (with_reducible repeat (first | apply Kd.V_alloc | apply Kd.V_drewN | apply Kd.V_drew)); exact HO609.out) hg hat)
                    have n1_ := Aside0.mk (Kd.V_afterv (ok := (fun k_ => some k_ ≠ (v621 : Value).ownBlock ∧ some k_ ≠ (.slice Ao336 t629.length co336 : Value).ownBlock ∧ some k_ ≠ (.slice Ao339 t632.length co339 : Value).ownBlock ∧ some k_ ≠ (.slice Ao338 t637.length co338 : Value).ownBlock ∧ k_ ≠ gb619 ∧ k_ ≠ gb636)) (by (with_reducible repeat (first | apply Kd.V_alloc | apply Kd.V_drewN | apply Kd.V_drew)); exact HO612.out) hg hat)
                    have n2_ := Aside0.mk (Kd.V_afterv (ok := (fun k_ => some k_ ≠ (v621 : Value).ownBlock ∧ some k_ ≠ (.slice Ao336 t629.length co336 : Value).ownBlock ∧ some k_ ≠ (.slice Ao339 t632.length co339 : Value).ownBlock ∧ some k_ ≠ (.slice Ao338 t637.length co338 : Value).ownBlock ∧ k_ ≠ gb619 ∧ k_ ≠ gb636)) (by (with_reducible repeat (first | apply Kd.V_alloc | apply Kd.V_drewN | apply Kd.V_drew)); exact HO616.out) hg hat)
                    have n3_ := Aside0.mk (blk_grown (g := gb619) (o := .cells #[.int .i64 t605, .int .i64 t606, .slice Ao327 t607.length co327, .slice Ao328 t610.length co328, .bool t613, .slice Ao329 t614.length co329, .int .i64 t617] 24 (0, 0)) (by (with_reducible repeat (first | refine blk_drewN ?_ _ | refine blk_drew ?_ | refine blk_alloc ?_ _)); exact BK619.out) hg (Kd.R_ne HO664.out BK619.out (by decide)))
                    have n4_ := Aside0.mk (Kd.R_after (ok := (fun k_ => some k_ ≠ (.slice Ao339 t632.length co339 : Value).ownBlock ∧ some k_ ≠ (.slice Ao338 t637.length co338 : Value).ownBlock)) (by (with_reducible repeat (first | apply Kd.R_alloc | apply Kd.R_drewN | apply Kd.R_drew)); exact HO622.out) hg hat)
                    have n5_ := Aside0.mk (Kd.V_afterv (ok := (fun k_ => some k_ ≠ (v621 : Value).ownBlock ∧ some k_ ≠ (.slice Ao336 t629.length co336 : Value).ownBlock ∧ some k_ ≠ (.slice Ao339 t632.length co339 : Value).ownBlock ∧ some k_ ≠ (.slice Ao338 t637.length co338 : Value).ownBlock ∧ k_ ≠ gb619 ∧ k_ ≠ gb636)) (by (with_reducible repeat (first | apply Kd.V_alloc | apply Kd.V_drewN | apply Kd.V_drew)); exact HO628.out) hg hat)
                    have n6_ := Aside0.mk (Kd.N_afterv (ok := (fun k_ => some k_ ≠ (v621 : Value).ownBlock ∧ some k_ ≠ (.slice Ao339 t632.length co339 : Value).ownBlock ∧ some k_ ≠ (.slice Ao338 t637.length co338 : Value).ownBlock ∧ k_ ≠ gb619 ∧ k_ ≠ gb636)) (by (with_reducible repeat (first | apply Kd.N_alloc | apply Kd.N_drewN | apply Kd.N_drew)); exact HO631.out) hg hat)
                    have n7_ := Aside0.mk (Kd.R_after (ok := (fun k_ => some k_ ≠ (v621 : Value).ownBlock ∧ some k_ ≠ (.slice Ao338 t637.length co338 : Value).ownBlock)) (by (with_reducible repeat (first | apply Kd.R_alloc | apply Kd.R_drewN | apply Kd.R_drew)); exact HO634.out) hg hat)
                    have n8_ := Aside0.mk (blk_grown (g := gb636) (o := .cells #[.int .i64 t624, .bool t625, .slice Ao335 t626.length co335, .slice Ao336 t629.length co336] 36 (0, 0)) (by (with_reducible repeat (first | refine blk_drewN ?_ _ | refine blk_drew ?_ | refine blk_alloc ?_ _)); exact BK636.out) hg (Kd.R_ne HO664.out BK636.out (by decide)))
                    have n9_ := Aside0.mk (Kd.R_after (ok := (fun k_ => some k_ ≠ (v621 : Value).ownBlock ∧ some k_ ≠ (.slice Ao339 t632.length co339 : Value).ownBlock)) (by (with_reducible repeat (first | apply Kd.R_alloc | apply Kd.R_drewN | apply Kd.R_drew)); exact HO639.out) hg hat)
                    have n10_ := Aside0.mk (hb)
                    have n11_ := Aside0.mk (ho)
                    clear HO609
                    clear HO612
                    clear HO616
                    clear BK619
                    clear HO622
                    clear HO628
                    clear HO631
                    clear HO634
                    clear BK636
                    clear HO639
                    clear HB
                    clear HO664
                    have HO609 := n0_
                    have HO612 := n1_
                    have HO616 := n2_
                    have BK619 := n3_
                    have HO622 := n4_
                    have HO628 := n5_
                    have HO631 := n6_
                    have HO634 := n7_
                    have BK636 := n8_
                    have HO639 := n9_
                    have HB := n10_
                    have HO667 := n11_
                    clear n0_ n1_ n2_ n3_ n4_ n5_ n6_ n7_ n8_ n9_ n10_ n11_
                    clear ho hb hg hat
                    have hcv346 := Kd.C_string (P := Try.prog) (A := A1) (c := c1) Try.underlying22 Try.underlying5 Try.underlying9 (Kd.C_below HR1.out HB.out)
                    refine hK.out _ _ (Kd.C_string (P := Try.prog) (A := A1) (c := c1) Try.underlying22 Try.underlying5 Try.underlying9 (Kd.C_below HR1.out HB.out)) (fun hHeld => ?_)
                    clear hK K
                    refine norm_ (a' := ?_) ?_ ?_
                    rotate_left
                    · show Act.put _ (some 74) _ = _
                      simp only [Act.put, List.setIfInBounds_toArray, List.set_cons_zero, List.set_cons_succ, i64_w, i32_w]
                      rfl
                    refine one_ (i := 11) (N := some 75) #[true, true, true, true, true, true, true, true, true, true, true, true, true, true, false, false, false, false] rfl rfl (one_of HT_.out (by kernel_rfl)) (by decide) (fun K hK => ?_)
                    have hcv345 := own_string (P := Try.prog) Try.underlying22 Try.underlying5 Try.underlying9 (Kd.own_of_R HO667.out)
                    refine value_ (w1 := ?_) (v := ?_) (by rfl) rfl ?_ ?_
                    rotate_left 2
                    · go_simp
                      constructor
                      · rfl
                      · rfl
                    clear hcv345
                    refine hK.out _ _ (Kd.C_string (P := Try.prog) (A := A1) (c := c1) Try.underlying22 Try.underlying5 Try.underlying9 (Kd.C_below HR1.out HB.out)) (fun hHeld => ?_)
                    clear hK K
                    refine norm_ (a' := ?_) ?_ ?_
                    rotate_left
                    · show Act.put _ (some 75) _ = _
                      simp only [Act.put, List.setIfInBounds_toArray, List.set_cons_zero, List.set_cons_succ, i64_w, i32_w]
                      rfl
                    refine pure_ (i := 14) (N := some 78) (v := ?_) (a' := ?_) #[true, true, true, true, true, true, true, true, true, true, true, true, true, true, true, false, false, false] rfl rfl (any_of HT_.out (by kernel_rfl)) (fun _ _ _ h => h) (Or.inl ⟨by rfl, ?_⟩) ?_ ?_
                    rotate_left
                    · intro w'
                      go_simp
                      with_reducible rfl
                    rotate_left
                    · simp only [Act.put, List.setIfInBounds_toArray, List.set_cons_zero, List.set_cons_succ, i64_w, i32_w]
                      rfl
                    refine pure_ (i := 15) (N := some 79) (v := ?_) (a' := ?_) #[true, true, true, true, true, true, true, true, true, true, true, true, true, true, true, true, false, false] rfl rfl (any_of HT_.out (by kernel_rfl)) (fun _ _ _ h => h) (Or.inl ⟨by rfl, ?_⟩) ?_ ?_
                    rotate_left
                    · intro w'
                      go_simp
                      with_reducible rfl
                    rotate_left
                    · simp only [Act.put, List.setIfInBounds_toArray, List.set_cons_zero, List.set_cons_succ, i64_w, i32_w]
                      rfl
                    refine pure_ (i := 16) (N := some 80) (v := ?_) (a' := ?_) #[true, true, true, true, true, true, true, true, true, true, true, true, true, true, true, true, true, false] rfl rfl (any_of HT_.out (by kernel_rfl)) (fun _ _ _ h => h) (Or.inl ⟨by rfl, ?_⟩) ?_ ?_
                    rotate_left
                    · intro w'
                      go_simp
                      with_reducible rfl
                    rotate_left
                    · simp only [Act.put, List.setIfInBounds_toArray, List.set_cons_zero, List.set_cons_succ, i64_w, i32_w]
                      rfl
                    refine pure_ (i := 17) (N := some 17) (v := ?_) (a' := ?_) #[true, true, true, true, true, true, true, true, true, true, true, true, true, true, true, true, true, true] rfl rfl (any_of HT_.out (by kernel_rfl)) (fun _ _ _ h => h) (Or.inl ⟨by rfl, ?_⟩) ?_ ?_
                    rotate_left
                    · intro w'
                      go_simp
                      with_reducible rfl
                    rotate_left
                    · simp only [Act.put, List.setIfInBounds_toArray, List.set_cons_zero, List.set_cons_succ, i64_w, i32_w]
                      rfl
                    refine done_ (done_of HT_.out (by kernel_rfl)) ?_
                    try go_wp2
                    go_ret
                    exact ⟨by first | rfl | (simp [errW_none, errW_some] <;> rfl) | (simp [*, errW_none, errW_some] <;> rfl), by repeat (first | (with_reducible first | exact HB.out | apply below_alloc | apply pw_below_drewN | apply below_drew1 | refine below_set ?_ GE619.out | refine below_set ?_ GE636.out) | exact HB.out)⟩
                  · replace c323 := Bool.eq_false_iff.mpr c323
                    subst c323
                    have H1 : (some false) = some r := by rw [if_neg (show ¬ (false = true) by decide)] at H; exact H
                    rw [HTr_] at H1
                    exact absurd (Option.some.inj H1) (by decide)
                · rw [if_neg c322] at H
                  exact absurd H (by simp)
              · rw [if_neg c321] at H
                exact absurd H (by simp)
            · rw [if_neg c320] at H
              have c320b0 : (t640 == 0) = false := beq_eq_false_iff_ne.mpr c320
              have c320b1 : (t640 != 0) = true := bne_iff_ne.mpr c320
              by_cases c372 : t603 = true
              · subst c372
                have H1 : (some false) = some r := by rw [if_pos rfl] at H; exact H
                rw [HTr_] at H1
                exact absurd (Option.some.inj H1) (by decide)
              · replace c372 := Bool.eq_false_iff.mpr c372
                subst c372
                have H1 : (some false) = some r := by rw [if_neg (show ¬ (false = true) by decide)] at H; exact H
                rw [HTr_] at H1
                exact absurd (Option.some.inj H1) (by decide)
          · rw [if_neg c319] at H
            have c319b0 : (t635 == 0) = false := beq_eq_false_iff_ne.mpr c319
            have c319b1 : (t635 != 0) = true := bne_iff_ne.mpr c319
            by_cases c403 : t603 = true
            · subst c403
              have H1 : (some true) = some r := by rw [if_pos rfl] at H; exact H
              clear H
              have H := H1
              clear H1
              obtain rfl := Option.some.inj H
              try go_wp2_with (first | ((with_reducible refine gate_callee (f := 12) rfl ?_); refine goesL_ (some 30) rfl rfl Try.func12 (by kernel_rfl) rfl #[.slice A0 l0.length c0] rfl (by (try simp only [List.map_toArray, List.map_cons, List.map_nil]); first | done | rfl | (simp only [List.length_drop, List.length_take]; rfl)) ?_; (with_reducible refine (wire_Read.calls _ _ l0 t604 t605 t606 t607 t610 t613 t614 t617 t618 _ ?side1 ?side2 A8.out).mono ?_); (case side1 => repeat (first | exact (Kd.C_below HR0.out HB.out) | (with_reducible refine Kd.C_alloc ?_ _) | (with_reducible refine Kd.C_drewN ?_ _) | (with_reducible refine Kd.C_drew ?_))); (case side2 => exact HC0.out); rintro e w404 ⟨v608, v611, v615, rfl, ho0, ho1, ho2, hb⟩; refine ⟨_, rfl, ?_⟩; have n0_ := Aside0.mk (Kd.V_lower (Kd.V_mono (ok' := fun k_ => True) ho0 (fun k_ hk_ => trivial)) (below_size (by repeat (first | (with_reducible first | exact HB.out | apply below_alloc | apply pw_below_drewN | apply below_drew1) | exact HB.out)))); have n1_ := Aside0.mk (Kd.V_lower (Kd.V_mono (ok' := fun k_ => True) ho1 (fun k_ hk_ => trivial)) (below_size (by repeat (first | (with_reducible first | exact HB.out | apply below_alloc | apply pw_below_drewN | apply below_drew1) | exact HB.out)))); have n2_ := Aside0.mk (Kd.V_lower (Kd.V_mono (ok' := fun k_ => True) ho2 (fun k_ hk_ => trivial)) (below_size (by repeat (first | (with_reducible first | exact HB.out | apply below_alloc | apply pw_below_drewN | apply below_drew1) | exact HB.out)))); have n3_ := Aside0.mk (below_step (by repeat (first | (with_reducible first | exact HB.out | apply below_alloc | apply pw_below_drewN | apply below_drew1) | exact HB.out)) hb); clear HB; have HO609 := n0_; have HO612 := n1_; have HO616 := n2_; have HB := n3_; clear n0_ n1_ n2_ n3_; (try clear hb); (try clear hb2); (try clear hk); (try clear hi); (try clear ho0); (try clear ho1); (try clear ho2)) | ((with_reducible refine gate_dst (N := 7) rfl ?_); (try (refine gate_guard (by rfl) ?_; dsimp only)); refine box_event ?hg (N := 7) ?hd (cs := #[.int .i64 0, .int .i64 0, .slice none 0 0, .slice none 0 0, .bool false, .slice none 0 0, .int .i64 0]) (t := 24) ?hr ?_; (case hd => rfl); (case hg => rfl); (case hr => first | (go_simp; done) | (go_simp; rfl)); intro gb619 hg w405 hbox hb; have n0_ := Aside0.mk (Kd.V_below (Kd.V_elderB (by (with_reducible repeat (first | apply Kd.V_alloc | apply Kd.V_drewN | apply Kd.V_drew)); exact HO609.out) gb619 (Nat.le_of_eq hg.symm)) hb); have n1_ := Aside0.mk (Kd.V_below (Kd.V_elderB (by (with_reducible repeat (first | apply Kd.V_alloc | apply Kd.V_drewN | apply Kd.V_drew)); exact HO612.out) gb619 (Nat.le_of_eq hg.symm)) hb); have n2_ := Aside0.mk (Kd.V_below (Kd.V_elderB (by (with_reducible repeat (first | apply Kd.V_alloc | apply Kd.V_drewN | apply Kd.V_drew)); exact HO616.out) gb619 (Nat.le_of_eq hg.symm)) hb); have n3_ := Aside0.mk (below_step (by repeat (first | (with_reducible first | exact HB.out | apply below_alloc | apply pw_below_drewN | apply below_drew1) | exact HB.out)) hb); have n4_ := Aside0.mk (hbox); have n5_ := Aside0.mk ((by rw [hg]; exact (below_size (by repeat (first | (with_reducible first | exact HB.out | apply below_alloc | apply pw_below_drewN | apply below_drew1) | exact HB.out))) : w.heap.size ≤ gb619)); have n6_ := Aside0.mk ((by rw [hg]; exact (below_size (by repeat (first | (with_reducible first | exact HB.out | apply below_alloc | apply pw_below_drewN | apply below_drew1) | exact HB.out))) : w.heap.size ≤ gb619)); clear HO609; clear HO612; clear HO616; clear HB; have HO609 := n0_; have HO612 := n1_; have HO616 := n2_; have HB := n3_; have BK619 := n4_; have GW619 := n5_; have GE619 := n6_; clear n0_ n1_ n2_ n3_ n4_ n5_ n6_; clear hb hbox hg; have hcz406_0 : w405.cell? ⟨gb619, 0, none⟩ = some (.int .i64 0) := (blk_cell BK619.out 0).trans rfl; have hcz406_1 : w405.cell? ⟨gb619, 1, none⟩ = some (.int .i64 0) := (blk_cell BK619.out 1).trans rfl; have hcz406_2 : w405.cell? ⟨gb619, 2, none⟩ = some (.slice none 0 0) := (blk_cell BK619.out 2).trans rfl; have hcz406_3 : w405.cell? ⟨gb619, 3, none⟩ = some (.slice none 0 0) := (blk_cell BK619.out 3).trans rfl; have hcz406_4 : w405.cell? ⟨gb619, 4, none⟩ = some (.bool false) := (blk_cell BK619.out 4).trans rfl; have hcz406_5 : w405.cell? ⟨gb619, 5, none⟩ = some (.slice none 0 0) := (blk_cell BK619.out 5).trans rfl; have hcz406_6 : w405.cell? ⟨gb619, 6, none⟩ = some (.int .i64 0) := (blk_cell BK619.out 6).trans rfl; have hfz406_0 := blk_frozen BK619.out 0; have hfz406_1 := blk_frozen BK619.out 1; have hfz406_2 := blk_frozen BK619.out 2; have hfz406_3 := blk_frozen BK619.out 3; have hfz406_4 := blk_frozen BK619.out 4; have hfz406_5 := blk_frozen BK619.out 5; have hfz406_6 := blk_frozen BK619.out 6; obtain ⟨Ao407, co407, eo407⟩ := Kd.V_slice HO609.out; subst eo407; obtain ⟨Ao408, co408, eo408⟩ := Kd.V_slice HO612.out; subst eo408; obtain ⟨Ao409, co409, eo409⟩ := Kd.V_slice HO616.out; subst eo409) | ((with_reducible refine gate_callee (f := 10) rfl ?_); refine goesL_ (some 37) rfl rfl Try.func10 (by kernel_rfl) rfl #[.int .i64 t604, .agg #[.int .i64 t605, .int .i64 t606, .slice Ao407 t607.length co407, .slice Ao408 t610.length co408, .bool t613, .slice Ao409 t614.length co409, .int .i64 t617]] rfl (by (try simp only [List.map_toArray, List.map_cons, List.map_nil]); first | done | rfl | (simp only [List.length_drop, List.length_take]; rfl)) ?_; (with_reducible refine (wire_Write.calls t604 t605 t606 _ _ t607 _ _ t610 t613 _ _ t614 t617 t620 t623 _ ?side1 ?side2 ?side3 ?side4 ?side5 ?side6 A9.out).mono ?_); (case side1 => refine (Kd.V_reads' (e := 5) (base := w.heap.size) (ok := fun k_ => (True ∧ k_ ≠ gb619)) (n := t607.length) (c := co407) ?_).2.2; exact (by (with_reducible repeat (first | apply Kd.V_alloc | apply Kd.V_drewN | apply Kd.V_drew)); exact (Kd.V_mono (Kd.V_far (p := ⟨gb619, 6, none⟩) (Kd.V_far (p := ⟨gb619, 5, none⟩) (Kd.V_far (p := ⟨gb619, 4, none⟩) (Kd.V_far (p := ⟨gb619, 3, none⟩) (Kd.V_far (p := ⟨gb619, 2, none⟩) (Kd.V_far (p := ⟨gb619, 1, none⟩) (Kd.V_far (p := ⟨gb619, 0, none⟩) (Kd.V_mono HO609.out (fun k_ hk => (⟨hk, hk.2⟩ : _ ∧ k_ ≠ gb619))) (fun _ hk => hk.2) (.int .i64 t605)) (fun _ hk => hk.2) (.int .i64 t606)) (fun _ hk => hk.2) (.slice Ao407 t607.length co407)) (fun _ hk => hk.2) (.slice Ao408 t610.length co408)) (fun _ hk => hk.2) (.bool t613)) (fun _ hk => hk.2) (.slice Ao409 t614.length co409)) (fun _ hk => hk.2) (.int .i64 t617)) (fun _ h_ => h_.1)))); (case side2 => exact (Kd.V_reads' HO609.out).2.1); (case side3 => refine (Kd.V_reads' (e := 5) (base := w.heap.size) (ok := fun k_ => (True ∧ k_ ≠ gb619)) (n := t610.length) (c := co408) ?_).2.2; exact (by (with_reducible repeat (first | apply Kd.V_alloc | apply Kd.V_drewN | apply Kd.V_drew)); exact (Kd.V_mono (Kd.V_far (p := ⟨gb619, 6, none⟩) (Kd.V_far (p := ⟨gb619, 5, none⟩) (Kd.V_far (p := ⟨gb619, 4, none⟩) (Kd.V_far (p := ⟨gb619, 3, none⟩) (Kd.V_far (p := ⟨gb619, 2, none⟩) (Kd.V_far (p := ⟨gb619, 1, none⟩) (Kd.V_far (p := ⟨gb619, 0, none⟩) (Kd.V_mono HO612.out (fun k_ hk => (⟨hk, hk.2⟩ : _ ∧ k_ ≠ gb619))) (fun _ hk => hk.2) (.int .i64 t605)) (fun _ hk => hk.2) (.int .i64 t606)) (fun _ hk => hk.2) (.slice Ao407 t607.length co407)) (fun _ hk => hk.2) (.slice Ao408 t610.length co408)) (fun _ hk => hk.2) (.bool t613)) (fun _ hk => hk.2) (.slice Ao409 t614.length co409)) (fun _ hk => hk.2) (.int .i64 t617)) (fun _ h_ => h_.1)))); (case side4 => exact (Kd.V_reads' HO612.out).2.1); (case side5 => refine (Kd.V_reads' (e := 5) (base := w.heap.size) (ok := fun k_ => (True ∧ k_ ≠ gb619)) (n := t614.length) (c := co409) ?_).2.2; exact (by (with_reducible repeat (first | apply Kd.V_alloc | apply Kd.V_drewN | apply Kd.V_drew)); exact (Kd.V_mono (Kd.V_far (p := ⟨gb619, 6, none⟩) (Kd.V_far (p := ⟨gb619, 5, none⟩) (Kd.V_far (p := ⟨gb619, 4, none⟩) (Kd.V_far (p := ⟨gb619, 3, none⟩) (Kd.V_far (p := ⟨gb619, 2, none⟩) (Kd.V_far (p := ⟨gb619, 1, none⟩) (Kd.V_far (p := ⟨gb619, 0, none⟩) (Kd.V_mono HO616.out (fun k_ hk => (⟨hk, hk.2⟩ : _ ∧ k_ ≠ gb619))) (fun _ hk => hk.2) (.int .i64 t605)) (fun _ hk => hk.2) (.int .i64 t606)) (fun _ hk => hk.2) (.slice Ao407 t607.length co407)) (fun _ hk => hk.2) (.slice Ao408 t610.length co408)) (fun _ hk => hk.2) (.bool t613)) (fun _ hk => hk.2) (.slice Ao409 t614.length co409)) (fun _ hk => hk.2) (.int .i64 t617)) (fun _ h_ => h_.1)))); (case side6 => exact (Kd.V_reads' HO616.out).2.1); rintro e w410 ⟨v621, rfl, ho0, hb⟩; refine ⟨_, rfl, ?_⟩; have n0_ := Aside0.mk (Kd.V_elder' (by (with_reducible repeat (first | apply Kd.V_alloc | apply Kd.V_drewN | apply Kd.V_drew)); exact (Kd.V_mono (Kd.V_far (p := ⟨gb619, 6, none⟩) (Kd.V_far (p := ⟨gb619, 5, none⟩) (Kd.V_far (p := ⟨gb619, 4, none⟩) (Kd.V_far (p := ⟨gb619, 3, none⟩) (Kd.V_far (p := ⟨gb619, 2, none⟩) (Kd.V_far (p := ⟨gb619, 1, none⟩) (Kd.V_far (p := ⟨gb619, 0, none⟩) (Kd.V_mono HO609.out (fun k_ hk => (⟨hk, hk.2⟩ : _ ∧ k_ ≠ gb619))) (fun _ hk => hk.2) (.int .i64 t605)) (fun _ hk => hk.2) (.int .i64 t606)) (fun _ hk => hk.2) (.slice Ao407 t607.length co407)) (fun _ hk => hk.2) (.slice Ao408 t610.length co408)) (fun _ hk => hk.2) (.bool t613)) (fun _ hk => hk.2) (.slice Ao409 t614.length co409)) (fun _ hk => hk.2) (.int .i64 t617)) (fun _ h_ => h_.1))) (Kd.R_base ho0) hb); have n1_ := Aside0.mk (Kd.V_elder' (by (with_reducible repeat (first | apply Kd.V_alloc | apply Kd.V_drewN | apply Kd.V_drew)); exact (Kd.V_mono (Kd.V_far (p := ⟨gb619, 6, none⟩) (Kd.V_far (p := ⟨gb619, 5, none⟩) (Kd.V_far (p := ⟨gb619, 4, none⟩) (Kd.V_far (p := ⟨gb619, 3, none⟩) (Kd.V_far (p := ⟨gb619, 2, none⟩) (Kd.V_far (p := ⟨gb619, 1, none⟩) (Kd.V_far (p := ⟨gb619, 0, none⟩) (Kd.V_mono HO612.out (fun k_ hk => (⟨hk, hk.2⟩ : _ ∧ k_ ≠ gb619))) (fun _ hk => hk.2) (.int .i64 t605)) (fun _ hk => hk.2) (.int .i64 t606)) (fun _ hk => hk.2) (.slice Ao407 t607.length co407)) (fun _ hk => hk.2) (.slice Ao408 t610.length co408)) (fun _ hk => hk.2) (.bool t613)) (fun _ hk => hk.2) (.slice Ao409 t614.length co409)) (fun _ hk => hk.2) (.int .i64 t617)) (fun _ h_ => h_.1))) (Kd.R_base ho0) hb); have n2_ := Aside0.mk (Kd.V_elder' (by (with_reducible repeat (first | apply Kd.V_alloc | apply Kd.V_drewN | apply Kd.V_drew)); exact (Kd.V_mono (Kd.V_far (p := ⟨gb619, 6, none⟩) (Kd.V_far (p := ⟨gb619, 5, none⟩) (Kd.V_far (p := ⟨gb619, 4, none⟩) (Kd.V_far (p := ⟨gb619, 3, none⟩) (Kd.V_far (p := ⟨gb619, 2, none⟩) (Kd.V_far (p := ⟨gb619, 1, none⟩) (Kd.V_far (p := ⟨gb619, 0, none⟩) (Kd.V_mono HO616.out (fun k_ hk => (⟨hk, hk.2⟩ : _ ∧ k_ ≠ gb619))) (fun _ hk => hk.2) (.int .i64 t605)) (fun _ hk => hk.2) (.int .i64 t606)) (fun _ hk => hk.2) (.slice Ao407 t607.length co407)) (fun _ hk => hk.2) (.slice Ao408 t610.length co408)) (fun _ hk => hk.2) (.bool t613)) (fun _ hk => hk.2) (.slice Ao409 t614.length co409)) (fun _ hk => hk.2) (.int .i64 t617)) (fun _ h_ => h_.1))) (Kd.R_base ho0) hb); have n3_ := Aside0.mk (Kd.R_lower ho0 (below_size (by repeat (first | (with_reducible first | exact HB.out | apply below_alloc | apply pw_below_drewN | apply below_drew1 | refine below_set ?_ GE619.out) | exact HB.out)))); have n4_ := Aside0.mk (blk_below (g := gb619) (o := .cells #[.int .i64 t605, .int .i64 t606, .slice Ao407 t607.length co407, .slice Ao408 t610.length co408, .bool t613, .slice Ao409 t614.length co409, .int .i64 t617] 24 (0, 0)) (by (with_reducible repeat (first | refine blk_drewN ?_ _ | refine blk_drew ?_ | refine blk_alloc ?_ _)); refine blk_put (cs := #[.int .i64 t605, .int .i64 t606, .slice Ao407 t607.length co407, .slice Ao408 t610.length co408, .bool t613, .slice Ao409 t614.length co409, .int .i64 0]) ?_ 6 _ rfl; (with_reducible repeat (first | refine blk_drewN ?_ _ | refine blk_drew ?_ | refine blk_alloc ?_ _)); refine blk_put (cs := #[.int .i64 t605, .int .i64 t606, .slice Ao407 t607.length co407, .slice Ao408 t610.length co408, .bool t613, .slice none 0 0, .int .i64 0]) ?_ 5 _ rfl; (with_reducible repeat (first | refine blk_drewN ?_ _ | refine blk_drew ?_ | refine blk_alloc ?_ _)); refine blk_put (cs := #[.int .i64 t605, .int .i64 t606, .slice Ao407 t607.length co407, .slice Ao408 t610.length co408, .bool false, .slice none 0 0, .int .i64 0]) ?_ 4 _ rfl; (with_reducible repeat (first | refine blk_drewN ?_ _ | refine blk_drew ?_ | refine blk_alloc ?_ _)); refine blk_put (cs := #[.int .i64 t605, .int .i64 t606, .slice Ao407 t607.length co407, .slice none 0 0, .bool false, .slice none 0 0, .int .i64 0]) ?_ 3 _ rfl; (with_reducible repeat (first | refine blk_drewN ?_ _ | refine blk_drew ?_ | refine blk_alloc ?_ _)); refine blk_put (cs := #[.int .i64 t605, .int .i64 t606, .slice none 0 0, .slice none 0 0, .bool false, .slice none 0 0, .int .i64 0]) ?_ 2 _ rfl; (with_reducible repeat (first | refine blk_drewN ?_ _ | refine blk_drew ?_ | refine blk_alloc ?_ _)); refine blk_put (cs := #[.int .i64 t605, .int .i64 0, .slice none 0 0, .slice none 0 0, .bool false, .slice none 0 0, .int .i64 0]) ?_ 1 _ rfl; (with_reducible repeat (first | refine blk_drewN ?_ _ | refine blk_drew ?_ | refine blk_alloc ?_ _)); refine blk_put (cs := #[.int .i64 0, .int .i64 0, .slice none 0 0, .slice none 0 0, .bool false, .slice none 0 0, .int .i64 0]) ?_ 0 _ rfl; (with_reducible repeat (first | refine blk_drewN ?_ _ | refine blk_drew ?_ | refine blk_alloc ?_ _)); exact BK619.out) hb); have n5_ := Aside0.mk (below_step (by repeat (first | (with_reducible first | exact HB.out | apply below_alloc | apply pw_below_drewN | apply below_drew1 | refine below_set ?_ GE619.out) | exact HB.out)) hb); clear HO609; clear HO612; clear HO616; clear BK619; clear HB; have HO609 := n0_; have HO612 := n1_; have HO616 := n2_; have HO622 := n3_; have BK619 := n4_; have HB := n5_; clear n0_ n1_ n2_ n3_ n4_ n5_; (try clear hb); (try clear hb2); (try clear hk); (try clear hi); (try clear ho0)) | ((with_reducible refine gate_callee (f := 18) rfl ?_); refine goesL_ (some 42) rfl rfl Try.func18 (by kernel_rfl) rfl #[.slice A1 l1.length c1] rfl (by (try simp only [List.map_toArray, List.map_cons, List.map_nil]); first | done | rfl | (simp only [List.length_drop, List.length_take]; rfl)) ?_; (with_reducible refine (wire_Tell.calls _ _ l1 t624 t625 t626 t629 t632 t635 _ ?side1 ?side2 A10.out).mono ?_); (case side1 => repeat (first | exact (Kd.C_below HR1.out HB.out) | (with_reducible refine Kd.C_alloc ?_ _) | (with_reducible refine Kd.C_drewN ?_ _) | (with_reducible refine Kd.C_drew ?_))); (case side2 => exact HC1.out); rintro e w411 ⟨v627, v630, v633, rfl, ho0, ho1, ho2, hb⟩; refine ⟨_, rfl, ?_⟩; have n0_ := Aside0.mk (Kd.V_mono (Kd.V_told (Kd.V_told (Kd.V_old (by (with_reducible repeat (first | apply Kd.V_alloc | apply Kd.V_drewN | apply Kd.V_drew)); exact HO609.out) hb) (by first | exact Kd.N_base ho1 | exact Kd.S_base ho1 | exact Kd.R_base ho1)) (Kd.R_base ho2)) (fun _ h_ => h_.1)); have n1_ := Aside0.mk (Kd.V_mono (Kd.V_told (Kd.V_told (Kd.V_old (by (with_reducible repeat (first | apply Kd.V_alloc | apply Kd.V_drewN | apply Kd.V_drew)); exact HO612.out) hb) (by first | exact Kd.N_base ho1 | exact Kd.S_base ho1 | exact Kd.R_base ho1)) (Kd.R_base ho2)) (fun _ h_ => h_.1)); have n2_ := Aside0.mk (Kd.V_mono (Kd.V_told (Kd.V_told (Kd.V_old (by (with_reducible repeat (first | apply Kd.V_alloc | apply Kd.V_drewN | apply Kd.V_drew)); exact HO616.out) hb) (by first | exact Kd.N_base ho1 | exact Kd.S_base ho1 | exact Kd.R_base ho1)) (Kd.R_base ho2)) (fun _ h_ => h_.1)); have n3_ := Aside0.mk (Kd.R_elder' (by (with_reducible repeat (first | apply Kd.R_alloc | apply Kd.R_drewN | apply Kd.R_drew)); exact HO622.out) (Kd.R_base ho2) hb); have n4_ := Aside0.mk (Kd.V_lower (Kd.V_mono (ok' := fun k_ => some k_ ≠ (v630 : Value).ownBlock ∧ some k_ ≠ (v633 : Value).ownBlock ∧ some k_ ≠ (v621 : Value).ownBlock ∧ k_ ≠ gb619) ho0 (fun k_ hk_ => ⟨hk_.2.1, hk_.2.2, (Kd.fresh' (Kd.R_lt (by (with_reducible repeat (first | apply Kd.R_alloc | apply Kd.R_drewN | apply Kd.R_drew)); exact HO622.out)) k_ hk_.1), (Kd.freshB (g := gb619) (o := .cells #[.int .i64 t605, .int .i64 t606, .slice Ao407 t607.length co407, .slice Ao408 t610.length co408, .bool t613, .slice Ao409 t614.length co409, .int .i64 t617] 24 (0, 0)) (by (with_reducible repeat (first | refine blk_drewN ?_ _ | refine blk_drew ?_ | refine blk_alloc ?_ _)); exact BK619.out) k_ hk_.1)⟩)) (below_size (by repeat (first | (with_reducible first | exact HB.out | apply below_alloc | apply pw_below_drewN | apply below_drew1 | refine below_set ?_ GE619.out) | exact HB.out)))); have n5_ := Aside0.mk (Kd.N_lower (Kd.N_mono (ok' := fun k_ => some k_ ≠ (v633 : Value).ownBlock ∧ some k_ ≠ (v621 : Value).ownBlock ∧ k_ ≠ gb619) ho1 (fun k_ hk_ => ⟨hk_.2, (Kd.fresh' (Kd.R_lt (by (with_reducible repeat (first | apply Kd.R_alloc | apply Kd.R_drewN | apply Kd.R_drew)); exact HO622.out)) k_ hk_.1), (Kd.freshB (g := gb619) (o := .cells #[.int .i64 t605, .int .i64 t606, .slice Ao407 t607.length co407, .slice Ao408 t610.length co408, .bool t613, .slice Ao409 t614.length co409, .int .i64 t617] 24 (0, 0)) (by (with_reducible repeat (first | refine blk_drewN ?_ _ | refine blk_drew ?_ | refine blk_alloc ?_ _)); exact BK619.out) k_ hk_.1)⟩)) (below_size (by repeat (first | (with_reducible first | exact HB.out | apply below_alloc | apply pw_below_drewN | apply below_drew1 | refine below_set ?_ GE619.out) | exact HB.out)))); have n6_ := Aside0.mk (Kd.R_lower (Kd.R_new' (Kd.R_mono (ok' := fun k_ => True) ho2 (fun _ hk_ => trivial)) (Kd.R_lt (by (with_reducible repeat (first | apply Kd.R_alloc | apply Kd.R_drewN | apply Kd.R_drew)); exact HO622.out))) (below_size (by repeat (first | (with_reducible first | exact HB.out | apply below_alloc | apply pw_below_drewN | apply below_drew1 | refine below_set ?_ GE619.out) | exact HB.out)))); have n7_ := Aside0.mk (blk_below (g := gb619) (o := .cells #[.int .i64 t605, .int .i64 t606, .slice Ao407 t607.length co407, .slice Ao408 t610.length co408, .bool t613, .slice Ao409 t614.length co409, .int .i64 t617] 24 (0, 0)) (by (with_reducible repeat (first | refine blk_drewN ?_ _ | refine blk_drew ?_ | refine blk_alloc ?_ _)); exact BK619.out) hb); have n8_ := Aside0.mk (below_step (by repeat (first | (with_reducible first | exact HB.out | apply below_alloc | apply pw_below_drewN | apply below_drew1 | refine below_set ?_ GE619.out) | exact HB.out)) hb); clear HO609; clear HO612; clear HO616; clear HO622; clear BK619; clear HB; have HO609 := n0_; have HO612 := n1_; have HO616 := n2_; have HO622 := n3_; have HO628 := n4_; have HO631 := n5_; have HO634 := n6_; have BK619 := n7_; have HB := n8_; clear n0_ n1_ n2_ n3_ n4_ n5_ n6_ n7_ n8_; (try clear hb); (try clear hb2); (try clear hk); (try clear hi); (try clear ho0); (try clear ho1); (try clear ho2)) | ((with_reducible refine gate_dst (N := 11) rfl ?_); (try (refine gate_guard (by rfl) ?_; dsimp only)); refine box_event ?hg (N := 11) ?hd (cs := #[.int .i64 0, .bool false, .slice none 0 0, .slice none 0 0]) (t := 36) ?hr ?_; (case hd => rfl); (case hg => rfl); (case hr => first | (go_simp; done) | (go_simp; rfl)); intro gb636 hg w412 hbox hb; have n0_ := Aside0.mk (Kd.V_below (Kd.V_elderB (by (with_reducible repeat (first | apply Kd.V_alloc | apply Kd.V_drewN | apply Kd.V_drew)); exact HO609.out) gb636 (Nat.le_of_eq hg.symm)) hb); have n1_ := Aside0.mk (Kd.V_below (Kd.V_elderB (by (with_reducible repeat (first | apply Kd.V_alloc | apply Kd.V_drewN | apply Kd.V_drew)); exact HO612.out) gb636 (Nat.le_of_eq hg.symm)) hb); have n2_ := Aside0.mk (Kd.V_below (Kd.V_elderB (by (with_reducible repeat (first | apply Kd.V_alloc | apply Kd.V_drewN | apply Kd.V_drew)); exact HO616.out) gb636 (Nat.le_of_eq hg.symm)) hb); have n3_ := Aside0.mk (Kd.R_below (by (with_reducible repeat (first | apply Kd.R_alloc | apply Kd.R_drewN | apply Kd.R_drew)); exact HO622.out) hb); have n4_ := Aside0.mk (Kd.V_below (Kd.V_elderB (by (with_reducible repeat (first | apply Kd.V_alloc | apply Kd.V_drewN | apply Kd.V_drew)); exact HO628.out) gb636 (Nat.le_of_eq hg.symm)) hb); have n5_ := Aside0.mk (Kd.N_below (Kd.N_elderB (by (with_reducible repeat (first | apply Kd.N_alloc | apply Kd.N_drewN | apply Kd.N_drew)); exact HO631.out) gb636 (Nat.le_of_eq hg.symm)) hb); have n6_ := Aside0.mk (Kd.R_below (by (with_reducible repeat (first | apply Kd.R_alloc | apply Kd.R_drewN | apply Kd.R_drew)); exact HO634.out) hb); have n7_ := Aside0.mk (blk_below (g := gb619) (o := .cells #[.int .i64 t605, .int .i64 t606, .slice Ao407 t607.length co407, .slice Ao408 t610.length co408, .bool t613, .slice Ao409 t614.length co409, .int .i64 t617] 24 (0, 0)) (by (with_reducible repeat (first | refine blk_drewN ?_ _ | refine blk_drew ?_ | refine blk_alloc ?_ _)); exact BK619.out) hb); have n8_ := Aside0.mk (below_step (by repeat (first | (with_reducible first | exact HB.out | apply below_alloc | apply pw_below_drewN | apply below_drew1 | refine below_set ?_ GE619.out) | exact HB.out)) hb); have n9_ := Aside0.mk (hbox); have n10_ := Aside0.mk ((by rw [hg]; exact (below_size (by repeat (first | (with_reducible first | exact HB.out | apply below_alloc | apply pw_below_drewN | apply below_drew1 | refine below_set ?_ GE619.out) | exact HB.out))) : w.heap.size ≤ gb636)); have n11_ := Aside0.mk ((by rw [hg]; exact (below_size (by repeat (first | (with_reducible first | exact HB.out | apply below_alloc | apply pw_below_drewN | apply below_drew1 | refine below_set ?_ GE619.out) | exact HB.out))) : w.heap.size ≤ gb636)); have n12_ := Aside0.mk ((by rw [hg]; exact Nat.ne_of_lt (blk_lt (g := gb619) (o := .cells #[.int .i64 t605, .int .i64 t606, .slice Ao407 t607.length co407, .slice Ao408 t610.length co408, .bool t613, .slice Ao409 t614.length co409, .int .i64 t617] 24 (0, 0)) (by (with_reducible repeat (first | refine blk_drewN ?_ _ | refine blk_drew ?_ | refine blk_alloc ?_ _)); exact BK619.out)) : gb619 ≠ gb636)); have n13_ := Aside0.mk ((by rw [hg]; exact Nat.ne_of_gt (blk_lt (g := gb619) (o := .cells #[.int .i64 t605, .int .i64 t606, .slice Ao407 t607.length co407, .slice Ao408 t610.length co408, .bool t613, .slice Ao409 t614.length co409, .int .i64 t617] 24 (0, 0)) (by (with_reducible repeat (first | refine blk_drewN ?_ _ | refine blk_drew ?_ | refine blk_alloc ?_ _)); exact BK619.out)) : gb636 ≠ gb619)); clear HO609; clear HO612; clear HO616; clear HO622; clear HO628; clear HO631; clear HO634; clear BK619; clear HB; have HO609 := n0_; have HO612 := n1_; have HO616 := n2_; have HO622 := n3_; have HO628 := n4_; have HO631 := n5_; have HO634 := n6_; have BK619 := n7_; have HB := n8_; have BK636 := n9_; have GW636 := n10_; have GE636 := n11_; have NB619_636 := n12_; have NB636_619 := n13_; clear n0_ n1_ n2_ n3_ n4_ n5_ n6_ n7_ n8_ n9_ n10_ n11_ n12_ n13_; clear hb hbox hg; have hnb413 := NB636_619.out; have hnc413 := NB619_636.out; have hcz414_0 : w412.cell? ⟨gb636, 0, none⟩ = some (.int .i64 0) := (blk_cell BK636.out 0).trans rfl; have hcz414_1 : w412.cell? ⟨gb636, 1, none⟩ = some (.bool false) := (blk_cell BK636.out 1).trans rfl; have hcz414_2 : w412.cell? ⟨gb636, 2, none⟩ = some (.slice none 0 0) := (blk_cell BK636.out 2).trans rfl; have hcz414_3 : w412.cell? ⟨gb636, 3, none⟩ = some (.slice none 0 0) := (blk_cell BK636.out 3).trans rfl; have hfz414_0 := blk_frozen BK636.out 0; have hfz414_1 := blk_frozen BK636.out 1; have hfz414_2 := blk_frozen BK636.out 2; have hfz414_3 := blk_frozen BK636.out 3; obtain ⟨Ao415, co415, eo415⟩ := Kd.V_slice HO628.out; subst eo415; obtain ⟨Ao416, co416, eo416⟩ := Kd.N_slice HO631.out; subst eo416) | ((with_reducible refine gate_callee (f := 16) rfl ?_); refine goesL_ (some 48) rfl rfl Try.func16 (by kernel_rfl) rfl #[.agg #[.int .i64 t624, .bool t625, .slice Ao415 t626.length co415, .slice Ao416 t629.length co416]] rfl (by (try simp only [List.map_toArray, List.map_cons, List.map_nil]); first | done | rfl | (simp only [List.length_drop, List.length_take]; rfl)) ?_; (with_reducible refine (wire_Told.calls t624 t625 _ _ t626 _ _ t629 t637 t640 _ ?side1 ?side2 ?side3 ?side4 A11.out).mono ?_); (case side1 => refine (Kd.V_reads' (e := 5) (base := w.heap.size) (ok := fun k_ => ((some k_ ≠ (.slice Ao416 t629.length co416 : Value).ownBlock ∧ (some k_ ≠ (v633 : Value).ownBlock ∧ (some k_ ≠ (v621 : Value).ownBlock ∧ k_ ≠ gb619))) ∧ k_ ≠ gb636)) (n := t626.length) (c := co415) ?_).2.2; exact (by (with_reducible repeat (first | apply Kd.V_alloc | apply Kd.V_drewN | apply Kd.V_drew)); exact (Kd.V_mono (Kd.V_far (p := ⟨gb636, 3, none⟩) (Kd.V_far (p := ⟨gb636, 2, none⟩) (Kd.V_far (p := ⟨gb636, 1, none⟩) (Kd.V_far (p := ⟨gb636, 0, none⟩) (Kd.V_mono HO628.out (fun k_ hk => (⟨hk, hk.2⟩ : _ ∧ k_ ≠ gb636))) (fun _ hk => hk.2) (.int .i64 t624)) (fun _ hk => hk.2) (.bool t625)) (fun _ hk => hk.2) (.slice Ao415 t626.length co415)) (fun _ hk => hk.2) (.slice Ao416 t629.length co416)) (fun _ h_ => h_.1)))); (case side2 => exact (Kd.V_reads' HO628.out).2.1); (case side3 => refine (Kd.N_reads' (e := 47) (base := w.heap.size) (ok := fun k_ => ((some k_ ≠ (v633 : Value).ownBlock ∧ (some k_ ≠ (v621 : Value).ownBlock ∧ k_ ≠ gb619)) ∧ k_ ≠ gb636)) (n := t629.length) (c := co416) ?_).2.2; exact (by (with_reducible repeat (first | apply Kd.N_alloc | apply Kd.N_drewN | apply Kd.N_drew)); exact (Kd.N_mono (Kd.N_far (p := ⟨gb636, 3, none⟩) (Kd.N_far (p := ⟨gb636, 2, none⟩) (Kd.N_far (p := ⟨gb636, 1, none⟩) (Kd.N_far (p := ⟨gb636, 0, none⟩) (Kd.N_mono HO631.out (fun k_ hk => (⟨hk, hk.2⟩ : _ ∧ k_ ≠ gb636))) (fun _ hk => hk.2) (.int .i64 t624)) (fun _ hk => hk.2) (.bool t625)) (fun _ hk => hk.2) (.slice Ao415 t626.length co415)) (fun _ hk => hk.2) (.slice Ao416 t629.length co416)) (fun _ h_ => h_.1)))); (case side4 => exact (Kd.N_reads' HO631.out).2.1); rintro e w417 ⟨v638, rfl, ho0, hb⟩; refine ⟨_, rfl, ?_⟩; have n0_ := Aside0.mk (Kd.V_elder' (by (with_reducible repeat (first | apply Kd.V_alloc | apply Kd.V_drewN | apply Kd.V_drew)); exact (Kd.V_mono (Kd.V_far (p := ⟨gb636, 3, none⟩) (Kd.V_far (p := ⟨gb636, 2, none⟩) (Kd.V_far (p := ⟨gb636, 1, none⟩) (Kd.V_far (p := ⟨gb636, 0, none⟩) (Kd.V_mono HO609.out (fun k_ hk => (⟨hk, hk.2⟩ : _ ∧ k_ ≠ gb636))) (fun _ hk => hk.2) (.int .i64 t624)) (fun _ hk => hk.2) (.bool t625)) (fun _ hk => hk.2) (.slice Ao415 t626.length co415)) (fun _ hk => hk.2) (.slice Ao416 t629.length co416)) (fun _ h_ => h_.1))) (Kd.R_base ho0) hb); have n1_ := Aside0.mk (Kd.V_elder' (by (with_reducible repeat (first | apply Kd.V_alloc | apply Kd.V_drewN | apply Kd.V_drew)); exact (Kd.V_mono (Kd.V_far (p := ⟨gb636, 3, none⟩) (Kd.V_far (p := ⟨gb636, 2, none⟩) (Kd.V_far (p := ⟨gb636, 1, none⟩) (Kd.V_far (p := ⟨gb636, 0, none⟩) (Kd.V_mono HO612.out (fun k_ hk => (⟨hk, hk.2⟩ : _ ∧ k_ ≠ gb636))) (fun _ hk => hk.2) (.int .i64 t624)) (fun _ hk => hk.2) (.bool t625)) (fun _ hk => hk.2) (.slice Ao415 t626.length co415)) (fun _ hk => hk.2) (.slice Ao416 t629.length co416)) (fun _ h_ => h_.1))) (Kd.R_base ho0) hb); have n2_ := Aside0.mk (Kd.V_elder' (by (with_reducible repeat (first | apply Kd.V_alloc | apply Kd.V_drewN | apply Kd.V_drew)); exact (Kd.V_mono (Kd.V_far (p := ⟨gb636, 3, none⟩) (Kd.V_far (p := ⟨gb636, 2, none⟩) (Kd.V_far (p := ⟨gb636, 1, none⟩) (Kd.V_far (p := ⟨gb636, 0, none⟩) (Kd.V_mono HO616.out (fun k_ hk => (⟨hk, hk.2⟩ : _ ∧ k_ ≠ gb636))) (fun _ hk => hk.2) (.int .i64 t624)) (fun _ hk => hk.2) (.bool t625)) (fun _ hk => hk.2) (.slice Ao415 t626.length co415)) (fun _ hk => hk.2) (.slice Ao416 t629.length co416)) (fun _ h_ => h_.1))) (Kd.R_base ho0) hb); have n3_ := Aside0.mk (Kd.R_elder' (by (with_reducible repeat (first | apply Kd.R_alloc | apply Kd.R_drewN | apply Kd.R_drew)); exact (Kd.R_mono (Kd.R_far (p := ⟨gb636, 3, none⟩) (Kd.R_far (p := ⟨gb636, 2, none⟩) (Kd.R_far (p := ⟨gb636, 1, none⟩) (Kd.R_far (p := ⟨gb636, 0, none⟩) (Kd.R_types HO622.out BK636.out (by decide)) (fun _ hk => hk.2) (.int .i64 t624)) (fun _ hk => hk.2) (.bool t625)) (fun _ hk => hk.2) (.slice Ao415 t626.length co415)) (fun _ hk => hk.2) (.slice Ao416 t629.length co416)) (fun _ h_ => h_.1))) (Kd.R_base ho0) hb); have n4_ := Aside0.mk (Kd.V_elder' (by (with_reducible repeat (first | apply Kd.V_alloc | apply Kd.V_drewN | apply Kd.V_drew)); exact (Kd.V_mono (Kd.V_far (p := ⟨gb636, 3, none⟩) (Kd.V_far (p := ⟨gb636, 2, none⟩) (Kd.V_far (p := ⟨gb636, 1, none⟩) (Kd.V_far (p := ⟨gb636, 0, none⟩) (Kd.V_mono HO628.out (fun k_ hk => (⟨hk, hk.2⟩ : _ ∧ k_ ≠ gb636))) (fun _ hk => hk.2) (.int .i64 t624)) (fun _ hk => hk.2) (.bool t625)) (fun _ hk => hk.2) (.slice Ao415 t626.length co415)) (fun _ hk => hk.2) (.slice Ao416 t629.length co416)) (fun _ h_ => h_.1))) (Kd.R_base ho0) hb); have n5_ := Aside0.mk (Kd.N_elder' (by (with_reducible repeat (first | apply Kd.N_alloc | apply Kd.N_drewN | apply Kd.N_drew)); exact (Kd.N_mono (Kd.N_far (p := ⟨gb636, 3, none⟩) (Kd.N_far (p := ⟨gb636, 2, none⟩) (Kd.N_far (p := ⟨gb636, 1, none⟩) (Kd.N_far (p := ⟨gb636, 0, none⟩) (Kd.N_mono HO631.out (fun k_ hk => (⟨hk, hk.2⟩ : _ ∧ k_ ≠ gb636))) (fun _ hk => hk.2) (.int .i64 t624)) (fun _ hk => hk.2) (.bool t625)) (fun _ hk => hk.2) (.slice Ao415 t626.length co415)) (fun _ hk => hk.2) (.slice Ao416 t629.length co416)) (fun _ h_ => h_.1))) (Kd.R_base ho0) hb); have n6_ := Aside0.mk (Kd.R_elder' (by (with_reducible repeat (first | apply Kd.R_alloc | apply Kd.R_drewN | apply Kd.R_drew)); exact (Kd.R_mono (Kd.R_far (p := ⟨gb636, 3, none⟩) (Kd.R_far (p := ⟨gb636, 2, none⟩) (Kd.R_far (p := ⟨gb636, 1, none⟩) (Kd.R_far (p := ⟨gb636, 0, none⟩) (Kd.R_types HO634.out BK636.out (by decide)) (fun _ hk => hk.2) (.int .i64 t624)) (fun _ hk => hk.2) (.bool t625)) (fun _ hk => hk.2) (.slice Ao415 t626.length co415)) (fun _ hk => hk.2) (.slice Ao416 t629.length co416)) (fun _ h_ => h_.1))) (Kd.R_base ho0) hb); have n7_ := Aside0.mk (Kd.R_lower (Kd.R_new' (Kd.R_new' ho0 (Kd.R_lt (by (with_reducible repeat (first | apply Kd.R_alloc | apply Kd.R_drewN | apply Kd.R_drew)); exact (Kd.R_mono (Kd.R_far (p := ⟨gb636, 3, none⟩) (Kd.R_far (p := ⟨gb636, 2, none⟩) (Kd.R_far (p := ⟨gb636, 1, none⟩) (Kd.R_far (p := ⟨gb636, 0, none⟩) (Kd.R_types HO622.out BK636.out (by decide)) (fun _ hk => hk.2) (.int .i64 t624)) (fun _ hk => hk.2) (.bool t625)) (fun _ hk => hk.2) (.slice Ao415 t626.length co415)) (fun _ hk => hk.2) (.slice Ao416 t629.length co416)) (fun _ h_ => h_.1))))) (Kd.R_lt (by (with_reducible repeat (first | apply Kd.R_alloc | apply Kd.R_drewN | apply Kd.R_drew)); exact (Kd.R_mono (Kd.R_far (p := ⟨gb636, 3, none⟩) (Kd.R_far (p := ⟨gb636, 2, none⟩) (Kd.R_far (p := ⟨gb636, 1, none⟩) (Kd.R_far (p := ⟨gb636, 0, none⟩) (Kd.R_types HO634.out BK636.out (by decide)) (fun _ hk => hk.2) (.int .i64 t624)) (fun _ hk => hk.2) (.bool t625)) (fun _ hk => hk.2) (.slice Ao415 t626.length co415)) (fun _ hk => hk.2) (.slice Ao416 t629.length co416)) (fun _ h_ => h_.1))))) (below_size (by repeat (first | (with_reducible first | exact HB.out | apply below_alloc | apply pw_below_drewN | apply below_drew1 | refine below_set ?_ GE619.out | refine below_set ?_ GE636.out) | exact HB.out)))); have n8_ := Aside0.mk (blk_below (g := gb619) (o := .cells #[.int .i64 t605, .int .i64 t606, .slice Ao407 t607.length co407, .slice Ao408 t610.length co408, .bool t613, .slice Ao409 t614.length co409, .int .i64 t617] 24 (0, 0)) (by (with_reducible repeat (first | refine blk_drewN ?_ _ | refine blk_drew ?_ | refine blk_alloc ?_ _)); refine blk_far ?_ NB619_636.out _; (with_reducible repeat (first | refine blk_drewN ?_ _ | refine blk_drew ?_ | refine blk_alloc ?_ _)); refine blk_far ?_ NB619_636.out _; (with_reducible repeat (first | refine blk_drewN ?_ _ | refine blk_drew ?_ | refine blk_alloc ?_ _)); refine blk_far ?_ NB619_636.out _; (with_reducible repeat (first | refine blk_drewN ?_ _ | refine blk_drew ?_ | refine blk_alloc ?_ _)); refine blk_far ?_ NB619_636.out _; (with_reducible repeat (first | refine blk_drewN ?_ _ | refine blk_drew ?_ | refine blk_alloc ?_ _)); exact BK619.out) hb); have n9_ := Aside0.mk (blk_below (g := gb636) (o := .cells #[.int .i64 t624, .bool t625, .slice Ao415 t626.length co415, .slice Ao416 t629.length co416] 36 (0, 0)) (by (with_reducible repeat (first | refine blk_drewN ?_ _ | refine blk_drew ?_ | refine blk_alloc ?_ _)); refine blk_put (cs := #[.int .i64 t624, .bool t625, .slice Ao415 t626.length co415, .slice none 0 0]) ?_ 3 _ rfl; (with_reducible repeat (first | refine blk_drewN ?_ _ | refine blk_drew ?_ | refine blk_alloc ?_ _)); refine blk_put (cs := #[.int .i64 t624, .bool t625, .slice none 0 0, .slice none 0 0]) ?_ 2 _ rfl; (with_reducible repeat (first | refine blk_drewN ?_ _ | refine blk_drew ?_ | refine blk_alloc ?_ _)); refine blk_put (cs := #[.int .i64 t624, .bool false, .slice none 0 0, .slice none 0 0]) ?_ 1 _ rfl; (with_reducible repeat (first | refine blk_drewN ?_ _ | refine blk_drew ?_ | refine blk_alloc ?_ _)); refine blk_put (cs := #[.int .i64 0, .bool false, .slice none 0 0, .slice none 0 0]) ?_ 0 _ rfl; (with_reducible repeat (first | refine blk_drewN ?_ _ | refine blk_drew ?_ | refine blk_alloc ?_ _)); exact BK636.out) hb); have n10_ := Aside0.mk (below_step (by repeat (first | (with_reducible first | exact HB.out | apply below_alloc | apply pw_below_drewN | apply below_drew1 | refine below_set ?_ GE619.out | refine below_set ?_ GE636.out) | exact HB.out)) hb); clear HO609; clear HO612; clear HO616; clear HO622; clear HO628; clear HO631; clear HO634; clear BK619; clear BK636; clear HB; have HO609 := n0_; have HO612 := n1_; have HO616 := n2_; have HO622 := n3_; have HO628 := n4_; have HO631 := n5_; have HO634 := n6_; have HO639 := n7_; have BK619 := n8_; have BK636 := n9_; have HB := n10_; clear n0_ n1_ n2_ n3_ n4_ n5_ n6_ n7_ n8_ n9_ n10_; (try clear hb); (try clear hb2); (try clear hk); (try clear hi); (try clear ho0)))
              have n0_ := Aside0.mk (Kd.V_drew HO609.out)
              have n1_ := Aside0.mk (Kd.V_drew HO612.out)
              have n2_ := Aside0.mk (Kd.V_drew HO616.out)
              have n3_ := Aside0.mk (Kd.R_drew HO622.out)
              have n4_ := Aside0.mk (Kd.V_drew HO628.out)
              have n5_ := Aside0.mk (Kd.N_drew HO631.out)
              have n6_ := Aside0.mk (Kd.R_drew HO634.out)
              have n7_ := Aside0.mk (Kd.R_drew HO639.out)
              have n8_ := Aside0.mk (blk_drew BK619.out)
              have n9_ := Aside0.mk (blk_drew BK636.out)
              have n10_ := Aside0.mk (below_drew1 HB.out)
              clear HO609
              clear HO612
              clear HO616
              clear HO622
              clear HO628
              clear HO631
              clear HO634
              clear HO639
              clear BK619
              clear BK636
              clear HB
              have HO609 := n0_
              have HO612 := n1_
              have HO616 := n2_
              have HO622 := n3_
              have HO628 := n4_
              have HO631 := n5_
              have HO634 := n6_
              have HO639 := n7_
              have BK619 := n8_
              have BK636 := n9_
              have HB := n10_
              clear n0_ n1_ n2_ n3_ n4_ n5_ n6_ n7_ n8_ n9_ n10_
              refine start_ (n := 18) (S := fun w' => True) (ds := []) #[false, false, false, false, false, false, false, false, false, false, false, false, false, false, false, false, false, false] (by kernel_rfl) rfl rfl trivial (fun hHeld => ?_); refine with_tabW banksmanlaw21_WireAgain.tab9 banksmanlaw21_WireAgain.bits9 (fun HT_ HW_ => ?_)
              generalize w417.drew = w418 at HO609 HO612 HO616 HO622 HO628 HO631 HO634 HO639 BK619 BK636 HB hHeld ⊢
              refine pure_ (i := 0) (N := some 64) (v := ?_) (a' := ?_) #[true, false, false, false, false, false, false, false, false, false, false, false, false, false, false, false, false, false] rfl rfl (any_of HT_.out (by kernel_rfl)) (fun _ _ _ h => h) (Or.inl ⟨by rfl, ?_⟩) ?_ ?_
              rotate_left
              · intro w'
                go_simp
                with_reducible rfl
              rotate_left
              · simp only [Act.put, List.setIfInBounds_toArray, List.set_cons_zero, List.set_cons_succ, i64_w, i32_w]
                rfl
              refine pure_ (i := 1) (N := some 65) (v := ?_) (a' := ?_) #[true, true, false, false, false, false, false, false, false, false, false, false, false, false, false, false, false, false] rfl rfl (any_of HT_.out (by kernel_rfl)) (fun _ _ _ h => h) (Or.inl ⟨by rfl, ?_⟩) ?_ ?_
              rotate_left
              · intro w'
                go_simp
                with_reducible rfl
              rotate_left
              · simp only [Act.put, List.setIfInBounds_toArray, List.set_cons_zero, List.set_cons_succ, i64_w, i32_w]
                rfl
              refine pure_ (i := 2) (N := some 66) (v := ?_) (a' := ?_) #[true, true, true, false, false, false, false, false, false, false, false, false, false, false, false, false, false, false] rfl rfl (any_of HT_.out (by kernel_rfl)) (fun _ _ _ h => h) (Or.inl ⟨by rfl, ?_⟩) ?_ ?_
              rotate_left
              · intro w'
                go_simp
                with_reducible rfl
              rotate_left
              · simp only [Act.put, List.setIfInBounds_toArray, List.set_cons_zero, List.set_cons_succ, i64_w, i32_w]
                rfl
              refine pure_ (i := 3) (N := some 67) (v := undef) (a' := ?_) #[true, true, true, true, false, false, false, false, false, false, false, false, false, false, false, false, false, false] rfl rfl (any_of HT_.out (by kernel_rfl)) (fun _ _ _ h => h) (Or.inr ⟨by rfl, rfl⟩) ?_ ?_
              rotate_left
              · simp only [Act.put, List.setIfInBounds_toArray, List.set_cons_zero, List.set_cons_succ, i64_w, i32_w]
                rfl
              refine pure_ (i := 4) (N := some 68) (v := undef) (a' := ?_) #[true, true, true, true, true, false, false, false, false, false, false, false, false, false, false, false, false, false] rfl rfl (any_of HT_.out (by kernel_rfl)) (fun _ _ _ h => h) (Or.inr ⟨by rfl, rfl⟩) ?_ ?_
              rotate_left
              · simp only [Act.put, List.setIfInBounds_toArray, List.set_cons_zero, List.set_cons_succ, i64_w, i32_w]
                rfl
              refine pure_ (i := 5) (N := some 69) (v := undef) (a' := ?_) #[true, true, true, true, true, true, false, false, false, false, false, false, false, false, false, false, false, false] rfl rfl (any_of HT_.out (by kernel_rfl)) (fun _ _ _ h => h) (Or.inr ⟨by rfl, rfl⟩) ?_ ?_
              rotate_left
              · simp only [Act.put, List.setIfInBounds_toArray, List.set_cons_zero, List.set_cons_succ, i64_w, i32_w]
                rfl
              refine pure_ (i := 6) (N := some 70) (v := undef) (a' := ?_) #[true, true, true, true, true, true, true, false, false, false, false, false, false, false, false, false, false, false] rfl rfl (any_of HT_.out (by kernel_rfl)) (fun _ _ _ h => h) (Or.inr ⟨by rfl, rfl⟩) ?_ ?_
              rotate_left
              · simp only [Act.put, List.setIfInBounds_toArray, List.set_cons_zero, List.set_cons_succ, i64_w, i32_w]
                rfl
              refine pure_ (i := 7) (N := some 71) (v := undef) (a' := ?_) #[true, true, true, true, true, true, true, true, false, false, false, false, false, false, false, false, false, false] rfl rfl (any_of HT_.out (by kernel_rfl)) (fun _ _ _ h => h) (Or.inr ⟨by rfl, rfl⟩) ?_ ?_
              rotate_left
              · simp only [Act.put, List.setIfInBounds_toArray, List.set_cons_zero, List.set_cons_succ, i64_w, i32_w]
                rfl
              refine pure_ (i := 8) (N := some 72) (v := undef) (a' := ?_) #[true, true, true, true, true, true, true, true, true, false, false, false, false, false, false, false, false, false] rfl rfl (any_of HT_.out (by kernel_rfl)) (fun _ _ _ h => h) (Or.inr ⟨by rfl, rfl⟩) ?_ ?_
              rotate_left
              · simp only [Act.put, List.setIfInBounds_toArray, List.set_cons_zero, List.set_cons_succ, i64_w, i32_w]
                rfl
              refine pure_ (i := 9) (N := some 73) (v := undef) (a' := ?_) #[true, true, true, true, true, true, true, true, true, true, false, false, false, false, false, false, false, false] rfl rfl (any_of HT_.out (by kernel_rfl)) (fun _ _ _ h => h) (Or.inr ⟨by rfl, rfl⟩) ?_ ?_
              rotate_left
              · simp only [Act.put, List.setIfInBounds_toArray, List.set_cons_zero, List.set_cons_succ, i64_w, i32_w]
                rfl
              refine pure_ (i := 10) (N := some 74) (v := undef) (a' := ?_) #[true, true, true, true, true, true, true, true, true, true, true, false, false, false, false, false, false, false] rfl rfl (any_of HT_.out (by kernel_rfl)) (fun _ _ _ h => h) (Or.inr ⟨by rfl, rfl⟩) ?_ ?_
              rotate_left
              · simp only [Act.put, List.setIfInBounds_toArray, List.set_cons_zero, List.set_cons_succ, i64_w, i32_w]
                rfl
              refine pure_ (i := 11) (N := some 75) (v := undef) (a' := ?_) #[true, true, true, true, true, true, true, true, true, true, true, true, false, false, false, false, false, false] rfl rfl (any_of HT_.out (by kernel_rfl)) (fun _ _ _ h => h) (Or.inr ⟨by rfl, rfl⟩) ?_ ?_
              rotate_left
              · simp only [Act.put, List.setIfInBounds_toArray, List.set_cons_zero, List.set_cons_succ, i64_w, i32_w]
                rfl
              refine pure_ (i := 12) (N := some 76) (v := undef) (a' := ?_) #[true, true, true, true, true, true, true, true, true, true, true, true, true, false, false, false, false, false] rfl rfl (any_of HT_.out (by kernel_rfl)) (fun _ _ _ h => h) (Or.inr ⟨by rfl, rfl⟩) ?_ ?_
              rotate_left
              · simp only [Act.put, List.setIfInBounds_toArray, List.set_cons_zero, List.set_cons_succ, i64_w, i32_w]
                rfl
              refine pure_ (i := 13) (N := some 77) (v := undef) (a' := ?_) #[true, true, true, true, true, true, true, true, true, true, true, true, true, true, false, false, false, false] rfl rfl (any_of HT_.out (by kernel_rfl)) (fun _ _ _ h => h) (Or.inr ⟨by rfl, rfl⟩) ?_ ?_
              rotate_left
              · simp only [Act.put, List.setIfInBounds_toArray, List.set_cons_zero, List.set_cons_succ, i64_w, i32_w]
                rfl
              refine pure_ (i := 14) (N := some 78) (v := undef) (a' := ?_) #[true, true, true, true, true, true, true, true, true, true, true, true, true, true, true, false, false, false] rfl rfl (any_of HT_.out (by kernel_rfl)) (fun _ _ _ h => h) (Or.inr ⟨by rfl, rfl⟩) ?_ ?_
              rotate_left
              · simp only [Act.put, List.setIfInBounds_toArray, List.set_cons_zero, List.set_cons_succ, i64_w, i32_w]
                rfl
              refine pure_ (i := 15) (N := some 79) (v := undef) (a' := ?_) #[true, true, true, true, true, true, true, true, true, true, true, true, true, true, true, true, false, false] rfl rfl (any_of HT_.out (by kernel_rfl)) (fun _ _ _ h => h) (Or.inr ⟨by rfl, rfl⟩) ?_ ?_
              rotate_left
              · simp only [Act.put, List.setIfInBounds_toArray, List.set_cons_zero, List.set_cons_succ, i64_w, i32_w]
                rfl
              refine pure_ (i := 16) (N := some 80) (v := ?_) (a' := ?_) #[true, true, true, true, true, true, true, true, true, true, true, true, true, true, true, true, true, false] rfl rfl (any_of HT_.out (by kernel_rfl)) (fun _ _ _ h => h) (Or.inl ⟨by rfl, ?_⟩) ?_ ?_
              rotate_left
              · intro w'
                go_simp
                with_reducible rfl
              rotate_left
              · simp only [Act.put, List.setIfInBounds_toArray, List.set_cons_zero, List.set_cons_succ, i64_w, i32_w]
                rfl
              refine pure_ (i := 17) (N := some 17) (v := ?_) (a' := ?_) #[true, true, true, true, true, true, true, true, true, true, true, true, true, true, true, true, true, true] rfl rfl (any_of HT_.out (by kernel_rfl)) (fun _ _ _ h => h) (Or.inl ⟨by rfl, ?_⟩) ?_ ?_
              rotate_left
              · intro w'
                go_simp
                with_reducible rfl
              rotate_left
              · simp only [Act.put, List.setIfInBounds_toArray, List.set_cons_zero, List.set_cons_succ, i64_w, i32_w]
                rfl
              refine done_ (done_of HT_.out (by kernel_rfl)) ?_
              try go_wp2
              go_ret
              exact ⟨by first | rfl | (simp [errW_none, errW_some] <;> rfl) | (simp [*, errW_none, errW_some] <;> rfl), by repeat (first | (with_reducible first | exact HB.out | apply below_alloc | apply pw_below_drewN | apply below_drew1 | refine below_set ?_ GE619.out | refine below_set ?_ GE636.out) | exact HB.out)⟩
            · replace c403 := Bool.eq_false_iff.mpr c403
              subst c403
              have H1 : (some false) = some r := by rw [if_neg (show ¬ (false = true) by decide)] at H; exact H
              rw [HTr_] at H1
              exact absurd (Option.some.inj H1) (by decide)

/-- THE ONE PURE STATEMENT of banksmanlaw21_WireAgain: yours. -/
def banksmanlaw21_WireAgain.Pure : Prop := ∀ (l0 : List Int) (l1 : List Int), l0.length ≤ maxLen → l0.length * 1 ≤ 140737488351232 → (∀ x ∈ l0, (Lit.int .u8 x).wf = true) → l1.length ≤ maxLen → l1.length * 1 ≤ 140737488351232 → (∀ x ∈ l1, (Lit.int .u8 x).wf = true) → ∃ k, banksmanlaw21_WireAgain.f k l0 l1 = some true
theorem banksmanlaw21_WireAgain.walk (P : banksmanlaw21_WireAgain.Pure) (a0 : Option Addr) (len0 cap0 : Nat) (z0 : List Int) (a1 : Option Addr) (len1 cap1 : Nat) (z1 : List Int) (w : World) (w0 : (a0 = none ∧ len0 = 0 ∧ cap0 = 0 ∧ z0 = []) ∨ ∃ x, a0 = some x ∧ len0 ≤ cap0 ∧ cap0 ≤ maxLen ∧ z0.length = cap0 ∧ (∀ i, i < z0.length → w.cell? (x.add i) = some (.int .u8 (z0.getD i 0))) ∧ ∀ n ∈ z0, (Lit.int .u8 n).wf = true) (y0 : len0 * 1 ≤ 140737488351232) (w1 : (a1 = none ∧ len1 = 0 ∧ cap1 = 0 ∧ z1 = []) ∨ ∃ x, a1 = some x ∧ len1 ≤ cap1 ∧ cap1 ≤ maxLen ∧ z1.length = cap1 ∧ (∀ i, i < z1.length → w.cell? (x.add i) = some (.int .u8 (z1.getD i 0))) ∧ ∀ n ∈ z1, (Lit.int .u8 n).wf = true) (y1 : len1 * 1 ≤ 140737488351232) :
    Calls Try.prog 6 #[.slice a0 len0 cap0, .slice a1 len1 cap1] w fun e w' => e = .returned (.bool true) ∧ Below w.heap.size w w' := by
  obtain ⟨l0, rfl, hr0, hm0, hw0, hc0⟩ := ReadsInt.ofRowC w0
  obtain ⟨l1, rfl, hr1, hm1, hw1, hc1⟩ := ReadsInt.ofRowC w1
  obtain ⟨k, h⟩ := P l0 l1 hm0 y0 hw0 hm1 y1 hw1
  refine (banksmanlaw21_WireAgain.calls k _ _ l0 _ _ l1 true w (Kd.C_of_reads (d := (0 : Int)) (h1 := fun _ => rfl) hr0) hc0 (Kd.C_of_reads (d := (0 : Int)) (h1 := fun _ => rfl) hr1) hc1 h rfl).mono ?_
  rintro e w' ⟨rfl, hd⟩
  exact ⟨rfl, hd⟩

end Go.Proofs.Ytfbjabpjfalmlaa.P
