-- Written by wip/gprint.py, a program of this session over the kit's print; Lean checks it.
import Derived.Test.YtfbjabpjfalmlaaPx0
import Derived.Deep.CutBlock
import Derived.Deep.DeepCutAuto
namespace Go.Proofs.Ytfbjabpjfalmlaa.P
open Go.RowKit Go.Proofs.YtfbjabpjfalmlaaW.PrintWords Go.Proofs.YtfbjabpjfalmlaaW.PrintLast Go.Proofs.YtfbjabpjfalmlaaW.PrintMore
attribute [local go_sem] max2_int min2_int max_two min_two max_three min_three max_four min_four   -- for this text's walks alone
set_option linter.unusedVariables false
set_option linter.unusedSimpArgs false

/-GIVEN banksmanref15_Check-/
/-! ### banksmanref15_Check: function 40 -/
def badOp (k t : Int) (n h v : Nat) (o : Bool) : Bool := decide (k < 1) || decide (11 < k) || decide (t < 0) || decide (3 < t) || decide (16 < n) || decide (16 < h) || (o && decide (0 < h)) || decide (32 < v)
def badN (k n : Int) : Bool := (k == 8) && (n != 3) && (n != 5) || (k == 11) && (n != 0) && (n != 1) || (k == 7) && (decide (n < 0) || decide (3 < n))
def banksmanref15_Check.f (a0_0 : Int) (a0_1 : Int) (l0_2 : List Int) (l0_3 : List Int) (a0_4 : Bool) (l0_5 : List Int) (a0_6 : Int) : Option (Int) := some (if (badOp a0_0 a0_1 l0_2.length l0_3.length l0_5.length a0_4 || badN a0_0 a0_6) = true then 1 else 0)
set_option maxHeartbeats 8000000 in
set_option maxRecDepth 100000 in
theorem banksmanref15_Check.calls (a0_0 : Int) (a0_1 : Int) (A0_2 : Option Addr) (c0_2 : Nat) (l0_2 : List Int) (A0_3 : Option Addr) (c0_3 : Nat) (l0_3 : List Int) (a0_4 : Bool) (A0_5 : Option Addr) (c0_5 : Nat) (l0_5 : List Int) (a0_6 : Int) (r : Int) (w : World) (hr0_2 : Kd.C (Kd.int .u8) w A0_2 l0_2.length l0_2) (hc0_2 : l0_2.length ≤ c0_2) (hr0_3 : Kd.C (Kd.int .u8) w A0_3 l0_3.length l0_3) (hc0_3 : l0_3.length ≤ c0_3) (hr0_5 : Kd.C (Kd.int .u8) w A0_5 l0_5.length l0_5) (hc0_5 : l0_5.length ≤ c0_5) (h : banksmanref15_Check.f a0_0 a0_1 l0_2 l0_3 a0_4 l0_5 a0_6 = some r) :
    Calls Try.prog 40 #[.agg #[.int .i64 a0_0, .int .i64 a0_1, .slice A0_2 l0_2.length c0_2, .slice A0_3 l0_3.length c0_3, .bool a0_4, .slice A0_5 l0_5.length c0_5, .int .i64 a0_6]] w fun e w' => e = .returned (.int .i64 r) ∧ Below w.heap.size w w' := by
  unfold banksmanref15_Check.f at h
  have HR := Aside0.mk (Option.some.inj h)
  clear h
  have hu := Try.underlying24
  go_enter Try.func40, Try.ntmps40
  go_upto_region 1 with (fail)
  go_cut [3] (fun v3 wc => v3 = .bool (badOp a0_0 a0_1 l0_2.length l0_3.length l0_5.length a0_4) ∧ wc = w.alloc (.cells #[.int .i64 a0_0, .int .i64 a0_1, .slice A0_2 l0_2.length c0_2, .slice A0_3 l0_3.length c0_3, .bool a0_4, .slice A0_5 l0_5.length c0_5, .int .i64 a0_6] 24 (0, 0)))
  case first =>
    by_cases k1 : a0_0 < 1
    case pos =>
      have k1d : decide (a0_0 < 1) = true := decide_eq_true k1
      have hv : Aside0 (true = badOp a0_0 a0_1 l0_2.length l0_3.length l0_5.length a0_4) := ⟨by unfold badOp; simp only [k1d, Bool.true_or, Bool.or_true, Bool.false_or, Bool.or_false, Bool.true_and, Bool.false_and]⟩
      go_wp2_with (fail)
      go_meet
      case rel => exact ⟨congrArg Value.bool hv.out, rfl⟩
    have k1d : decide (a0_0 < 1) = false := decide_eq_false k1
    by_cases k2 : 11 < a0_0
    case pos =>
      have k2d : decide (11 < a0_0) = true := decide_eq_true k2
      have hv : Aside0 (true = badOp a0_0 a0_1 l0_2.length l0_3.length l0_5.length a0_4) := ⟨by unfold badOp; simp only [k1d, k2d, Bool.true_or, Bool.or_true, Bool.false_or, Bool.or_false, Bool.true_and, Bool.false_and]⟩
      go_wp2_with (fail)
      go_meet
      case rel => exact ⟨congrArg Value.bool hv.out, rfl⟩
    have k2d : decide (11 < a0_0) = false := decide_eq_false k2
    by_cases k3 : a0_1 < 0
    case pos =>
      have k3d : decide (a0_1 < 0) = true := decide_eq_true k3
      have hv : Aside0 (true = badOp a0_0 a0_1 l0_2.length l0_3.length l0_5.length a0_4) := ⟨by unfold badOp; simp only [k1d, k2d, k3d, Bool.true_or, Bool.or_true, Bool.false_or, Bool.or_false, Bool.true_and, Bool.false_and]⟩
      go_wp2_with (fail)
      go_meet
      case rel => exact ⟨congrArg Value.bool hv.out, rfl⟩
    have k3d : decide (a0_1 < 0) = false := decide_eq_false k3
    by_cases k4 : 3 < a0_1
    case pos =>
      have k4d : decide (3 < a0_1) = true := decide_eq_true k4
      have hv : Aside0 (true = badOp a0_0 a0_1 l0_2.length l0_3.length l0_5.length a0_4) := ⟨by unfold badOp; simp only [k1d, k2d, k3d, k4d, Bool.true_or, Bool.or_true, Bool.false_or, Bool.or_false, Bool.true_and, Bool.false_and]⟩
      go_wp2_with (fail)
      go_meet
      case rel => exact ⟨congrArg Value.bool hv.out, rfl⟩
    have k4d : decide (3 < a0_1) = false := decide_eq_false k4
    by_cases g2 : 16 < l0_2.length
    case pos =>
      have g2i : decide ((16 : Int) < (l0_2.length : Int)) = true := decide_eq_true (by omega)
      have g2d : decide (16 < l0_2.length) = true := decide_eq_true g2
      clear g2
      have hv : Aside0 (true = badOp a0_0 a0_1 l0_2.length l0_3.length l0_5.length a0_4) := ⟨by unfold badOp; simp only [k1d, k2d, k3d, k4d, g2d, Bool.true_or, Bool.or_true, Bool.false_or, Bool.or_false, Bool.true_and, Bool.false_and]⟩
      go_wp2_with (fail)
      go_meet
      case rel => exact ⟨congrArg Value.bool hv.out, rfl⟩
    have g2i : decide ((16 : Int) < (l0_2.length : Int)) = false := decide_eq_false (by omega)
    have g2d : decide (16 < l0_2.length) = false := decide_eq_false g2
    clear g2
    by_cases g3 : 16 < l0_3.length
    case pos =>
      have g3i : decide ((16 : Int) < (l0_3.length : Int)) = true := decide_eq_true (by omega)
      have g3d : decide (16 < l0_3.length) = true := decide_eq_true g3
      clear g3
      have hv : Aside0 (true = badOp a0_0 a0_1 l0_2.length l0_3.length l0_5.length a0_4) := ⟨by unfold badOp; simp only [k1d, k2d, k3d, k4d, g2d, g3d, Bool.true_or, Bool.or_true, Bool.false_or, Bool.or_false, Bool.true_and, Bool.false_and]⟩
      go_wp2_with (fail)
      go_meet
      case rel => exact ⟨congrArg Value.bool hv.out, rfl⟩
    have g3i : decide ((16 : Int) < (l0_3.length : Int)) = false := decide_eq_false (by omega)
    have g3d : decide (16 < l0_3.length) = false := decide_eq_false g3
    clear g3
    cases a0_4 with
    | true =>
      by_cases g4 : 0 < l0_3.length
      case pos =>
        have g4i : decide ((0 : Int) < (l0_3.length : Int)) = true := decide_eq_true (by omega)
        have g4d : decide (0 < l0_3.length) = true := decide_eq_true g4
        clear g4
        have hv : Aside0 (true = badOp a0_0 a0_1 l0_2.length l0_3.length l0_5.length true) := ⟨by unfold badOp; simp only [k1d, k2d, k3d, k4d, g2d, g3d, g4d, Bool.true_or, Bool.or_true, Bool.false_or, Bool.or_false, Bool.true_and, Bool.false_and]⟩
        go_wp2_with (fail)
        go_meet
        case rel => exact ⟨congrArg Value.bool hv.out, rfl⟩
      have g4i : decide ((0 : Int) < (l0_3.length : Int)) = false := decide_eq_false (by omega)
      have g4d : decide (0 < l0_3.length) = false := decide_eq_false g4
      clear g4
      have hv : Aside0 (decide (32 < l0_5.length) = badOp a0_0 a0_1 l0_2.length l0_3.length l0_5.length true) := ⟨by unfold badOp; simp only [k1d, k2d, k3d, k4d, g2d, g3d, g4d, Bool.true_or, Bool.or_true, Bool.false_or, Bool.or_false, Bool.true_and, Bool.false_and]⟩
      have hn : ((32 : Int) < (l0_5.length : Int)) = (32 < l0_5.length) := by apply propext; omega
      go_wp2_with (fail)
      go_meet
      case rel => exact ⟨congrArg Value.bool (by first | exact hv.out | (simp only [hn]; exact hv.out)), rfl⟩
    | false =>
      have hv : Aside0 (decide (32 < l0_5.length) = badOp a0_0 a0_1 l0_2.length l0_3.length l0_5.length false) := ⟨by unfold badOp; simp only [k1d, k2d, k3d, k4d, g2d, g3d, Bool.true_or, Bool.or_true, Bool.false_or, Bool.or_false, Bool.true_and, Bool.false_and]⟩
      have hn : ((32 : Int) < (l0_5.length : Int)) = (32 < l0_5.length) := by apply propext; omega
      go_wp2_with (fail)
      go_meet
      case rel => exact ⟨congrArg Value.bool (by first | exact hv.out | (simp only [hn]; exact hv.out)), rfl⟩
  case rest =>
    obtain ⟨rfl, rfl⟩ := hcut
    generalize badOp a0_0 a0_1 l0_2.length l0_3.length l0_5.length a0_4 = bo at HR ⊢
    cases bo with
    | true =>
      have hr : r = 1 := by rw [← HR.out]; rfl
      clear HR
      subst hr
      go_wp2
      go_ret
      exact ⟨rfl, below_alloc (Below.refl _ _) _⟩
    | false =>
    go_upto_region 2 with (fail)
    go_cut [95] (fun v3 wc => v3 = .bool (badN a0_0 a0_6) ∧ wc = w.alloc (.cells #[.int .i64 a0_0, .int .i64 a0_1, .slice A0_2 l0_2.length c0_2, .slice A0_3 l0_3.length c0_3, .bool a0_4, .slice A0_5 l0_5.length c0_5, .int .i64 a0_6] 24 (0, 0)))
    case first =>
      by_cases k8 : (a0_0 == 8) = true
      case pos =>
        have k8n : (a0_0 != 8) = false := by simp [bne, k8]
        have k11 : (a0_0 == 11) = false := by simp at k8 ⊢; omega
        have k7 : (a0_0 == 7) = false := by simp at k8 ⊢; omega
        by_cases n3 : (a0_6 == 3) = true
        case pos =>
          have n3n : (a0_6 != 3) = false := by simp [bne, n3]
          have hv : Aside0 (false = badN a0_0 a0_6) := ⟨by unfold badN; simp only [bne, k8, k11, k7, n3, Bool.not_true, Bool.not_false, Bool.true_or, Bool.or_true, Bool.false_or, Bool.or_false, Bool.true_and, Bool.false_and, Bool.and_true, Bool.and_false]⟩
          (try clear e8); (try clear e11); (try clear e7)
          go_wp2_with (fail)
          go_meet
          case rel => exact ⟨congrArg Value.bool hv.out, rfl⟩
        replace n3 : (a0_6 == 3) = false := by simpa using n3
        have n3n : (a0_6 != 3) = true := by simp [bne, n3]
        by_cases n5 : (a0_6 == 5) = true
        case pos =>
          have n5n : (a0_6 != 5) = false := by simp [bne, n5]
          have hv : Aside0 (false = badN a0_0 a0_6) := ⟨by unfold badN; simp only [bne, k8, k11, k7, n3, n5, Bool.not_true, Bool.not_false, Bool.true_or, Bool.or_true, Bool.false_or, Bool.or_false, Bool.true_and, Bool.false_and, Bool.and_true, Bool.and_false]⟩
          (try clear e8); (try clear e11); (try clear e7)
          go_wp2_with (fail)
          go_meet
          case rel => exact ⟨congrArg Value.bool hv.out, rfl⟩
        replace n5 : (a0_6 == 5) = false := by simpa using n5
        have n5n : (a0_6 != 5) = true := by simp [bne, n5]
        have hv : Aside0 (true = badN a0_0 a0_6) := ⟨by unfold badN; simp only [bne, k8, k11, k7, n3, n5, Bool.not_true, Bool.not_false, Bool.true_or, Bool.or_true, Bool.false_or, Bool.or_false, Bool.true_and, Bool.false_and, Bool.and_true, Bool.and_false]⟩
        (try clear e8); (try clear e11); (try clear e7)
        go_wp2_with (fail)
        go_meet
        case rel => exact ⟨congrArg Value.bool hv.out, rfl⟩
      replace k8 : (a0_0 == 8) = false := by simpa using k8
      have k8n : (a0_0 != 8) = true := by simp [bne, k8]
      by_cases k11 : (a0_0 == 11) = true
      case pos =>
        have k11n : (a0_0 != 11) = false := by simp [bne, k11]
        have k7 : (a0_0 == 7) = false := by simp at k11 ⊢; omega
        by_cases n0 : (a0_6 == 0) = true
        case pos =>
          have n0n : (a0_6 != 0) = false := by simp [bne, n0]
          have hv : Aside0 (false = badN a0_0 a0_6) := ⟨by unfold badN; simp only [bne, k8, k11, k7, n0, Bool.not_true, Bool.not_false, Bool.true_or, Bool.or_true, Bool.false_or, Bool.or_false, Bool.true_and, Bool.false_and, Bool.and_true, Bool.and_false]⟩
          (try clear e8); (try clear e11); (try clear e7)
          go_wp2_with (fail)
          go_meet
          case rel => exact ⟨congrArg Value.bool hv.out, rfl⟩
        replace n0 : (a0_6 == 0) = false := by simpa using n0
        have n0n : (a0_6 != 0) = true := by simp [bne, n0]
        by_cases n1 : (a0_6 == 1) = true
        case pos =>
          have n1n : (a0_6 != 1) = false := by simp [bne, n1]
          have hv : Aside0 (false = badN a0_0 a0_6) := ⟨by unfold badN; simp only [bne, k8, k11, k7, n0, n1, Bool.not_true, Bool.not_false, Bool.true_or, Bool.or_true, Bool.false_or, Bool.or_false, Bool.true_and, Bool.false_and, Bool.and_true, Bool.and_false]⟩
          (try clear e8); (try clear e11); (try clear e7)
          go_wp2_with (fail)
          go_meet
          case rel => exact ⟨congrArg Value.bool hv.out, rfl⟩
        replace n1 : (a0_6 == 1) = false := by simpa using n1
        have n1n : (a0_6 != 1) = true := by simp [bne, n1]
        have hv : Aside0 (true = badN a0_0 a0_6) := ⟨by unfold badN; simp only [bne, k8, k11, k7, n0, n1, Bool.not_true, Bool.not_false, Bool.true_or, Bool.or_true, Bool.false_or, Bool.or_false, Bool.true_and, Bool.false_and, Bool.and_true, Bool.and_false]⟩
        (try clear e8); (try clear e11); (try clear e7)
        go_wp2_with (fail)
        go_meet
        case rel => exact ⟨congrArg Value.bool hv.out, rfl⟩
      replace k11 : (a0_0 == 11) = false := by simpa using k11
      have k11n : (a0_0 != 11) = true := by simp [bne, k11]
      by_cases k7 : (a0_0 == 7) = true
      case pos =>
        have k7n : (a0_0 != 7) = false := by simp [bne, k7]
        by_cases n0 : a0_6 < 0
        case pos =>
          have n0d : decide (a0_6 < 0) = true := decide_eq_true n0
          have hv : Aside0 (true = badN a0_0 a0_6) := ⟨by unfold badN; simp only [bne, k8, k11, k7, n0d, Bool.not_true, Bool.not_false, Bool.true_or, Bool.or_true, Bool.false_or, Bool.or_false, Bool.true_and, Bool.false_and, Bool.and_true, Bool.and_false]⟩
          (try clear e8); (try clear e11); (try clear e7)
          go_wp2_with (fail)
          go_meet
          case rel => exact ⟨congrArg Value.bool hv.out, rfl⟩
        have n0d : decide (a0_6 < 0) = false := decide_eq_false n0
        have hv : Aside0 (decide (3 < a0_6) = badN a0_0 a0_6) := ⟨by unfold badN; simp only [bne, k8, k11, k7, n0d, Bool.not_true, Bool.not_false, Bool.true_or, Bool.or_true, Bool.false_or, Bool.or_false, Bool.true_and, Bool.false_and, Bool.and_true, Bool.and_false]⟩
        (try clear e8); (try clear e11); (try clear e7)
        go_wp2_with (fail)
        go_meet
        case rel => exact ⟨congrArg Value.bool hv.out, rfl⟩
      replace k7 : (a0_0 == 7) = false := by simpa using k7
      have k7n : (a0_0 != 7) = true := by simp [bne, k7]
      have hv : Aside0 (false = badN a0_0 a0_6) := ⟨by unfold badN; simp only [bne, k8, k11, k7, Bool.not_true, Bool.not_false, Bool.true_or, Bool.or_true, Bool.false_or, Bool.or_false, Bool.true_and, Bool.false_and, Bool.and_true, Bool.and_false]⟩
      (try clear e8); (try clear e11); (try clear e7)
      go_wp2_with (fail)
      go_meet
      case rel => exact ⟨congrArg Value.bool hv.out, rfl⟩
    case rest =>
      obtain ⟨rfl, rfl⟩ := hcut
      generalize badN a0_0 a0_6 = bn at HR ⊢
      cases bn with
      | true =>
        have hr : r = 1 := by rw [← HR.out]; rfl
        clear HR
        subst hr
        go_wp2
        go_ret
        exact ⟨rfl, below_alloc (Below.refl _ _) _⟩
      | false =>
        have hr : r = 0 := by rw [← HR.out]; rfl
        clear HR
        subst hr
        go_wp2
        go_ret
        exact ⟨rfl, below_alloc (Below.refl _ _) _⟩

end Go.Proofs.Ytfbjabpjfalmlaa.P
