-- Written by wip/gprint.py, a program of this session over the kit's print; Lean checks it.
import Derived.Test.YtbenenpkbdldmaaPx0
namespace Go.Proofs.Ytbenenpkbdldmaa.P
open Go.RowKit Go.Proofs.YtbenenpkbdldmaaW.PrintWords Go.Proofs.YtbenenpkbdldmaaW.PrintLast Go.Proofs.YtbenenpkbdldmaaW.PrintMore
attribute [local go_sem] max2_int min2_int max_two min_two max_three min_three max_four min_four   -- for this text's walks alone
set_option linter.unusedVariables false
set_option linter.unusedSimpArgs false

/-GIVEN 00words-/
def okb (l : List Int) : Bool := l.all fun b => decide (0 ≤ b) && decide (b ≤ 255)
theorem okb_mem {l : List Int} (h : okb l = true) {b : Int} (hb : b ∈ l) : 0 ≤ b ∧ b ≤ 255 := by
  unfold okb at h
  have := List.all_eq_true.mp h b hb
  simp at this
  exact this
theorem okb_rd {l : List Int} (h : okb l = true) (k : Nat) (hk : k < l.length) : 0 ≤ rd l (k : Int) ∧ rd l (k : Int) ≤ 255 := by
  have e : rd l (k : Int) = l[k] := by unfold rd; simp [List.getD_eq_getElem?_getD, hk]
  rw [e]
  exact okb_mem h (List.getElem_mem hk)
theorem take_rd (l : List Int) (k : Nat) (hk : k < l.length) : l.take (k + 1) = l.take k ++ [rd l (k : Int)] := by
  have e : rd l (k : Int) = l[k] := by unfold rd; simp [List.getD_eq_getElem?_getD, hk]
  rw [e, List.take_succ_eq_append_getElem hk]
theorem ret_int {k : IntKind} {a b : Int} (h : a = b) : Ending.returned (.int k a) = .returned (.int k b) := by rw [h]
theorem wraps_u32' (n : Int) (h₀ : 0 ≤ n) (h₁ : n < 2 ^ 32) : IntKind.u32.wrap n = n := by rw [IntKind.wrap_u32]; omega
theorem wraps_u64' (n : Int) (h₀ : 0 ≤ n) (h₁ : n < 2 ^ 63) : IntKind.u64.wrap n = n := by simp [IntKind.wrap, IntKind.bits, IntKind.signed]; omega
theorem pair_or (x y : Int) (hx : 0 ≤ x ∧ x < 65535) (hy : 0 ≤ y ∧ y < 65535) : (Go.bits .or .u64 (IntKind.u64.wrap (y * 65536)) x) % 4294967296 = y * 65536 + x := by
  rw [wraps_u64' (y * 65536) (by omega) (by omega)]
  rw [bits_join .u64 63 (by decide) wraps_u64' 16 (y * 65536) x (by omega) (by omega) (by omega) (by omega) (by omega) (by omega)]
  omega

end Go.Proofs.Ytbenenpkbdldmaa.P
