-- Written by wip/gprint.py, a program of this session over the kit's print; Lean checks it.
import Derived.Test.YtfbjabpjfalmlaaPx0
namespace Go.Proofs.Ytfbjabpjfalmlaa.P
open Go.RowKit Go.Proofs.YtfbjabpjfalmlaaW.PrintWords Go.Proofs.YtfbjabpjfalmlaaW.PrintLast Go.Proofs.YtfbjabpjfalmlaaW.PrintMore
attribute [local go_sem] max2_int min2_int max_two min_two max_three min_three max_four min_four   -- for this text's walks alone
set_option linter.unusedVariables false
set_option linter.unusedSimpArgs false

/-! ### banksmanref21_Few: function 15 -/
mutual
def banksmanref21_Few.j0 : Nat → Bool → Int → Bool → List Int → List (S47) → Option (Bool)
  | 0, _, _, _, _, _ => none
  | k + 1, x13, x426000, x426001, x426002, x426003 => if x13 = true then (some false) else (banksmanref21_Few.l0 k 0 x426000 x426001 x426002 x426003)
def banksmanref21_Few.l0 : Nat → Int → Int → Bool → List Int → List (S47) → Option (Bool)
  | 0, _, _, _, _, _ => none
  | k + 1, x3, x426000, x426001, x426002, x426003 => if x3 < (x426003.length : Int) then (if 0 ≤ x3 then (if (((rd_T47 x426003 x3).f0).length : Int) > 100 then (some false) else (if (((rd_T47 x426003 x3).f1).length : Int) > 100 then (some false) else (banksmanref21_Few.l0 k (wrap64 (x3 + 1)) x426000 x426001 x426002 x426003))) else (none)) else (some true)
end
theorem banksmanref21_Few.mono_l : ∀ k, (∀ y0 y1 y2 y3 y4, LeO (banksmanref21_Few.j0 k y0 y1 y2 y3 y4) (banksmanref21_Few.j0 (k + 1) y0 y1 y2 y3 y4)) ∧ (∀ y0 y1 y2 y3 y4, LeO (banksmanref21_Few.l0 k y0 y1 y2 y3 y4) (banksmanref21_Few.l0 (k + 1) y0 y1 y2 y3 y4))
  | 0 => ⟨fun _ _ _ _ _ r h => by simp [banksmanref21_Few.j0] at h, fun _ _ _ _ _ r h => by simp [banksmanref21_Few.l0] at h⟩
  | k + 1 => by
    obtain ⟨ih0, ih1⟩ := banksmanref21_Few.mono_l k
    refine ⟨?_, ?_⟩
    · intro y0 y1 y2 y3 y4
      unfold banksmanref21_Few.j0
      repeat' first
      | (with_reducible exact ih0 _ _ _ _ _)
      | (with_reducible exact ih1 _ _ _ _ _)
      | (with_reducible exact LeO.refl _)
      | (with_reducible exact LeO.none _)
      | (with_reducible refine LeO.ite ?_ ?_)
      | (with_reducible refine LeO.bind ?_ (fun _ => ?_))
      | exact ih0 _ _ _ _ _
      | exact ih1 _ _ _ _ _
      | exact LeO.none _
      | refine LeO.ite ?_ ?_
      | refine LeO.bind ?_ (fun _ => ?_)
    · intro y0 y1 y2 y3 y4
      unfold banksmanref21_Few.l0
      repeat' first
      | (with_reducible exact ih0 _ _ _ _ _)
      | (with_reducible exact ih1 _ _ _ _ _)
      | (with_reducible exact LeO.refl _)
      | (with_reducible exact LeO.none _)
      | (with_reducible refine LeO.ite ?_ ?_)
      | (with_reducible refine LeO.bind ?_ (fun _ => ?_))
      | exact ih0 _ _ _ _ _
      | exact ih1 _ _ _ _ _
      | exact LeO.none _
      | refine LeO.ite ?_ ?_
      | refine LeO.bind ?_ (fun _ => ?_)
end Go.Proofs.Ytfbjabpjfalmlaa.P
