-- Written by wip/gprint.py, a program of this session over the kit's print; Lean checks it.
import Derived.Test.YtfbjabpjfalmlaaPx0
import Derived.Test.YtfbjabpjfalmlaaPx38
import Derived.Test.YtfbjabpjfalmlaaPx39
import Derived.Test.YtfbjabpjfalmlaaPx1
import Derived.Test.YtfbjabpjfalmlaaPx47
namespace Go.Proofs.Ytfbjabpjfalmlaa.P
open Go.RowKit Go.Proofs.YtfbjabpjfalmlaaW.PrintWords Go.Proofs.YtfbjabpjfalmlaaW.PrintLast Go.Proofs.YtfbjabpjfalmlaaW.PrintMore
attribute [local go_sem] max2_int min2_int max_two min_two max_three min_three max_four min_four   -- for this text's walks alone
set_option linter.unusedVariables false
set_option linter.unusedSimpArgs false

/-! ### banksmanref21_Told: function 17 -/
def banksmanref21_Told.l0 : Nat → List Int → Int → Int → Bool → List Int → List (S47) → Option (List Int × Int)
  | 0, _, _, _, _, _, _ => none
  | k + 1, x5, x7, x432000, x432001, x432002, x432003 => if x7 < (x432003.length : Int) then (if 0 ≤ x7 then ((banksmanref01_Text.f k x5 ((rd_T47 x432003 x7).f0)).bind fun bt451 => ((banksmanref01_Text.f k bt451.1 ((rd_T47 x432003 x7).f1)).bind fun bt456 => (banksmanref21_Told.l0 k bt456.1 (wrap64 (x7 + 1)) x432000 x432001 x432002 x432003))) else (none)) else (some (x5, 0))
theorem banksmanref21_Told.mono_l : ∀ k, (∀ y0 y1 y2 y3 y4 y5, LeO (banksmanref21_Told.l0 k y0 y1 y2 y3 y4 y5) (banksmanref21_Told.l0 (k + 1) y0 y1 y2 y3 y4 y5))
  | 0 => fun _ _ _ _ _ _ r h => by simp [banksmanref21_Told.l0] at h
  | k + 1 => by
    have ih0 := banksmanref21_Told.mono_l k
    · intro y0 y1 y2 y3 y4 y5
      unfold banksmanref21_Told.l0
      repeat' first
      | (with_reducible exact ih0 _ _ _ _ _ _)
      | (with_reducible exact banksmanref01_Number.mono _ _ _)
      | (with_reducible exact banksmanref01_Text.mono _ _ _)
      | (with_reducible exact banksmanref21_Reply.mono _ _ _ _ _)
      | (with_reducible exact LeO.refl _)
      | (with_reducible exact LeO.none _)
      | (with_reducible refine LeO.ite ?_ ?_)
      | (with_reducible refine LeO.bind ?_ (fun _ => ?_))
      | exact ih0 _ _ _ _ _ _
      | exact banksmanref01_Number.mono _ _ _
      | exact banksmanref01_Text.mono _ _ _
      | exact banksmanref21_Reply.mono _ _ _ _ _
      | exact LeO.none _
      | refine LeO.ite ?_ ?_
      | refine LeO.bind ?_ (fun _ => ?_)
end Go.Proofs.Ytfbjabpjfalmlaa.P
