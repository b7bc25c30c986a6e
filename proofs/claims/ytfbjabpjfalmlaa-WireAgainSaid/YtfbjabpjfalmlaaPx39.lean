-- Written by wip/gprint.py, a program of this session over the kit's print; Lean checks it.
import Derived.Test.YtfbjabpjfalmlaaPx0
import Derived.Test.YtfbjabpjfalmlaaPx38
namespace Go.Proofs.Ytfbjabpjfalmlaa.P
open Go.RowKit Go.Proofs.YtfbjabpjfalmlaaW.PrintWords Go.Proofs.YtfbjabpjfalmlaaW.PrintLast Go.Proofs.YtfbjabpjfalmlaaW.PrintMore
attribute [local go_sem] max2_int min2_int max_two min_two max_three min_three max_four min_four   -- for this text's walks alone
set_option linter.unusedVariables false
set_option linter.unusedSimpArgs false

/-! ### banksmanref01_Text: function 25 -/
def banksmanref01_Text.f (k : Nat) (l0 : List Int) (l1 : List Int) : Option (List Int × Int) := if (l1.length : Int) > 65535 then (some (([] : List Int), 10)) else ((banksmanref01_Number.f k l0 (l1.length : Int)).bind fun bt246 => (if bt246.1.length + l1.length < 140737488355328 then (some ((bt246.1 ++ l1), 0)) else (none)))
theorem banksmanref01_Text.mono : ∀ a0 a1 k, LeO (banksmanref01_Text.f k a0 a1) (banksmanref01_Text.f (k + 1) a0 a1) := by
  intro a0 a1 k
  unfold banksmanref01_Text.f
  repeat' first
      | (with_reducible exact banksmanref01_Number.mono _ _ _)
      | (with_reducible exact LeO.refl _)
      | (with_reducible exact LeO.none _)
      | (with_reducible refine LeO.ite ?_ ?_)
      | (with_reducible refine LeO.bind ?_ (fun _ => ?_))
      | exact banksmanref01_Number.mono _ _ _
      | exact LeO.none _
      | refine LeO.ite ?_ ?_
      | refine LeO.bind ?_ (fun _ => ?_)
end Go.Proofs.Ytfbjabpjfalmlaa.P
