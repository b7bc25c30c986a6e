-- Written by wip/gprint.py, a program of this session over the kit's print; Lean checks it.
import Derived.Test.YtfbjabpjfalmlaaPx0
import Derived.Test.YtfbjabpjfalmlaaPx42
namespace Go.Proofs.Ytfbjabpjfalmlaa.P
open Go.RowKit Go.Proofs.YtfbjabpjfalmlaaW.PrintWords Go.Proofs.YtfbjabpjfalmlaaW.PrintLast Go.Proofs.YtfbjabpjfalmlaaW.PrintMore
attribute [local go_sem] max2_int min2_int max_two min_two max_three min_three max_four min_four   -- for this text's walks alone
set_option linter.unusedVariables false
set_option linter.unusedSimpArgs false

/-! ### banksmanref01_TakeText: function 31 -/
def banksmanref01_TakeText.f (k : Nat) (l0 : List Int) : Option (List Int × List Int × Int) := (banksmanref01_Take.f k l0).bind fun bt302 => (if bt302.2.2 = 0 then (if bt302.1 > 65535 then (some (([] : List Int), ([] : List Int), 10)) else (if bt302.1 > (bt302.2.1.length : Int) then (some (([] : List Int), ([] : List Int), 10)) else ((some (([] : List Int) : List Int)).bind fun y307 => (if 0 ≤ bt302.1 then (if bt302.1 ≤ (bt302.2.1.length : Int) then ((some (bt302.2.1.take (bt302.1 : Int).toNat : List Int)).bind fun y310 => (if y307.length + y310.length < 140737488355328 then ((some (([] : List Int) : List Int)).bind fun y318 => ((some (bt302.2.1.drop (bt302.1 : Int).toNat : List Int)).bind fun y321 => (if y318.length + y321.length < 140737488355328 then (some ((y307 ++ y310), (y318 ++ y321), 0)) else (none)))) else (none))) else (none)) else (none))))) else (some (([] : List Int), ([] : List Int), 10)))
theorem banksmanref01_TakeText.mono : ∀ a0 k, LeO (banksmanref01_TakeText.f k a0) (banksmanref01_TakeText.f (k + 1) a0) := by
  intro a0 k
  unfold banksmanref01_TakeText.f
  repeat' first
      | (with_reducible exact banksmanref01_Take.mono _ _)
      | (with_reducible exact LeO.refl _)
      | (with_reducible exact LeO.none _)
      | (with_reducible refine LeO.ite ?_ ?_)
      | (with_reducible refine LeO.bind ?_ (fun _ => ?_))
      | exact banksmanref01_Take.mono _ _
      | exact LeO.none _
      | refine LeO.ite ?_ ?_
      | refine LeO.bind ?_ (fun _ => ?_)
end Go.Proofs.Ytfbjabpjfalmlaa.P
