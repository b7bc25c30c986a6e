import Derived.Test.YtfbjabpjfalmlaaPx0
import Derived.Test.YtfbjabpjfalmlaaPx37
import Derived.Test.YtfbjabpjfalmlaaPx38
import Derived.Test.YtfbjabpjfalmlaaPx39
import Derived.Test.YtfbjabpjfalmlaaPx1
namespace Go.Proofs.Ytfbjabpjfalmlaa.P
open Go.RowKit Go.Proofs.YtfbjabpjfalmlaaW.PrintWords Go.Proofs.YtfbjabpjfalmlaaW.PrintLast Go.Proofs.YtfbjabpjfalmlaaW.PrintMore
attribute [local go_sem] max2_int min2_int max_two min_two max_three min_three max_four min_four
set_option linter.unusedVariables false
set_option linter.unusedSimpArgs false
def banksmanref21_Write.f (k : Nat) (a0 : Int) (a1_0 : Int) (a1_1 : Int) (l1_2 : List Int) (l1_3 : List Int) (a1_4 : Bool) (l1_5 : List Int) (a1_6 : Int) : Option (List Int × Int) := (banksmanref21_May.f k a0 a1_0 a1_1 l1_2 l1_3 a1_4 l1_5 a1_6).bind fun t254 => (if t254 = true then ((banksmanref01_Number.f k ([] : List Int) a0).bind fun bt255 => ((banksmanref01_Number.f k bt255.1 a1_0).bind fun bt259 => ((banksmanref01_Number.f k bt259.1 a1_1).bind fun bt263 => ((banksmanref01_Text.f k bt263.1 l1_2).bind fun bt267 => ((banksmanref01_Text.f k bt267.1 l1_3).bind fun bt271 => ((banksmanref21_flag.f a1_4).bind fun t275 => ((banksmanref01_Number.f k bt271.1 t275).bind fun bt276 => ((banksmanref01_Text.f k bt276.1 l1_5).bind fun bt280 => ((banksmanref01_Number.f k bt280.1 a1_6).bind fun bt284 => (some (bt284.1, 0))))))))))) else (some (([] : List Int), 210)))
theorem banksmanref21_Write.mono : ∀ a0 a1 a2 a3 a4 a5 a6 a7 k, LeO (banksmanref21_Write.f k a0 a1 a2 a3 a4 a5 a6 a7) (banksmanref21_Write.f (k + 1) a0 a1 a2 a3 a4 a5 a6 a7) := by
  intro a0 a1 a2 a3 a4 a5 a6 a7 k
  unfold banksmanref21_Write.f
  repeat' first
      | (with_reducible exact banksmanref01_Number.mono _ _ _)
      | (with_reducible exact banksmanref01_Text.mono _ _ _)
      | (with_reducible exact banksmanref21_May.mono _ _ _ _ _ _ _ _ _)
      | (with_reducible exact LeO.refl _)
      | (with_reducible exact LeO.none _)
      | (with_reducible refine LeO.ite ?_ ?_)
      | (with_reducible refine LeO.bind ?_ (fun _ => ?_))
      | exact banksmanref01_Number.mono _ _ _
      | exact banksmanref01_Text.mono _ _ _
      | exact banksmanref21_May.mono _ _ _ _ _ _ _ _ _
      | exact LeO.none _
      | refine LeO.ite ?_ ?_
      | refine LeO.bind ?_ (fun _ => ?_)
end Go.Proofs.Ytfbjabpjfalmlaa.P
