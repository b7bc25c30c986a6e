import Derived.Test.YtfbjabpjfalmlaaPx0
import Derived.Test.YtfbjabpjfalmlaaPx41
import Derived.Test.YtfbjabpjfalmlaaPx42
import Derived.Test.YtfbjabpjfalmlaaPx43
namespace Go.Proofs.Ytfbjabpjfalmlaa.P
open Go.RowKit Go.Proofs.YtfbjabpjfalmlaaW.PrintWords Go.Proofs.YtfbjabpjfalmlaaW.PrintLast Go.Proofs.YtfbjabpjfalmlaaW.PrintMore
attribute [local go_sem] max2_int min2_int max_two min_two max_three min_three max_four min_four
set_option linter.unusedVariables false
set_option linter.unusedSimpArgs false
def banksmanref21_Read.j0 : Nat → List Int → Int → Int → Int → List Int → List Int → Int → List Int → Int → Bool → Option (Int × Int × Int × List Int × List Int × Bool × List Int × Int × Int)
  | 0, _, _, _, _, _, _, _, _, _, _ => none
  | k + 1, x0, x5, x8, x11, x14, x17, x20, x23, x26, x109 => if x109 = true then (some (0, 0, 0, ([] : List Int), ([] : List Int), false, ([] : List Int), 0, 210)) else ((banksmanref21_Write.f k x5 x8 x11 x14 x17 (x20 == 1) x23 x26).bind fun bt377 => (if bt377.2 = 0 then (if (strOfNums bt377.1).toList = (strOfNums x0).toList then (some (x5, x8, x11, x14, x17, (x20 == 1), x23, x26, 0)) else (some (0, 0, 0, ([] : List Int), ([] : List Int), false, ([] : List Int), 0, 210))) else (some (0, 0, 0, ([] : List Int), ([] : List Int), false, ([] : List Int), 0, 210))))
theorem banksmanref21_Read.mono_l : ∀ k, (∀ y0 y1 y2 y3 y4 y5 y6 y7 y8 y9, LeO (banksmanref21_Read.j0 k y0 y1 y2 y3 y4 y5 y6 y7 y8 y9) (banksmanref21_Read.j0 (k + 1) y0 y1 y2 y3 y4 y5 y6 y7 y8 y9))
  | 0 => fun _ _ _ _ _ _ _ _ _ _ r h => by simp [banksmanref21_Read.j0] at h
  | k + 1 => by
    have ih0 := banksmanref21_Read.mono_l k
    · intro y0 y1 y2 y3 y4 y5 y6 y7 y8 y9
      unfold banksmanref21_Read.j0
      repeat' first
      | (with_reducible exact ih0 _ _ _ _ _ _ _ _ _ _)
      | (with_reducible exact banksmanref01_Take.mono _ _)
      | (with_reducible exact banksmanref01_TakeText.mono _ _)
      | (with_reducible exact banksmanref21_Write.mono _ _ _ _ _ _ _ _ _)
      | (with_reducible exact LeO.refl _)
      | (with_reducible exact LeO.none _)
      | (with_reducible refine LeO.ite ?_ ?_)
      | (with_reducible refine LeO.bind ?_ (fun _ => ?_))
      | exact ih0 _ _ _ _ _ _ _ _ _ _
      | exact banksmanref01_Take.mono _ _
      | exact banksmanref01_TakeText.mono _ _
      | exact banksmanref21_Write.mono _ _ _ _ _ _ _ _ _
      | exact LeO.none _
      | refine LeO.ite ?_ ?_
      | refine LeO.bind ?_ (fun _ => ?_)
end Go.Proofs.Ytfbjabpjfalmlaa.P
