import Derived.Test.YtfbjabpjfalmlaaPx0
import Derived.Test.YtfbjabpjfalmlaaPx36
namespace Go.Proofs.Ytfbjabpjfalmlaa.P
open Go.RowKit Go.Proofs.YtfbjabpjfalmlaaW.PrintWords Go.Proofs.YtfbjabpjfalmlaaW.PrintLast Go.Proofs.YtfbjabpjfalmlaaW.PrintMore
attribute [local go_sem] max2_int min2_int max_two min_two max_three min_three max_four min_four
set_option linter.unusedVariables false
set_option linter.unusedSimpArgs false
def banksmanref21_May.j0 : Nat → Int → Bool → Int → Int → List Int → List Int → Bool → List Int → Int → Option (Bool)
  | 0, _, _, _, _, _, _, _, _, _ => none
  | k + 1, x0, x20, x233000, x233001, x233002, x233003, x233004, x233005, x233006 => if x20 = true then (some false) else (if x233000 = 12 then (if x0 = 0 then (if x233001 = 0 then (if (x233002.length : Int) = 0 then (if (x233003.length : Int) = 0 then (if x233004 = true then (some false) else (some ((x233005.length : Int) == 0))) else (some false)) else (some false)) else (some false)) else (some false)) else ((banksmanref15_Check.f x233000 x233001 x233002 x233003 x233004 x233005 x233006).bind fun t233 => (some (t233 == 0))))
def banksmanref21_May.f (k : Nat) (a0 : Int) (a1_0 : Int) (a1_1 : Int) (l1_2 : List Int) (l1_3 : List Int) (a1_4 : Bool) (l1_5 : List Int) (a1_6 : Int) : Option (Bool) := if a0 < 0 then (banksmanref21_May.j0 k a0 true a1_0 a1_1 l1_2 l1_3 a1_4 l1_5 a1_6) else (if a0 > 3 then (banksmanref21_May.j0 k a0 true a1_0 a1_1 l1_2 l1_3 a1_4 l1_5 a1_6) else (if a1_6 < 0 then (banksmanref21_May.j0 k a0 true a1_0 a1_1 l1_2 l1_3 a1_4 l1_5 a1_6) else (banksmanref21_May.j0 k a0 (decide (a1_6 ≥ 2147483648)) a1_0 a1_1 l1_2 l1_3 a1_4 l1_5 a1_6)))
theorem banksmanref21_May.mono_l : ∀ k, (∀ y0 y1 y2 y3 y4 y5 y6 y7 y8, LeO (banksmanref21_May.j0 k y0 y1 y2 y3 y4 y5 y6 y7 y8) (banksmanref21_May.j0 (k + 1) y0 y1 y2 y3 y4 y5 y6 y7 y8))
  | 0 => fun _ _ _ _ _ _ _ _ _ r h => by simp [banksmanref21_May.j0] at h
  | k + 1 => by
    have ih0 := banksmanref21_May.mono_l k
    · intro y0 y1 y2 y3 y4 y5 y6 y7 y8
      unfold banksmanref21_May.j0
      repeat' first
      | (with_reducible exact ih0 _ _ _ _ _ _ _ _ _)
      | (with_reducible exact LeO.refl _)
      | (with_reducible exact LeO.none _)
      | (with_reducible refine LeO.ite ?_ ?_)
      | (with_reducible refine LeO.bind ?_ (fun _ => ?_))
      | exact ih0 _ _ _ _ _ _ _ _ _
      | exact LeO.none _
      | refine LeO.ite ?_ ?_
      | refine LeO.bind ?_ (fun _ => ?_)
theorem banksmanref21_May.mono : ∀ a0 a1 a2 a3 a4 a5 a6 a7 k, LeO (banksmanref21_May.f k a0 a1 a2 a3 a4 a5 a6 a7) (banksmanref21_May.f (k + 1) a0 a1 a2 a3 a4 a5 a6 a7) := by
  intro a0 a1 a2 a3 a4 a5 a6 a7 k
  have ih0 := banksmanref21_May.mono_l k
  unfold banksmanref21_May.f
  repeat' first
      | (with_reducible exact ih0 _ _ _ _ _ _ _ _ _)
      | (with_reducible exact LeO.refl _)
      | (with_reducible exact LeO.none _)
      | (with_reducible refine LeO.ite ?_ ?_)
      | (with_reducible refine LeO.bind ?_ (fun _ => ?_))
      | exact ih0 _ _ _ _ _ _ _ _ _
      | exact LeO.none _
      | refine LeO.ite ?_ ?_
      | refine LeO.bind ?_ (fun _ => ?_)
end Go.Proofs.Ytfbjabpjfalmlaa.P
