-- Written by wip/gprint.py, a program of this session over the kit's print; Lean checks it.
import Derived.Test.YtfbjabpjfalmlaaPx0
import Derived.Test.YtfbjabpjfalmlaaPx38
namespace Go.Proofs.Ytfbjabpjfalmlaa.P
open Go.RowKit Go.Proofs.YtfbjabpjfalmlaaW.PrintWords Go.Proofs.YtfbjabpjfalmlaaW.PrintLast Go.Proofs.YtfbjabpjfalmlaaW.PrintMore
attribute [local go_sem] max2_int min2_int max_two min_two max_three min_three max_four min_four   -- for this text's walks alone
set_option linter.unusedVariables false
set_option linter.unusedSimpArgs false

/-! ### banksmanref01_Take: function 30 -/
mutual
def banksmanref01_Take.l0 : Nat → List Int → Int → Int → Int → Option (Int × List Int × Int)
  | 0, _, _, _, _ => none
  | k + 1, x0, x5, x6, x7 => if x7 < (x0.length : Int) then (banksmanref01_Take.j1 k x0 x5 x6 x7 (decide (x7 < 5))) else (banksmanref01_Take.j1 k x0 x5 x6 x7 false)
def banksmanref01_Take.j1 : Nat → List Int → Int → Int → Int → Bool → Option (Int × List Int × Int)
  | 0, _, _, _, _, _ => none
  | k + 1, x0, x5, x6, x7, x17 => if x17 = true then (if 0 ≤ x7 then (if x7 < (x0.length : Int) then (if (rd x0 x7) < 128 then ((banksmanref01_Number.f k ([] : List Int) (wrap64 (x5 + (wrap64 ((Int.tmod (wrap64 (rd x0 x7)) 128) * x6))))).bind fun bt290 => (if bt290.2 = 0 then (if 0 ≤ (wrap64 (x7 + 1)) then (if (wrap64 (x7 + 1)) ≤ (x0.length : Int) then (if (strOfNums bt290.1).toList = (strOfNums (x0.take ((wrap64 (x7 + 1)) : Int).toNat)).toList then ((some (([] : List Int) : List Int)).bind fun y295 => (if y295.length + (x0.drop ((wrap64 (x7 + 1)) : Int).toNat).length < 140737488355328 then (some (wrap64 (x5 + (wrap64 ((Int.tmod (wrap64 (rd x0 x7)) 128) * x6))), (y295 ++ (x0.drop ((wrap64 (x7 + 1)) : Int).toNat)), 0)) else (none))) else (some (0, ([] : List Int), 10))) else (none)) else (none)) else (some (0, ([] : List Int), 10)))) else (banksmanref01_Take.l0 k x0 (wrap64 (x5 + (wrap64 ((Int.tmod (wrap64 (rd x0 x7)) 128) * x6)))) (wrap64 (x6 * 128)) (wrap64 (x7 + 1)))) else (none)) else (none)) else (some (0, ([] : List Int), 10))
end
def banksmanref01_Take.f (k : Nat) (l0 : List Int) : Option (Int × List Int × Int) := banksmanref01_Take.l0 k l0 0 1 0
theorem banksmanref01_Take.mono_l : ∀ k, (∀ y0 y1 y2 y3, LeO (banksmanref01_Take.l0 k y0 y1 y2 y3) (banksmanref01_Take.l0 (k + 1) y0 y1 y2 y3)) ∧ (∀ y0 y1 y2 y3 y4, LeO (banksmanref01_Take.j1 k y0 y1 y2 y3 y4) (banksmanref01_Take.j1 (k + 1) y0 y1 y2 y3 y4))
  | 0 => ⟨fun _ _ _ _ r h => by simp [banksmanref01_Take.l0] at h, fun _ _ _ _ _ r h => by simp [banksmanref01_Take.j1] at h⟩
  | k + 1 => by
    obtain ⟨ih0, ih1⟩ := banksmanref01_Take.mono_l k
    refine ⟨?_, ?_⟩
    · intro y0 y1 y2 y3
      unfold banksmanref01_Take.l0
      repeat' first
      | (with_reducible exact ih0 _ _ _ _)
      | (with_reducible exact ih1 _ _ _ _ _)
      | (with_reducible exact banksmanref01_Number.mono _ _ _)
      | (with_reducible exact LeO.refl _)
      | (with_reducible exact LeO.none _)
      | (with_reducible refine LeO.ite ?_ ?_)
      | (with_reducible refine LeO.bind ?_ (fun _ => ?_))
      | exact ih0 _ _ _ _
      | exact ih1 _ _ _ _ _
      | exact banksmanref01_Number.mono _ _ _
      | exact LeO.none _
      | refine LeO.ite ?_ ?_
      | refine LeO.bind ?_ (fun _ => ?_)
    · intro y0 y1 y2 y3 y4
      unfold banksmanref01_Take.j1
      repeat' first
      | (with_reducible exact ih0 _ _ _ _)
      | (with_reducible exact ih1 _ _ _ _ _)
      | (with_reducible exact banksmanref01_Number.mono _ _ _)
      | (with_reducible exact LeO.refl _)
      | (with_reducible exact LeO.none _)
      | (with_reducible refine LeO.ite ?_ ?_)
      | (with_reducible refine LeO.bind ?_ (fun _ => ?_))
      | exact ih0 _ _ _ _
      | exact ih1 _ _ _ _ _
      | exact banksmanref01_Number.mono _ _ _
      | exact LeO.none _
      | refine LeO.ite ?_ ?_
      | refine LeO.bind ?_ (fun _ => ?_)
theorem banksmanref01_Take.mono : ∀ a0 k, LeO (banksmanref01_Take.f k a0) (banksmanref01_Take.f (k + 1) a0) := by
  intro a0 k
  obtain ⟨ih0, ih1⟩ := banksmanref01_Take.mono_l k
  unfold banksmanref01_Take.f
  repeat' first
      | (with_reducible exact ih0 _ _ _ _)
      | (with_reducible exact ih1 _ _ _ _ _)
      | (with_reducible exact banksmanref01_Number.mono _ _ _)
      | (with_reducible exact LeO.refl _)
      | (with_reducible exact LeO.none _)
      | (with_reducible refine LeO.ite ?_ ?_)
      | (with_reducible refine LeO.bind ?_ (fun _ => ?_))
      | exact ih0 _ _ _ _
      | exact ih1 _ _ _ _ _
      | exact banksmanref01_Number.mono _ _ _
      | exact LeO.none _
      | refine LeO.ite ?_ ?_
      | refine LeO.bind ?_ (fun _ => ?_)
end Go.Proofs.Ytfbjabpjfalmlaa.P
