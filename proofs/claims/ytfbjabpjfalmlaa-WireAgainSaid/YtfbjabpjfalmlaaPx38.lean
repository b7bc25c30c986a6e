-- Written by wip/gprint.py, a program of this session over the kit's print; Lean checks it.
import Derived.Test.YtfbjabpjfalmlaaPx0
namespace Go.Proofs.Ytfbjabpjfalmlaa.P
open Go.RowKit Go.Proofs.YtfbjabpjfalmlaaW.PrintWords Go.Proofs.YtfbjabpjfalmlaaW.PrintLast Go.Proofs.YtfbjabpjfalmlaaW.PrintMore
attribute [local go_sem] max2_int min2_int max_two min_two max_three min_three max_four min_four   -- for this text's walks alone
set_option linter.unusedVariables false
set_option linter.unusedSimpArgs false

/-! ### banksmanref01_Number: function 24 -/
mutual
def banksmanref01_Number.j0 : Nat → List Int → Int → Bool → Option (List Int × Int)
  | 0, _, _, _ => none
  | k + 1, x0, x1, x12 => if x12 = true then (some (([] : List Int), 10)) else ((some (([] : List Int) : List Int)).bind fun y234 => (if y234.length + x0.length < 140737488355328 then (banksmanref01_Number.l0 k x1 (y234 ++ x0)) else (none)))
def banksmanref01_Number.l0 : Nat → Int → List Int → Option (List Int × Int)
  | 0, _, _ => none
  | k + 1, x1, x6 => if x1 ≥ 128 then (if x6.length < 140737488355328 then (banksmanref01_Number.l0 k (wrap64 (Int.tdiv x1 128)) (x6 ++ [(wrap64 ((Int.tmod x1 128) + 128)) % 256])) else (none)) else (if x6.length < 140737488355328 then (some ((x6 ++ [(x1) % 256]), 0)) else (none))
end
def banksmanref01_Number.f (k : Nat) (l0 : List Int) (a1 : Int) : Option (List Int × Int) := if a1 < 0 then (banksmanref01_Number.j0 k l0 a1 true) else (banksmanref01_Number.j0 k l0 a1 (decide (a1 ≥ 2147483648)))
theorem banksmanref01_Number.mono_l : ∀ k, (∀ y0 y1 y2, LeO (banksmanref01_Number.j0 k y0 y1 y2) (banksmanref01_Number.j0 (k + 1) y0 y1 y2)) ∧ (∀ y0 y1, LeO (banksmanref01_Number.l0 k y0 y1) (banksmanref01_Number.l0 (k + 1) y0 y1))
  | 0 => ⟨fun _ _ _ r h => by simp [banksmanref01_Number.j0] at h, fun _ _ r h => by simp [banksmanref01_Number.l0] at h⟩
  | k + 1 => by
    obtain ⟨ih0, ih1⟩ := banksmanref01_Number.mono_l k
    refine ⟨?_, ?_⟩
    · intro y0 y1 y2
      unfold banksmanref01_Number.j0
      repeat' first
      | (with_reducible exact ih0 _ _ _)
      | (with_reducible exact ih1 _ _)
      | (with_reducible exact LeO.refl _)
      | (with_reducible exact LeO.none _)
      | (with_reducible refine LeO.ite ?_ ?_)
      | (with_reducible refine LeO.bind ?_ (fun _ => ?_))
      | exact ih0 _ _ _
      | exact ih1 _ _
      | exact LeO.none _
      | refine LeO.ite ?_ ?_
      | refine LeO.bind ?_ (fun _ => ?_)
    · intro y0 y1
      unfold banksmanref01_Number.l0
      repeat' first
      | (with_reducible exact ih0 _ _ _)
      | (with_reducible exact ih1 _ _)
      | (with_reducible exact LeO.refl _)
      | (with_reducible exact LeO.none _)
      | (with_reducible refine LeO.ite ?_ ?_)
      | (with_reducible refine LeO.bind ?_ (fun _ => ?_))
      | exact ih0 _ _ _
      | exact ih1 _ _
      | exact LeO.none _
      | refine LeO.ite ?_ ?_
      | refine LeO.bind ?_ (fun _ => ?_)
theorem banksmanref01_Number.mono : ∀ a0 a1 k, LeO (banksmanref01_Number.f k a0 a1) (banksmanref01_Number.f (k + 1) a0 a1) := by
  intro a0 a1 k
  obtain ⟨ih0, ih1⟩ := banksmanref01_Number.mono_l k
  unfold banksmanref01_Number.f
  repeat' first
      | (with_reducible exact ih0 _ _ _)
      | (with_reducible exact ih1 _ _)
      | (with_reducible exact LeO.refl _)
      | (with_reducible exact LeO.none _)
      | (with_reducible refine LeO.ite ?_ ?_)
      | (with_reducible refine LeO.bind ?_ (fun _ => ?_))
      | exact ih0 _ _ _
      | exact ih1 _ _
      | exact LeO.none _
      | refine LeO.ite ?_ ?_
      | refine LeO.bind ?_ (fun _ => ?_)
end Go.Proofs.Ytfbjabpjfalmlaa.P
