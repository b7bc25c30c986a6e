-- Written by wip/gprint.py, a program of this session over the kit's print; Lean checks it.
import Derived.Test.YtfbjabpjfalmlaaPx0
namespace Go.Proofs.Ytfbjabpjfalmlaa.P
open Go.RowKit Go.Proofs.YtfbjabpjfalmlaaW.PrintWords Go.Proofs.YtfbjabpjfalmlaaW.PrintLast Go.Proofs.YtfbjabpjfalmlaaW.PrintMore
attribute [local go_sem] max2_int min2_int max_two min_two max_three min_three max_four min_four   -- for this text's walks alone
set_option linter.unusedVariables false
set_option linter.unusedSimpArgs false

/-! ### banksmanref21_Reply: function 33 -/
mutual
def banksmanref21_Reply.j0 : Nat → Bool → Int → Bool → List Int → List (S47) → Option (Bool)
  | 0, _, _, _, _, _ => none
  | k + 1, x34, x429000, x429001, x429002, x429003 => if x34 = true then (some false) else (banksmanref21_Reply.l0 k 0 x429000 x429001 x429002 x429003)
def banksmanref21_Reply.l0 : Nat → Int → Int → Bool → List Int → List (S47) → Option (Bool)
  | 0, _, _, _, _, _ => none
  | k + 1, x3, x429000, x429001, x429002, x429003 => if x3 < (x429003.length : Int) then (if 0 ≤ x3 then (if (((rd_T47 x429003 x3).f0).length : Int) > 16 then (some false) else (if (((rd_T47 x429003 x3).f1).length : Int) > 32 then (some false) else (banksmanref21_Reply.l0 k (wrap64 (x3 + 1)) x429000 x429001 x429002 x429003))) else (none)) else (some true)
end
def banksmanref21_Reply.f (k : Nat) (a0_0 : Int) (a0_1 : Bool) (l0_2 : List Int) (l0_3 : List (S47)) : Option (Bool) := if a0_0 < 0 then (banksmanref21_Reply.j0 k true a0_0 a0_1 l0_2 l0_3) else (if a0_0 ≥ 2147483648 then (banksmanref21_Reply.j0 k true a0_0 a0_1 l0_2 l0_3) else (if (l0_2.length : Int) > 32 then (banksmanref21_Reply.j0 k true a0_0 a0_1 l0_2 l0_3) else (if a0_1 = true then (banksmanref21_Reply.j0 k (decide ((l0_3.length : Int) > 80)) a0_0 a0_1 l0_2 l0_3) else (if (l0_2.length : Int) > 0 then (banksmanref21_Reply.j0 k true a0_0 a0_1 l0_2 l0_3) else (banksmanref21_Reply.j0 k (decide ((l0_3.length : Int) > 80)) a0_0 a0_1 l0_2 l0_3)))))
theorem banksmanref21_Reply.mono_l : ∀ k, (∀ y0 y1 y2 y3 y4, LeO (banksmanref21_Reply.j0 k y0 y1 y2 y3 y4) (banksmanref21_Reply.j0 (k + 1) y0 y1 y2 y3 y4)) ∧ (∀ y0 y1 y2 y3 y4, LeO (banksmanref21_Reply.l0 k y0 y1 y2 y3 y4) (banksmanref21_Reply.l0 (k + 1) y0 y1 y2 y3 y4))
  | 0 => ⟨fun _ _ _ _ _ r h => by simp [banksmanref21_Reply.j0] at h, fun _ _ _ _ _ r h => by simp [banksmanref21_Reply.l0] at h⟩
  | k + 1 => by
    obtain ⟨ih0, ih1⟩ := banksmanref21_Reply.mono_l k
    refine ⟨?_, ?_⟩
    · intro y0 y1 y2 y3 y4
      unfold banksmanref21_Reply.j0
      repeat' first
      | (with_reducible exact ih0 _ _ _ _ _)
      | (with_reducible exact ih1 _ _ _ _ _)
      | (with_reducible exact LeO.refl _)
      | (with_reducible exact LeO.none _)
      | (with_reducible refine LeO.ite ?_ ?_)
      | (with_reducible refine LeO.bind ?_ (fun _ => ?_))
      | exact ih0 _ _ _ _ _
      | exact ih1 _ _ _ _ _
      | exact LeO.none _
      | refine LeO.ite ?_ ?_
      | refine LeO.bind ?_ (fun _ => ?_)
    · intro y0 y1 y2 y3 y4
      unfold banksmanref21_Reply.l0
      repeat' first
      | (with_reducible exact ih0 _ _ _ _ _)
      | (with_reducible exact ih1 _ _ _ _ _)
      | (with_reducible exact LeO.refl _)
      | (with_reducible exact LeO.none _)
      | (with_reducible refine LeO.ite ?_ ?_)
      | (with_reducible refine LeO.bind ?_ (fun _ => ?_))
      | exact ih0 _ _ _ _ _
      | exact ih1 _ _ _ _ _
      | exact LeO.none _
      | refine LeO.ite ?_ ?_
      | refine LeO.bind ?_ (fun _ => ?_)
theorem banksmanref21_Reply.mono : ∀ a0 a1 a2 a3 k, LeO (banksmanref21_Reply.f k a0 a1 a2 a3) (banksmanref21_Reply.f (k + 1) a0 a1 a2 a3) := by
  intro a0 a1 a2 a3 k
  obtain ⟨ih0, ih1⟩ := banksmanref21_Reply.mono_l k
  unfold banksmanref21_Reply.f
  repeat' first
      | (with_reducible exact ih0 _ _ _ _ _)
      | (with_reducible exact ih1 _ _ _ _ _)
      | (with_reducible exact LeO.refl _)
      | (with_reducible exact LeO.none _)
      | (with_reducible refine LeO.ite ?_ ?_)
      | (with_reducible refine LeO.bind ?_ (fun _ => ?_))
      | exact ih0 _ _ _ _ _
      | exact ih1 _ _ _ _ _
      | exact LeO.none _
      | refine LeO.ite ?_ ?_
      | refine LeO.bind ?_ (fun _ => ?_)
end Go.Proofs.Ytfbjabpjfalmlaa.P
