/- Proved: the law ModeUp of banksmanlaw09 returns true for every input: what covers a mode needs, of a table, what covers what that needs. No conditions. -/
import Derived.Test.YtiliailmgjhjbaaLem09
namespace Go.Proofs.Ytiliailmgjhjbaa.Pure
open Go.RowKit Go.Proofs.Ytiliailmgjhjbaa.P Go.Proofs.YtiliailmgjhjbaaW.PrintWords Go.Proofs.YtiliailmgjhjbaaW.PrintLast
set_option linter.unusedVariables false
set_option linter.unusedSimpArgs false

theorem up_all : ∀ a ∈ ([1, 2, 3, 4, 5] : List Int), ∀ b ∈ ([1, 2, 3, 4, 5] : List Int), ∀ c ∈ ([1, 2, 3, 4, 5] : List Int), banksmanlaw09_ModeUp.f 20 a b c = some true := by decide +kernel
theorem up_zero : ∀ a ∈ ([1, 2, 3, 4, 5] : List Int), ∀ b ∈ ([1, 2, 3, 4, 5] : List Int), banksmanlaw09_ModeUp.f 20 a b 0 = some true := by decide +kernel
theorem uj (k : Nat) (a b c : Int) (hab : mode_Covers.f a b = some false) : banksmanlaw09_ModeUp.j0 (k + 1) a b c true true = some true := by
  simp only [banksmanlaw09_ModeUp.j0, hab, Option.bind_some]
  simp
theorem ModeUp : banksmanlaw09_ModeUp.Pure := by
  intro a b c _ _ _
  refine ⟨20, ?_⟩
  have no : mode_Covers.f a b = some false → banksmanlaw09_ModeUp.f 20 a b c = some true := by
    intro h
    unfold banksmanlaw09_ModeUp.f
    rw [awake, h, Option.bind_some, Option.bind_some, if_neg (by decide), uj 19 a b c h]
  by_cases ha : NM a
  · exact no (nl_cov ha)
  by_cases hb : NM b
  · exact no (nr_cov hb)
  by_cases hc : NM c
  · have h := up_zero a (five_of ha) b (five_of hb)
    rw [← h]
    have n0 : NM 0 := .inl (by decide)
    unfold banksmanlaw09_ModeUp.f
    simp only [banksmanlaw09_ModeUp.j0]
    rw [nr_cov (a := b) hc, nr_cov (a := b) n0]
    rfl
  exact up_all a (five_of ha) b (five_of hb) c (five_of hc)
end Go.Proofs.Ytiliailmgjhjbaa.Pure
