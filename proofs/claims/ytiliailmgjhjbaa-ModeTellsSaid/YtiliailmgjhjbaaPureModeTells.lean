/- Proved: the law ModeTells of banksmanlaw09 returns true for every input: Fits, Covers, Join and Above are what the document says. No conditions. -/
import Derived.Test.YtiliailmgjhjbaaLem09
namespace Go.Proofs.Ytiliailmgjhjbaa.Pure
open Go.RowKit Go.Proofs.Ytiliailmgjhjbaa.P Go.Proofs.YtiliailmgjhjbaaW.PrintWords Go.Proofs.YtiliailmgjhjbaaW.PrintLast
set_option linter.unusedVariables false
set_option linter.unusedSimpArgs false

theorem tells_all : ∀ a ∈ ([1, 2, 3, 4, 5] : List Int), ∀ b ∈ ([1, 2, 3, 4, 5] : List Int), banksmanlaw09_ModeTells.f 20 a b = some true := by decide +kernel
theorem above_same : ∀ a ∈ ([1, 2, 3, 4, 5] : List Int), mode_Above.f 20 a = banksmanref09_Above.f a ∧ (mode_Above.f 20 a).isSome = true := by decide +kernel
theorem ModeTells : banksmanlaw09_ModeTells.Pure := by
  intro a b _ _
  refine ⟨20, ?_⟩
  by_cases ha : NM a
  · unfold banksmanlaw09_ModeTells.f
    rw [awake, nl_fits ha, nl_rfits ha, nl_cov ha, nl_rcov ha, nl_join ha, nl_rjoin ha, n_above ha, n_rabove ha]
    rfl
  by_cases hb : NM b
  · unfold banksmanlaw09_ModeTells.f
    obtain ⟨e, s⟩ := above_same a (five_of ha)
    obtain ⟨t, ht⟩ := Option.isSome_iff_exists.mp s
    rw [awake, nr_fits hb, nr_rfits hb, nr_cov hb, nr_rcov hb, nr_join hb, nr_rjoin hb, ← e, ht]
    simp
  exact tells_all a (five_of ha) b (five_of hb)
end Go.Proofs.Ytiliailmgjhjbaa.Pure
