/- Proved: the law SumTells of banksmanlaw02 returns true for every input: sum.Sum and sum.Join are what the document says. No conditions. -/
import Derived.Test.YtcakpgfemmcnkaaLem02
namespace Go.Proofs.Ytcakpgfemmcnkaa.Pure
open Go.RowKit Go.Proofs.Ytcakpgfemmcnkaa.P Go.Proofs.YtcakpgfemmcnkaaW.PrintWords Go.Proofs.YtcakpgfemmcnkaaW.PrintLast
set_option linter.unusedVariables false

theorem SumTells : banksmanlaw02_SumTells.Pure := by
  intro l0 a1 a2 a3 _ hn hw h1 h2 h3
  have hb := okb_of hw
  have g1 := wf_u32 h1
  have g2 := wf_u32 h2
  refine ⟨l0.length + 1, ?_⟩
  unfold banksmanlaw02_SumTells.f
  rw [awake, Option.bind_some]
  by_cases h : (l0.length : Int) > 3000
  · rw [if_pos h]
  · rw [if_neg h, join_f g1 g2, Option.bind_some, ref_join _ _ _ g1 g2, Option.bind_some, if_pos (by trivial), sum_f hb, Option.bind_some, ref_sum_f _ hb (by omega) _ (by omega), Option.bind_some, if_pos (by trivial), if_pos (by trivial)]
    simp
end Go.Proofs.Ytcakpgfemmcnkaa.Pure
