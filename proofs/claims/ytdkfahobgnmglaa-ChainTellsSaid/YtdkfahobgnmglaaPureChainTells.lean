/- Proved: the law ChainTells of banksmanlaw05 returns true for every input: the package's functions answer as the reference's. No conditions. -/
import Derived.Test.YtdkfahobgnmglaaLemRef05
import Derived.Test.YtdkfahobgnmglaaPx27
namespace Go.Proofs.Ytdkfahobgnmglaa.Pure
open Go.RowKit Go.Proofs.Ytdkfahobgnmglaa.P Go.Proofs.YtdkfahobgnmglaaW.PrintWords Go.Proofs.YtdkfahobgnmglaaW.PrintLast
set_option linter.unusedVariables false

theorem ChainTells : banksmanlaw05_ChainTells.Pure := by
  intro l a b c s hl ha hc hs
  refine ⟨2000, ?_⟩
  unfold banksmanlaw05_ChainTells.f
  rw [awake_f (by omega), Option.bind_some, few_f (by omega), Option.bind_some]
  cases hf : few l with
  | false => rw [if_neg (by decide)]; simp only [banksmanlaw05_ChainTells.j0]; rfl
  | true =>
    obtain ⟨hsm, hl100⟩ := few_small hf
    rw [if_pos rfl]
    simp only [banksmanlaw05_ChainTells.j0]
    by_cases hc1 : (c.length : Int) > 100
    · rw [decide_eq_true hc1]; rfl
    have hsv := small_vac s hsm
    have hsi : (ins l ⟨a, b, c⟩).1.length ≤ 1000 := by
      by_cases h0 : (ins l ⟨a, b, c⟩).2 = 0
      · rw [(ins_zero h0).2.2.2]; simp; omega
      · rw [ins_else h0]; omega
    rw [decide_eq_false hc1, if_neg (by decide), read_f hsm (by omega), Option.bind_some, rread_f hsm (by omega), Option.bind_some, install_f hsm (by omega) (by omega) (by omega), Option.bind_some, rinstall_f hsm (by omega) (by omega) (by omega), Option.bind_some, same_f hsi (by omega), Option.bind_some, if_pos rfl, vacuum_f hsm (by omega), Option.bind_some, rvacuum_f hsm (by omega), Option.bind_some, same_f hsv.1 (by omega), Option.bind_some]
    simp only [banksmanlaw05_ChainTells.j1, if_true]
    rw [check_f hsm.1 (by omega), Option.bind_some, rcheck_f hsm.1 (by omega), Option.bind_some, if_pos (by simp), if_pos (by simp), newer_f hsm (by omega), Option.bind_some, rnewer_f hsm (by omega), Option.bind_some]
    simp
end Go.Proofs.Ytdkfahobgnmglaa.Pure
