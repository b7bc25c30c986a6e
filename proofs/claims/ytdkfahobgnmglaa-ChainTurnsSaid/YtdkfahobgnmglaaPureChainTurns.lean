/- Proved: the law ChainTurns of banksmanlaw05 returns true for every input: a vacuum and an install that succeeds may change places. No conditions. -/
import Derived.Test.YtdkfahobgnmglaaLem05b
import Derived.Test.YtdkfahobgnmglaaPx30
namespace Go.Proofs.Ytdkfahobgnmglaa.Pure
open Go.RowKit Go.Proofs.Ytdkfahobgnmglaa.P Go.Proofs.YtdkfahobgnmglaaW.PrintWords Go.Proofs.YtdkfahobgnmglaaW.PrintLast
set_option linter.unusedVariables false

theorem ChainTurns : banksmanlaw05_ChainTurns.Pure := by
  intro l a b c s hl ha hc hs
  refine ⟨2000, ?_⟩
  unfold banksmanlaw05_ChainTurns.f
  rw [awake_f (by omega), Option.bind_some, few_f (by omega), Option.bind_some]
  cases hf : few l with
  | false => rw [if_neg (by decide)]; simp only [banksmanlaw05_ChainTurns.j0]; rfl
  | true =>
    obtain ⟨hsm, hl100⟩ := few_small hf
    rw [if_pos rfl]
    by_cases hc1 : (c.length : Int) > 100
    · rw [if_pos hc1]; simp only [banksmanlaw05_ChainTurns.j0]; rfl
    rw [if_neg hc1, check_f hsm.1 (by omega), Option.bind_some]
    cases hch : chk 0 l with
    | false => rw [if_neg (by decide)]; simp only [banksmanlaw05_ChainTurns.j0]; rfl
    | true =>
      rw [if_pos rfl]
      simp only [banksmanlaw05_ChainTurns.j0]
      by_cases hg : s ≥ a
      · rw [decide_eq_true hg]; rfl
      have hx : s < (⟨a, b, c⟩ : S25).f0 := by show s < a; omega
      have hsv := small_vac s hsm
      have hlv := (vac_sub (l := l) s).1
      rw [decide_eq_false hg, if_neg (by decide), install_f hsm (by omega) (by omega) (by omega), Option.bind_some, vacuum_f hsm (by omega), Option.bind_some, install_f hsv (by omega) (by omega) (by omega), Option.bind_some]
      by_cases h0 : (ins l ⟨a, b, c⟩).2 = 0
      · obtain ⟨-, hm, hlt, he⟩ := ins_zero h0
        have hsn := small_app (x := ⟨a, b, c⟩) hsm (by omega) (show c.length ≤ 1000 by omega)
        have hcs := chk_snoc hch hm hlt
        have hv := chk_vac s hch
        have he2 := ins_is (x := ⟨a, b, c⟩) hv.1 hm (by omega)
        obtain ⟨e1, e2⟩ := snoc_gt (l := l) hx
        have e3 : vac (l ++ [⟨a, b, c⟩]) s = vac l s ++ [⟨a, b, c⟩] := by
          unfold vac
          rw [if_pos hcs, if_pos hch, e1, e2]
          cases (tw l s).getLast? with
          | none => rfl
          | some y => simp only; split <;> rfl
        rw [if_pos h0, he, he2, vacuum_f hsn (by omega), Option.bind_some, e3, same_f (by simp; omega) (by omega)]
        rfl
      · rw [if_neg h0]
end Go.Proofs.Ytdkfahobgnmglaa.Pure
