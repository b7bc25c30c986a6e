/- Proved: the law ChainInstalls of banksmanlaw05 returns true for every input: what reads see after an install that succeeds, and that one that fails leaves the chain. No conditions. -/
import Derived.Test.YtdkfahobgnmglaaLem05b
import Derived.Test.YtdkfahobgnmglaaPx29
namespace Go.Proofs.Ytdkfahobgnmglaa.Pure
open Go.RowKit Go.Proofs.Ytdkfahobgnmglaa.P Go.Proofs.YtdkfahobgnmglaaW.PrintWords Go.Proofs.YtdkfahobgnmglaaW.PrintLast
set_option linter.unusedVariables false

theorem ChainInstalls : banksmanlaw05_ChainInstalls.Pure := by
  intro l a b c s hl ha hc hs
  have hsw := wf_i64 hs
  refine ⟨2000, ?_⟩
  unfold banksmanlaw05_ChainInstalls.f
  rw [awake_f (by omega), Option.bind_some, few_f (by omega), Option.bind_some]
  cases hf : few l with
  | false => rw [if_neg (by decide)]; simp only [banksmanlaw05_ChainInstalls.j0]; rfl
  | true =>
    obtain ⟨hsm, hl100⟩ := few_small hf
    rw [if_pos rfl]
    simp only [banksmanlaw05_ChainInstalls.j0]
    by_cases hc1 : (c.length : Int) > 100
    · rw [decide_eq_true hc1]; rfl
    rw [decide_eq_false hc1, if_neg (by decide), install_f hsm (by omega) (by omega) (by omega), Option.bind_some]
    by_cases h0 : (ins l ⟨a, b, c⟩).2 = 0
    · obtain ⟨hch, hm, hlt, he⟩ := ins_zero h0
      have hlt' : lastf 0 l < a := hlt
      have hmp := mayB_pos hm
      have hm1 : 1 ≤ a := hmp.1
      have hm2 : a ≤ 2147483647 := hmp.2.1
      have hsn := small_app (x := ⟨a, b, c⟩) hsm (by omega) (show c.length ≤ 1000 by omega)
      have hcs := chk_snoc hch hm hlt
      have hlast : lastf 0 (l ++ [⟨a, b, c⟩]) = a := lastf_snoc _ _ _
      rw [if_pos h0, he, read_f hsn (by omega), Option.bind_some, read_f hsm (by omega), Option.bind_some]
      simp only [if_pos]
      by_cases hg : s ≥ a
      · obtain ⟨t1, d1⟩ := all_le (s := s) hcs (by omega)
        obtain ⟨t2, d2⟩ := snoc_gt (l := l) (x := ⟨a, b, c⟩) (s := a - 1) (show a - 1 < a by omega)
        have er : rdp (l ++ [⟨a, b, c⟩]) s = if b = true then ([], false) else (c, true) := by
          rw [rdp_is s hcs, t1]; simp
        have en : newr (l ++ [⟨a, b, c⟩]) s = false := by rw [newr_is s hcs, d1]; rfl
        have en2 : newr (l ++ [⟨a, b, c⟩]) (a - 1) = true := by rw [newr_is _ hcs, d2]; simp
        rw [if_pos hg, er, newer_f hsn (by omega), Option.bind_some, en, w64 (by omega) (by omega), newer_f hsn (by omega), Option.bind_some, en2]
        cases b <;> simp
      · obtain ⟨t2, d2⟩ := snoc_gt (l := l) (x := ⟨a, b, c⟩) (s := s) (show s < a by omega)
        have er : rdp (l ++ [⟨a, b, c⟩]) s = rdp l s := by rw [rdp_is s hcs, rdp_is s hch, t2]
        have en2 : newr (l ++ [⟨a, b, c⟩]) s = true := by rw [newr_is _ hcs, d2]; simp
        rw [if_neg hg, er, newer_f hsn (by omega), Option.bind_some, en2]
        simp
    · rw [if_neg h0, ins_else h0, same_f hsm.1 (by omega)]
      rfl
end Go.Proofs.Ytdkfahobgnmglaa.Pure
