/- Proved: the law ChainGone of banksmanlaw05 returns true for every input: what reads see after a version that is gone. No conditions. -/
import Derived.Test.YtdkfahobgnmglaaLem05b
import Derived.Test.YtdkfahobgnmglaaPx33
namespace Go.Proofs.Ytdkfahobgnmglaa.Pure
open Go.RowKit Go.Proofs.Ytdkfahobgnmglaa.P Go.Proofs.YtdkfahobgnmglaaW.PrintWords Go.Proofs.YtdkfahobgnmglaaW.PrintLast
set_option linter.unusedVariables false

theorem ChainGone : banksmanlaw05_ChainGone.Pure := by
  intro l a s hl ha hs
  refine ⟨2000, ?_⟩
  unfold banksmanlaw05_ChainGone.f
  rw [awake_f (by omega), Option.bind_some]
  by_cases h1 : (l.length : Int) > 100
  · rw [if_pos h1]; simp only [banksmanlaw05_ChainGone.j0]; rfl
  rw [if_neg h1, check_f (by omega) (by omega), Option.bind_some]
  simp only [banksmanlaw05_ChainGone.j0]
  cases hch : chk 0 l with
  | false => rfl
  | true =>
    have hsm := chk_small hch (by omega)
    rw [if_neg (by decide), install_f hsm (by omega) (by simp) (by omega), Option.bind_some]
    simp only [if_true]
    by_cases h0 : (ins l ⟨a, true, []⟩).2 = 0
    · obtain ⟨-, hm, hlt, he⟩ := ins_zero h0
      have hlt' : lastf 0 l < a := hlt
      have hmp := mayB_pos hm
      have hm1 : 1 ≤ a := hmp.1
      have hm2 : a ≤ 2147483647 := hmp.2.1
      have hsn := small_app (x := ⟨a, true, []⟩) hsm (by omega) (by simp)
      have hcs := chk_snoc hch hm hlt
      have hlast : lastf 0 (l ++ [⟨a, true, []⟩]) = a := lastf_snoc _ _ _
      have hlen : ((l ++ [(⟨a, true, []⟩ : S25)]).length : Int) = wrap64 ((l.length : Int) + 1) := by rw [w64 (by omega) (by omega)]; simp
      obtain ⟨t1, d1⟩ := all_le (s := a) hcs (by omega)
      obtain ⟨t2, d2⟩ := snoc_gt (l := l) (x := ⟨a, true, []⟩) (s := a - 1) (show a - 1 < a by omega)
      have ev : vac (l ++ [⟨a, true, []⟩]) a = [] := by unfold vac; rw [if_pos hcs, t1, d1]; simp
      have en : newr (l ++ [⟨a, true, []⟩]) a = false := by rw [newr_is a hcs, d1]; rfl
      have en2 : newr (l ++ [⟨a, true, []⟩]) (a - 1) = true := by rw [newr_is _ hcs, d2]; simp
      have hend : ((chain_Vacuum.f 1999 (l ++ [⟨a, true, []⟩]) a).bind fun t440 => (if (t440.length : Int) = 0 then ((chain_Newer.f 1999 (l ++ [⟨a, true, []⟩]) (wrap64 (a - 1))).bind fun t443 => (if t443 = true then ((chain_Newer.f 1999 (l ++ [⟨a, true, []⟩]) a).bind fun t444 => (some (!t444))) else (some false))) else (some false))) = some true := by
        rw [vacuum_f hsn (by omega), Option.bind_some, ev, if_pos (by simp), w64 (by omega) (by omega), newer_f hsn (by omega), Option.bind_some, en2, if_pos rfl, newer_f hsn (by omega), Option.bind_some, en]; rfl
      rw [if_pos h0, he, read_f hsm (by omega), Option.bind_some, read_f hsn (by omega), Option.bind_some]
      simp only [hend]
      by_cases hg : s ≥ a
      · obtain ⟨t3, d3⟩ := all_le (s := s) hcs (by omega)
        have er : rdp (l ++ [⟨a, true, []⟩]) s = ([], false) := by rw [rdp_is s hcs, t3]; simp
        rw [if_pos hg, er, if_neg (by decide), if_pos (by rfl), if_pos hlen]
      · obtain ⟨t3, d3⟩ := snoc_gt (l := l) (x := ⟨a, true, []⟩) (s := s) (show s < a by omega)
        have er : rdp (l ++ [⟨a, true, []⟩]) s = rdp l s := by rw [rdp_is s hcs, rdp_is s hch, t3]
        rw [if_neg hg, er, if_pos (by omega), if_pos (by simp), if_pos rfl, if_pos hlen]
    · rw [if_neg h0, ins_else h0]
      simp
end Go.Proofs.Ytdkfahobgnmglaa.Pure
