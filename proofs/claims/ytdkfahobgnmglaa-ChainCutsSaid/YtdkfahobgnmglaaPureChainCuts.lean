/- Proved: the law ChainCuts of banksmanlaw05 returns true for every input: what is cut off behind a read's sequence is not seen by it. No conditions. -/
import Derived.Test.YtdkfahobgnmglaaLem05b
import Derived.Test.YtdkfahobgnmglaaPx32
namespace Go.Proofs.Ytdkfahobgnmglaa.Pure
open Go.RowKit Go.Proofs.Ytdkfahobgnmglaa.P Go.Proofs.YtdkfahobgnmglaaW.PrintWords Go.Proofs.YtdkfahobgnmglaaW.PrintLast Go.Proofs.YtdkfahobgnmglaaW.PrintMore
set_option linter.unusedVariables false

theorem ChainCuts : banksmanlaw05_ChainCuts.Pure := by
  intro l c s hl hcw hs
  have hc := wf_u8 hcw
  refine ⟨2000, ?_⟩
  unfold banksmanlaw05_ChainCuts.f
  rw [awake_f (by omega), Option.bind_some]
  by_cases h1 : (l.length : Int) > 100
  · rw [if_pos h1]; simp only [banksmanlaw05_ChainCuts.j0]; rfl
  rw [if_neg h1, check_f (by omega) (by omega), Option.bind_some]
  simp only [banksmanlaw05_ChainCuts.j0]
  cases hch : chk 0 l with
  | false => rfl
  | true =>
    have hsm := chk_small hch (by omega)
    have e1 : wrap64 ((l.length : Int) + 1) = ((l.length + 1 : Nat) : Int) := by rw [w64 (by omega) (by omega)]; omega
    have e2 : wrap64 c = ((c.toNat : Nat) : Int) := by rw [w64 (by omega) (by omega)]; omega
    have e3 : Int.tmod (wrap64 c) (wrap64 ((l.length : Int) + 1)) = ((c.toNat % (l.length + 1) : Nat) : Int) := by rw [e1, e2]; rfl
    have hn : c.toNat % (l.length + 1) < l.length + 1 := Nat.mod_lt _ (by omega)
    rw [e3]
    generalize c.toNat % (l.length + 1) = n at hn
    have hst : small (l.take n) := ⟨by rw [List.length_take]; omega, fun x hx => hsm.2 x (List.mem_of_mem_take hx)⟩
    have hct : chk 0 (l.take n) = true := by
      have := hch
      rw [← List.take_append_drop n l, chk_append, Bool.and_eq_true] at this
      exact this.1
    rw [if_neg (by decide), if_neg (by rw [e1]; omega), read_f hsm (by omega), Option.bind_some, if_pos (by omega), if_pos (by omega), Int.toNat_natCast, read_f hst (by omega), Option.bind_some, check_f hst.1 (by omega), hct]
    simp only [Option.bind_some, if_true]
    by_cases h2 : (n : Int) = (l.length : Int)
    · rw [if_pos h2, List.take_of_length_le (by omega), if_pos (by simp)]
      simp
    · rw [if_neg h2]
      have e4 : wrap64 ((l.length : Int) - 1) = ((l.length - 1 : Nat) : Int) := by rw [w64 (by omega) (by omega)]; omega
      have e5 : mn (n : Int) (mx 0 (wrap64 ((l.length : Int) - 1))) = (n : Int) := by
        rw [e4]; unfold mn mx; split <;> split <;> omega
      have hlt : n < l.length := by omega
      rw [e5, if_pos (by omega), if_pos (by omega), rdT hlt]
      by_cases h3 : s < (l[n]).f0
      · have e6 : rdp (l.take n) s = rdp l s := by
          rw [rdp_is s hct, rdp_is s hch]
          have e7 : tw l s = tw (l.take n) s := by
            conv => lhs; rw [← List.take_append_drop n l, drop_at hlt]
            have e8 : l.take n ++ (l[n] :: l.drop (n + 1)) = tw (l.take n) s ++ (dw (l.take n) s ++ (l[n] :: l.drop (n + 1))) := by rw [← List.append_assoc, twdw]
            rw [e8]
            refine (cutB (fun y hy => tw_le hy) ?_).1
            intro y t hy
            cases hd : dw (l.take n) s with
            | nil => rw [hd, List.nil_append] at hy; injection hy with hy _; rw [← hy]; exact h3
            | cons z u => rw [hd, List.cons_append] at hy; injection hy with hy _; rw [← hy]; exact dw_gt hd
          rw [e7]
        rw [if_pos h3, e6, if_pos (by simp)]
        simp
      · rw [if_neg h3]
end Go.Proofs.Ytdkfahobgnmglaa.Pure
