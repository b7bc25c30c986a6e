/- Proved: the law FrameTells of banksmanlaw03 returns true for every input: frame.Write, Read and All are what the document says. No conditions. -/
import Derived.Test.YtficgggfplejpaaLemA03
import Derived.Test.YtficgggfplejpaaLemB03
import Derived.Test.YtficgggfplejpaaPx31
namespace Go.Proofs.Ytficgggfplejpaa.Pure
open Go.RowKit Go.Proofs.Ytficgggfplejpaa.P Go.Proofs.YtficgggfplejpaaW.PrintWords Go.Proofs.YtficgggfplejpaaW.PrintLast
set_option linter.unusedVariables false
set_option linter.unusedSimpArgs false

theorem FrameTells : banksmanlaw03_FrameTells.Pure := by
  intro t b _ ht hwt _ hb hwb
  have hot := okb_of hwt
  have hob := okb_of hwb
  refine ⟨20000, ?_⟩
  unfold banksmanlaw03_FrameTells.f
  rw [banksmanlaw03_awake.settled, Option.bind_some]
  by_cases h : (t.length : Int) > 3000
  · rw [if_pos h]
    simp only [banksmanlaw03_FrameTells.j0, if_true]
  rw [if_neg h]
  by_cases h2 : (b.length : Int) > 3000
  · rw [decide_eq_true h2]
    simp only [banksmanlaw03_FrameTells.j0, if_true]
  rw [decide_eq_false h2]
  simp only [banksmanlaw03_FrameTells.j0]
  obtain ⟨ts, r, hF, hbr, hr⟩ := split_all b.length b (Nat.le_refl _) hob
  have hro : okb r = true := by rw [hbr, okb_append, Bool.and_eq_true] at hob; exact hob.2
  have hge := encF_ge ts
  have hlen := congrArg List.length hbr
  have hlen2 := hlen
  rw [List.length_append] at hlen2
  rw [if_neg (by decide), write_f hot, Option.bind_some, rwrite_f hot (by omega) (by omega), Option.bind_some, read_f hob (by omega), Option.bind_some, rread_f hob (by omega) (by omega), Option.bind_some]
  rw [hbr, all_f hF hro (by omega) hr, Option.bind_some, rall_f hF hro (by omega) hr (by omega), Option.bind_some]
  dsimp only
  rw [same_f (by omega) (by omega), Option.bind_some]
  simp
end Go.Proofs.Ytficgggfplejpaa.Pure
