/- Proved: the law SumJoins of banksmanlaw02 returns true for every input: two texts' sums make that of both. No conditions. -/
import Derived.Test.YtcakpgfemmcnkaaLem02
namespace Go.Proofs.Ytcakpgfemmcnkaa.Pure
open Go.RowKit Go.Proofs.Ytcakpgfemmcnkaa.P Go.Proofs.YtcakpgfemmcnkaaW.PrintWords Go.Proofs.YtcakpgfemmcnkaaW.PrintLast
set_option linter.unusedVariables false

theorem SumJoins : banksmanlaw02_SumJoins.Pure := by
  intro a b c _ ha hwa _ hb hwb _ hc hwc
  have oa := okb_of hwa
  have ob := okb_of hwb
  have oc := okb_of hwc
  refine ⟨1, ?_⟩
  unfold banksmanlaw02_SumJoins.f
  rw [awake, Option.bind_some]
  by_cases h1 : (a.length : Int) > 300
  · rw [if_pos h1]; simp only [banksmanlaw02_SumJoins.j0]; rfl
  rw [if_neg h1]
  by_cases h2 : (b.length : Int) > 300
  · rw [if_pos h2]; simp only [banksmanlaw02_SumJoins.j0]; rfl
  rw [if_neg h2]
  by_cases h3 : (c.length : Int) > 300
  · simp only [banksmanlaw02_SumJoins.j0]; rw [if_pos (by simpa using h3)]
  simp only [banksmanlaw02_SumJoins.j0]
  rw [if_neg (by simpa using h3)]
  have e1 : wrap64 ((b.length : Int) + (c.length : Int)) = ((b ++ c).length : Int) := by rw [w64 (by omega) (by omega)]; simp
  have e2 : wrap64 ((a.length : Int) + (b.length : Int)) = ((a.length + b.length : Nat) : Int) := by rw [w64 (by omega) (by omega)]; simp
  rw [sum_f oa, Option.bind_some, sum_f ob, Option.bind_some, sum_f oc, Option.bind_some, join_val a b (by omega), Option.bind_some, join_val b c (by omega), Option.bind_some]
  simp only []
  rw [join_val (a ++ b) c (by omega), Option.bind_some, e1, join_val a (b ++ c) (by simp; omega), Option.bind_some, Option.bind_some, if_pos (by simp; omega), Option.bind_some, if_pos (by simp; omega), Option.bind_some, if_pos (by simp; omega), Option.bind_some]
  simp only [List.nil_append]
  rw [if_pos (by trivial), if_pos (by trivial), if_pos (by trivial), if_pos (by trivial), if_pos (by trivial), List.append_assoc, if_pos (by trivial), sum_f (by rw [okb_app, okb_app, oa, ob, oc]; rfl), Option.bind_some, if_pos (by trivial), e2, if_pos (by omega), if_pos (by simp; omega)]
  rw [Int.toNat_natCast, ← List.append_assoc, List.take_append_of_le_length (by simp), List.take_of_length_le (by simp), sum_f (by rw [okb_app, oa, ob]; rfl), Option.bind_some]
  simp
end Go.Proofs.Ytcakpgfemmcnkaa.Pure
