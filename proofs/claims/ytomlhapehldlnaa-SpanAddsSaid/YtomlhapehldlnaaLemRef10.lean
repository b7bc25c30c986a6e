/- Proved: the reference's Check, Empty, In, Covers and One are the plain checkB, emptyB, inB, coversB and the equality. -/
import Derived.Test.YtomlhapehldlnaaLem10
import Derived.Test.YtomlhapehldlnaaPx42
import Derived.Test.YtomlhapehldlnaaPx46
import Derived.Test.YtomlhapehldlnaaPx44
import Derived.Test.YtomlhapehldlnaaPx1
namespace Go.Proofs.Ytomlhapehldlnaa.Pure
open Go.RowKit Go.Proofs.Ytomlhapehldlnaa.P Go.Proofs.YtomlhapehldlnaaW.PrintWords Go.Proofs.YtomlhapehldlnaaW.PrintLast
set_option linter.unusedVariables false
set_option linter.unusedSimpArgs false
theorem rCheck_f (x : S24) : banksmanref10_Check.f x.f0 x.f1 x.f2 x.f3 = some (checkB x) := by
  rw [← span_Check_f]
  unfold banksmanref10_Check.f span_Check.f
  by_cases h : x.f0 ≥ 0
  · rw [if_pos h, if_pos h]
    by_cases h2 : x.f0 ≤ 3
    · rw [if_pos h2, if_pos (show x.f0 < 4 by omega)]
    · rw [if_neg h2, if_neg (show ¬ x.f0 < 4 by omega)]
  · rw [if_neg h, if_neg h]
theorem not_less (a b : List Int) : (!Op.bytesLess (strOfNums a).toList (strOfNums b).toList) = decide (Lib.compareBytes (Lib.bytesOf b) (Lib.bytesOf a) ≤ 0) := by
  rw [Go.Lib.strOfNums_toList, Go.Lib.strOfNums_toList, less_cmp]
  have := cmp_neg (Lib.bytesOf a) (Lib.bytesOf b)
  by_cases h : Lib.compareBytes (Lib.bytesOf a) (Lib.bytesOf b) < 0
  · rw [decide_eq_true h, decide_eq_false (by omega)]; rfl
  · rw [decide_eq_false h, decide_eq_true (by omega)]; rfl
theorem rEmpty_f (x : S24) : banksmanref10_Empty.f x.f0 x.f1 x.f2 x.f3 = some (emptyB x) := by
  unfold banksmanref10_Empty.f emptyB
  rw [not_less]
  cases x.f3 <;> simp
theorem rCovers_f (a b : S24) : banksmanref10_Covers.f a.f0 a.f1 a.f2 a.f3 b.f0 b.f1 b.f2 b.f3 = some (coversB a b) := by
  unfold banksmanref10_Covers.f coversB
  rw [rEmpty_f, Option.bind_some, not_less]
  have e : Op.bytesLess (strOfNums b.f1).toList (strOfNums a.f1).toList = !decide (Lib.compareBytes (Lib.bytesOf a.f1) (Lib.bytesOf b.f1) ≤ 0) := by rw [← not_less, Bool.not_not]
  rw [e]
  cases emptyB b
  · by_cases h : a.f0 = b.f0
    · by_cases h2 : Lib.compareBytes (Lib.bytesOf a.f1) (Lib.bytesOf b.f1) ≤ 0
      · cases ha : a.f3 <;> cases hb : b.f3 <;> simp [h, h2]
      · simp [h, h2]
    · simp [h]
  · rfl
theorem One_refl (t : Int) (a b : List Int) (o : Bool) : banksmanref10_One.f t a b o t a b o = some true := by
  unfold banksmanref10_One.f
  rw [if_pos rfl, if_pos rfl, if_pos rfl]
  cases o <;> rfl
end Go.Proofs.Ytomlhapehldlnaa.Pure
