/- Proved: how many there are of a table, the reference's Few, and Add where there are few. -/
import Derived.Test.YtomlhapehldlnaaLemAdd10
import Derived.Test.YtomlhapehldlnaaPx48
import Derived.Test.YtomlhapehldlnaaPx1
namespace Go.Proofs.Ytomlhapehldlnaa.Pure
open Go.RowKit Go.Proofs.Ytomlhapehldlnaa.P Go.Proofs.YtomlhapehldlnaaW.PrintWords Go.Proofs.YtomlhapehldlnaaW.PrintLast
set_option linter.unusedVariables false
set_option linter.unusedSimpArgs false
theorem many_cons (t : Int) (y : S24) (l : List S24) : manyOf t (y :: l) = (if y.f0 = t then 1 else 0) + manyOf t l := by
  unfold manyOf
  by_cases h : y.f0 = t
  · rw [if_pos h, List.filter_cons_of_pos (by simp [h]), List.length_cons]; omega
  · rw [if_neg h, List.filter_cons_of_neg (by simp [h])]; omega
theorem few_l0 : ∀ (n k : Nat) (l : List S24) (i : Nat), i + n = l.length → l.length ≤ 100 → banksmanref10_Few.l0 (k + 1 + n) l i = some ((l.drop i).all fun y => decide (y.f1.length ≤ 100) && decide (y.f2.length ≤ 100))
  | 0, k, l, i, hi, hl => by
    rw [Nat.add_zero, banksmanref10_Few.l0, if_neg (by omega), List.drop_eq_nil_of_le (by omega)]; rfl
  | n + 1, k, l, i, hi, hl => by
    have hlt : i < l.length := by omega
    rw [show k + 1 + (n + 1) = (k + 1 + n) + 1 by omega, banksmanref10_Few.l0, if_pos (by omega), if_pos (by omega), rd24 hlt, w64 (by omega) (by omega)]
    rw [show ((i : Int) + 1) = ((i + 1 : Nat) : Int) by omega, few_l0 n k l (i + 1) (by omega) hl]
    rw [List.drop_eq_getElem_cons hlt, List.all_cons]
    by_cases h1 : l[i].f1.length ≤ 100
    · rw [if_neg (by omega), decide_eq_true h1]
      by_cases h2 : l[i].f2.length ≤ 100
      · rw [if_neg (by omega), decide_eq_true h2]; rfl
      · rw [if_pos (by omega), decide_eq_false h2]; rfl
    · rw [if_pos (by omega), decide_eq_false h1]; rfl
theorem few_f (k : Nat) (l : List S24) (hk : 102 ≤ k) : banksmanref10_Few.f k l = some (decide (l.length ≤ 100) && l.all fun y => decide (y.f1.length ≤ 100) && decide (y.f2.length ≤ 100)) := by
  unfold banksmanref10_Few.f
  by_cases h : l.length ≤ 100
  · rw [if_neg (by omega), decide_eq_true h, Bool.true_and]
    have := few_l0 l.length (k - 1 - l.length) l 0 (by omega) h
    rw [show k - 1 - l.length + 1 + l.length = k by omega] at this
    exact this
  · rw [if_pos (by omega), decide_eq_false h]; rfl
theorem merge_len (t : Int) : ∀ l : List S24, (mergeL t l).length ≤ l.length
  | [] => Nat.le_refl _
  | y :: l => by
    rw [mergeL]
    split
    · simp only [List.length_cons]; have := List.length_filter_le (fun z : S24 => !decide (z.f0 = t)) l; omega
    · simp only [List.length_cons]; have := merge_len t l; omega
theorem add_len (l : List S24) (x : S24) (most : Int) : (addL l x most).1.length ≤ l.length + 1 := by
  have h : (dropC x l ++ [x]).length ≤ l.length + 1 := by
    rw [List.length_append, List.length_singleton]
    have := List.length_filter_le (fun y : S24 => !coversB x y) l
    unfold dropC
    omega
  unfold addL
  split
  · simp
  · split
    · simp
    · split
      · exact Nat.le_trans (merge_len _ _) h
      · exact h
theorem add_f (l : List S24) (x : S24) (most : Int) (hl : l.length ≤ 100) (ha : (l.all fun y => decide (y.f1.length ≤ 100) && decide (y.f2.length ≤ 100)) = true) (hx : (decide (x.f1.length ≤ 100) && decide (x.f2.length ≤ 100)) = true) :
    span_Add.f l x.f0 x.f1 x.f2 x.f3 most = some (addL l x most) := by
  have ok : ∀ y : S24, (decide (y.f1.length ≤ 100) && decide (y.f2.length ≤ 100)) = true → okSp y = true := fun y hy => by
    unfold okSp
    simp only [Bool.and_eq_true, decide_eq_true_eq] at hy ⊢
    omega
  unfold span_Add.f
  rw [if_pos ?_]
  rw [Bool.and_eq_true, Bool.and_eq_true, List.all_eq_true]
  rw [List.all_eq_true] at ha
  exact ⟨decide_eq_true (by omega), fun y hy => ok y (ha y hy), ok _ hx⟩
end Go.Proofs.Ytomlhapehldlnaa.Pure
