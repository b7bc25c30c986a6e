/- Proved: the law SpanAdds of banksmanlaw10 returns true for every input: any spans with any more are what the document says, or its error. No conditions. -/
import Derived.Test.YtomlhapehldlnaaLemFew10
import Derived.Test.YtomlhapehldlnaaLemRef10
import Derived.Test.YtomlhapehldlnaaPx52
namespace Go.Proofs.Ytomlhapehldlnaa.Pure
open Go.RowKit Go.Proofs.Ytomlhapehldlnaa.P Go.Proofs.YtomlhapehldlnaaW.PrintWords Go.Proofs.YtomlhapehldlnaaW.PrintLast
set_option linter.unusedVariables false
set_option linter.unusedSimpArgs false
theorem may_l0 : ∀ (n k : Nat) (l : List S24) (i : Nat), i + n = l.length → l.length ≤ 200 → banksmanref10_may.l0 (k + 1 + n) l i = some ((l.drop i).all checkB)
  | 0, k, l, i, hi, hl => by
    rw [Nat.add_zero, banksmanref10_may.l0, if_neg (by omega), List.drop_eq_nil_of_le (by omega)]; rfl
  | n + 1, k, l, i, hi, hl => by
    have hlt : i < l.length := by omega
    rw [show k + 1 + (n + 1) = (k + 1 + n) + 1 by omega, banksmanref10_may.l0, if_pos (by omega), if_pos (by omega), rd24 hlt, w64 (by omega) (by omega)]
    rw [show ((i : Int) + 1) = ((i + 1 : Nat) : Int) by omega, may_l0 n k l (i + 1) (by omega) hl, rCheck_f, Option.bind_some]
    rw [List.drop_eq_getElem_cons hlt, List.all_cons]
    cases checkB l[i] <;> rfl
theorem may_f (k : Nat) (l : List S24) (hl : l.length ≤ 200) (hk : 202 ≤ k) : banksmanref10_may.f k l = some (l.all checkB) := by
  unfold banksmanref10_may.f
  have := may_l0 l.length (k - 1 - l.length) l 0 (by omega) hl
  rw [show k - 1 - l.length + 1 + l.length = k by omega] at this
  exact this
theorem copy_l0 : ∀ (n k : Nat) (l out : List S24) (i : Nat), i + n = l.length → out.length ≤ i → l.length ≤ 200 → l.all okSp = true → banksmanref10_Copy.l0 (k + 1 + n) l out i = some (out ++ l.drop i)
  | 0, k, l, out, i, hi, ho, hl, hok => by
    rw [Nat.add_zero, banksmanref10_Copy.l0, if_neg (by omega), List.drop_eq_nil_of_le (by omega), List.append_nil]
  | n + 1, k, l, out, i, hi, ho, hl, hok => by
    have hlt : i < l.length := by omega
    have hy := List.all_eq_true.1 hok l[i] (List.getElem_mem hlt)
    unfold okSp at hy
    simp only [Bool.and_eq_true, decide_eq_true_eq] at hy
    rw [show k + 1 + (n + 1) = (k + 1 + n) + 1 by omega, banksmanref10_Copy.l0, if_pos (by omega), if_pos (by omega), rd24 hlt, w64 (by omega) (by omega)]
    simp only [Option.bind_some, List.length_nil, Nat.zero_add, List.nil_append]
    rw [if_pos hy.1, if_pos hy.2, if_pos (by omega)]
    rw [show ((i : Int) + 1) = ((i + 1 : Nat) : Int) by omega, copy_l0 n k l _ (i + 1) (by omega) (by rw [List.length_append, List.length_singleton]; omega) hl hok]
    rw [List.drop_eq_getElem_cons hlt, List.append_assoc, List.singleton_append]
theorem copy_f (k : Nat) (l : List S24) (hl : l.length ≤ 200) (hok : l.all okSp = true) (hk : 202 ≤ k) : banksmanref10_Copy.f k l = some l := by
  unfold banksmanref10_Copy.f
  have := copy_l0 l.length (k - 1 - l.length) l [] 0 (by omega) (by simp) hl hok
  rw [show k - 1 - l.length + 1 + l.length = k by omega] at this
  exact this
theorem radd_l2 (X : S24) : ∀ (n k : Nat) (l acc : List S24) (done : Bool) (i : Nat), i + n = l.length → acc.length ≤ i → l.length ≤ 200 →
    banksmanref10_Add.l2 (k + 1 + n) l acc done i X.f0 X.f1 X.f2 X.f3 = (banksmanref10_Copy.f k (acc ++ (if done = true then (l.drop i).filter (fun z => !decide (z.f0 = X.f0)) else mergeL X.f0 (l.drop i)))).bind fun t => some (t, 0)
  | 0, k, l, acc, done, i, hi, ha, hl => by
    rw [Nat.add_zero, banksmanref10_Add.l2, if_neg (by omega), List.drop_eq_nil_of_le (by omega)]
    cases done <;> simp [mergeL]
  | n + 1, k, l, acc, done, i, hi, ha, hl => by
    have hlt : i < l.length := by omega
    rw [show k + 1 + (n + 1) = (k + 1 + n) + 1 by omega, banksmanref10_Add.l2, if_pos (by omega), if_pos (by omega), rd24 hlt, w64 (by omega) (by omega)]
    simp only [Option.bind_some, List.length_singleton]
    rw [show ((i : Int) + 1) = ((i + 1 : Nat) : Int) by omega, if_pos (show acc.length + 1 < 2199023255552 by omega), if_pos (show acc.length + 1 < 2199023255552 by omega)]
    rw [radd_l2 X n k l acc done (i + 1) (by omega) (by omega) hl]
    rw [radd_l2 X n k l (acc ++ [_]) true (i + 1) (by omega) (by rw [List.length_append, List.length_singleton]; omega) hl]
    rw [radd_l2 X n k l (acc ++ [_]) done (i + 1) (by omega) (by rw [List.length_append, List.length_singleton]; omega) hl]
    rw [List.drop_eq_getElem_cons hlt]
    by_cases h : l[i].f0 = X.f0
    · rw [if_pos h]
      cases done
      · rw [if_neg (by decide), if_pos rfl, if_neg (by decide), mergeL, if_pos h, List.append_assoc, List.singleton_append]; rfl
      · rw [if_pos rfl, if_pos rfl, if_pos rfl, List.filter_cons_of_neg (by simp [h])]
    · rw [if_neg h]
      cases done
      · rw [if_neg (by decide), if_neg (by decide), mergeL, if_neg h, List.append_assoc, List.singleton_append]
      · rw [if_pos rfl, if_pos rfl, List.filter_cons_of_pos (by simp [h]), List.append_assoc, List.singleton_append]
theorem radd_l1 (X : S24) (most : Int) : ∀ (n k : Nat) (l : List S24) (b i : Nat), i + n = l.length → b ≤ i → l.length ≤ 200 →
    banksmanref10_Add.l1 (k + 1 + n) most l b i X.f0 X.f1 X.f2 X.f3 = if ((b + manyOf X.f0 (l.drop i) : Nat) : Int) ≤ most then (banksmanref10_Copy.f k l).bind fun t => some (t, 0) else banksmanref10_Add.l2 k l [] false 0 X.f0 X.f1 X.f2 X.f3
  | 0, k, l, b, i, hi, hb, hl => by
    rw [Nat.add_zero, banksmanref10_Add.l1, if_neg (by omega), List.drop_eq_nil_of_le (by omega)]
    rfl
  | n + 1, k, l, b, i, hi, hb, hl => by
    have hlt : i < l.length := by omega
    rw [show k + 1 + (n + 1) = (k + 1 + n) + 1 by omega, banksmanref10_Add.l1, if_pos (by omega), if_pos (by omega), rd24 hlt, w64 (by omega) (by omega), w64 (by omega) (by omega)]
    rw [show ((i : Int) + 1) = ((i + 1 : Nat) : Int) by omega, show ((b : Int) + 1) = ((b + 1 : Nat) : Int) by omega]
    rw [radd_l1 X most n k l (b + 1) (i + 1) (by omega) (by omega) hl, radd_l1 X most n k l b (i + 1) (by omega) (by omega) hl]
    rw [List.drop_eq_getElem_cons hlt, many_cons]
    by_cases h0 : l[i].f0 = X.f0
    · rw [if_pos h0, if_pos h0, show b + 1 + manyOf X.f0 (l.drop (i + 1)) = b + (1 + manyOf X.f0 (l.drop (i + 1))) by omega]
    · rw [if_neg h0, if_neg h0, Nat.zero_add]
theorem radd_l0 (X : S24) (most : Int) : ∀ (n k : Nat) (l out : List S24) (i : Nat), i + n = l.length → out.length ≤ i → l.length ≤ 100 → l.all okSp = true → 202 ≤ k →
    banksmanref10_Add.l0 (k + 1 + n) l most out i X.f0 X.f1 X.f2 X.f3 = if ((l.drop i).any fun y => coversB y X) = true then some (l, 0) else banksmanref10_Add.l1 k most (out ++ (dropC X (l.drop i) ++ [X])) 0 0 X.f0 X.f1 X.f2 X.f3
  | 0, k, l, out, i, hi, ho, hl, hok, hk => by
    rw [Nat.add_zero, banksmanref10_Add.l0, if_neg (by omega), List.drop_eq_nil_of_le (by omega)]
    simp only [Option.bind_some, List.length_singleton]
    rw [if_pos (by omega), if_neg (by simp)]
    rfl
  | n + 1, k, l, out, i, hi, ho, hl, hok, hk => by
    have hlt : i < l.length := by omega
    rw [show k + 1 + (n + 1) = (k + 1 + n) + 1 by omega, banksmanref10_Add.l0, if_pos (by omega), if_pos (by omega), rd24 hlt, w64 (by omega) (by omega)]
    simp only [Option.bind_some, List.length_singleton]
    rw [show ((i : Int) + 1) = ((i + 1 : Nat) : Int) by omega, if_pos (show out.length + 1 < 2199023255552 by omega)]
    rw [rCovers_f, rCovers_f, Option.bind_some, Option.bind_some, copy_f _ l (by omega) hok (by omega), Option.bind_some]
    rw [radd_l0 X most n k l out (i + 1) (by omega) (by omega) hl hok hk]
    rw [radd_l0 X most n k l (out ++ [_]) (i + 1) (by omega) (by rw [List.length_append, List.length_singleton]; omega) hl hok hk]
    rw [List.drop_eq_getElem_cons hlt, List.any_cons]
    unfold dropC
    cases h1 : coversB l[i] X with
    | true => simp
    | false =>
      rw [if_neg (by decide), Bool.false_or]
      cases h2 : coversB X l[i] with
      | true => rw [if_pos rfl, List.filter_cons_of_neg (by simp [h2])]
      | false => rw [if_neg (by decide), List.filter_cons_of_pos (by simp [h2]), List.append_assoc, List.singleton_append, List.cons_append]
theorem all_drop (X : S24) (l : List S24) (hok : l.all okSp = true) (hx : okSp X = true) : (dropC X l ++ [X]).all okSp = true := by
  rw [List.all_eq_true] at hok ⊢
  intro y hy
  rcases List.mem_append.1 hy with hy | hy
  · exact hok y (List.mem_filter.1 hy).1
  · rw [List.mem_singleton] at hy; subst hy; exact hx
theorem radd_f (X : S24) (most : Int) (l : List S24) (k : Nat) (hl : l.length ≤ 100) (hok : l.all okSp = true) (hx : okSp X = true) (hk : 1000 ≤ k) :
    banksmanref10_Add.f k l X.f0 X.f1 X.f2 X.f3 most = some (addL l X most) := by
  unfold banksmanref10_Add.f addL
  simp only [Option.bind_some, List.length_nil, Nat.zero_add, List.nil_append, List.length_singleton]
  rw [if_pos (by omega), if_pos (by omega), may_f k _ (by rw [List.length_append, List.length_singleton]; omega) (by omega), Option.bind_some]
  obtain ⟨m, rfl⟩ : ∃ m, k = m + 1 := ⟨k - 1, by omega⟩
  have hbad : ∀ a b c d, banksmanref10_Add.j0 (m + 1) l most true a b c d = some (l, 1) := fun a b c d => by
    rw [banksmanref10_Add.j0, if_pos rfl, copy_f m l (by omega) hok (by omega), Option.bind_some]
  rw [hbad]
  have hall : ((l ++ [X]).all checkB) = (l.all checkB && checkB X) := by rw [List.all_append, List.all_cons, List.all_nil, Bool.and_true]
  have hany : (l.any fun y => !checkB y) = !l.all checkB := by rw [List.not_all_eq_any_not]
  have hgood : banksmanref10_Add.j0 (m + 1) l most false X.f0 X.f1 X.f2 X.f3 = some (if (emptyB X || l.any fun y => coversB y X) = true then (l, 0)
      else if most < ((placesOf X.f0 (dropC X l ++ [X]) 0).length : Int) then (mergeL X.f0 (dropC X l ++ [X]), 0) else (dropC X l ++ [X], 0)) := by
    rw [banksmanref10_Add.j0, if_neg (by decide), rEmpty_f, Option.bind_some, copy_f m l (by omega) hok (by omega), Option.bind_some]
    cases he : emptyB X with
    | true => rfl
    | false =>
      rw [if_neg (by decide), Bool.false_or]
      have e := radd_l0 X most l.length (m - 1 - l.length) l [] 0 (by omega) (by simp) hl hok (by omega)
      rw [show m - 1 - l.length + 1 + l.length = m by omega, List.drop_zero, List.nil_append, show ((0 : Nat) : Int) = 0 from rfl] at e
      rw [e]
      by_cases hc : (l.any fun y => coversB y X) = true
      · rw [if_pos hc, if_pos hc]
      · rw [if_neg hc, if_neg hc]
        have hlen : (dropC X l ++ [X]).length ≤ l.length + 1 := by
          rw [List.length_append, List.length_singleton]
          have := List.length_filter_le (fun y : S24 => !coversB X y) l
          unfold dropC
          omega
        have hok2 := all_drop X l hok hx
        have e1 := radd_l1 X most (dropC X l ++ [X]).length (m - 1 - l.length - 1 - (dropC X l ++ [X]).length) (dropC X l ++ [X]) 0 0 (by omega) (by omega) (by omega)
        rw [show m - 1 - l.length - 1 - (dropC X l ++ [X]).length + 1 + (dropC X l ++ [X]).length = m - 1 - l.length by omega, show ((0 : Nat) : Int) = 0 from rfl, List.drop_zero, Nat.zero_add] at e1
        rw [e1, len_places]
        by_cases hm : (manyOf X.f0 (dropC X l ++ [X]) : Int) ≤ most
        · rw [if_pos hm, copy_f _ _ (by omega) hok2 (by omega), Option.bind_some, if_neg (by unfold manyOf at hm; omega)]
        · rw [if_neg hm, if_pos (by unfold manyOf at hm; omega)]
          have e2 := radd_l2 X (dropC X l ++ [X]).length (m - 1 - l.length - 1 - (dropC X l ++ [X]).length - 1 - (dropC X l ++ [X]).length) (dropC X l ++ [X]) [] false 0 (by omega) (by simp) (by omega)
          rw [show m - 1 - l.length - 1 - (dropC X l ++ [X]).length - 1 - (dropC X l ++ [X]).length + 1 + (dropC X l ++ [X]).length = m - 1 - l.length - 1 - (dropC X l ++ [X]).length by omega, show ((0 : Nat) : Int) = 0 from rfl, List.drop_zero, List.nil_append, if_neg (by decide)] at e2
          have hml := merge_len X.f0 (dropC X l ++ [X])
          have hok3 : (mergeL X.f0 (dropC X l ++ [X])).all okSp = true := by
            rw [List.all_eq_true] at hok2 ⊢
            intro y hy
            rcases mem_merge _ _ y hy with h | h
            · subst h; rfl
            · exact hok2 y h
          rw [e2, copy_f _ _ (by omega) hok3 (by omega), Option.bind_some]
  rw [hall, hany]
  cases h1 : l.all checkB
  · simp
  · cases h2 : checkB X
    · simp
    · by_cases h3 : most < 1
      · simp [h3]
      · by_cases h4 : most > 100
        · have h4' : 100 < most := h4
          rw [if_pos (by decide), if_neg h3, decide_eq_true h4, hbad]
          simp
        · have h4' : ¬ 100 < most := h4
          rw [if_pos (by decide), if_neg h3, decide_eq_false h4, hgood, decide_eq_false h3]
          rfl
theorem same_l0 : ∀ (n k : Nat) (l : List S24) (i : Nat), i + n = l.length → l.length ≤ 200 → banksmanref10_Same.l0 (k + 1 + n) l l i = some true
  | 0, k, l, i, hi, hl => by rw [Nat.add_zero, banksmanref10_Same.l0, if_neg (by omega)]
  | n + 1, k, l, i, hi, hl => by
    have hlt : i < l.length := by omega
    rw [show k + 1 + (n + 1) = (k + 1 + n) + 1 by omega, banksmanref10_Same.l0, if_pos (by omega), if_pos (by omega), if_pos (by omega), One_refl, Option.bind_some, if_pos rfl, w64 (by omega) (by omega)]
    rw [show ((i : Int) + 1) = ((i + 1 : Nat) : Int) by omega, same_l0 n k l (i + 1) (by omega) hl]
theorem same_f (k : Nat) (l : List S24) (hl : l.length ≤ 200) (hk : 202 ≤ k) : banksmanref10_Same.f k l l = some true := by
  unfold banksmanref10_Same.f
  rw [if_pos rfl]
  have := same_l0 l.length (k - 1 - l.length) l 0 (by omega) hl
  rw [show k - 1 - l.length + 1 + l.length = k by omega] at this
  exact this
theorem SpanAdds : banksmanlaw10_SpanAdds.Pure := by
  intro l a0 a1 a2 a3 most _ _ _ _ _
  refine ⟨1100, ?_⟩
  unfold banksmanlaw10_SpanAdds.f
  have e1 : ∀ y, banksmanlaw10_SpanAdds.j0 1100 l most true true a0 a1 a2 y = some true := fun y => by rw [banksmanlaw10_SpanAdds.j0, if_pos rfl]
  rw [awake_f, few_f _ _ (by omega), Option.bind_some, Option.bind_some]
  by_cases hf : (decide (l.length ≤ 100) && l.all fun y => decide (y.f1.length ≤ 100) && decide (y.f2.length ≤ 100)) = true
  · rw [if_pos hf]
    rw [Bool.and_eq_true, decide_eq_true_eq] at hf
    have hs : banksmanlaw10_short.f a0 a1 a2 a3 = some (decide (a1.length ≤ 100) && decide (a2.length ≤ 100)) := by
      unfold banksmanlaw10_short.f
      by_cases h : a1.length ≤ 100
      · rw [if_pos (by omega), decide_eq_true h, Bool.true_and]
        congr 1
        exact decide_eq_decide.2 (by omega)
      · rw [if_neg (by omega), decide_eq_false h]; rfl
    rw [hs, Option.bind_some]
    cases hx : (decide (a1.length ≤ 100) && decide (a2.length ≤ 100)) with
    | false => exact e1 a3
    | true =>
      have ok : ∀ y : S24, (decide (y.f1.length ≤ 100) && decide (y.f2.length ≤ 100)) = true → okSp y = true := fun y hy => by
        unfold okSp
        simp only [Bool.and_eq_true, decide_eq_true_eq] at hy ⊢
        omega
      have hok : l.all okSp = true := List.all_eq_true.2 fun y hy => ok y (List.all_eq_true.1 hf.2 y hy)
      have ha := add_f l ⟨a0, a1, a2, a3⟩ most hf.1 hf.2 hx
      have hr := radd_f ⟨a0, a1, a2, a3⟩ most l 1099 hf.1 hok (ok _ hx) (by omega)
      simp only at ha hr
      rw [banksmanlaw10_SpanAdds.j0, Bool.not_true, if_neg (by decide), ha, Option.bind_some, hr, Option.bind_some]
      have hlen := add_len l ⟨a0, a1, a2, a3⟩ most
      rw [same_f _ _ (by omega) (by omega), Option.bind_some, if_pos rfl, if_pos rfl, beq_self_eq_true]
  · rw [if_neg hf, e1]
end Go.Proofs.Ytomlhapehldlnaa.Pure
