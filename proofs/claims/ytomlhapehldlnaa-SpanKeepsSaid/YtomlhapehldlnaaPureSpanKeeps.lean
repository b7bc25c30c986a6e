/- Proved: the law SpanKeeps of banksmanlaw10 returns true for every input: behind Add each key that was in one of the spans, or in the new one, is in one, and no other one, unless its table became one span; and there are no more of that table than may be, if there were not. No conditions. -/
import Derived.Test.YtomlhapehldlnaaLemFew10
import Derived.Test.YtomlhapehldlnaaPx54
namespace Go.Proofs.Ytomlhapehldlnaa.Pure
open Go.RowKit Go.Proofs.Ytomlhapehldlnaa.P Go.Proofs.YtomlhapehldlnaaW.PrintWords Go.Proofs.YtomlhapehldlnaaW.PrintLast
set_option linter.unusedVariables false
set_option linter.unusedSimpArgs false
theorem keeps_l0 (X : S24) (most t : Int) (key : List Int) (u : Bool) (a : List S24) : ∀ (n k : Nat) (l : List S24) (was : Bool) (b i : Nat), i + n = l.length → b ≤ i → l.length ≤ 100 →
    banksmanlaw10_SpanKeeps.l0 (k + 1 + n) l most t key u a was b i X.f0 X.f1 X.f2 X.f3 =
    banksmanlaw10_SpanKeeps.l1 k most t key u a (was || (l.drop i).any fun y => inB y t key) ((b + manyOf X.f0 (l.drop i) : Nat) : Int) false 0 0 X.f0 X.f1 X.f2 X.f3
  | 0, k, l, was, b, i, hi, hb, hl => by
    rw [Nat.add_zero, banksmanlaw10_SpanKeeps.l0, if_neg (by omega), List.drop_eq_nil_of_le (by omega)]
    simp [manyOf]
  | n + 1, k, l, was, b, i, hi, hb, hl => by
    have hlt : i < l.length := by omega
    rw [show k + 1 + (n + 1) = (k + 1 + n) + 1 by omega, banksmanlaw10_SpanKeeps.l0, if_pos (by omega), rd24 hlt, w64 (by omega) (by omega), w64 (by omega) (by omega)]
    rw [show ((i : Int) + 1) = ((i + 1 : Nat) : Int) by omega, show ((b : Int) + 1) = ((b + 1 : Nat) : Int) by omega]
    rw [if_pos (show (0 : Int) ≤ (i : Int) by omega), span_In_fM, Option.bind_some]
    rw [List.drop_eq_getElem_cons hlt, List.any_cons, many_cons]
    have c1 := fun w => keeps_l0 X most t key u a n k l w (b + 1) (i + 1) (by omega) (by omega) hl
    have c0 := fun w => keeps_l0 X most t key u a n k l w b (i + 1) (by omega) (by omega) hl
    rw [c1, c1, c0, c0]
    by_cases h0 : l[i].f0 = X.f0
    · rw [if_pos h0, if_pos h0, if_pos h0, show b + 1 + manyOf X.f0 (l.drop (i + 1)) = b + (1 + manyOf X.f0 (l.drop (i + 1))) by omega]
      cases was <;> simp
    · rw [if_neg h0, if_neg h0, if_neg h0, Nat.zero_add]
      cases was <;> simp
theorem keeps_l1 (X : S24) (most t : Int) (key : List Int) (was : Bool) (before : Nat) : ∀ (n k : Nat) (l : List S24) (is : Bool) (b i : Nat), i + n = l.length → b ≤ i → l.length ≤ 101 →
    banksmanlaw10_SpanKeeps.l1 (k + 1 + n) most t key true l was before is b i X.f0 X.f1 X.f2 X.f3 =
    banksmanlaw10_SpanKeeps.l1 (k + 1) most t key true l was before (is || (l.drop i).any fun y => inB y t key) ((b + manyOf X.f0 (l.drop i) : Nat) : Int) l.length X.f0 X.f1 X.f2 X.f3
  | 0, k, l, is, b, i, hi, hb, hl => by
    have : i = l.length := by omega
    subst this
    rw [Nat.add_zero, List.drop_eq_nil_of_le (by omega)]
    simp [manyOf]
  | n + 1, k, l, is, b, i, hi, hb, hl => by
    have hlt : i < l.length := by omega
    rw [show k + 1 + (n + 1) = (k + 1 + n) + 1 by omega, banksmanlaw10_SpanKeeps.l1, if_pos (by omega), rd24 hlt, w64 (by omega) (by omega), w64 (by omega) (by omega)]
    rw [show ((i : Int) + 1) = ((i + 1 : Nat) : Int) by omega, show ((b : Int) + 1) = ((b + 1 : Nat) : Int) by omega]
    rw [if_pos (show (0 : Int) ≤ (i : Int) by omega), span_In_fM, Option.bind_some]
    rw [List.drop_eq_getElem_cons hlt, List.any_cons, many_cons]
    have c1 := fun w => keeps_l1 X most t key was before n k l w (b + 1) (i + 1) (by omega) (by omega) hl
    have c0 := fun w => keeps_l1 X most t key was before n k l w b (i + 1) (by omega) (by omega) hl
    rw [c1, c1, c0, c0]
    by_cases h0 : l[i].f0 = X.f0
    · rw [if_pos h0, if_pos h0, if_pos h0, show b + 1 + manyOf X.f0 (l.drop (i + 1)) = b + (1 + manyOf X.f0 (l.drop (i + 1))) by omega]
      cases is <;> simp
    · rw [if_neg h0, if_neg h0, if_neg h0, Nat.zero_add]
      cases is <;> simp
theorem keeps_end (X : S24) (k : Nat) (most t : Int) (key : List Int) (was is : Bool) (before many : Nat) (l : List S24)
    (h1 : was = true → is = true) (h2 : is = true → was = true ∨ (many = 1 ∧ t = X.f0)) (h3 : (before : Int) ≤ most → (many : Int) ≤ most) :
    banksmanlaw10_SpanKeeps.l1 (k + 1) most t key true l was before is many l.length X.f0 X.f1 X.f2 X.f3 = some true := by
  rw [banksmanlaw10_SpanKeeps.l1, if_neg (by omega)]
  have e : (if (before : Int) > most then some true else some (decide ((many : Int) ≤ most))) = some true := by
    by_cases h : (before : Int) > most
    · rw [if_pos h]
    · rw [if_neg h, decide_eq_true (h3 (by omega))]
  rw [e]
  by_cases hm : (many : Int) = 1
  · rw [if_pos hm, if_pos rfl]
    cases was
    · cases is
      · rfl
      · rcases h2 rfl with h | h
        · cases h
        · rw [if_neg (by decide), if_pos rfl, if_pos h.2]
    · rw [h1 rfl]; rfl
  · rw [if_neg hm, if_pos rfl]
    cases was
    · cases is
      · rfl
      · rcases h2 rfl with h | h
        · cases h
        · exact absurd (by omega) hm
    · rw [h1 rfl]; rfl
theorem keeps_j0 (X : S24) (k : Nat) (most t : Int) (key : List Int) (l : List S24) (hl : l.length ≤ 100) (ha : (l.all fun y => decide (y.f1.length ≤ 100) && decide (y.f2.length ≤ 100)) = true) (hx : (decide (X.f1.length ≤ 100) && decide (X.f2.length ≤ 100)) = true) :
    banksmanlaw10_SpanKeeps.j0 (k + 300) l most t key true false X.f0 X.f1 X.f2 X.f3 = some true := by
  rw [banksmanlaw10_SpanKeeps.j0, if_neg (by decide), add_f l X most hl ha hx, Option.bind_some]
  by_cases he : (addL l X most).2 = 0
  · rw [if_pos he, span_In_fM, Option.bind_some]
    have hlen := add_len l X most
    obtain ⟨g1, g2, g3⟩ := add_keeps l X most t key he
    have e0 := keeps_l0 X most t key true (addL l X most).1 l.length (k + 298 - l.length) l (inB X t key) 0 0 (by omega) (by omega) hl
    rw [show k + 298 - l.length + 1 + l.length = k + 299 by omega] at e0
    rw [show ((0 : Nat) : Int) = 0 from rfl] at e0
    rw [e0]
    have e1 := keeps_l1 X most t key (inB X t key || (l.drop 0).any fun y => inB y t key) (0 + manyOf X.f0 (l.drop 0)) (addL l X most).1.length (k + 297 - l.length - (addL l X most).1.length) (addL l X most).1 false 0 0 (by omega) (by omega) (by omega)
    rw [show k + 297 - l.length - (addL l X most).1.length + 1 + (addL l X most).1.length = k + 298 - l.length by omega] at e1
    rw [show ((0 : Nat) : Int) = 0 from rfl] at e1
    rw [e1]
    rw [List.drop_zero, List.drop_zero, Nat.zero_add, Nat.zero_add, Bool.false_or]
    refine keeps_end X _ most t key _ _ _ _ _ (fun h => ?_) (fun h => ?_) (fun h => g3 h)
    · rw [Bool.or_eq_true, inB_iff, ← anyIn_iff] at h
      exact (anyIn_iff _ _ _).1 (g1 h)
    · rw [← anyIn_iff] at h
      rw [Bool.or_eq_true, inB_iff, ← anyIn_iff]
      exact g2 h
  · rw [if_neg he]
theorem SpanKeeps : banksmanlaw10_SpanKeeps.Pure := by
  intro l a0 a1 a2 a3 most t key _ _ _ _ _ _ _
  refine ⟨300, ?_⟩
  unfold banksmanlaw10_SpanKeeps.f
  have e1 : ∀ y, banksmanlaw10_SpanKeeps.j0 300 l most t key true true a0 a1 a2 y = some true := fun y => by rw [banksmanlaw10_SpanKeeps.j0, if_pos rfl]
  rw [awake_f, few_f _ _ (by omega), Option.bind_some, Option.bind_some]
  by_cases hf : (decide (l.length ≤ 100) && l.all fun y => decide (y.f1.length ≤ 100) && decide (y.f2.length ≤ 100)) = true
  · rw [if_pos hf]
    rw [Bool.and_eq_true, decide_eq_true_eq] at hf
    have hs : banksmanlaw10_short.f a0 a1 a2 a3 = some (decide (a1.length ≤ 100) && decide (a2.length ≤ 100)) := by
      unfold banksmanlaw10_short.f
      by_cases h : a1.length ≤ 100
      · rw [if_pos (by omega), decide_eq_true h, Bool.true_and]
        congr 1
        exact decide_eq_decide.2 (by omega)
      · rw [if_neg (by omega), decide_eq_false h]; rfl
    rw [hs, Option.bind_some]
    by_cases hx : (decide (a1.length ≤ 100) && decide (a2.length ≤ 100)) = true
    · rw [if_pos hx]
      cases decide ((key.length : Int) > 100) with
      | true => exact e1 a3
      | false => exact keeps_j0 ⟨a0, a1, a2, a3⟩ 0 most t key l hf.1 hf.2 hx
    · rw [if_neg hx, e1]
  · rw [if_neg hf, e1]
end Go.Proofs.Ytomlhapehldlnaa.Pure
