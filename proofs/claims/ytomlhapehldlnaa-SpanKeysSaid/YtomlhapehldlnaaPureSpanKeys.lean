/- Proved: the law SpanKeys of banksmanlaw10 returns true for every input: a key is in two spans only if they meet, in one that another one covers only if it is in that, in none that is empty, and in Point of itself alone. No conditions. -/
import Derived.Test.YtomlhapehldlnaaLem10
import Derived.Test.YtomlhapehldlnaaPx54
namespace Go.Proofs.Ytomlhapehldlnaa.Pure
open Go.RowKit Go.Proofs.Ytomlhapehldlnaa.P Go.Proofs.YtomlhapehldlnaaW.PrintWords Go.Proofs.YtomlhapehldlnaaW.PrintLast
set_option linter.unusedVariables false
set_option linter.unusedSimpArgs false
theorem cmp_next : ∀ k o : List UInt8, Lib.compareBytes k o ≤ 0 → Lib.compareBytes o (k ++ [0]) < 0 → k = o
  | [], [], _, _ => rfl
  | [], y :: o, _, h => by
    exfalso
    simp only [List.nil_append] at h
    unfold Lib.compareBytes at h
    by_cases h1 : y < 0
    · exact absurd h1 (by simp)
    · by_cases h2 : (0 : UInt8) < y
      · simp [h1, h2] at h
      · simp only [h1, h2, if_false] at h
        cases o <;> simp [Lib.compareBytes] at h
  | x :: k, [], h, _ => by simp [Lib.compareBytes] at h
  | x :: k, y :: o, h1, h2 => by
    simp only [List.cons_append] at h2
    unfold Lib.compareBytes at h1 h2
    by_cases hxy : x < y
    · have : ¬ y < x := fun h => UInt8.lt_irrefl _ (UInt8.lt_trans hxy h)
      simp [hxy, this] at h2
    · by_cases hyx : y < x
      · simp [hxy, hyx] at h1
      · have : x = y := UInt8.le_antisymm (UInt8.not_lt.1 hyx) (UInt8.not_lt.1 hxy)
        subst this
        simp [UInt8.lt_irrefl] at h1 h2
        rw [cmp_next k o h1 h2]
theorem cmp_more : ∀ k : List UInt8, Lib.compareBytes k (k ++ [0]) < 0
  | [] => by decide
  | x :: k => by
    simp only [List.cons_append]
    unfold Lib.compareBytes
    simp [UInt8.lt_irrefl, cmp_more k]
theorem alone (t : Int) (key other : List Int) : inB ⟨t, key, key ++ [0], false⟩ t other = ((strOfNums key).toList == (strOfNums other).toList) := by
  rw [Go.Lib.strOfNums_toList, Go.Lib.strOfNums_toList, Bool.eq_iff_iff, inB_iff, beq_iff_eq]
  unfold InP le lt
  have e : Lib.bytesOf (key ++ [0]) = Lib.bytesOf key ++ [0] := by unfold Lib.bytesOf; rw [List.map_append]; rfl
  simp only [true_and, Bool.false_eq_true, false_or, e]
  constructor
  · rintro ⟨h1, h2⟩; exact cmp_next _ _ h1 h2
  · intro h
    rw [← h, cmp_self]
    exact ⟨by omega, cmp_more _⟩
theorem Point_f (t : Int) (key : List Int) (h : key.length ≤ 100) : span_Point.f t key = some (t, key, key ++ [0], false) := by
  unfold span_Point.f bytes_Clone.f
  rw [if_pos (by omega)]
  simp only [Option.bind_some]
  rw [if_pos (by omega)]
theorem SpanKeys : banksmanlaw10_SpanKeys.Pure := by
  intro a0 a1 a2 a3 b0 b1 b2 b3 t key other _ _ _ _ _ _ _ _ _
  unfold banksmanlaw10_SpanKeys.f
  obtain ⟨ra, ha⟩ : ∃ r, banksmanlaw10_short.f a0 a1 a2 a3 = some r := by unfold banksmanlaw10_short.f; split <;> exact ⟨_, rfl⟩
  obtain ⟨rb, hb⟩ : ∃ r, banksmanlaw10_short.f b0 b1 b2 b3 = some r := by unfold banksmanlaw10_short.f; split <;> exact ⟨_, rfl⟩
  rw [awake_f, ha, hb]
  simp only [Option.bind_some]
  by_cases hc : ra = true ∧ rb = true ∧ key.length ≤ 100 ∧ other.length ≤ 100
  · rw [if_pos hc]
    have hP := span_In_fM ⟨t, key, key ++ [0], false⟩ t other
    have hA := span_In_fM ⟨a0, a1, a2, a3⟩ t key
    have hB := span_In_fM ⟨b0, b1, b2, b3⟩ t key
    have h1 := Meets_f ⟨a0, a1, a2, a3⟩ ⟨b0, b1, b2, b3⟩
    have h2 := Meets_f ⟨b0, b1, b2, b3⟩ ⟨a0, a1, a2, a3⟩
    have h3 := span_Covers_f ⟨a0, a1, a2, a3⟩ ⟨b0, b1, b2, b3⟩
    have h4 := span_Covers_f ⟨a0, a1, a2, a3⟩ ⟨a0, a1, a2, a3⟩
    have h5 := span_Empty_f ⟨a0, a1, a2, a3⟩
    simp only at hP hA hB h1 h2 h3 h4 h5
    rw [Point_f t key hc.2.2.1]
    simp only [hA, hB, h1, h2, h3, h4, h5, hP, Option.bind_some, alone]
    generalize hav : (⟨a0, a1, a2, a3⟩ : S24) = a
    generalize hbv : (⟨b0, b1, b2, b3⟩ : S24) = b
    have f1 : inB a t key = true → inB b t key = true → meetsB a b = true := fun h1 h2 => by
      rw [inB_iff] at h1 h2
      exact (meetsB_iff _ _).2 ⟨key, by rw [h1.1]; exact h1, by rw [h1.1]; exact h2⟩
    have f2 : coversB a b = true → inB b t key = true → inB a t key = true := fun h1 h2 => (inB_iff _ _ _).2 (covers_in h1 ((inB_iff _ _ _).1 h2))
    have f3 : emptyB a = true → inB a t key = true → False := fun h1 h2 => by
      have h3 := (inB_iff _ _ _).1 h2
      have := (full_iff a).2 ⟨key, rfl, h3.2⟩
      rw [h1] at this; cases this
    rw [meets_comm b a, covers_self a]
    generalize inB a t key = ia at *
    generalize inB b t key = ib at *
    generalize meetsB a b = m at *
    generalize coversB a b = c at *
    generalize emptyB a = e at *
    cases ia <;> cases ib <;> cases m <;> cases c <;> cases e <;> simp at f1 f2 f3 ⊢
  · rw [if_neg hc]
end Go.Proofs.Ytomlhapehldlnaa.Pure
