/- Proved: the law SpanTells of banksmanlaw10 returns true for every input: whether any span may be, that of any key, and of a table, whether any is empty, has any key, meets, and covers any other one, are what the document says. No conditions. -/
import Derived.Test.YtomlhapehldlnaaLemRef10
import Derived.Test.YtomlhapehldlnaaPx47
namespace Go.Proofs.Ytomlhapehldlnaa.Pure
open Go.RowKit Go.Proofs.Ytomlhapehldlnaa.P Go.Proofs.YtomlhapehldlnaaW.PrintWords Go.Proofs.YtomlhapehldlnaaW.PrintLast
set_option linter.unusedVariables false
set_option linter.unusedSimpArgs false
theorem rMeets_b (a b : S24) : meetsB a b = (decide (a.f0 = b.f0) && (inB a b.f0 b.f1 && inB b b.f0 b.f1 || inB b a.f0 a.f1 && inB a a.f0 a.f1)) := by
  rw [Bool.eq_iff_iff, meetsB_iff]
  simp only [Bool.and_eq_true, Bool.or_eq_true, decide_eq_true_eq, inB_iff]
  constructor
  · rintro ⟨k, h1, h2⟩
    refine ⟨h2.1.symm, ?_⟩
    rcases le_total a.f1 b.f1 with h | h
    · refine .inl ⟨⟨h2.1.symm, h, ?_⟩, rfl, le_refl _, ?_⟩
      · rcases h1.2.2 with h3 | h3
        · exact .inl h3
        · exact .inr (lt_of_le_lt h2.2.1 h3)
      · rcases h2.2.2 with h3 | h3
        · exact .inl h3
        · exact .inr (lt_of_le_lt h2.2.1 h3)
    · refine .inr ⟨⟨h2.1, h, ?_⟩, rfl, le_refl _, ?_⟩
      · rcases h2.2.2 with h3 | h3
        · exact .inl h3
        · exact .inr (lt_of_le_lt h1.2.1 h3)
      · rcases h1.2.2 with h3 | h3
        · exact .inl h3
        · exact .inr (lt_of_le_lt h1.2.1 h3)
  · rintro ⟨e, ⟨h1, h2⟩ | ⟨h1, h2⟩⟩
    · exact ⟨b.f1, by rw [e]; exact h1, by rw [e]; exact h2⟩
    · exact ⟨a.f1, h2, h1⟩
theorem rMeets_f (a b : S24) : banksmanref10_Meets.f a.f0 a.f1 a.f2 a.f3 b.f0 b.f1 b.f2 b.f3 = some (meetsB a b) := by
  unfold banksmanref10_Meets.f
  simp only [rIn_f, Option.bind_some]
  rw [rMeets_b]
  by_cases h : a.f0 = b.f0
  · rw [if_pos h, decide_eq_true h]
    cases inB a b.f0 b.f1 <;> cases inB b b.f0 b.f1 <;> cases inB b a.f0 a.f1 <;> cases inB a a.f0 a.f1 <;> rfl
  · rw [if_neg h, decide_eq_false h]; rfl
theorem Point_ft (t : Int) (key : List Int) (h : key.length ≤ 100) : span_Point.f t key = some (t, key, key ++ [0], false) := by
  unfold span_Point.f bytes_Clone.f
  rw [if_pos (by omega)]
  simp only [Option.bind_some]
  rw [if_pos (by omega)]
theorem rPoint_f (t : Int) (key : List Int) (h : key.length ≤ 100) : banksmanref10_Point.f t key = some (t, key, key ++ [0], false) := by
  unfold banksmanref10_Point.f
  simp only [Option.bind_some, List.length_nil, List.nil_append, Nat.zero_add]
  rw [if_pos (by omega), if_pos (by omega), if_pos (by omega)]
theorem tells_j2 (k : Nat) (a b : S24) : banksmanlaw10_SpanTells.j2 (k + 1) true true true a.f0 a.f1 a.f2 a.f3 b.f0 b.f1 b.f2 b.f3 = some true := by
  rw [banksmanlaw10_SpanTells.j2]
  rw [Meets_f, rMeets_f, span_Covers_f, rCovers_f]
  simp
theorem tells_j1 (k : Nat) (t : Int) (key : List Int) (a b : S24) : banksmanlaw10_SpanTells.j1 (k + 2) t key true true a.f0 a.f1 a.f2 a.f3 b.f0 b.f1 b.f2 b.f3 = some true := by
  rw [banksmanlaw10_SpanTells.j1]
  rw [span_Check_f, rCheck_f, span_Empty_f, rEmpty_f, span_In_fM, rIn_f]
  simp [tells_j2]
theorem tells_j0 (k : Nat) (t : Int) (key : List Int) (hk : key.length ≤ 100) (a b : S24) : banksmanlaw10_SpanTells.j0 (k + 3) t key true false a.f0 a.f1 a.f2 a.f3 b.f0 b.f1 b.f2 b.f3 = some true := by
  rw [banksmanlaw10_SpanTells.j0]
  rw [if_neg (by decide), Point_ft t key hk, rPoint_f t key hk]
  simp only [Option.bind_some, One_refl]
  have e : span_All.f t = some (t, [], [], true) := rfl
  rw [if_pos trivial, e]
  simp only [Option.bind_some, One_refl]
  exact tells_j1 k t key a b
theorem SpanTells : banksmanlaw10_SpanTells.Pure := by
  intro a0 a1 a2 a3 b0 b1 b2 b3 t key _ _ _ _ _ _ _ _
  refine ⟨3, ?_⟩
  unfold banksmanlaw10_SpanTells.f
  have e1 : banksmanlaw10_SpanTells.j0 3 t key true true a0 a1 a2 a3 b0 b1 b2 b3 = some true := rfl
  obtain ⟨ra, ha⟩ : ∃ r, banksmanlaw10_short.f a0 a1 a2 a3 = some r := by unfold banksmanlaw10_short.f; split <;> exact ⟨_, rfl⟩
  obtain ⟨rb, hb⟩ : ∃ r, banksmanlaw10_short.f b0 b1 b2 b3 = some r := by unfold banksmanlaw10_short.f; split <;> exact ⟨_, rfl⟩
  rw [awake_f, ha, hb]
  simp only [Option.bind_some]
  cases ra with
  | false => rw [if_neg (by decide), e1]
  | true =>
    cases rb with
    | false => rw [if_pos rfl, if_neg (by decide), e1]
    | true =>
      rw [if_pos rfl, if_pos rfl]
      by_cases hk : (key.length : Int) > 100
      · rw [decide_eq_true hk, e1]
      · rw [decide_eq_false hk]
        exact tells_j0 0 t key (by omega) ⟨a0, a1, a2, a3⟩ ⟨b0, b1, b2, b3⟩
end Go.Proofs.Ytomlhapehldlnaa.Pure
