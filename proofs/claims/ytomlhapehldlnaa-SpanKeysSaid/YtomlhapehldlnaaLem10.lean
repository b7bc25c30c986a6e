import Derived.Test.YtomlhapehldlnaaPx1
import Derived.Test.YtomlhapehldlnaaPx39
import Derived.Test.YtomlhapehldlnaaPx41
import Derived.Laws.Cover1
namespace Go.Proofs.Ytomlhapehldlnaa.Pure
open Go.RowKit Go.Proofs.Ytomlhapehldlnaa.P Go.Proofs.YtomlhapehldlnaaW.PrintWords Go.Proofs.YtomlhapehldlnaaW.PrintLast
set_option linter.unusedVariables false
set_option linter.unusedSimpArgs false

/-! comparing -/
theorem cmp_neg : ∀ a b : List UInt8, Lib.compareBytes b a = - Lib.compareBytes a b
  | [], [] => rfl
  | [], _ :: _ => rfl
  | _ :: _, [] => rfl
  | x :: a, y :: b => by
    have ih := cmp_neg a b
    unfold Lib.compareBytes
    by_cases h : x < y
    · have : ¬ y < x := fun h2 => UInt8.lt_irrefl _ (UInt8.lt_trans h h2)
      simp [h, this]
    · by_cases h2 : y < x
      · simp [h, h2]
      · simp [h, h2, ih]
def le (a b : List Int) : Prop := Lib.compareBytes (Lib.bytesOf a) (Lib.bytesOf b) ≤ 0
def lt (a b : List Int) : Prop := Lib.compareBytes (Lib.bytesOf a) (Lib.bytesOf b) < 0
theorem lt_iff (a b : List Int) : lt a b ↔ ¬ le b a := by
  unfold lt le
  have := cmp_neg (Lib.bytesOf a) (Lib.bytesOf b)
  omega
theorem cmp_trans : ∀ a b c : List UInt8, Lib.compareBytes a b ≤ 0 → Lib.compareBytes b c ≤ 0 → Lib.compareBytes a c ≤ 0
  | [], b, [], _, _ => by simp [Lib.compareBytes]
  | [], b, _ :: _, _, _ => by simp [Lib.compareBytes]
  | x :: a, [], c, h, _ => by simp [Lib.compareBytes] at h
  | x :: a, y :: b, [], _, h => by simp [Lib.compareBytes] at h
  | x :: a, y :: b, z :: c, h1, h2 => by
    unfold Lib.compareBytes at h1 h2 ⊢
    by_cases hxy : x < y
    · by_cases hyz : y < z
      · simp [UInt8.lt_trans hxy hyz]
      · by_cases hzy : z < y
        · simp [hzy, hyz] at h2
        · have : y = z := UInt8.le_antisymm (UInt8.not_lt.1 hzy) (UInt8.not_lt.1 hyz)
          subst this
          simp [hxy]
    · by_cases hyx : y < x
      · simp [hxy, hyx] at h1
      · have : x = y := UInt8.le_antisymm (UInt8.not_lt.1 hyx) (UInt8.not_lt.1 hxy)
        subst this
        by_cases hyz : x < z
        · simp [hyz]
        · by_cases hzy : z < x
          · simp [hzy, hyz] at h2
          · simp [hyz, hzy, UInt8.lt_irrefl] at h1 h2 ⊢
            exact cmp_trans a b c h1 h2
theorem le_trans {a b c : List Int} (h1 : le a b) (h2 : le b c) : le a c := cmp_trans _ _ _ h1 h2
theorem cmp_self : ∀ a : List UInt8, Lib.compareBytes a a = 0
  | [] => rfl
  | x :: a => by unfold Lib.compareBytes; simp [UInt8.lt_irrefl, cmp_self a]
theorem le_refl (a : List Int) : le a a := by unfold le; rw [cmp_self]; omega
theorem lt_le {a b : List Int} (h : lt a b) : le a b := by unfold lt at h; unfold le; omega
theorem lt_of_lt_le {a b c : List Int} (h1 : lt a b) (h2 : le b c) : lt a c := by
  rw [lt_iff] at h1 ⊢
  exact fun h => h1 (le_trans h2 h)
theorem lt_of_le_lt {a b c : List Int} (h1 : le a b) (h2 : lt b c) : lt a c := by
  rw [lt_iff] at h2 ⊢
  exact fun h => h2 (le_trans h h1)
/-! what has a key -/
def InP (x : S24) (t : Int) (k : List Int) : Prop := x.f0 = t ∧ le x.f1 k ∧ (x.f3 = true ∨ lt k x.f2)
theorem inB_iff (x : S24) (t : Int) (k : List Int) : inB x t k = true ↔ InP x t k := by
  unfold inB InP le lt
  simp only [Bool.and_eq_true, Bool.or_eq_true, decide_eq_true_eq]
theorem emptyB_iff (x : S24) : emptyB x = true ↔ x.f3 = false ∧ le x.f2 x.f1 := by
  unfold emptyB le
  simp only [Bool.and_eq_true, Bool.not_eq_true', decide_eq_true_eq]
theorem full_iff (x : S24) : emptyB x = false ↔ ∃ k, InP x x.f0 k := by
  constructor
  · intro h
    refine ⟨x.f1, rfl, le_refl _, ?_⟩
    by_cases h3 : x.f3 = true
    · exact .inl h3
    · refine .inr ((lt_iff _ _).2 fun hle => ?_)
      have := (emptyB_iff x).2 ⟨by simpa using h3, hle⟩
      rw [h] at this
      cases this
  · rintro ⟨k, _, h1, h2⟩
    by_cases he : emptyB x = true
    · obtain ⟨h3, h4⟩ := (emptyB_iff x).1 he
      rcases h2 with h2 | h2
      · rw [h3] at h2; cases h2
      · exact absurd (le_trans h4 h1) ((lt_iff _ _).1 h2)
    · simpa using he
theorem coversB_iff (x y : S24) : coversB x y = true ↔ emptyB y = true ∨ (x.f0 = y.f0 ∧ le x.f1 y.f1 ∧ (x.f3 = true ∨ (y.f3 = false ∧ le y.f2 x.f2))) := by
  unfold coversB le
  simp only [Bool.and_eq_true, Bool.or_eq_true, decide_eq_true_eq, Bool.not_eq_true']
theorem covers_in {x y : S24} {t : Int} {k : List Int} (h : coversB x y = true) (hk : InP y t k) : InP x t k := by
  rcases (coversB_iff x y).1 h with he | ⟨h0, h1, h2⟩
  · have : emptyB y = false := (full_iff y).2 ⟨k, rfl, hk.2⟩
    rw [he] at this; cases this
  · refine ⟨h0.trans hk.1, le_trans h1 hk.2.1, ?_⟩
    rcases h2 with h2 | ⟨h2, h3⟩
    · exact .inl h2
    · rcases hk.2.2 with h4 | h4
      · rw [h2] at h4; cases h4
      · exact .inr (lt_of_lt_le h4 h3)
theorem meetsB_iff (a b : S24) : meetsB a b = true ↔ ∃ k, InP a a.f0 k ∧ InP b a.f0 k := by
  unfold meetsB
  have e : (!([a, b].any fun x => !inB x a.f0 (firstB a b))) = (inB a a.f0 (firstB a b) && inB b a.f0 (firstB a b)) := by
    simp only [List.any_cons, List.any_nil, Bool.or_false]
    cases inB a a.f0 (firstB a b) <;> cases inB b a.f0 (firstB a b) <;> rfl
  rw [e, Bool.and_eq_true, inB_iff, inB_iff]
  constructor
  · rintro ⟨h1, h2⟩; exact ⟨_, h1, h2⟩
  · rintro ⟨k, h1, h2⟩
    have hf : le a.f1 (firstB a b) ∧ le b.f1 (firstB a b) ∧ le (firstB a b) k := by
      unfold firstB
      by_cases h : Lib.compareBytes (Lib.bytesOf a.f1) (Lib.bytesOf b.f1) < 0
      · rw [if_pos h]; exact ⟨lt_le h, le_refl _, h2.2.1⟩
      · rw [if_neg h]
        refine ⟨le_refl _, ?_, h1.2.1⟩
        exact Classical.byContradiction fun hn => h ((lt_iff _ _).2 hn)
    refine ⟨⟨h1.1, hf.1, ?_⟩, ⟨h2.1, hf.2.1, ?_⟩⟩
    · rcases h1.2.2 with h | h
      · exact .inl h
      · exact .inr (lt_of_le_lt hf.2.2 h)
    · rcases h2.2.2 with h | h
      · exact .inl h
      · exact .inr (lt_of_le_lt hf.2.2 h)
theorem covers_self (a : S24) : coversB a a = true := by
  by_cases he : emptyB a = true
  · exact (coversB_iff _ _).2 (.inl he)
  · refine (coversB_iff _ _).2 (.inr ⟨rfl, le_refl _, ?_⟩)
    by_cases h3 : a.f3 = true
    · exact .inl h3
    · exact .inr ⟨by simpa using h3, le_refl _⟩
theorem meets_comm (a b : S24) : meetsB a b = meetsB b a := by
  rw [Bool.eq_iff_iff, meetsB_iff, meetsB_iff]
  constructor
  · rintro ⟨k, h1, h2⟩; exact ⟨k, by rw [h2.1]; exact h2, by rw [h2.1]; exact h1⟩
  · rintro ⟨k, h1, h2⟩; exact ⟨k, by rw [h2.1]; exact h2, by rw [h2.1]; exact h1⟩
theorem awake_f : banksmanlaw10_awake.f = some true := rfl
theorem Meets_f (a b : S24) : span_Meets.f a.f0 a.f1 a.f2 a.f3 b.f0 b.f1 b.f2 b.f3 = some (meetsB a b) := rfl
end Go.Proofs.Ytomlhapehldlnaa.Pure
