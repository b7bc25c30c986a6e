/- Proved: the law ReadsHold of banksmanlaw13 returns true for every input: what hits reads hits them with one more, too, and what is in that one; writes of one key hit its Point. No conditions. -/
import Derived.Test.YtpknchaajgkbnaaLem13
import Derived.Test.YtpknchaajgkbnaaAdd13
import Derived.Test.YtpknchaajgkbnaaPx61
namespace Go.Proofs.Ytpknchaajgkbnaa.Pure
open Go.RowKit Go.Proofs.Ytpknchaajgkbnaa.P Go.Proofs.YtpknchaajgkbnaaW.PrintWords Go.Proofs.YtpknchaajgkbnaaW.PrintLast
set_option linter.unusedVariables false
set_option linter.unusedSimpArgs false
theorem Hit_s (l : List S38) (w : List S46) : reads_Hit.f l w = some (w.any fun y => l.any fun x => inB x y.f0 y.f1) := rfl
theorem Note_f (l : List S38) (x : S38) (hl : few10 l = true) (h1 : x.f1.length ≤ 100) (h2 : x.f2.length ≤ 100) : reads_Note.f l x.f0 x.f1 x.f2 x.f3 = some (addL l x 4) := by
  obtain ⟨ha, hb⟩ := few10_mem hl
  have ok : ∀ y : S38, y.f1.length ≤ 100 → y.f2.length ≤ 100 → okSp y = true := fun y g1 g2 => by
    unfold okSp
    simp only [Bool.and_eq_true, decide_eq_true_eq]
    omega
  unfold reads_Note.f span_Add.f
  rw [if_pos ?_]
  · rfl
  rw [Bool.and_eq_true, Bool.and_eq_true, List.all_eq_true]
  exact ⟨decide_eq_true (by omega), fun y hy => ok y (hb y hy).1 (hb y hy).2, ok x h1 h2⟩
theorem few13_f (l : List S38) (a b : List S46) (k : Nat) (hk : 200 ≤ k) : banksmanlaw13_few.f k l a b = some (few10 l && (few08 a && few08 b)) := by
  unfold banksmanlaw13_few.f
  rw [Few10_f l k (by omega), Option.bind_some]
  cases few10 l
  · rfl
  · rw [if_pos rfl, Few08_f a k (by omega), Option.bind_some]
    cases few08 a
    · rfl
    · rw [if_pos rfl, Few08_f b k (by omega)]; rfl
theorem sum_snoc (a : List Int) : Lib.compareBytes (Lib.bytesOf a) (Lib.bytesOf (a ++ [0])) < 0 := by
  have e : Lib.bytesOf (a ++ [0]) = Lib.bytesOf a ++ Lib.bytesOf [0] := by simp [Lib.bytesOf]
  rw [e]
  generalize Lib.bytesOf a = b
  induction b with
  | nil => decide
  | cons x b ih =>
    show Lib.compareBytes (x :: b) (x :: (b ++ _)) < 0
    rw [Lib.compareBytes]
    simpa using ih
theorem Same_self (l : List S46) : reads_Same.f l l = some (decide (0 < l.length)) := by
  unfold reads_Same.f
  congr 1
  cases l with
  | nil => rfl
  | cons x l =>
    rw [decide_eq_true (by simp), List.any_cons, List.any_cons]
    have : sameB x x = true := by unfold sameB; simp
    rw [this]; rfl
theorem ReadsHold : banksmanlaw13_ReadsHold.Pure := by
  intro l0 a1_0 l1_1 l1_2 a1_3 l2 _ _ _ _ _
  refine ⟨500, ?_⟩
  unfold banksmanlaw13_ReadsHold.f
  rw [few13_f l0 l2 [] 500 (by omega), Option.bind_some, show few08 ([] : List S46) = true from rfl, Bool.and_true]
  by_cases hc : (few10 l0 && few08 l2) = false ∨ 100 < l1_1.length ∨ 100 < l1_2.length
  · rw [if_pos hc]
  rw [if_neg hc]
  simp only [not_or, Bool.not_eq_false, Bool.and_eq_true, Nat.not_lt] at hc
  obtain ⟨⟨h10, h08⟩, g1, g2⟩ := hc
  have hN := Note_f l0 ⟨a1_0, l1_1, l1_2, a1_3⟩ h10 g1 g2
  simp only at hN
  rw [hN, Option.bind_some, Hit_s, Option.bind_some, Hit_s, Option.bind_some, Hit_s, Option.bind_some, Same_self, Option.bind_some, Hit_s, Option.bind_some, Hit_s, Option.bind_some]
  rw [if_pos ?_]
  refine ⟨?_, fun y hy => ⟨?_, ?_⟩, rfl, by simp, rfl⟩
  · unfold holdOk
    rintro ⟨he, hor, hno⟩
    have key : ∀ t k, (InP ⟨a1_0, l1_1, l1_2, a1_3⟩ t k ∨ anyIn l0 t k) → anyIn (addL l0 ⟨a1_0, l1_1, l1_2, a1_3⟩ 4).1 t k := fun t k => (add_keeps l0 ⟨a1_0, l1_1, l1_2, a1_3⟩ 4 t k he).1
    have : (l2.any fun y => (addL l0 ⟨a1_0, l1_1, l1_2, a1_3⟩ 4).1.any fun x => inB x y.f0 y.f1) = true := by
      rcases hor with h | h
      · obtain ⟨y, hy, h⟩ := List.any_eq_true.1 h
        exact List.any_eq_true.2 ⟨y, hy, (anyIn_iff _ _ _).1 (key _ _ (.inr ((anyIn_iff _ _ _).2 h)))⟩
      · obtain ⟨y, hy, h⟩ := List.any_eq_true.1 h
        rw [List.any_cons, List.any_nil, Bool.or_false] at h
        exact List.any_eq_true.2 ⟨y, hy, (anyIn_iff _ _ _).1 (key _ _ (.inl ((inB_iff _ _ _).1 h)))⟩
    rw [hno] at this
    cases this
  · rw [Hit_s]
    congr 1
    refine List.any_eq_true.2 ⟨y, hy, ?_⟩
    rw [List.any_cons, List.any_nil, Bool.or_false]
    exact (inB_iff _ _ _).2 ⟨rfl, le_refl _, .inr (sum_snoc _)⟩
  · have hl := ((few08_mem h08).2 y hy).1
    unfold span_Point.f bytes_Clone.f
    rw [if_pos (by omega), Option.bind_some, Option.bind_some, if_pos (by omega)]
end Go.Proofs.Ytpknchaajgkbnaa.Pure
