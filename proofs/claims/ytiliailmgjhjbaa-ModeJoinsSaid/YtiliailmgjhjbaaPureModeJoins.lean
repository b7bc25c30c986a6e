/- Proved: the law ModeJoins of banksmanlaw09 returns true for every input: modes come together in whatever order. No conditions. -/
import Derived.Test.YtiliailmgjhjbaaLem09
namespace Go.Proofs.Ytiliailmgjhjbaa.Pure
open Go.RowKit Go.Proofs.Ytiliailmgjhjbaa.P Go.Proofs.YtiliailmgjhjbaaW.PrintWords Go.Proofs.YtiliailmgjhjbaaW.PrintLast
set_option linter.unusedVariables false
set_option linter.unusedSimpArgs false

theorem joins_all : ∀ a ∈ ([1, 2, 3, 4, 5] : List Int), ∀ b ∈ ([1, 2, 3, 4, 5] : List Int), ∀ c ∈ ([1, 2, 3, 4, 5] : List Int), banksmanlaw09_ModeJoins.f 20 a b c = some true := by decide +kernel
/-- What is asked of two modes where the third is none. -/
def two (a b : Int) : Bool := match mode_Join.f 20 a b with
  | some j => !(j == 0) && (mode_Join.f 20 b a == some j) && (mode_Covers.f j a == some true) && (mode_Covers.f j b == some true) && (mode_Join.f 20 a a == some a)
  | none => false
theorem two_all : ∀ a ∈ ([1, 2, 3, 4, 5] : List Int), ∀ b ∈ ([1, 2, 3, 4, 5] : List Int), two a b = true := by decide +kernel
theorem join_more : ∀ a ∈ ([1, 2, 3, 4, 5] : List Int), ∀ b ∈ ([1, 2, 3, 4, 5] : List Int), mode_Join.f 19 a b = mode_Join.f 20 a b := by decide +kernel
theorem nr_join9 {a b : Int} (h : NM b) : mode_Join.f 19 a b = some 0 := by
  unfold mode_Join.f
  have st : ∀ (k : Nat) (x : Int), x < 5 → mode_Join.l0 (k + 1) a b x = mode_Join.l0 k a b (wrap64 (x + 1)) := by
    intro k x hx
    rw [jl, if_pos hx, nr_cov h]
    obtain ⟨t, ht⟩ := cov_some (wrap64 (x + 1)) a
    rw [ht]
    cases t <;> rfl
  rw [st 18 0 (by decide +kernel), st 17 _ (by decide +kernel), st 16 _ (by decide +kernel), st 15 _ (by decide +kernel), st 14 _ (by decide +kernel), jl, if_neg (by decide +kernel)]
theorem ModeJoins : banksmanlaw09_ModeJoins.Pure := by
  intro a b c _ _ _
  refine ⟨20, ?_⟩
  by_cases ha : NM a
  · unfold banksmanlaw09_ModeJoins.f
    rw [awake, nl_join ha, n_above ha]; rfl
  by_cases hb : NM b
  · unfold banksmanlaw09_ModeJoins.f
    rw [awake, nr_join hb, n_above hb, Option.bind_some, Option.bind_some, if_pos rfl, if_pos rfl]
    have : ∃ t, mode_Above.f 20 a = some t := by
      have := five_of ha
      simp only [List.mem_cons, List.not_mem_nil, or_false] at this
      rcases this with rfl | rfl | rfl | rfl | rfl <;> exact ⟨_, rfl⟩
    obtain ⟨t, ht⟩ := this
    rw [ht, Option.bind_some]
    split <;> rfl
  by_cases hc : NM c
  · have h2 := two_all a (five_of ha) b (five_of hb)
    unfold two at h2
    unfold banksmanlaw09_ModeJoins.f
    rw [awake, Option.bind_some]
    cases hj : mode_Join.f 20 a b with
    | none => rw [hj] at h2; cases h2
    | some j =>
      rw [hj] at h2
      simp only [Bool.and_eq_true, beq_iff_eq, Bool.not_eq_true', beq_eq_false_iff_ne] at h2
      obtain ⟨⟨⟨⟨h3, h4⟩, h5⟩, h6⟩, h7⟩ := h2
      rw [Option.bind_some, if_neg h3, nl_cov hc, Option.bind_some, if_neg (by decide)]
      simp only [banksmanlaw09_ModeJoins.j0]
      rw [join_more b (five_of hb) a (five_of ha), h4, join_more a (five_of ha) a (five_of ha), h7]
      simp only [Option.bind_some, if_true, h5, h6]
      rw [nr_join9 hc, nr_join9 hc, Option.bind_some, Option.bind_some, nr_join9 (b := 0) (.inl (by decide))]
      rfl
  exact joins_all a (five_of ha) b (five_of hb) c (five_of hc)
end Go.Proofs.Ytiliailmgjhjbaa.Pure
