import Derived.Test.YtiliailmgjhjbaaPx
namespace Go.Proofs.Ytiliailmgjhjbaa.Pure
open Go.RowKit Go.Proofs.Ytiliailmgjhjbaa.P Go.Proofs.YtiliailmgjhjbaaW.PrintWords Go.Proofs.YtiliailmgjhjbaaW.PrintLast
set_option linter.unusedVariables false
set_option linter.unusedSimpArgs false

def NM (a : Int) : Prop := a < 1 ∨ 5 < a
theorem modes (a : Int) : NM a ∨ a = 1 ∨ a = 2 ∨ a = 3 ∨ a = 4 ∨ a = 5 := by unfold NM; omega
variable {a b : Int}
theorem n_is (h : NM a) : mode_is.f a = some false := by
  unfold NM at h
  unfold mode_is.f
  by_cases h1 : a ≥ 1
  · rw [if_pos h1, decide_eq_false (by omega)]
  · rw [if_neg h1]
theorem n_fits (h : NM a) : fitsB a b = false := by
  unfold NM at h
  unfold fitsB
  rw [if_neg (by omega), if_neg (by omega), if_neg (by omega), if_neg (by omega)]
theorem n_fits' (h : NM b) : fitsB a b = false := by
  unfold NM at h
  unfold fitsB
  (repeat' split) <;> simp <;> omega
theorem nl_fits (h : NM a) : mode_Fits.f a b = some false := by unfold mode_Fits.f; rw [n_fits h]
theorem nr_fits (h : NM b) : mode_Fits.f a b = some false := by unfold mode_Fits.f; rw [n_fits' h]
theorem is_some (a : Int) : ∃ t, mode_is.f a = some t := by unfold mode_is.f; split <;> exact ⟨_, rfl⟩
theorem nl_cov (h : NM a) : mode_Covers.f a b = some false := by unfold mode_Covers.f; rw [n_is h]; rfl
theorem nr_cov (h : NM b) : mode_Covers.f a b = some false := by
  unfold mode_Covers.f
  obtain ⟨t, ht⟩ := is_some a
  rw [ht, n_is h, Option.bind_some, Option.bind_some]
  cases t <;> rfl
theorem jl (k : Nat) (a b x : Int) : mode_Join.l0 (k + 1) a b x = if x < 5 then ((mode_Covers.f (wrap64 (x + 1)) a).bind fun t103 => (if t103 = true then ((mode_Covers.f (wrap64 (x + 1)) b).bind fun t104 => (if t104 = true then (some (wrap64 (x + 1))) else (mode_Join.l0 k a b (wrap64 (x + 1))))) else (mode_Join.l0 k a b (wrap64 (x + 1))))) else (some 0) := by
  simp only [mode_Join.l0]
theorem nl_join (h : NM a) : mode_Join.f 20 a b = some 0 := by
  unfold mode_Join.f
  have st : ∀ (k : Nat) (x : Int), x < 5 → mode_Join.l0 (k + 1) a b x = mode_Join.l0 k a b (wrap64 (x + 1)) := by
    intro k x hx
    rw [jl, if_pos hx, nr_cov h, Option.bind_some, if_neg (by decide)]
  rw [st 19 0 (by decide +kernel), st 18 _ (by decide +kernel), st 17 _ (by decide +kernel), st 16 _ (by decide +kernel), st 15 _ (by decide +kernel), jl, if_neg (by decide +kernel)]
theorem cov_some (a b : Int) : ∃ t, mode_Covers.f a b = some t := by
  unfold mode_Covers.f
  obtain ⟨t, ht⟩ := is_some a
  obtain ⟨u, hu⟩ := is_some b
  rw [ht, hu, Option.bind_some, Option.bind_some]
  (repeat' split) <;> exact ⟨_, rfl⟩
theorem nr_join (h : NM b) : mode_Join.f 20 a b = some 0 := by
  unfold mode_Join.f
  have st : ∀ (k : Nat) (x : Int), x < 5 → mode_Join.l0 (k + 1) a b x = mode_Join.l0 k a b (wrap64 (x + 1)) := by
    intro k x hx
    rw [jl, if_pos hx, nr_cov h]
    obtain ⟨t, ht⟩ := cov_some (wrap64 (x + 1)) a
    rw [ht]
    cases t <;> rfl
  rw [st 19 0 (by decide +kernel), st 18 _ (by decide +kernel), st 17 _ (by decide +kernel), st 16 _ (by decide +kernel), st 15 _ (by decide +kernel), jl, if_neg (by decide +kernel)]
theorem n_above (h : NM a) : mode_Above.f 20 a = some 0 := by
  unfold NM at h
  unfold mode_Above.f
  rw [if_neg (by omega), show (a == 3) = false by simp; omega]
  simp only [mode_Above.j0]
  rw [if_neg (by simp), if_neg (by omega), if_neg (by omega), if_neg (by omega)]
theorem n_may (h : NM a) : banksmanref09_May.f a = some 0 := by
  unfold NM at h
  unfold banksmanref09_May.f
  rw [if_neg (by omega), if_neg (by omega), if_neg (by omega), if_neg (by omega), if_neg (by omega)]
theorem may_some (a : Int) : ∃ t, banksmanref09_May.f a = some t := by unfold banksmanref09_May.f; (repeat' split) <;> exact ⟨_, rfl⟩
theorem nl_rfits (h : NM a) : banksmanref09_Fits.f a b = some false := by
  unfold banksmanref09_Fits.f
  obtain ⟨u, hu⟩ := may_some b
  rw [n_may h, hu]; rfl
theorem nr_rfits (h : NM b) : banksmanref09_Fits.f a b = some false := by
  unfold banksmanref09_Fits.f
  obtain ⟨u, hu⟩ := may_some a
  rw [n_may h, hu, Option.bind_some, Option.bind_some]
  split <;> rfl
theorem nl_rcov (h : NM a) : banksmanref09_Covers.f a b = some false := by
  unfold banksmanref09_Covers.f
  obtain ⟨u, hu⟩ := may_some b
  rw [n_may h, hu]; rfl
theorem nr_rcov (h : NM b) : banksmanref09_Covers.f a b = some false := by
  unfold banksmanref09_Covers.f
  obtain ⟨u, hu⟩ := may_some a
  rw [n_may h, hu, Option.bind_some, Option.bind_some]
  split <;> rfl
theorem rj (k : Nat) (a b : Int) (t : Bool) : banksmanref09_Join.j0 (k + 1) a b t = if t = true then (some 0) else (banksmanref09_Join.l0 k a b 1) := by simp only [banksmanref09_Join.j0]
theorem nl_rjoin (h : NM a) : banksmanref09_Join.f 20 a b = some 0 := by
  unfold banksmanref09_Join.f
  rw [n_may h, Option.bind_some, if_pos rfl, rj, if_pos rfl]
theorem nr_rjoin (h : NM b) : banksmanref09_Join.f 20 a b = some 0 := by
  unfold banksmanref09_Join.f
  obtain ⟨u, hu⟩ := may_some a
  rw [n_may h, hu, Option.bind_some, Option.bind_some]
  split
  · rw [rj, if_pos rfl]
  · rw [rj, if_pos (by decide)]
theorem n_rabove (h : NM a) : banksmanref09_Above.f a = some 0 := by
  unfold banksmanref09_Above.f
  rw [n_may h]; rfl
theorem awake : banksmanlaw09_awake.f 20 = some true := by decide +kernel
theorem five_of {a : Int} (h : ¬ NM a) : a ∈ ([1, 2, 3, 4, 5] : List Int) := by
  rcases modes a with h1 | h1
  · exact absurd h1 h
  · simpa using h1
end Go.Proofs.Ytiliailmgjhjbaa.Pure
