/- Proved: the law ModeFits of banksmanlaw09 returns true for every input: which modes fit does not hang on their order, and what covers a mode fits no more than it. No conditions. -/
import Derived.Test.YtiliailmgjhjbaaLem09
namespace Go.Proofs.Ytiliailmgjhjbaa.Pure
open Go.RowKit Go.Proofs.Ytiliailmgjhjbaa.P Go.Proofs.YtiliailmgjhjbaaW.PrintWords Go.Proofs.YtiliailmgjhjbaaW.PrintLast
set_option linter.unusedVariables false
set_option linter.unusedSimpArgs false

theorem fits_all : ∀ a ∈ ([0, 1, 2, 3, 4, 5] : List Int), ∀ b ∈ ([0, 1, 2, 3, 4, 5] : List Int), ∀ c ∈ ([0, 1, 2, 3, 4, 5] : List Int), banksmanlaw09_ModeFits.f 20 a b c = some true := by decide +kernel
def clip (a : Int) : Int := if 1 ≤ a ∧ a ≤ 5 then a else 0
theorem clip_mem (a : Int) : clip a ∈ ([0, 1, 2, 3, 4, 5] : List Int) := by
  unfold clip
  split
  · have : a = 1 ∨ a = 2 ∨ a = 3 ∨ a = 4 ∨ a = 5 := by omega
    rcases this with rfl | rfl | rfl | rfl | rfl <;> decide
  · decide
theorem clip_cases (a : Int) : clip a = a ∨ (NM a ∧ clip a = 0 ∧ NM (clip a)) := by
  unfold clip NM
  split
  · exact .inl rfl
  · exact .inr ⟨by omega, rfl, .inl (by omega)⟩
theorem c_fits (a b : Int) : mode_Fits.f a b = mode_Fits.f (clip a) (clip b) := by
  rcases clip_cases a with ha | ⟨ha, _, ha'⟩
  · rcases clip_cases b with hb | ⟨hb, _, hb'⟩
    · rw [ha, hb]
    · rw [nr_fits hb, nr_fits hb']
  · rw [nl_fits ha, nl_fits ha']
theorem c_cov (a b : Int) : mode_Covers.f a b = mode_Covers.f (clip a) (clip b) := by
  rcases clip_cases a with ha | ⟨ha, _, ha'⟩
  · rcases clip_cases b with hb | ⟨hb, _, hb'⟩
    · rw [ha, hb]
    · rw [nr_cov hb, nr_cov hb']
  · rw [nl_cov ha, nl_cov ha']
theorem j_cov (k : Nat) (a b : Int) : ∀ x, mode_Join.l0 k a b x = mode_Join.l0 k (clip a) (clip b) x := by
  have cc : ∀ x c, mode_Covers.f x c = mode_Covers.f x (clip c) := by
    intro x c
    rcases clip_cases c with hc | ⟨hc, _, hc'⟩
    · rw [hc]
    · rw [nr_cov hc, nr_cov hc']
  induction k with
  | zero => intro x; rfl
  | succ k ih =>
    intro x
    rw [jl, jl, cc _ a, cc _ b, ih]
theorem c_join (k : Nat) (a b : Int) : mode_Join.f k a b = mode_Join.f k (clip a) (clip b) := j_cov k a b 0
theorem ab_j (k : Nat) (x : Int) (t : Bool) : mode_Above.j0 (k + 1) x t = if t = true then (some 1) else (if x = 2 then (some 2) else (if x = 4 then (some 2) else (if x = 5 then (some 2) else (some 0)))) := by simp only [mode_Above.j0]
theorem c_above (k : Nat) (a : Int) : mode_Above.f (k + 1) a = mode_Above.f (k + 1) (clip a) := by
  rcases clip_cases a with ha | ⟨ha, h0, ha'⟩
  · rw [ha]
  · rw [h0]
    unfold NM at ha
    unfold mode_Above.f
    rw [if_neg (by omega), show (a == 3) = false by simp; omega, ab_j, if_neg (by simp), if_neg (by omega), if_neg (by omega), if_neg (by omega)]
    rfl
theorem ModeFits : banksmanlaw09_ModeFits.Pure := by
  intro a b c _ _ _
  refine ⟨20, ?_⟩
  have h := fits_all (clip a) (clip_mem a) (clip b) (clip_mem b) (clip c) (clip_mem c)
  rw [← h]
  unfold banksmanlaw09_ModeFits.f
  simp only [banksmanlaw09_ModeFits.j0, banksmanlaw09_ModeFits.j1]
  rw [c_cov c a, c_fits c b, c_fits a b, c_fits a c, c_fits b c, c_join 19 a b, c_fits b a, c_cov a a, c_above 17 a]
  have hj : ∀ t, mode_Fits.f t c = mode_Fits.f t (clip c) := by
    intro t
    rcases clip_cases c with hc | ⟨hc, _, hc'⟩
    · rw [hc]
    · rw [nr_fits hc, nr_fits hc']
  simp only [hj]
end Go.Proofs.Ytiliailmgjhjbaa.Pure
