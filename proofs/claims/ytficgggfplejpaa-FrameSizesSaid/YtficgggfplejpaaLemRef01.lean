import Derived.Test.YtficgggfplejpaaLem01
import Derived.Test.YtficgggfplejpaaPx22
import Derived.Test.YtficgggfplejpaaPx35
namespace Go.Proofs.Ytficgggfplejpaa.Pure
open Go.RowKit Go.Proofs.Ytficgggfplejpaa.P Go.Proofs.YtficgggfplejpaaW.PrintWords Go.Proofs.YtficgggfplejpaaW.PrintLast
set_option linter.unusedVariables false
set_option linter.unusedSimpArgs false

theorem w64 {x : Int} (h0 : -9223372036854775808 ≤ x) (h1 : x ≤ 9223372036854775807) : wrap64 x = x := by unfold wrap64; omega
def numP (l : List Int) (n : Int) : List Int × Int := if n < 0 ∨ n > 2147483647 then ([], 10) else (l ++ octBytes 5 n, 0)
theorem number_f {l : List Int} (h : l.length < 140737488355000) (n : Int) : octet_Number.f l n = some (numP l n) := by
  unfold octet_Number.f numP
  by_cases h1 : n < 0
  · rw [if_pos h1, if_pos (.inl h1)]
  · rw [if_neg h1]
    by_cases h2 : n > 2147483647
    · rw [if_pos h2, if_pos (.inr h2)]
    · rw [if_neg h2, if_pos h, if_neg (by omega)]
theorem rnumber_l0 : ∀ (j k : Nat) (n : Int) (acc : List Int), 0 ≤ n → n < 128 ^ (j + 1) → n ≤ 2147483647 → acc.length + j < 140737488355328 → j + 1 ≤ k → banksmanref01_Number.l0 k n acc = some (acc ++ octBytes (j + 1) n, 0) := by
  intro j
  induction j with
  | zero =>
    intro k n acc h0 h1 hm ha hk
    obtain ⟨k, rfl⟩ : ∃ m, k = m + 1 := ⟨k - 1, by omega⟩
    have h1' : n < 128 := by simpa using h1
    have e : n % 256 = n := by omega
    rw [banksmanref01_Number.l0, if_neg (by omega), if_pos (by omega), octBytes, if_neg (by omega), e]
  | succ j ih =>
    intro k n acc h0 h1 hm ha hk
    obtain ⟨k, rfl⟩ : ∃ m, k = m + 1 := ⟨k - 1, by omega⟩
    rw [banksmanref01_Number.l0, octBytes]
    by_cases h : n ≥ 128
    · have e1 : Int.tdiv n 128 = n / 128 := Int.tdiv_eq_ediv_of_nonneg h0
      have e2 : Int.tmod n 128 = n % 128 := Int.tmod_eq_emod_of_nonneg h0
      have e3 : (128 : Int) ^ (j + 1 + 1) = 128 ^ (j + 1) * 128 := Int.pow_succ _ _
      have e4 : (n % 128 + 128) % 256 = n % 128 + 128 := by omega
      rw [if_pos h, if_pos (by omega), e1, e2, w64 (by omega) (by omega), w64 (by omega) (by omega), e4, ih k (n / 128) _ (by omega) (by omega) (by omega) (by simp; omega) (by omega), if_pos h, List.append_assoc]
      rfl
    · have e : n % 256 = n := by omega
      rw [if_neg h, if_pos (by omega), if_neg h, e]
theorem rnumber_f {l : List Int} {k : Nat} (h : l.length < 140737488355000) (hk : 6 ≤ k) (n : Int) : banksmanref01_Number.f k l n = some (numP l n) := by
  unfold banksmanref01_Number.f numP
  obtain ⟨k, rfl⟩ : ∃ m, k = m + 1 := ⟨k - 1, by omega⟩
  by_cases h1 : n < 0
  · rw [if_pos h1, if_pos (.inl h1), banksmanref01_Number.j0, if_pos rfl]
  · rw [if_neg h1, banksmanref01_Number.j0]
    by_cases h2 : n ≥ 2147483648
    · rw [decide_eq_true h2, if_pos rfl, if_pos (.inr (by omega))]
    · rw [decide_eq_false h2, if_neg (by decide), Option.bind_some, if_pos (by simp; omega), if_neg (by omega), rnumber_l0 4 k n _ (by omega) (by omega) (by omega) (by simp; omega) (by omega), List.nil_append]
theorem size_f (n : Int) : octet_Size.f n = some ((numP [] n).1.length : Int) := by
  unfold octet_Size.f
  rw [number_f (by simp) n, Option.bind_some]
end Go.Proofs.Ytficgggfplejpaa.Pure
