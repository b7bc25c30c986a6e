import Derived.Test.YtficgggfplejpaaLem03
import Derived.Test.YtficgggfplejpaaPx30
namespace Go.Proofs.Ytficgggfplejpaa.Pure
open Go.RowKit Go.Proofs.Ytficgggfplejpaa.P Go.Proofs.YtficgggfplejpaaW.PrintWords Go.Proofs.YtficgggfplejpaaW.PrintLast
set_option linter.unusedVariables false
set_option linter.unusedSimpArgs false

theorem same_l0 (l : List (List Int)) (hl : l.length < 1000000) : ∀ (d k n : Nat), n ≤ l.length → l.length - n = d → d + 1 ≤ k → banksmanref03_Same.l0 k l l (n : Int) = some true := by
  intro d
  induction d with
  | zero =>
    intro k n h0 h1 hk
    obtain ⟨k, rfl⟩ : ∃ m, k = m + 1 := ⟨k - 1, by omega⟩
    rw [banksmanref03_Same.l0, if_neg (by omega)]
  | succ d ih =>
    intro k n h0 h1 hk
    obtain ⟨k, rfl⟩ : ∃ m, k = m + 1 := ⟨k - 1, by omega⟩
    have e : (n : Int) + 1 = ((n + 1 : Nat) : Int) := by omega
    rw [banksmanref03_Same.l0, if_pos (by omega), if_pos (by omega), if_pos (by omega), if_pos rfl, w64 (by omega) (by omega), e]
    exact ih k (n + 1) (by omega) (by omega) (by omega)
theorem same_f {l : List (List Int)} {k : Nat} (hl : l.length < 1000000) (hk : l.length + 1 ≤ k) : banksmanref03_Same.f k l l = some true := by
  unfold banksmanref03_Same.f
  rw [if_pos rfl]
  exact same_l0 l hl l.length k 0 (by omega) (by omega) hk
end Go.Proofs.Ytficgggfplejpaa.Pure
