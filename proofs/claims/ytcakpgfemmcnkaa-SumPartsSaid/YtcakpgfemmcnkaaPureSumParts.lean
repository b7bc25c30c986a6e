/- Proved: the law SumParts of banksmanlaw02 returns true for every input: a text that is cut into pieces has the sum that those of its pieces make. No conditions. -/
import Derived.Test.YtcakpgfemmcnkaaLem02
namespace Go.Proofs.Ytcakpgfemmcnkaa.Pure
open Go.RowKit Go.Proofs.Ytcakpgfemmcnkaa.P Go.Proofs.YtcakpgfemmcnkaaW.PrintWords Go.Proofs.YtcakpgfemmcnkaaW.PrintLast
set_option linter.unusedVariables false

theorem rd_mem (l : List (List Int)) (n : Nat) (h : n < l.length) : rd_L3 l (n : Int) ∈ l := by
  have e : rd_L3 l (n : Int) = l[n] := by unfold rd_L3; rw [Int.toNat_natCast]; simp [List.getD_eq_getElem?_getD, h]
  rw [e]; exact List.getElem_mem h
theorem flat_succ (l : List (List Int)) (n : Nat) (h : n < l.length) : (l.take (n + 1)).flatten = (l.take n).flatten ++ rd_L3 l (n : Int) := by
  have e : rd_L3 l (n : Int) = l[n] := by unfold rd_L3; rw [Int.toNat_natCast]; simp [List.getD_eq_getElem?_getD, h]
  rw [e, List.take_succ_eq_append_getElem h, List.flatten_append, List.flatten_singleton]
theorem parts (l : List (List Int)) (hl : l.length ≤ 20) (hw : ∀ x ∈ l, okb x = true) (d : Nat) : ∀ (k n : Nat), n ≤ l.length → l.length - n = d → d < k → (l.take n).flatten.length ≤ 300 * n → okb (l.take n).flatten = true →
    banksmanlaw02_SumParts.l0 k l true (l.take n).flatten (val (l.take n).flatten) n = some true := by
  induction d with
  | zero =>
    intro k n h0 h1 h2 h3 h4
    obtain ⟨k, rfl⟩ : ∃ m, k = m + 1 := ⟨k - 1, by omega⟩
    simp only [banksmanlaw02_SumParts.l0]
    rw [if_neg (by omega), if_pos (by trivial), sum_f h4, Option.bind_some]
    simp
  | succ d ih =>
    intro k n h0 h1 h2 h3 h4
    obtain ⟨k, rfl⟩ : ∃ m, k = m + 1 := ⟨k - 1, by omega⟩
    have hlt : n < l.length := by omega
    have hm := hw _ (rd_mem l n hlt)
    have fs := flat_succ l n hlt
    simp only [banksmanlaw02_SumParts.l0]
    rw [if_pos (by omega), if_pos (by omega)]
    by_cases h5 : ((rd_L3 l (n : Int)).length : Int) > 300
    · rw [if_pos h5]
    rw [if_neg h5, sum_f hm, Option.bind_some, join_val _ _ (by omega), Option.bind_some]
    simp only []
    rw [if_pos (by trivial), if_pos (by omega), w64 (by omega) (by omega), ← fs]
    have hl2 : (l.take (n + 1)).flatten.length ≤ 300 * (n + 1) := by rw [fs, List.length_append]; omega
    have ho2 : okb (l.take (n + 1)).flatten = true := by rw [fs, okb_app, h4, hm]; rfl
    exact ih k (n + 1) (by omega) (by omega) (by omega) hl2 ho2
theorem SumParts : banksmanlaw02_SumParts.Pure := by
  intro l hg
  obtain ⟨hm, hg⟩ := hg
  have hw : ∀ x ∈ l, okb x = true := fun x hx => okb_of (hg x hx).2
  refine ⟨l.length + 1, ?_⟩
  unfold banksmanlaw02_SumParts.f
  rw [awake, Option.bind_some]
  by_cases h : (l.length : Int) > 20
  · rw [if_pos h]
  rw [if_neg h, sum_f (l := []) (by rfl), Option.bind_some]
  exact parts l (by omega) hw l.length (l.length + 1) 0 (by omega) (by omega) (by omega) (by simp) (by rfl)
end Go.Proofs.Ytcakpgfemmcnkaa.Pure
