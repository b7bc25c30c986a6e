/- Plain facts on layer 21: the awake law's answer, and when two operations are the same. -/
import Derived.Test.YtfbjabpjfalmlaaLem21c
import Derived.Test.YtfbjabpjfalmlaaPx34
import Derived.Test.YtfbjabpjfalmlaaPx35
namespace Go.Proofs.Ytfbjabpjfalmlaa.Pure
open Go.RowKit Go.Proofs.Ytfbjabpjfalmlaa.P Go.Proofs.YtfbjabpjfalmlaaW.PrintWords Go.Proofs.YtfbjabpjfalmlaaW.PrintLast
set_option linter.unusedVariables false
set_option linter.unusedSimpArgs false
theorem awake_f : banksmanlaw21_awake.f 300 = some true := by decide +kernel
theorem ops_self (kd tb : Int) (k hi : List Int) (o : Bool) (v : List Int) (n : Int) : banksmanref21_Ops.f kd tb k hi o v n kd tb k hi o v n = some true := by
  unfold banksmanref21_Ops.f
  simp
theorem ops_some (kd tb : Int) (k hi : List Int) (o : Bool) (v : List Int) (n : Int) (kd2 tb2 : Int) (k2 hi2 : List Int) (o2 : Bool) (v2 : List Int) (n2 : Int) : ∃ b, banksmanref21_Ops.f kd tb k hi o v n kd2 tb2 k2 hi2 o2 v2 n2 = some b := by
  unfold banksmanref21_Ops.f
  repeat' split
  all_goals exact ⟨_, rfl⟩
theorem ops_true {kd tb : Int} {k hi : List Int} {o : Bool} {v : List Int} {n : Int} {kd2 tb2 : Int} {k2 hi2 : List Int} {o2 : Bool} {v2 : List Int} {n2 : Int} (a1 : okb k = true) (a2 : okb hi = true) (a3 : okb v = true) (b1 : okb k2 = true) (b2 : okb hi2 = true) (b3 : okb v2 = true) (h : banksmanref21_Ops.f kd tb k hi o v n kd2 tb2 k2 hi2 o2 v2 n2 = some true) : kd = kd2 ∧ tb = tb2 ∧ k = k2 ∧ hi = hi2 ∧ o = o2 ∧ v = v2 ∧ n = n2 := by
  unfold banksmanref21_Ops.f at h
  split at h
  · split at h
    · split at h
      · split at h
        · split at h
          · split at h
            · rename_i h1 h2 h3 h4 h5 h6
              exact ⟨h1, h2, str_inj a1 b1 h3, str_inj a2 b2 h4, by simpa using h5, str_inj a3 b3 h6, by simpa using h⟩
            · simp at h
          · simp at h
        · simp at h
      · simp at h
    · simp at h
  · simp at h
theorem small_f (kd tb : Int) (k hi : List Int) (o : Bool) (v : List Int) (n : Int) : ∃ b, banksmanref15_Small.f kd tb k hi o v n = some b ∧ (b = true → k.length ≤ 100 ∧ hi.length ≤ 100 ∧ v.length ≤ 100) := by
  unfold banksmanref15_Small.f
  split
  · split
    · exact ⟨_, rfl, fun h => by rw [decide_eq_true_eq] at h; omega⟩
    · exact ⟨_, rfl, fun h => by cases h⟩
  · exact ⟨_, rfl, fun h => by cases h⟩
end Go.Proofs.Ytfbjabpjfalmlaa.Pure
