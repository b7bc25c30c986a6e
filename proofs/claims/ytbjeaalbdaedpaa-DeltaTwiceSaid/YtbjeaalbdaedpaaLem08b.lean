import Derived.Test.YtbjeaalbdaedpaaLem08
import Derived.Test.YtbjeaalbdaedpaaPx45
import Derived.Test.YtbjeaalbdaedpaaPx46
import Derived.Test.YtbjeaalbdaedpaaPx88
import Derived.Test.YtbjeaalbdaedpaaPx89
namespace Go.Proofs.Ytbjeaalbdaedpaa.Pure
open Go.RowKit Go.Proofs.Ytbjeaalbdaedpaa.P Go.Proofs.YtbjeaalbdaedpaaW.PrintWords Go.Proofs.YtbjeaalbdaedpaaW.PrintLast
set_option linter.unusedVariables false
set_option linter.unusedSimpArgs false
theorem Put_f {n : Nat} (hn : n ≤ 1000) {l : List S28} {m : List Int} (h : Sm n l m) (x : S28) (h1 : x.f1.length ≤ 100) (h3 : x.f3.length ≤ 100) {k : Nat} (hk : 1 ≤ k) :
    delta_Put.f k l m x.f0 x.f1 x.f2 x.f3 = some (if (checkD l m && mayB x) = false then (l, m, 1) else if 20 ≤ l.length then (l, m, 80) else (l ++ [x], m, 0)) := by
  obtain ⟨k, rfl⟩ : ∃ m, k = m + 1 := ⟨k - 1, by omega⟩
  have hl := h.1
  unfold delta_Put.f delta_Check.f
  rw [own_f hn h, Option.bind_some, Option.bind_some]
  dsimp only
  cases hc : checkD l m
  · rw [if_neg (by simp), delta_Put.j0, if_pos rfl]; rfl
  rw [if_pos rfl, may_f, Option.bind_some, delta_Put.j0]
  cases hm : mayB x
  · rw [if_pos (show (!false) = true from rfl)]; rfl
  rw [if_neg (by simp), if_neg (by simp : ¬ (true && true) = false)]
  by_cases h2 : (l.length : Int) ≥ 20
  · rw [if_pos h2, if_pos (by omega)]
  · rw [if_neg h2, if_neg (by omega), dwrite_f x h1 h3, Option.bind_some, if_pos (by omega)]
theorem check_len {l : List S28} {m : List Int} (h : checkD l m = true) : l.length ≤ 20 ∧ m.length ≤ 4 := by
  unfold checkD at h
  simp only [Bool.and_eq_true, decide_eq_true_eq] at h
  exact ⟨h.1, h.2.1⟩
end Go.Proofs.Ytbjeaalbdaedpaa.Pure
