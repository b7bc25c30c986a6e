import Derived.Test.YtbjeaalbdaedpaaLem08
import Derived.Test.YtbjeaalbdaedpaaPx45
import Derived.Test.YtbjeaalbdaedpaaPx46
import Derived.Test.YtbjeaalbdaedpaaPx88
import Derived.Test.YtbjeaalbdaedpaaPx89
namespace Go.Proofs.Ytbjeaalbdaedpaa.Pure
open Go.RowKit Go.Proofs.Ytbjeaalbdaedpaa.P Go.Proofs.YtbjeaalbdaedpaaW.PrintWords Go.Proofs.YtbjeaalbdaedpaaW.PrintLast
set_option linter.unusedVariables false
set_option linter.unusedSimpArgs false
theorem Put_f {n : Nat} (hn : n ≤ 1000) {l : List S28} {m : List Int} (h : Sm n l m) (x : S28) (h1 : x.f1.length ≤ 100) (h3 : x.f3.length ≤ 100) {k : Nat} (hk : 1 ≤ k) :
    delta_Put.f k l m x.f0 x.f1 x.f2 x.f3 = some (if (checkD l m && mayB x) = false then (l, m, 1) else if 20 ≤ l.length then (l, m, 80) else (l ++ [x], m, 0)) := by
  obtain ⟨k, rfl⟩ : ∃ m, k = m + 1 := ⟨k - 1, by omega⟩
  have hl := h.1
  unfold delta_Put.f delta_Check.f
  rw [own_f hn h, Option.bind_some, Option.bind_some]
  dsimp only
  cases hc : checkD l m
  · rw [if_neg (by simp), delta_Put.j0, if_pos rfl]; rfl
  rw [if_pos rfl, may_f, Option.bind_some, delta_Put.j0]
  cases hm : mayB x
  · rw [if_pos (show (!false) = true from rfl)]; rfl
  rw [if_neg (by simp), if_neg (by simp : ¬ (true && true) = false)]
  by_cases h2 : (l.length : Int) ≥ 20
  · rw [if_pos h2, if_pos (by omega)]
  · rw [if_neg h2, if_neg (by omega), dwrite_f x h1 h3, Option.bind_some, if_pos (by omega)]
theorem RPut_f {n : Nat} (hn : n ≤ 1000) {l : List S28} {m : List Int} (h : Sm n l m) (x : S28) (h1 : x.f1.length ≤ 100) (h3 : x.f3.length ≤ 100) {k : Nat} (hk : n + 40 ≤ k) :
    banksmanref08_Put.f k l m x.f0 x.f1 x.f2 x.f3 = some (if (checkD l m && mayB x) = false then (l, m, 1) else if 20 ≤ l.length then (l, m, 80) else (l ++ [x], m, 0)) := by
  obtain ⟨k, rfl⟩ : ∃ m, k = m + 1 := ⟨k - 1, by omega⟩
  have hl := h.1
  unfold banksmanref08_Put.f
  rw [Copy_f hn h (by omega), Option.bind_some, Check_f hn h (by omega), Option.bind_some, May_f, Option.bind_some]
  dsimp only
  cases hc : checkD l m
  · rw [if_neg (by simp), banksmanref08_Put.j0, if_pos rfl]; rfl
  rw [if_pos rfl, banksmanref08_Put.j0]
  cases hm : mayB x
  · rw [if_pos (show (!false) = true from rfl)]; rfl
  rw [if_neg (by simp), if_neg (by simp : ¬ (true && true) = false)]
  by_cases h2 : (l.length : Int) ≥ 20
  · rw [if_pos h2, if_pos (by omega)]
  · rw [if_neg h2, if_neg (by omega), write_f x h1 h3, Option.bind_some, if_pos (by omega)]
theorem Mark_f {n : Nat} (hn : n ≤ 1000) {l : List S28} {m : List Int} (h : Sm n l m) :
    delta_Mark.f l m = some (if checkD l m = false then (l, m, 1) else if 4 ≤ m.length then (l, m, 80) else (l, m ++ [(l.length : Int)], 0)) := by
  have hl := h.1
  have hm := h.2.1
  unfold delta_Mark.f delta_Check.f
  rw [own_f hn h, Option.bind_some, Option.bind_some]
  dsimp only
  cases hc : checkD l m
  · rw [if_neg (by simp)]; rfl
  rw [if_pos rfl, if_neg (by simp : ¬ true = false)]
  by_cases h2 : (m.length : Int) ≥ 4
  · rw [if_pos h2, if_pos (by omega)]
  · rw [if_neg h2, if_pos (by omega : m.length < 17592186044416), if_neg (by omega : ¬ 4 ≤ m.length)]
theorem RMark_f {n : Nat} (hn : n ≤ 1000) {l : List S28} {m : List Int} (h : Sm n l m) {k : Nat} (hk : n + 40 ≤ k) :
    banksmanref08_Mark.f k l m = some (if checkD l m = false then (l, m, 1) else if 4 ≤ m.length then (l, m, 80) else (l, m ++ [(l.length : Int)], 0)) := by
  have hl := h.1
  have hm := h.2.1
  unfold banksmanref08_Mark.f
  rw [Copy_f hn h (by omega), Option.bind_some, Check_f hn h (by omega), Option.bind_some]
  dsimp only
  cases hc : checkD l m
  · rw [if_neg (by simp)]; rfl
  rw [if_pos rfl, if_neg (by simp : ¬ true = false)]
  by_cases h2 : (m.length : Int) ≥ 4
  · rw [if_pos h2, if_pos (by omega)]
  · rw [if_neg h2, if_pos (by omega : m.length < 17592186044416), if_neg (by omega : ¬ 4 ≤ m.length)]
theorem check_rd {l : List S28} {m : List Int} (h : checkD l m = true) {i : Nat} (hi : i < m.length) : 0 ≤ rd m (i : Int) ∧ rd m (i : Int) ≤ (l.length : Int) := by
  unfold checkD at h
  simp only [Bool.and_eq_true, Bool.not_eq_true', List.any_eq_false, Bool.or_eq_true, decide_eq_true_eq, not_or] at h
  have := h.2.2.2.1 _ (List.getElem_mem hi)
  rw [rdI hi]
  omega
theorem check_len {l : List S28} {m : List Int} (h : checkD l m = true) : l.length ≤ 20 ∧ m.length ≤ 4 := by
  unfold checkD at h
  simp only [Bool.and_eq_true, decide_eq_true_eq] at h
  exact ⟨h.1, h.2.1⟩
theorem Back_f {n : Nat} (hn : n ≤ 1000) {l : List S28} {m : List Int} (h : Sm n l m) (a : Int) :
    delta_Back.f l m a = some (if checkD l m = false ∨ a < 0 ∨ (m.length : Int) ≤ a then (l, m, 1) else (l.take (rd m a).toNat, m.take (a + 1).toNat, 0)) := by
  unfold delta_Back.f delta_Check.f
  rw [own_f hn h, Option.bind_some, Option.bind_some]
  dsimp only
  cases hc : checkD l m
  · rw [if_neg (by simp), if_pos (.inl rfl)]
  have hln := check_len hc
  rw [if_pos rfl]
  by_cases h1 : a < 0
  · rw [if_pos h1, if_pos (.inr (.inl h1))]
  rw [if_neg h1]
  by_cases h2 : a ≥ (m.length : Int)
  · rw [if_pos h2, if_pos (.inr (.inr (by omega)))]
  obtain ⟨i, rfl⟩ : ∃ i : Nat, a = (i : Int) := ⟨a.toNat, by omega⟩
  have hr := check_rd hc (i := i) (by omega)
  rw [if_neg h2, if_pos (by omega), if_pos (by omega), if_pos hr.1, if_pos hr.2, w64 (by omega) (by omega), if_pos (by omega), if_pos (by omega), if_neg]
  rintro (h | h | h)
  · cases h
  · exact h1 h
  · exact h2 h
theorem RBack_f {n : Nat} (hn : n ≤ 1000) {l : List S28} {m : List Int} (h : Sm n l m) (a : Int) {k : Nat} (hk : n + 40 ≤ k) :
    banksmanref08_Back.f k l m a = some (if checkD l m = false ∨ a < 0 ∨ (m.length : Int) ≤ a then (l, m, 1) else (l.take (rd m a).toNat, m.take (a + 1).toNat, 0)) := by
  unfold banksmanref08_Back.f
  rw [Copy_f hn h (by omega), Option.bind_some, Check_f hn h (by omega), Option.bind_some]
  dsimp only
  by_cases hc : checkD l m = false ∨ a < 0 ∨ (m.length : Int) ≤ a
  · rw [if_pos hc, if_pos hc]
  · rw [if_neg hc, if_neg hc]
    have h1 : checkD l m = true := by cases hx : checkD l m; exact absurd (.inl hx) hc; rfl
    have h2 : ¬ a < 0 := fun g => hc (.inr (.inl g))
    have h3 : ¬ (m.length : Int) ≤ a := fun g => hc (.inr (.inr g))
    obtain ⟨i, rfl⟩ : ∃ i : Nat, a = (i : Int) := ⟨a.toNat, by omega⟩
    have hr := check_rd h1 (i := i) (by omega)
    rw [if_pos ⟨hr.1, hr.2, by omega⟩]
end Go.Proofs.Ytbjeaalbdaedpaa.Pure
