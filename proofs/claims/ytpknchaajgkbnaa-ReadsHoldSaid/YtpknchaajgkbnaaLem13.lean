/- Proved: the reference's Few of layers 8, 10, 13, and that its comparisons of spans, writes, and of those who committed, tell what is alike. -/
import Derived.Test.YtpknchaajgkbnaaPx57
import Derived.Test.YtpknchaajgkbnaaPx48
import Derived.Test.YtpknchaajgkbnaaPx59
import Derived.Test.YtpknchaajgkbnaaPx43
import Derived.Laws.Cover1
namespace Go.Proofs.Ytpknchaajgkbnaa.Pure
open Go.RowKit Go.Proofs.Ytpknchaajgkbnaa.P Go.Proofs.YtpknchaajgkbnaaW.PrintWords Go.Proofs.YtpknchaajgkbnaaW.PrintLast
set_option linter.unusedVariables false
set_option linter.unusedSimpArgs false

theorem w64 {x : Int} (h0 : -9223372036854775808 ≤ x) (h1 : x ≤ 9223372036854775807) : wrap64 x = x := by unfold wrap64; omega
theorem rd38 {l : List S38} {i : Nat} (h : i < l.length) : rd_T38 l (i : Int) = l[i] := by
  unfold rd_T38; rw [Int.toNat_natCast]; simp [List.getD_eq_getElem?_getD, h]
theorem rd46 {l : List S46} {i : Nat} (h : i < l.length) : rd_T46 l (i : Int) = l[i] := by
  unfold rd_T46; rw [Int.toNat_natCast]; simp [List.getD_eq_getElem?_getD, h]
def few10 (l : List S38) : Bool := decide (l.length ≤ 100) && l.all fun x => decide (x.f1.length ≤ 100) && decide (x.f2.length ≤ 100)
def few08 (l : List S46) : Bool := decide (l.length ≤ 30) && l.all fun x => decide (x.f1.length ≤ 100) && decide (x.f3.length ≤ 100)
theorem all_split {α : Type} (l : List α) (n : Nat) (h : n < l.length) (p : α → Bool) : (l.drop n).all p = (p l[n] && (l.drop (n + 1)).all p) := by
  rw [List.drop_eq_getElem_cons h, List.all_cons]
theorem few10_l0 (l : List S38) (hl : l.length ≤ 100) : ∀ (d i k : Nat), i + d = l.length → d + 1 ≤ k → 
    banksmanref10_Few.l0 k l (i : Int) = some ((l.drop i).all fun x => decide (x.f1.length ≤ 100) && decide (x.f2.length ≤ 100)) := by
  intro d
  induction d with
  | zero =>
    intro i k hi hk
    obtain ⟨k, rfl⟩ : ∃ m, k = m + 1 := ⟨k - 1, by omega⟩
    rw [banksmanref10_Few.l0, if_neg (by omega), List.drop_of_length_le (by omega)]
    rfl
  | succ d ih =>
    intro i k hi hk
    obtain ⟨k, rfl⟩ : ∃ m, k = m + 1 := ⟨k - 1, by omega⟩
    have hil : i < l.length := by omega
    have e2 : (i : Int) + 1 = ((i + 1 : Nat) : Int) := by omega
    rw [banksmanref10_Few.l0, if_pos (by omega), if_pos (by omega), rd38 hil, w64 (by omega) (by omega), e2, ih (i + 1) k (by omega) (by omega), all_split l i hil]
    by_cases h1 : (l[i].f1.length : Int) > 100
    · rw [if_pos h1, decide_eq_false (by omega)]; rfl
    · rw [if_neg h1, decide_eq_true (by omega : l[i].f1.length ≤ 100), Bool.true_and]
      by_cases h2 : (l[i].f2.length : Int) > 100
      · rw [if_pos h2, decide_eq_false (by omega)]; rfl
      · rw [if_neg h2, decide_eq_true (by omega : l[i].f2.length ≤ 100), Bool.true_and]
theorem Few10_f (l : List S38) (k : Nat) (hk : 101 ≤ k) : banksmanref10_Few.f k l = some (few10 l) := by
  unfold banksmanref10_Few.f few10
  by_cases h : (l.length : Int) > 100
  · rw [if_pos h, decide_eq_false (by omega)]; rfl
  · rw [if_neg h, decide_eq_true (by omega : l.length ≤ 100), Bool.true_and]
    have := few10_l0 l (by omega) l.length 0 k (by omega) (by omega)
    rw [List.drop_zero] at this
    exact this
theorem few08_l0 (l : List S46) (e : List Int) (hl : l.length ≤ 30) : ∀ (d i k : Nat), i + d = l.length → d + 1 ≤ k → 
    banksmanref08_Few.l0 k (i : Int) l e = some ((l.drop i).all fun x => decide (x.f1.length ≤ 100) && decide (x.f3.length ≤ 100)) := by
  intro d
  induction d with
  | zero =>
    intro i k hi hk
    obtain ⟨k, rfl⟩ : ∃ m, k = m + 1 := ⟨k - 1, by omega⟩
    rw [banksmanref08_Few.l0, if_neg (by omega), List.drop_of_length_le (by omega)]
    rfl
  | succ d ih =>
    intro i k hi hk
    obtain ⟨k, rfl⟩ : ∃ m, k = m + 1 := ⟨k - 1, by omega⟩
    have hil : i < l.length := by omega
    have e2 : (i : Int) + 1 = ((i + 1 : Nat) : Int) := by omega
    rw [banksmanref08_Few.l0, if_pos (by omega), if_pos (by omega), rd46 hil, w64 (by omega) (by omega), e2, ih (i + 1) k (by omega) (by omega), all_split l i hil]
    by_cases h1 : (l[i].f1.length : Int) > 100
    · rw [if_pos h1, decide_eq_false (by omega)]; rfl
    · rw [if_neg h1, decide_eq_true (by omega : l[i].f1.length ≤ 100), Bool.true_and]
      by_cases h2 : (l[i].f3.length : Int) > 100
      · rw [if_pos h2, decide_eq_false (by omega)]; rfl
      · rw [if_neg h2, decide_eq_true (by omega : l[i].f3.length ≤ 100), Bool.true_and]
theorem Few08_f (l : List S46) (k : Nat) (hk : 40 ≤ k) : banksmanref08_Few.f k l ([] : List Int) = some (few08 l) := by
  obtain ⟨k, rfl⟩ : ∃ m, k = m + 1 := ⟨k - 1, by omega⟩
  unfold banksmanref08_Few.f few08
  by_cases h : (l.length : Int) > 30
  · rw [if_pos h, decide_eq_false (by omega)]; rfl
  · rw [if_neg h, decide_eq_true (by omega : l.length ≤ 30), Bool.true_and, banksmanref08_Few.j0, if_neg (by simp)]
    have := few08_l0 l [] (by omega) l.length 0 k (by omega) (by omega)
    rw [List.drop_zero] at this
    exact this
/-! Meets and Judge -/
theorem few10_mem {l : List S38} (h : few10 l = true) : l.length ≤ 100 ∧ ∀ x ∈ l, x.f1.length ≤ 100 ∧ x.f2.length ≤ 100 := by
  unfold few10 at h
  simp only [Bool.and_eq_true, decide_eq_true_eq, List.all_eq_true] at h
  exact h
theorem few08_mem {l : List S46} (h : few08 l = true) : l.length ≤ 30 ∧ ∀ x ∈ l, x.f1.length ≤ 100 ∧ x.f3.length ≤ 100 := by
  unfold few08 at h
  simp only [Bool.and_eq_true, decide_eq_true_eq, List.all_eq_true] at h
  exact h
/-! comparing: an answer, and it is yes where both are one -/
end Go.Proofs.Ytpknchaajgkbnaa.Pure
