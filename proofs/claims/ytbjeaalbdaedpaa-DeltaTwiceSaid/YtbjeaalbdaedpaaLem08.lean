import Derived.Test.YtbjeaalbdaedpaaPx82
import Derived.Test.YtbjeaalbdaedpaaPx91
import Derived.Test.YtbjeaalbdaedpaaPx87
import Derived.Test.YtbjeaalbdaedpaaPx44
namespace Go.Proofs.Ytbjeaalbdaedpaa.Pure
open Go.RowKit Go.Proofs.Ytbjeaalbdaedpaa.P Go.Proofs.YtbjeaalbdaedpaaW.PrintWords Go.Proofs.YtbjeaalbdaedpaaW.PrintLast
set_option linter.unusedVariables false
set_option linter.unusedSimpArgs false
theorem w64 {x : Int} (h0 : -9223372036854775808 ≤ x) (h1 : x ≤ 9223372036854775807) : wrap64 x = x := by unfold wrap64; omega
theorem rd28 {l : List S28} {i : Nat} (h : i < l.length) : rd_T28 l (i : Int) = l[i] := by
  unfold rd_T28; rw [Int.toNat_natCast]; simp [List.getD_eq_getElem?_getD, h]
theorem all_split {α : Type} (l : List α) (n : Nat) (h : n < l.length) (p : α → Bool) : (l.drop n).all p = (p l[n] && (l.drop (n + 1)).all p) := by
  rw [List.drop_eq_getElem_cons h, List.all_cons]
def smW (x : S28) : Bool := decide (x.f1.length ≤ 100) && decide (x.f3.length ≤ 100)
def few08 (l : List S28) (m : List Int) : Bool := decide (l.length ≤ 30) && (decide (m.length ≤ 30) && l.all smW)
theorem few08_l0 (l : List S28) (e : List Int) (hl : l.length ≤ 30) : ∀ (d i k : Nat), i + d = l.length → d + 1 ≤ k → 
    banksmanref08_Few.l0 k (i : Int) l e = some ((l.drop i).all smW) := by
  intro d
  induction d with
  | zero =>
    intro i k hi hk
    obtain ⟨k, rfl⟩ : ∃ m, k = m + 1 := ⟨k - 1, by omega⟩
    rw [banksmanref08_Few.l0, if_neg (by omega), List.drop_of_length_le (by omega)]
    rfl
  | succ d ih =>
    intro i k hi hk
    obtain ⟨k, rfl⟩ : ∃ m, k = m + 1 := ⟨k - 1, by omega⟩
    have hil : i < l.length := by omega
    have e2 : (i : Int) + 1 = ((i + 1 : Nat) : Int) := by omega
    rw [banksmanref08_Few.l0, if_pos (by omega), if_pos (by omega), rd28 hil, w64 (by omega) (by omega), e2, ih (i + 1) k (by omega) (by omega), all_split l i hil]
    have e3 : smW l[i] = (decide (l[i].f1.length ≤ 100) && decide (l[i].f3.length ≤ 100)) := rfl
    rw [e3]
    by_cases h1 : (l[i].f1.length : Int) > 100
    · rw [if_pos h1, decide_eq_false (by omega)]; rfl
    · rw [if_neg h1, decide_eq_true (by omega : l[i].f1.length ≤ 100), Bool.true_and]
      by_cases h2 : (l[i].f3.length : Int) > 100
      · rw [if_pos h2, decide_eq_false (by omega)]; rfl
      · rw [if_neg h2, decide_eq_true (by omega : l[i].f3.length ≤ 100), Bool.true_and]
theorem Few08_f (l : List S28) (m : List Int) (k : Nat) (hk : 40 ≤ k) : banksmanref08_Few.f k l m = some (few08 l m) := by
  obtain ⟨k, rfl⟩ : ∃ m, k = m + 1 := ⟨k - 1, by omega⟩
  unfold banksmanref08_Few.f few08
  by_cases h : (l.length : Int) > 30
  · rw [if_pos h, decide_eq_false (by omega)]; rfl
  · rw [if_neg h, decide_eq_true (by omega : l.length ≤ 30), Bool.true_and, banksmanref08_Few.j0]
    by_cases h2 : (m.length : Int) > 30
    · rw [if_pos (by simpa using h2), decide_eq_false (by omega)]; rfl
    · rw [if_neg (by simpa using h2), decide_eq_true (by omega : m.length ≤ 30), Bool.true_and]
      have := few08_l0 l m (by omega) l.length 0 k (by omega) (by omega)
      rw [List.drop_zero] at this
      exact this
def Sm (n : Nat) (l : List S28) (m : List Int) : Prop := l.length ≤ n ∧ m.length ≤ n ∧ ∀ x ∈ l, x.f1.length ≤ 100 ∧ x.f3.length ≤ 100
theorem few_Sm {l : List S28} {m : List Int} (h : few08 l m = true) : Sm 30 l m := by
  unfold few08 at h
  simp only [Bool.and_eq_true, decide_eq_true_eq, List.all_eq_true] at h
  refine ⟨h.1, h.2.1, fun x hx => ?_⟩
  have := h.2.2 x hx
  unfold smW at this
  simpa using this
theorem own_f {n : Nat} (hn : n ≤ 1000) {l : List S28} {m : List Int} (h : Sm n l m) : delta_own.f l m = some (l, m) := by
  unfold delta_own.f okDw
  rw [if_pos]
  simp only [Bool.and_eq_true, decide_eq_true_eq, List.all_eq_true]
  exact ⟨⟨by have := h.1; omega, fun x hx => by have := h.2.2 x hx; omega⟩, by have := h.2.1; omega⟩
theorem dwrite_f (x : S28) (h1 : x.f1.length ≤ 100) (h3 : x.f3.length ≤ 100) : delta_write.f x.f0 x.f1 x.f2 x.f3 = some (x.f0, x.f1, x.f2, x.f3) := by
  unfold delta_write.f bytes_Clone.f
  rw [if_pos (by omega), Option.bind_some, if_pos (by omega)]
  rfl
theorem may_f (x : S28) : delta_may.f x.f0 x.f1 x.f2 x.f3 = some (mayB x) := by
  unfold delta_may.f mayB
  by_cases h0 : x.f0 ≥ 0
  · rw [if_pos h0, decide_eq_true (by omega : 0 ≤ x.f0), Bool.true_and]
    by_cases h1 : x.f0 < 4
    · rw [if_pos h1, decide_eq_true h1, Bool.true_and]
      by_cases h2 : (x.f1.length : Int) ≤ 16
      · rw [if_pos h2, decide_eq_true (by omega : x.f1.length ≤ 16), Bool.true_and]
        by_cases h3 : (x.f3.length : Int) ≤ 32
        · rw [if_pos h3, decide_eq_true (by omega : x.f3.length ≤ 32), Bool.true_and]
          cases x.f2
          · rfl
          · rw [if_pos rfl]
            congr 1
            by_cases h4 : x.f3.length = 0
            · rw [h4]; rfl
            · rw [beq_eq_false_iff_ne.2 (by omega), decide_eq_false h4]; rfl
        · rw [if_neg h3, decide_eq_false (by omega)]; rfl
      · rw [if_neg h2, decide_eq_false (by omega)]; rfl
    · rw [if_neg h1, decide_eq_false h1]; rfl
  · rw [if_neg h0, decide_eq_false (by omega)]; rfl
theorem writes_l0 (l : List S28) (hl : l.length ≤ 1000) : ∀ (d i k : Nat), i + d = l.length → d + 1 ≤ k → banksmanref08_Writes.l0 k l l (i : Int) = some true := by
  intro d
  induction d with
  | zero =>
    intro i k hi hk
    obtain ⟨k, rfl⟩ : ∃ m, k = m + 1 := ⟨k - 1, by omega⟩
    rw [banksmanref08_Writes.l0, if_neg (by omega)]
  | succ d ih =>
    intro i k hi hk
    obtain ⟨k, rfl⟩ : ∃ m, k = m + 1 := ⟨k - 1, by omega⟩
    have e2 : (i : Int) + 1 = ((i + 1 : Nat) : Int) := by omega
    rw [banksmanref08_Writes.l0, if_pos (by omega), if_pos (by omega), if_pos (by omega), if_pos rfl, if_pos rfl, if_neg (by simp), if_pos rfl, w64 (by omega) (by omega), e2, ih (i + 1) k (by omega) (by omega)]
theorem Writes_self (l : List S28) (hl : l.length ≤ 1000) {k : Nat} (hk : 1001 ≤ k) : banksmanref08_Writes.f k l l = some true := by
  unfold banksmanref08_Writes.f
  rw [if_pos rfl]
  exact writes_l0 l hl l.length 0 k (by omega) (by omega)
end Go.Proofs.Ytbjeaalbdaedpaa.Pure
