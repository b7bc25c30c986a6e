import Derived.Test.YtbjeaalbdaedpaaPx82
import Derived.Test.YtbjeaalbdaedpaaPx91
import Derived.Test.YtbjeaalbdaedpaaPx87
import Derived.Test.YtbjeaalbdaedpaaPx44
namespace Go.Proofs.Ytbjeaalbdaedpaa.Pure
open Go.RowKit Go.Proofs.Ytbjeaalbdaedpaa.P Go.Proofs.YtbjeaalbdaedpaaW.PrintWords Go.Proofs.YtbjeaalbdaedpaaW.PrintLast
set_option linter.unusedVariables false
set_option linter.unusedSimpArgs false
theorem w64 {x : Int} (h0 : -9223372036854775808 ≤ x) (h1 : x ≤ 9223372036854775807) : wrap64 x = x := by unfold wrap64; omega
theorem rd28 {l : List S28} {i : Nat} (h : i < l.length) : rd_T28 l (i : Int) = l[i] := by
  unfold rd_T28; rw [Int.toNat_natCast]; simp [List.getD_eq_getElem?_getD, h]
theorem rdI {l : List Int} {i : Nat} (h : i < l.length) : rd l (i : Int) = l[i] := by
  unfold rd; rw [Int.toNat_natCast]; simp [List.getD_eq_getElem?_getD, h]
theorem all_split {α : Type} (l : List α) (n : Nat) (h : n < l.length) (p : α → Bool) : (l.drop n).all p = (p l[n] && (l.drop (n + 1)).all p) := by
  rw [List.drop_eq_getElem_cons h, List.all_cons]
def smW (x : S28) : Bool := decide (x.f1.length ≤ 100) && decide (x.f3.length ≤ 100)
def few08 (l : List S28) (m : List Int) : Bool := decide (l.length ≤ 30) && (decide (m.length ≤ 30) && l.all smW)
theorem few08_l0 (l : List S28) (e : List Int) (hl : l.length ≤ 30) : ∀ (d i k : Nat), i + d = l.length → d + 1 ≤ k → 
    banksmanref08_Few.l0 k (i : Int) l e = some ((l.drop i).all smW) := by
  intro d
  induction d with
  | zero =>
    intro i k hi hk
    obtain ⟨k, rfl⟩ : ∃ m, k = m + 1 := ⟨k - 1, by omega⟩
    rw [banksmanref08_Few.l0, if_neg (by omega), List.drop_of_length_le (by omega)]
    rfl
  | succ d ih =>
    intro i k hi hk
    obtain ⟨k, rfl⟩ : ∃ m, k = m + 1 := ⟨k - 1, by omega⟩
    have hil : i < l.length := by omega
    have e2 : (i : Int) + 1 = ((i + 1 : Nat) : Int) := by omega
    rw [banksmanref08_Few.l0, if_pos (by omega), if_pos (by omega), rd28 hil, w64 (by omega) (by omega), e2, ih (i + 1) k (by omega) (by omega), all_split l i hil]
    have e3 : smW l[i] = (decide (l[i].f1.length ≤ 100) && decide (l[i].f3.length ≤ 100)) := rfl
    rw [e3]
    by_cases h1 : (l[i].f1.length : Int) > 100
    · rw [if_pos h1, decide_eq_false (by omega)]; rfl
    · rw [if_neg h1, decide_eq_true (by omega : l[i].f1.length ≤ 100), Bool.true_and]
      by_cases h2 : (l[i].f3.length : Int) > 100
      · rw [if_pos h2, decide_eq_false (by omega)]; rfl
      · rw [if_neg h2, decide_eq_true (by omega : l[i].f3.length ≤ 100), Bool.true_and]
theorem Few08_f (l : List S28) (m : List Int) (k : Nat) (hk : 40 ≤ k) : banksmanref08_Few.f k l m = some (few08 l m) := by
  obtain ⟨k, rfl⟩ : ∃ m, k = m + 1 := ⟨k - 1, by omega⟩
  unfold banksmanref08_Few.f few08
  by_cases h : (l.length : Int) > 30
  · rw [if_pos h, decide_eq_false (by omega)]; rfl
  · rw [if_neg h, decide_eq_true (by omega : l.length ≤ 30), Bool.true_and, banksmanref08_Few.j0]
    by_cases h2 : (m.length : Int) > 30
    · rw [if_pos (by simpa using h2), decide_eq_false (by omega)]; rfl
    · rw [if_neg (by simpa using h2), decide_eq_true (by omega : m.length ≤ 30), Bool.true_and]
      have := few08_l0 l m (by omega) l.length 0 k (by omega) (by omega)
      rw [List.drop_zero] at this
      exact this
def Sm (n : Nat) (l : List S28) (m : List Int) : Prop := l.length ≤ n ∧ m.length ≤ n ∧ ∀ x ∈ l, x.f1.length ≤ 100 ∧ x.f3.length ≤ 100
theorem few_Sm {l : List S28} {m : List Int} (h : few08 l m = true) : Sm 30 l m := by
  unfold few08 at h
  simp only [Bool.and_eq_true, decide_eq_true_eq, List.all_eq_true] at h
  refine ⟨h.1, h.2.1, fun x hx => ?_⟩
  have := h.2.2 x hx
  unfold smW at this
  simpa using this
theorem own_f {n : Nat} (hn : n ≤ 1000) {l : List S28} {m : List Int} (h : Sm n l m) : delta_own.f l m = some (l, m) := by
  unfold delta_own.f okDw
  rw [if_pos]
  simp only [Bool.and_eq_true, decide_eq_true_eq, List.all_eq_true]
  exact ⟨⟨by have := h.1; omega, fun x hx => by have := h.2.2 x hx; omega⟩, by have := h.2.1; omega⟩
theorem write_f (x : S28) (h1 : x.f1.length ≤ 100) (h3 : x.f3.length ≤ 100) : banksmanref08_write.f x.f0 x.f1 x.f2 x.f3 = some (x.f0, x.f1, x.f2, x.f3) := by
  unfold banksmanref08_write.f
  rw [Option.bind_some, if_pos (by simp; omega), Option.bind_some, if_pos (by simp; omega)]
  rfl
theorem dwrite_f (x : S28) (h1 : x.f1.length ≤ 100) (h3 : x.f3.length ≤ 100) : delta_write.f x.f0 x.f1 x.f2 x.f3 = some (x.f0, x.f1, x.f2, x.f3) := by
  unfold delta_write.f bytes_Clone.f
  rw [if_pos (by omega), Option.bind_some, if_pos (by omega)]
  rfl
theorem copy_l0 {n : Nat} (hn : n ≤ 1000) {l : List S28} {m : List Int} (h : Sm n l m) : ∀ (d i k : Nat), i + d = l.length → d + 1 ≤ k → banksmanref08_Copy.l0 k (i : Int) l m (l.take i) m = some (l, m) := by
  intro d
  have hl := h.1
  induction d with
  | zero =>
    intro i k hi hk
    obtain ⟨k, rfl⟩ : ∃ m, k = m + 1 := ⟨k - 1, by omega⟩
    rw [banksmanref08_Copy.l0, if_neg (by omega), List.take_of_length_le (by omega)]
  | succ d ih =>
    intro i k hi hk
    obtain ⟨k, rfl⟩ : ∃ m, k = m + 1 := ⟨k - 1, by omega⟩
    have hil : i < l.length := by omega
    have e2 : (i : Int) + 1 = ((i + 1 : Nat) : Int) := by omega
    obtain ⟨g1, g3⟩ := h.2.2 l[i] (List.getElem_mem hil)
    rw [banksmanref08_Copy.l0, if_pos (by omega), if_pos (by omega), rd28 hil, write_f _ g1 g3, Option.bind_some, if_pos (by rw [List.length_take]; omega), w64 (by omega) (by omega), e2]
    have e3 : l.take i ++ [(⟨l[i].f0, l[i].f1, l[i].f2, l[i].f3⟩ : S28)] = l.take (i + 1) := by rw [List.take_succ_eq_append_getElem hil]
    rw [e3]
    exact ih (i + 1) k (by omega) (by omega)
theorem Copy_f {n : Nat} (hn : n ≤ 1000) {l : List S28} {m : List Int} (h : Sm n l m) {k : Nat} (hk : n + 1 ≤ k) : banksmanref08_Copy.f k l m = some (l, m) := by
  unfold banksmanref08_Copy.f
  have h1 := h.1
  have h2 := h.2.1
  rw [Option.bind_some, if_pos (by simp; omega)]
  have := copy_l0 hn h l.length 0 k (by omega) (by omega)
  simpa using this
theorem may_f (x : S28) : delta_may.f x.f0 x.f1 x.f2 x.f3 = some (mayB x) := by
  unfold delta_may.f mayB
  by_cases h0 : x.f0 ≥ 0
  · rw [if_pos h0, decide_eq_true (by omega : 0 ≤ x.f0), Bool.true_and]
    by_cases h1 : x.f0 < 4
    · rw [if_pos h1, decide_eq_true h1, Bool.true_and]
      by_cases h2 : (x.f1.length : Int) ≤ 16
      · rw [if_pos h2, decide_eq_true (by omega : x.f1.length ≤ 16), Bool.true_and]
        by_cases h3 : (x.f3.length : Int) ≤ 32
        · rw [if_pos h3, decide_eq_true (by omega : x.f3.length ≤ 32), Bool.true_and]
          cases x.f2
          · rfl
          · rw [if_pos rfl]
            congr 1
            by_cases h4 : x.f3.length = 0
            · rw [h4]; rfl
            · rw [beq_eq_false_iff_ne.2 (by omega), decide_eq_false h4]; rfl
        · rw [if_neg h3, decide_eq_false (by omega)]; rfl
      · rw [if_neg h2, decide_eq_false (by omega)]; rfl
    · rw [if_neg h1, decide_eq_false h1]; rfl
  · rw [if_neg h0, decide_eq_false (by omega)]; rfl
theorem May_f (x : S28) : banksmanref07_May.f x.f0 x.f1 x.f2 x.f3 = some (mayB x) := by
  rw [← may_f]
  unfold banksmanref07_May.f delta_may.f
  by_cases h0 : x.f0 ≥ 0
  · rw [if_pos h0, if_pos h0]
    by_cases h1 : x.f0 < 4
    · rw [if_pos h1, if_pos (by omega)]
    · rw [if_neg h1, if_neg (by omega)]
  · rw [if_neg h0, if_neg h0]
def chkM (n : Nat) (m : List Int) (j : Nat) : Bool := !(decide (rd m (j : Int) < 0) || decide ((n : Int) < rd m (j : Int))) && (decide (j = 0) || decide (rd m ((j : Int) - 1) ≤ rd m (j : Int)))
theorem check_l1 (l : List S28) (m : List Int) (hm : m.length ≤ 1000) : ∀ (d i k : Nat), i + d = m.length → d + 1 ≤ k →
    banksmanref08_Check.l1 k (i : Int) l m = some (((List.range m.length).drop i).all (chkM l.length m)) := by
  intro d
  induction d with
  | zero =>
    intro i k hi hk
    obtain ⟨k, rfl⟩ : ∃ m, k = m + 1 := ⟨k - 1, by omega⟩
    rw [banksmanref08_Check.l1, if_neg (by omega), List.drop_of_length_le (by simp; omega)]
    rfl
  | succ d ih =>
    intro i k hi hk
    obtain ⟨k, rfl⟩ : ∃ m, k = m + 1 := ⟨k - 1, by omega⟩
    have hil : i < m.length := by omega
    have e2 : (i : Int) + 1 = ((i + 1 : Nat) : Int) := by omega
    have hir : i < (List.range m.length).length := by simpa using hil
    rw [banksmanref08_Check.l1, if_pos (by omega), if_pos (by omega), w64 (x := (i : Int) + 1) (by omega) (by omega), e2, ih (i + 1) k (by omega) (by omega), all_split _ i hir, List.getElem_range]
    have e3 : chkM l.length m i = (!(decide (rd m (i : Int) < 0) || decide ((l.length : Int) < rd m (i : Int))) && (decide (i = 0) || decide (rd m ((i : Int) - 1) ≤ rd m (i : Int)))) := rfl
    rw [e3]
    by_cases h1 : rd m (i : Int) < 0
    · rw [if_pos h1, decide_eq_true h1]; rfl
    rw [if_neg h1, decide_eq_false h1, Bool.false_or]
    by_cases h2 : rd m (i : Int) > (l.length : Int)
    · rw [if_pos h2, decide_eq_true (by omega : (l.length : Int) < rd m (i : Int))]; rfl
    rw [if_neg h2, decide_eq_false (by omega)]
    by_cases h3 : (i : Int) > 0
    · rw [if_pos h3, w64 (x := (i : Int) - 1) (by omega) (by omega), if_pos (by omega), if_pos (by omega), decide_eq_false (by omega : ¬ i = 0), Bool.false_or]
      by_cases h4 : rd m ((i : Int) - 1) > rd m (i : Int)
      · rw [if_pos h4, decide_eq_false (by omega)]; rfl
      · rw [if_neg h4, decide_eq_true (by omega : rd m ((i : Int) - 1) ≤ rd m (i : Int))]; rfl
    · rw [if_neg h3, decide_eq_true (by omega : i = 0)]; rfl
theorem check_l0 (l : List S28) (m : List Int) (hl : l.length ≤ 1000) (hm : m.length ≤ 1000) : ∀ (d i k : Nat), i + d = l.length → d + m.length + 2 ≤ k →
    banksmanref08_Check.l0 k (i : Int) l m = some ((l.drop i).all mayB && (List.range m.length).all (chkM l.length m)) := by
  intro d
  induction d with
  | zero =>
    intro i k hi hk
    obtain ⟨k, rfl⟩ : ∃ m, k = m + 1 := ⟨k - 1, by omega⟩
    rw [banksmanref08_Check.l0, if_neg (by omega), List.drop_of_length_le (by omega)]
    have := check_l1 l m hm m.length 0 k (by omega) (by omega)
    rw [List.drop_zero] at this
    exact this
  | succ d ih =>
    intro i k hi hk
    obtain ⟨k, rfl⟩ : ∃ m, k = m + 1 := ⟨k - 1, by omega⟩
    have hil : i < l.length := by omega
    have e2 : (i : Int) + 1 = ((i + 1 : Nat) : Int) := by omega
    rw [banksmanref08_Check.l0, if_pos (by omega), if_pos (by omega), rd28 hil, May_f, Option.bind_some, w64 (by omega) (by omega), e2, ih (i + 1) k (by omega) (by omega), all_split l i hil]
    cases mayB l[i] <;> rfl
theorem chk_eq (l : List S28) (m : List Int) : (l.all mayB && (List.range m.length).all (chkM l.length m)) = (!(l.any fun x => !mayB x) && (!(m.any fun n => decide (n < 0) || decide ((l.length : Int) < n)) && sortedB m)) := by
  have e1 : (l.all mayB) = !(l.any fun x => !mayB x) := by simp [List.all_eq_not_any_not]
  rw [e1]
  congr 1
  rw [Bool.eq_iff_iff]
  unfold sortedB
  simp only [Bool.and_eq_true, List.all_eq_true, List.mem_range, Bool.not_eq_true', List.any_eq_false, Bool.or_eq_true, decide_eq_true_eq, chkM, Bool.or_eq_false_iff, decide_eq_false_iff_not, not_or]
  constructor
  · intro h
    refine ⟨fun x hx => ?_, fun j hj => ?_⟩
    · obtain ⟨i, hi, rfl⟩ := List.getElem_of_mem hx
      have := (h i hi).1
      rw [rdI hi] at this
      exact this
    · have := (h (j + 1) (by omega)).2
      have e : ((j + 1 : Nat) : Int) - 1 = (j : Int) := by omega
      rw [e] at this
      have e' : ((j + 1 : Nat) : Int) = (j : Int) + 1 := by omega
      rw [e'] at this
      exact this.resolve_left (by omega)
  · rintro ⟨h1, h2⟩ i hi
    refine ⟨?_, ?_⟩
    · rw [rdI hi]; exact h1 _ (List.getElem_mem hi)
    · rcases i with _ | i
      · exact .inl rfl
      · right
        have := h2 i (by omega)
        have e : ((i + 1 : Nat) : Int) - 1 = (i : Int) := by omega
        have e' : ((i + 1 : Nat) : Int) = (i : Int) + 1 := by omega
        rw [e, e']
        exact this
theorem Check_f {n : Nat} (hn : n ≤ 1000) {l : List S28} {m : List Int} (h : Sm n l m) {k : Nat} (hk : 30 ≤ k) : banksmanref08_Check.f k l m = some (checkD l m) := by
  obtain ⟨k, rfl⟩ : ∃ m, k = m + 1 := ⟨k - 1, by omega⟩
  have hl := h.1
  have hm := h.2.1
  unfold banksmanref08_Check.f checkD
  by_cases h1 : (l.length : Int) > 20
  · rw [if_pos h1, banksmanref08_Check.j0, if_pos rfl, decide_eq_false (by omega)]; rfl
  · rw [if_neg h1, banksmanref08_Check.j0, decide_eq_true (by omega : l.length ≤ 20), Bool.true_and]
    by_cases h2 : (m.length : Int) > 4
    · rw [if_pos (by simpa using h2), decide_eq_false (by omega)]; rfl
    · rw [if_neg (by simpa using h2), decide_eq_true (by omega : m.length ≤ 4), Bool.true_and]
      have := check_l0 l m (by omega) (by omega) l.length 0 k (by omega) (by omega)
      rw [List.drop_zero, chk_eq] at this
      exact this
theorem writes_l0 (l : List S28) (hl : l.length ≤ 1000) : ∀ (d i k : Nat), i + d = l.length → d + 1 ≤ k → banksmanref08_Writes.l0 k l l (i : Int) = some true := by
  intro d
  induction d with
  | zero =>
    intro i k hi hk
    obtain ⟨k, rfl⟩ : ∃ m, k = m + 1 := ⟨k - 1, by omega⟩
    rw [banksmanref08_Writes.l0, if_neg (by omega)]
  | succ d ih =>
    intro i k hi hk
    obtain ⟨k, rfl⟩ : ∃ m, k = m + 1 := ⟨k - 1, by omega⟩
    have e2 : (i : Int) + 1 = ((i + 1 : Nat) : Int) := by omega
    rw [banksmanref08_Writes.l0, if_pos (by omega), if_pos (by omega), if_pos (by omega), if_pos rfl, if_pos rfl, if_neg (by simp), if_pos rfl, w64 (by omega) (by omega), e2, ih (i + 1) k (by omega) (by omega)]
theorem Writes_self (l : List S28) (hl : l.length ≤ 1000) {k : Nat} (hk : 1001 ≤ k) : banksmanref08_Writes.f k l l = some true := by
  unfold banksmanref08_Writes.f
  rw [if_pos rfl]
  exact writes_l0 l hl l.length 0 k (by omega) (by omega)
theorem same_l0 (l : List S28) (m : List Int) (hm : m.length ≤ 1000) : ∀ (d i k : Nat), i + d = m.length → d + 1 ≤ k → banksmanref08_Same.l0 k (i : Int) l m l m = some true := by
  intro d
  induction d with
  | zero =>
    intro i k hi hk
    obtain ⟨k, rfl⟩ : ∃ m, k = m + 1 := ⟨k - 1, by omega⟩
    rw [banksmanref08_Same.l0, if_neg (by omega)]
  | succ d ih =>
    intro i k hi hk
    obtain ⟨k, rfl⟩ : ∃ m, k = m + 1 := ⟨k - 1, by omega⟩
    have e2 : (i : Int) + 1 = ((i + 1 : Nat) : Int) := by omega
    rw [banksmanref08_Same.l0, if_pos (by omega), if_pos (by omega), if_pos (by omega), if_pos rfl, w64 (by omega) (by omega), e2, ih (i + 1) k (by omega) (by omega)]
theorem Same_self (l : List S28) (m : List Int) (hl : l.length ≤ 1000) (hm : m.length ≤ 1000) {k : Nat} (hk : 1010 ≤ k) : banksmanref08_Same.f k l m l m = some true := by
  obtain ⟨k, rfl⟩ : ∃ m, k = m + 1 := ⟨k - 1, by omega⟩
  unfold banksmanref08_Same.f
  rw [Writes_self l hl (by omega), Option.bind_some, if_pos rfl, banksmanref08_Same.j0, if_neg (by simp)]
  exact same_l0 l m hm m.length 0 k (by omega) (by omega)
end Go.Proofs.Ytbjeaalbdaedpaa.Pure
