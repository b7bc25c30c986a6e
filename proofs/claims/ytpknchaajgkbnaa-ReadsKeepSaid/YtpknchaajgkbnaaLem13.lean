/- Proved: the reference's Few of layers 8, 10, 13, and that its comparisons of spans, writes, and of those who committed, tell what is alike. -/
import Derived.Test.YtpknchaajgkbnaaPx57
import Derived.Test.YtpknchaajgkbnaaPx48
import Derived.Test.YtpknchaajgkbnaaPx59
import Derived.Test.YtpknchaajgkbnaaPx43
import Derived.Laws.Cover1
namespace Go.Proofs.Ytpknchaajgkbnaa.Pure
open Go.RowKit Go.Proofs.Ytpknchaajgkbnaa.P Go.Proofs.YtpknchaajgkbnaaW.PrintWords Go.Proofs.YtpknchaajgkbnaaW.PrintLast
set_option linter.unusedVariables false
set_option linter.unusedSimpArgs false

theorem w64 {x : Int} (h0 : -9223372036854775808 ≤ x) (h1 : x ≤ 9223372036854775807) : wrap64 x = x := by unfold wrap64; omega
theorem rd34 {l : List S34} {i : Nat} (h : i < l.length) : rd_T34 l (i : Int) = l[i] := by
  unfold rd_T34; rw [Int.toNat_natCast]; simp [List.getD_eq_getElem?_getD, h]
theorem rd38 {l : List S38} {i : Nat} (h : i < l.length) : rd_T38 l (i : Int) = l[i] := by
  unfold rd_T38; rw [Int.toNat_natCast]; simp [List.getD_eq_getElem?_getD, h]
theorem rd46 {l : List S46} {i : Nat} (h : i < l.length) : rd_T46 l (i : Int) = l[i] := by
  unfold rd_T46; rw [Int.toNat_natCast]; simp [List.getD_eq_getElem?_getD, h]
theorem rd29 {l : List S29} {i : Nat} (h : i < l.length) : rd_T29 l (i : Int) = l[i] := by
  unfold rd_T29; rw [Int.toNat_natCast]; simp [List.getD_eq_getElem?_getD, h]
def few10 (l : List S38) : Bool := decide (l.length ≤ 100) && l.all fun x => decide (x.f1.length ≤ 100) && decide (x.f2.length ≤ 100)
def few08 (l : List S46) : Bool := decide (l.length ≤ 30) && l.all fun x => decide (x.f1.length ≤ 100) && decide (x.f3.length ≤ 100)
def few13 (l : List S34) (v : List S29) : Bool := decide (l.length ≤ 30) && decide (v.length ≤ 30) && (l.all fun p => few10 p.f3 && (few08 p.f4 && decide (p.f3.length ≤ 30))) && v.all fun x => few10 x.f1 && decide (x.f1.length ≤ 30)
theorem all_split {α : Type} (l : List α) (n : Nat) (h : n < l.length) (p : α → Bool) : (l.drop n).all p = (p l[n] && (l.drop (n + 1)).all p) := by
  rw [List.drop_eq_getElem_cons h, List.all_cons]
theorem few10_l0 (l : List S38) (hl : l.length ≤ 100) : ∀ (d i k : Nat), i + d = l.length → d + 1 ≤ k → 
    banksmanref10_Few.l0 k l (i : Int) = some ((l.drop i).all fun x => decide (x.f1.length ≤ 100) && decide (x.f2.length ≤ 100)) := by
  intro d
  induction d with
  | zero =>
    intro i k hi hk
    obtain ⟨k, rfl⟩ : ∃ m, k = m + 1 := ⟨k - 1, by omega⟩
    rw [banksmanref10_Few.l0, if_neg (by omega), List.drop_of_length_le (by omega)]
    rfl
  | succ d ih =>
    intro i k hi hk
    obtain ⟨k, rfl⟩ : ∃ m, k = m + 1 := ⟨k - 1, by omega⟩
    have hil : i < l.length := by omega
    have e2 : (i : Int) + 1 = ((i + 1 : Nat) : Int) := by omega
    rw [banksmanref10_Few.l0, if_pos (by omega), if_pos (by omega), rd38 hil, w64 (by omega) (by omega), e2, ih (i + 1) k (by omega) (by omega), all_split l i hil]
    by_cases h1 : (l[i].f1.length : Int) > 100
    · rw [if_pos h1, decide_eq_false (by omega)]; rfl
    · rw [if_neg h1, decide_eq_true (by omega : l[i].f1.length ≤ 100), Bool.true_and]
      by_cases h2 : (l[i].f2.length : Int) > 100
      · rw [if_pos h2, decide_eq_false (by omega)]; rfl
      · rw [if_neg h2, decide_eq_true (by omega : l[i].f2.length ≤ 100), Bool.true_and]
theorem Few10_f (l : List S38) (k : Nat) (hk : 101 ≤ k) : banksmanref10_Few.f k l = some (few10 l) := by
  unfold banksmanref10_Few.f few10
  by_cases h : (l.length : Int) > 100
  · rw [if_pos h, decide_eq_false (by omega)]; rfl
  · rw [if_neg h, decide_eq_true (by omega : l.length ≤ 100), Bool.true_and]
    have := few10_l0 l (by omega) l.length 0 k (by omega) (by omega)
    rw [List.drop_zero] at this
    exact this
theorem few08_l0 (l : List S46) (e : List Int) (hl : l.length ≤ 30) : ∀ (d i k : Nat), i + d = l.length → d + 1 ≤ k → 
    banksmanref08_Few.l0 k (i : Int) l e = some ((l.drop i).all fun x => decide (x.f1.length ≤ 100) && decide (x.f3.length ≤ 100)) := by
  intro d
  induction d with
  | zero =>
    intro i k hi hk
    obtain ⟨k, rfl⟩ : ∃ m, k = m + 1 := ⟨k - 1, by omega⟩
    rw [banksmanref08_Few.l0, if_neg (by omega), List.drop_of_length_le (by omega)]
    rfl
  | succ d ih =>
    intro i k hi hk
    obtain ⟨k, rfl⟩ : ∃ m, k = m + 1 := ⟨k - 1, by omega⟩
    have hil : i < l.length := by omega
    have e2 : (i : Int) + 1 = ((i + 1 : Nat) : Int) := by omega
    rw [banksmanref08_Few.l0, if_pos (by omega), if_pos (by omega), rd46 hil, w64 (by omega) (by omega), e2, ih (i + 1) k (by omega) (by omega), all_split l i hil]
    by_cases h1 : (l[i].f1.length : Int) > 100
    · rw [if_pos h1, decide_eq_false (by omega)]; rfl
    · rw [if_neg h1, decide_eq_true (by omega : l[i].f1.length ≤ 100), Bool.true_and]
      by_cases h2 : (l[i].f3.length : Int) > 100
      · rw [if_pos h2, decide_eq_false (by omega)]; rfl
      · rw [if_neg h2, decide_eq_true (by omega : l[i].f3.length ≤ 100), Bool.true_and]
theorem Few08_f (l : List S46) (k : Nat) (hk : 40 ≤ k) : banksmanref08_Few.f k l ([] : List Int) = some (few08 l) := by
  obtain ⟨k, rfl⟩ : ∃ m, k = m + 1 := ⟨k - 1, by omega⟩
  unfold banksmanref08_Few.f few08
  by_cases h : (l.length : Int) > 30
  · rw [if_pos h, decide_eq_false (by omega)]; rfl
  · rw [if_neg h, decide_eq_true (by omega : l.length ≤ 30), Bool.true_and, banksmanref08_Few.j0, if_neg (by simp)]
    have := few08_l0 l [] (by omega) l.length 0 k (by omega) (by omega)
    rw [List.drop_zero] at this
    exact this
theorem few13_l1 (v : List S29) (hv : v.length ≤ 30) : ∀ (d i k : Nat), i + d = v.length → d + 200 ≤ k → 
    banksmanref13_Few.l1 k v (i : Int) = some ((v.drop i).all fun x => few10 x.f1 && decide (x.f1.length ≤ 30)) := by
  intro d
  induction d with
  | zero =>
    intro i k hi hk
    obtain ⟨k, rfl⟩ : ∃ m, k = m + 1 := ⟨k - 1, by omega⟩
    rw [banksmanref13_Few.l1, if_neg (by omega), List.drop_of_length_le (by omega)]
    rfl
  | succ d ih =>
    intro i k hi hk
    obtain ⟨k, rfl⟩ : ∃ m, k = m + 1 := ⟨k - 1, by omega⟩
    have hil : i < v.length := by omega
    have e2 : (i : Int) + 1 = ((i + 1 : Nat) : Int) := by omega
    rw [banksmanref13_Few.l1, if_pos (by omega), if_pos (by omega), rd29 hil, w64 (by omega) (by omega), e2, ih (i + 1) k (by omega) (by omega), all_split v i hil, Few10_f _ _ (by omega), Option.bind_some]
    cases few10 v[i].f1 with
    | false => rfl
    | true =>
      rw [if_pos rfl]
      by_cases h2 : (v[i].f1.length : Int) > 30
      · rw [if_pos h2, decide_eq_false (by omega)]; rfl
      · rw [if_neg h2, decide_eq_true (by omega : v[i].f1.length ≤ 30)]; rfl
theorem few13_l0 (l : List S34) (v : List S29) (hl : l.length ≤ 30) (hv : v.length ≤ 30) : ∀ (d i k : Nat), i + d = l.length → d + 300 ≤ k → 
    banksmanref13_Few.l0 k l v (i : Int) = some (((l.drop i).all fun p => few10 p.f3 && (few08 p.f4 && decide (p.f3.length ≤ 30))) && v.all fun x => few10 x.f1 && decide (x.f1.length ≤ 30)) := by
  intro d
  induction d with
  | zero =>
    intro i k hi hk
    obtain ⟨k, rfl⟩ : ∃ m, k = m + 1 := ⟨k - 1, by omega⟩
    have := few13_l1 v hv v.length 0 k (by omega) (by omega)
    rw [List.drop_zero] at this
    rw [banksmanref13_Few.l0, if_neg (by omega), List.drop_of_length_le (by omega), List.all_nil, Bool.true_and, ← this]
    rfl
  | succ d ih =>
    intro i k hi hk
    obtain ⟨k, rfl⟩ : ∃ m, k = m + 1 := ⟨k - 1, by omega⟩
    have hil : i < l.length := by omega
    have e2 : (i : Int) + 1 = ((i + 1 : Nat) : Int) := by omega
    rw [banksmanref13_Few.l0, if_pos (by omega), if_pos (by omega), rd34 hil, w64 (by omega) (by omega), e2, ih (i + 1) k (by omega) (by omega), all_split l i hil, Few10_f _ _ (by omega), Option.bind_some, Few08_f _ _ (by omega), Option.bind_some]
    cases few10 l[i].f3 with
    | false => rfl
    | true =>
      rw [if_pos rfl]
      cases few08 l[i].f4 with
      | false => rfl
      | true =>
        rw [if_pos rfl]
        by_cases h2 : (l[i].f3.length : Int) > 30
        · rw [if_pos h2, decide_eq_false (by omega)]; rfl
        · rw [if_neg h2, decide_eq_true (by omega : l[i].f3.length ≤ 30)]; rfl
theorem Few13_f (l : List S34) (v : List S29) (k : Nat) (hk : 400 ≤ k) : banksmanref13_Few.f k l v = some (few13 l v) := by
  obtain ⟨k, rfl⟩ : ∃ m, k = m + 1 := ⟨k - 1, by omega⟩
  unfold banksmanref13_Few.f few13
  by_cases h : (l.length : Int) > 30
  · rw [if_pos h, decide_eq_false (by omega)]; rfl
  · rw [if_neg h, decide_eq_true (by omega : l.length ≤ 30), Bool.true_and, banksmanref13_Few.j0]
    by_cases h2 : (v.length : Int) > 30
    · rw [if_pos (decide_eq_true h2), decide_eq_false (by omega)]; rfl
    · rw [if_neg (by simpa using h2), decide_eq_true (by omega : v.length ≤ 30), Bool.true_and]
      have := few13_l0 l v (by omega) (by omega) l.length 0 k (by omega) (by omega)
      rw [List.drop_zero] at this
      exact this

/-! Meets and Judge -/
def meetB (snap : Int) (l : List S34) : List S34 := l.filter fun p => decide (snap < p.f1)
theorem okPa_of {p : S34} (h3 : p.f3.length < 1000000) (h4 : p.f4.length < 1000000) (hs : ∀ x ∈ p.f3, x.f1.length ≤ 1000 ∧ x.f2.length ≤ 1000) (hw : ∀ x ∈ p.f4, x.f1.length ≤ 1000 ∧ x.f3.length ≤ 1000) : okPa p = true := by
  unfold okPa
  rw [decide_eq_true (by omega), decide_eq_true (by omega), Bool.true_and, Bool.true_and, Bool.and_eq_true]
  refine ⟨List.all_eq_true.mpr fun x hx => ?_, List.all_eq_true.mpr fun x hx => ?_⟩
  · unfold okSp; rw [decide_eq_true (by have := hs x hx; omega), decide_eq_true (by have := hs x hx; omega)]; rfl
  · unfold okWr; rw [decide_eq_true (by have := hw x hx; omega), decide_eq_true (by have := hw x hx; omega)]; rfl
theorem few10_mem {l : List S38} (h : few10 l = true) : l.length ≤ 100 ∧ ∀ x ∈ l, x.f1.length ≤ 100 ∧ x.f2.length ≤ 100 := by
  unfold few10 at h
  simp only [Bool.and_eq_true, decide_eq_true_eq, List.all_eq_true] at h
  exact h
theorem few08_mem {l : List S46} (h : few08 l = true) : l.length ≤ 30 ∧ ∀ x ∈ l, x.f1.length ≤ 100 ∧ x.f3.length ≤ 100 := by
  unfold few08 at h
  simp only [Bool.and_eq_true, decide_eq_true_eq, List.all_eq_true] at h
  exact h
theorem few13_mem {l : List S34} {v : List S29} (h : few13 l v = true) : l.length ≤ 30 ∧ v.length ≤ 30 ∧ (∀ p ∈ l, few10 p.f3 = true ∧ few08 p.f4 = true ∧ p.f3.length ≤ 30) ∧ ∀ x ∈ v, few10 x.f1 = true ∧ x.f1.length ≤ 30 := by
  unfold few13 at h
  simp only [Bool.and_eq_true, decide_eq_true_eq, List.all_eq_true] at h
  exact ⟨h.1.1.1, h.1.1.2, h.1.2, h.2⟩
theorem okPa_few {p : S34} (h3 : few10 p.f3 = true) (h4 : few08 p.f4 = true) : okPa p = true := by
  have a := few10_mem h3
  have b := few08_mem h4
  exact okPa_of (by omega) (by omega) (fun x hx => by have := a.2 x hx; omega) (fun x hx => by have := b.2 x hx; omega)
/-! comparing: an answer, and it is yes where both are one -/
theorem one10_def (x y : S38) : ∃ b, banksmanref10_One.f x.f0 x.f1 x.f2 x.f3 y.f0 y.f1 y.f2 y.f3 = some b ∧ (x = y → b = true) := by
  unfold banksmanref10_One.f
  by_cases h : x = y
  · subst h
    rw [if_pos rfl, if_pos rfl, if_pos rfl]
    exact ⟨_, rfl, fun _ => by cases x.f3 <;> rfl⟩
  · repeat' split
    all_goals exact ⟨_, rfl, fun e => absurd e h⟩
theorem same10_l0 (l m : List S38) (hl : l.length ≤ 100) (hm : l.length = m.length) : ∀ (d i k : Nat), i + d = l.length → d + 1 ≤ k → ∃ b, banksmanref10_Same.l0 k l m (i : Int) = some b ∧ (l = m → b = true)
  | d, i, 0, _, hk => by omega
  | 0, i, k + 1, hi, _ => ⟨true, by rw [banksmanref10_Same.l0, if_neg (by omega)], fun _ => rfl⟩
  | d + 1, i, k + 1, hi, hk => by
    have hlt : i < l.length := by omega
    have hlt2 : i < m.length := by omega
    rw [banksmanref10_Same.l0, if_pos (by omega), if_pos (by omega), if_pos (by omega), rd38 hlt, rd38 hlt2, w64 (by omega) (by omega), show ((i : Int) + 1) = ((i + 1 : Nat) : Int) by omega]
    obtain ⟨b, hb, he⟩ := one10_def l[i] m[i]
    rw [hb, Option.bind_some]
    obtain ⟨c, hc, he2⟩ := same10_l0 l m hl hm d (i + 1) k (by omega) (by omega)
    cases b
    · exact ⟨false, rfl, fun e => by have := he (by subst e; rfl); cases this⟩
    · exact ⟨c, hc, he2⟩
theorem Same10_def (l m : List S38) (hl : l.length ≤ 100) (k : Nat) (hk : 101 ≤ k) : ∃ b, banksmanref10_Same.f k l m = some b ∧ (l = m → b = true) := by
  unfold banksmanref10_Same.f
  by_cases h : (l.length : Int) = (m.length : Int)
  · rw [if_pos h]
    exact same10_l0 l m hl (by omega) l.length 0 k (by omega) (by omega)
  · rw [if_neg h]
    exact ⟨false, rfl, fun e => absurd (by rw [e]) h⟩
theorem writes_l0 (l m : List S46) (hl : l.length ≤ 100) (hm : l.length = m.length) : ∀ (d i k : Nat), i + d = l.length → d + 1 ≤ k → ∃ b, banksmanref08_Writes.l0 k l m (i : Int) = some b ∧ (l = m → b = true)
  | d, i, 0, _, hk => by omega
  | 0, i, k + 1, hi, _ => ⟨true, by rw [banksmanref08_Writes.l0, if_neg (by omega)], fun _ => rfl⟩
  | d + 1, i, k + 1, hi, hk => by
    have hlt : i < l.length := by omega
    have hlt2 : i < m.length := by omega
    rw [banksmanref08_Writes.l0, if_pos (by omega), if_pos (by omega), if_pos (by omega), rd46 hlt, rd46 hlt2, w64 (by omega) (by omega), show ((i : Int) + 1) = ((i + 1 : Nat) : Int) by omega]
    obtain ⟨c, hc, he2⟩ := writes_l0 l m hl hm d (i + 1) k (by omega) (by omega)
    by_cases e : l = m
    · subst e
      rw [if_pos rfl, if_pos rfl, if_neg (by simp), if_pos rfl]
      exact ⟨c, hc, he2⟩
    · repeat' split
      all_goals first | exact ⟨_, rfl, fun h => absurd h e⟩ | exact ⟨c, hc, he2⟩
theorem Writes_def (l m : List S46) (hl : l.length ≤ 100) (k : Nat) (hk : 101 ≤ k) : ∃ b, banksmanref08_Writes.f k l m = some b ∧ (l = m → b = true) := by
  unfold banksmanref08_Writes.f
  by_cases h : (l.length : Int) = (m.length : Int)
  · rw [if_pos h]
    exact writes_l0 l m hl (by omega) l.length 0 k (by omega) (by omega)
  · rw [if_neg h]
    exact ⟨false, rfl, fun e => absurd (by rw [e]) h⟩
def oneF (k : Nat) (x p : S34) : Option Bool := banksmanref13_One.f k x.f0 x.f1 x.f2 x.f3 x.f4 x.f5 p.f0 p.f1 p.f2 p.f3 p.f4 p.f5
theorem One_def (x p : S34) (h3 : x.f3.length ≤ 100) (h4 : x.f4.length ≤ 100) (k : Nat) (hk : 101 ≤ k) : ∃ b, oneF k x p = some b ∧ (x = p → b = true) ∧ (x.f1 ≠ p.f1 → b = false) := by
  unfold oneF banksmanref13_One.f
  obtain ⟨b, hb, e1⟩ := Same10_def x.f3 p.f3 h3 k hk
  obtain ⟨c, hc, e2⟩ := Writes_def x.f4 p.f4 h4 k hk
  rw [hb, hc, Option.bind_some, Option.bind_some]
  by_cases h : x = p
  · subst h
    rw [if_pos (e1 rfl), if_pos (e2 rfl), if_pos rfl, if_pos rfl, if_pos (by simp)]
    exact ⟨_, rfl, fun _ => by simp, fun h => absurd rfl h⟩
  · by_cases h1 : x.f1 = p.f1
    · repeat' split
      all_goals exact ⟨_, rfl, fun e => absurd e h, fun e => absurd h1 e⟩
    · rw [if_neg h1]
      repeat' split
      all_goals exact ⟨_, rfl, fun e => absurd e h, fun _ => rfl⟩
theorem all_l0 (l : List S34) (hl : l.length ≤ 100) (h3 : ∀ x ∈ l, x.f3.length ≤ 100 ∧ x.f4.length ≤ 100) : ∀ (d i k : Nat), i + d = l.length → d + 102 ≤ k → banksmanref13_All.l0 k l l (i : Int) = some true
  | d, i, 0, _, hk => by omega
  | 0, i, k + 1, hi, _ => by rw [banksmanref13_All.l0, if_neg (by omega)]
  | d + 1, i, k + 1, hi, hk => by
    have hlt : i < l.length := by omega
    rw [banksmanref13_All.l0, if_pos (by omega), if_pos (by omega), if_pos (by omega), rd34 hlt, w64 (by omega) (by omega), show ((i : Int) + 1) = ((i + 1 : Nat) : Int) by omega]
    obtain ⟨b, hb, he, _⟩ := One_def l[i] l[i] (h3 _ (List.getElem_mem hlt)).1 (h3 _ (List.getElem_mem hlt)).2 k (by omega)
    unfold oneF at hb
    rw [hb, Option.bind_some, if_pos (he rfl)]
    exact all_l0 l hl h3 d (i + 1) k (by omega) (by omega)
theorem All_refl (l : List S34) (hl : l.length ≤ 100) (h3 : ∀ x ∈ l, x.f3.length ≤ 100 ∧ x.f4.length ≤ 100) (k : Nat) (hk : 300 ≤ k) : banksmanref13_All.f k l l = some true := by
  unfold banksmanref13_All.f
  rw [if_pos rfl]
  exact all_l0 l hl h3 l.length 0 k (by omega) (by omega)
end Go.Proofs.Ytpknchaajgkbnaa.Pure
