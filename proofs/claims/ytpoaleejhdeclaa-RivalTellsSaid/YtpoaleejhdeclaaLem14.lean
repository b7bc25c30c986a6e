import Derived.Test.YtpoaleejhdeclaaPx41
import Derived.Test.YtpoaleejhdeclaaPx46
import Derived.Test.YtpoaleejhdeclaaPx1
import Derived.Laws.Cover1
namespace Go.Proofs.Ytpoaleejhdeclaa.Pure
open Go.RowKit Go.Proofs.Ytpoaleejhdeclaa.P Go.Proofs.YtpoaleejhdeclaaW.PrintWords Go.Proofs.YtpoaleejhdeclaaW.PrintLast
set_option linter.unusedVariables false
set_option linter.unusedSimpArgs false
theorem w64 {x : Int} (h0 : -9223372036854775808 ≤ x) (h1 : x ≤ 9223372036854775807) : wrap64 x = x := by unfold wrap64; omega
theorem rd50 {l : List S50} {i : Nat} (h : i < l.length) : rd_T50 l (i : Int) = l[i] := by
 unfold rd_T50; rw [Int.toNat_natCast]; simp [List.getD_eq_getElem?_getD, h]
theorem rd57 {l : List S57} {i : Nat} (h : i < l.length) : rd_T57 l (i : Int) = l[i] := by
 unfold rd_T57; rw [Int.toNat_natCast]; simp [List.getD_eq_getElem?_getD, h]
theorem rd59 {l : List S59} {i : Nat} (h : i < l.length) : rd_T59 l (i : Int) = l[i] := by
 unfold rd_T59; rw [Int.toNat_natCast]; simp [List.getD_eq_getElem?_getD, h]
theorem rd24 {l : List S24} {i : Nat} (h : i < l.length) : rd_T24 l (i : Int) = l[i] := by
 unfold rd_T24; rw [Int.toNat_natCast]; simp [List.getD_eq_getElem?_getD, h]
theorem less_cmp : ∀ a b : List UInt8, Op.bytesLess a b = decide (Lib.compareBytes a b < 0)
 | [], [] => rfl
 | [], _ :: _ => rfl
 | _ :: _, [] => rfl
 | x :: a, y :: b => by
  have ih := less_cmp a b
  unfold Op.bytesLess Lib.compareBytes
  by_cases h : x < y
  · simp [h]
  · by_cases h2 : y < x
    · have : ¬ x = y := fun e => by subst e; exact h h2
      simp [h, h2, this]
    · have : x = y := UInt8.le_antisymm (UInt8.not_lt.1 h2) (UInt8.not_lt.1 h)
      subst this
      simp [ih, UInt8.lt_irrefl]
theorem cmp_neg : ∀ a b : List UInt8, Lib.compareBytes b a = - Lib.compareBytes a b
 | [], [] => rfl
 | [], _ :: _ => rfl
 | _ :: _, [] => rfl
 | x :: a, y :: b => by
  have ih := cmp_neg a b
  unfold Lib.compareBytes
  by_cases h : x < y
  · have : ¬ y < x := fun h2 => UInt8.lt_irrefl _ (UInt8.lt_trans h h2)
    simp [h, this]
  · by_cases h2 : y < x
    · simp [h, h2]
    · simp [h, h2, ih]
theorem In_f (x : S57) (t : Int) (k : List Int) : banksmanref10_In.f x.f0 x.f1 x.f2 x.f3 t k = some (inB x t k) := by
 unfold banksmanref10_In.f inB
 rw [Go.Lib.strOfNums_toList, Go.Lib.strOfNums_toList, Go.Lib.strOfNums_toList, less_cmp, less_cmp]
 have h0 := cmp_neg (Lib.bytesOf x.f1) (Lib.bytesOf k)
 by_cases h1 : x.f0 = t
 · rw [if_pos h1, decide_eq_true h1, Bool.true_and]
   by_cases h2 : Lib.compareBytes (Lib.bytesOf k) (Lib.bytesOf x.f1) < 0
   · rw [if_pos (decide_eq_true h2), decide_eq_false (by omega : ¬ Lib.compareBytes (Lib.bytesOf x.f1) (Lib.bytesOf k) ≤ 0), Bool.false_and]
   · rw [if_neg (by simpa using h2), decide_eq_true (by omega : Lib.compareBytes (Lib.bytesOf x.f1) (Lib.bytesOf k) ≤ 0), Bool.true_and]
     cases x.f3 <;> simp
 · rw [if_neg h1, decide_eq_false h1, Bool.false_and]
theorem any_split {α : Type} (l : List α) (n : Nat) (h : n < l.length) (p : α → Bool) : (l.drop n).any p = (p l[n] || (l.drop (n + 1)).any p) := by
 rw [List.drop_eq_getElem_cons h, List.any_cons]
theorem hit_l1 (l : List S57) (w : List S59) (hl : l.length < 1000000000) (hw : w.length < 1000000000) (i : Nat) (hi : i < l.length) (r : Option Bool) : ∀ (d j k : Nat), j + d = w.length → (∀ k', k ≤ k' + d + 1 → banksmanref13_Hit.l0 k' l w ((i : Int) + 1) = r) → d + 1 ≤ k → 
  banksmanref13_Hit.l1 k l w (i : Int) (j : Int) = if (w.drop j).any (fun y => inB l[i] y.f0 y.f1) = true then some true else r := by
 intro d
 induction d with
 | zero =>
  intro j k hj hr hk
  obtain ⟨k, rfl⟩ : ∃ m, k = m + 1 := ⟨k - 1, by omega⟩
  rw [banksmanref13_Hit.l1, if_neg (by omega), w64 (by omega) (by omega), hr k (by omega), List.drop_of_length_le (by omega)]
  rfl
 | succ d ih =>
  intro j k hj hr hk
  obtain ⟨k, rfl⟩ : ∃ m, k = m + 1 := ⟨k - 1, by omega⟩
  have hjl : j < w.length := by omega
  have e2 : (j : Int) + 1 = ((j + 1 : Nat) : Int) := by omega
  rw [banksmanref13_Hit.l1, if_pos (by omega), if_pos (by omega), if_pos (by omega), if_pos (by omega), rd57 hi, rd59 hjl, In_f, Option.bind_some, any_split w j hjl]
  cases inB l[i] w[j].f0 w[j].f1 with
  | true => simp
  | false =>
   rw [w64 (by omega) (by omega), e2, ih (j + 1) k (by omega) (fun k' h => hr k' (by omega)) (by omega)]
   simp
theorem hit_l0 (l : List S57) (w : List S59) (hl : l.length < 1000000000) (hw : w.length < 1000000000) : ∀ (d i k : Nat), i + d = l.length → d * (w.length + 2) + 1 ≤ k → 
  banksmanref13_Hit.l0 k l w (i : Int) = some ((l.drop i).any fun x => w.any fun y => inB x y.f0 y.f1) := by
 intro d
 induction d with
 | zero =>
  intro i k hi hk
  obtain ⟨k, rfl⟩ : ∃ m, k = m + 1 := ⟨k - 1, by omega⟩
  rw [banksmanref13_Hit.l0, if_neg (by omega), List.drop_of_length_le (by omega)]
  rfl
 | succ d ih =>
  intro i k hi hk
  obtain ⟨k, rfl⟩ : ∃ m, k = m + 1 := ⟨k - 1, by omega⟩
  have hil : i < l.length := by omega
  rw [Nat.succ_mul] at hk
  rw [banksmanref13_Hit.l0, if_pos (by omega)]
  show banksmanref13_Hit.l1 k l w (i : Int) ((0 : Nat) : Int) = _
  rw [hit_l1 l w hl hw i hil (some ((l.drop (i + 1)).any fun x => w.any fun y => inB x y.f0 y.f1)) w.length 0 k (by omega) (fun k' h => by
   have := ih (i + 1) k' (by omega) (by omega)
   rw [← this]; congr 1) (by omega), any_split l i hil, List.drop_zero]
  cases (w.any fun y => inB l[i] y.f0 y.f1) <;> simp
theorem any_swap {α β : Type} (p : α → β → Bool) (l : List α) (m : List β) : (l.any fun x => m.any fun y => p x y) = m.any fun y => l.any fun x => p x y := by
 rw [Bool.eq_iff_iff]
 simp only [List.any_eq_true]
 constructor
 · rintro ⟨x, hx, y, hy, h⟩; exact ⟨y, hy, x, hx, h⟩
 · rintro ⟨x, hx, y, hy, h⟩; exact ⟨y, hy, x, hx, h⟩
theorem Hit_f (l : List S57) (w : List S59) (hl : l.length < 1000000000) (hw : w.length < 1000000000) (k : Nat) (hk : l.length * (w.length + 2) + 1 ≤ k) : banksmanref13_Hit.f k l w = some (hitB l w) := by
 have := hit_l0 l w hl hw l.length 0 k (by omega) hk
 unfold banksmanref13_Hit.f hitB
 rw [List.drop_zero] at this
 rw [← any_swap, ← this]; rfl
theorem same_l1 (l w : List S59) (hl : l.length < 1000000000) (hw : w.length < 1000000000) (i : Nat) (hi : i < l.length) (r : Option Bool) : ∀ (d j k : Nat), j + d = w.length → (∀ k', k ≤ k' + d + 1 → banksmanref13_Same.l0 k' l w ((i : Int) + 1) = r) → d + 1 ≤ k → 
  banksmanref13_Same.l1 k l w (i : Int) (j : Int) = if (w.drop j).any (fun y => sameB l[i] y) = true then some true else r := by
 intro d
 induction d with
 | zero =>
  intro j k hj hr hk
  obtain ⟨k, rfl⟩ : ∃ m, k = m + 1 := ⟨k - 1, by omega⟩
  rw [banksmanref13_Same.l1, if_neg (by omega), w64 (by omega) (by omega), hr k (by omega), List.drop_of_length_le (by omega)]
  rfl
 | succ d ih =>
  intro j k hj hr hk
  obtain ⟨k, rfl⟩ : ∃ m, k = m + 1 := ⟨k - 1, by omega⟩
  have hjl : j < w.length := by omega
  have e2 : (j : Int) + 1 = ((j + 1 : Nat) : Int) := by omega
  rw [banksmanref13_Same.l1, if_pos (by omega), if_pos (by omega), if_pos (by omega), if_pos (by omega), rd59 hi, rd59 hjl, any_split w j hjl, w64 (by omega) (by omega), e2, ih (j + 1) k (by omega) (fun k' h => hr k' (by omega)) (by omega)]
  unfold sameB
  by_cases h1 : l[i].f0 = w[j].f0
  · rw [if_pos h1]
    by_cases h2 : (strOfNums l[i].f1).toList = (strOfNums w[j].f1).toList
    · rw [if_pos h2]; simp [h1, h2]
    · rw [if_neg h2]; simp [h1, h2]
  · rw [if_neg h1]; simp [h1]
theorem same_l0 (l w : List S59) (hl : l.length < 1000000000) (hw : w.length < 1000000000) : ∀ (d i k : Nat), i + d = l.length → d * (w.length + 2) + 1 ≤ k → 
  banksmanref13_Same.l0 k l w (i : Int) = some ((l.drop i).any fun x => w.any fun y => sameB x y) := by
 intro d
 induction d with
 | zero =>
  intro i k hi hk
  obtain ⟨k, rfl⟩ : ∃ m, k = m + 1 := ⟨k - 1, by omega⟩
  rw [banksmanref13_Same.l0, if_neg (by omega), List.drop_of_length_le (by omega)]
  rfl
 | succ d ih =>
  intro i k hi hk
  obtain ⟨k, rfl⟩ : ∃ m, k = m + 1 := ⟨k - 1, by omega⟩
  have hil : i < l.length := by omega
  rw [Nat.succ_mul] at hk
  rw [banksmanref13_Same.l0, if_pos (by omega)]
  show banksmanref13_Same.l1 k l w (i : Int) ((0 : Nat) : Int) = _
  rw [same_l1 l w hl hw i hil (some ((l.drop (i + 1)).any fun x => w.any fun y => sameB x y)) w.length 0 k (by omega) (fun k' h => by
   have := ih (i + 1) k' (by omega) (by omega)
   rw [← this]; congr 1) (by omega), any_split l i hil, List.drop_zero]
  cases (w.any fun y => sameB l[i] y) <;> simp
theorem Same_f (l w : List S59) (hl : l.length < 1000000000) (hw : w.length < 1000000000) (k : Nat) (hk : l.length * (w.length + 2) + 1 ≤ k) : banksmanref13_Same.f k l w = some (saB l w) := by
 have := same_l0 l w hl hw l.length 0 k (by omega) hk
 unfold banksmanref13_Same.f saB
 rw [List.drop_zero] at this
 exact this
def few10 (l : List S57) : Bool := decide (l.length ≤ 100) && l.all fun x => decide (x.f1.length ≤ 100) && decide (x.f2.length ≤ 100)
def few08 (l : List S59) : Bool := decide (l.length ≤ 30) && l.all fun x => decide (x.f1.length ≤ 100) && decide (x.f3.length ≤ 100)
def few13 (l : List S50) (v : List S24) : Bool := decide (l.length ≤ 30) && decide (v.length ≤ 30) && (l.all fun p => few10 p.f3 && (few08 p.f4 && decide (p.f3.length ≤ 30))) && v.all fun x => few10 x.f1 && decide (x.f1.length ≤ 30)
theorem all_split {α : Type} (l : List α) (n : Nat) (h : n < l.length) (p : α → Bool) : (l.drop n).all p = (p l[n] && (l.drop (n + 1)).all p) := by
 rw [List.drop_eq_getElem_cons h, List.all_cons]
theorem few10_l0 (l : List S57) (hl : l.length ≤ 100) : ∀ (d i k : Nat), i + d = l.length → d + 1 ≤ k → 
  banksmanref10_Few.l0 k l (i : Int) = some ((l.drop i).all fun x => decide (x.f1.length ≤ 100) && decide (x.f2.length ≤ 100)) := by
 intro d
 induction d with
 | zero =>
  intro i k hi hk
  obtain ⟨k, rfl⟩ : ∃ m, k = m + 1 := ⟨k - 1, by omega⟩
  rw [banksmanref10_Few.l0, if_neg (by omega), List.drop_of_length_le (by omega)]
  rfl
 | succ d ih =>
  intro i k hi hk
  obtain ⟨k, rfl⟩ : ∃ m, k = m + 1 := ⟨k - 1, by omega⟩
  have hil : i < l.length := by omega
  have e2 : (i : Int) + 1 = ((i + 1 : Nat) : Int) := by omega
  rw [banksmanref10_Few.l0, if_pos (by omega), if_pos (by omega), rd57 hil, w64 (by omega) (by omega), e2, ih (i + 1) k (by omega) (by omega), all_split l i hil]
  by_cases h1 : (l[i].f1.length : Int) > 100
  · rw [if_pos h1, decide_eq_false (by omega)]; rfl
  · rw [if_neg h1, decide_eq_true (by omega : l[i].f1.length ≤ 100), Bool.true_and]
    by_cases h2 : (l[i].f2.length : Int) > 100
    · rw [if_pos h2, decide_eq_false (by omega)]; rfl
    · rw [if_neg h2, decide_eq_true (by omega : l[i].f2.length ≤ 100), Bool.true_and]
theorem Few10_f (l : List S57) (k : Nat) (hk : 101 ≤ k) : banksmanref10_Few.f k l = some (few10 l) := by
 unfold banksmanref10_Few.f few10
 by_cases h : (l.length : Int) > 100
 · rw [if_pos h, decide_eq_false (by omega)]; rfl
 · rw [if_neg h, decide_eq_true (by omega : l.length ≤ 100), Bool.true_and]
   have := few10_l0 l (by omega) l.length 0 k (by omega) (by omega)
   rw [List.drop_zero] at this
   exact this
theorem few08_l0 (l : List S59) (e : List Int) (hl : l.length ≤ 30) : ∀ (d i k : Nat), i + d = l.length → d + 1 ≤ k → 
  banksmanref08_Few.l0 k (i : Int) l e = some ((l.drop i).all fun x => decide (x.f1.length ≤ 100) && decide (x.f3.length ≤ 100)) := by
 intro d
 induction d with
 | zero =>
  intro i k hi hk
  obtain ⟨k, rfl⟩ : ∃ m, k = m + 1 := ⟨k - 1, by omega⟩
  rw [banksmanref08_Few.l0, if_neg (by omega), List.drop_of_length_le (by omega)]
  rfl
 | succ d ih =>
  intro i k hi hk
  obtain ⟨k, rfl⟩ : ∃ m, k = m + 1 := ⟨k - 1, by omega⟩
  have hil : i < l.length := by omega
  have e2 : (i : Int) + 1 = ((i + 1 : Nat) : Int) := by omega
  rw [banksmanref08_Few.l0, if_pos (by omega), if_pos (by omega), rd59 hil, w64 (by omega) (by omega), e2, ih (i + 1) k (by omega) (by omega), all_split l i hil]
  by_cases h1 : (l[i].f1.length : Int) > 100
  · rw [if_pos h1, decide_eq_false (by omega)]; rfl
  · rw [if_neg h1, decide_eq_true (by omega : l[i].f1.length ≤ 100), Bool.true_and]
    by_cases h2 : (l[i].f3.length : Int) > 100
    · rw [if_pos h2, decide_eq_false (by omega)]; rfl
    · rw [if_neg h2, decide_eq_true (by omega : l[i].f3.length ≤ 100), Bool.true_and]
theorem Few08_f (l : List S59) (k : Nat) (hk : 40 ≤ k) : banksmanref08_Few.f k l ([] : List Int) = some (few08 l) := by
 obtain ⟨k, rfl⟩ : ∃ m, k = m + 1 := ⟨k - 1, by omega⟩
 unfold banksmanref08_Few.f few08
 by_cases h : (l.length : Int) > 30
 · rw [if_pos h, decide_eq_false (by omega)]; rfl
 · rw [if_neg h, decide_eq_true (by omega : l.length ≤ 30), Bool.true_and, banksmanref08_Few.j0, if_neg (by simp)]
   have := few08_l0 l [] (by omega) l.length 0 k (by omega) (by omega)
   rw [List.drop_zero] at this
   exact this
theorem few13_l1 (v : List S24) (hv : v.length ≤ 30) : ∀ (d i k : Nat), i + d = v.length → d + 200 ≤ k → 
  banksmanref13_Few.l1 k v (i : Int) = some ((v.drop i).all fun x => few10 x.f1 && decide (x.f1.length ≤ 30)) := by
 intro d
 induction d with
 | zero =>
  intro i k hi hk
  obtain ⟨k, rfl⟩ : ∃ m, k = m + 1 := ⟨k - 1, by omega⟩
  rw [banksmanref13_Few.l1, if_neg (by omega), List.drop_of_length_le (by omega)]
  rfl
 | succ d ih =>
  intro i k hi hk
  obtain ⟨k, rfl⟩ : ∃ m, k = m + 1 := ⟨k - 1, by omega⟩
  have hil : i < v.length := by omega
  have e2 : (i : Int) + 1 = ((i + 1 : Nat) : Int) := by omega
  rw [banksmanref13_Few.l1, if_pos (by omega), if_pos (by omega), rd24 hil, w64 (by omega) (by omega), e2, ih (i + 1) k (by omega) (by omega), all_split v i hil, Few10_f _ _ (by omega), Option.bind_some]
  cases few10 v[i].f1 with
  | false => rfl
  | true =>
   rw [if_pos rfl]
   by_cases h2 : (v[i].f1.length : Int) > 30
   · rw [if_pos h2, decide_eq_false (by omega)]; rfl
   · rw [if_neg h2, decide_eq_true (by omega : v[i].f1.length ≤ 30)]; rfl
theorem few13_l0 (l : List S50) (v : List S24) (hl : l.length ≤ 30) (hv : v.length ≤ 30) : ∀ (d i k : Nat), i + d = l.length → d + 300 ≤ k → 
  banksmanref13_Few.l0 k l v (i : Int) = some (((l.drop i).all fun p => few10 p.f3 && (few08 p.f4 && decide (p.f3.length ≤ 30))) && v.all fun x => few10 x.f1 && decide (x.f1.length ≤ 30)) := by
 intro d
 induction d with
 | zero =>
  intro i k hi hk
  obtain ⟨k, rfl⟩ : ∃ m, k = m + 1 := ⟨k - 1, by omega⟩
  have := few13_l1 v hv v.length 0 k (by omega) (by omega)
  rw [List.drop_zero] at this
  rw [banksmanref13_Few.l0, if_neg (by omega), List.drop_of_length_le (by omega), List.all_nil, Bool.true_and, ← this]
  rfl
 | succ d ih =>
  intro i k hi hk
  obtain ⟨k, rfl⟩ : ∃ m, k = m + 1 := ⟨k - 1, by omega⟩
  have hil : i < l.length := by omega
  have e2 : (i : Int) + 1 = ((i + 1 : Nat) : Int) := by omega
  rw [banksmanref13_Few.l0, if_pos (by omega), if_pos (by omega), rd50 hil, w64 (by omega) (by omega), e2, ih (i + 1) k (by omega) (by omega), all_split l i hil, Few10_f _ _ (by omega), Option.bind_some, Few08_f _ _ (by omega), Option.bind_some]
  cases few10 l[i].f3 with
  | false => rfl
  | true =>
   rw [if_pos rfl]
   cases few08 l[i].f4 with
   | false => rfl
   | true =>
    rw [if_pos rfl]
    by_cases h2 : (l[i].f3.length : Int) > 30
    · rw [if_pos h2, decide_eq_false (by omega)]; rfl
    · rw [if_neg h2, decide_eq_true (by omega : l[i].f3.length ≤ 30)]; rfl
theorem Few13_f (l : List S50) (v : List S24) (k : Nat) (hk : 400 ≤ k) : banksmanref13_Few.f k l v = some (few13 l v) := by
 obtain ⟨k, rfl⟩ : ∃ m, k = m + 1 := ⟨k - 1, by omega⟩
 unfold banksmanref13_Few.f few13
 by_cases h : (l.length : Int) > 30
 · rw [if_pos h, decide_eq_false (by omega)]; rfl
 · rw [if_neg h, decide_eq_true (by omega : l.length ≤ 30), Bool.true_and, banksmanref13_Few.j0]
   by_cases h2 : (v.length : Int) > 30
   · rw [if_pos (decide_eq_true h2), decide_eq_false (by omega)]; rfl
   · rw [if_neg (by simpa using h2), decide_eq_true (by omega : v.length ≤ 30), Bool.true_and]
     have := few13_l0 l v (by omega) (by omega) l.length 0 k (by omega) (by omega)
     rw [List.drop_zero] at this
     exact this
def meetB (snap : Int) (l : List S50) : List S50 := l.filter fun p => decide (snap < p.f1)
theorem okPa_of {p : S50} (h3 : p.f3.length < 1000000) (h4 : p.f4.length < 1000000) (hs : ∀ x ∈ p.f3, x.f1.length ≤ 1000 ∧ x.f2.length ≤ 1000) (hw : ∀ x ∈ p.f4, x.f1.length ≤ 1000 ∧ x.f3.length ≤ 1000) : okPa p = true := by
 unfold okPa
 rw [decide_eq_true (by omega), decide_eq_true (by omega), Bool.true_and, Bool.true_and, Bool.and_eq_true]
 refine ⟨List.all_eq_true.mpr fun x hx => ?_, List.all_eq_true.mpr fun x hx => ?_⟩
 · unfold okSp; rw [decide_eq_true (by have := hs x hx; omega), decide_eq_true (by have := hs x hx; omega)]; rfl
 · unfold okWr; rw [decide_eq_true (by have := hw x hx; omega), decide_eq_true (by have := hw x hx; omega)]; rfl
theorem few10_mem {l : List S57} (h : few10 l = true) : l.length ≤ 100 ∧ ∀ x ∈ l, x.f1.length ≤ 100 ∧ x.f2.length ≤ 100 := by
 unfold few10 at h
 simp only [Bool.and_eq_true, decide_eq_true_eq, List.all_eq_true] at h
 exact h
theorem few08_mem {l : List S59} (h : few08 l = true) : l.length ≤ 30 ∧ ∀ x ∈ l, x.f1.length ≤ 100 ∧ x.f3.length ≤ 100 := by
 unfold few08 at h
 simp only [Bool.and_eq_true, decide_eq_true_eq, List.all_eq_true] at h
 exact h
theorem few13_mem {l : List S50} {v : List S24} (h : few13 l v = true) : l.length ≤ 30 ∧ v.length ≤ 30 ∧ (∀ p ∈ l, few10 p.f3 = true ∧ few08 p.f4 = true ∧ p.f3.length ≤ 30) ∧ ∀ x ∈ v, few10 x.f1 = true ∧ x.f1.length ≤ 30 := by
 unfold few13 at h
 simp only [Bool.and_eq_true, decide_eq_true_eq, List.all_eq_true] at h
 exact ⟨h.1.1.1, h.1.1.2, h.1.2, h.2⟩
theorem okPa_few {p : S50} (h3 : few10 p.f3 = true) (h4 : few08 p.f4 = true) : okPa p = true := by
 have a := few10_mem h3
 have b := few08_mem h4
 exact okPa_of (by omega) (by omega) (fun x hx => by have := a.2 x hx; omega) (fun x hx => by have := b.2 x hx; omega)
theorem Meets_f (snap : Int) (l : List S50) (hl : l.length < 1000000) (h : ∀ p ∈ l, okPa p = true) : rival_Meets.f snap l = some (meetB snap l) := by
 unfold rival_Meets.f reads_Keep.f meetB
 rw [if_pos (by rw [decide_eq_true (by omega), Bool.true_and]; exact List.all_eq_true.mpr h), Option.bind_some]
 congr 2
 funext p
 simp [metB]
theorem Judge_f (snap : Int) (rd : List S57) (wr : List S59) (l : List S50) (live : List S24) (hl : l.length < 1000000) (h : ∀ p ∈ l, okPa p = true) : rival_Judge.f snap rd wr l live = some (judgeB rd wr (meetB snap l) live) := by
 unfold rival_Judge.f
 rw [Meets_f snap l hl h, Option.bind_some]
end Go.Proofs.Ytpoaleejhdeclaa.Pure
