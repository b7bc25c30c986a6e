/- Proved: what Add says (addL) keeps each key of the spans and of the new one (layer 10's facts, for the types of this seat). -/
import Derived.Test.YtpknchaajgkbnaaLem13
import Derived.Test.YtpknchaajgkbnaaPx40
namespace Go.Proofs.Ytpknchaajgkbnaa.Pure
open Go.RowKit Go.Proofs.Ytpknchaajgkbnaa.P Go.Proofs.YtpknchaajgkbnaaW.PrintWords Go.Proofs.YtpknchaajgkbnaaW.PrintLast
set_option linter.unusedVariables false
set_option linter.unusedSimpArgs false
theorem cmp_neg : ∀ a b : List UInt8, Lib.compareBytes b a = - Lib.compareBytes a b
  | [], [] => rfl
  | [], _ :: _ => rfl
  | _ :: _, [] => rfl
  | x :: a, y :: b => by
    have ih := cmp_neg a b
    unfold Lib.compareBytes
    by_cases h : x < y
    · have : ¬ y < x := fun h2 => UInt8.lt_irrefl _ (UInt8.lt_trans h h2)
      simp [h, this]
    · by_cases h2 : y < x
      · simp [h, h2]
      · simp [h, h2, ih]
def le (a b : List Int) : Prop := Lib.compareBytes (Lib.bytesOf a) (Lib.bytesOf b) ≤ 0
def lt (a b : List Int) : Prop := Lib.compareBytes (Lib.bytesOf a) (Lib.bytesOf b) < 0
theorem lt_iff (a b : List Int) : lt a b ↔ ¬ le b a := by
  unfold lt le
  have := cmp_neg (Lib.bytesOf a) (Lib.bytesOf b)
  omega
theorem cmp_trans : ∀ a b c : List UInt8, Lib.compareBytes a b ≤ 0 → Lib.compareBytes b c ≤ 0 → Lib.compareBytes a c ≤ 0
  | [], b, [], _, _ => by simp [Lib.compareBytes]
  | [], b, _ :: _, _, _ => by simp [Lib.compareBytes]
  | x :: a, [], c, h, _ => by simp [Lib.compareBytes] at h
  | x :: a, y :: b, [], _, h => by simp [Lib.compareBytes] at h
  | x :: a, y :: b, z :: c, h1, h2 => by
    unfold Lib.compareBytes at h1 h2 ⊢
    by_cases hxy : x < y
    · by_cases hyz : y < z
      · simp [UInt8.lt_trans hxy hyz]
      · by_cases hzy : z < y
        · simp [hzy, hyz] at h2
        · have : y = z := UInt8.le_antisymm (UInt8.not_lt.1 hzy) (UInt8.not_lt.1 hyz)
          subst this
          simp [hxy]
    · by_cases hyx : y < x
      · simp [hxy, hyx] at h1
      · have : x = y := UInt8.le_antisymm (UInt8.not_lt.1 hyx) (UInt8.not_lt.1 hxy)
        subst this
        by_cases hyz : x < z
        · simp [hyz]
        · by_cases hzy : z < x
          · simp [hzy, hyz] at h2
          · simp [hyz, hzy, UInt8.lt_irrefl] at h1 h2 ⊢
            exact cmp_trans a b c h1 h2
theorem le_trans {a b c : List Int} (h1 : le a b) (h2 : le b c) : le a c := cmp_trans _ _ _ h1 h2
theorem cmp_self : ∀ a : List UInt8, Lib.compareBytes a a = 0
  | [] => rfl
  | x :: a => by unfold Lib.compareBytes; simp [UInt8.lt_irrefl, cmp_self a]
theorem le_refl (a : List Int) : le a a := by unfold le; rw [cmp_self]; omega
theorem lt_of_lt_le {a b c : List Int} (h1 : lt a b) (h2 : le b c) : lt a c := by
  rw [lt_iff] at h1 ⊢
  exact fun h => h1 (le_trans h2 h)
/-! what has a key -/
def InP (x : S38) (t : Int) (k : List Int) : Prop := x.f0 = t ∧ le x.f1 k ∧ (x.f3 = true ∨ lt k x.f2)
theorem inB_iff (x : S38) (t : Int) (k : List Int) : inB x t k = true ↔ InP x t k := by
  unfold inB InP le lt
  simp only [Bool.and_eq_true, Bool.or_eq_true, decide_eq_true_eq]
theorem emptyB_iff (x : S38) : emptyB x = true ↔ x.f3 = false ∧ le x.f2 x.f1 := by
  unfold emptyB le
  simp only [Bool.and_eq_true, Bool.not_eq_true', decide_eq_true_eq]
theorem full_iff (x : S38) : emptyB x = false ↔ ∃ k, InP x x.f0 k := by
  constructor
  · intro h
    refine ⟨x.f1, rfl, le_refl _, ?_⟩
    by_cases h3 : x.f3 = true
    · exact .inl h3
    · refine .inr ((lt_iff _ _).2 fun hle => ?_)
      have := (emptyB_iff x).2 ⟨by simpa using h3, hle⟩
      rw [h] at this
      cases this
  · rintro ⟨k, _, h1, h2⟩
    by_cases he : emptyB x = true
    · obtain ⟨h3, h4⟩ := (emptyB_iff x).1 he
      rcases h2 with h2 | h2
      · rw [h3] at h2; cases h2
      · exact absurd (le_trans h4 h1) ((lt_iff _ _).1 h2)
    · simpa using he
theorem coversB_iff (x y : S38) : coversB x y = true ↔ emptyB y = true ∨ (x.f0 = y.f0 ∧ le x.f1 y.f1 ∧ (x.f3 = true ∨ (y.f3 = false ∧ le y.f2 x.f2))) := by
  unfold coversB le
  simp only [Bool.and_eq_true, Bool.or_eq_true, decide_eq_true_eq, Bool.not_eq_true']
theorem covers_in {x y : S38} {t : Int} {k : List Int} (h : coversB x y = true) (hk : InP y t k) : InP x t k := by
  rcases (coversB_iff x y).1 h with he | ⟨h0, h1, h2⟩
  · have : emptyB y = false := (full_iff y).2 ⟨k, rfl, hk.2⟩
    rw [he] at this; cases this
  · refine ⟨h0.trans hk.1, le_trans h1 hk.2.1, ?_⟩
    rcases h2 with h2 | ⟨h2, h3⟩
    · exact .inl h2
    · rcases hk.2.2 with h4 | h4
      · rw [h2] at h4; cases h4
      · exact .inr (lt_of_lt_le h4 h3)
theorem len_places (t : Int) : ∀ (l : List S38) (n : Nat), (placesOf t l n).length = (l.filter fun y => decide (y.f0 = t)).length
  | [], _ => rfl
  | y :: l, n => by
    rw [placesOf]
    by_cases h : y.f0 = t
    · rw [if_pos h, List.filter_cons_of_pos (by simp [h]), List.length_cons, List.length_cons, len_places t l (n + 1)]
    · rw [if_neg h, List.filter_cons_of_neg (by simp [h]), len_places t l (n + 1)]
def manyOf (t : Int) (l : List S38) : Nat := (l.filter fun y => decide (y.f0 = t)).length
theorem many_rest (t : Int) : ∀ l : List S38, manyOf t (l.filter fun z => !decide (z.f0 = t)) = 0 := by
  intro l
  unfold manyOf
  rw [List.filter_filter, List.filter_eq_nil_iff.2 (fun a _ => by simp), List.length_nil]
theorem many_merge (t : Int) : ∀ l : List S38, manyOf t l ≠ 0 → manyOf t (mergeL t l) = 1
  | [], h => absurd rfl h
  | y :: l, h => by
    rw [mergeL]
    by_cases hy : y.f0 = t
    · rw [if_pos hy]
      have e := many_rest t l
      unfold manyOf at e ⊢
      rw [List.filter_cons_of_pos (by simp [allSp]), List.length_cons, e]
    · rw [if_neg hy]
      have ih := many_merge t l (by unfold manyOf at h ⊢; rwa [List.filter_cons_of_neg (by simp [hy])] at h)
      unfold manyOf at ih ⊢
      rw [List.filter_cons_of_neg (by simp [hy])]
      exact ih
theorem mem_merge (t : Int) : ∀ (l : List S38) (z : S38), z ∈ mergeL t l → z = allSp t ∨ z ∈ l
  | [], z, h => .inr h
  | y :: l, z, h => by
    rw [mergeL] at h
    by_cases hy : y.f0 = t
    · rw [if_pos hy] at h
      rcases List.mem_cons.1 h with h | h
      · exact .inl h
      · exact .inr (List.mem_cons_of_mem _ (List.mem_filter.1 h).1)
    · rw [if_neg hy] at h
      rcases List.mem_cons.1 h with h | h
      · exact .inr (by rw [h]; exact List.mem_cons_self)
      · rcases mem_merge t l z h with h | h
        · exact .inl h
        · exact .inr (List.mem_cons_of_mem _ h)
theorem merge_mem (t : Int) : ∀ (l : List S38) (z : S38), z ∈ l → (z.f0 = t → allSp t ∈ mergeL t l) ∧ (z.f0 ≠ t → z ∈ mergeL t l)
  | y :: l, z, h => by
    rw [mergeL]
    by_cases hy : y.f0 = t
    · rw [if_pos hy]
      refine ⟨fun _ => List.mem_cons_self, fun hz => ?_⟩
      rcases List.mem_cons.1 h with h | h
      · exact absurd (by rw [h]; exact hy) hz
      · exact List.mem_cons_of_mem _ (List.mem_filter.2 ⟨h, by simp [hz]⟩)
    · rw [if_neg hy]
      rcases List.mem_cons.1 h with h | h
      · subst h
        exact ⟨fun h => absurd h hy, fun _ => List.mem_cons_self⟩
      · have := merge_mem t l z h
        exact ⟨fun h => List.mem_cons_of_mem _ (this.1 h), fun h => List.mem_cons_of_mem _ (this.2 h)⟩
theorem all_in (t : Int) (k : List Int) : InP (allSp t) t k := by
  refine ⟨rfl, ?_, .inl rfl⟩
  unfold le allSp Lib.bytesOf
  cases (k.map fun n => UInt8.ofNat n.toNat) <;> simp [Lib.compareBytes]
/-- has some span the key? -/
def anyIn (l : List S38) (t : Int) (k : List Int) : Prop := ∃ y ∈ l, InP y t k
theorem keep_drop {x : S38} {l : List S38} {t : Int} {k : List Int} : anyIn (dropC x l ++ [x]) t k ↔ InP x t k ∨ anyIn l t k := by
  unfold anyIn dropC
  constructor
  · rintro ⟨y, hy, hk⟩
    rcases List.mem_append.1 hy with hy | hy
    · exact .inr ⟨y, (List.mem_filter.1 hy).1, hk⟩
    · rw [List.mem_singleton] at hy; subst hy; exact .inl hk
  · rintro (hk | ⟨y, hy, hk⟩)
    · exact ⟨x, by simp, hk⟩
    · by_cases hc : coversB x y = true
      · exact ⟨x, by simp, covers_in hc hk⟩
      · exact ⟨y, List.mem_append_left _ (List.mem_filter.2 ⟨hy, by simp [hc]⟩), hk⟩
theorem keep_merge {u t : Int} {l : List S38} {k : List Int} (h : anyIn l t k) : anyIn (mergeL u l) t k := by
  obtain ⟨y, hy, hk⟩ := h
  by_cases hu : y.f0 = u
  · refine ⟨_, (merge_mem u l y hy).1 hu, ?_⟩
    rw [← hk.1, hu]; exact all_in u k
  · exact ⟨_, (merge_mem u l y hy).2 hu, hk⟩
theorem merge_keep {u t : Int} {l : List S38} {k : List Int} (h : anyIn (mergeL u l) t k) : t = u ∨ anyIn l t k := by
  obtain ⟨y, hy, hk⟩ := h
  rcases mem_merge u l y hy with h | h
  · subst h; exact .inl hk.1.symm
  · exact .inr ⟨y, h, hk⟩
theorem many_drop (x : S38) (l : List S38) : manyOf x.f0 (dropC x l ++ [x]) ≠ 0 := by
  unfold manyOf
  rw [List.filter_append, List.length_append, List.filter_cons_of_pos (by simp), List.length_cons]
  omega
/-- What SpanKeeps asks of what Add says. -/
theorem add_keeps (l : List S38) (x : S38) (most t : Int) (k : List Int) (he : (addL l x most).2 = 0) :
    ((InP x t k ∨ anyIn l t k) → anyIn (addL l x most).1 t k) ∧
    (anyIn (addL l x most).1 t k → (InP x t k ∨ anyIn l t k) ∨ (manyOf x.f0 (addL l x most).1 = 1 ∧ t = x.f0)) ∧
    ((manyOf x.f0 l : Int) ≤ most → (manyOf x.f0 (addL l x most).1 : Int) ≤ most) := by
  unfold addL at he ⊢
  split at he
  · exact absurd he (by simp)
  rename_i h1
  rw [if_neg h1]
  simp only [Bool.or_eq_true, decide_eq_true_eq, not_or] at h1
  by_cases h2 : (emptyB x || l.any fun y => coversB y x) = true
  · rw [if_pos h2]
    refine ⟨?_, fun h => .inl (.inr h), fun h => h⟩
    rintro (h | h)
    · rw [Bool.or_eq_true, List.any_eq_true] at h2
      rcases h2 with h2 | ⟨y, hy, h2⟩
      · have := (full_iff x).2 ⟨k, rfl, h.2⟩
        rw [h2] at this; cases this
      · exact ⟨y, hy, covers_in h2 h⟩
    · exact h
  · rw [if_neg h2]
    rw [len_places]
    have hm := many_drop x l
    by_cases h3 : most < (((dropC x l ++ [x]).filter fun y => decide (y.f0 = x.f0)).length : Int)
    · rw [if_pos h3]
      refine ⟨fun h => keep_merge (keep_drop.2 h), fun h => ?_, fun _ => ?_⟩
      · rcases merge_keep h with h | h
        · exact .inr ⟨many_merge _ _ hm, h⟩
        · exact .inl (keep_drop.1 h)
      · simp only
        rw [many_merge _ _ hm]
        omega
    · rw [if_neg h3]
      refine ⟨fun h => keep_drop.2 h, fun h => .inl (keep_drop.1 h), fun _ => ?_⟩
      simp only
      unfold manyOf
      omega
/-! as Bools, the way the law's loops count -/
theorem anyIn_iff (l : List S38) (t : Int) (k : List Int) : anyIn l t k ↔ l.any (fun y => inB y t k) = true := by
  unfold anyIn
  rw [List.any_eq_true]
  constructor
  · rintro ⟨y, h1, h2⟩; exact ⟨y, h1, (inB_iff _ _ _).2 h2⟩
  · rintro ⟨y, h1, h2⟩; exact ⟨y, h1, (inB_iff _ _ _).1 h2⟩
end Go.Proofs.Ytpknchaajgkbnaa.Pure
