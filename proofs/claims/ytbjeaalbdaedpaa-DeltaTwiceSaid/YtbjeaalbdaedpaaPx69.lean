import Derived.Test.YtbjeaalbdaedpaaPx0
import Derived.Test.YtbjeaalbdaedpaaPx1
import Derived.Test.YtbjeaalbdaedpaaPx37
import Derived.Test.YtbjeaalbdaedpaaPx48
import Derived.Test.YtbjeaalbdaedpaaPx49
import Derived.BigQuiet
import Derived.DeepKeys4
import Derived.Maps.OwnSet
import Derived.Maps.Views
import Derived.Shelf.SlSortCmp.WholeK
namespace Go.Proofs.Ytbjeaalbdaedpaa.P
open Go.RowKit Go.Proofs.YtbjeaalbdaedpaaW.PrintWords Go.Proofs.YtbjeaalbdaedpaaW.PrintLast Go.Proofs.YtbjeaalbdaedpaaW.PrintMore
attribute [local go_sem] max2_int min2_int max_two min_two max_three min_three max_four min_four
set_option linter.unusedVariables false
set_option linter.unusedSimpArgs false
def plW (x : S28) : Int × ByteArray := (x.f0, strOfNums x.f1)
def plLit (p : Int × ByteArray) : Lit := .string (keyBytes [.int .i64 p.1, .string p.2.data.toList])
def plVal (p : Int × ByteArray) : Value := .agg #[.int .i64 p.1, .string p.2]
def plOk (p : Int × ByteArray) : Prop := (Lit.int .i64 p.1).wf = true ∧ p.2.size ≤ maxLen
theorem keyOf_is {P : Program} {k : TypeId} {f0 f1 : Field} (hu : P.underlying k = some (.struct #[f0, f1])) (hui : P.underlying f0.type = some (.int .i64)) (hus : P.underlying f1.type = some .string) (h00 : f0.offset = 0) (h11 : f1.offset = 1) (hn0 : (f0.name != "_") = true) (hn1 : (f1.name != "_") = true)
    (hk : P.keyType k = true) {n : Nat} (hsz : P.types.size = n + 1) (hc : P.cellsOf k = 2) (hc1 : P.cellsOf f0.type = 1) (hc2 : P.cellsOf f1.type = 1) (a : Int) (s : ByteArray) (hw : (Lit.int .i64 a).wf = true) (hs : s.size ≤ maxLen) :
    keyOf P k (.agg #[.int .i64 a, .string s]) = some (.string (keyBytes [.int .i64 a, .string s.data.toList])) := by
  have hform : (Value.agg #[.int .i64 a, .string s]).formed P k = true := by unfold Value.formed; rw [hu]; simp [hc]
  have hl : P.keyLits (P.types.size + 1) k [.int .i64 a, .string s] = some [.int .i64 a, .string s.data.toList] := by
    rw [hsz]
    have h0 : f0.name ≠ "_" := by simpa using hn0
    have h1 : f1.name ≠ "_" := by simpa using hn1
    simp [Program.keyLits, hu, hui, hus, hc, hc1, hc2, h00, h11, h0, h1, hw, hs]
  unfold keyOf
  rw [hu]
  simp only [hk, hform, Bool.and_self, if_true]
  rw [show (Value.agg #[.int .i64 a, .string s]).cells.toList = [.int .i64 a, .string s] from rfl, hl]
  rfl
set_option maxRecDepth 100000 in
theorem plKey {p : Int × ByteArray} (h : plOk p) : keyOf Try.prog 68 (plVal p) = some (plLit p) :=
  keyOf_is (n := Try.prog.types.size - 1) Try.underlying68 Try.underlying3 Try.underlying9 rfl rfl (by decide) (by decide) (by kernel_rfl) (by kernel_rfl) (by kernel_rfl) (by kernel_rfl) (by kernel_rfl) _ _ h.1 h.2
theorem plWide {P : Program} {k : TypeId} {fs : Array Field} (hu : P.underlying k = some (.struct fs)) : (match P.underlying k with | some (.array _ _) | some (.struct _) => true | _ => false) = true := by rw [hu]
set_option maxRecDepth 100000 in
theorem plLaid : laidOutB Try.prog = true := by kernel_rfl
set_option maxRecDepth 100000 in
theorem plLaw : Go.Maps.Keyed Try.prog 68 := Go.Maps.Keyed.of_law (deep_law_laid (P := Try.prog) plLaid (m := 2) (by omega) (of_decide_eq_true (by kernel_rfl)) (by kernel_rfl) (plWide Try.underlying68))
theorem agg_two {a b : Int} {s u : ByteArray} (h : Value.agg #[.int .i64 a, .string s] = .agg #[.int .i64 b, .string u]) : (a, s) = (b, u) := by
  injection h with h2
  have h3 : [Value.int .i64 a, .string s] = [.int .i64 b, .string u] := by simpa using h2
  injection h3 with h4 h5
  injection h4 with _ h4
  injection h5 with h5 _
  injection h5 with h5
  rw [h4, h5]
theorem plLit_inj {p q : Int × ByteArray} (hp : plOk p) (hq : plOk q) (h : plLit p = plLit q) : p = q :=
  agg_two (plLaw.inj ((plKey hp).trans (congrArg some h)) (plKey hq))
theorem plLit_key {p : Int × ByteArray} (hp : plOk p) : WideAt.IsKeyLit (plLit p) := plLaw.key (plKey hp)
def rW (v : Value) : Option (DataW Value × List MemPlace) := match v with
  | .agg ⟨[.int .i64 _, .slice _ _ _, .bool _, .slice _ _ _]⟩ => some (.held v, [])
  | _ => none
theorem rW_mk (a : Int) (A : Option Addr) (n c : Nat) (g : Bool) (B : Option Addr) (m d : Nat) : rW (.agg #[.int .i64 a, .slice A n c, .bool g, .slice B m d]) = some (.held (.agg #[.int .i64 a, .slice A n c, .bool g, .slice B m d]), []) := rfl
theorem rW_inv {v : Value} {d : DataW Value} {ps : List MemPlace} (h : rW v = some (d, ps)) : ∃ (a : Int) (A : Option Addr) (n c : Nat) (g : Bool) (B : Option Addr) (m e : Nat), v = .agg #[.int .i64 a, .slice A n c, .bool g, .slice B m e] ∧ d = .held v := by
  unfold rW at h
  split at h
  · injection h with h
    injection h with h1 h2
    exact ⟨_, _, _, _, _, _, _, _, rfl, h1.symm⟩
  · cases h
def lastIdx (pl : Nat → Int × ByteArray) : Nat → Int × ByteArray → Option Nat
  | 0, _ => none
  | k + 1, p => if pl k = p then some k else lastIdx pl k p
def mapD (pl : Nat → Int × ByteArray) (val : Nat → Value) : Nat → DataW Value
  | 0 => .map []
  | k + 1 => (mapD pl val k).put (plLit (pl k)) (.held (val k))
theorem mapD_is (pl : Nat → Int × ByteArray) (val : Nat → Value) : ∀ k, Go.Maps.IsMap (mapD pl val k)
  | 0 => Go.Maps.isMap_empty
  | k + 1 => (mapD_is pl val k).put _ _
theorem mapD_at (pl : Nat → Int × ByteArray) (val : Nat → Value) (n : Nat) (hok : ∀ j, j < n → plOk (pl j)) (p : Int × ByteArray) (hp : plOk p) : ∀ k, k ≤ n →
    Go.Maps.has (mapD pl val k) (plLit p) = (lastIdx pl k p).isSome ∧ ∀ z, (mapD pl val k).atKey (plLit p) z = (match lastIdx pl k p with | some j => .held (val j) | none => z)
  | 0, _ => ⟨rfl, fun z => rfl⟩
  | k + 1, hk => by
    obtain ⟨h1, h2⟩ := mapD_at pl val n hok p hp k (by omega)
    unfold mapD lastIdx
    by_cases e : pl k = p
    · rw [if_pos e, ← e]
      exact ⟨Go.Maps.has_put_same (mapD_is pl val k) (plLit_key (hok k (by omega))) _, fun z => Go.Maps.atKey_put_same (mapD_is pl val k) (plLit_key (hok k (by omega))) _ _⟩
    · rw [if_neg e]
      have hne : plLit p ≠ plLit (pl k) := fun h => e (plLit_inj hp (hok k (by omega)) h).symm
      exact ⟨(Go.Maps.has_put_other hne _).trans h1, fun z => (Go.Maps.atKey_put_other hne _ _).trans (h2 z)⟩
theorem lastIdx_lt {pl : Nat → Int × ByteArray} {p : Int × ByteArray} : ∀ {k j : Nat}, lastIdx pl k p = some j → j < k ∧ pl j = p
  | 0, j, h => by cases h
  | k + 1, j, h => by
    unfold lastIdx at h
    split at h
    · rename_i e
      obtain rfl := Option.some.inj h
      exact ⟨by omega, e⟩
    · have := lastIdx_lt h
      exact ⟨by omega, this.2⟩
theorem lastIdx_max {pl : Nat → Int × ByteArray} {p : Int × ByteArray} : ∀ {k j : Nat}, lastIdx pl k p = some j → ∀ i, j < i → i < k → pl i ≠ p
  | 0, j, h => by cases h
  | k + 1, j, h => by
    intro i hj hi
    unfold lastIdx at h
    split at h
    · obtain rfl := Option.some.inj h
      omega
    · rename_i e
      rcases Nat.lt_or_ge i k with h1 | h1
      · exact lastIdx_max h i hj h1
      · obtain rfl : i = k := by omega
        exact e
theorem lastIdx_none {pl : Nat → Int × ByteArray} {p : Int × ByteArray} : ∀ {k : Nat}, lastIdx pl k p = none → ∀ i, i < k → pl i ≠ p
  | 0, _ => fun i hi => absurd hi (Nat.not_lt_zero _)
  | k + 1, h => by
    intro i hi
    unfold lastIdx at h
    split at h
    · cases h
    · rename_i e
      rcases Nat.lt_or_ge i k with h1 | h1
      · exact lastIdx_none h i h1
      · obtain rfl : i = k := by omega
        exact e
def placesK (pl : Nat → Int × ByteArray) : Nat → List (Int × ByteArray)
  | 0 => []
  | k + 1 => if (lastIdx pl k (pl k)).isSome = true then placesK pl k else placesK pl k ++ [pl k]
theorem placesK_len (pl : Nat → Int × ByteArray) : ∀ k, (placesK pl k).length ≤ k
  | 0 => Nat.le_refl _
  | k + 1 => by
    have := placesK_len pl k
    unfold placesK
    split
    · omega
    · rw [List.length_append]; simp; omega
theorem placesK_mem (pl : Nat → Int × ByteArray) : ∀ k p, p ∈ placesK pl k ↔ ∃ j, j < k ∧ pl j = p
  | 0, p => by simp [placesK]
  | k + 1, p => by
    have ih := placesK_mem pl k
    unfold placesK
    split
    · rename_i h
      obtain ⟨j, hj⟩ := Option.isSome_iff_exists.1 h
      obtain ⟨h1, h2⟩ := lastIdx_lt hj
      rw [ih]
      constructor
      · rintro ⟨i, hi, e⟩; exact ⟨i, by omega, e⟩
      · rintro ⟨i, hi, e⟩
        rcases Nat.lt_or_ge i k with h3 | h3
        · exact ⟨i, h3, e⟩
        · obtain rfl : i = k := by omega
          exact ⟨j, h1, h2.trans e⟩
    · rw [List.mem_append, ih, List.mem_singleton]
      constructor
      · rintro (⟨i, hi, e⟩ | rfl)
        · exact ⟨i, by omega, e⟩
        · exact ⟨k, by omega, rfl⟩
      · rintro ⟨i, hi, e⟩
        rcases Nat.lt_or_ge i k with h3 | h3
        · exact .inl ⟨i, h3, e⟩
        · obtain rfl : i = k := by omega
          exact .inr e.symm
theorem placesK_nodup (pl : Nat → Int × ByteArray) : ∀ k, (placesK pl k).Nodup
  | 0 => List.Pairwise.nil
  | k + 1 => by
    have ih := placesK_nodup pl k
    unfold placesK
    split
    · exact ih
    · rename_i h
      rw [List.nodup_append]
      refine ⟨ih, by simp, fun a ha b hb => ?_⟩
      rw [List.mem_singleton] at hb
      subst hb
      rintro rfl
      obtain ⟨j, hj, e⟩ := (placesK_mem pl k _).1 ha
      cases hl : lastIdx pl k (pl k) with
      | none => exact lastIdx_none hl j hj e
      | some i => rw [hl] at h; exact h rfl
def putW (w : S28) : List S28 → List S28
  | [] => [w]
  | x :: xs => if cmpP (plW w) (plW x) < 0 then w :: x :: xs else if plW w = plW x then w :: xs else x :: putW w xs
def lastL (l : List S28) : List S28 := l.foldl (fun a w => putW w a) []
def ltW (a b : S28) : Prop := ltOf cmpP (plW a) (plW b) = true
theorem ltW_iff (a b : S28) : cmpP (plW a) (plW b) < 0 ↔ ltW a b := by unfold ltW ltOf; rw [decide_eq_true_eq]
theorem ltW_tri (a b : Int × ByteArray) (h1 : ltOf cmpP a b = false) (h2 : a ≠ b) : ltOf cmpP b a = true := by
  obtain ⟨a0, a1⟩ := a
  obtain ⟨b0, b1⟩ := b
  rw [ltP_eq] at *
  simp only [Bool.or_eq_false_iff, Bool.and_eq_false_iff, decide_eq_false_iff_not, Bool.or_eq_true, Bool.and_eq_true, decide_eq_true_eq] at *
  obtain ⟨h1, h3⟩ := h1
  by_cases e : a0 = b0
  · subst e
    have h3 := h3.resolve_left (fun h => h rfl)
    have n := cmp_neg a1.toList b1.toList
    refine .inr ⟨rfl, ?_⟩
    by_cases h0 : Lib.compareBytes a1.toList b1.toList = 0
    · exfalso
      apply h2
      have h4 := cmp_zero _ _ h0
      congr 1
      rw [ByteArray.toList_eq, ByteArray.toList_eq] at h4
      exact ByteArray.ext (Array.ext' h4)
    · omega
  · exact .inl (by omega)
theorem ltW_ne {a b : Int × ByteArray} (h : ltOf cmpP a b = true) : a ≠ b := fun e => by subst e; rw [swoP.irrefl] at h; cases h
theorem rises_unique {α : Type} {R : α → α → Prop} (hirr : ∀ x, ¬ R x x) (htr : ∀ {x y z}, R x y → R y z → R x z) : ∀ (l m : List α), l.Pairwise R → m.Pairwise R → (∀ x, x ∈ l ↔ x ∈ m) → l = m
  | [], [], _, _, _ => rfl
  | [], y :: m, _, _, h => by have := (h y).2 (by simp); simp at this
  | x :: l, [], _, _, h => by have := (h x).1 (by simp); simp at this
  | x :: l, y :: m, hl, hm, h => by
    obtain ⟨hx, hl1⟩ := List.pairwise_cons.1 hl
    obtain ⟨hy, hm1⟩ := List.pairwise_cons.1 hm
    clear hl hm
    have e : x = y := by
      rcases List.mem_cons.1 ((h x).1 (by simp)) with e | h1
      · exact e
      · rcases List.mem_cons.1 ((h y).2 (by simp)) with e | h2
        · exact e.symm
        · exact absurd (htr (hx y h2) (hy x h1)) (hirr x)
    subst e
    congr 1
    refine rises_unique hirr htr l m hl1 hm1 (fun z => ?_)
    constructor
    · intro hz
      rcases List.mem_cons.1 ((h z).1 (List.mem_cons_of_mem _ hz)) with rfl | h1
      · exact absurd (hx z hz) (hirr z)
      · exact h1
    · intro hz
      rcases List.mem_cons.1 ((h z).2 (List.mem_cons_of_mem _ hz)) with rfl | h1
      · exact absurd (hy z hz) (hirr z)
      · exact h1
theorem ltW_irr (x : S28) : ¬ ltW x x := fun h => by unfold ltW at h; rw [swoP.irrefl] at h; cases h
theorem ltW_trans {x y z : S28} (h1 : ltW x y) (h2 : ltW y z) : ltW x z := swoP.trans _ _ _ h1 h2
theorem putW_mem (w : S28) : ∀ (l : List S28), l.Pairwise ltW → (putW w l).Pairwise ltW ∧ ∀ x, x ∈ putW w l ↔ x = w ∨ (x ∈ l ∧ plW x ≠ plW w)
  | [], _ => by simp [putW]
  | y :: l, h => by
    obtain ⟨hy, hl⟩ := List.pairwise_cons.1 h
    obtain ⟨ih1, ih2⟩ := putW_mem w l hl
    unfold putW
    by_cases h1 : cmpP (plW w) (plW y) < 0
    · rw [if_pos h1]
      have hwy := (ltW_iff w y).1 h1
      have hall : ∀ z ∈ y :: l, ltW w z := by
        intro z hz
        rcases List.mem_cons.1 hz with rfl | hz
        · exact hwy
        · exact ltW_trans hwy (hy z hz)
      refine ⟨List.pairwise_cons.2 ⟨hall, h⟩, fun x => ?_⟩
      rw [List.mem_cons]
      constructor
      · rintro (e | hx)
        · exact .inl e
        · exact .inr ⟨hx, fun e => ltW_ne (hall x hx) e.symm⟩
      · rintro (e | hx)
        · exact .inl e
        · exact .inr hx.1
    · rw [if_neg h1]
      by_cases h2 : plW w = plW y
      · rw [if_pos h2]
        refine ⟨List.pairwise_cons.2 ⟨fun z hz => by have := hy z hz; unfold ltW at *; rw [h2]; exact this, hl⟩, fun x => ?_⟩
        rw [List.mem_cons]
        constructor
        · rintro (e | hx)
          · exact .inl e
          · exact .inr ⟨List.mem_cons_of_mem _ hx, fun e => ltW_ne (hy x hx) (by rw [e, h2])⟩
        · rintro (e | ⟨hx, hne⟩)
          · exact .inl e
          · rcases List.mem_cons.1 hx with rfl | hx
            · exact absurd h2.symm hne
            · exact .inr hx
      · rw [if_neg h2]
        have h3 : ltOf cmpP (plW w) (plW y) = false := by unfold ltOf; exact decide_eq_false h1
        have hyw : ltW y w := ltW_tri _ _ h3 h2
        refine ⟨List.pairwise_cons.2 ⟨fun z hz => ?_, ih1⟩, fun x => ?_⟩
        · rcases (ih2 z).1 hz with rfl | ⟨hz, _⟩
          · exact hyw
          · exact hy z hz
        · rw [List.mem_cons, ih2, List.mem_cons]
          constructor
          · rintro (rfl | rfl | ⟨hx, hne⟩)
            · exact .inr ⟨.inl rfl, fun e => h2 e.symm⟩
            · exact .inl rfl
            · exact .inr ⟨.inr hx, hne⟩
          · rintro (rfl | ⟨rfl | hx, hne⟩)
            · exact .inr (.inl rfl)
            · exact .inl rfl
            · exact .inr (.inr ⟨hx, hne⟩)
def lastAt (l : List S28) (p : Int × ByteArray) : Option S28 := l.reverse.find? (fun y => decide (plW y = p))
theorem lastAt_snoc (l : List S28) (w : S28) (p : Int × ByteArray) : lastAt (l ++ [w]) p = if plW w = p then some w else lastAt l p := by
  unfold lastAt
  rw [List.reverse_append, List.reverse_singleton, List.singleton_append, List.find?_cons]
  by_cases h : plW w = p
  · rw [if_pos h, decide_eq_true h]
  · rw [if_neg h, decide_eq_false h]
theorem lastAt_place {l : List S28} {p : Int × ByteArray} {x : S28} (h : lastAt l p = some x) : plW x = p := by
  have := List.find?_some h
  simpa using this
theorem lastL_snoc (l : List S28) (w : S28) : lastL (l ++ [w]) = putW w (lastL l) := by unfold lastL; rw [List.foldl_append]; rfl
theorem lastL_spec (n : Nat) : ∀ (l : List S28), l.length = n → (lastL l).Pairwise ltW ∧ ∀ x, x ∈ lastL l ↔ lastAt l (plW x) = some x := by
  induction n with
  | zero =>
    intro l hl
    obtain rfl := List.length_eq_zero_iff.1 hl
    exact ⟨List.Pairwise.nil, fun x => by simp [lastL, lastAt]⟩
  | succ n ih =>
    intro l hl
    obtain ⟨l0, w, rfl⟩ : ∃ l0 w, l = l0 ++ [w] := ⟨l.dropLast, l.getLast (by intro e; rw [e] at hl; simp at hl), (List.dropLast_concat_getLast _).symm⟩
    rw [List.length_append, List.length_singleton] at hl
    obtain ⟨h1, h2⟩ := ih l0 (by omega)
    obtain ⟨h3, h4⟩ := putW_mem w (lastL l0) h1
    rw [lastL_snoc]
    refine ⟨h3, fun x => ?_⟩
    rw [h4, lastAt_snoc, h2]
    by_cases e : plW w = plW x
    · rw [if_pos e]
      constructor
      · rintro (rfl | ⟨_, hne⟩)
        · rfl
        · exact absurd e.symm hne
      · intro h
        exact .inl (Option.some.inj h).symm
    · rw [if_neg e]
      constructor
      · rintro (rfl | ⟨h, _⟩)
        · exact absurd rfl e
        · exact h
      · intro h
        exact .inr ⟨h, fun e2 => e e2.symm⟩
theorem lastL_unique (l m : List S28) (h1 : m.Pairwise ltW) (h2 : ∀ x, x ∈ m ↔ lastAt l (plW x) = some x) : m = lastL l := by
  obtain ⟨h3, h4⟩ := lastL_spec _ l rfl
  exact rises_unique ltW_irr ltW_trans m (lastL l) h1 h3 (fun x => (h2 x).trans (h4 x).symm)
def flatP (l : List (Int × ByteArray)) : List Value := l.flatMap encP
theorem flatP_get : ∀ (l : List (Int × ByteArray)) (t : Nat), (flatP l)[t]? = (l[t / 2]?).bind (fun x => (encP x)[t % 2]?)
  | [], t => by simp [flatP]
  | x :: l, 0 => rfl
  | x :: l, 1 => rfl
  | x :: l, t + 2 => by
    have e : flatP (x :: l) = .int .i64 x.1 :: .string x.2 :: flatP l := rfl
    rw [e, List.getElem?_cons_succ, List.getElem?_cons_succ, flatP_get l t, show (t + 2) / 2 = t / 2 + 1 by omega, show (t + 2) % 2 = t % 2 by omega, List.getElem?_cons_succ]
theorem flatK_list (d : Array (Int × ByteArray)) : (Go.Sort.flatK encP 2 d).toList = flatP d.toList := by
  apply List.ext_getElem?
  intro t
  rw [flatP_get, Array.getElem?_toList]
  by_cases h : t < d.size * 2
  · have h1 : t / 2 < d.size := by omega
    rw [Array.getElem?_eq_getElem (by simpa using h), Array.getElem?_toList, Array.getElem?_eq_getElem h1]
    have e := Go.Sort.get_flatK encP 2 d t h
    rw [getElem!_pos _ t (by simpa using h), getElem!_pos d _ h1] at e
    rw [e]
    have h2 : t % 2 < (encP d[t / 2]).length := by show t % 2 < 2; omega
    simp only [Option.bind_some]
    rw [getElem!_pos (encP d[t / 2]) (t % 2) h2, List.getElem?_eq_getElem h2]
  · rw [Array.getElem?_eq_none (by simp; omega), Array.getElem?_toList, Array.getElem?_eq_none (by omega)]
    rfl
theorem holdsF {w : World} {g n : Nat} {cur : Array Value} {e : TypeId} {F : Array Value} (hb : w.heap[g]? = some (.cells cur e (0, 0))) (hF : F.size = n) (ht : cur.toList.take n = F.toList) : Go.Sort.Holds id w g 0 F := by
  intro j hj
  refine ⟨?_, by simp [World.frozen?, hb]⟩
  have h1 : (cur.toList.take n)[j]? = F.toList[j]? := by rw [ht]
  rw [List.getElem?_take_of_lt (by omega)] at h1
  simp only [World.cell?, hb, Nat.zero_add]
  simp only [Option.isSome_none, Bool.false_eq_true, if_false]
  rw [← Array.getElem?_toList, h1, Array.getElem?_toList, Array.getElem?_eq_getElem hj, getElem!_pos F j hj]
  rfl
theorem ownsRowF {w : World} {base g cap n m : Nat} {e : TypeId} {os : Array Obj} {cur : Array Value} (F : Array Value) (hl : F.size = n * 2) (hbase : base ≤ g) (hb : w.heap[g]? = some (.cells cur e (0, 0))) (h1 : n ≤ cap) (h2 : cap ≤ maxLen) (h3 : cur.size = cap * 2) :
    (Go.Sort.grow (Go.Sort.putRow id (Go.Sort.ahead w m) g 0 F) os).ownsRow base e 2 (.slice (some ⟨g, 0, none⟩) n cap) n F.toList := by
  have hg : g < w.heap.size := (Array.getElem?_eq_some_iff.1 hb).1
  have hh : (Go.Sort.grow (Go.Sort.putRow id (Go.Sort.ahead w m) g 0 F) os).heap[g]? = some (.cells (Go.Sort.putCells id 0 F cur) e (0, 0)) := by
    rw [Go.Sort.heap_grow_old _ _ (by simpa using hg)]
    simp [Go.Sort.putRow, Go.Sort.mapBlock, Go.Sort.ahead, Array.getElem?_modify, hb, Go.Sort.onCells]
  refine ⟨by simpa using hl, .inr ⟨g, cap, _, rfl, hbase, hh, h1, h2, by simp [Go.Sort.putCells, h3], ?_⟩⟩
  apply List.ext_getElem?
  intro j
  by_cases hj : j < n * 2
  · rw [List.getElem?_take_of_lt hj, Array.getElem?_toList, Array.getElem?_toList]
    have hc : j < cur.size := by omega
    simp [Go.Sort.putCells, hl, hj, hc, show j < F.size by omega]
  · rw [List.getElem?_take_eq_none (by omega), Array.getElem?_toList, Array.getElem?_eq_none (by omega)]
theorem grownByF {w : World} {g m : Nat} {os : Array Obj} (F : Array Value) : w.grownBy (Go.Sort.grow (Go.Sort.putRow id (Go.Sort.ahead w m) g 0 F) os) (some g) := by
  refine ⟨rfl, rfl, rfl, by simp, fun k hk hne => ?_⟩
  rw [Go.Sort.heap_grow_old _ _ (by simpa using hk)]
  have : g ≠ k := fun e => hne (by rw [e])
  simp [Go.Sort.putRow, Go.Sort.mapBlock, Go.Sort.ahead, Array.getElem?_modify, this]
theorem sort_owned {w : World} {base g cap : Nat} (ps : List (Int × ByteArray)) (hown : w.ownsRow base 68 2 (.slice (some ⟨g, 0, none⟩) ps.length cap) ps.length (flatP ps)) (hlt : ps.length < 4611686018427387904) :
    Calls Try.prog 42 #[.slice (some ⟨g, 0, none⟩) ps.length cap, .func (.func 43) #[] #[]] w fun e w' =>
      e = .returned (.tuple #[]) ∧ ∃ qs : List (Int × ByteArray), qs.Perm ps ∧ qs.Pairwise (fun a b => ltOf cmpP b a = false) ∧ w'.ownsRow base 68 2 (.slice (some ⟨g, 0, none⟩) ps.length cap) ps.length (flatP qs) ∧ w.grownBy w' (some g) := by
  rcases hown.2 with ⟨h0, _⟩ | ⟨g', cap', cur, hv, hbase, hb, h1, h2, h3, h4⟩
  · cases h0
  cases hv
  have hF : (Go.Sort.flatK encP 2 ps.toArray).toList = flatP ps := by rw [flatK_list]
  have hH : Go.Sort.HoldsK encP 2 w g 0 ps.toArray := holdsF hb (n := ps.length * 2) (by simp) (by rw [h4, hF])
  have hcon := sort_place g 0 cap ps.toArray w hH (Array.getElem?_eq_some_iff.1 hb).1 (by simpa using hlt)
  rw [List.size_toArray] at hcon
  refine hcon.mono ?_
  rintro e w' ⟨he, d', n, os, hp, hs, rfl⟩
  have hps : d'.size = ps.length := by rw [hp.1]; simp
  refine ⟨he, d'.toList, ?_, ?_, ?_, ?_⟩
  · have h5 := hp.2.2
    rw [Array.extract_eq_self_of_le (by rw [hps]; exact Nat.le_refl _), Array.extract_eq_self_of_le (by simp)] at h5
    simpa using h5
  · rw [List.pairwise_iff_getElem]
    intro i j hi hj hij
    have h6 := hs i j (Nat.zero_le _) hij (by rw [Array.length_toList, hps] at hj; simpa using hj)
    rw [getElem!_pos d' i (by simpa using hi), getElem!_pos d' j (by simpa using hj)] at h6
    simpa using h6
  · have h7 := ownsRowF (w := w) (m := n) (os := os) (Go.Sort.flatK encP 2 d') (n := ps.length) (by simp [hps]) hbase hb h1 h2 h3
    rw [flatK_list] at h7
    exact h7
  · exact grownByF _
set_option maxHeartbeats 1000000 in
set_option maxRecDepth 100000 in
theorem insort_nil (f : Value) (w : World) : Calls Try.prog 67 #[.slice none 0 0, .int .i64 0, .int .i64 0, f] w fun e w' => e = .returned (.tuple #[]) ∧ w' = w := by
  go_enter Try.func67, Try.ntmps67
  go_wp2_with (fail)
  go_loopw [8] (fun i wr => i = .int .i64 1 ∧ wr = w) (fun _ _ => 0)
  case atStart => exact ⟨by go_num, rfl⟩
  case round =>
    obtain ⟨rfl, rfl⟩ := hrel
    go_wp2
    go_end0
    exact ⟨rfl, rfl⟩
set_option maxHeartbeats 1000000 in
set_option maxRecDepth 100000 in
theorem pdq_nil (f : Value) (l : Int) (w : World) : Calls Try.prog 58 #[.slice none 0 0, .int .i64 0, .int .i64 0, .int .i64 l, f] w fun e w' => e = .returned (.tuple #[]) ∧ w' = w := by
  go_enter Try.func58, Try.ntmps58
  go_wp2_with (fail)
  go_loopw [1, 2, 3, 10, 11] (fun s1 s2 s3 s10 s11 wr => s1 = .int .i64 0 ∧ s2 = .int .i64 0 ∧ wr = w) (fun _ _ _ _ _ _ => 0)
  case atStart => exact ⟨rfl, rfl, rfl⟩
  case round =>
    obtain ⟨rfl, rfl, rfl⟩ := hrel
    go_wp2_with (go_at_call 67; refine (insort_nil f _).mono ?_; rintro e w1 ⟨rfl, rfl⟩)
    refine bodyPost_ret (results_none rfl _ _ _) rfl ?_
    exact ⟨rfl, rfl⟩
set_option maxHeartbeats 1000000 in
set_option maxRecDepth 100000 in
theorem sort_nil (f : Value) (w : World) : Calls Try.prog 42 #[.slice none 0 0, f] w fun e w' => e = .returned (.tuple #[]) ∧ w' = w := by
  have hl : Calls Try.prog 59 #[.int .u64 0] w fun e w' => e = .returned (.int .i64 (Lib.bitLen 0 : Nat)) ∧ w' = w := by
    have h := Any.bits_Len (SlLaysF0.n15.bits (P := Try.prog) (ρ := sortPl_ren) { sortPl with }) 0 w (by omega) (by omega)
    exact h
  go_enter Try.func42, Try.ntmps42
  go_wp2_with (first | (go_at_call 59; refine hl.mono ?_; rintro e w1 ⟨rfl, rfl⟩) | (go_at_call 58; refine (pdq_nil f _ _).mono ?_; rintro e w1 ⟨rfl, rfl⟩))
  go_end0
  exact ⟨rfl, rfl⟩
theorem sort_any {w : World} {base : Nat} {v : Value} (ps : List (Int × ByteArray)) (hown : w.ownsRow base 68 2 v ps.length (flatP ps)) (hlt : ps.length < 4611686018427387904) :
    Calls Try.prog 42 #[v, .func (.func 43) #[] #[]] w fun e w' =>
      e = .returned (.tuple #[]) ∧ ∃ qs : List (Int × ByteArray), qs.Perm ps ∧ qs.Pairwise (fun a b => ltOf cmpP b a = false) ∧ w'.ownsRow base 68 2 v qs.length (flatP qs) ∧ w.grownBy w' v.ownBlock := by
  rcases hown.2 with ⟨rfl, h0⟩ | ⟨g, cap, cur, rfl, _⟩
  · obtain rfl := List.length_eq_zero_iff.1 h0
    refine (sort_nil _ w).mono ?_
    rintro e w' ⟨he, rfl⟩
    exact ⟨he, [], List.Perm.refl _, List.Pairwise.nil, hown, World.grownBy.refl _ _⟩
  · refine (sort_owned ps hown hlt).mono ?_
    rintro e w' ⟨he, qs, h1, h2, h3, h4⟩
    refine ⟨he, qs, h1, h2, ?_, h4⟩
    rw [h1.length_eq]
    exact h3
def outp (l : List S28) (p : Int × ByteArray) : S28 := (lastAt l p).getD (rd_T28 l 0)
theorem lastAt_idx (l : List S28) (p : Int × ByteArray) : lastAt l p = (lastIdx (fun j : Nat => plW (rd_T28 l (j : Int))) l.length p).map (fun j => rd_T28 l ((j : Nat) : Int)) := by
  cases hl : lastIdx (fun j : Nat => plW (rd_T28 l (j : Int))) l.length p with
  | none =>
    have h := lastIdx_none hl
    refine find_rev_none _ _ (fun j hj => decide_eq_false (h _ (by omega)))
  | some j =>
    obtain ⟨h1, h2⟩ := lastIdx_lt hl
    have h3 := lastIdx_max hl
    have e : l.length - 1 - (l.length - 1 - j) = j := by omega
    have h4 := find_rev_some (p := fun y => decide (plW y = p)) l (l.length - 1 - j) (by omega) (fun i hi => decide_eq_false (h3 _ (by omega) (by omega))) (by rw [e]; exact decide_eq_true h2)
    rw [e] at h4
    exact h4
theorem outs_eq (l : List S28) (qs : List (Int × ByteArray)) (hp : qs.Perm (placesK (fun j : Nat => plW (rd_T28 l (j : Int))) l.length)) (hs : qs.Pairwise (fun a b => ltOf cmpP b a = false)) : qs.map (outp l) = lastL l := by
  have hmem : ∀ p, p ∈ qs ↔ (lastAt l p).isSome = true := by
    intro p
    rw [hp.mem_iff, placesK_mem, lastAt_idx, Option.isSome_map]
    constructor
    · rintro ⟨j, hj, e⟩
      cases hl : lastIdx (fun j : Nat => plW (rd_T28 l (j : Int))) l.length p with
      | none => exact absurd e (lastIdx_none hl j hj)
      | some j => rfl
    · intro h
      obtain ⟨j, hj⟩ := Option.isSome_iff_exists.1 h
      exact ⟨j, lastIdx_lt hj⟩
  have hpl : ∀ p ∈ qs, lastAt l p = some (outp l p) ∧ plW (outp l p) = p := by
    intro p h
    obtain ⟨x, hx⟩ := Option.isSome_iff_exists.1 ((hmem p).1 h)
    have : outp l p = x := by unfold outp; rw [hx]; rfl
    rw [this]
    exact ⟨hx, lastAt_place hx⟩
  refine lastL_unique l _ ?_ ?_
  · have hnd : qs.Pairwise (fun a b => a ≠ b) := hp.nodup_iff.2 (placesK_nodup _ _)
    rw [List.pairwise_map]
    refine (hs.and hnd).imp_of_mem ?_
    rintro a b ha hb ⟨h1, h2⟩
    unfold ltW
    rw [(hpl a ha).2, (hpl b hb).2]
    exact ltW_tri _ _ h1 (Ne.symm h2)
  · intro x
    rw [List.mem_map]
    constructor
    · rintro ⟨p, hp1, rfl⟩
      rw [(hpl p hp1).2]
      exact (hpl p hp1).1
    · intro h
      have hq := (hmem (plW x)).2 (by rw [h]; rfl)
      exact ⟨plW x, hq, by have := (hpl _ hq).1; rw [h] at this; exact (Option.some.inj this).symm⟩
theorem plOk_may {x : S28} (h : mayB x = true) : plOk (plW x) := by
  unfold mayB at h
  simp only [Bool.and_eq_true, decide_eq_true_eq] at h
  refine ⟨?_, ?_⟩
  · show (decide (IntKind.i64.min ≤ x.f0) && decide (x.f0 ≤ IntKind.i64.max)) = true
    have e1 : IntKind.i64.min = -9223372036854775808 := by decide
    have e2 : IntKind.i64.max = 9223372036854775807 := by decide
    rw [e1, e2, decide_eq_true (by omega), decide_eq_true (by omega)]
    rfl
  · show (strOfNums x.f1).size ≤ maxLen
    rw [strOfNums_size]
    unfold maxLen
    omega
theorem ownsRow_belowL {w W W1 : World} {base e sz n : Nat} {v : Value} {xs : List Value} (h : W.ownsRow base e sz v n xs) (hb : Below W.heap.size W W1) : W1.ownsRow base e sz v n xs := by
  refine ⟨h.1, h.2.imp (fun h => h) ?_⟩
  rintro ⟨g, cap, cur, e1, e2, e3, h4⟩
  exact ⟨g, cap, cur, e1, e2, (hb.block _ (Array.getElem?_eq_some_iff.1 e3).1).trans e3, h4⟩
theorem ownsMap_belowL {H : Type} {P : Program} {k : TypeId} {R : Value → Option (DataW H × List MemPlace)} {W W1 : World} {b n : Nat} {D : DataW H} (h : W.ownsMap P k R b n D) (hb : Below W.heap.size W W1) : W1.ownsMap P k R b n D :=
  h.kept (row := none) ⟨hb.os, hb.tape, hb.output, hb.size, fun k hk _ => hb.block k hk⟩ (by simp)
theorem take_snocL {α : Type} {l : List α} {j : Nat} {x : α} (h : l[j]? = some x) : l.take (j + 1) = l.take j ++ [x] := by
  rw [List.take_add_one, h]; rfl
theorem row_cells {W : World} {base e n c : Nat} {a : Addr} {qs : List (Int × ByteArray)} {i : Nat} {p : Int × ByteArray} (h : W.ownsRow base e 2 (.slice (some a) n c) qs.length (flatP qs)) (hi : qs[i]? = some p) :
    W.cell? (a.add (i * 2)) = some (.int .i64 p.1) ∧ W.cell? ⟨(a.add (i * 2)).block, (a.add (i * 2)).off + 1, none⟩ = some (.string p.2) := by
  rcases h.2 with ⟨h0, _⟩ | ⟨g, cap, cur, hv, _, hb, _, _, _, hc⟩
  · cases h0
  cases hv
  have hil : i < qs.length := (List.getElem?_eq_some_iff.1 hi).1
  have hat : ∀ t, t < qs.length * 2 → cur[t]? = (flatP qs)[t]? := by
    intro t ht
    rw [← hc, List.getElem?_take_of_lt ht, Array.getElem?_toList]
  refine ⟨?_, ?_⟩
  · rw [add_plain, blk_cell hb, hat _ (by omega), flatP_get, Nat.mul_div_cancel _ (by omega), hi, Nat.mul_mod_left]
    rfl
  · rw [add_plain]
    show W.cell? ⟨g, i * 2 + 1, none⟩ = _
    rw [blk_cell hb, hat _ (by omega), flatP_get, show (i * 2 + 1) / 2 = i by omega, hi, show (i * 2 + 1) % 2 = 1 by omega]
    rfl
theorem infoPl : (Try.prog.info? 68).map (fun i => (i.zero, i.size, i.bytes)) = some (some (.agg #[.int .i64 0, .string ⟨#[]⟩]), 2, 24) := by kernel_rfl
theorem flatP_snoc (l : List (Int × ByteArray)) (p : Int × ByteArray) : flatP (l ++ [p]) = flatP l ++ [.int .i64 p.1, .string p.2] := by unfold flatP; rw [List.flatMap_append]; rfl
theorem row_ne_typed {w : World} {base e size n t g : Nat} {v : Value} {xs : List Value} {cs : Array Value} (h : w.ownsRow base e size v n xs) (hg : w.heap[g]? = some (.cells cs t (0, 0))) (hne : e ≠ t) : some g ≠ v.ownBlock := by
  rcases h.2 with ⟨rfl, _⟩ | ⟨g', cap, cur, rfl, _, hb, _⟩
  · simp [Value.ownBlock]
  · intro e1
    have : g = g' := by simpa [Value.ownBlock] using e1
    subst this
    rw [hg] at hb
    injection hb with hb
    injection hb with _ hb _
    exact hne hb.symm
theorem liesW_rows {xs : List S28} {A : Option Addr} {vs : AtW} {W : World} (h : LiesW xs A vs W) (i : Nat) (hi : i < xs.length) :
    (rd_T28 xs (i : Int)).f1.length ≤ (vs i).2.1 ∧ (Kd.int .u8).C W (vs i).1 (rd_T28 xs (i : Int)).f1.length (rd_T28 xs (i : Int)).f1 ∧ (rd_T28 xs (i : Int)).f3.length ≤ (vs i).2.2.2 ∧ (Kd.int .u8).C W (vs i).2.2.1 (rd_T28 xs (i : Int)).f3.length (rd_T28 xs (i : Int)).f3 := by
  obtain ⟨_, _, _, _, _, _, h⟩ := h i hi
  exact h
def LastM (w : World) (oD : Obj) (bm : Nat) (pl : Nat → Int × ByteArray) (val : Nat → Value) (rows : List (Int × ByteArray)) (k : Nat) (v : Value) (W : World) : Prop :=
  Below w.heap.size w W ∧ W.heap[w.heap.size]? = some oD ∧ w.heap.size < bm ∧ W.ownsRow (w.heap.size + 1) 68 2 v rows.length (flatP rows) ∧ W.ownsMap Try.prog 68 rW bm k (mapD pl val k)
theorem LastM.step {w : World} {oD : Obj} {bm : Nat} {pl : Nat → Int × ByteArray} {val : Nat → Value} {rows : List (Int × ByteArray)} {k : Nat} {v : Value} {W W1 : World} (h : LastM w oD bm pl val rows k v W) (hb : Below W.heap.size W W1) : LastM w oD bm pl val rows k v W1 :=
  ⟨below_step h.1 hb, (hb.block _ (blk_lt h.2.1)).trans h.2.1, h.2.2.1, ownsRow_belowL (w := w) h.2.2.2.1 hb, ownsMap_belowL h.2.2.2.2 hb⟩
theorem LastM.apart {w : World} {oD : Obj} {bm : Nat} {pl : Nat → Int × ByteArray} {val : Nat → Value} {rows : List (Int × ByteArray)} {k : Nat} {v : Value} {W : World} (h : LastM w oD bm pl val rows k v W) : some bm ≠ v.ownBlock ∧ some w.heap.size ≠ v.ownBlock ∧ ∀ q, v.ownBlock = some q → w.heap.size + 1 ≤ q := by
  obtain ⟨_, _, _, h4, es, clock, hm, _⟩ := h
  rcases h4.2 with ⟨rfl, _⟩ | ⟨g, cap, cur, rfl, hb, hg, _⟩
  · simp [Value.ownBlock]
  · refine ⟨fun e => ?_, fun e => ?_, fun q e => ?_⟩
    · have : bm = g := by simpa [Value.ownBlock] using e
      subst this
      rw [hm] at hg
      cases hg
    · have : w.heap.size = g := by simpa [Value.ownBlock] using e
      omega
    · have : g = q := by simpa [Value.ownBlock] using e
      omega
theorem LastM.put {w : World} {oD : Obj} {bm : Nat} {pl : Nat → Int × ByteArray} {val : Nat → Value} {rows : List (Int × ByteArray)} {k : Nat} {v : Value} {W W1 : World} {D : DataW Value} (h : LastM w oD bm pl val rows k v W) (hown : W1.ownsMap Try.prog 68 rW bm (k + 1) D) (hD : mapD pl val (k + 1) = D) (hg : W.grownBy W1 (some bm)) : LastM w oD bm pl val rows (k + 1) v W1 := by
  have ha := h.apart
  obtain ⟨h1, h2, h3, h4, _⟩ := h
  refine ⟨h1.trans ((Below.refl _ W).grown hg h1.size (fun q e => by cases e; omega)), (hg.block _ (blk_lt h2) (fun e => by injection e; omega)).trans h2, h3, h4.kept hg (.inr (Ne.symm ha.1)), hD ▸ hown⟩
theorem LastM.row {w : World} {oD : Obj} {bm : Nat} {pl : Nat → Int × ByteArray} {val : Nat → Value} {rows rows' : List (Int × ByteArray)} {k : Nat} {v v' : Value} {W W1 : World} (h : LastM w oD bm pl val rows k v W) (hown : W1.ownsRow (w.heap.size + 1) 68 2 v' rows'.length (flatP rows')) (hg : W.grownBy W1 v.ownBlock) : LastM w oD bm pl val rows' k v' W1 := by
  have ha := h.apart
  obtain ⟨h1, h2, h3, h4, h5⟩ := h
  exact ⟨h1.trans ((Below.refl _ W).grown hg h1.size (fun q e => by have := ha.2.2 q e; omega)), (hg.block _ (blk_lt h2) ha.2.1).trans h2, h3, hown, h5.kept hg ha.1⟩
theorem LastM.other {w : World} {oD : Obj} {bm : Nat} {pl : Nat → Int × ByteArray} {val : Nat → Value} {rows : List (Int × ByteArray)} {k : Nat} {v : Value} {W W1 : World} {r : Option Nat} (h : LastM w oD bm pl val rows k v W) (hg : W.grownBy W1 r) (hr : ∀ q, r = some q → w.heap.size + 1 ≤ q ∧ q ≠ bm ∧ some q ≠ v.ownBlock) : LastM w oD bm pl val rows k v W1 := by
  obtain ⟨h1, h2, h3, h4, h5⟩ := h
  have hne : ∀ q, r = some q → v.ownBlock ≠ some q := fun q e => Ne.symm (hr q e).2.2
  refine ⟨h1.trans ((Below.refl _ W).grown hg h1.size (fun q e => by have := (hr q e).1; omega)), (hg.block _ (blk_lt h2) (fun e => by have := (hr _ e.symm).1; omega)).trans h2, h3, ?_, h5.kept hg (fun e => (hr _ e.symm).2.1 rfl)⟩
  cases r with
  | none => exact h4.kept hg (by cases hv : v.ownBlock <;> simp)
  | some q => exact h4.kept hg (.inr (hne q rfl))
def delta_Last.f (l0_0 : List (S28)) (l0_1 : List Int) : Option ((List (S28))) := some (if checkD l0_0 l0_1 = true then lastL l0_0 else [])
set_option maxHeartbeats 4000000 in
set_option maxRecDepth 100000 in
theorem delta_Last.calls (A0_0 : Option Addr) (c0_0 : Nat) (l0_0 : List (S28)) (A0_1 : Option Addr) (c0_1 : Nat) (l0_1 : List Int) (r : List (S28)) (w : World) (hr0_0 : Kd.C k28 w A0_0 l0_0.length l0_0) (hc0_0 : l0_0.length ≤ c0_0) (hr0_1 : Kd.C (Kd.int .i64) w A0_1 l0_1.length l0_1) (hc0_1 : l0_1.length ≤ c0_1) (h : delta_Last.f l0_0 l0_1 = some r) :
    Calls Try.prog 23 #[.agg #[.slice A0_0 l0_0.length c0_0, .slice A0_1 l0_1.length c0_1]] w fun e w' => ∃ v0_ : Value, e = .returned (v0_) ∧ Kd.N k28 28 w' w.heap.size (fun k_ => (w.heap.size ≤ k_)) v0_ r ∧ Below w.heap.size w w' := by
  unfold delta_Last.f at h
  have h := Option.some.inj h
  have hu := Try.underlying25
  have huw := Try.underlying28
  have hup := Try.underlying68
  have hmm := @run_makeMap Try.prog
  have HB0 := Aside0.mk (below_alloc (Below.refl w.heap.size w) (.cells #[.slice A0_0 l0_0.length c0_0, .slice A0_1 l0_1.length c0_1] 25 (0, 0)))
  have HG0 := Aside0.mk (heap_alloc_new w (.cells #[.slice A0_0 l0_0.length c0_0, .slice A0_1 l0_1.length c0_1] 25 (0, 0)))
  cases hck : checkD l0_0 l0_1 with
  | false =>
    rw [hck, if_neg (by decide)] at h
    subst h
    have HC := Aside0.mk (fun W (hb : Below w.heap.size w W) => delta_Check.calls A0_0 c0_0 l0_0 A0_1 c0_1 l0_1 false W (Kd.C_below hr0_0 hb) hc0_0 (Kd.C_below hr0_1 hb) hc0_1 (by unfold delta_Check.f; rw [hck]))
    clear hr0_0 hr0_1 hck
    go_enter Try.func23, Try.ntmps23
    go_wp2_with (go_at_call 17; refine (HC.out _ HB0.out).mono ?_; rintro e W1 ⟨rfl, hb⟩; have HB1 := Aside0.mk (below_step HB0.out hb); clear hb)
    go_ret
    exact ⟨_, rfl, Kd.N_nil _ _ _ _ _, HB1.out⟩
  | true =>
    rw [hck, if_pos rfl] at h
    subst h
    have hck0 := hck
    unfold checkD at hck0
    simp only [Bool.and_eq_true, decide_eq_true_eq, Bool.not_eq_true'] at hck0
    obtain ⟨hn20, _, hmay, _⟩ := hck0
    have hmayx : ∀ x ∈ l0_0, mayB x = true := by
      intro x hx
      have h1 := List.any_eq_false.1 hmay x hx
      simpa using h1
    have HC := Aside0.mk (fun W (hb : Below w.heap.size w W) => delta_Check.calls A0_0 c0_0 l0_0 A0_1 c0_1 l0_1 true W (Kd.C_below hr0_0 hb) hc0_0 (Kd.C_below hr0_1 hb) hc0_1 (by unfold delta_Check.f; rw [hck]))
    obtain ⟨vs, hvs⟩ := liesW hr0_0
    have HLIE := Aside0.mk hvs
    have HMAY := Aside0.mk hmayx
    clear hr0_0 hr0_1 hck hmay hvs hmayx
    obtain ⟨pl, hpl⟩ : ∃ pl : Nat → Int × ByteArray, pl = fun j : Nat => plW (rd_T28 l0_0 (j : Int)) := ⟨_, rfl⟩
    obtain ⟨val, hval⟩ : ∃ val : Nat → Value, val = fun j => .agg (cellsW l0_0 vs j) := ⟨_, rfl⟩
    have hmemj : ∀ j, j < l0_0.length → rd_T28 l0_0 (j : Int) ∈ l0_0 := by
      intro j hj
      have e : rd_T28 l0_0 (j : Int) = l0_0[j] := by unfold rd_T28; rw [Int.toNat_natCast]; simp [List.getD_eq_getElem?_getD, hj]
      rw [e]
      exact List.getElem_mem _
    have HOK := Aside0.mk (show ∀ j, j < l0_0.length → plOk (pl j) by intro j hj; rw [hpl]; exact plOk_may (HMAY.out _ (hmemj j hj)))
    have HPL := Aside0.mk hpl
    have HVAL := Aside0.mk hval
    have HMEM := Aside0.mk hmemj
    clear hpl hval hmemj
    go_enter Try.func23, Try.ntmps23
    go_wp2_with (go_at_call 17; refine (HC.out _ HB0.out).mono ?_; rintro e W1 ⟨rfl, hb⟩; have HB1 := Aside0.mk (below_step HB0.out hb); have HG1 := Aside0.mk ((hb.block _ (blk_lt HG0.out)).trans HG0.out); have z0 : ∀ o, (W1.alloc o).cell? ⟨w.heap.size, 0, none⟩ = some (.slice A0_0 l0_0.length c0_0) := fun o => (World.cell?_alloc_lt W1 o _ (blk_lt HG1.out)).trans ((blk_cell HG1.out 0).trans rfl); clear hb)
    obtain ⟨bm, hbm⟩ : ∃ bm, bm = W1.heap.size := ⟨_, rfl⟩
    have HI0 := Aside0.mk (show LastM w (.cells #[.slice A0_0 l0_0.length c0_0, .slice A0_1 l0_1.length c0_1] 25 (0, 0)) bm pl val [] 0 (.slice none 0 0) (W1.alloc (.map #[] 0)) from ⟨below_alloc HB1.out _, blk_alloc HG1.out _, by rw [hbm]; exact blk_lt HG1.out, World.ownsRow_nil _ _ _ _, by rw [hbm]; exact World.ownsMap_made _ _ _ _⟩)
    obtain ⟨W2, hW2⟩ : ∃ W2, W2 = W1.alloc (.map #[] 0) := ⟨_, rfl⟩
    rw [← hW2] at HI0
    rw [← hbm, ← hW2]
    clear hbm hW2 z0 HB1 HG1 HB0 HG0
    go_loopw [18, 4] (fun s18 s4 wr => ∃ k : Nat, s18 = .int .i64 k ∧ k ≤ l0_0.length ∧ Aside0 (LastM w (.cells #[.slice A0_0 l0_0.length c0_0, .slice A0_1 l0_1.length c0_1] 25 (0, 0)) bm pl val (placesK pl k) k s4 wr)) (fun s18 _ _ => l0_0.length - (intOf s18).toNat)
    case atStart => exact ⟨0, rfl, Nat.zero_le _, HI0⟩
    case round =>
      obtain ⟨k, rfl, hkn, HI⟩ := hrel
      by_cases hlt : k < l0_0.length
      · obtain ⟨ad, hA, hx0, hx1, hx2, hx3, _⟩ := HLIE.out wr HI.out.1 k hlt
        obtain ⟨hl1, hi1, hl3, hi3⟩ := liesW_rows (HLIE.out w (Below.refl _ _)) k hlt
        cases hA
        have hpk : pl k = plW (rd_T28 l0_0 (k : Int)) := by rw [HPL.out]
        have hvk : val k = .agg (cellsW l0_0 vs k) := by rw [HVAL.out]
        unfold cellsW at hvk
        obtain ⟨Ak, ck, Av, cv, hv⟩ : ∃ Ak ck Av cv, vs k = (Ak, ck, Av, cv) := ⟨_, _, _, _, rfl⟩
        rw [hv] at hl1 hi1 hl3 hi3 hx1 hx3 hvk
        simp only [] at hl1 hi1 hl3 hi3 hx1 hx3 hvk
        generalize rd_T28 l0_0 (k : Int) = x at *
        have HPK := Aside0.mk hpk
        have HVK := Aside0.mk hvk
        have HI1 := Aside0.mk hi1
        have HI3 := Aside0.mk hi3
        clear hpk hvk hi1 hi3 hv
        have HKEY := Aside0.mk (show keyOf Try.prog 68 (.agg #[.int .i64 x.f0, .string (strOfNums x.f1)]) = some (plLit (pl k)) by have := plKey (HOK.out k hlt); rw [HPK.out] at this ⊢; exact this)
        have hhas := (mapD_at pl val l0_0.length HOK.out (pl k) (HOK.out k hlt) k hkn).1
        obtain ⟨gx, hgx⟩ : ∃ gx, gx = wr.heap.size := ⟨_, rfl⟩
        obtain ⟨Wx, hWx⟩ : ∃ Wx, Wx = wr.alloc (.cells #[.int .i64 x.f0, .slice Ak x.f1.length ck, .bool x.f2, .slice Av x.f3.length cv] 28 (0, 0)) := ⟨_, rfl⟩
        have hg1 : Wx.heap[gx]? = some (.cells #[.int .i64 x.f0, .slice Ak x.f1.length ck, .bool x.f2, .slice Av x.f3.length cv] 28 (0, 0)) := by rw [hWx, hgx]; exact heap_alloc_new _ _
        have HIx := Aside0.mk (show LastM w (.cells #[.slice (some ad) l0_0.length c0_0, .slice A0_1 l0_1.length c0_1] 25 (0, 0)) bm pl val (placesK pl k) k u4 Wx by rw [hWx]; exact HI.out.step (below_alloc (Below.refl _ _) _))
        go_wp2_with (go_at_call 41; (suffices hsuf : Aside0 _ from hsuf.out))
        refine ⟨?_⟩
        rw [← hgx, ← hWx]
        clear hgx hWx hx0 hx1 hx2 hx3
        refine (delta_of.calls x.f0 Ak ck x.f1 x.f2 Av cv x.f3 x.f0 (strOfNums x.f1) Wx (Kd.C_below HI1.out HIx.out.1) hl1 (Kd.C_below HI3.out HIx.out.1) hl3 rfl).mono ?_
        rintro e W3 ⟨rfl, hb⟩
        have hg3 := (hb.block _ (blk_lt hg1)).trans hg1
        have HI3w := Aside0.mk (HIx.out.step hb)
        clear hb hg1 HIx
        have hkey := HKEY.out
        have q0 : ∀ o, (W3.alloc o).cell? ⟨gx, 0, none⟩ = some (.int .i64 x.f0) := fun o => (World.cell?_alloc_lt W3 o _ (blk_lt hg3)).trans ((blk_cell hg3 0).trans rfl)
        have q1 : ∀ o, (W3.alloc o).cell? ⟨gx, 1, none⟩ = some (.slice Ak x.f1.length ck) := fun o => (World.cell?_alloc_lt W3 o _ (blk_lt hg3)).trans ((blk_cell hg3 1).trans rfl)
        have q2 : ∀ o, (W3.alloc o).cell? ⟨gx, 2, none⟩ = some (.bool x.f2) := fun o => (World.cell?_alloc_lt W3 o _ (blk_lt hg3)).trans ((blk_cell hg3 2).trans rfl)
        have q3 : ∀ o, (W3.alloc o).cell? ⟨gx, 3, none⟩ = some (.slice Av x.f3.length cv) := fun o => (World.cell?_alloc_lt W3 o _ (blk_lt hg3)).trans ((blk_cell hg3 3).trans rfl)
        cases hlx : (lastIdx pl k (pl k)).isSome with
        | true =>
          rw [hlx] at hhas
          have hrow : placesK pl (k + 1) = placesK pl k := by rw [placesK, if_pos hlx]
          clear hlx
          go_wp2_with ((at_lookup; refine wpList_lookup_own_ok _ rfl _ _ 70 rfl 68 28 plLaw Try.underlying70 rW (Try.zeroValue28 _) _ [] rfl bm k (mapD pl val k) rfl HI3w.out.2.2.2.2 _ _ rfl hkey ?_; intro v_ ps_ hv_; obtain ⟨y0, Y1, m1, d1, y2, Y3, m3, d3, rfl, _⟩ := rW_inv hv_; clear hv_; rw [hhas]))
          obtain ⟨W4, hW4⟩ : ∃ W4, W4 = W3.alloc (.cells #[.int .i64 y0, .slice Y1 m1 d1, .bool y2, .slice Y3 m3 d3] 28 (0, 0)) := ⟨_, rfl⟩
          have hga : W4.heap[gx]? = some (.cells #[.int .i64 x.f0, .slice Ak x.f1.length ck, .bool x.f2, .slice Av x.f3.length cv] 28 (0, 0)) := by rw [hW4]; exact blk_alloc hg3 _
          have HI4 := Aside0.mk (show LastM w (.cells #[.slice (some ad) l0_0.length c0_0, .slice A0_1 l0_1.length c0_1] 25 (0, 0)) bm pl val (placesK pl (k + 1)) k u4 W4 by rw [hrow, hW4]; exact HI3w.out.step (below_alloc (Below.refl _ _) _))
          rw [← hW4]
          clear hW4 HI3w hg3 q0 q1 q2 q3 hkey hhas hrow
          have q0 := (blk_cell hga 0).trans rfl
          have q1 := (blk_cell hga 1).trans rfl
          have q2 := (blk_cell hga 2).trans rfl
          have q3 := (blk_cell hga 3).trans rfl
          refine start_ (n := 5) (S := fun w' => w'.cell? ⟨gx, 0, none⟩ = some (.int .i64 x.f0) ∧ w'.cell? ⟨gx, 1, none⟩ = some (.slice Ak x.f1.length ck) ∧ w'.cell? ⟨gx, 2, none⟩ = some (.bool x.f2) ∧ w'.cell? ⟨gx, 3, none⟩ = some (.slice Av x.f3.length cv)) (ds := [4]) #[false, false, false, false, false] (by kernel_rfl) rfl rfl ⟨q0, q1, q2, q3⟩ (fun hHeld => ?_)
          clear q0 q1 q2 q3
          have hgb := show (W4).drew.heap[gx]? = _ from hga
          have HIb := Aside0.mk (HI4.out.step (below_drew1 (Below.refl _ (W4))))
          clear hga
          generalize (W4).drew = Wb at hgb HIb hHeld ⊢
          refine pure_ (i := 0) (N := some 36) (v := ?_) (a' := ?_) #[true, false, false, false, false] rfl rfl (by kernel_rfl) (fun _ _ _ h => h) (Or.inl ⟨by rfl, ?_⟩) ?_ ?_
          rotate_left
          · intro w'
            go_simp
            with_reducible rfl
          rotate_left
          · simp only [Act.put, List.setIfInBounds_toArray, List.set_cons_zero, List.set_cons_succ]
            rfl
          refine take_ (i := 1) (N := some 37) (v := ?_) (a' := ?_) #[true, true, false, false, false] rfl rfl (by kernel_rfl) (fun _ _ _ h => h) (Or.inl ⟨by rfl, ?_⟩) hHeld ?_ ?_
          rotate_left
          · rintro w' ⟨s0, s1, s2, s3⟩
            go_simp
            with_reducible rfl
          rotate_left
          · simp only [Act.put, List.setIfInBounds_toArray, List.set_cons_zero, List.set_cons_succ]
            rfl
          refine take_ (i := 3) (N := some 39) (v := ?_) (a' := ?_) #[true, true, false, true, false] rfl rfl (by kernel_rfl) (fun _ _ _ h => h) (Or.inl ⟨by rfl, ?_⟩) hHeld ?_ ?_
          rotate_left
          · rintro w' ⟨s0, s1, s2, s3⟩
            go_simp
            with_reducible rfl
          rotate_left
          · simp only [Act.put, List.setIfInBounds_toArray, List.set_cons_zero, List.set_cons_succ]
            rfl
          refine one_ (i := 2) (N := some 38) #[true, true, true, true, false] rfl rfl (by kernel_rfl) (by decide) (fun K hK => ?_)
          refine goes_ Try.func41 (by kernel_rfl) rfl #[.agg #[.int .i64 x.f0, .slice Ak x.f1.length ck, .bool x.f2, .slice Av x.f3.length cv]] (by rfl) rfl rfl (by (try simp only [List.map_toArray, List.map_cons, List.map_nil]); first | done | rfl) ?_
          refine (delta_of.calls x.f0 Ak ck x.f1 x.f2 Av cv x.f3 x.f0 (strOfNums x.f1) Wb (Kd.C_below HI1.out HIb.out.1) hl1 (Kd.C_below HI3.out HIb.out.1) hl3 rfl).mono ?_
          rintro e Wc ⟨rfl, hb⟩
          have hgc := (hb.block _ (blk_lt hgb)).trans hgb
          have HIc := Aside0.mk (HIb.out.step hb)
          refine ⟨_, rfl, ?_⟩
          refine hK.out _ _ ⟨(blk_cell hgc 0).trans rfl, (blk_cell hgc 1).trans rfl, (blk_cell hgc 2).trans rfl, (blk_cell hgc 3).trans rfl⟩ (fun hHeld => ?_)
          clear hK K
          refine norm_ (a' := ?_) ?_ ?_
          rotate_left
          · show Act.put _ (some 38) _ = _
            simp only [Act.put, List.setIfInBounds_toArray, List.set_cons_zero, List.set_cons_succ]
            rfl
          clear hgb HIb hb
          obtain ⟨Wd, hrun, hownd, hgd⟩ := World.ownsMap.update HIc.out.2.2.2.2 plLaw Try.underlying70 (show k < maxLen by unfold maxLen; omega) HKEY.out (rW_mk x.f0 Ak x.f1.length ck x.f2 Av x.f3.length cv)
          refine last_ (i := 4) (N := none) #[true, true, true, true, true] rfl rfl (by kernel_rfl) (by decide) (fun K hK => ?_)
          refine skip_ (w1 := Wd) (by rfl) rfl (by go_simp) ?_
          refine hK.out _ _ ?_
          clear hK K hrun
          refine done_ (by kernel_rfl) ?_
          have HFIN := Aside0.mk (LastM.put HIc.out hownd (by rw [mapD, HVK.out]) hgd)
          clear hownd hgd hgc HIc
          go_wp2
          exact ⟨⟨k + 1, by go_num, by omega, HFIN⟩, by simp [intOf]; omega⟩
        | false =>
          rw [hlx] at hhas
          have hrow : placesK pl (k + 1) = placesK pl k ++ [pl k] := by rw [placesK, if_neg (by rw [hlx]; decide)]
          clear hlx
          go_wp2_with (first | (at_lookup; refine wpList_lookup_own_ok _ rfl _ _ 70 rfl 68 28 plLaw Try.underlying70 rW (Try.zeroValue28 _) _ [] rfl bm k (mapD pl val k) rfl HI3w.out.2.2.2.2 _ _ rfl hkey ?_; intro v_ ps_ hv_; obtain ⟨y0, Y1, m1, d1, y2, Y3, m3, d3, rfl, _⟩ := rW_inv hv_; clear hv_; rw [hhas]) | (go_at_call 41; (suffices hsuf : Aside0 _ from hsuf.out)))
          refine ⟨?_⟩
          obtain ⟨W4, hW4⟩ : ∃ W4, W4 = W3.alloc (.cells #[.int .i64 y0, .slice Y1 m1 d1, .bool y2, .slice Y3 m3 d3] 28 (0, 0)) := ⟨_, rfl⟩
          have hg4 : W4.heap[gx]? = some (.cells #[.int .i64 x.f0, .slice Ak x.f1.length ck, .bool x.f2, .slice Av x.f3.length cv] 28 (0, 0)) := by rw [hW4]; exact blk_alloc hg3 _
          have HI4 := Aside0.mk (show LastM w (.cells #[.slice (some ad) l0_0.length c0_0, .slice A0_1 l0_1.length c0_1] 25 (0, 0)) bm pl val (placesK pl k) k u4 W4 by rw [hW4]; exact HI3w.out.step (below_alloc (Below.refl _ _) _))
          rw [← hW4]
          clear hW4 HI3w hg3 q0 q1 q2 q3 hkey hhas
          refine (delta_of.calls x.f0 Ak ck x.f1 x.f2 Av cv x.f3 x.f0 (strOfNums x.f1) W4 (Kd.C_below HI1.out HI4.out.1) hl1 (Kd.C_below HI3.out HI4.out.1) hl3 rfl).mono ?_
          rintro e W5 ⟨rfl, hb⟩
          have hg5 := (hb.block _ (blk_lt hg4)).trans hg4
          have HI5 := Aside0.mk (HI4.out.step hb)
          clear hb hg4 HI4
          obtain ⟨i0, hi, hz0, hz1, hz2⟩ := info_parts infoPl
          have hrw := HI5.out.2.2.2.1
          have hsz5 : w.heap.size + 1 ≤ W5.heap.size := by have := blk_lt HI5.out.2.1; omega
          have hln := placesK_len pl k
          have hnw := heap_alloc_new W5 (.cells #[.int .i64 x.f0, .string (strOfNums x.f1)] 68 (0, 0))
          have hcl : ∀ (j : Nat) (u : Value), [Value.int .i64 x.f0, .string (strOfNums x.f1)][j]? = some u → (W5.alloc (.cells #[.int .i64 x.f0, .string (strOfNums x.f1)] 68 (0, 0))).cell? ((⟨W5.heap.size, 0, none⟩ : Addr).add j) = some u := fun j u hj => by rw [add_plain, blk_cell hnw]; simpa using hj
          go_wp2_with (at_builtin; refine wpList_append_own _ rfl _ _ 71 rfl (w.heap.size + 1) 68 i0 _ 2 24 Try.underlying71 hi hz0 hz1 hz2 rfl (by decide) _ _ _ rfl (hrw.alloc _) ⟨W5.heap.size, 0, none⟩ 1 1 [.int .i64 x.f0, .string (strOfNums x.f1)] rfl rfl hcl (by intro u hu; simp at hu; rcases hu with rfl | rfl <;> rfl) (by unfold maxLen; omega) (by omega) (by rw [World.size_alloc]; omega) ?_; intro v6 W6 hown6 hgrow _)
          have hga : W6.heap[gx]? = some (.cells #[.int .i64 x.f0, .slice Ak x.f1.length ck, .bool x.f2, .slice Av x.f3.length cv] 28 (0, 0)) := (hgrow.block _ (blk_lt (blk_alloc hg5 _)) (row_ne_typed hrw hg5 (by decide))).trans (blk_alloc hg5 _)
          have HI6 := Aside0.mk (show LastM w (.cells #[.slice (some ad) l0_0.length c0_0, .slice A0_1 l0_1.length c0_1] 25 (0, 0)) bm pl val (placesK pl (k + 1)) k v6 W6 by
            rw [hrow]
            have h6 := HI5.out.step (below_alloc (Below.refl _ W5) (.cells #[.int .i64 x.f0, .string (strOfNums x.f1)] 68 (0, 0)))
            refine h6.row ?_ hgrow
            rw [List.length_append, List.length_singleton, flatP_snoc, HPK.out]
            exact hown6)
          clear hown6 hgrow hrw hg5 HI5 hi hz0 hz1 hz2 hcl hnw hrow hln hsz5
          have q0 := (blk_cell hga 0).trans rfl
          have q1 := (blk_cell hga 1).trans rfl
          have q2 := (blk_cell hga 2).trans rfl
          have q3 := (blk_cell hga 3).trans rfl
          refine start_ (n := 5) (S := fun w' => w'.cell? ⟨gx, 0, none⟩ = some (.int .i64 x.f0) ∧ w'.cell? ⟨gx, 1, none⟩ = some (.slice Ak x.f1.length ck) ∧ w'.cell? ⟨gx, 2, none⟩ = some (.bool x.f2) ∧ w'.cell? ⟨gx, 3, none⟩ = some (.slice Av x.f3.length cv)) (ds := [4]) #[false, false, false, false, false] (by kernel_rfl) rfl rfl ⟨q0, q1, q2, q3⟩ (fun hHeld => ?_)
          clear q0 q1 q2 q3
          have hgb := show (W6).drew.heap[gx]? = _ from hga
          have HIb := Aside0.mk (HI6.out.step (below_drew1 (Below.refl _ (W6))))
          clear hga
          generalize (W6).drew = Wb at hgb HIb hHeld ⊢
          refine pure_ (i := 0) (N := some 36) (v := ?_) (a' := ?_) #[true, false, false, false, false] rfl rfl (by kernel_rfl) (fun _ _ _ h => h) (Or.inl ⟨by rfl, ?_⟩) ?_ ?_
          rotate_left
          · intro w'
            go_simp
            with_reducible rfl
          rotate_left
          · simp only [Act.put, List.setIfInBounds_toArray, List.set_cons_zero, List.set_cons_succ]
            rfl
          refine take_ (i := 1) (N := some 37) (v := ?_) (a' := ?_) #[true, true, false, false, false] rfl rfl (by kernel_rfl) (fun _ _ _ h => h) (Or.inl ⟨by rfl, ?_⟩) hHeld ?_ ?_
          rotate_left
          · rintro w' ⟨s0, s1, s2, s3⟩
            go_simp
            with_reducible rfl
          rotate_left
          · simp only [Act.put, List.setIfInBounds_toArray, List.set_cons_zero, List.set_cons_succ]
            rfl
          refine take_ (i := 3) (N := some 39) (v := ?_) (a' := ?_) #[true, true, false, true, false] rfl rfl (by kernel_rfl) (fun _ _ _ h => h) (Or.inl ⟨by rfl, ?_⟩) hHeld ?_ ?_
          rotate_left
          · rintro w' ⟨s0, s1, s2, s3⟩
            go_simp
            with_reducible rfl
          rotate_left
          · simp only [Act.put, List.setIfInBounds_toArray, List.set_cons_zero, List.set_cons_succ]
            rfl
          refine one_ (i := 2) (N := some 38) #[true, true, true, true, false] rfl rfl (by kernel_rfl) (by decide) (fun K hK => ?_)
          refine goes_ Try.func41 (by kernel_rfl) rfl #[.agg #[.int .i64 x.f0, .slice Ak x.f1.length ck, .bool x.f2, .slice Av x.f3.length cv]] (by rfl) rfl rfl (by (try simp only [List.map_toArray, List.map_cons, List.map_nil]); first | done | rfl) ?_
          refine (delta_of.calls x.f0 Ak ck x.f1 x.f2 Av cv x.f3 x.f0 (strOfNums x.f1) Wb (Kd.C_below HI1.out HIb.out.1) hl1 (Kd.C_below HI3.out HIb.out.1) hl3 rfl).mono ?_
          rintro e Wc ⟨rfl, hb⟩
          have hgc := (hb.block _ (blk_lt hgb)).trans hgb
          have HIc := Aside0.mk (HIb.out.step hb)
          refine ⟨_, rfl, ?_⟩
          refine hK.out _ _ ⟨(blk_cell hgc 0).trans rfl, (blk_cell hgc 1).trans rfl, (blk_cell hgc 2).trans rfl, (blk_cell hgc 3).trans rfl⟩ (fun hHeld => ?_)
          clear hK K
          refine norm_ (a' := ?_) ?_ ?_
          rotate_left
          · show Act.put _ (some 38) _ = _
            simp only [Act.put, List.setIfInBounds_toArray, List.set_cons_zero, List.set_cons_succ]
            rfl
          clear hgb HIb hb
          obtain ⟨Wd, hrun, hownd, hgd⟩ := World.ownsMap.update HIc.out.2.2.2.2 plLaw Try.underlying70 (show k < maxLen by unfold maxLen; omega) HKEY.out (rW_mk x.f0 Ak x.f1.length ck x.f2 Av x.f3.length cv)
          refine last_ (i := 4) (N := none) #[true, true, true, true, true] rfl rfl (by kernel_rfl) (by decide) (fun K hK => ?_)
          refine skip_ (w1 := Wd) (by rfl) rfl (by go_simp) ?_
          refine hK.out _ _ ?_
          clear hK K hrun
          refine done_ (by kernel_rfl) ?_
          have HFIN := Aside0.mk (LastM.put HIc.out hownd (by rw [mapD, HVK.out]) hgd)
          clear hownd hgd hgc HIc
          go_wp2
          exact ⟨⟨k + 1, by go_num, by omega, HFIN⟩, by simp [intOf]; omega⟩
      · have hke : k = l0_0.length := by omega
        subst hke
        have hlen := placesK_len pl l0_0.length
        go_wp2_with (go_at_call 42; (suffices hsuf : Aside0 _ from hsuf.out))
        refine ⟨?_⟩
        refine (sort_any (placesK pl l0_0.length) HI.out.2.2.2.1 (by omega)).mono ?_
        rintro e W3 ⟨rfl, qs, hperm, hsort, hown3, hg3⟩
        have HI3w := Aside0.mk (HI.out.row hown3 hg3)
        have HOUT := Aside0.mk (show qs.map (outp l0_0) = lastL l0_0 from outs_eq l0_0 qs (by rw [← HPL.out]; exact hperm) hsort)
        have HQL := Aside0.mk (show ∀ p, p ∈ qs → ∃ j, j < l0_0.length ∧ pl j = p from fun p hp => (placesK_mem pl _ p).1 (hperm.mem_iff.1 hp))
        have hql : qs.length ≤ 20 := by rw [hperm.length_eq]; omega
        clear hperm hsort hown3 hg3 HI hlen hkn hlt
        obtain ⟨Au, cu, rfl⟩ : ∃ Au cu, u4 = .slice Au qs.length cu := by
          rcases HI3w.out.2.2.2.1.2 with ⟨e1, e2⟩ | ⟨g, cap, cur, e1, _⟩
          · exact ⟨none, 0, by rw [e1, e2]⟩
          · exact ⟨_, _, e1⟩
        go_wp2_with (fail)
        obtain ⟨ok, hok⟩ : ∃ ok : Nat → Prop, ok = fun q => w.heap.size + 1 ≤ q ∧ q ≠ bm ∧ some q ≠ (Value.slice Au qs.length cu).ownBlock := ⟨_, rfl⟩
        have HOKK := Aside0.mk hok
        clear hok
        go_loopw [45, 2] (fun s45 s2 wr2 => ∃ i : Nat, s45 = .int .i64 i ∧ i ≤ qs.length ∧ Aside0 (LastM w (.cells #[.slice A0_0 l0_0.length c0_0, .slice A0_1 l0_1.length c0_1] 25 (0, 0)) bm pl val qs l0_0.length (.slice Au qs.length cu) wr2 ∧ Kd.N k28 28 wr2 w.heap.size ok s2 ((qs.take i).map (outp l0_0)))) (fun s45 _ _ => qs.length - (intOf s45).toNat)
        case atStart => exact ⟨0, rfl, Nat.zero_le _, ⟨HI3w.out, Kd.N_nil _ _ _ _ _⟩⟩
        case round =>
          obtain ⟨i, rfl, hin, HL⟩ := hrel
          by_cases hlt : i < qs.length
          · obtain ⟨p, hp⟩ : ∃ p, qs[i]? = some p := ⟨_, List.getElem?_eq_getElem hlt⟩
            obtain ⟨j0, hj0, hpj⟩ := HQL.out p (List.mem_of_getElem? hp)
            have hokp : plOk p := hpj ▸ HOK.out j0 hj0
            obtain ⟨j, hj⟩ : ∃ j, lastIdx pl l0_0.length p = some j := by
              cases hl : lastIdx pl l0_0.length p with
              | none => exact absurd hpj (lastIdx_none hl j0 hj0)
              | some j => exact ⟨j, rfl⟩
            have hjn := (lastIdx_lt hj).1
            have hout : outp l0_0 p = rd_T28 l0_0 (j : Int) := by unfold outp; rw [lastAt_idx, ← HPL.out, hj]; rfl
            have hvj : val j = .agg (cellsW l0_0 vs j) := by rw [HVAL.out]
            unfold cellsW at hvj
            obtain ⟨hl1, hi1, hl3, hi3⟩ := liesW_rows (HLIE.out w (Below.refl _ _)) j hjn
            have hmx := HMAY.out _ (HMEM.out j hjn)
            obtain ⟨Ak, ck, Av, cv, hv⟩ : ∃ Ak ck Av cv, vs j = (Ak, ck, Av, cv) := ⟨_, _, _, _, rfl⟩
            rw [hv] at hl1 hi1 hl3 hi3 hvj
            simp only [] at hl1 hi1 hl3 hi3 hvj
            generalize rd_T28 l0_0 (j : Int) = x at *
            have hlx : x.f1.length ≤ 16 ∧ x.f3.length ≤ 32 := by
              unfold mayB at hmx
              simp only [Bool.and_eq_true, decide_eq_true_eq] at hmx
              exact ⟨hmx.2.2.1, hmx.2.2.2.1⟩
            have HLX := Aside0.mk hlx
            have HI1 := Aside0.mk hi1
            have HI3 := Aside0.mk hi3
            have HOX := Aside0.mk hout
            obtain ⟨a, rfl⟩ : ∃ a, Au = some a := by
              rcases HL.out.1.2.2.2.1.2 with ⟨e1, e2⟩ | ⟨g, cap, cur, e1, _⟩
              · omega
              · injection e1 with e1 _ _
                exact ⟨_, e1⟩
            obtain ⟨hc0, hc1⟩ := row_cells HL.out.1.2.2.2.1 hp
            obtain ⟨gx, hgx⟩ : ∃ gx, gx = wr.heap.size := ⟨_, rfl⟩
            obtain ⟨Wx, hWx⟩ : ∃ Wx, Wx = wr.alloc (.cells #[.int .i64 p.1, .string p.2] 68 (0, 0)) := ⟨_, rfl⟩
            have hLx := (show LastM w (.cells #[.slice A0_0 l0_0.length c0_0, .slice A0_1 l0_1.length c0_1] 25 (0, 0)) bm pl val qs l0_0.length (.slice (some a) qs.length cu) Wx by rw [hWx]; exact HL.out.1.step (below_alloc (Below.refl _ _) _))
            have HNx := Aside0.mk (show Kd.N k28 28 Wx w.heap.size ok u2 ((qs.take i).map (outp l0_0)) by rw [hWx]; exact Kd.N_alloc HL.out.2 _)
            obtain ⟨vv, pp, hrun, hvv⟩ := World.ownsMap.lookup hLx.2.2.2.2 plLaw Try.underlying70 (Try.zeroValue28 Wx) rfl (plKey hokp)
            obtain ⟨_, _, _, _, _, _, _, _, e1, e2⟩ := rW_inv hvv
            rw [(mapD_at pl val l0_0.length HOK.out p hokp l0_0.length (Nat.le_refl _)).2, hj] at e2
            have e3 : val j = vv := by injection e2
            rw [hvj] at e3
            subst e3
            clear e1 e2 hvv hvj hj hjn hpj hj0 hmx hlx hv hi1 hi3 hout
            have HLx := Aside0.mk hLx
            clear hLx
            unfold plVal at hrun
            rw [hWx] at hrun
            have hHP := Aside0.mk hp
            clear hp
            go_wp2_with (go_at_call 31; (suffices hsuf : Aside0 _ from hsuf.out))
            refine ⟨?_⟩
            rw [← hgx, ← hWx]
            clear hrun hc0 hc1
            have hszx : gx < Wx.heap.size := by rw [hWx, hgx, World.size_alloc]; omega
            clear hgx hWx
            have hsx := blk_lt HLx.out.2.1
            have hbmx := HLx.out.2.2.2.2.lt
            have hubx : ∀ q, (Value.slice (some a) qs.length cu).ownBlock = some q → q < Wx.heap.size := fun q e => (World.ownsRow.lt HLx.out.2.2.2.1 q e).2
            have hsx2 : ∀ q, u2.ownBlock = some q → q < Wx.heap.size := Kd.N_lt HNx.out
            have hokof : ∀ q, Wx.heap.size ≤ q → ok q := by
              intro q hq
              rw [HOKK.out]
              exact ⟨by omega, by omega, fun e => by have := hubx q e.symm; omega⟩
            refine (delta_write.calls x.f0 Ak ck x.f1 x.f2 Av cv x.f3 x.f0 x.f1 x.f2 x.f3 Wx (Kd.C_below HI1.out HLx.out.1) hl1 (Kd.C_below HI3.out HLx.out.1) hl3 (by unfold delta_write.f bytes_Clone.f; rw [if_pos (by have := HLX.out; omega), if_pos (by have := HLX.out; omega)]; rfl)).mono ?_
            rintro e W4 ⟨v1, v3, rfl, hR1, hR3, hb4⟩
            obtain ⟨Ay, cy, rfl⟩ := Kd.R_slice hR1
            obtain ⟨Az, cz, rfl⟩ := Kd.R_slice hR3
            have HL4 := Aside0.mk (HLx.out.step hb4)
            have HN4 := Aside0.mk (Kd.N_below HNx.out hb4)
            have hs4 := hb4.size
            have hFK : Kd.FK k28 W4 (fun q => ok q ∧ some q ≠ u2.ownBlock) x [.int .i64 x.f0, .slice Ay x.f1.length cy, .bool x.f2, .slice Az x.f3.length cz] :=
              k28_mkF _ _ x (Kd.R_reads' hR1).2.1 (Kd.R_F (Kd.R_mono (Kd.R_bound hR1) (fun q hq => ⟨hokof q hq.2.1, fun e => by have := hsx2 q e.symm; have := hq.2.1; omega⟩))) (Kd.R_reads' hR3).2.1 (Kd.R_F (Kd.R_mono (Kd.R_bound hR3) (fun q hq => ⟨hokof q hq.2.1, fun e => by have := hsx2 q e.symm; have := hq.2.1; omega⟩)))
            have HFK := Aside0.mk hFK
            have hlen1 : ((qs.take i).map (outp l0_0)).length ≤ 20 := by rw [List.length_map, List.length_take]; omega
            have hokof4 : ∀ q, W4.heap.size ≤ q → ok q := fun q hq => hokof q (by omega)
            have hsz4 : w.heap.size ≤ W4.heap.size := by omega
            clear hR1 hR3 hb4 hFK HLx HNx
            go_wp2_with (at_builtin; refine Kd.N_append k28 (w0 := w) w.heap.size rfl _ _ 22 28 (.agg #[(.int .i64 0), (.slice none 0 0), (.bool false), (.slice none 0 0)]) 64 rfl Try.underlying22 info28 rfl (by decide) (by omega) u2 ((qs.take i).map (outp l0_0)) x [.int .i64 x.f0, .slice Ay x.f1.length cy, .bool x.f2, .slice Az x.f3.length cz] ok (fun q => ok q ∧ some q ≠ u2.ownBlock) rfl rfl HFK.out (fun _ hk => hk) hokof4 HN4.out HL4.out.1 hsz4 (by omega) ?_; intro v5 W5 hN5 _ hg5 _)
            have HL5 := Aside0.mk (HL4.out.other hg5 (fun q e => by have h := HN4.out.1 q e; rw [HOKK.out] at h; exact h))
            have HN5 := Aside0.mk (show Kd.N k28 28 W5 w.heap.size ok v5 ((qs.take (i + 1)).map (outp l0_0)) by rw [take_snocL hHP.out, List.map_append, List.map_singleton, HOX.out]; exact hN5)
            clear hN5 hg5 HN4 HL4
            go_wp2
            exact ⟨⟨i + 1, by go_num, by omega, ⟨HL5.out, HN5.out⟩⟩, by simp [intOf]; omega⟩
          · have hie : i = qs.length := by omega
            subst hie
            have hN := HL.out.2
            rw [List.take_of_length_le (Nat.le_refl _), HOUT.out] at hN
            have HN := Aside0.mk hN
            clear hN
            go_wp2
            go_ret
            exact ⟨_, rfl, Kd.N_mono HN.out (fun q hq => by rw [HOKK.out] at hq; exact Nat.le_of_succ_le hq.1), HL.out.1.1⟩
end Go.Proofs.Ytbjeaalbdaedpaa.P
