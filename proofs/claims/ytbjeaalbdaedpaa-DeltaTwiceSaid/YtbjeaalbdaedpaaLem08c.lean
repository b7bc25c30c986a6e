import Derived.Test.YtbjeaalbdaedpaaLem08b
import Derived.Test.YtbjeaalbdaedpaaPx80
namespace Go.Proofs.Ytbjeaalbdaedpaa.Pure
open Go.RowKit Go.Proofs.Ytbjeaalbdaedpaa.P Go.Proofs.YtbjeaalbdaedpaaW.PrintWords Go.Proofs.YtbjeaalbdaedpaaW.PrintLast
set_option linter.unusedVariables false
set_option linter.unusedSimpArgs false
theorem rd53 {l : List S53} {i : Nat} (h : i < l.length) : rd_T53 l (i : Int) = l[i] := by
  unfold rd_T53; rw [Int.toNat_natCast]; simp [List.getD_eq_getElem?_getD, h]
theorem ck_neg (a b : List Int) : cmpK b a = - cmpK a b := cmp_neg _ _
theorem ck_self (a : List Int) : cmpK a a = 0 := cmp_self _
theorem ck_lt {a b c : List Int} (h1 : cmpK a b < 0) (h2 : cmpK b c < 0) : cmpK a c < 0 := cmp_lt_trans h1 h2
theorem ck_eq {a b : List Int} (h : cmpK a b = 0) (c : List Int) : cmpK a c = cmpK b c := by
  have e := cmp_zero _ _ h
  unfold cmpK
  rw [e]
def ltP (x y : S53) : Prop := cmpK x.f0 y.f0 < 0
theorem ltP_irr (x : S53) : ¬ ltP x x := by unfold ltP; rw [ck_self]; omega
theorem ltP_trans {x y z : S53} (h1 : ltP x y) (h2 : ltP y z) : ltP x z := ck_lt h1 h2
def Sr (l : List S53) : Prop := l.Pairwise ltP
theorem Sr_unique {l m : List S53} (h1 : Sr l) (h2 : Sr m) (h : ∀ x, x ∈ l ↔ x ∈ m) : l = m := rises_unique ltP_irr ltP_trans l m h1 h2 h
theorem rises_Sr {l : List S53} : risesL l = true → Sr l := by
  intro h
  unfold risesL at h
  rw [List.all_eq_true] at h
  have hadj : ∀ j, j + 1 < l.length → cmpK (rd_T53 l (j : Int)).f0 (rd_T53 l ((j + 1 : Nat) : Int)).f0 < 0 := fun j hj => by
    have := h j (List.mem_range.2 (by omega))
    exact of_decide_eq_true this
  refine List.pairwise_iff_getElem.2 fun i j hi hj hij => ?_
  obtain ⟨d, rfl⟩ : ∃ d, j = i + d + 1 := ⟨j - i - 1, by omega⟩
  induction d with
  | zero =>
    have := hadj i hj
    rw [rd53 hi, rd53 hj] at this
    exact this
  | succ d ih =>
    have h1 := ih (by omega) (by omega)
    have h2 : ltP l[i + d + 1] (l[i + d + 1 + 1]'hj) := by
      have := hadj (i + d + 1) hj
      rw [rd53 (by omega), rd53 (show i + d + 1 + 1 < l.length from hj)] at this
      exact this
    exact ltP_trans h1 h2
theorem Sr_rises {l : List S53} (h : Sr l) : risesL l = true := by
  unfold risesL
  rw [List.all_eq_true]
  intro j hj
  rw [List.mem_range] at hj
  refine decide_eq_true ?_
  have := List.pairwise_iff_getElem.1 h j (j + 1) (by omega) (by omega) (by omega)
  unfold cmpPr
  rw [rd53 (by omega), rd53 (by omega : j + 1 < l.length)]
  exact this
theorem bsL_spec (c : S53 → Int) (l : List S53) (hmono : ∀ i j (hi : i < l.length) (hj : j < l.length), i < j → c l[j] < 0 → c l[i] < 0) : ∀ f i j : Nat, i ≤ j → j ≤ l.length → j - i < f →
    (∀ a (ha : a < l.length), a < i → c l[a] < 0) → (∀ a (ha : a < l.length), j ≤ a → ¬ c l[a] < 0) →
    (∀ a (ha : a < l.length), a < bsL c l f i j → c l[a] < 0) ∧ (∀ a (ha : a < l.length), bsL c l f i j ≤ a → ¬ c l[a] < 0) := by
  intro f
  induction f with
  | zero => intro i j _ _ h; omega
  | succ f ih =>
    intro i j hij hj hf h1 h2
    unfold bsL
    by_cases hlt : i < j
    · rw [if_pos hlt]
      have hm : (i + j) / 2 < l.length := by omega
      rw [rd53 hm]
      by_cases hc : c l[(i + j) / 2] < 0
      · rw [if_pos hc]
        refine ih _ _ (by omega) hj (by omega) (fun a ha hai => ?_) h2
        by_cases he : a = (i + j) / 2
        · subst he; exact hc
        · exact hmono a _ ha hm (by omega) hc
      · rw [if_neg hc]
        refine ih _ _ (by omega) (by omega) (by omega) h1 (fun a ha hai => ?_)
        by_cases he : a = (i + j) / 2
        · subst he; exact hc
        · exact fun hca => hc (hmono _ a hm ha (by omega) hca)
    · rw [if_neg hlt]
      have e : i = j := by omega
      subst e
      exact ⟨h1, h2⟩
theorem atOf_spec {out : List S53} (hs : Sr out) (p : S53) : (∀ a (ha : a < out.length), a < atOf out p → cmpK out[a].f0 p.f0 < 0) ∧ (∀ a (ha : a < out.length), atOf out p ≤ a → ¬ cmpK out[a].f0 p.f0 < 0) := by
  unfold atOf
  refine bsL_spec (fun y => cmpPr y p) out (fun i j hi hj hij h => ?_) _ _ _ (Nat.zero_le _) (Nat.le_refl _) (by omega) (fun a _ h => absurd h (Nat.not_lt_zero _)) (fun a ha h => absurd ha (by omega))
  have := List.pairwise_iff_getElem.1 hs i j hi hj hij
  exact ck_lt this h
theorem part_at {out : List S53} (hs : Sr out) (p : S53) : ∃ A M B : List S53, out = A ++ M ++ B ∧ atOf out p = A.length ∧ (∀ a ∈ A, cmpK a.f0 p.f0 < 0) ∧ (∀ b ∈ B, cmpK p.f0 b.f0 < 0) ∧
    ((M = [] ∧ isOf out p = false) ∨ (∃ b, M = [b] ∧ cmpK b.f0 p.f0 = 0 ∧ isOf out p = true)) := by
  obtain ⟨h1, h2⟩ := atOf_spec hs p
  have hle := atOf_le out p
  have hA : ∀ a ∈ out.take (atOf out p), cmpK a.f0 p.f0 < 0 := fun a ha => by
    obtain ⟨i, hi, rfl⟩ := List.getElem_of_mem ha
    rw [List.length_take] at hi
    rw [List.getElem_take]
    exact h1 i (by omega) (by omega)
  have hgt : ∀ i (hi : i < out.length), atOf out p < i → cmpK p.f0 out[i].f0 < 0 := fun i hi hlt => by
    have g1 := h2 (atOf out p) (by omega) (Nat.le_refl _)
    have g2 := List.pairwise_iff_getElem.1 hs (atOf out p) i (by omega) hi hlt
    unfold ltP at g2
    by_cases h0 : cmpK out[atOf out p].f0 p.f0 = 0
    · rw [← ck_eq h0]; exact g2
    · have : cmpK p.f0 out[atOf out p].f0 < 0 := by rw [ck_neg]; omega
      exact ck_lt this g2
  by_cases hlt : atOf out p < out.length
  · have hdr : out.drop (atOf out p) = out[atOf out p] :: out.drop (atOf out p + 1) := List.drop_eq_getElem_cons hlt
    have hB : ∀ b ∈ out.drop (atOf out p + 1), cmpK p.f0 b.f0 < 0 := fun b hb => by
      obtain ⟨i, hi, rfl⟩ := List.getElem_of_mem hb
      rw [List.length_drop] at hi
      rw [List.getElem_drop]
      exact hgt _ (by omega) (by omega)
    have his : isOf out p = decide (cmpK out[atOf out p].f0 p.f0 = 0) := by
      unfold isOf cmpPr
      rw [decide_eq_true hlt, Bool.true_and, rd53 hlt]
    by_cases h0 : cmpK out[atOf out p].f0 p.f0 = 0
    · refine ⟨out.take (atOf out p), [out[atOf out p]], out.drop (atOf out p + 1), ?_, by rw [List.length_take]; omega, hA, hB, .inr ⟨_, rfl, h0, by rw [his, decide_eq_true h0]⟩⟩
      rw [List.append_assoc, List.singleton_append, ← hdr, List.take_append_drop]
    · refine ⟨out.take (atOf out p), [], out.drop (atOf out p), by simp, by rw [List.length_take]; omega, hA, fun b hb => ?_, .inl ⟨rfl, by rw [his, decide_eq_false h0]⟩⟩
      rw [hdr] at hb
      rcases List.mem_cons.1 hb with rfl | hb
      · have := h2 _ hlt (Nat.le_refl _)
        rw [ck_neg]; omega
      · exact hB b hb
  · refine ⟨out, [], [], by simp, by omega, ?_, by simp, .inl ⟨rfl, ?_⟩⟩
    · rw [List.take_of_length_le (by omega)] at hA; exact hA
    · unfold isOf; rw [decide_eq_false hlt]; rfl
theorem ovStep_mem (t : Int) (lo hi : List Int) (op : Bool) {out : List S53} (hs : Sr out) (w : S28) : Sr (ovStep t lo hi op out w) ∧
    ∀ y, y ∈ ovStep t lo hi op out w ↔ if inX t lo hi op w = true then (w.f2 = false ∧ y = pairOf w) ∨ (y ∈ out ∧ cmpK y.f0 w.f1 ≠ 0) else y ∈ out := by
  unfold ovStep
  cases hin : inX t lo hi op w
  · simp only [Bool.false_eq_true, if_false]
    exact ⟨hs, fun y => by simp⟩
  simp only [if_true]
  obtain ⟨A, M, B, e, hat, hA, hB, hM⟩ := part_at hs (pairOf w)
  have hsAMB : Sr (A ++ M ++ B) := by rw [← e]; exact hs
  have hAB : ∀ a ∈ A, ∀ b ∈ B, ltP a b := fun a ha b hb => ck_lt (hA a ha) (hB b hb)
  have hsA : Sr A := (List.pairwise_append.1 (List.pairwise_append.1 hsAMB).1).1
  have hsB : Sr B := (List.pairwise_append.1 hsAMB).2.1
  have hres : (if isOf out (pairOf w) = true then (if w.f2 = true then out.eraseIdx (atOf out (pairOf w)) else out.set (atOf out (pairOf w)) (pairOf w))
     else if w.f2 = true then out else out.take (atOf out (pairOf w)) ++ pairOf w :: out.drop (atOf out (pairOf w))) = A ++ (if w.f2 = true then [] else [pairOf w]) ++ B := by
    rw [hat]
    rcases hM with ⟨rfl, his⟩ | ⟨b, rfl, h0, his⟩
    · rw [his, if_neg (by simp)]
      cases w.f2
      · rw [if_neg (by simp), if_neg (by simp), e]
        simp
      · rw [if_pos rfl, if_pos rfl]; exact e
    · rw [his, if_pos rfl]
      cases w.f2
      · rw [if_neg (by simp), if_neg (by simp), e]
        simp
      · rw [if_pos rfl, if_pos rfl, e]
        simp [List.eraseIdx_append_of_length_le]
  rw [hres]
  have hmem : ∀ y, y ∈ out ∧ cmpK y.f0 w.f1 ≠ 0 ↔ y ∈ A ∨ y ∈ B := by
    intro y
    rw [e]
    have hkA : ∀ y ∈ A, cmpK y.f0 w.f1 ≠ 0 := fun y hy => by have : cmpK y.f0 w.f1 < 0 := hA y hy; omega
    have hkB : ∀ y ∈ B, cmpK y.f0 w.f1 ≠ 0 := fun y hy => by have h : cmpK w.f1 y.f0 < 0 := hB y hy; rw [ck_neg]; omega
    constructor
    · rintro ⟨hy, h0⟩
      rcases List.mem_append.1 hy with hy | hy
      · rcases List.mem_append.1 hy with hy | hy
        · exact .inl hy
        · rcases hM with ⟨rfl, _⟩ | ⟨b, rfl, hb, _⟩
          · cases hy
          · rw [List.mem_singleton] at hy
            subst hy
            exact absurd hb h0
      · exact .inr hy
    · rintro (hy | hy)
      · exact ⟨List.mem_append.2 (.inl (List.mem_append.2 (.inl hy))), hkA y hy⟩
      · exact ⟨List.mem_append.2 (.inr hy), hkB y hy⟩
  constructor
  · cases w.f2
    · rw [if_neg (by simp)]
      refine List.pairwise_append.2 ⟨List.pairwise_append.2 ⟨hsA, List.pairwise_singleton _ _, fun a ha b hb => ?_⟩, hsB, fun a ha b hb => ?_⟩
      · rw [List.mem_singleton] at hb; subst hb; exact hA a ha
      · rcases List.mem_append.1 ha with ha | ha
        · exact hAB a ha b hb
        · rw [List.mem_singleton] at ha; subst ha; exact hB b hb
    · rw [if_pos rfl, List.append_nil]
      exact List.pairwise_append.2 ⟨hsA, hsB, hAB⟩
  · intro y
    rw [hmem y]
    cases w.f2
    · rw [if_neg (by simp)]
      simp only [List.mem_append, List.mem_singleton, true_and]
      constructor
      · rintro ((h | h) | h)
        · exact .inr (.inl h)
        · exact .inl h
        · exact .inr (.inr h)
      · rintro (h | h | h)
        · exact .inl (.inr h)
        · exact .inl (.inl h)
        · exact .inr h
    · simp
def Apart (t : Int) (lo hi : List Int) (op : Bool) (ws : List S28) : Prop := ws.Pairwise fun w v => inX t lo hi op w = true → inX t lo hi op v = true → cmpK w.f1 v.f1 ≠ 0
theorem fold_mem (t : Int) (lo hi : List Int) (op : Bool) : ∀ (ws : List S28), Apart t lo hi op ws → ∀ {out : List S53}, Sr out → Sr (ws.foldl (ovStep t lo hi op) out) ∧
    ∀ y, y ∈ ws.foldl (ovStep t lo hi op) out ↔ (∃ w ∈ ws, inX t lo hi op w = true ∧ w.f2 = false ∧ y = pairOf w) ∨ (y ∈ out ∧ ∀ w ∈ ws, inX t lo hi op w = true → cmpK y.f0 w.f1 ≠ 0) := by
  intro ws
  induction ws with
  | nil => intro _ out hs; exact ⟨hs, fun y => by simp⟩
  | cons w ws ih =>
    intro hap out hs
    obtain ⟨hw, hap⟩ := List.pairwise_cons.1 hap
    obtain ⟨h1, h2⟩ := ovStep_mem t lo hi op hs w
    obtain ⟨h3, h4⟩ := ih hap h1
    refine ⟨h3, fun y => ?_⟩
    rw [List.foldl_cons, h4 y, h2 y]
    cases hin : inX t lo hi op w
    · simp only [Bool.false_eq_true, if_false, List.mem_cons, exists_eq_or_imp, forall_eq_or_imp, hin, false_and, false_or, false_implies, true_and]
    · simp only [if_true, List.mem_cons, exists_eq_or_imp, forall_eq_or_imp, hin, true_and, true_implies]
      constructor
      · rintro (h | ⟨⟨hg, rfl⟩ | ⟨hy, h0⟩, hall⟩)
        · exact .inl (.inr h)
        · exact .inl (.inl ⟨hg, rfl⟩)
        · exact .inr ⟨hy, h0, hall⟩
      · rintro ((⟨hg, rfl⟩ | h) | ⟨hy, h0, hall⟩)
        · exact .inr ⟨.inl ⟨hg, rfl⟩, fun v hv hiv => hw v hv hin hiv⟩
        · exact .inl h
        · exact .inr ⟨.inr ⟨hy, h0⟩, hall⟩
end Go.Proofs.Ytbjeaalbdaedpaa.Pure
