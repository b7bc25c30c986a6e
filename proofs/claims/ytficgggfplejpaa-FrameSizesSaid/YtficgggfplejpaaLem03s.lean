import Derived.Test.YtficgggfplejpaaLem01b
import Derived.Test.YtficgggfplejpaaPx13
import Derived.Test.YtficgggfplejpaaPx24
namespace Go.Proofs.Ytficgggfplejpaa.Pure
open Go.RowKit Go.Proofs.Ytficgggfplejpaa.P Go.Proofs.YtficgggfplejpaaW.PrintWords Go.Proofs.YtficgggfplejpaaW.PrintLast
set_option linter.unusedVariables false
set_option linter.unusedSimpArgs false

def val (l : List Int) : Int := (sumPair l).2 * 65536 + (sumPair l).1
theorem sum_f {l : List Int} (h : okb l = true) : sum_Sum.f l = some (val l) := by unfold sum_Sum.f val; rw [if_pos h]
theorem fold_from (l : List Int) : ∀ x y : Int, 0 ≤ x → x < 65535 → 0 ≤ y → y < 65535 → l.foldl sumStep (x, y) = ((x + (sumPair l).1) % 65535, (y + (l.length : Int) * x + (sumPair l).2) % 65535) := by
  induction l with
  | nil => intro x y h0 h1 h2 h3; simp [sumPair]; omega
  | cons b l ih =>
    intro x y h0 h1 h2 h3
    have e1 : sumPair (b :: l) = l.foldl sumStep (b % 65535, b % 65535) := by simp [sumPair, sumStep]
    rw [e1, ih (b % 65535) (b % 65535) (by omega) (by omega) (by omega) (by omega), List.foldl_cons]
    have e2 : sumStep (x, y) b = ((x + b) % 65535, (y + (x + b) % 65535) % 65535) := rfl
    rw [e2, ih _ _ (by omega) (by omega) (by omega) (by omega)]
    generalize sumPair l = q
    have hn : ((b :: l).length : Int) = l.length + 1 := by simp
    rw [hn]
    generalize (l.length : Int) = n
    refine Prod.ext ?_ ?_
    · simp only; omega
    · simp only
      have a1 : n * ((x + b) % 65535) = n * (x + b) - 65535 * (n * ((x + b) / 65535)) := by
        have := Int.emod_def (x + b) 65535
        rw [this, Int.mul_sub]
        congr 1
        rw [Int.mul_left_comm]
      have a2 : n * (b % 65535) = n * b - 65535 * (n * (b / 65535)) := by
        have := Int.emod_def b 65535
        rw [this, Int.mul_sub]
        congr 1
        rw [Int.mul_left_comm]
      have a3 : n * (x + b) = n * x + n * b := Int.mul_add _ _ _
      have a4 : (n + 1) * x = n * x + x := by rw [Int.add_mul, Int.one_mul]
      rw [a1, a2, a3, a4]
      generalize n * ((x + b) / 65535) = u
      generalize n * (b / 65535) = v
      generalize n * x = c
      generalize n * b = d
      omega
theorem sum_app (a b : List Int) : sumPair (a ++ b) = (((sumPair a).1 + (sumPair b).1) % 65535, ((sumPair a).2 + (b.length : Int) * (sumPair a).1 + (sumPair b).2) % 65535) := by
  have h := sumPair_bd a
  have e : sumPair (a ++ b) = b.foldl sumStep (sumPair a) := by unfold sumPair; rw [List.foldl_append]
  rw [e]
  exact fold_from b (sumPair a).1 (sumPair a).2 h.1.1 h.1.2 h.2.1 h.2.2
theorem val_parts (l : List Int) : val l % 65536 = (sumPair l).1 ∧ val l / 65536 = (sumPair l).2 ∧ 0 ≤ val l ∧ val l ≤ 4294967295 := by
  have := sumPair_bd l
  unfold val; omega
theorem fst_sum (l : List Int) : (sumPair l).1 = l.sum % 65535 := by
  induction l with
  | nil => rfl
  | cons b l ih =>
    have e : b :: l = [b] ++ l := rfl
    have e2 : sumPair [b] = (b % 65535, b % 65535) := by simp [sumPair, sumStep]
    rw [e, sum_app, e2, ih]
    simp only [List.sum_append, List.sum_cons, List.sum_nil]
    omega
theorem val_inj {a b : List Int} (h : val a = val b) : sumPair a = sumPair b := by
  obtain ⟨a1, a2, _⟩ := val_parts a
  obtain ⟨b1, b2, _⟩ := val_parts b
  rw [h] at a1 a2
  exact Prod.ext (by rw [← a1, b1]) (by rw [← a2, b2])
theorem ref_sum (l : List Int) (hl : okb l = true) (hn : (l.length : Int) ≤ 140737488351232) (d : Nat) : ∀ (k n : Nat), n ≤ l.length → l.length - n = d → d < k →
    banksmanref02_Sum.l0 k l (sumPair (l.take n)).1 (sumPair (l.take n)).2 n = some (val l) := by
  induction d with
  | zero =>
    intro k n h0 h1 h2
    obtain ⟨k, rfl⟩ : ∃ m, k = m + 1 := ⟨k - 1, by omega⟩
    have e : n = l.length := by omega
    subst e
    rw [List.take_length]
    have := sumPair_bd l
    simp only [banksmanref02_Sum.l0]
    rw [if_neg (by omega)]
    rw [w64 (x := 65536 * _) (by omega) (by omega), w64 (by omega) (by omega)]
    unfold val
    congr 1
    omega
  | succ d ih =>
    intro k n h0 h1 h2
    obtain ⟨k, rfl⟩ : ∃ m, k = m + 1 := ⟨k - 1, by omega⟩
    have hlt : n < l.length := by omega
    have hb := okb_rd hl n hlt
    have := ih k (n + 1) (by omega) (by omega) (by omega)
    rw [take_rd l n hlt, sumPair_snoc] at this
    have hbd := sumPair_bd (l.take n)
    generalize sumPair (l.take n) = q at this hbd ⊢
    simp only [banksmanref02_Sum.l0]
    rw [if_pos (by omega), if_pos (by omega)]
    rw [w64 (x := rd l n) (by omega) (by omega), w64 (by omega) (by omega), Int.tmod_eq_emod_of_nonneg (by omega), w64 (x := q.2 + _) (by omega) (by omega), Int.tmod_eq_emod_of_nonneg (by omega), w64 (by omega) (by omega)]
    simpa [sumStep] using this
theorem ref_sum_f (l : List Int) (hl : okb l = true) (hn : (l.length : Int) ≤ 140737488351232) (k : Nat) (hk : l.length < k) : banksmanref02_Sum.f k l = some (val l) := by
  have := ref_sum l hl hn l.length k 0 (by omega) (by omega) hk
  simpa [banksmanref02_Sum.f, sumPair] using this
theorem sum_set (l : List Int) (v : Int) : ∀ i, i < l.length → (l.set i v).sum = l.sum - rd l (i : Int) + v := by
  induction l with
  | nil => intro i h; simp at h
  | cons b l ih =>
    intro i h
    cases i with
    | zero => simp [rd]; omega
    | succ i =>
      have := ih i (by simpa using h)
      have e : rd (b :: l) ((i + 1 : Nat) : Int) = rd l (i : Int) := by simp [rd]
      rw [e, List.set_cons_succ, List.sum_cons, List.sum_cons, this]
      omega
theorem set_self (l : List Int) (i : Nat) (h : i < l.length) : l.set i (rd l (i : Int)) = l := by
  have e : rd l (i : Int) = l[i] := by unfold rd; simp [List.getD_eq_getElem?_getD, h]
  rw [e, List.set_getElem_self]
theorem okb_set {l : List Int} (h : okb l = true) {v : Int} (hv : 0 ≤ v ∧ v ≤ 255) (i : Nat) : okb (l.set i v) = true := by
  unfold okb
  rw [List.all_eq_true]
  intro x hx
  rcases List.mem_or_eq_of_mem_set hx with hx | rfl
  · have := okb_mem h hx
    simp; omega
  · simp; omega
end Go.Proofs.Ytficgggfplejpaa.Pure
