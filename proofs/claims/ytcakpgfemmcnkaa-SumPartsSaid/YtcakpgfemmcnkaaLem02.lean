import Derived.Test.YtcakpgfemmcnkaaPx
namespace Go.Proofs.Ytcakpgfemmcnkaa.Pure
open Go.RowKit Go.Proofs.Ytcakpgfemmcnkaa.P Go.Proofs.YtcakpgfemmcnkaaW.PrintWords Go.Proofs.YtcakpgfemmcnkaaW.PrintLast
set_option linter.unusedVariables false
set_option linter.unusedSimpArgs false

theorem w64 {x : Int} (h0 : -9223372036854775808 ≤ x) (h1 : x ≤ 9223372036854775807) : wrap64 x = x := by unfold wrap64; omega
theorem wf_u8 {x : Int} (h : (Lit.int .u8 x).wf = true) : 0 ≤ x ∧ x ≤ 255 := by
  simp [Lit.wf, IntKind.min, IntKind.max, IntKind.bits, IntKind.signed] at h; omega
theorem wf_u16 {x : Int} (h : (Lit.int .u16 x).wf = true) : 0 ≤ x ∧ x ≤ 65535 := by
  simp [Lit.wf, IntKind.min, IntKind.max, IntKind.bits, IntKind.signed] at h; omega
theorem wf_u32 {x : Int} (h : (Lit.int .u32 x).wf = true) : 0 ≤ x ∧ x ≤ 4294967295 := by
  simp [Lit.wf, IntKind.min, IntKind.max, IntKind.bits, IntKind.signed] at h; omega
theorem okb_of {l : List Int} (h : ∀ x ∈ l, (Lit.int .u8 x).wf = true) : okb l = true := by
  unfold okb
  rw [List.all_eq_true]
  intro x hx
  have := wf_u8 (h x hx)
  simp; omega
theorem okb_app (a b : List Int) : okb (a ++ b) = (okb a && okb b) := by unfold okb; rw [List.all_append]

def val (l : List Int) : Int := (sumPair l).2 * 65536 + (sumPair l).1
theorem sum_f {l : List Int} (h : okb l = true) : sum_Sum.f l = some (val l) := by unfold sum_Sum.f val; rw [if_pos h]
theorem awake : banksmanlaw02_awake.f = some true := by decide +kernel

/-! the sum, plainly -/
theorem fold_from (l : List Int) : ∀ x y : Int, 0 ≤ x → x < 65535 → 0 ≤ y → y < 65535 → l.foldl sumStep (x, y) = ((x + (sumPair l).1) % 65535, (y + (l.length : Int) * x + (sumPair l).2) % 65535) := by
  induction l with
  | nil => intro x y h0 h1 h2 h3; simp [sumPair]; omega
  | cons b l ih =>
    intro x y h0 h1 h2 h3
    have e1 : sumPair (b :: l) = l.foldl sumStep (b % 65535, b % 65535) := by simp [sumPair, sumStep]
    rw [e1, ih (b % 65535) (b % 65535) (by omega) (by omega) (by omega) (by omega), List.foldl_cons]
    have e2 : sumStep (x, y) b = ((x + b) % 65535, (y + (x + b) % 65535) % 65535) := rfl
    rw [e2, ih _ _ (by omega) (by omega) (by omega) (by omega)]
    generalize sumPair l = q
    have hn : ((b :: l).length : Int) = l.length + 1 := by simp
    rw [hn]
    generalize (l.length : Int) = n
    refine Prod.ext ?_ ?_
    · simp only; omega
    · simp only
      have a1 : n * ((x + b) % 65535) = n * (x + b) - 65535 * (n * ((x + b) / 65535)) := by
        have := Int.emod_def (x + b) 65535
        rw [this, Int.mul_sub]
        congr 1
        rw [Int.mul_left_comm]
      have a2 : n * (b % 65535) = n * b - 65535 * (n * (b / 65535)) := by
        have := Int.emod_def b 65535
        rw [this, Int.mul_sub]
        congr 1
        rw [Int.mul_left_comm]
      have a3 : n * (x + b) = n * x + n * b := Int.mul_add _ _ _
      have a4 : (n + 1) * x = n * x + x := by rw [Int.add_mul, Int.one_mul]
      rw [a1, a2, a3, a4]
      generalize n * ((x + b) / 65535) = u
      generalize n * (b / 65535) = v
      generalize n * x = c
      generalize n * b = d
      omega
theorem sum_app (a b : List Int) : sumPair (a ++ b) = (((sumPair a).1 + (sumPair b).1) % 65535, ((sumPair a).2 + (b.length : Int) * (sumPair a).1 + (sumPair b).2) % 65535) := by
  have h := sumPair_bd a
  have e : sumPair (a ++ b) = b.foldl sumStep (sumPair a) := by unfold sumPair; rw [List.foldl_append]
  rw [e]
  exact fold_from b (sumPair a).1 (sumPair a).2 h.1.1 h.1.2 h.2.1 h.2.2
theorem val_parts (l : List Int) : val l % 65536 = (sumPair l).1 ∧ val l / 65536 = (sumPair l).2 ∧ 0 ≤ val l ∧ val l ≤ 4294967295 := by
  have := sumPair_bd l
  unfold val; omega
theorem join_f {a b n : Int} (ha : 0 ≤ a ∧ a ≤ 4294967295) (hb : 0 ≤ b ∧ b ≤ 4294967295) : sum_Join.f a b n = some (joinOf a b n) := by
  unfold sum_Join.f
  rw [if_pos (by simp [inU32]; omega)]
theorem join_val (a b : List Int) (h : (b.length : Int) ≤ 2147483647) : sum_Join.f (val a) (val b) (b.length : Int) = some (val (a ++ b), 0) := by
  obtain ⟨a1, a2, a3, a4⟩ := val_parts a
  obtain ⟨b1, b2, b3, b4⟩ := val_parts b
  have ha := sumPair_bd a
  have hb := sumPair_bd b
  rw [join_f ⟨a3, a4⟩ ⟨b3, b4⟩]
  unfold joinOf
  rw [a1, a2, b1, b2, if_neg (by omega), if_neg (by omega), if_neg (by omega), if_neg (by omega), if_neg (by omega), if_neg (by omega)]
  unfold val
  rw [sum_app]
  simp only
  congr 3
  generalize (b.length : Int) * (sumPair a).1 = z
  omega
theorem fst_sum (l : List Int) : (sumPair l).1 = l.sum % 65535 := by
  induction l with
  | nil => rfl
  | cons b l ih =>
    have e : b :: l = [b] ++ l := rfl
    have e2 : sumPair [b] = (b % 65535, b % 65535) := by simp [sumPair, sumStep]
    rw [e, sum_app, e2, ih]
    simp only [List.sum_append, List.sum_cons, List.sum_nil]
    omega
theorem val_inj {a b : List Int} (h : val a = val b) : sumPair a = sumPair b := by
  obtain ⟨a1, a2, _⟩ := val_parts a
  obtain ⟨b1, b2, _⟩ := val_parts b
  rw [h] at a1 a2
  exact Prod.ext (by rw [← a1, b1]) (by rw [← a2, b2])

/-! the document's sum -/
theorem ref_sum (l : List Int) (hl : okb l = true) (hn : (l.length : Int) ≤ 140737488351232) (d : Nat) : ∀ (k n : Nat), n ≤ l.length → l.length - n = d → d < k →
    banksmanref02_Sum.l0 k l (sumPair (l.take n)).1 (sumPair (l.take n)).2 n = some (val l) := by
  induction d with
  | zero =>
    intro k n h0 h1 h2
    obtain ⟨k, rfl⟩ : ∃ m, k = m + 1 := ⟨k - 1, by omega⟩
    have e : n = l.length := by omega
    subst e
    rw [List.take_length]
    have := sumPair_bd l
    simp only [banksmanref02_Sum.l0]
    rw [if_neg (by omega)]
    rw [w64 (x := 65536 * _) (by omega) (by omega), w64 (by omega) (by omega)]
    unfold val
    congr 1
    omega
  | succ d ih =>
    intro k n h0 h1 h2
    obtain ⟨k, rfl⟩ : ∃ m, k = m + 1 := ⟨k - 1, by omega⟩
    have hlt : n < l.length := by omega
    have hb := okb_rd hl n hlt
    have := ih k (n + 1) (by omega) (by omega) (by omega)
    rw [take_rd l n hlt, sumPair_snoc] at this
    have hbd := sumPair_bd (l.take n)
    generalize sumPair (l.take n) = q at this hbd ⊢
    simp only [banksmanref02_Sum.l0]
    rw [if_pos (by omega), if_pos (by omega)]
    rw [w64 (x := rd l n) (by omega) (by omega), w64 (by omega) (by omega), Int.tmod_eq_emod_of_nonneg (by omega), w64 (x := q.2 + _) (by omega) (by omega), Int.tmod_eq_emod_of_nonneg (by omega), w64 (by omega) (by omega)]
    simpa [sumStep] using this
theorem ref_sum_f (l : List Int) (hl : okb l = true) (hn : (l.length : Int) ≤ 140737488351232) (k : Nat) (hk : l.length < k) : banksmanref02_Sum.f k l = some (val l) := by
  have := ref_sum l hl hn l.length k 0 (by omega) (by omega) hk
  simpa [banksmanref02_Sum.f, sumPair] using this
theorem ref_join (a b n : Int) (ha : 0 ≤ a ∧ a ≤ 4294967295) (hb : 0 ≤ b ∧ b ≤ 4294967295) : banksmanref02_Join.f a b n = some (joinOf a b n) := by
  unfold banksmanref02_Join.f joinOf
  rw [Int.tmod_eq_emod_of_nonneg ha.1, Int.tmod_eq_emod_of_nonneg hb.1, Int.tdiv_eq_ediv_of_nonneg ha.1, Int.tdiv_eq_ediv_of_nonneg hb.1]
  rw [w64 (x := a % 65536) (by omega) (by omega), w64 (x := b % 65536) (by omega) (by omega), show a / 65536 % 4294967296 = a / 65536 by omega, show b / 65536 % 4294967296 = b / 65536 by omega]
  by_cases h1 : n < 0
  · rw [if_pos h1, if_pos h1]
  rw [if_neg h1, if_neg h1]
  by_cases h2 : 2147483647 < n
  · rw [if_pos (by omega), if_pos h2]
  rw [if_neg (by omega), if_neg h2]
  by_cases h3 : 65535 ≤ a % 65536
  · rw [if_pos (by omega), if_pos h3]
  rw [if_neg (by omega), if_neg h3]
  by_cases h4 : 65535 ≤ a / 65536
  · rw [if_pos (by omega), if_pos h4]
  rw [if_neg (by omega), if_neg h4]
  by_cases h5 : 65535 ≤ b % 65536
  · rw [if_pos (by omega), if_pos h5]
  rw [if_neg (by omega), if_neg h5]
  by_cases h6 : 65535 ≤ b / 65536
  · rw [if_pos (by omega), if_pos h6]
  rw [if_neg (by omega), if_neg h6]
  congr 2
  rw [Int.tmod_eq_emod_of_nonneg (a := n) (by omega)]
  have hm : n % 65535 * (a % 65536) = n * (a % 65536) - 65535 * (n / 65535 * (a % 65536)) := by
    rw [Int.emod_def n 65535, Int.sub_mul, Int.mul_assoc]
  have hb1 := mul_bd (n % 65535) (a % 65536) (by omega) (by omega) (by omega) (by omega)
  rw [w64 (x := n % 65535 * (a % 65536)) (by omega) (by omega), w64 (x := a % 65536 + b % 65536) (by omega) (by omega), w64 (x := a / 65536 + b / 65536 + n % 65535 * (a % 65536)) (by omega) (by omega)]
  rw [Int.tmod_eq_emod_of_nonneg (by omega), Int.tmod_eq_emod_of_nonneg (by omega), w64 (x := 65536 * _) (by omega) (by omega), w64 (by omega) (by omega)]
  rw [hm]
  generalize n * (a % 65536) = u
  generalize n / 65535 * (a % 65536) = v
  have e : (a / 65536 + b / 65536 + (u - 65535 * v)) % 65535 = (a / 65536 + b / 65536 + u) % 65535 := by omega
  rw [e]
  generalize (a / 65536 + b / 65536 + u) % 65535 = z at *
  omega
end Go.Proofs.Ytcakpgfemmcnkaa.Pure
