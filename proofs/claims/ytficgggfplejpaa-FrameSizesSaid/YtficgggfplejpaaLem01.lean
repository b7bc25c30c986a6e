import Derived.Test.YtficgggfplejpaaPx10
import Derived.Test.YtficgggfplejpaaPx16
namespace Go.Proofs.Ytficgggfplejpaa.Pure
open Go.RowKit Go.Proofs.Ytficgggfplejpaa.P Go.Proofs.YtficgggfplejpaaW.PrintWords Go.Proofs.YtficgggfplejpaaW.PrintLast
set_option linter.unusedVariables false
set_option linter.unusedSimpArgs false

/-- What is written is read, whatever stands behind. -/
theorem take_oct (t : List Int) : ∀ (j k : Nat) (n acc : Int), 0 ≤ n → n < 128 ^ (j + 1) → k + j < 5 → acc + n * 128 ^ k ≤ 2147483647 → (n = 0 → k = 0) → takeR (octBytes (j + 1) n ++ t) k acc = some (acc + n * 128 ^ k, t) := by
  intro j
  induction j with
  | zero =>
    intro k n acc h0 h1 hk hm hz
    have h1' : n < 128 := by simpa using h1
    rw [octBytes, if_neg (by omega), List.singleton_append, takeR, if_neg (by omega), if_neg (by omega), if_neg (by omega)]
  | succ j ih =>
    intro k n acc h0 h1 hk hm hz
    rw [octBytes]
    by_cases h : 128 ≤ n
    · rw [if_pos h, List.cons_append, takeR, if_neg (by omega), if_pos (by omega)]
      have e1 : (n % 128 + 128) % 128 = n % 128 := by omega
      have e2 : (128 : Int) ^ (k + 1) = 128 ^ k * 128 := Int.pow_succ _ _
      have e3 : (128 : Int) ^ (j + 1 + 1) = 128 ^ (j + 1) * 128 := Int.pow_succ _ _
      have e4 : n % 128 * 128 ^ k + n / 128 * (128 ^ k * 128) = n * 128 ^ k := by
        have e5 : n = n % 128 + n / 128 * 128 := by omega
        conv => rhs; rw [e5, Int.add_mul]
        rw [Int.mul_assoc, Int.mul_comm 128]
      rw [e1, ih (k + 1) (n / 128) (acc + n % 128 * 128 ^ k) (by omega) (by omega) (by omega) (by rw [e2]; omega) (by omega), e2]
      congr 2
      omega
    · rw [if_neg h, List.singleton_append, takeR, if_neg (by omega), if_neg (by omega), if_neg (by omega)]
theorem take_octBytes {n : Int} (h0 : 0 ≤ n) (h1 : n ≤ 2147483647) (t : List Int) : takeR (octBytes 5 n ++ t) 0 0 = some (n, t) := by
  have := take_oct t 4 0 n 0 h0 (by omega) (by omega) (by omega) (fun _ => rfl)
  simpa using this
theorem takeR_five (l : List Int) (acc : Int) {k : Nat} (h : 5 ≤ k) : takeR l k acc = none := by
  cases l with
  | nil => rfl
  | cons x l => rw [takeR, if_pos h]
/-- What is read was written so. -/
theorem takeR_inv : ∀ (l : List Int) (k j : Nat) (acc m : Int) (t : List Int), okb l = true → k + j = 5 → takeR l k acc = some (m, t) → ∃ n, 0 ≤ n ∧ m = acc + n * 128 ^ k ∧ l = octBytes j n ++ t ∧ n < 128 ^ j ∧ (n = 0 → k = 0) ∧ m ≤ 2147483647 := by
  intro l
  induction l with
  | nil => intro k j acc m t _ _ h; cases h
  | cons x l ih =>
    intro k j acc m t hok hkj h
    have hx : 0 ≤ x ∧ x ≤ 255 := okb_mem hok (by simp)
    have hok' : okb l = true := by unfold okb at hok ⊢; rw [List.all_cons, Bool.and_eq_true] at hok; exact hok.2
    by_cases h5 : k ≥ 5
    · rw [takeR, if_pos h5] at h; cases h
    obtain ⟨j, rfl⟩ : ∃ i, j = i + 1 := ⟨j - 1, by omega⟩
    rw [takeR, if_neg h5] at h
    by_cases h1 : x ≥ 128
    · rw [if_pos h1] at h
      obtain ⟨n, n0, hm, hl, hn, hz, hmax⟩ := ih (k + 1) j _ m t hok' (by omega) h
      have hn1 : n ≠ 0 := fun e => by have := hz e; omega
      have e1 : (128 : Int) ^ (k + 1) = 128 ^ k * 128 := Int.pow_succ _ _
      have e2 : (128 : Int) ^ (j + 1) = 128 ^ j * 128 := Int.pow_succ _ _
      refine ⟨x % 128 + 128 * n, by omega, ?_, ?_, by omega, fun e => by omega, hmax⟩
      · rw [hm, e1, Int.add_mul, Int.mul_comm 128 n, Int.mul_assoc, Int.mul_comm 128 (128 ^ k)]; omega
      · rw [octBytes, if_pos (by omega), hl]
        have e3 : (x % 128 + 128 * n) % 128 + 128 = x := by omega
        have e4 : (x % 128 + 128 * n) / 128 = n := by omega
        rw [e3, e4]; rfl
    · rw [if_neg h1] at h
      by_cases h2 : acc + x * 128 ^ k > 2147483647 ∨ (x = 0 ∧ k ≥ 1)
      · rw [if_pos h2] at h; cases h
      · rw [if_neg h2] at h
        obtain ⟨rfl, rfl⟩ := Prod.mk.inj (Option.some.inj h)
        have e2 : (128 : Int) ^ (j + 1) = 128 ^ j * 128 := Int.pow_succ _ _
        have hp : (0 : Int) < 128 ^ j := Int.pow_pos (by decide)
        exact ⟨x, by omega, rfl, by rw [octBytes, if_neg (by omega)]; rfl, by omega, fun e => by omega, by omega⟩
theorem octBytes_ok (j : Nat) {n : Int} (h : 0 ≤ n) : okb (octBytes j n) = true := by
  induction j generalizing n with
  | zero => rfl
  | succ j ih =>
    rw [octBytes]
    by_cases h1 : 128 ≤ n
    · rw [if_pos h1]
      have := ih (n := n / 128) (by omega)
      unfold okb at this ⊢
      rw [List.all_cons, this, Bool.and_true, Bool.and_eq_true]
      exact ⟨decide_eq_true (by omega), decide_eq_true (by omega)⟩
    · rw [if_neg h1]
      unfold okb
      rw [List.all_cons, List.all_nil, Bool.and_true, Bool.and_eq_true]
      exact ⟨decide_eq_true (by omega), decide_eq_true (by omega)⟩
theorem takeR_append (u : List Int) : ∀ (l : List Int) (k : Nat) (acc m : Int) (t : List Int), takeR l k acc = some (m, t) → takeR (l ++ u) k acc = some (m, t ++ u) := by
  intro l
  induction l with
  | nil => intro k acc m t h; cases h
  | cons x l ih =>
    intro k acc m t h
    rw [takeR] at h
    rw [List.cons_append, takeR]
    by_cases h5 : k ≥ 5
    · rw [if_pos h5] at h; cases h
    rw [if_neg h5] at h ⊢
    by_cases h1 : x ≥ 128
    · rw [if_pos h1] at h ⊢
      exact ih _ _ _ _ h
    · rw [if_neg h1] at h ⊢
      by_cases h2 : acc + x * 128 ^ k > 2147483647 ∨ (x = 0 ∧ k ≥ 1)
      · rw [if_pos h2] at h; cases h
      · rw [if_neg h2] at h ⊢
        obtain ⟨rfl, rfl⟩ := Prod.mk.inj (Option.some.inj h)
        rfl
/-- Fewer bytes than a number's are no number. -/
theorem takeR_short {n : Int} (h0 : 0 ≤ n) (h1 : n ≤ 2147483647) {i : Nat} (hi : i < (octBytes 5 n).length) : takeR ((octBytes 5 n).take i) 0 0 = none := by
  cases h : takeR ((octBytes 5 n).take i) 0 0 with
  | none => rfl
  | some p =>
    obtain ⟨m, t⟩ := p
    have h2 := takeR_append ((octBytes 5 n).drop i) _ _ _ _ _ h
    rw [List.take_append_drop] at h2
    have h3 := take_octBytes h0 h1 []
    rw [List.append_nil, h2] at h3
    have h4 := congrArg List.length (Prod.mk.inj (Option.some.inj h3)).2
    rw [List.length_append, List.length_drop] at h4
    simp at h4
    omega
theorem octBytes_pos {j : Nat} {n : Int} : 1 ≤ (octBytes (j + 1) n).length := by rw [octBytes]; split <;> simp
theorem octBytes_mono : ∀ (j : Nat) {n m : Int}, 0 ≤ n → n ≤ m → (octBytes j n).length ≤ (octBytes j m).length := by
  intro j
  induction j with
  | zero => intro n m _ _; exact Nat.le_refl _
  | succ j ih =>
    intro n m h0 h
    rw [octBytes, octBytes]
    by_cases h1 : 128 ≤ n
    · rw [if_pos h1, if_pos (by omega), List.length_cons, List.length_cons]
      have := ih (n := n / 128) (m := m / 128) (by omega) (by omega)
      omega
    · rw [if_neg h1]
      split <;> simp
end Go.Proofs.Ytficgggfplejpaa.Pure
