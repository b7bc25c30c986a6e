/- Plain facts on octets (as layer 1's), for layer 21. -/
import Derived.Test.YtfbjabpjfalmlaaPx1
import Derived.Test.YtfbjabpjfalmlaaPx1
import Derived.Test.YtfbjabpjfalmlaaPx1
import Derived.Test.YtfbjabpjfalmlaaPx1
import Derived.Test.YtfbjabpjfalmlaaPx38
import Derived.Test.YtfbjabpjfalmlaaPx42
import Derived.Test.YtfbjabpjfalmlaaPx43
import Derived.Test.YtfbjabpjfalmlaaPx39
import Derived.Lib.Bytes
namespace Go.Proofs.Ytfbjabpjfalmlaa.Pure
open Go.RowKit Go.Proofs.Ytfbjabpjfalmlaa.P Go.Proofs.YtfbjabpjfalmlaaW.PrintWords Go.Proofs.YtfbjabpjfalmlaaW.PrintLast
set_option linter.unusedVariables false
set_option linter.unusedSimpArgs false


/-- What is written is read, whatever stands behind. -/
theorem take_oct (t : List Int) : ∀ (j k : Nat) (n acc : Int), 0 ≤ n → n < 128 ^ (j + 1) → k + j < 5 → acc + n * 128 ^ k ≤ 2147483647 → (n = 0 → k = 0) → takeR (octBytes (j + 1) n ++ t) k acc = some (acc + n * 128 ^ k, t) := by
  intro j
  induction j with
  | zero =>
    intro k n acc h0 h1 hk hm hz
    have h1' : n < 128 := by simpa using h1
    rw [octBytes, if_neg (by omega), List.singleton_append, takeR, if_neg (by omega), if_neg (by omega), if_neg (by omega)]
  | succ j ih =>
    intro k n acc h0 h1 hk hm hz
    rw [octBytes]
    by_cases h : 128 ≤ n
    · rw [if_pos h, List.cons_append, takeR, if_neg (by omega), if_pos (by omega)]
      have e1 : (n % 128 + 128) % 128 = n % 128 := by omega
      have e2 : (128 : Int) ^ (k + 1) = 128 ^ k * 128 := Int.pow_succ _ _
      have e3 : (128 : Int) ^ (j + 1 + 1) = 128 ^ (j + 1) * 128 := Int.pow_succ _ _
      have e4 : n % 128 * 128 ^ k + n / 128 * (128 ^ k * 128) = n * 128 ^ k := by
        have e5 : n = n % 128 + n / 128 * 128 := by omega
        conv => rhs; rw [e5, Int.add_mul]
        rw [Int.mul_assoc, Int.mul_comm 128]
      rw [e1, ih (k + 1) (n / 128) (acc + n % 128 * 128 ^ k) (by omega) (by omega) (by omega) (by rw [e2]; omega) (by omega), e2]
      congr 2
      omega
    · rw [if_neg h, List.singleton_append, takeR, if_neg (by omega), if_neg (by omega), if_neg (by omega)]
theorem take_octBytes {n : Int} (h0 : 0 ≤ n) (h1 : n ≤ 2147483647) (t : List Int) : takeR (octBytes 5 n ++ t) 0 0 = some (n, t) := by
  have := take_oct t 4 0 n 0 h0 (by omega) (by omega) (by omega) (fun _ => rfl)
  simpa using this
/-- What is read was written so. -/
theorem takeR_inv : ∀ (l : List Int) (k j : Nat) (acc m : Int) (t : List Int), okb l = true → k + j = 5 → takeR l k acc = some (m, t) → ∃ n, 0 ≤ n ∧ m = acc + n * 128 ^ k ∧ l = octBytes j n ++ t ∧ n < 128 ^ j ∧ (n = 0 → k = 0) ∧ m ≤ 2147483647 := by
  intro l
  induction l with
  | nil => intro k j acc m t _ _ h; cases h
  | cons x l ih =>
    intro k j acc m t hok hkj h
    have hx : 0 ≤ x ∧ x ≤ 255 := okb_mem hok (by simp)
    have hok' : okb l = true := by unfold okb at hok ⊢; rw [List.all_cons, Bool.and_eq_true] at hok; exact hok.2
    by_cases h5 : k ≥ 5
    · rw [takeR, if_pos h5] at h; cases h
    obtain ⟨j, rfl⟩ : ∃ i, j = i + 1 := ⟨j - 1, by omega⟩
    rw [takeR, if_neg h5] at h
    by_cases h1 : x ≥ 128
    · rw [if_pos h1] at h
      obtain ⟨n, n0, hm, hl, hn, hz, hmax⟩ := ih (k + 1) j _ m t hok' (by omega) h
      have hn1 : n ≠ 0 := fun e => by have := hz e; omega
      have e1 : (128 : Int) ^ (k + 1) = 128 ^ k * 128 := Int.pow_succ _ _
      have e2 : (128 : Int) ^ (j + 1) = 128 ^ j * 128 := Int.pow_succ _ _
      refine ⟨x % 128 + 128 * n, by omega, ?_, ?_, by omega, fun e => by omega, hmax⟩
      · rw [hm, e1, Int.add_mul, Int.mul_comm 128 n, Int.mul_assoc, Int.mul_comm 128 (128 ^ k)]; omega
      · rw [octBytes, if_pos (by omega), hl]
        have e3 : (x % 128 + 128 * n) % 128 + 128 = x := by omega
        have e4 : (x % 128 + 128 * n) / 128 = n := by omega
        rw [e3, e4]; rfl
    · rw [if_neg h1] at h
      by_cases h2 : acc + x * 128 ^ k > 2147483647 ∨ (x = 0 ∧ k ≥ 1)
      · rw [if_pos h2] at h; cases h
      · rw [if_neg h2] at h
        obtain ⟨rfl, rfl⟩ := Prod.mk.inj (Option.some.inj h)
        have e2 : (128 : Int) ^ (j + 1) = 128 ^ j * 128 := Int.pow_succ _ _
        have hp : (0 : Int) < 128 ^ j := Int.pow_pos (by decide)
        exact ⟨x, by omega, rfl, by rw [octBytes, if_neg (by omega)]; rfl, by omega, fun e => by omega, by omega⟩
theorem octBytes_ok (j : Nat) {n : Int} (h : 0 ≤ n) : okb (octBytes j n) = true := by
  induction j generalizing n with
  | zero => rfl
  | succ j ih =>
    rw [octBytes]
    by_cases h1 : 128 ≤ n
    · rw [if_pos h1]
      have := ih (n := n / 128) (by omega)
      unfold okb at this ⊢
      rw [List.all_cons, this, Bool.and_true, Bool.and_eq_true]
      exact ⟨decide_eq_true (by omega), decide_eq_true (by omega)⟩
    · rw [if_neg h1]
      unfold okb
      rw [List.all_cons, List.all_nil, Bool.and_true, Bool.and_eq_true]
      exact ⟨decide_eq_true (by omega), decide_eq_true (by omega)⟩
theorem octBytes_mono : ∀ (j : Nat) {n m : Int}, 0 ≤ n → n ≤ m → (octBytes j n).length ≤ (octBytes j m).length := by
  intro j
  induction j with
  | zero => intro n m _ _; exact Nat.le_refl _
  | succ j ih =>
    intro n m h0 h
    rw [octBytes, octBytes]
    by_cases h1 : 128 ≤ n
    · rw [if_pos h1, if_pos (by omega), List.length_cons, List.length_cons]
      have := ih (n := n / 128) (m := m / 128) (by omega) (by omega)
      omega
    · rw [if_neg h1]
      split <;> simp


theorem w64 {x : Int} (h0 : -9223372036854775808 ≤ x) (h1 : x ≤ 9223372036854775807) : wrap64 x = x := by unfold wrap64; omega
def numP (l : List Int) (n : Int) : List Int × Int := if n < 0 ∨ n > 2147483647 then ([], 10) else (l ++ octBytes 5 n, 0)
theorem number_f {l : List Int} (h : l.length < 140737488355000) (n : Int) : octet_Number.f l n = some (numP l n) := by
  unfold octet_Number.f numP
  by_cases h1 : n < 0
  · rw [if_pos h1, if_pos (.inl h1)]
  · rw [if_neg h1]
    by_cases h2 : n > 2147483647
    · rw [if_pos h2, if_pos (.inr h2)]
    · rw [if_neg h2, if_pos h, if_neg (by omega)]
theorem okb_append {a b : List Int} : okb (a ++ b) = (okb a && okb b) := by unfold okb; rw [List.all_append]
theorem okb_app {a b : List Int} (ha : okb a = true) (hb : okb b = true) : okb (a ++ b) = true := by rw [okb_append, ha, hb]; rfl
theorem okb_take {l : List Int} (h : okb l = true) (n : Nat) : okb (l.take n) = true := by
  have := okb_append (a := l.take n) (b := l.drop n)
  rw [List.take_append_drop, h] at this
  exact (Bool.and_eq_true_iff.mp this.symm).1
theorem okb_drop {l : List Int} (h : okb l = true) (n : Nat) : okb (l.drop n) = true := by
  have := okb_append (a := l.take n) (b := l.drop n)
  rw [List.take_append_drop, h] at this
  exact (Bool.and_eq_true_iff.mp this.symm).2
theorem wf_u8 {x : Int} (h : (Lit.int .u8 x).wf = true) : 0 ≤ x ∧ x ≤ 255 := by
  simp [Lit.wf, IntKind.min, IntKind.max, IntKind.bits, IntKind.signed] at h; omega
theorem okb_of {l : List Int} (h : ∀ x ∈ l, (Lit.int .u8 x).wf = true) : okb l = true := by
  unfold okb
  rw [List.all_eq_true]
  intro x hx
  have := wf_u8 (h x hx)
  simp; omega
theorem numP_ok {n : Int} (h0 : 0 ≤ n) (h1 : n ≤ 2147483647) (l : List Int) : numP l n = (l ++ octBytes 5 n, 0) := by unfold numP; rw [if_neg (by omega)]
def textP (l t : List Int) : List Int × Int := if (t.length : Int) > 65535 then ([], 10) else (l ++ octBytes 5 t.length ++ t, 0)
theorem text_f {l t : List Int} (hl : l.length < 1000000) : octet_Text.f l t = some (textP l t) := by
  unfold octet_Text.f textP
  by_cases h : (t.length : Int) > 65535
  · rw [if_pos h, if_pos h]
  · have h5 := octBytes_len 5 t.length
    rw [if_neg h, if_neg h, number_f (by omega), Option.bind_some, numP_ok (by omega) (by omega)]
    simp only
    rw [if_pos (by simp; omega)]
def ttP (l : List Int) : List Int × List Int × Int :=
  match takeR l 0 0 with
  | none => ([], [], 10)
  | some (n, t) => if n > 65535 then ([], [], 10) else if n > (t.length : Int) then ([], [], 10) else (t.take n.toNat, t.drop n.toNat, 0)
theorem take_f {l : List Int} (hok : okb l = true) (hl : l.length < 1000000) : octet_Take.f l = some (takeRes (takeR l 0 0)) := by
  unfold octet_Take.f
  rw [if_pos hok, if_pos (by omega)]
theorem takeR_some {l : List Int} {n : Int} {t : List Int} (hok : okb l = true) (h : takeR l 0 0 = some (n, t)) : 0 ≤ n ∧ n ≤ 2147483647 ∧ l = octBytes 5 n ++ t := by
  obtain ⟨m, h0, h1, h2, h3, h4, h5⟩ := takeR_inv l 0 5 0 n t hok rfl h
  have e : n = m := by simpa using h1
  subst e
  exact ⟨h0, h5, h2⟩
theorem takeText_f {l : List Int} (hok : okb l = true) (hl : l.length < 1000000) : octet_TakeText.f l = some (ttP l) := by
  unfold octet_TakeText.f ttP
  rw [take_f hok hl, Option.bind_some]
  cases h : takeR l 0 0 with
  | none => simp [takeRes]
  | some p =>
    obtain ⟨n, t⟩ := p
    obtain ⟨h0, h1, h2⟩ := takeR_some hok h
    have hlen := congrArg List.length h2
    rw [List.length_append] at hlen
    show (if (0 : Int) = 0 then (if n < 0 then none else if n > 65535 then some (([] : List Int), ([] : List Int), (10 : Int)) else if n > (t.length : Int) then some ([], [], 10) else if t.length < 140737488355328 then some (t.take n.toNat, t.drop n.toNat, 0) else none) else some ([], [], 10)) = some _
    rw [if_pos rfl, if_neg (show ¬ n < 0 by omega)]
    simp only
    by_cases c1 : n > 65535
    · rw [if_pos c1, if_pos c1]
    · rw [if_neg c1, if_neg c1]
      by_cases c2 : n > (t.length : Int)
      · rw [if_pos c2, if_pos c2]
      · rw [if_neg c2, if_neg c2, if_pos (by omega)]
theorem tt_text {t : List Int} (h : (t.length : Int) ≤ 65535) (u : List Int) : ttP (octBytes 5 t.length ++ t ++ u) = (t, u, 0) := by
  unfold ttP
  rw [List.append_assoc, take_octBytes (by omega) (by omega)]
  simp only
  rw [if_neg (by omega), if_neg (by simp; omega)]
  simp


end Go.Proofs.Ytfbjabpjfalmlaa.Pure
