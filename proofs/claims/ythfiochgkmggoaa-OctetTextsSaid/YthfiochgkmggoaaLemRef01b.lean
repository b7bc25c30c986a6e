import Derived.Test.YthfiochgkmggoaaLem01b
import Derived.Test.YthfiochgkmggoaaPx15
import Derived.Test.YthfiochgkmggoaaPx19
import Derived.Test.YthfiochgkmggoaaPx16
import Derived.Test.YthfiochgkmggoaaPx18
namespace Go.Proofs.Ythfiochgkmggoaa.Pure
open Go.RowKit Go.Proofs.Ythfiochgkmggoaa.P Go.Proofs.YthfiochgkmggoaaW.PrintWords Go.Proofs.YthfiochgkmggoaaW.PrintLast
set_option linter.unusedVariables false
set_option linter.unusedSimpArgs false

theorem pow_le {i : Nat} (h : i ≤ 4) : (1 : Int) ≤ 128 ^ i ∧ (128 : Int) ^ i ≤ 268435456 := by
  have : i = 0 ∨ i = 1 ∨ i = 2 ∨ i = 3 ∨ i = 4 := by omega
  rcases this with rfl | rfl | rfl | rfl | rfl <;> decide
theorem rd_app (pre suf : List Int) (x : Int) : rd (pre ++ x :: suf) (pre.length : Int) = x := by
  unfold rd
  simp [List.getD_eq_getElem?_getD]
theorem rtake_l0 : ∀ (suf pre : List Int) (acc : Int) (k : Nat), okb (pre ++ suf) = true → pre.length ≤ 5 → (pre ++ suf).length < 1000000 → 0 ≤ acc → acc < 128 ^ pre.length →
    takeR (pre ++ suf) 0 0 = takeR suf pre.length acc → 22 ≤ k + 2 * pre.length → banksmanref01_Take.l0 k (pre ++ suf) acc (128 ^ pre.length) pre.length = some (takeRes (takeR (pre ++ suf) 0 0)) := by
  intro suf
  induction suf with
  | nil =>
    intro pre acc k hok h5 hlen ha0 ha1 hT hk
    obtain ⟨k, rfl⟩ : ∃ m, k = m + 2 := ⟨k - 2, by omega⟩
    rw [hT, banksmanref01_Take.l0, if_neg (by simp), banksmanref01_Take.j1, if_neg (by decide)]
    rfl
  | cons x suf ih =>
    intro pre acc k hok h5 hlen ha0 ha1 hT hk
    obtain ⟨k, rfl⟩ : ∃ m, k = m + 2 := ⟨k - 2, by omega⟩
    have hll : (pre ++ x :: suf).length = pre.length + 1 + suf.length := by simp; omega
    have hx := okb_mem hok (b := x) (by simp)
    rw [banksmanref01_Take.l0, if_pos (by omega), banksmanref01_Take.j1]
    by_cases hi : pre.length = 5
    · rw [decide_eq_false (by omega), if_neg (by decide), hT, takeR_five _ _ (by omega)]
      rfl
    have hi4 : pre.length ≤ 4 := by omega
    obtain ⟨hp1, hp2⟩ := pow_le hi4
    have hm : Int.tmod x 128 = x % 128 := Int.tmod_eq_emod_of_nonneg hx.1
    have hq0 : 0 ≤ x % 128 * 128 ^ pre.length := Int.mul_nonneg (by omega) (by omega)
    have hq1 : x % 128 * 128 ^ pre.length ≤ 127 * 128 ^ pre.length := Int.mul_le_mul_of_nonneg_right (by omega) (by omega)
    rw [decide_eq_true (by omega), if_pos rfl, if_pos (by omega), if_pos (by omega), rd_app, w64 (x := x) (by omega) (by omega), hm, w64 (x := x % 128 * 128 ^ pre.length) (by omega) (by omega), w64 (x := acc + x % 128 * 128 ^ pre.length) (by omega) (by omega), w64 (x := (pre.length : Int) + 1) (by omega) (by omega)]
    have htk : (pre ++ x :: suf).take ((pre.length : Int) + 1).toNat = pre ++ [x] := by
      have e : ((pre.length : Int) + 1).toNat = pre.length + 1 := by omega
      have e2 : pre ++ x :: suf = (pre ++ [x]) ++ suf := by simp
      rw [e, e2, List.take_append_of_le_length (by simp)]
      exact List.take_of_length_le (by simp)
    have hdr : (pre ++ x :: suf).drop ((pre.length : Int) + 1).toNat = suf := by
      have e : ((pre.length : Int) + 1).toNat = pre.length + 1 := by omega
      have e2 : pre ++ x :: suf = (pre ++ [x]) ++ suf := by simp
      rw [e, e2]
      exact List.drop_left' (by simp)
    have hcut : pre ++ x :: suf = (pre ++ [x]) ++ suf := by simp
    by_cases hx1 : x < 128
    · have hxm : x % 128 = x := by omega
      rw [hxm] at hq0 hq1 ⊢
      rw [takeR, if_neg (by omega), if_neg (by omega)] at hT
      rw [if_pos hx1, rnumber_f (by simp) (by omega), Option.bind_some, htk, hdr]
      by_cases c1 : acc + x * 128 ^ pre.length > 2147483647
      · rw [if_pos (Or.inl c1)] at hT
        have hn : numP [] (acc + x * 128 ^ pre.length) = ([], 10) := by
          unfold numP
          rw [if_pos (Or.inr c1)]
        rw [hT, hn]
        rfl
      · have hn := numP_ok (n := acc + x * 128 ^ pre.length) (by omega) (by omega) []
        rw [List.nil_append] at hn
        rw [hn]
        simp only
        rw [if_pos trivial, if_pos (show 0 ≤ (pre.length : Int) + 1 by omega), if_pos (show (pre.length : Int) + 1 ≤ ((pre ++ x :: suf).length : Int) by omega)]
        by_cases c2 : x = 0 ∧ pre.length ≥ 1
        · rw [if_pos (Or.inr c2)] at hT
          rw [hT, if_neg]
          · rfl
          · intro he
            have he2 := str_inj (octBytes_ok 5 (by omega)) (by rw [hcut, okb_append, Bool.and_eq_true] at hok; exact hok.1) he
            rw [hcut, ← he2, take_octBytes (by omega) (by omega)] at hT
            cases hT
        · rw [if_neg (by omega)] at hT
          obtain ⟨_, _, h2⟩ := takeR_some hok hT
          rw [hcut] at h2
          have h3 := List.append_cancel_right h2
          rw [hT, if_pos (by rw [h3]), Option.bind_some, if_pos (by simp; omega)]
          rfl
    · rw [if_neg hx1]
      have e1 : wrap64 ((128 : Int) ^ pre.length * 128) = 128 ^ (pre ++ [x]).length := by
        rw [w64 (by omega) (by omega)]
        simp [Int.pow_succ]
      have e2 : (pre.length : Int) + 1 = ((pre ++ [x]).length : Int) := by simp
      rw [takeR, if_neg (by omega), if_pos (by omega)] at hT
      rw [e1, e2, hcut]
      rw [hcut] at hT hok hlen
      have e3 : (pre ++ [x]).length = pre.length + 1 := by simp
      exact ih (pre ++ [x]) _ k hok (by omega) hlen (by omega) (by rw [e3, Int.pow_succ]; omega) (by rw [e3]; exact hT) (by omega)
theorem rtake_f {l : List Int} {k : Nat} (hok : okb l = true) (hl : l.length < 1000000) (hk : 22 ≤ k) : banksmanref01_Take.f k l = some (takeRes (takeR l 0 0)) := by
  unfold banksmanref01_Take.f
  exact rtake_l0 l [] 0 k hok (by simp) hl (by decide) (by decide) rfl (by simp; omega)
theorem rtext_f {l t : List Int} {k : Nat} (hl : l.length < 1000000) (hk : 6 ≤ k) : banksmanref01_Text.f k l t = some (textP l t) := by
  unfold banksmanref01_Text.f textP
  by_cases h : (t.length : Int) > 65535
  · rw [if_pos h, if_pos h]
  · have h5 := octBytes_len 5 t.length
    rw [if_neg h, if_neg h, rnumber_f (by omega) hk, Option.bind_some, numP_ok (by omega) (by omega)]
    simp only
    rw [if_pos (by simp; omega)]
theorem rtakeText_f {l : List Int} {k : Nat} (hok : okb l = true) (hl : l.length < 1000000) (hk : 22 ≤ k) : banksmanref01_TakeText.f k l = some (ttP l) := by
  unfold banksmanref01_TakeText.f ttP
  rw [rtake_f hok hl hk, Option.bind_some]
  cases h : takeR l 0 0 with
  | none => simp [takeRes]
  | some p =>
    obtain ⟨n, t⟩ := p
    obtain ⟨h0, h1, h2⟩ := takeR_some hok h
    have hlen := congrArg List.length h2
    rw [List.length_append] at hlen
    show (if (0 : Int) = 0 then (if n > 65535 then some (([] : List Int), ([] : List Int), (10 : Int)) else if n > (t.length : Int) then some ([], [], 10) else (some ([] : List Int)).bind fun y249 => if 0 ≤ n then (if n ≤ (t.length : Int) then ((some (t.take n.toNat : List Int)).bind fun y252 => (if y249.length + y252.length < 140737488355328 then ((some (([] : List Int) : List Int)).bind fun y260 => ((some (t.drop n.toNat : List Int)).bind fun y263 => (if y260.length + y263.length < 140737488355328 then (some ((y249 ++ y252), (y260 ++ y263), 0)) else (none)))) else (none))) else (none)) else (none)) else some ([], [], 10)) = some _
    rw [if_pos rfl]
    simp only
    by_cases c1 : n > 65535
    · rw [if_pos c1, if_pos c1]
    · rw [if_neg c1, if_neg c1]
      by_cases c2 : n > (t.length : Int)
      · rw [if_pos c2, if_pos c2]
      · rw [if_neg c2, if_neg c2]
        simp only [Option.bind_some, List.nil_append, List.length_nil]
        rw [if_pos h0, if_pos (by omega), if_pos (by simp; omega), if_pos (by simp; omega)]
theorem rsize_f {k : Nat} (hk : 6 ≤ k) (n : Int) : banksmanref01_Size.f k n = some ((numP [] n).1.length : Int) := by
  unfold banksmanref01_Size.f
  rw [rnumber_f (by simp) hk n, Option.bind_some]
end Go.Proofs.Ythfiochgkmggoaa.Pure
