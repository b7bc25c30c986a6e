/- Plain facts on layer 21: which operations may be, how they are written, and what is taken of bytes. -/
import Derived.Test.YtfbjabpjfalmlaaLemA21
import Derived.Test.YtfbjabpjfalmlaaPx1
import Derived.Test.YtfbjabpjfalmlaaPx1
import Derived.Test.YtfbjabpjfalmlaaPx1
import Derived.Test.YtfbjabpjfalmlaaPx37
import Derived.Test.YtfbjabpjfalmlaaPx41
import Derived.Test.YtfbjabpjfalmlaaPx44
namespace Go.Proofs.Ytfbjabpjfalmlaa.Pure
open Go.RowKit Go.Proofs.Ytfbjabpjfalmlaa.P Go.Proofs.YtfbjabpjfalmlaaW.PrintWords Go.Proofs.YtfbjabpjfalmlaaW.PrintLast
set_option linter.unusedVariables false
set_option linter.unusedSimpArgs false
theorem badN_eq (k n : Int) : badN k n = !numOk k n := by
  unfold badN numOk
  by_cases h8 : k = 8
  · subst h8
    by_cases h3 : n = 3
    · subst h3; decide
    · by_cases h5 : n = 5
      · subst h5; decide
      · simp [h3, h5]
  · by_cases h11 : k = 11
    · subst h11
      by_cases h0 : n = 0
      · subst h0; decide
      · by_cases h1 : n = 1
        · subst h1; decide
        · simp [h0, h1]
    · by_cases h7 : k = 7
      · subst h7
        by_cases h0 : n < 0
        · first | (simp [h0]; done) | (simp [h0]; omega)
        · by_cases h3 : 3 < n
          · first | (simp [h0, h3]; done) | (simp [h0, h3]; omega)
          · first | (simp [h0, h3]; done) | (simp [h0, h3]; omega)
      · simp [h8, h11, h7]
theorem badOp_eq (k t : Int) (n h v : Nat) (o : Bool) : badOp k t n h v o = !(P.kindOk k t && longOk n h v o) := by
  unfold badOp P.kindOk longOk
  have e1 : decide (1 ≤ k) = !decide (k < 1) := by rw [Bool.eq_iff_iff]; first | (simp; done) | (simp; omega)
  have e2 : decide (k ≤ 11) = !decide (11 < k) := by rw [Bool.eq_iff_iff]; simp
  have e3 : decide (0 ≤ t) = !decide (t < 0) := by rw [Bool.eq_iff_iff]; simp
  have e4 : decide (t < 4) = !decide (3 < t) := by rw [Bool.eq_iff_iff]; first | (simp; done) | (simp; omega)
  have e5 : decide (n ≤ 16) = !decide (16 < n) := by rw [Bool.eq_iff_iff]; simp
  have e6 : decide (h ≤ 16) = !decide (16 < h) := by rw [Bool.eq_iff_iff]; simp
  have e7 : decide (h = 0) = !decide (0 < h) := by rw [Bool.eq_iff_iff]; first | (simp; done) | (simp; omega)
  have e8 : decide (v ≤ 32) = !decide (32 < v) := by rw [Bool.eq_iff_iff]; simp
  rw [e1, e2, e3, e4, e5, e6, e7, e8]
  generalize decide (k < 1) = b1; generalize decide (11 < k) = b2; generalize decide (t < 0) = b3; generalize decide (3 < t) = b4
  generalize decide (16 < n) = b5; generalize decide (16 < h) = b6; generalize decide (0 < h) = b7; generalize decide (32 < v) = b8
  cases b1 <;> cases b2 <;> cases b3 <;> cases b4 <;> cases b5 <;> cases b6 <;> cases b7 <;> cases b8 <;> cases o <;> rfl
def opOk (kd tb : Int) (k hi v : Nat) (o : Bool) (n : Int) : Bool := numOk kd n && P.kindOk kd tb && longOk k hi v o
def mayB (s kd tb : Int) (k hi : Nat) (o : Bool) (v : Nat) (n : Int) : Bool := decide (0 ≤ s) && decide (s ≤ 3) && decide (0 ≤ n) && decide (n ≤ 2147483647) && (if kd = 12 then decide (s = 0) && decide (tb = 0) && decide (k = 0) && decide (hi = 0) && decide (v = 0) && !o else opOk kd tb k hi v o n)
theorem wire_may_f (s kd tb : Int) (k hi : List Int) (o : Bool) (v : List Int) (n : Int) (hk : k.length < 1000000) (hh : hi.length < 1000000) (hv : v.length < 1000000) : wire_may.f s kd tb k hi o v n = some (mayB s kd tb k.length hi.length o v.length n) := by
  unfold wire_may.f mayB
  by_cases h1 : s < 0 ∨ 4 ≤ s ∨ n < 0 ∨ 2147483647 < n
  · rw [if_pos h1]
    congr 1
    symm
    rw [Bool.and_eq_false_iff]
    left
    rw [Bool.eq_false_iff]
    intro hc
    simp only [Bool.and_eq_true, decide_eq_true_eq] at hc
    omega
  · rw [if_neg h1]
    have e : (decide (0 ≤ s) && decide (s ≤ 3) && decide (0 ≤ n) && decide (n ≤ 2147483647)) = true := by simp only [Bool.and_eq_true, decide_eq_true_eq]; omega
    rw [e, Bool.true_and]
    by_cases h12 : kd = 12
    · rw [if_pos h12, if_pos h12]
      congr 1
      unfold bareOk
      have w1 : wrap64 (wrap64 ((k.length : Int) + (hi.length : Int)) + (v.length : Int)) = (k.length : Int) + hi.length + v.length := by rw [w64 (x := (k.length : Int) + hi.length) (by omega) (by omega), w64 (by omega) (by omega)]
      rw [w1, Bool.eq_iff_iff]
      simp only [Bool.and_eq_true, decide_eq_true_eq, beq_iff_eq]
      constructor
      · rintro ⟨⟨⟨a, b⟩, c⟩, d⟩; exact ⟨⟨⟨⟨⟨a, b⟩, by omega⟩, by omega⟩, by omega⟩, d⟩
      · rintro ⟨⟨⟨⟨⟨a, b⟩, c⟩, c2⟩, c3⟩, d⟩; exact ⟨⟨⟨a, b⟩, by omega⟩, d⟩
    · rw [if_neg h12, if_neg h12]
      unfold txn_Check.f opOk
      rw [Option.bind_some]
      generalize (numOk kd n && P.kindOk kd tb && longOk k.length hi.length v.length o) = q
      cases q <;> rfl
theorem rmay_f {j : Nat} (s kd tb : Int) (k hi : List Int) (o : Bool) (v : List Int) (n : Int) : banksmanref21_May.f (j + 1) s kd tb k hi o v n = some (mayB s kd tb k.length hi.length o v.length n) := by
  have h0 : ∀ b, banksmanref21_May.j0 (j + 1) s b kd tb k hi o v n = some (!b && (if kd = 12 then decide (s = 0) && decide (tb = 0) && decide (k.length = 0) && decide (hi.length = 0) && decide (v.length = 0) && !o else opOk kd tb k.length hi.length v.length o n)) := by
    intro b
    rw [banksmanref21_May.j0]
    cases b with
    | true => rfl
    | false =>
      rw [if_neg (by decide), Bool.not_false, Bool.true_and]
      by_cases h12 : kd = 12
      · rw [if_pos h12, if_pos h12]
        by_cases a : s = 0
        · rw [if_pos a, decide_eq_true a, Bool.true_and]
          by_cases b : tb = 0
          · rw [if_pos b, decide_eq_true b, Bool.true_and]
            by_cases c : k.length = 0
            · rw [if_pos (by omega), decide_eq_true c, Bool.true_and]
              by_cases d : hi.length = 0
              · rw [if_pos (by omega), decide_eq_true d, Bool.true_and]
                cases o with
                | true => rw [if_pos rfl]; simp
                | false =>
                  rw [if_neg (by decide)]
                  congr 1
                  rw [Bool.eq_iff_iff]
                  simp
              · rw [if_neg (by omega), decide_eq_false d]; rfl
            · rw [if_neg (by omega), decide_eq_false c]; rfl
          · rw [if_neg b, decide_eq_false b]; rfl
        · rw [if_neg a, decide_eq_false a]; rfl
      · rw [if_neg h12, if_neg h12]
        unfold banksmanref15_Check.f opOk
        rw [Option.bind_some, badOp_eq, badN_eq]
        generalize numOk kd n = b1
        generalize P.kindOk kd tb = b2
        generalize longOk k.length hi.length v.length o = b3
        cases b1 <;> cases b2 <;> cases b3 <;> rfl
  unfold banksmanref21_May.f mayB
  rw [h0, h0]
  by_cases a : s < 0
  · rw [if_pos a, decide_eq_false (by omega : ¬ 0 ≤ s)]; rfl
  · rw [if_neg a, decide_eq_true (by omega : 0 ≤ s), Bool.true_and]
    by_cases b : s > 3
    · rw [if_pos b, decide_eq_false (by omega : ¬ s ≤ 3)]; rfl
    · rw [if_neg b, decide_eq_true (by omega : s ≤ 3), Bool.true_and]
      by_cases c : n < 0
      · rw [if_pos c, decide_eq_false (by omega : ¬ 0 ≤ n)]; rfl
      · rw [if_neg c, decide_eq_true (by omega : 0 ≤ n), Bool.true_and]
        have e : decide (n ≥ 2147483648) = !decide (n ≤ 2147483647) := by rw [Bool.eq_iff_iff]; first | (simp; done) | (simp; omega)
        rw [e, Bool.not_not]
end Go.Proofs.Ytfbjabpjfalmlaa.Pure
