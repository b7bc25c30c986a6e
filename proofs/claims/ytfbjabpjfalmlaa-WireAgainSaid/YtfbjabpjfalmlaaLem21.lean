/- Plain facts on layer 21: which operations may be, how they are written, and what is taken of bytes. -/
import Derived.Test.YtfbjabpjfalmlaaLemA21
import Derived.Test.YtfbjabpjfalmlaaPx1
import Derived.Test.YtfbjabpjfalmlaaPx1
import Derived.Test.YtfbjabpjfalmlaaPx1
import Derived.Test.YtfbjabpjfalmlaaPx37
import Derived.Test.YtfbjabpjfalmlaaPx41
import Derived.Test.YtfbjabpjfalmlaaPx44
namespace Go.Proofs.Ytfbjabpjfalmlaa.Pure
open Go.RowKit Go.Proofs.Ytfbjabpjfalmlaa.P Go.Proofs.YtfbjabpjfalmlaaW.PrintWords Go.Proofs.YtfbjabpjfalmlaaW.PrintLast
set_option linter.unusedVariables false
set_option linter.unusedSimpArgs false
def opOk (kd tb : Int) (k hi v : Nat) (o : Bool) (n : Int) : Bool := numOk kd n && P.kindOk kd tb && longOk k hi v o
def mayB (s kd tb : Int) (k hi : Nat) (o : Bool) (v : Nat) (n : Int) : Bool := decide (0 ≤ s) && decide (s ≤ 3) && decide (0 ≤ n) && decide (n ≤ 2147483647) && (if kd = 12 then decide (s = 0) && decide (tb = 0) && decide (k = 0) && decide (hi = 0) && decide (v = 0) && !o else opOk kd tb k hi v o n)
theorem wire_may_f (s kd tb : Int) (k hi : List Int) (o : Bool) (v : List Int) (n : Int) (hk : k.length < 1000000) (hh : hi.length < 1000000) (hv : v.length < 1000000) : wire_may.f s kd tb k hi o v n = some (mayB s kd tb k.length hi.length o v.length n) := by
  unfold wire_may.f mayB
  by_cases h1 : s < 0 ∨ 4 ≤ s ∨ n < 0 ∨ 2147483647 < n
  · rw [if_pos h1]
    congr 1
    symm
    rw [Bool.and_eq_false_iff]
    left
    rw [Bool.eq_false_iff]
    intro hc
    simp only [Bool.and_eq_true, decide_eq_true_eq] at hc
    omega
  · rw [if_neg h1]
    have e : (decide (0 ≤ s) && decide (s ≤ 3) && decide (0 ≤ n) && decide (n ≤ 2147483647)) = true := by simp only [Bool.and_eq_true, decide_eq_true_eq]; omega
    rw [e, Bool.true_and]
    by_cases h12 : kd = 12
    · rw [if_pos h12, if_pos h12]
      congr 1
      unfold bareOk
      have w1 : wrap64 (wrap64 ((k.length : Int) + (hi.length : Int)) + (v.length : Int)) = (k.length : Int) + hi.length + v.length := by rw [w64 (x := (k.length : Int) + hi.length) (by omega) (by omega), w64 (by omega) (by omega)]
      rw [w1, Bool.eq_iff_iff]
      simp only [Bool.and_eq_true, decide_eq_true_eq, beq_iff_eq]
      constructor
      · rintro ⟨⟨⟨a, b⟩, c⟩, d⟩; exact ⟨⟨⟨⟨⟨a, b⟩, by omega⟩, by omega⟩, by omega⟩, d⟩
      · rintro ⟨⟨⟨⟨⟨a, b⟩, c⟩, c2⟩, c3⟩, d⟩; exact ⟨⟨⟨a, b⟩, by omega⟩, d⟩
    · rw [if_neg h12, if_neg h12]
      unfold txn_Check.f opOk
      rw [Option.bind_some]
      generalize (numOk kd n && P.kindOk kd tb && longOk k.length hi.length v.length o) = q
      cases q <;> rfl
end Go.Proofs.Ytfbjabpjfalmlaa.Pure
