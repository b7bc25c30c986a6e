/- Proved: the law OctetSizes of banksmanlaw01 returns true for every input: a number's bytes are as many as its size says, and fewer of them are no number. No conditions. -/
import Derived.Test.YthfiochgkmggoaaLem01b
import Derived.Test.YthfiochgkmggoaaPx24
namespace Go.Proofs.Ythfiochgkmggoaa.Pure
open Go.RowKit Go.Proofs.Ythfiochgkmggoaa.P Go.Proofs.YthfiochgkmggoaaW.PrintWords Go.Proofs.YthfiochgkmggoaaW.PrintLast
set_option linter.unusedVariables false
set_option linter.unusedSimpArgs false

theorem OctetSizes : banksmanlaw01_OctetSizes.Pure := by
  intro a b c ha hb hc
  have hc := wf_u8 hc
  unfold banksmanlaw01_OctetSizes.f
  rw [banksmanlaw01_awake.settled, Option.bind_some, number_f (by simp), Option.bind_some]
  simp only [size_f, Option.bind_some]
  by_cases h : a < 0 ∨ a > 2147483647
  · have e : numP [] a = ([], 10) := by unfold numP; rw [if_pos h]
    rw [e]
    simp
  · have e : numP [] a = (octBytes 5 a, 0) := by unfold numP; rw [if_neg h, List.nil_append]
    have l1 : 1 ≤ (octBytes 5 a).length := octBytes_pos
    have l5 := octBytes_len 5 a
    have hm : mx 1 ((octBytes 5 a).length : Int) = (octBytes 5 a).length := by unfold mx; split <;> omega
    have hw : wrap64 c = c := w64 (by omega) (by omega)
    have hr : Int.tmod c ((octBytes 5 a).length : Int) = c % ((octBytes 5 a).length : Int) := Int.tmod_eq_emod_of_nonneg hc.1
    have hr0 : 0 ≤ c % ((octBytes 5 a).length : Int) := Int.emod_nonneg _ (by omega)
    have hr1 : c % ((octBytes 5 a).length : Int) < ((octBytes 5 a).length : Int) := Int.emod_lt_of_pos _ (by omega)
    rw [e]
    simp only [if_true]
    rw [hm, hw, hr, if_neg (by omega), if_pos hr0, if_pos (by omega), take_f (okb_take (octBytes_ok 5 (by omega)) _) (by simp; omega), Option.bind_some, takeR_short (by omega) (by omega) (by omega)]
    simp only [takeRes, if_true]
    have k1 : ((octBytes 5 a).length : Int) ≥ 1 := by omega
    have k2 : ((octBytes 5 a).length : Int) ≤ 5 := by omega
    simp only [k1, k2, if_true]
    by_cases c1 : b < 0
    · rw [if_pos c1]
    · rw [if_neg c1]
      by_cases c2 : b > a
      · rw [if_pos c2]
      · have e2 : numP [] b = (octBytes 5 b, 0) := by unfold numP; rw [if_neg (by omega), List.nil_append]
        have := octBytes_mono 5 (n := b) (m := a) (by omega) (by omega)
        rw [if_neg c2, e2]
        simp
        omega
end Go.Proofs.Ythfiochgkmggoaa.Pure
