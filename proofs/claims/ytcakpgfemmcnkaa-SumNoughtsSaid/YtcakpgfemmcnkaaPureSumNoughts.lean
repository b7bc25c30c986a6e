/- Proved: the law SumNoughts of banksmanlaw02 returns true for every input: bytes 0 ahead of a text do not change its sum, and behind it its y alone. No conditions. -/
import Derived.Test.YtcakpgfemmcnkaaLem02
namespace Go.Proofs.Ytcakpgfemmcnkaa.Pure
open Go.RowKit Go.Proofs.Ytcakpgfemmcnkaa.P Go.Proofs.YtcakpgfemmcnkaaW.PrintWords Go.Proofs.YtcakpgfemmcnkaaW.PrintLast
set_option linter.unusedVariables false

theorem zeros_pair (n : Nat) : sumPair (List.replicate n 0) = (0, 0) := by
  induction n with
  | zero => rfl
  | succ n ih => rw [List.replicate_succ', sumPair_snoc, ih]; rfl
theorem okb_zeros (n : Nat) : okb (List.replicate n 0) = true := by
  unfold okb
  rw [List.all_eq_true]
  intro x hx
  obtain ⟨_, rfl⟩ := List.mem_replicate.mp hx
  rfl
theorem SumNoughts : banksmanlaw02_SumNoughts.Pure := by
  intro l n _ hn hw h1
  have hb := okb_of hw
  have gn := wf_u8 h1
  unfold banksmanlaw02_SumNoughts.f
  rw [awake, Option.bind_some]
  by_cases h : (l.length : Int) > 300
  · rw [if_pos h]
  obtain ⟨m, rfl⟩ := Int.eq_ofNat_of_zero_le gn.1
  rw [if_neg h, w64 (x := (m : Int)) (by omega) (by omega), if_pos (by omega), if_pos (by omega)]
  simp only [Option.bind_some, Int.toNat_natCast, List.nil_append, List.length_replicate, List.length_nil]
  rw [if_pos (by omega), if_pos (by omega), sum_f (by rw [okb_app, okb_zeros, hb]; rfl), Option.bind_some, if_pos (by omega), if_pos (by omega), sum_f (by rw [okb_app, okb_zeros, hb]; rfl), Option.bind_some, sum_f hb, Option.bind_some, if_pos (by trivial)]
  have hbd := sumPair_bd l
  have e1 : val (List.replicate m 0 ++ l) = val l := by
    unfold val
    rw [sum_app, zeros_pair]
    simp only
    omega
  have e2 : val (l ++ List.replicate m 0) = ((sumPair l).2 + (m : Int) * (sumPair l).1) % 65535 * 65536 + (sumPair l).1 := by
    unfold val
    rw [sum_app, zeros_pair, List.length_replicate]
    simp only
    omega
  obtain ⟨v1, v2, v3, v4⟩ := val_parts l
  rw [if_pos e1, e2, Int.tmod_eq_emod_of_nonneg v3, Int.tdiv_eq_ediv_of_nonneg v3, v1, v2]
  have hp : 0 ≤ (m : Int) * (sumPair l).1 ∧ (m : Int) * (sumPair l).1 ≤ 255 * 65534 := by
    constructor
    · exact Int.mul_nonneg (by omega) hbd.1.1
    · exact Int.mul_le_mul gn.2 (by omega) hbd.1.1 (by omega)
  rw [Int.emod_eq_of_lt (a := (m : Int)) (by omega) (by omega)]
  generalize (m : Int) * (sumPair l).1 = z at *
  simp only [Option.some.injEq, beq_iff_eq]
  omega
end Go.Proofs.Ytcakpgfemmcnkaa.Pure
