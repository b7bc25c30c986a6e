/- Proved: the law SumByte of banksmanlaw02 returns true for every input: a text of which one byte is another one has another sum. No conditions. -/
import Derived.Test.YtcakpgfemmcnkaaLem02
namespace Go.Proofs.Ytcakpgfemmcnkaa.Pure
open Go.RowKit Go.Proofs.Ytcakpgfemmcnkaa.P Go.Proofs.YtcakpgfemmcnkaaW.PrintWords Go.Proofs.YtcakpgfemmcnkaaW.PrintLast
set_option linter.unusedVariables false

theorem sum_set (l : List Int) (v : Int) : ∀ i, i < l.length → (l.set i v).sum = l.sum - rd l (i : Int) + v := by
  induction l with
  | nil => intro i h; simp at h
  | cons b l ih =>
    intro i h
    cases i with
    | zero => simp [rd]; omega
    | succ i =>
      have := ih i (by simpa using h)
      have e : rd (b :: l) ((i + 1 : Nat) : Int) = rd l (i : Int) := by simp [rd]
      rw [e, List.set_cons_succ, List.sum_cons, List.sum_cons, this]
      omega
theorem set_self (l : List Int) (i : Nat) (h : i < l.length) : l.set i (rd l (i : Int)) = l := by
  have e : rd l (i : Int) = l[i] := by unfold rd; simp [List.getD_eq_getElem?_getD, h]
  rw [e, List.set_getElem_self]
theorem okb_set {l : List Int} (h : okb l = true) {v : Int} (hv : 0 ≤ v ∧ v ≤ 255) (i : Nat) : okb (l.set i v) = true := by
  unfold okb
  rw [List.all_eq_true]
  intro x hx
  rcases List.mem_or_eq_of_mem_set hx with hx | rfl
  · have := okb_mem h hx
    simp; omega
  · simp; omega
theorem SumByte : banksmanlaw02_SumByte.Pure := by
  intro l at_ v _ hn hw ha hv
  have hb := okb_of hw
  have ga := wf_u16 ha
  have gv := wf_u8 hv
  refine ⟨1, ?_⟩
  unfold banksmanlaw02_SumByte.f
  rw [awake, Option.bind_some]
  by_cases h1 : (l.length : Int) > 300
  · rw [if_pos h1]; simp only [banksmanlaw02_SumByte.j0]; rfl
  rw [if_neg h1]
  by_cases h2 : (l.length : Int) = 0
  · simp only [banksmanlaw02_SumByte.j0]; rw [if_pos (by simpa using h2)]
  simp only [banksmanlaw02_SumByte.j0]
  rw [if_neg (by simpa using h2), if_neg h2, Option.bind_some, if_pos (by simp; omega), Option.bind_some]
  rw [w64 (x := at_) (by omega) (by omega), Int.tmod_eq_emod_of_nonneg (by omega)]
  obtain ⟨i, hi, hlt⟩ : ∃ i : Nat, at_ % (l.length : Int) = (i : Int) ∧ i < l.length := by
    have h0 : 0 ≤ at_ % (l.length : Int) := Int.emod_nonneg _ h2
    have h1 : at_ % (l.length : Int) < l.length := Int.emod_lt_of_pos _ (by omega)
    exact ⟨(at_ % (l.length : Int)).toNat, by omega, by omega⟩
  rw [hi, if_pos (by omega), if_pos (by simp; omega), if_pos (by trivial), sum_f hb, Option.bind_some, Int.toNat_natCast]
  simp only [List.nil_append]
  rw [sum_f (okb_set hb gv i), Option.bind_some, if_pos (by omega)]
  have hr := okb_rd hb i hlt
  have key : (val l == val (l.set i v)) = (rd l (i : Int) == v) := by
    rw [Bool.eq_iff_iff]
    simp only [beq_iff_eq]
    constructor
    · intro h
      have e := congrArg Prod.fst (val_inj h)
      rw [fst_sum, fst_sum, sum_set l v i hlt] at e
      omega
    · intro h
      rw [← h, set_self l i hlt]
  rw [key]
  simp
end Go.Proofs.Ytcakpgfemmcnkaa.Pure
