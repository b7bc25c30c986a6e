/- Proved: the law SumSwaps of banksmanlaw02 returns true for every input: a text of which two neighbours that are unlike stand the other way round has another sum. No conditions. -/
import Derived.Test.YtcakpgfemmcnkaaLem02
namespace Go.Proofs.Ytcakpgfemmcnkaa.Pure
open Go.RowKit Go.Proofs.Ytcakpgfemmcnkaa.P Go.Proofs.YtcakpgfemmcnkaaW.PrintWords Go.Proofs.YtcakpgfemmcnkaaW.PrintLast
set_option linter.unusedVariables false

theorem pair_two (u v : Int) : sumPair [u, v] = ((u + v) % 65535, (2 * u + v) % 65535) := by
  simp only [sumPair, sumStep, List.foldl_cons, List.foldl_nil]
  refine Prod.ext ?_ ?_ <;> simp only <;> omega
theorem swap_val (p s : List Int) (u v : Int) (hu : 0 ≤ u ∧ u ≤ 255) (hv : 0 ≤ v ∧ v ≤ 255) : (val (p ++ v :: u :: s) == val (p ++ u :: v :: s)) = (u == v) := by
  rw [Bool.eq_iff_iff]
  simp only [beq_iff_eq]
  constructor
  · intro h
    have e := congrArg Prod.snd (val_inj h)
    have a1 : v :: u :: s = [v, u] ++ s := rfl
    have a2 : u :: v :: s = [u, v] ++ s := rfl
    rw [a1, a2, sum_app p, sum_app p, sum_app [v, u] s, sum_app [u, v] s, pair_two, pair_two, show v + u = u + v by omega] at e
    simp only [List.length_append, List.length_cons, List.length_nil] at e
    generalize (s.length : Int) * ((u + v) % 65535) = z at e
    generalize ((0 + 1 + 1 + s.length : Nat) : Int) * (sumPair p).1 = y at e
    omega
  · intro h
    rw [h]
theorem split_at (l : List Int) (i : Nat) (h : i + 1 < l.length) : ∃ p s, p.length = i ∧ l = p ++ rd l (i : Int) :: rd l ((i + 1 : Nat) : Int) :: s := by
  have e1 : rd l (i : Int) = l[i] := by unfold rd; simp [List.getD_eq_getElem?_getD, show i < l.length by omega]
  have e2 : rd l ((i + 1 : Nat) : Int) = l[i + 1] := by unfold rd; rw [Int.toNat_natCast]; simp [List.getD_eq_getElem?_getD, h]
  refine ⟨l.take i, l.drop (i + 2), by simp; omega, ?_⟩
  rw [e1, e2]
  have d1 : l.drop i = l[i] :: l.drop (i + 1) := List.drop_eq_getElem_cons (by omega)
  have d2 : l.drop (i + 1) = l[i + 1] :: l.drop (i + 2) := List.drop_eq_getElem_cons h
  rw [← d2, ← d1, List.take_append_drop]
theorem SumSwaps : banksmanlaw02_SumSwaps.Pure := by
  intro l at_ _ hn hw ha
  have hb := okb_of hw
  have ga := wf_u16 ha
  refine ⟨1, ?_⟩
  unfold banksmanlaw02_SumSwaps.f
  rw [awake, Option.bind_some]
  by_cases h1 : (l.length : Int) < 2
  · rw [if_pos h1]; simp only [banksmanlaw02_SumSwaps.j0]; rfl
  rw [if_neg h1]
  by_cases h2 : (l.length : Int) > 300
  · simp only [banksmanlaw02_SumSwaps.j0]; rw [if_pos (by simpa using h2)]
  simp only [banksmanlaw02_SumSwaps.j0]
  rw [if_neg (by simpa using h2), w64 (x := (l.length : Int) - 1) (by omega) (by omega), if_neg (by omega), Option.bind_some, if_pos (by simp; omega), Option.bind_some]
  rw [w64 (x := at_) (by omega) (by omega), Int.tmod_eq_emod_of_nonneg (by omega)]
  obtain ⟨i, hi, hlt⟩ : ∃ i : Nat, at_ % ((l.length : Int) - 1) = (i : Int) ∧ i + 1 < l.length := by
    have h0 : 0 ≤ at_ % ((l.length : Int) - 1) := Int.emod_nonneg _ (by omega)
    have h1 : at_ % ((l.length : Int) - 1) < (l.length : Int) - 1 := Int.emod_lt_of_pos _ (by omega)
    exact ⟨(at_ % ((l.length : Int) - 1)).toNat, by omega, by omega⟩
  rw [hi, w64 (by omega) (by omega), show ((i : Int) + 1) = ((i + 1 : Nat) : Int) by omega, if_pos (by omega), if_pos (by omega), if_pos (by omega), if_pos (by simp; omega), if_pos (by omega), if_pos (by simp; omega), if_pos (by trivial)]
  have r1 := okb_rd hb i (by omega)
  have r2 := okb_rd hb (i + 1) hlt
  obtain ⟨p, s, hp, hl⟩ := split_at l i hlt
  generalize hu : rd l (i : Int) = u at *
  generalize hv : rd l ((i + 1 : Nat) : Int) = v at *
  have es : ((([] : List Int) ++ l).set ((i : Int)).toNat v).set (((i + 1 : Nat) : Int)).toNat u = p ++ v :: u :: s := by
    rw [Int.toNat_natCast, Int.toNat_natCast, List.nil_append, hl, ← hp]
    simp
  have ob : okb (p ++ v :: u :: s) = true := by
    have : okb (p ++ u :: v :: s) = true := by rw [← hl]; exact hb
    unfold okb at this ⊢
    simp only [List.all_append, List.all_cons] at this ⊢
    simp only [Bool.and_eq_true] at this ⊢
    exact ⟨this.1, this.2.2.1, this.2.1, this.2.2.2⟩
  rw [es, sum_f ob, Option.bind_some, sum_f hb, Option.bind_some]
  have key := swap_val p s u v r1 r2
  rw [← hl] at key
  rw [key]
  simp
end Go.Proofs.Ytcakpgfemmcnkaa.Pure
