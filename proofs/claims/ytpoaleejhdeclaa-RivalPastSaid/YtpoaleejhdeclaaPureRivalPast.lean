/- Proved: the law RivalPast of banksmanlaw14 returns true for every input: who committed at, or ahead of, a snapshot does not matter, nor in which order the others stand. No conditions. -/
import Derived.Test.YtpoaleejhdeclaaLem14
import Derived.Test.YtpoaleejhdeclaaPx66
namespace Go.Proofs.Ytpoaleejhdeclaa.Pure
open Go.RowKit Go.Proofs.Ytpoaleejhdeclaa.P Go.Proofs.YtpoaleejhdeclaaW.PrintWords Go.Proofs.YtpoaleejhdeclaaW.PrintLast
set_option linter.unusedVariables false
set_option linter.unusedSimpArgs false

theorem meet_meet (snap : Int) (l : List S50) : meetB snap (meetB snap l) = meetB snap l := by
  unfold meetB; rw [List.filter_filter]; simp
theorem meet_mem {snap : Int} {l : List S50} {p : S50} (h : p ∈ meetB snap l) : p ∈ l ∧ snap < p.f1 := by
  unfold meetB at h; rw [List.mem_filter] at h; exact ⟨h.1, of_decide_eq_true h.2⟩
theorem judge_turned (rd : List S57) (wr : List S59) (snap : Int) (l : List S50) (live : List S24) : judgeB rd wr (meetB snap l.reverse) live = judgeB rd wr (meetB snap l) live := by
  unfold judgeB meetB
  rw [List.filter_reverse, List.any_reverse, List.any_reverse, List.any_reverse]
theorem past_l1 (m : List S50) (snap : Int) (rd : List S57) (hm : m.length ≤ 30) (h : ∀ p ∈ m, snap < p.f1) (a : Bool) (e : Int) : ∀ (d i k : Nat), i + d = m.length → d + 1 ≤ k →
    banksmanlaw14_RivalPast.l1 k true a e m a e a e (i : Int) snap rd = some true := by
  intro d
  induction d with
  | zero =>
    intro i k hi hk
    obtain ⟨k, rfl⟩ : ∃ m, k = m + 1 := ⟨k - 1, by omega⟩
    rw [banksmanlaw14_RivalPast.l1, if_neg (by omega)]
    simp
  | succ d ih =>
    intro i k hi hk
    obtain ⟨k, rfl⟩ : ∃ m, k = m + 1 := ⟨k - 1, by omega⟩
    have hil : i < m.length := by omega
    have e2 : (i : Int) + 1 = ((i + 1 : Nat) : Int) := by omega
    have := h m[i] (List.getElem_mem hil)
    rw [banksmanlaw14_RivalPast.l1, if_pos (by omega), if_pos (by omega), rd50 hil, if_neg (by omega), w64 (by omega) (by omega), e2]
    exact ih (i + 1) k (by omega) (by omega)
theorem past_l0 (wr : List S59) (l : List S50) (live : List S24) (snap : Int) (rd : List S57) (hl : l.length ≤ 30) (hok : ∀ p ∈ l, okPa p = true) (a : Bool) (e : Int) (he : judgeB rd wr (meetB snap l) live = (a, e)) : ∀ (n k : Nat) (acc : List S50), n ≤ l.length → acc = (l.drop n).reverse → n + 100 ≤ k →
    banksmanlaw14_RivalPast.l0 k wr l live true a e (meetB snap l) a e acc ((n : Int) - 1) snap rd = some true := by
  intro n
  induction n with
  | zero =>
    intro k acc hn ha hk
    obtain ⟨k, rfl⟩ : ∃ m, k = m + 1 := ⟨k - 1, by omega⟩
    rw [List.drop_zero] at ha
    subst ha
    rw [banksmanlaw14_RivalPast.l0, if_neg (by omega), Judge_f snap rd wr l.reverse live (by rw [List.length_reverse]; omega) (fun p hp => hok p (List.mem_reverse.mp hp)), Option.bind_some, judge_turned, he]
    have hm : (meetB snap l).length ≤ 30 := Nat.le_trans (List.length_filter_le _ _) hl
    exact past_l1 (meetB snap l) snap rd hm (fun p hp => (meet_mem hp).2) a e (meetB snap l).length 0 k (by omega) (by omega)
  | succ n ih =>
    intro k acc hn ha hk
    obtain ⟨k, rfl⟩ : ∃ m, k = m + 1 := ⟨k - 1, by omega⟩
    have hnl : n < l.length := by omega
    have hal : acc.length ≤ 30 := by rw [ha, List.length_reverse, List.length_drop]; omega
    have e2 : (((n + 1 : Nat) : Int) - 1) = (n : Int) := by omega
    rw [e2, banksmanlaw14_RivalPast.l0, if_pos (by omega), if_pos (by omega), if_pos (by omega), if_pos (by omega), rd50 hnl, w64 (by omega) (by omega)]
    exact ih k _ (by omega) (by rw [ha, List.drop_eq_getElem_cons hnl, List.reverse_cons]) (by omega)
theorem RivalPast : banksmanlaw14_RivalPast.Pure := by
  intro snap rd wr l live _ _ _ _ _
  refine ⟨10000, ?_⟩
  unfold banksmanlaw14_RivalPast.f
  rw [banksmanlaw14_awake.settled, Option.bind_some, Few10_f rd _ (by omega), Option.bind_some]
  have e1 : banksmanlaw14_RivalPast.j0 10000 wr l live true true snap rd = some true := by rw [banksmanlaw14_RivalPast.j0]; rfl
  cases h1 : few10 rd with
  | false => rw [if_neg (by simp), e1]
  | true =>
    rw [if_pos rfl, Few08_f wr _ (by omega), Option.bind_some]
    cases h2 : few08 wr with
    | false => rw [if_neg (by simp), e1]
    | true =>
      rw [if_pos rfl, Few13_f l live _ (by omega), Option.bind_some]
      cases h3 : few13 l live with
      | false => exact e1
      | true =>
        have a3 := few13_mem h3
        have hok : ∀ p ∈ l, okPa p = true := fun p hp => okPa_few (a3.2.2.1 p hp).1 (a3.2.2.1 p hp).2.1
        have hm : (meetB snap l).length ≤ l.length := List.length_filter_le _ _
        show banksmanlaw14_RivalPast.j0 10000 wr l live true false snap rd = some true
        rw [banksmanlaw14_RivalPast.j0, if_neg (by simp), Judge_f snap rd wr l live (by omega) hok, Option.bind_some, Meets_f snap l (by omega) hok, Option.bind_some, Judge_f snap rd wr (meetB snap l) live (by omega) (fun p hp => hok p (meet_mem hp).1), Option.bind_some, meet_meet, w64 (by omega) (by omega)]
        exact past_l0 wr l live snap rd a3.1 hok _ _ rfl l.length _ [] (by omega) (by simp) (by omega)
end Go.Proofs.Ytpoaleejhdeclaa.Pure
