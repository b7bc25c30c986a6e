/- Proved: the law RivalFree of banksmanlaw14 returns true for every input: one whose reads nobody hits, and whose writes nobody who committed while it ran wrote, may commit. No conditions. -/
import Derived.Test.YtpoaleejhdeclaaLem14
import Derived.Test.YtpoaleejhdeclaaPx63
namespace Go.Proofs.Ytpoaleejhdeclaa.Pure
open Go.RowKit Go.Proofs.Ytpoaleejhdeclaa.P Go.Proofs.YtpoaleejhdeclaaW.PrintWords Go.Proofs.YtpoaleejhdeclaaW.PrintLast
set_option linter.unusedVariables false
set_option linter.unusedSimpArgs false

def freeP (snap : Int) (rd : List S57) (wr : List S59) (p : S50) : Prop := snap < p.f1 → hitB rd p.f4 = false ∧ saB p.f4 wr = false
theorem free_judge {snap : Int} {rd : List S57} {wr : List S59} {l : List S50} (live : List S24) (h : ∀ p ∈ l, freeP snap rd wr p) : judgeB rd wr (meetB snap l) live = (false, 0) := by
  have hm : ∀ p ∈ meetB snap l, hitB rd p.f4 = false ∧ saB p.f4 wr = false := by
    intro p hp
    unfold meetB at hp
    rw [List.mem_filter] at hp
    exact h p hp.1 (of_decide_eq_true hp.2)
  unfold judgeB
  have h1 : (meetB snap l).any (badB rd wr) = false := by
    rw [List.any_eq_false]
    intro p hp
    have := hm p hp
    unfold badB
    simp [this.1, this.2]
  have h2 : ((meetB snap l).any fun p => hitB rd p.f4) = false := by
    rw [List.any_eq_false]
    intro p hp
    simp [(hm p hp).1]
  rw [h1, h2]
  rfl
theorem free_l0 (wr : List S59) (l : List S50) (live : List S24) (snap : Int) (rd : List S57) (hrd : rd.length ≤ 100) (hwr : wr.length ≤ 30) (hl : l.length ≤ 30) (ho : ∀ p ∈ l, few10 p.f3 = true ∧ few08 p.f4 = true ∧ p.f3.length ≤ 30) : ∀ (d i k : Nat) (b : Bool), i + d = l.length → d + 5000 ≤ k → (b = true → (∀ p ∈ l.drop i, freeP snap rd wr p) → judgeB rd wr (meetB snap l) live = (false, 0)) →
    banksmanlaw14_RivalFree.l0 k wr l live true b (i : Int) snap rd = some true := by
  have hok : ∀ p ∈ l, okPa p = true := fun p hp => okPa_few (ho p hp).1 (ho p hp).2.1
  intro d
  induction d with
  | zero =>
    intro i k b hi hk hb
    obtain ⟨k, rfl⟩ : ∃ m, k = m + 1 := ⟨k - 1, by omega⟩
    rw [banksmanlaw14_RivalFree.l0, if_neg (by omega), Judge_f snap rd wr l live (by omega) hok, Judge_f snap rd wr [] live (by simp) (by simp), Option.bind_some, Option.bind_some, if_pos rfl]
    have e2 : judgeB rd wr (meetB snap []) live = (false, 0) := rfl
    rw [e2]
    cases b with
    | false => rfl
    | true =>
      rw [hb rfl (by rw [List.drop_of_length_le (by omega)]; intro p hp; cases hp)]
      rfl
  | succ d ih =>
    intro i k b hi hk hb
    obtain ⟨k, rfl⟩ : ∃ m, k = m + 1 := ⟨k - 1, by omega⟩
    have hil : i < l.length := by omega
    have e2 : (i : Int) + 1 = ((i + 1 : Nat) : Int) := by omega
    have hm := ho l[i] (List.getElem_mem hil)
    have h4 := (few08_mem hm.2.1).1
    have b1 : rd.length * (l[i].f4.length + 2) ≤ 100 * 32 := Nat.mul_le_mul hrd (by omega)
    have b2 : l[i].f4.length * (wr.length + 2) ≤ 30 * 32 := Nat.mul_le_mul h4 (by omega)
    rw [banksmanlaw14_RivalFree.l0, if_pos (by omega), if_pos (by omega), rd50 hil, Hit_f rd l[i].f4 (by omega) (by omega) k (by omega), Option.bind_some, Same_f l[i].f4 wr (by omega) (by omega) k (by omega), Option.bind_some, w64 (by omega) (by omega), e2]
    have nf : banksmanlaw14_RivalFree.l0 k wr l live true false ((i + 1 : Nat) : Int) snap rd = some true := ih (i + 1) k false (by omega) (by omega) (fun h => by cases h)
    have go : freeP snap rd wr l[i] → banksmanlaw14_RivalFree.l0 k wr l live true b ((i + 1 : Nat) : Int) snap rd = some true := fun hf =>
      ih (i + 1) k b (by omega) (by omega) (fun h h2 => hb h (by
        intro p hp
        rw [List.drop_eq_getElem_cons hil, List.mem_cons] at hp
        rcases hp with rfl | hp
        · exact hf
        · exact h2 p hp))
    by_cases h : l[i].f1 > snap
    · rw [if_pos h]
      cases c1 : hitB rd l[i].f4 with
      | true => rw [if_pos rfl]; exact nf
      | false =>
        rw [if_neg (by simp)]
        cases c2 : saB l[i].f4 wr with
        | true => rw [if_pos rfl]; exact nf
        | false =>
          rw [if_neg (by simp)]
          exact go (fun _ => ⟨c1, c2⟩)
    · rw [if_neg h]
      exact go (fun h3 => absurd h3 h)
theorem RivalFree : banksmanlaw14_RivalFree.Pure := by
  intro snap rd wr l live _ _ _ _ _
  refine ⟨10000, ?_⟩
  unfold banksmanlaw14_RivalFree.f
  rw [banksmanlaw14_awake.settled, Option.bind_some, Few10_f rd _ (by omega), Option.bind_some]
  have e : ∀ b, banksmanlaw14_RivalFree.j0 10000 wr l live true b snap rd = if b = true then some true else banksmanlaw14_RivalFree.l0 9999 wr l live true true 0 snap rd := fun b => by rw [banksmanlaw14_RivalFree.j0]
  cases h1 : few10 rd with
  | false => rw [if_neg (by simp), e]; rfl
  | true =>
    rw [if_pos rfl, Few08_f wr _ (by omega), Option.bind_some]
    cases h2 : few08 wr with
    | false => rw [if_neg (by simp), e]; rfl
    | true =>
      rw [if_pos rfl, Few13_f l live _ (by omega), Option.bind_some, e]
      cases h3 : few13 l live with
      | false => rfl
      | true =>
        have a1 := few10_mem h1
        have a2 := few08_mem h2
        have a3 := few13_mem h3
        rw [if_neg (by simp)]
        exact free_l0 wr l live snap rd a1.1 a2.1 a3.1 a3.2.2.1 l.length 0 9999 true (by omega) (by omega) (fun _ h => free_judge live (by rw [List.drop_zero] at h; exact h))
end Go.Proofs.Ytpoaleejhdeclaa.Pure
