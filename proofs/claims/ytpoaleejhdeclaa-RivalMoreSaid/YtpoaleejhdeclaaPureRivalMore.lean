/- Proved: the law RivalMore of banksmanlaw14 returns true for every input: who may not commit may not with more who run, either. No conditions. -/
import Derived.Test.YtpoaleejhdeclaaLem14
import Derived.Test.YtpoaleejhdeclaaPx65
namespace Go.Proofs.Ytpoaleejhdeclaa.Pure
open Go.RowKit Go.Proofs.Ytpoaleejhdeclaa.P Go.Proofs.YtpoaleejhdeclaaW.PrintWords Go.Proofs.YtpoaleejhdeclaaW.PrintLast
set_option linter.unusedVariables false
set_option linter.unusedSimpArgs false

theorem more_judge (rd : List S57) (wr : List S59) (m : List S50) (live more : List S24) :
    (if (judgeB rd wr m live).2 = 0 then (if (judgeB rd wr m (live ++ more)).2 = 0 then some ((judgeB rd wr m live).1 == (judgeB rd wr m (live ++ more)).1) else some true) else (if (judgeB rd wr m live).1 = true then some false else (if (judgeB rd wr m (live ++ more)).2 = 0 then some false else some true))) = some true := by
  unfold judgeB
  rw [List.any_append]
  cases m.any (badB rd wr) <;> cases (m.any fun p => hitB rd p.f4) <;> cases (m.any fun p => hitB p.f3 wr) <;> cases (live.any fun v => hitB v.f1 wr) <;> cases (more.any fun v => hitB v.f1 wr) <;> rfl
theorem RivalMore : banksmanlaw14_RivalMore.Pure := by
  intro snap rd wr l live ms mr _ _ _ _ _ _ _
  refine ⟨10000, ?_⟩
  unfold banksmanlaw14_RivalMore.f
  rw [banksmanlaw14_awake.settled, Option.bind_some, Few10_f rd _ (by omega), Option.bind_some]
  have e1 : banksmanlaw14_RivalMore.j0 10000 wr l live true true snap rd ms mr = some true := by rw [banksmanlaw14_RivalMore.j0]; rfl
  cases h1 : few10 rd with
  | false => rw [if_neg (by simp), e1]
  | true =>
    rw [if_pos rfl, Few10_f mr _ (by omega), Option.bind_some]
    cases h0 : few10 mr with
    | false => rw [if_neg (by simp), e1]
    | true =>
      rw [if_pos rfl, Few08_f wr _ (by omega), Option.bind_some]
      cases h2 : few08 wr with
      | false => rw [if_neg (by simp), e1]
      | true =>
        rw [if_pos rfl, Few13_f l live _ (by omega), Option.bind_some]
        cases h3 : few13 l live with
        | false => exact e1
        | true =>
          have a3 := few13_mem h3
          have hok : ∀ p ∈ l, okPa p = true := fun p hp => okPa_few (a3.2.2.1 p hp).1 (a3.2.2.1 p hp).2.1
          show banksmanlaw14_RivalMore.j0 10000 wr l live true false snap rd ms mr = some true
          rw [banksmanlaw14_RivalMore.j0, if_neg (by simp), Judge_f snap rd wr l live (by omega) hok]
          simp only [Option.bind_some, List.nil_append, List.length_nil, List.length_cons, Nat.zero_add]
          rw [if_pos (by omega), if_pos (by omega), Judge_f snap rd wr l _ (by omega) hok, Option.bind_some, if_pos trivial]
          exact more_judge rd wr (meetB snap l) live _
end Go.Proofs.Ytpoaleejhdeclaa.Pure
