import Derived.Test.YtbjeaalbdaedpaaLem08b
import Derived.Test.YtbjeaalbdaedpaaPx92
namespace Go.Proofs.Ytbjeaalbdaedpaa.Pure
open Go.RowKit Go.Proofs.Ytbjeaalbdaedpaa.P Go.Proofs.YtbjeaalbdaedpaaW.PrintWords Go.Proofs.YtbjeaalbdaedpaaW.PrintLast
set_option linter.unusedVariables false
set_option linter.unusedSimpArgs false
theorem DeltaDoes : banksmanlaw08_DeltaDoes.Pure := by
  intro l m t key gone val a _ _ _ _ _ _
  refine ⟨2001, ?_⟩
  unfold banksmanlaw08_DeltaDoes.f banksmanlaw08_awake.f
  rw [Option.bind_some, Few08_f _ _ _ (by omega), Option.bind_some]
  cases hf : few08 l m
  · rw [if_neg (by simp), banksmanlaw08_DeltaDoes.j0, if_pos rfl]
  rw [if_pos rfl]
  by_cases h1 : (key.length : Int) > 100
  · rw [if_pos h1, banksmanlaw08_DeltaDoes.j0, if_pos rfl]
  rw [if_neg h1, banksmanlaw08_DeltaDoes.j0]
  by_cases h2 : (val.length : Int) > 100
  · rw [if_pos (by simpa using h2)]
  rw [if_neg (by simpa using h2)]
  have hs := few_Sm hf
  have hl := hs.1
  have hm := hs.2.1
  have P1 := Put_f (by omega : 30 ≤ 1000) hs ⟨t, key, gone, val⟩ (by simp only; omega) (by simp only; omega) (k := 2000) (by omega)
  have P2 := RPut_f (by omega : 30 ≤ 1000) hs ⟨t, key, gone, val⟩ (by simp only; omega) (by simp only; omega) (k := 2000) (by omega)
  dsimp only at P1 P2
  rw [P1, Option.bind_some, P2, Option.bind_some, Mark_f (by omega : 30 ≤ 1000) hs, Option.bind_some, RMark_f (by omega : 30 ≤ 1000) hs (by omega), Option.bind_some, Back_f (by omega : 30 ≤ 1000) hs, Option.bind_some, RBack_f (by omega : 30 ≤ 1000) hs _ (by omega), Option.bind_some]
  generalize hp : (if (checkD l m && mayB ⟨t, key, gone, val⟩) = false then (l, m, (1 : Int)) else if 20 ≤ l.length then (l, m, 80) else (l ++ [⟨t, key, gone, val⟩], m, 0)) = p
  generalize hq : (if checkD l m = false then (l, m, (1 : Int)) else if 4 ≤ m.length then (l, m, 80) else (l, m ++ [(l.length : Int)], 0)) = q
  generalize hr : (if checkD l m = false ∨ a < 0 ∨ (m.length : Int) ≤ a then (l, m, (1 : Int)) else (l.take (rd m a).toNat, m.take (a + 1).toNat, 0)) = r
  have hp1 : p.1.length ≤ 1000 ∧ p.2.1.length ≤ 1000 := by
    subst hp
    split
    · exact ⟨by simp only; omega, by simp only; omega⟩
    · split
      · exact ⟨by simp only; omega, by simp only; omega⟩
      · exact ⟨by simp only [List.length_append, List.length_singleton]; omega, by simp only; omega⟩
  have hq1 : q.1.length ≤ 1000 ∧ q.2.1.length ≤ 1000 := by
    subst hq
    split
    · exact ⟨by simp only; omega, by simp only; omega⟩
    · split
      · exact ⟨by simp only; omega, by simp only; omega⟩
      · exact ⟨by simp only; omega, by simp only [List.length_append, List.length_singleton]; omega⟩
  have hr1 : r.1.length ≤ 1000 ∧ r.2.1.length ≤ 1000 := by
    subst hr
    split
    · exact ⟨by simp only; omega, by simp only; omega⟩
    · exact ⟨by simp only [List.length_take]; omega, by simp only [List.length_take]; omega⟩
  rw [Same_self _ _ hp1.1 hp1.2 (by omega), Option.bind_some, if_pos rfl, Same_self _ _ hq1.1 hq1.2 (by omega), Option.bind_some, if_pos rfl, Same_self _ _ hr1.1 hr1.2 (by omega), Option.bind_some, if_pos rfl]
  unfold delta_Check.f
  rw [Option.bind_some, Check_f (by omega : 30 ≤ 1000) hs (by omega), Option.bind_some, if_pos (by simp), if_pos rfl, if_pos rfl, if_pos rfl]
  simp
end Go.Proofs.Ytbjeaalbdaedpaa.Pure
