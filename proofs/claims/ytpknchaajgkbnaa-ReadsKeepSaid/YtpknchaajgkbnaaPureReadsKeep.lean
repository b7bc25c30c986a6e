/- Proved: the law ReadsKeep of banksmanlaw13 returns true for every input: of those who committed just those are kept that committed behind a snapshot of one who runs, in their order, and more who run keep no fewer. No conditions. -/
import Derived.Test.YtpknchaajgkbnaaLem13
import Derived.Test.YtpknchaajgkbnaaPx58
namespace Go.Proofs.Ytpknchaajgkbnaa.Pure
open Go.RowKit Go.Proofs.Ytpknchaajgkbnaa.P Go.Proofs.YtpknchaajgkbnaaW.PrintWords Go.Proofs.YtpknchaajgkbnaaW.PrintLast
set_option linter.unusedVariables false
set_option linter.unusedSimpArgs false
theorem Keep_f (l : List S34) (v : List S29) (hl : l.length ≤ 100) (h : ∀ p ∈ l, okPa p = true) : reads_Keep.f l v = some (l.filter (metB v)) := by
  unfold reads_Keep.f
  rw [if_pos (by rw [decide_eq_true (by omega), Bool.true_and]; exact List.all_eq_true.mpr h)]
theorem cnt_all (k : Nat) (hk : 101 ≤ k) (v : List S29) (a : List S34) (h3 : ∀ x ∈ a, x.f3.length ≤ 100 ∧ x.f4.length ≤ 100) (hm : ∀ x ∈ a, metB v x = true) : ∀ (l : List S34) (m : Nat), m ≤ a.length → a.drop m = l.filter (metB v) → cntK k a l m = some a.length
  | [], m, hle, e => by
    have : a.length - m = 0 := by rw [← List.length_drop, e]; rfl
    rw [cntK]
    congr 1
    omega
  | p :: ps, m, hle, e => by
    rw [cntK]
    by_cases hp : metB v p = true
    · rw [List.filter_cons_of_pos hp] at e
      have hlt : m < a.length := by
        have : (a.drop m).length = (p :: ps.filter (metB v)).length := by rw [e]
        rw [List.length_drop, List.length_cons] at this
        omega
      rw [List.drop_eq_getElem_cons hlt] at e
      injection e with e1 e2
      rw [if_pos hlt, rd34 hlt]
      obtain ⟨b, hb, he, _⟩ := One_def a[m] p (h3 _ (List.getElem_mem hlt)).1 (h3 _ (List.getElem_mem hlt)).2 k hk
      obtain rfl := he e1
      rw [show oneP k a[m] p = oneF k a[m] p from rfl, hb, Option.bind_some, if_pos rfl]
      exact cnt_all k hk v a h3 hm ps (m + 1) (by omega) e2
    · rw [List.filter_cons_of_neg hp] at e
      have ih := cnt_all k hk v a h3 hm ps m hle e
      by_cases hlt : m < a.length
      · rw [if_pos hlt, rd34 hlt]
        obtain ⟨b, hb, _, hn⟩ := One_def a[m] p (h3 _ (List.getElem_mem hlt)).1 (h3 _ (List.getElem_mem hlt)).2 k hk
        obtain rfl := hn (fun h => hp (by
          have := hm _ (List.getElem_mem hlt)
          unfold metB at this ⊢
          rw [← h]
          exact this))
        rw [show oneP k a[m] p = oneF k a[m] p from rfl, hb, Option.bind_some, if_neg (by decide)]
        exact ih
      · rw [if_neg hlt]
        exact ih
theorem filter_le {α : Type} (p q : α → Bool) (h : ∀ x, p x = true → q x = true) : ∀ l : List α, (l.filter p).length ≤ (l.filter q).length
  | [] => Nat.le_refl _
  | x :: l => by
    have ih := filter_le p q h l
    by_cases hp : p x = true
    · rw [List.filter_cons_of_pos hp, List.filter_cons_of_pos (h x hp)]
      simp only [List.length_cons]; omega
    · rw [List.filter_cons_of_neg hp]
      by_cases hq : q x = true
      · rw [List.filter_cons_of_pos hq]
        simp only [List.length_cons]; omega
      · rw [List.filter_cons_of_neg hq]
        exact ih
theorem ReadsKeep : banksmanlaw13_ReadsKeep.Pure := by
  intro l0 l1 a2 _ _ _
  refine ⟨500, ?_⟩
  unfold banksmanlaw13_ReadsKeep.f
  rw [Few13_f l0 l1 500 (by omega), Option.bind_some]
  by_cases hf : few13 l0 l1 = true
  case neg => rw [if_pos (by simpa using hf)]
  rw [if_neg (by simp [hf])]
  obtain ⟨hl, hv, hp, _⟩ := few13_mem hf
  have hok : ∀ p ∈ l0, okPa p = true := fun p h => okPa_few (hp p h).1 (hp p h).2.1
  have hsz : ∀ p ∈ l0, p.f3.length ≤ 100 ∧ p.f4.length ≤ 100 := fun p h => ⟨(few10_mem (hp p h).1).1, by have := (few08_mem (hp p h).2.1).1; omega⟩
  have hsub : ∀ (v : List S29), ∀ p ∈ l0.filter (metB v), p ∈ l0 := fun v p h => (List.mem_filter.1 h).1
  have hlen : ∀ v, (l0.filter (metB v)).length ≤ 100 := fun v => Nat.le_trans (List.length_filter_le _ _) (by omega)
  rw [Keep_f l0 l1 (by omega) hok, Option.bind_some, Keep_f l0 _ (by omega) hok, Option.bind_some, Keep_f (l0.filter (metB l1)) l1 (hlen _) (fun p h => hok p (hsub _ p h)), Option.bind_some, List.filter_filter]
  simp only [Bool.and_self]
  rw [All_refl _ (hlen _) (fun p h => hsz p (hsub _ p h)) 500 (by omega), Option.bind_some, Keep_f l0 _ (by omega) hok, Option.bind_some,
    cnt_all 500 (by omega) l1 _ (fun p h => hsz p (hsub _ p h)) (fun p h => (List.mem_filter.1 h).2) l0 0 (Nat.zero_le _) (by rw [List.drop_zero]), Option.bind_some]
  rw [if_pos ?_]
  refine ⟨rfl, rfl, filter_le _ _ (fun x h => ?_) _, filter_le _ _ (fun x h => ?_) _, fun x h => ?_, by omega⟩
  · unfold metB at h ⊢; rw [List.any_append, h]; rfl
  · unfold metB at h ⊢; rw [List.any_append, h, Bool.or_true]
  · have := (List.mem_filter.1 h).2
    unfold metB at this
    simp at this
    omega
end Go.Proofs.Ytpknchaajgkbnaa.Pure
