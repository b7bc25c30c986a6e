import Derived.Test.YtficgggfplejpaaLemSame03
namespace Go.Proofs.Ytficgggfplejpaa.Pure
open Go.RowKit Go.Proofs.Ytficgggfplejpaa.P Go.Proofs.YtficgggfplejpaaW.PrintWords Go.Proofs.YtficgggfplejpaaW.PrintLast
set_option linter.unusedVariables false
set_option linter.unusedSimpArgs false

theorem rdL (pre suf : List (List Int)) (x : List Int) : rd_L1 (pre ++ x :: suf) (pre.length : Int) = x := by
  unfold rd_L1
  simp [List.getD_eq_getElem?_getD]
def Few (l : List (List Int)) : Prop := ∀ t ∈ l, t.length ≤ 300 ∧ okb t = true
theorem Few.fr {l : List (List Int)} (h : Few l) : FrL l := fun t ht => ⟨by have := (h t ht).1; omega, (h t ht).2⟩
theorem few_len : ∀ {l : List (List Int)}, Few l → (encF l).length ≤ 309 * l.length := by
  intro l
  induction l with
  | nil => intro _; simp [encF]
  | cons t l ih =>
    intro h
    have := ih (fun x hx => h x (by simp [hx]))
    have h1 := (h t (by simp)).1
    have h2 := frameP_bd t
    rw [encF, List.length_append, List.length_cons]
    omega
theorem few_snoc {l : List (List Int)} {t : List Int} (h : Few l) (h1 : t.length ≤ 300) (h2 : okb t = true) : Few (l ++ [t]) := by
  intro x hx
  rcases List.mem_append.mp hx with hx | hx
  · exact h x hx
  · have e : x = t := by simpa using hx
    subst e
    exact ⟨h1, h2⟩
end Go.Proofs.Ytficgggfplejpaa.Pure
