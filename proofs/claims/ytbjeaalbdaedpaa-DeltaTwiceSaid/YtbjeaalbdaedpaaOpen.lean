import Derived.Test.YtbjeaalbdaedpaaPx0
import Derived.WalkKit
import Derived.ProofKit
import Derived.OpenShut
import Derived.ShutString
import Derived.ChangeOld
import Derived.Below
import Derived.SizedLaws
import Derived.Deep.Slices
import Derived.ChangeSame
import Derived.WideShapes
namespace Go.Proofs.Ytbjeaalbdaedpaa.Open
open Go.ChangeShapes Go.WideShapes Go.ChangeAt Go.RowKit Go.Deep Go.Proofs.YtbjeaalbdaedpaaW.PrintWords
set_option linter.unusedVariables false
def Op {α : Type} (P : Program) (W : World) (d : Kd α) (t : TypeId) (good : α → Prop) : Prop :=
  ∀ {H : Type} (enc : TypeId × Value → H) (base : Nat) (spare : Nat → Bool) (held : Bool) (fuel : Nat) (cs : List Value) (x : DataW H × List MemPlace),
    DataW.trod enc P W base spare held fuel t cs = some x → ∃ v, d.K W v cs ∧ good v
section
variable {P : Program} {W : World}
theorem op_int {k : IntKind} {t : TypeId} (ht : P.underlying t = some (.int k)) : Op P W (Kd.int k) t (fun n => (Lit.int k n).wf = true) := by
  intro H enc base spare held fuel cs x h
  obtain ⟨n, rfl, _, hw⟩ := DataW.trod_int ht h
  exact ⟨n, rfl, hw⟩
theorem op_bool {t : TypeId} (ht : P.underlying t = some .bool) : Op P W Kd.bool t (fun _ => True) := by
  intro H enc base spare held fuel cs x h
  obtain ⟨n, rfl, _⟩ := DataW.trod_bool ht h
  exact ⟨n, rfl, trivial⟩
theorem op_slice {α : Type} {d : Kd α} {t e : TypeId} {good : α → Prop} (ht : P.underlying t = some (.slice e)) (hc : P.cellsOf e = d.sz) (ho : Op P W d e good) :
    Op P W (Kd.slice e d) t (fun xs => xs.length ≤ maxLen ∧ ∀ x ∈ xs, good x) := by
  intro H enc base spare held fuel cs x h
  rcases open_slice ht h with ⟨rfl, _⟩ | ⟨a, len, cap, m, n, D, Pl, rfl, hb, hl, hm, hmm, hx0, hel⟩
  · exact ⟨[], ⟨none, 0, rfl, Nat.le_refl _, Kd.C_nil d W⟩, Nat.zero_le _, fun x hx => by cases hx⟩
  · have hex : ∀ i, i < len → ∃ v cs', W.cells? base (a.add (i * P.cellsOf e)) (P.cellsOf e) = some cs' ∧ d.K W v cs' ∧ good v := by
      intro i hi
      obtain ⟨cs', h1, h2⟩ := hel i (by rw [hmm]; split <;> omega)
      obtain ⟨v, h3, h4⟩ := ho enc base spare held n cs' _ h2
      exact ⟨v, cs', h1, h3, h4⟩
    have hlist : ∃ xs : List α, xs.length = len ∧ ∀ i v, xs[i]? = some v → ∃ cs', W.cells? base (a.add (i * P.cellsOf e)) (P.cellsOf e) = some cs' ∧ d.K W v cs' ∧ good v := by
      clear hl hm hel h hx0 hmm
      induction len with
      | zero => exact ⟨[], rfl, fun i v h => by simp at h⟩
      | succ len ih =>
        obtain ⟨xs, h1, h2⟩ := ih (fun i hi => hex i (by omega))
        obtain ⟨v, hv⟩ := hex len (by omega)
        refine ⟨xs ++ [v], by simp [h1], fun i u hu => ?_⟩
        by_cases hi : i < xs.length
        · rw [List.getElem?_append_left hi] at hu
          exact h2 i u hu
        · rw [List.getElem?_append_right (by omega)] at hu
          have : i = xs.length := by
            by_cases hz : i - xs.length = 0
            · omega
            · have : ([v] : List α)[i - xs.length]? = none := by rw [List.getElem?_eq_none]; simp; omega
              rw [this] at hu; cases hu
          subst this
          simp at hu
          subst hu
          rw [h1]
          exact hv
    obtain ⟨xs, hx, hget⟩ := hlist
    subst hx
    have hml : maxLen = 9223372036854775807 := rfl
    refine ⟨xs, ⟨some a, cap, rfl, hl, rfl, by omega, fun _ => ⟨a, rfl, fun j p hp => ?_⟩⟩, by omega, fun v hv => ?_⟩
    · obtain ⟨c, h1, h2, _⟩ := hget j p hp
      obtain ⟨_, hlen, hcells⟩ := World.cells?_some h1
      refine ⟨c, d.K_len h2, h2, fun i u hu => ?_⟩
      have hi : i < P.cellsOf e := by
        rw [← hlen]
        exact (List.getElem?_eq_some_iff.1 hu).1
      have := hcells i hi
      rw [hu, Deep.add_add, hc] at this
      exact this
    · obtain ⟨i, hi, rfl⟩ := List.getElem_of_mem hv
      obtain ⟨_, _, _, h4⟩ := hget i xs[i] (List.getElem?_eq_getElem hi)
      exact h4
end
end Go.Proofs.Ytbjeaalbdaedpaa.Open
