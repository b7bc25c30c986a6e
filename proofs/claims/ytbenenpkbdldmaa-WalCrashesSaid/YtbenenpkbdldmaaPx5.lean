-- Written by wip/gprint.py, a program of this session over the kit's print; Lean checks it.
import Derived.Test.YtbenenpkbdldmaaPx0
import Derived.LoopIn
import Derived.LoopNIn
import Derived.Maps.AppendAt
import Derived.OwnWalkIn
import Derived.RangeFuncBound
import Derived.RangeFuncBox
import Derived.RangeFuncCalls
import Derived.RangeFuncLeaves
import Derived.RangeFuncNested
import Derived.TacticsInMore
namespace Go.Proofs.Ytbenenpkbdldmaa.P
open Go.RowKit Go.Proofs.YtbenenpkbdldmaaW.PrintWords Go.Proofs.YtbenenpkbdldmaaW.PrintLast Go.Proofs.YtbenenpkbdldmaaW.PrintMore
attribute [local go_sem] max2_int min2_int max_two min_two max_three min_three max_four min_four   -- for this text's walks alone
set_option linter.unusedVariables false
set_option linter.unusedSimpArgs false

/-GIVEN 04range-/
/-- A range over a function whose rounds never leave early, where the function may write cells of its own between two rounds: the invariant I is told of the values that have come and of a ghost m that only the function changes. -/
theorem range_cells {F : Fence} {n : Nat} {P : Program} {α β : Type} {g : Operand} {ps : Array Tmp} {assign body : Code} {Q : Exit → Act → World → Prop} {a : Act} {w : World}
    (hro : F.round = none) (h1 : 1 ≤ n) {gf : Nat} {lb : Array Value} (hg : a.eval g = .func (.func gf) #[] lb) (hFg : F.fn gf) (eg : ∀ args w, (callFunc gf args).run P w = .ok (.enter gf args) w)
    (encs : α → Array Value) (hps : ∀ x, (encs x).size = ps.size) (S : List α → Prop) (N : Nat) (I : List α → β → World → Prop)
    (hIb : ∀ pre m W l o o', w.heap.size ≤ l → W.heap[l]? = some o → o.isCells = false → I pre m W → I pre m (W.putObj l o'))
    (m0 : β) (h0 : ∀ r : Loop, I [] m0 ((w.alloc (.deferred (some []))).alloc (.loop r))) (a₁ : α → Act)
    (hassign : ∀ (l : Nat) (x : α) (W : World) (K : Act → World → Prop), K (a₁ x) W →
      assign.wpIn (F.inRound l) (n - 1 - 1) P (Exit.then K (fun _ _ _ => False)) { tmps := (ps.zip (encs x)).foldl (fun t (p, v) => t.setIfInBounds p v) a.tmps, defers := [] } W)
    (hbody : ∀ (l : Nat) (pre : List α) (m : β) (x : α) (W : World), I pre m W → pre.length < N → body.wpIn (F.inRound l) (n - 1 - 1) P (fun e _ W' => e = .normal ∧ KeepsOthers W W' ∧ I (pre ++ [x]) m W') (a₁ x) W)
    (hit : ∀ (l : Nat) (J : List α → β → World → Prop) (W : World), (∀ pre m W, J pre m W → I pre m W) → (∀ pre pre' m m' W W', J pre m W → KeepsOthers W W' → I pre' m' W' → J pre' m' W') →
      (∀ pre m x W1, J pre m W1 → pre.length < N → YieldAt F (n - 1 - 1) P l (encs x) W1 fun e W' => e = .returned (.bool true) ∧ J (pre ++ [x]) m W') → J [] m0 W →
      CallsIn F (n - 1) P gf (#[.func (.yield l) #[] #[]] ++ lb) W fun e W' => (∃ v, e = .returned v) ∧ ∃ xs m, S xs ∧ J xs m W')
    (hdone : ∀ (D : Nat) (xs : List α) (m : β) (W : World), w.heap.size ≤ D → S xs → I xs m W → W.heap[D]? = some (.deferred (some [])) → Q .normal { a with defers := { target := .collected D, args := #[] } :: a.defers } W) :
    (Code.rangeFunc g ps assign body).wpIn F n P Q a w := by
  refine wpIn_rangeFunc fun fn hfn => ?_
  rw [hro]
  let R : LoopState → Option Code → Loop := fun st pe => { state := st, pending := pe, fn := fn, tmps := a.tmps, params := ps, assign := assign, body := body, defers := w.heap.size }
  let W1 := (w.alloc (.deferred (some []))).alloc (.loop (R .ready none))
  have hL1 : W1.heap[w.heap.size + 1]? = some (.loop (R .ready none)) := by
    have := World.alloc_heap_new (w.alloc (.deferred (some []))) (.loop (R .ready none)); rwa [World.size_alloc] at this
  have hK1 : W1.heap[w.heap.size]? = some (.deferred (some [])) := (Below.heap_alloc _ _ _ (by simp)).trans (World.alloc_heap_new w _)
  refine ⟨w.heap.size + 1, _, W1, { target := .fn (.func gf) lb, args := #[.func (.yield (w.heap.size + 1)) #[] #[]] }, W1, gf, #[.func (.yield (w.heap.size + 1)) #[] #[]] ++ lb, W1,
    run_enterLoop_outer _ _ _ _ _, ?_, ?_, ?_, fun _ => h1, ?_⟩
  · simp only [resolve, hg]
    simp [go_sem]
  · intro f' hf'; simp [Target.leads] at hf'; subst hf'; exact hFg
  · simp [invoke, go_sem, eg]
  · refine (hit (w.heap.size + 1) (fun pre m W => I pre m W ∧ W.heap[w.heap.size + 1]? = some (.loop (R .ready none)) ∧ W.heap[w.heap.size]? = some (.deferred (some []))) W1
      (fun _ _ _ h => h.1) (fun _ _ _ _ _ _ h hk hi => ⟨hi, hk.same _ _ h.2.1 rfl, hk.same _ _ h.2.2 rfl⟩) ?_ ⟨h0 _, hL1, hK1⟩).mono ?_
    · rintro pre m x W ⟨hi, hl, hk⟩ hN
      have hlt : w.heap.size + 1 < W.heap.size := (Array.getElem?_eq_some_iff.1 hl).1
      refine ⟨fn, _, assign, body, run_yield (P := P) (args := encs x) hl (hps x), roundIn_of_wpIn hfn (hassign _ x W _ ⟨_, run_beginRound hl rfl, ?_⟩)⟩
      have hl2 := World.putObj_heap_same (o := .loop { R .ready none with state := .busy }) hlt
      have hk2 : (W.putObj (w.heap.size + 1) (.loop { R .ready none with state := .busy })).heap[w.heap.size]? = some (.deferred (some [])) := (World.putObj_heap_other (by omega)).trans hk
      refine wpIn_mono (hbody _ pre m x _ (hIb _ _ _ _ _ _ (by omega) hl rfl hi) hN) ?_
      rintro e a3 W3 ⟨rfl, hk3, hi3⟩
      have hl3 := hk3.same _ _ hl2 rfl
      refine ⟨_, _, run_endRound none hl3, rfl, hIb _ _ _ _ _ _ (by omega) hl3 rfl hi3, World.putObj_heap_same (Array.getElem?_eq_some_iff.1 hl3).1, (World.putObj_heap_other (by omega)).trans (hk3.same _ _ hk2 rfl)⟩
    · rintro e W2 ⟨⟨v, rfl⟩, xs, m, hS, hi, hl, hk⟩
      exact ⟨none, _, run_endLoop (P := P) hl (by simp [R]), hdone _ xs m _ (Nat.le_refl _) hS (hIb _ _ _ _ _ _ (by omega) hl rfl hi) ((World.putObj_heap_other (by omega)).trans hk)⟩

end Go.Proofs.Ytbenenpkbdldmaa.P
