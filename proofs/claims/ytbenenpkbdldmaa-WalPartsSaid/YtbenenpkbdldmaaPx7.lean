-- Written by wip/gprint.py, a program of this session over the kit's print; Lean checks it.
import Derived.Test.YtbenenpkbdldmaaPx0
import Derived.ControlIn
import Derived.LoopIn
import Derived.LoopNIn
import Derived.Maps.AppendAt
import Derived.Maps.OwnIn
import Derived.OwnWalkIn
import Derived.RangeFuncBound
import Derived.RangeFuncBox
import Derived.RangeFuncCalls
import Derived.RangeFuncLeaves
import Derived.RangeFuncNested
import Derived.RegionIn
import Derived.Scope
import Derived.Shelf.Abstract
import Derived.Sort.BigQuietIn
import Derived.TacticsInMore
namespace Go.Proofs.Ytbenenpkbdldmaa.P
open Go.RowKit Go.Proofs.YtbenenpkbdldmaaW.PrintWords Go.Proofs.YtbenenpkbdldmaaW.PrintLast Go.Proofs.YtbenenpkbdldmaaW.PrintMore
attribute [local go_sem] max2_int min2_int max_two min_two max_three min_three max_four min_four   -- for this text's walks alone
set_option linter.unusedVariables false
set_option linter.unusedSimpArgs false

/-GIVEN 06rangeG-/
/-- A range over a function whose rounds never leave early, where what a round is handed is told by G, in the world that it is handed in. -/
theorem range_handed {F : Fence} {n : Nat} {P : Program} {α : Type} {g : Operand} {ps : Array Tmp} {assign body : Code} {Q : Exit → Act → World → Prop} {a : Act} {w : World}
    (hro : F.round = none) (h1 : 1 ≤ n) {gf : Nat} {lb : Array Value} (hg : a.eval g = .func (.func gf) #[] lb) (hFg : F.fn gf) (eg : ∀ args w, (callFunc gf args).run P w = .ok (.enter gf args) w)
    (encs : α → Array Value) (hps : ∀ x, (encs x).size = ps.size) (S : List α → Prop) (N : Nat) (I : List α → World → Prop) (G : α → World → Prop)
    (hIb : ∀ pre W l o', (l = w.heap.size ∨ l = w.heap.size + 1) → I pre W → I pre (W.putObj l o'))
    (hGb : ∀ x W l o', (l = w.heap.size ∨ l = w.heap.size + 1) → G x W → G x (W.putObj l o'))
    (h0 : ∀ r : Loop, I [] ((w.alloc (.deferred (some []))).alloc (.loop r))) (a₁ : α → Act)
    (hassign : ∀ (l : Nat) (x : α) (W : World) (K : Act → World → Prop), K (a₁ x) W →
      assign.wpIn (F.inRound l) (n - 1 - 1) P (Exit.then K (fun _ _ _ => False)) { tmps := (ps.zip (encs x)).foldl (fun t (p, v) => t.setIfInBounds p v) a.tmps, defers := [] } W)
    (hbody : ∀ (l : Nat) (pre : List α) (x : α) (W : World), I pre W → G x W → pre.length < N → body.wpIn (F.inRound l) (n - 1 - 1) P (fun e _ W' => e = .normal ∧ KeepsOthers W W' ∧ I (pre ++ [x]) W') (a₁ x) W)
    (hit : ∀ (l : Nat) (J : List α → World → Prop) (W : World), (∀ pre W, J pre W → I pre W) → (∀ pre pre' W W', J pre W → KeepsOthers W W' → I pre' W' → J pre' W') →
      (∀ pre x W1, J pre W1 → G x W1 → pre.length < N → YieldAt F (n - 1 - 1) P l (encs x) W1 fun e W' => e = .returned (.bool true) ∧ J (pre ++ [x]) W') → J [] W →
      CallsIn F (n - 1) P gf (#[.func (.yield l) #[] #[]] ++ lb) W fun e W' => (∃ v, e = .returned v) ∧ ∃ xs, S xs ∧ J xs W')
    (hdone : ∀ (D : Nat) (xs : List α) (W : World), D = w.heap.size → S xs → I xs W → W.heap[D]? = some (.deferred (some [])) → Q .normal { a with defers := { target := .collected D, args := #[] } :: a.defers } W) :
    (Code.rangeFunc g ps assign body).wpIn F n P Q a w := by
  refine wpIn_rangeFunc fun fn hfn => ?_
  rw [hro]
  let R : LoopState → Option Code → Loop := fun st pe => { state := st, pending := pe, fn := fn, tmps := a.tmps, params := ps, assign := assign, body := body, defers := w.heap.size }
  let W1 := (w.alloc (.deferred (some []))).alloc (.loop (R .ready none))
  have hL1 : W1.heap[w.heap.size + 1]? = some (.loop (R .ready none)) := by
    have := World.alloc_heap_new (w.alloc (.deferred (some []))) (.loop (R .ready none)); rwa [World.size_alloc] at this
  have hK1 : W1.heap[w.heap.size]? = some (.deferred (some [])) := (Below.heap_alloc _ _ _ (by simp)).trans (World.alloc_heap_new w _)
  refine ⟨w.heap.size + 1, _, W1, { target := .fn (.func gf) lb, args := #[.func (.yield (w.heap.size + 1)) #[] #[]] }, W1, gf, #[.func (.yield (w.heap.size + 1)) #[] #[]] ++ lb, W1,
    run_enterLoop_outer _ _ _ _ _, ?_, ?_, ?_, fun _ => h1, ?_⟩
  · simp only [resolve, hg]
    simp [go_sem]
  · intro f' hf'; simp [Target.leads] at hf'; subst hf'; exact hFg
  · simp [invoke, go_sem, eg]
  · refine (hit (w.heap.size + 1) (fun pre W => I pre W ∧ W.heap[w.heap.size + 1]? = some (.loop (R .ready none)) ∧ W.heap[w.heap.size]? = some (.deferred (some []))) W1
      (fun _ _ h => h.1) (fun _ _ _ _ h hk hi => ⟨hi, hk.same _ _ h.2.1 rfl, hk.same _ _ h.2.2 rfl⟩) ?_ ⟨h0 _, hL1, hK1⟩).mono ?_
    · rintro pre x W ⟨hi, hl, hk⟩ hG hN
      have hlt : w.heap.size + 1 < W.heap.size := (Array.getElem?_eq_some_iff.1 hl).1
      refine ⟨fn, _, assign, body, run_yield (P := P) (args := encs x) hl (hps x), roundIn_of_wpIn hfn (hassign _ x W _ ⟨_, run_beginRound hl rfl, ?_⟩)⟩
      have hl2 := World.putObj_heap_same (o := .loop { R .ready none with state := .busy }) hlt
      have hk2 : (W.putObj (w.heap.size + 1) (.loop { R .ready none with state := .busy })).heap[w.heap.size]? = some (.deferred (some [])) := (World.putObj_heap_other (by omega)).trans hk
      refine wpIn_mono (hbody _ pre x _ (hIb _ _ _ _ (by omega) hi) (hGb _ _ _ _ (by omega) hG) hN) ?_
      rintro e a3 W3 ⟨rfl, hk3, hi3⟩
      have hl3 := hk3.same _ _ hl2 rfl
      refine ⟨_, _, run_endRound none hl3, rfl, hIb _ _ _ _ (by omega) hi3, World.putObj_heap_same (Array.getElem?_eq_some_iff.1 hl3).1, (World.putObj_heap_other (by omega)).trans (hk3.same _ _ hk2 rfl)⟩
    · rintro e W2 ⟨⟨v, rfl⟩, xs, hS, hi, hl, hk⟩
      exact ⟨none, _, run_endLoop (P := P) hl (by simp [R]), hdone _ xs _ rfl hS (hIb _ _ _ _ (by omega) hi) ((World.putObj_heap_other (by omega)).trans hk)⟩

/-- One more element behind a row of rows of one's own that lead to what is read. -/
theorem N_push {d : Kd (List Int)} (hsz : d.sz = 1) {e base : Nat} {ok : Nat → Prop} {W : World} {v : Value} {xs : List (List Int)} (h : Kd.N d e W base ok v xs) (hfresh : ∀ k, W.heap.size ≤ k → ok k) :
    ∃ inner, W.ownsRow base e 1 v xs.length inner ∧ ∀ (o : Obj) (t : List Int) (u : Value) (okp : Nat → Prop) (v1 : Value) (w1 : World), Kd.FK d W okp t [u] → (∀ k, okp k → ok k ∧ some k ≠ v.ownBlock) → w1.ownsRow base e 1 v1 (xs.length + 1) (inner ++ [u]) → (W.alloc o).grownBy w1 v.ownBlock → (v1.ownBlock = v.ownBlock ∨ v1.ownBlock = some (W.alloc o).heap.size) → Kd.N d e w1 base ok v1 (xs ++ [t]) := by
  have hal := fun o => Kd.N_alloc h o
  obtain ⟨h0, rows, hl, ⟨h0', inner, hown, hr⟩, hf⟩ := h
  have hsz' : (Kd.raw d.sz).sz = 1 := hsz
  rw [hsz', hl] at hown
  refine ⟨inner, hown, fun o t u okp v1 w1 hc hokp hown1 hg hat => ?_⟩
  have hat' : v1.ownBlock = v.ownBlock ∨ ∃ b, v1.ownBlock = some b ∧ (W.alloc o).heap.size ≤ b := hat.imp id (fun e => ⟨_, e, Nat.le_refl _⟩)
  have hR : (Kd.raw d.sz).R e w1 base (fun _ => True) v1 (rows ++ [[u]]) := Kd.R_appended (W := W.alloc o) (okp := fun _ => False) (fun _ _ => trivial) hr (Kd.FK_raw hc) (fun _ hk => hk.elim) (fun _ _ => trivial) (by rw [hsz', hl]; exact hown1) hg hat'
  refine Kd.N_appended (W := W.alloc o) (news := [[u]]) (ys := [t]) (okp := okp) h0 hl (fun j x c hx hc2 => Kd.FK_below (hf j x c hx hc2) (below_alloc (Below.refl _ _) o)) rfl ?_ hokp (fun k hk => hfresh k (by rw [World.size_alloc] at hk; omega)) hR hg hat'
  intro j x c hx hc2
  cases j with
  | zero =>
    simp at hx hc2
    subst hx; subst hc2
    exact Kd.FK_below hc (below_alloc (Below.refl _ _) o)
  | succ j => simp at hx
section
variable {P : Program} {F : Fence} {n : Nat} {b : Frame} {a : Act} {k : List Item} {cs : List Frame} {w : World} {Q : Exit → Act → World → Prop}
theorem stepR_scope' {c : Code} : step P (lone (b.atR a (.code (.scope c) :: k)) cs w) = .next (lone (b.atR a (.code c :: .inScope c :: k)) cs w) :=
  step_lone_go (by simp [stepG, stepG.exec, Frame.atR])
theorem stepR_inScope' {c : Code} : step P (lone (b.atR a (.inScope c :: k)) cs w) = .next (lone (b.atR a k) cs w) :=
  step_lone_go (by simp [stepG, stepG.exec, Frame.atR])
/-- A scope that nothing jumps in, inside a fence. -/
theorem wpIn_scope_straight {c : Code} (h : c.wpIn F n P (Exit.noGoto Q) a w) : (Code.scope c).wpIn F n P Q a w := by
  intro b k cs hro hb hr
  have h0 : (lone (b.atR a (.code (.scope c) :: k)) cs w).fenced P F := fenced_calm hb hr rfl
  obtain ⟨e, a₁, w₁, hq, harr⟩ := h b (.inScope c :: k) cs hro hb hr
  cases e with
  | normal => exact ⟨.normal, a₁, w₁, hq, .head h0 stepR_scope' (StepsIn.trans harr (.one (fenced_calm hb hr rfl) stepR_inScope'))⟩
  | exit id =>
    have hx : exitTo id (.inScope c :: k) = exitTo id k := by simp [exitTo]
    exact ⟨_, a₁, w₁, hq, fun k' hk => .head h0 stepR_scope' (harr.1 k' (by rw [hx]; exact hk)),
      fun hr' hk => let ⟨k₁, h1, h2⟩ := harr.2 hr' (by rw [hx]; exact hk); ⟨k₁, h1, .head h0 stepR_scope' h2⟩⟩
  | goto l => exact hq.elim
  | ret => exact ⟨_, a₁, w₁, hq, .of_steps (.one h0 stepR_scope') harr⟩
  | panic ch => exact ⟨_, a₁, w₁, hq, .of_steps (.one h0 stepR_scope') harr⟩
  | outgrown => exact ⟨_, a₁, w₁, hq, .of_steps (.one h0 stepR_scope') harr⟩
end
/-- Two results that are variables of the heap, a row and a whole number. -/
theorem results_cell2 {P : Program} {fn : Func} {p p' : Tmp} {ty ty' e : TypeId} {kk : IntKind} (h : fn.results = #[.cell p ty, .cell p' ty']) (tmps : Array Value) (w : World) (g g' : Nat) (t t' : TypeId) (v v' : Value)
    (hp : tmps.getD p undef = .pointer (some ⟨g, 0, none⟩)) (hg : Boxed w g t v) (hu : P.underlying ty = some (.slice e))
    (hp' : tmps.getD p' undef = .pointer (some ⟨g', 0, none⟩)) (hg' : Boxed w g' t' v') (hu' : P.underlying ty' = some (.int kk)) :
    (results fn tmps).run P w = .ok (.tuple #[v, v']) w := by
  have h1 : tmps[p]?.getD undef = .pointer (some ⟨g, 0, none⟩) := by simpa using hp
  have h2 : tmps[p']?.getD undef = .pointer (some ⟨g', 0, none⟩) := by simpa using hp'
  have c1 := hg.cell
  have c2 := hg'.cell
  simp [results, h, h1, h2, asAddr, loadVar, isAgg, run_underlying hu, run_underlying hu', go_sem, c1, c2]

end Go.Proofs.Ytbenenpkbdldmaa.P
