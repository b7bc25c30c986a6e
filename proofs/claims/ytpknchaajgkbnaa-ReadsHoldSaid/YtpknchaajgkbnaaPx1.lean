import Derived.Test.YtpknchaajgkbnaaPx0
import Derived.Laws.CopyOwn
import Derived.Lib.SlBytesConst
import Derived.ControlIn
import Derived.LoopIn
import Derived.LoopNIn
import Derived.Maps.AppendAt
import Derived.Maps.OwnIn
import Derived.OwnWalkIn
import Derived.RangeFuncBound
import Derived.RangeFuncBox
import Derived.RangeFuncCalls
import Derived.RangeFuncLeaves
import Derived.RangeFuncNested
import Derived.RegionIn
import Derived.Scope
import Derived.Shelf.Abstract
import Derived.Sort.BigQuietIn
import Derived.TacticsInMore
import Derived.CallsIn
import Derived.OrdersIn
import Derived.Laws.CopyRow
import Derived.Lib.Bytealg
import Derived.Lib.Bytes
import Derived.BigQuiet
import Derived.Laws.Externs
import Derived.Lib.BytesEntry
import Derived.Lib.SliceRun
-- Written by wip/gprint.py, a program of this session over the kit's print; Lean checks it.
namespace Go.Proofs.Ytpknchaajgkbnaa.P
open Go.RowKit Go.Proofs.YtpknchaajgkbnaaW.PrintWords Go.Proofs.YtpknchaajgkbnaaW.PrintLast Go.Proofs.YtpknchaajgkbnaaW.PrintMore
attribute [local go_sem] max2_int min2_int max_two min_two max_three min_three max_four min_four   -- for this text's walks alone
set_option linter.unusedVariables false
set_option linter.unusedSimpArgs false

/-GIVEN 00words-/
theorem ret_int {k : IntKind} {a b : Int} (h : a = b) : Ending.returned (.int k a) = .returned (.int k b) := by rw [h]
end Go.Proofs.Ytpknchaajgkbnaa.P

-- Written by wip/gprint.py, a program of this session over the kit's print; Lean checks it.
namespace Go.Proofs.Ytpknchaajgkbnaa.P
open Go.RowKit Go.Proofs.YtpknchaajgkbnaaW.PrintWords Go.Proofs.YtpknchaajgkbnaaW.PrintLast Go.Proofs.YtpknchaajgkbnaaW.PrintMore
attribute [local go_sem] max2_int min2_int max_two min_two max_three min_three max_four min_four   -- for this text's walks alone
set_option linter.unusedVariables false
set_option linter.unusedSimpArgs false

/-GIVEN 01copy-/
end Go.Proofs.Ytpknchaajgkbnaa.P

-- Written by wip/gprint.py, a program of this session over the kit's print; Lean checks it.
namespace Go.Proofs.Ytpknchaajgkbnaa.P
open Go.RowKit Go.Proofs.YtpknchaajgkbnaaW.PrintWords Go.Proofs.YtpknchaajgkbnaaW.PrintLast Go.Proofs.YtpknchaajgkbnaaW.PrintMore
attribute [local go_sem] max2_int min2_int max_two min_two max_three min_three max_four min_four   -- for this text's walks alone
set_option linter.unusedVariables false
set_option linter.unusedSimpArgs false

/-GIVEN 02chunk-/
theorem chunk_set {α : Type} (cur : List α) (sz k j f : Nat) (v : α) (hf : f < sz) : ((cur.set (k * sz + f) v).drop (j * sz)).take sz = if j = k then ((cur.drop (j * sz)).take sz).set f v else (cur.drop (j * sz)).take sz := by
  apply List.ext_getElem?
  intro i
  by_cases hjk : j = k
  · subst hjk
    rw [if_pos rfl]
    by_cases hi : i < sz
    · rw [List.getElem?_take, if_pos hi, List.getElem?_drop, List.getElem?_set, List.getElem?_set, List.getElem?_take, if_pos hi, List.getElem?_drop]
      by_cases he : f = i
      · subst he
        simp only [if_true]
        by_cases hl : j * sz + f < cur.length
        · rw [if_pos hl, if_pos (by simp; omega)]
        · rw [if_neg hl, if_neg (by simp; omega)]
      · rw [if_neg (by omega), if_neg he]
    · rw [List.getElem?_eq_none (by simp; omega), List.getElem?_eq_none (by simp; omega)]
  · rw [if_neg hjk]
    by_cases hi : i < sz
    · rw [List.getElem?_take, if_pos hi, List.getElem?_drop, List.getElem?_set, if_neg, List.getElem?_take, if_pos hi, List.getElem?_drop]
      intro he
      rcases Nat.lt_or_gt_of_ne hjk with h | h
      · have : j * sz + sz ≤ k * sz := by rw [← Nat.succ_mul]; exact Nat.mul_le_mul_right _ h
        omega
      · have : k * sz + sz ≤ j * sz := by rw [← Nat.succ_mul]; exact Nat.mul_le_mul_right _ h
        omega
    · rw [List.getElem?_eq_none (by simp; omega), List.getElem?_eq_none (by simp; omega)]
theorem chunk_at {α : Type} {cur : List α} {sz k i : Nat} (hi : i < sz) : cur[k * sz + i]? = ((cur.drop (k * sz)).take sz)[i]? := by
  rw [List.getElem?_take, if_pos hi, List.getElem?_drop]
end Go.Proofs.Ytpknchaajgkbnaa.P

-- Written by wip/gprint.py, a program of this session over the kit's print; Lean checks it.
namespace Go.Proofs.Ytpknchaajgkbnaa.P
open Go.RowKit Go.Proofs.YtpknchaajgkbnaaW.PrintWords Go.Proofs.YtpknchaajgkbnaaW.PrintLast Go.Proofs.YtpknchaajgkbnaaW.PrintMore
attribute [local go_sem] max2_int min2_int max_two min_two max_three min_three max_four min_four   -- for this text's walks alone
set_option linter.unusedVariables false
set_option linter.unusedSimpArgs false

/-GIVEN 03conv-/
def conv_lit.f (l : List Int) : Option (List Int) := some l
/-- '[]byte("..")' of a constant: the row that is laid, and its mark. -/
theorem conv_lit_op {P : Program} {ops : Array Oper} {rest : List Oper} {o1 o2 : Oper} {a : Act} {Q : Exit → Act → World → Prop} {W : World} (t e : TypeId) (ht : P.underlying t = some (.slice e)) (he : P.underlying e = some (.int .u8)) (hg1 : o1.guard = none) (N1 N2 : Tmp) (hd1 : o1.dst = some N1) (hg2 : o2.guard = none) (hd2 : o2.dst = some N2) (ho2 : o2.op = .convert t t (.tmp N1)) (xs ys : List Int) (hA : conv_lit.f xs = some ys) (inner : List Value)
    (hrun : (execOp a.eval o1).run P W = .ok (.value (.slice (some ⟨W.heap.size, 0, none⟩) xs.length xs.length)) (W.alloc (.cells inner.toArray e)))
    (hev : ∀ v : Value, (a.put (some N1) v).eval (.tmp N1) = v) (hin : inner = xs.map (Value.int .u8)) (hm : xs.length ≤ 9223372036854775807)
    (h : ∀ v w1, Kd.V (Kd.int .u8) e w1 W.heap.size (fun k_ => W.heap.size ≤ k_) v ys → Below W.heap.size W w1 → wpList P ops Q rest ((a.put (some N1) v).put (some N2) v) w1) : wpList P ops Q (o1 :: o2 :: rest) a W := by
  obtain rfl : xs = ys := Option.some.inj hA
  refine Kd.event_run hg1 hrun ?_
  rw [hd1]
  have hrun2 : (execOp (a.put (some N1) (.slice (some ⟨W.heap.size, 0, none⟩) xs.length xs.length)).eval o2).run P (W.alloc (.cells inner.toArray e)) = .ok (.value (.slice (some ⟨W.heap.size, 0, none⟩) xs.length xs.length)) (W.alloc (.cells inner.toArray e (inner.toArray.size, inner.toArray.size + 1))) := by
    have hc := Lib.run_convert_bytes_const (P := P) W t e inner.toArray xs.length xs.length ht he
    simp [execOp, ho2, hev, hc]
  refine Kd.event_run hg2 hrun2 ?_
  rw [hd2]
  refine h _ _ ?_ (below_alloc (Below.refl _ _) _)
  subst hin
  have hg : (W.alloc (.cells (xs.map (Value.int .u8)).toArray e ((xs.map (Value.int .u8)).toArray.size, (xs.map (Value.int .u8)).toArray.size + 1))).heap[W.heap.size]? = some (.cells (xs.map (Value.int .u8)).toArray e ((xs.map (Value.int .u8)).toArray.size, (xs.map (Value.int .u8)).toArray.size + 1)) := by
    show (W.heap.push _)[W.heap.size]? = _
    simp
  refine ⟨some ⟨W.heap.size, 0, none⟩, xs.length, rfl, Nat.le_refl _, fun W' hW => ⟨rfl, hm, fun _ => ⟨⟨W.heap.size, 0, none⟩, rfl, fun j p hj => ⟨[.int .u8 p], rfl, rfl, fun i u hu => ?_⟩⟩⟩⟩
  have hg' := (hW W.heap.size (Nat.le_refl _) (blk_lt hg)).trans hg
  cases i with
  | succ i => simp at hu
  | zero =>
    have hu' : Value.int .u8 p = u := by simpa using hu
    subst hu'
    rw [add_plain, cell_of_row W' W.heap.size _ _ e _ hg']
    have hs : (Kd.int .u8).sz = 1 := rfl
    simp [hs, hj]

end Go.Proofs.Ytpknchaajgkbnaa.P

-- Written by wip/gprint.py, a program of this session over the kit's print; Lean checks it.
namespace Go.Proofs.Ytpknchaajgkbnaa.P
open Go.RowKit Go.Proofs.YtpknchaajgkbnaaW.PrintWords Go.Proofs.YtpknchaajgkbnaaW.PrintLast Go.Proofs.YtpknchaajgkbnaaW.PrintMore
attribute [local go_sem] max2_int min2_int max_two min_two max_three min_three max_four min_four   -- for this text's walks alone
set_option linter.unusedVariables false
set_option linter.unusedSimpArgs false

/-GIVEN 05cap-/
end Go.Proofs.Ytpknchaajgkbnaa.P

-- Written by wip/gprint.py, a program of this session over the kit's print; Lean checks it.
namespace Go.Proofs.Ytpknchaajgkbnaa.P
open Go.RowKit Go.Proofs.YtpknchaajgkbnaaW.PrintWords Go.Proofs.YtpknchaajgkbnaaW.PrintLast Go.Proofs.YtpknchaajgkbnaaW.PrintMore
attribute [local go_sem] max2_int min2_int max_two min_two max_three min_three max_four min_four   -- for this text's walks alone
set_option linter.unusedVariables false
set_option linter.unusedSimpArgs false

/-GIVEN 06rangeG-/
/-- A range over a function whose rounds never leave early, where what a round is handed is told by G, in the world that it is handed in. -/
theorem range_handed {F : Fence} {n : Nat} {P : Program} {α : Type} {g : Operand} {ps : Array Tmp} {assign body : Code} {Q : Exit → Act → World → Prop} {a : Act} {w : World}
    (hro : F.round = none) (h1 : 1 ≤ n) {gf : Nat} {lb : Array Value} (hg : a.eval g = .func (.func gf) #[] lb) (hFg : F.fn gf) (eg : ∀ args w, (callFunc gf args).run P w = .ok (.enter gf args) w)
    (encs : α → Array Value) (hps : ∀ x, (encs x).size = ps.size) (S : List α → Prop) (N : Nat) (I : List α → World → Prop) (G : α → World → Prop)
    (hIb : ∀ pre W l o', (l = w.heap.size ∨ l = w.heap.size + 1) → I pre W → I pre (W.putObj l o'))
    (hGb : ∀ x W l o', (l = w.heap.size ∨ l = w.heap.size + 1) → G x W → G x (W.putObj l o'))
    (h0 : ∀ r : Loop, I [] ((w.alloc (.deferred (some []))).alloc (.loop r))) (a₁ : α → Act)
    (hassign : ∀ (l : Nat) (x : α) (W : World) (K : Act → World → Prop), K (a₁ x) W →
      assign.wpIn (F.inRound l) (n - 1 - 1) P (Exit.then K (fun _ _ _ => False)) { tmps := (ps.zip (encs x)).foldl (fun t (p, v) => t.setIfInBounds p v) a.tmps, defers := [] } W)
    (hbody : ∀ (l : Nat) (pre : List α) (x : α) (W : World), I pre W → G x W → pre.length < N → body.wpIn (F.inRound l) (n - 1 - 1) P (fun e _ W' => e = .normal ∧ KeepsOthers W W' ∧ I (pre ++ [x]) W') (a₁ x) W)
    (hit : ∀ (l : Nat) (J : List α → World → Prop) (W : World), (∀ pre W, J pre W → I pre W) → (∀ pre pre' W W', J pre W → KeepsOthers W W' → I pre' W' → J pre' W') →
      (∀ pre x W1, J pre W1 → G x W1 → pre.length < N → YieldAt F (n - 1 - 1) P l (encs x) W1 fun e W' => e = .returned (.bool true) ∧ J (pre ++ [x]) W') → J [] W →
      CallsIn F (n - 1) P gf (#[.func (.yield l) #[] #[]] ++ lb) W fun e W' => (∃ v, e = .returned v) ∧ ∃ xs, S xs ∧ J xs W')
    (hdone : ∀ (D : Nat) (xs : List α) (W : World), D = w.heap.size → S xs → I xs W → W.heap[D]? = some (.deferred (some [])) → Q .normal { a with defers := { target := .collected D, args := #[] } :: a.defers } W) :
    (Code.rangeFunc g ps assign body).wpIn F n P Q a w := by
  refine wpIn_rangeFunc fun fn hfn => ?_
  rw [hro]
  let R : LoopState → Option Code → Loop := fun st pe => { state := st, pending := pe, fn := fn, tmps := a.tmps, params := ps, assign := assign, body := body, defers := w.heap.size }
  let W1 := (w.alloc (.deferred (some []))).alloc (.loop (R .ready none))
  have hL1 : W1.heap[w.heap.size + 1]? = some (.loop (R .ready none)) := by
    have := World.alloc_heap_new (w.alloc (.deferred (some []))) (.loop (R .ready none)); rwa [World.size_alloc] at this
  have hK1 : W1.heap[w.heap.size]? = some (.deferred (some [])) := (Below.heap_alloc _ _ _ (by simp)).trans (World.alloc_heap_new w _)
  refine ⟨w.heap.size + 1, _, W1, { target := .fn (.func gf) lb, args := #[.func (.yield (w.heap.size + 1)) #[] #[]] }, W1, gf, #[.func (.yield (w.heap.size + 1)) #[] #[]] ++ lb, W1,
    run_enterLoop_outer _ _ _ _ _, ?_, ?_, ?_, fun _ => h1, ?_⟩
  · simp only [resolve, hg]
    simp [go_sem]
  · intro f' hf'; simp [Target.leads] at hf'; subst hf'; exact hFg
  · simp [invoke, go_sem, eg]
  · refine (hit (w.heap.size + 1) (fun pre W => I pre W ∧ W.heap[w.heap.size + 1]? = some (.loop (R .ready none)) ∧ W.heap[w.heap.size]? = some (.deferred (some []))) W1
      (fun _ _ h => h.1) (fun _ _ _ _ h hk hi => ⟨hi, hk.same _ _ h.2.1 rfl, hk.same _ _ h.2.2 rfl⟩) ?_ ⟨h0 _, hL1, hK1⟩).mono ?_
    · rintro pre x W ⟨hi, hl, hk⟩ hG hN
      have hlt : w.heap.size + 1 < W.heap.size := (Array.getElem?_eq_some_iff.1 hl).1
      refine ⟨fn, _, assign, body, run_yield (P := P) (args := encs x) hl (hps x), roundIn_of_wpIn hfn (hassign _ x W _ ⟨_, run_beginRound hl rfl, ?_⟩)⟩
      have hl2 := World.putObj_heap_same (o := .loop { R .ready none with state := .busy }) hlt
      have hk2 : (W.putObj (w.heap.size + 1) (.loop { R .ready none with state := .busy })).heap[w.heap.size]? = some (.deferred (some [])) := (World.putObj_heap_other (by omega)).trans hk
      refine wpIn_mono (hbody _ pre x _ (hIb _ _ _ _ (by omega) hi) (hGb _ _ _ _ (by omega) hG) hN) ?_
      rintro e a3 W3 ⟨rfl, hk3, hi3⟩
      have hl3 := hk3.same _ _ hl2 rfl
      refine ⟨_, _, run_endRound none hl3, rfl, hIb _ _ _ _ (by omega) hi3, World.putObj_heap_same (Array.getElem?_eq_some_iff.1 hl3).1, (World.putObj_heap_other (by omega)).trans (hk3.same _ _ hk2 rfl)⟩
    · rintro e W2 ⟨⟨v, rfl⟩, xs, hS, hi, hl, hk⟩
      exact ⟨none, _, run_endLoop (P := P) hl (by simp [R]), hdone _ xs _ rfl hS (hIb _ _ _ _ (by omega) hi) ((World.putObj_heap_other (by omega)).trans hk)⟩

section
variable {P : Program} {F : Fence} {n : Nat} {b : Frame} {a : Act} {k : List Item} {cs : List Frame} {w : World} {Q : Exit → Act → World → Prop}
theorem stepR_scope' {c : Code} : step P (lone (b.atR a (.code (.scope c) :: k)) cs w) = .next (lone (b.atR a (.code c :: .inScope c :: k)) cs w) :=
  step_lone_go (by simp [stepG, stepG.exec, Frame.atR])
theorem stepR_inScope' {c : Code} : step P (lone (b.atR a (.inScope c :: k)) cs w) = .next (lone (b.atR a k) cs w) :=
  step_lone_go (by simp [stepG, stepG.exec, Frame.atR])
/-- A scope that nothing jumps in, inside a fence. -/
theorem wpIn_scope_straight {c : Code} (h : c.wpIn F n P (Exit.noGoto Q) a w) : (Code.scope c).wpIn F n P Q a w := by
  intro b k cs hro hb hr
  have h0 : (lone (b.atR a (.code (.scope c) :: k)) cs w).fenced P F := fenced_calm hb hr rfl
  obtain ⟨e, a₁, w₁, hq, harr⟩ := h b (.inScope c :: k) cs hro hb hr
  cases e with
  | normal => exact ⟨.normal, a₁, w₁, hq, .head h0 stepR_scope' (StepsIn.trans harr (.one (fenced_calm hb hr rfl) stepR_inScope'))⟩
  | exit id =>
    have hx : exitTo id (.inScope c :: k) = exitTo id k := by simp [exitTo]
    exact ⟨_, a₁, w₁, hq, fun k' hk => .head h0 stepR_scope' (harr.1 k' (by rw [hx]; exact hk)),
      fun hr' hk => let ⟨k₁, h1, h2⟩ := harr.2 hr' (by rw [hx]; exact hk); ⟨k₁, h1, .head h0 stepR_scope' h2⟩⟩
  | goto l => exact hq.elim
  | ret => exact ⟨_, a₁, w₁, hq, .of_steps (.one h0 stepR_scope') harr⟩
  | panic ch => exact ⟨_, a₁, w₁, hq, .of_steps (.one h0 stepR_scope') harr⟩
  | outgrown => exact ⟨_, a₁, w₁, hq, .of_steps (.one h0 stepR_scope') harr⟩
end
end Go.Proofs.Ytpknchaajgkbnaa.P

-- Written by wip/gprint.py, a program of this session over the kit's print; Lean checks it.
namespace Go.Proofs.Ytpknchaajgkbnaa.P
open Go.RowKit Go.Proofs.YtpknchaajgkbnaaW.PrintWords Go.Proofs.YtpknchaajgkbnaaW.PrintLast Go.Proofs.YtpknchaajgkbnaaW.PrintMore
attribute [local go_sem] max2_int min2_int max_two min_two max_three min_three max_four min_four   -- for this text's walks alone
set_option linter.unusedVariables false
set_option linter.unusedSimpArgs false

/-GIVEN 07idx-/
def idxBy {α : Type} (p : α → Bool) : List α → Int
  | [] => -1
  | x :: l => if p x then 0 else (if idxBy p l < 0 then -1 else idxBy p l + 1)
theorem idxBy_lo {α : Type} (p : α → Bool) (l : List α) : -1 ≤ idxBy p l := by
  induction l with
  | nil => simp [idxBy]
  | cons x l ih => rw [idxBy]; split <;> (try split) <;> omega
theorem idxBy_any {α : Type} (p : α → Bool) (l : List α) : decide (0 ≤ idxBy p l) = l.any p := by
  induction l with
  | nil => simp [idxBy]
  | cons x l ih =>
    rw [idxBy, List.any_cons, ← ih]
    have := idxBy_lo p l
    cases h : p x with
    | true => simp
    | false =>
      rw [if_neg (by decide), Bool.false_or]
      by_cases h2 : idxBy p l < 0
      · rw [if_pos h2, decide_eq_false (by omega), decide_eq_false (by omega)]
      · rw [if_neg h2, decide_eq_true (by omega), decide_eq_true (by omega)]
theorem idxBy_none {α : Type} (p : α → Bool) (l : List α) (h : ∀ x ∈ l, p x = false) : idxBy p l = -1 := by
  induction l with
  | nil => rfl
  | cons x l ih => rw [idxBy, h x (by simp), ih (fun y hy => h y (by simp [hy]))]; rfl
theorem idxBy_at {α : Type} (p : α → Bool) : ∀ (l : List α) (k : Nat), (∀ j, j < k → ∀ x, l[j]? = some x → p x = false) → ∀ (h : k < l.length), p l[k] = true → idxBy p l = k := by
  intro l
  induction l with
  | nil => intro k _ h; simp at h
  | cons x l ih =>
    intro k hk h hp
    cases k with
    | zero =>
      have hp' : p x = true := hp
      rw [idxBy, if_pos hp']
      rfl
    | succ k =>
      have h0 := hk 0 (by omega) x rfl
      have h1 := ih k (fun j hj y hy => hk (j + 1) (by omega) y (by simpa using hy)) (by simpa using h) (by simpa using hp)
      rw [idxBy, h0, h1, if_neg (by decide), if_neg (by omega)]
      omega

end Go.Proofs.Ytpknchaajgkbnaa.P

-- Written by wip/gprint.py, a program of this session over the kit's print; Lean checks it.
namespace Go.Proofs.Ytpknchaajgkbnaa.P
open Go.RowKit Go.Proofs.YtpknchaajgkbnaaW.PrintWords Go.Proofs.YtpknchaajgkbnaaW.PrintLast Go.Proofs.YtpknchaajgkbnaaW.PrintMore
attribute [local go_sem] max2_int min2_int max_two min_two max_three min_three max_four min_four   -- for this text's walks alone
set_option linter.unusedVariables false
set_option linter.unusedSimpArgs false

/-GIVEN 07idx.Live-/
theorem idxBy_at_Live (p : S29 → Bool) (l : List S29) (k : Nat) (hk : ∀ j, j < k → ∀ x, l[j]? = some x → p x = false) (hlt : k < l.length) (hp : p (rd_T29 l (k : Int)) = true) : idxBy p l = k := by
  have e : rd_T29 l (k : Int) = l[k] := by unfold rd_T29; simp [List.getD_eq_getElem?_getD, hlt]
  rw [e] at hp
  exact idxBy_at p l k hk hlt hp
set_option maxHeartbeats 1000000 in
set_option maxRecDepth 100000 in
theorem idx_Live (g : FuncId) (lb : Array Value) (p : S29 → Bool) (A0 : Option Addr) (c0 : Nat) (l0 : List S29) (w : World) (hr0 : Kd.C k29 w A0 l0.length l0) (he : ∀ args W, (callFunc g args).run Try.prog W = .ok (.enter g args) W)
    (hp : ∀ (W : World) (x : S29) (A1 : Option Addr) (c1 : Nat), x ∈ l0 → Below w.heap.size w W → x.f1.length ≤ c1 → k38.C W A1 x.f1.length x.f1 → Calls Try.prog g (#[.agg #[.int .i64 x.f0, .slice A1 x.f1.length c1]] ++ lb) W fun e w' => e = .returned (.bool (p x)) ∧ Below W.heap.size W w') :
    Calls Try.prog 50 #[.slice A0 l0.length c0, .func (.func g) #[] lb] w fun e w' => e = .returned (.int .i64 (idxBy p l0)) ∧ Below w.heap.size w w' := by
  have hm : l0.length ≤ 9223372036854775807 := Kd.C_max hr0
  have HR := Aside0.mk hr0
  have hu := Try.underlying29
  clear hr0
  go_enter Try.func50, Try.ntmps50
  go_wp2
  go_loopw [8] (fun i wr => ∃ k : Nat, k ≤ l0.length ∧ i = .int .i64 k ∧ Aside0 (∀ j, j < k → ∀ x, l0[j]? = some x → p x = false) ∧ Aside0 (Below w.heap.size w wr)) (fun i _ => l0.length - (intOf i).toNat)
  case atStart => exact ⟨0, Nat.zero_le _, rfl, ⟨fun j hj => absurd hj (Nat.not_lt_zero _)⟩, ⟨Below.refl _ _⟩⟩
  case round =>
    obtain ⟨k, hk, rfl, HN, HB⟩ := hrel
    by_cases hlt : k < l0.length
    · obtain ⟨ad, A1, c1, e, hx0, hx1, hl1, hi1⟩ := at_T29 (Kd.C_below HR.out HB.out) k (by omega) (by omega)
      cases e
      rw [Int.toNat_natCast] at hx0 hx1
      have hat := idxBy_at_Live p l0 k HN.out hlt
      have hmem : rd_T29 l0 (k : Int) ∈ l0 := by
        have e : rd_T29 l0 (k : Int) = l0[k] := by unfold rd_T29; simp [List.getD_eq_getElem?_getD, hlt]
        rw [e]
        exact List.getElem_mem hlt
      have hnx : p (rd_T29 l0 (k : Int)) = false → ∀ j, j < k + 1 → ∀ x, l0[j]? = some x → p x = false := by
        intro hv j hj x hx
        rcases Nat.lt_or_ge j k with h | h
        · exact HN.out j h x hx
        · obtain rfl : j = k := by omega
          have e : rd_T29 l0 (j : Int) = x := by unfold rd_T29; rw [Int.toNat_natCast, List.getD_eq_getElem?_getD, hx]; rfl
          rw [← e]
          exact hv
      have HMEM := Aside0.mk hmem
      generalize hv : rd_T29 l0 (k : Int) = v at *
      have hcall := (hp _ v A1 c1 hmem HB.out hl1 hi1)
      have HCALL := Aside0.mk hcall
      clear hcall hmem hv HMEM
      cases hq : p v with
      | true =>
        have HE := Aside0.mk (hat hq)
        rw [hq] at HCALL
        clear hat hnx hq
        go_wp2
        refine HCALL.out.mono ?_
        rintro e w1 ⟨rfl, hb⟩
        have HB1 := Aside0.mk (below_step HB.out hb)
        clear hb
        go_wp2
        go_ret
        exact ⟨ret_int HE.out.symm, HB1.out⟩
      | false =>
        have HE := Aside0.mk (hnx hq)
        rw [hq] at HCALL
        clear hat hnx hq
        go_wp2
        refine HCALL.out.mono ?_
        rintro e w1 ⟨rfl, hb⟩
        have HB1 := Aside0.mk (below_step HB.out hb)
        clear hb
        go_wp2
        go_roundw
        case rel => exact ⟨k + 1, by omega, by go_num, HE, HB1⟩
        case measure => simp [intOf]; omega
    · obtain rfl : k = l0.length := by omega
      have HE := Aside0.mk (idxBy_none p l0 (fun x hx => by
        obtain ⟨j, hj, e⟩ := List.getElem_of_mem hx
        exact HN.out j hj x (by rw [List.getElem?_eq_getElem hj, e])))
      go_wp2
      go_ret
      exact ⟨ret_int HE.out.symm, HB.out⟩
set_option maxHeartbeats 1000000 in
set_option maxRecDepth 100000 in
theorem has_Live (g : FuncId) (lb : Array Value) (p : S29 → Bool) (A0 : Option Addr) (c0 : Nat) (l0 : List S29) (w : World) (hr0 : Kd.C k29 w A0 l0.length l0) (he : ∀ args W, (callFunc g args).run Try.prog W = .ok (.enter g args) W)
    (hp : ∀ (W : World) (x : S29) (A1 : Option Addr) (c1 : Nat), x ∈ l0 → Below w.heap.size w W → x.f1.length ≤ c1 → k38.C W A1 x.f1.length x.f1 → Calls Try.prog g (#[.agg #[.int .i64 x.f0, .slice A1 x.f1.length c1]] ++ lb) W fun e w' => e = .returned (.bool (p x)) ∧ Below W.heap.size W w') :
    Calls Try.prog 33 #[.slice A0 l0.length c0, .func (.func g) #[] lb] w fun e w' => e = .returned (.bool (l0.any p)) ∧ Below w.heap.size w w' := by
  have HI := Aside0.mk (idx_Live g lb p A0 c0 l0 w hr0 he hp)
  have HE := Aside0.mk (idxBy_any p l0)
  clear hr0 he hp
  go_enter Try.func33, Try.ntmps33
  go_wp2_with (go_at_call 50; refine HI.out.mono ?_; rintro e w1 ⟨rfl, hb⟩; have HB1 := Aside0.mk hb; clear hb)
  go_ret
  exact ⟨by rw [← HE.out]; rfl, HB1.out⟩

end Go.Proofs.Ytpknchaajgkbnaa.P

-- Written by wip/gprint.py, a program of this session over the kit's print; Lean checks it.
namespace Go.Proofs.Ytpknchaajgkbnaa.P
open Go.RowKit Go.Proofs.YtpknchaajgkbnaaW.PrintWords Go.Proofs.YtpknchaajgkbnaaW.PrintLast Go.Proofs.YtpknchaajgkbnaaW.PrintMore
attribute [local go_sem] max2_int min2_int max_two min_two max_three min_three max_four min_four   -- for this text's walks alone
set_option linter.unusedVariables false
set_option linter.unusedSimpArgs false

/-GIVEN 07idx.Span-/
theorem idxBy_at_Span (p : S38 → Bool) (l : List S38) (k : Nat) (hk : ∀ j, j < k → ∀ x, l[j]? = some x → p x = false) (hlt : k < l.length) (hp : p (rd_T38 l (k : Int)) = true) : idxBy p l = k := by
  have e : rd_T38 l (k : Int) = l[k] := by unfold rd_T38; simp [List.getD_eq_getElem?_getD, hlt]
  rw [e] at hp
  exact idxBy_at p l k hk hlt hp
set_option maxHeartbeats 1000000 in
set_option maxRecDepth 100000 in
theorem idx_Span (g : FuncId) (lb : Array Value) (p : S38 → Bool) (A0 : Option Addr) (c0 : Nat) (l0 : List S38) (w : World) (hr0 : Kd.C k38 w A0 l0.length l0) (he : ∀ args W, (callFunc g args).run Try.prog W = .ok (.enter g args) W)
    (hp : ∀ (W : World) (x : S38) (A1 : Option Addr) (c1 : Nat) (A2 : Option Addr) (c2 : Nat), x ∈ l0 → Below w.heap.size w W → x.f1.length ≤ c1 → (Kd.int .u8).C W A1 x.f1.length x.f1 → x.f2.length ≤ c2 → (Kd.int .u8).C W A2 x.f2.length x.f2 → Calls Try.prog g (#[.agg #[.int .i64 x.f0, .slice A1 x.f1.length c1, .slice A2 x.f2.length c2, .bool x.f3]] ++ lb) W fun e w' => e = .returned (.bool (p x)) ∧ Below W.heap.size W w') :
    Calls Try.prog 48 #[.slice A0 l0.length c0, .func (.func g) #[] lb] w fun e w' => e = .returned (.int .i64 (idxBy p l0)) ∧ Below w.heap.size w w' := by
  have hm : l0.length ≤ 9223372036854775807 := Kd.C_max hr0
  have HR := Aside0.mk hr0
  have hu := Try.underlying38
  clear hr0
  go_enter Try.func48, Try.ntmps48
  go_wp2
  go_loopw [8] (fun i wr => ∃ k : Nat, k ≤ l0.length ∧ i = .int .i64 k ∧ Aside0 (∀ j, j < k → ∀ x, l0[j]? = some x → p x = false) ∧ Aside0 (Below w.heap.size w wr)) (fun i _ => l0.length - (intOf i).toNat)
  case atStart => exact ⟨0, Nat.zero_le _, rfl, ⟨fun j hj => absurd hj (Nat.not_lt_zero _)⟩, ⟨Below.refl _ _⟩⟩
  case round =>
    obtain ⟨k, hk, rfl, HN, HB⟩ := hrel
    by_cases hlt : k < l0.length
    · obtain ⟨ad, A1, c1, A2, c2, e, hx0, hx1, hx2, hx3, hl1, hi1, hl2, hi2⟩ := at_T38 (Kd.C_below HR.out HB.out) k (by omega) (by omega)
      cases e
      rw [Int.toNat_natCast] at hx0 hx1 hx2 hx3
      have hat := idxBy_at_Span p l0 k HN.out hlt
      have hmem : rd_T38 l0 (k : Int) ∈ l0 := by
        have e : rd_T38 l0 (k : Int) = l0[k] := by unfold rd_T38; simp [List.getD_eq_getElem?_getD, hlt]
        rw [e]
        exact List.getElem_mem hlt
      have hnx : p (rd_T38 l0 (k : Int)) = false → ∀ j, j < k + 1 → ∀ x, l0[j]? = some x → p x = false := by
        intro hv j hj x hx
        rcases Nat.lt_or_ge j k with h | h
        · exact HN.out j h x hx
        · obtain rfl : j = k := by omega
          have e : rd_T38 l0 (j : Int) = x := by unfold rd_T38; rw [Int.toNat_natCast, List.getD_eq_getElem?_getD, hx]; rfl
          rw [← e]
          exact hv
      have HMEM := Aside0.mk hmem
      generalize hv : rd_T38 l0 (k : Int) = v at *
      have hcall := (hp _ v A1 c1 A2 c2 hmem HB.out hl1 hi1 hl2 hi2)
      have HCALL := Aside0.mk hcall
      clear hcall hmem hv HMEM
      cases hq : p v with
      | true =>
        have HE := Aside0.mk (hat hq)
        rw [hq] at HCALL
        clear hat hnx hq
        go_wp2
        refine HCALL.out.mono ?_
        rintro e w1 ⟨rfl, hb⟩
        have HB1 := Aside0.mk (below_step HB.out hb)
        clear hb
        go_wp2
        go_ret
        exact ⟨ret_int HE.out.symm, HB1.out⟩
      | false =>
        have HE := Aside0.mk (hnx hq)
        rw [hq] at HCALL
        clear hat hnx hq
        go_wp2
        refine HCALL.out.mono ?_
        rintro e w1 ⟨rfl, hb⟩
        have HB1 := Aside0.mk (below_step HB.out hb)
        clear hb
        go_wp2
        go_roundw
        case rel => exact ⟨k + 1, by omega, by go_num, HE, HB1⟩
        case measure => simp [intOf]; omega
    · obtain rfl : k = l0.length := by omega
      have HE := Aside0.mk (idxBy_none p l0 (fun x hx => by
        obtain ⟨j, hj, e⟩ := List.getElem_of_mem hx
        exact HN.out j hj x (by rw [List.getElem?_eq_getElem hj, e])))
      go_wp2
      go_ret
      exact ⟨ret_int HE.out.symm, HB.out⟩
set_option maxHeartbeats 1000000 in
set_option maxRecDepth 100000 in
theorem has_Span (g : FuncId) (lb : Array Value) (p : S38 → Bool) (A0 : Option Addr) (c0 : Nat) (l0 : List S38) (w : World) (hr0 : Kd.C k38 w A0 l0.length l0) (he : ∀ args W, (callFunc g args).run Try.prog W = .ok (.enter g args) W)
    (hp : ∀ (W : World) (x : S38) (A1 : Option Addr) (c1 : Nat) (A2 : Option Addr) (c2 : Nat), x ∈ l0 → Below w.heap.size w W → x.f1.length ≤ c1 → (Kd.int .u8).C W A1 x.f1.length x.f1 → x.f2.length ≤ c2 → (Kd.int .u8).C W A2 x.f2.length x.f2 → Calls Try.prog g (#[.agg #[.int .i64 x.f0, .slice A1 x.f1.length c1, .slice A2 x.f2.length c2, .bool x.f3]] ++ lb) W fun e w' => e = .returned (.bool (p x)) ∧ Below W.heap.size W w') :
    Calls Try.prog 26 #[.slice A0 l0.length c0, .func (.func g) #[] lb] w fun e w' => e = .returned (.bool (l0.any p)) ∧ Below w.heap.size w w' := by
  have HI := Aside0.mk (idx_Span g lb p A0 c0 l0 w hr0 he hp)
  have HE := Aside0.mk (idxBy_any p l0)
  clear hr0 he hp
  go_enter Try.func26, Try.ntmps26
  go_wp2_with (go_at_call 48; refine HI.out.mono ?_; rintro e w1 ⟨rfl, hb⟩; have HB1 := Aside0.mk hb; clear hb)
  go_ret
  exact ⟨by rw [← HE.out]; rfl, HB1.out⟩

end Go.Proofs.Ytpknchaajgkbnaa.P

-- Written by wip/gprint.py, a program of this session over the kit's print; Lean checks it.
namespace Go.Proofs.Ytpknchaajgkbnaa.P
open Go.RowKit Go.Proofs.YtpknchaajgkbnaaW.PrintWords Go.Proofs.YtpknchaajgkbnaaW.PrintLast Go.Proofs.YtpknchaajgkbnaaW.PrintMore
attribute [local go_sem] max2_int min2_int max_two min_two max_three min_three max_four min_four   -- for this text's walks alone
set_option linter.unusedVariables false
set_option linter.unusedSimpArgs false

/-GIVEN 07idx.Write-/
theorem idxBy_at_Write (p : S46 → Bool) (l : List S46) (k : Nat) (hk : ∀ j, j < k → ∀ x, l[j]? = some x → p x = false) (hlt : k < l.length) (hp : p (rd_T46 l (k : Int)) = true) : idxBy p l = k := by
  have e : rd_T46 l (k : Int) = l[k] := by unfold rd_T46; simp [List.getD_eq_getElem?_getD, hlt]
  rw [e] at hp
  exact idxBy_at p l k hk hlt hp
set_option maxHeartbeats 1000000 in
set_option maxRecDepth 100000 in
theorem idx_Write (g : FuncId) (lb : Array Value) (p : S46 → Bool) (A0 : Option Addr) (c0 : Nat) (l0 : List S46) (w : World) (hr0 : Kd.C k46 w A0 l0.length l0) (he : ∀ args W, (callFunc g args).run Try.prog W = .ok (.enter g args) W)
    (hp : ∀ (W : World) (x : S46) (A1 : Option Addr) (c1 : Nat) (A3 : Option Addr) (c3 : Nat), x ∈ l0 → Below w.heap.size w W → x.f1.length ≤ c1 → (Kd.int .u8).C W A1 x.f1.length x.f1 → x.f3.length ≤ c3 → (Kd.int .u8).C W A3 x.f3.length x.f3 → Calls Try.prog g (#[.agg #[.int .i64 x.f0, .slice A1 x.f1.length c1, .bool x.f2, .slice A3 x.f3.length c3]] ++ lb) W fun e w' => e = .returned (.bool (p x)) ∧ Below W.heap.size W w') :
    Calls Try.prog 47 #[.slice A0 l0.length c0, .func (.func g) #[] lb] w fun e w' => e = .returned (.int .i64 (idxBy p l0)) ∧ Below w.heap.size w w' := by
  have hm : l0.length ≤ 9223372036854775807 := Kd.C_max hr0
  have HR := Aside0.mk hr0
  have hu := Try.underlying46
  clear hr0
  go_enter Try.func47, Try.ntmps47
  go_wp2
  go_loopw [8] (fun i wr => ∃ k : Nat, k ≤ l0.length ∧ i = .int .i64 k ∧ Aside0 (∀ j, j < k → ∀ x, l0[j]? = some x → p x = false) ∧ Aside0 (Below w.heap.size w wr)) (fun i _ => l0.length - (intOf i).toNat)
  case atStart => exact ⟨0, Nat.zero_le _, rfl, ⟨fun j hj => absurd hj (Nat.not_lt_zero _)⟩, ⟨Below.refl _ _⟩⟩
  case round =>
    obtain ⟨k, hk, rfl, HN, HB⟩ := hrel
    by_cases hlt : k < l0.length
    · obtain ⟨ad, A1, c1, A3, c3, e, hx0, hx1, hx2, hx3, hl1, hi1, hl3, hi3⟩ := at_T46 (Kd.C_below HR.out HB.out) k (by omega) (by omega)
      cases e
      rw [Int.toNat_natCast] at hx0 hx1 hx2 hx3
      have hat := idxBy_at_Write p l0 k HN.out hlt
      have hmem : rd_T46 l0 (k : Int) ∈ l0 := by
        have e : rd_T46 l0 (k : Int) = l0[k] := by unfold rd_T46; simp [List.getD_eq_getElem?_getD, hlt]
        rw [e]
        exact List.getElem_mem hlt
      have hnx : p (rd_T46 l0 (k : Int)) = false → ∀ j, j < k + 1 → ∀ x, l0[j]? = some x → p x = false := by
        intro hv j hj x hx
        rcases Nat.lt_or_ge j k with h | h
        · exact HN.out j h x hx
        · obtain rfl : j = k := by omega
          have e : rd_T46 l0 (j : Int) = x := by unfold rd_T46; rw [Int.toNat_natCast, List.getD_eq_getElem?_getD, hx]; rfl
          rw [← e]
          exact hv
      have HMEM := Aside0.mk hmem
      generalize hv : rd_T46 l0 (k : Int) = v at *
      have hcall := (hp _ v A1 c1 A3 c3 hmem HB.out hl1 hi1 hl3 hi3)
      have HCALL := Aside0.mk hcall
      clear hcall hmem hv HMEM
      cases hq : p v with
      | true =>
        have HE := Aside0.mk (hat hq)
        rw [hq] at HCALL
        clear hat hnx hq
        go_wp2
        refine HCALL.out.mono ?_
        rintro e w1 ⟨rfl, hb⟩
        have HB1 := Aside0.mk (below_step HB.out hb)
        clear hb
        go_wp2
        go_ret
        exact ⟨ret_int HE.out.symm, HB1.out⟩
      | false =>
        have HE := Aside0.mk (hnx hq)
        rw [hq] at HCALL
        clear hat hnx hq
        go_wp2
        refine HCALL.out.mono ?_
        rintro e w1 ⟨rfl, hb⟩
        have HB1 := Aside0.mk (below_step HB.out hb)
        clear hb
        go_wp2
        go_roundw
        case rel => exact ⟨k + 1, by omega, by go_num, HE, HB1⟩
        case measure => simp [intOf]; omega
    · obtain rfl : k = l0.length := by omega
      have HE := Aside0.mk (idxBy_none p l0 (fun x hx => by
        obtain ⟨j, hj, e⟩ := List.getElem_of_mem hx
        exact HN.out j hj x (by rw [List.getElem?_eq_getElem hj, e])))
      go_wp2
      go_ret
      exact ⟨ret_int HE.out.symm, HB.out⟩
set_option maxHeartbeats 1000000 in
set_option maxRecDepth 100000 in
theorem has_Write (g : FuncId) (lb : Array Value) (p : S46 → Bool) (A0 : Option Addr) (c0 : Nat) (l0 : List S46) (w : World) (hr0 : Kd.C k46 w A0 l0.length l0) (he : ∀ args W, (callFunc g args).run Try.prog W = .ok (.enter g args) W)
    (hp : ∀ (W : World) (x : S46) (A1 : Option Addr) (c1 : Nat) (A3 : Option Addr) (c3 : Nat), x ∈ l0 → Below w.heap.size w W → x.f1.length ≤ c1 → (Kd.int .u8).C W A1 x.f1.length x.f1 → x.f3.length ≤ c3 → (Kd.int .u8).C W A3 x.f3.length x.f3 → Calls Try.prog g (#[.agg #[.int .i64 x.f0, .slice A1 x.f1.length c1, .bool x.f2, .slice A3 x.f3.length c3]] ++ lb) W fun e w' => e = .returned (.bool (p x)) ∧ Below W.heap.size W w') :
    Calls Try.prog 24 #[.slice A0 l0.length c0, .func (.func g) #[] lb] w fun e w' => e = .returned (.bool (l0.any p)) ∧ Below w.heap.size w w' := by
  have HI := Aside0.mk (idx_Write g lb p A0 c0 l0 w hr0 he hp)
  have HE := Aside0.mk (idxBy_any p l0)
  clear hr0 he hp
  go_enter Try.func24, Try.ntmps24
  go_wp2_with (go_at_call 47; refine HI.out.mono ?_; rintro e w1 ⟨rfl, hb⟩; have HB1 := Aside0.mk hb; clear hb)
  go_ret
  exact ⟨by rw [← HE.out]; rfl, HB1.out⟩

end Go.Proofs.Ytpknchaajgkbnaa.P

-- Written by wip/gprint.py, a program of this session over the kit's print; Lean checks it.
namespace Go.Proofs.Ytpknchaajgkbnaa.P
open Go.RowKit Go.Proofs.YtpknchaajgkbnaaW.PrintWords Go.Proofs.YtpknchaajgkbnaaW.PrintLast Go.Proofs.YtpknchaajgkbnaaW.PrintMore
attribute [local go_sem] max2_int min2_int max_two min_two max_three min_three max_four min_four   -- for this text's walks alone
set_option linter.unusedVariables false
set_option linter.unusedSimpArgs false

/-GIVEN 08away-/
end Go.Proofs.Ytpknchaajgkbnaa.P

-- Written by wip/gprint.py, a program of this session over the kit's print; Lean checks it.
namespace Go.Proofs.Ytpknchaajgkbnaa.P
open Go.RowKit Go.Proofs.YtpknchaajgkbnaaW.PrintWords Go.Proofs.YtpknchaajgkbnaaW.PrintLast Go.Proofs.YtpknchaajgkbnaaW.PrintMore
attribute [local go_sem] max2_int min2_int max_two min_two max_three min_three max_four min_four   -- for this text's walks alone
set_option linter.unusedVariables false
set_option linter.unusedSimpArgs false

/-GIVEN 09ups-/
/-- What lay in w lies in W: W is w, drawn and with more. -/
class Ups (w W : World) : Prop where
  up : ∀ (g : Nat) (o : Obj), w.heap[g]? = some o → W.heap[g]? = some o
instance Ups.same (w : World) : Ups w w := ⟨fun _ _ h => h⟩
instance Ups.alloc (w W : World) (o : Obj) [h : Ups w W] : Ups w (W.alloc o) := ⟨fun g x hx => blk_alloc (h.up g x hx) o⟩
instance Ups.drewN (w W : World) (n : Nat) [h : Ups w W] : Ups w (W.drewN n) := ⟨fun g x hx => h.up g x hx⟩
instance Ups.drew (w W : World) [h : Ups w W] : Ups w W.drew := ⟨fun g x hx => h.up g x hx⟩
theorem Ups.at {w W : World} (h : Ups w W) (k : Nat) (hk : k < w.heap.size) : W.heap[k]? = w.heap[k]? := by
  rw [Array.getElem?_eq_getElem hk]
  exact h.up k _ (Array.getElem?_eq_getElem hk)
/-- W is w, drawn and with more. -/
class UpB (w W : World) : Prop where
  up : Below w.heap.size w W
instance UpB.same (w : World) : UpB w w := ⟨Below.refl _ _⟩
instance UpB.alloc (w W : World) (o : Obj) [h : UpB w W] : UpB w (W.alloc o) := ⟨below_alloc h.up o⟩
instance UpB.drewN (w W : World) (n : Nat) [h : UpB w W] : UpB w (W.drewN n) := ⟨pw_below_drewN h.up n⟩
instance UpB.drew (w W : World) [h : UpB w W] : UpB w W.drew := ⟨below_drew1 h.up⟩
end Go.Proofs.Ytpknchaajgkbnaa.P

-- Written by wip/gprint.py, a program of this session over the kit's print; Lean checks it.
namespace Go.Proofs.Ytpknchaajgkbnaa.P
open Go.RowKit Go.Proofs.YtpknchaajgkbnaaW.PrintWords Go.Proofs.YtpknchaajgkbnaaW.PrintLast Go.Proofs.YtpknchaajgkbnaaW.PrintMore
attribute [local go_sem] max2_int min2_int max_two min_two max_three min_three max_four min_four   -- for this text's walks alone
set_option linter.unusedVariables false
set_option linter.unusedSimpArgs false

/-GIVEN 10round-/
/-- Operations that go the same in a round: they defer nothing and call no row of the runtime's. -/
def calmOps (ops : Array Oper) : Bool := ops.all fun o => match o.op with | .defer _ => false | _ => true
theorem Oper.wpIn_round {P : Program} {o : Oper} {a : Act} {w : World} {l n : Nat} {K : Act → World → Prop} {Q : Exit → Act → World → Prop} (ho : ∀ c, o.op ≠ .defer c) (hQ : ¬ LetsOut Q) (h : o.wp P a w K Q) : o.wpIn (Fence.wide.inRound l) n P a w K Q := by
  refine ⟨fun _ _ => trivial, ?_⟩
  rw [Oper.semAt_eq _ _ _ ho]
  unfold Oper.wp at h
  generalize hr : (execOp a.eval o).run P w = r at h
  cases r with
  | ok x w' =>
    cases x with
    | value v => exact h
    | skip => exact h
    | defer d => exact h
    | enter f args =>
      refine ⟨fun e => Bool.noConfusion (show false = true from e), CallsIn.inRound l (callsIn_wide.2 (Calls.mono h ?_))⟩
      intro e w'' he
      cases e <;> exact he
    | row row args => exact ⟨fun e => Bool.noConfusion (show false = true from e), fun c cs _ => let ⟨v, w2, r, s⟩ := h c cs; ⟨v, w2, r, stepsIn_wide.2 s⟩⟩
    | _ => exact h.elim
  | halt x w' =>
    cases x <;> first | exact h | exact h.elim
theorem wpAnyIn_round {P : Program} {md : Region.Mode} {ops : Array Oper} {l n : Nat} {Q : Exit → Act → World → Prop} (ho : calmOps ops = true) (hQ : ¬ LetsOut Q) :
    ∀ (fuel : Nat) (listed : Array Bool) (a : Act) (w : World), wpAny P md ops Q fuel listed a w → wpAnyIn (Fence.wide.inRound l) n P md ops Q fuel listed a w := by
  intro fuel
  induction fuel with
  | zero => exact fun _ _ _ h => h
  | succ fuel ih =>
    intro listed a w h
    refine ⟨h.1, fun i hi => ?_⟩
    have h2 := h.2 i hi
    unfold wpOp at h2
    unfold wpOpIn
    cases hoi : ops[i]? with
    | none => rw [hoi] at h2; exact ih _ _ _ h2
    | some o =>
      rw [hoi] at h2
      simp only at h2 ⊢
      have hmem : o ∈ ops := Array.mem_of_getElem? hoi
      have hnd : ∀ c, o.op ≠ .defer c := by
        intro c hc
        have := Array.all_eq_true_iff_forall_mem.mp ho o hmem
        simp [hc] at this
      split
      · rename_i hw
        rw [if_pos hw] at h2
        rcases h2 with h2 | h2
        · exact Oper.wpIn_round hnd hQ (Oper.wp_mono (fun a w hk => ih _ _ _ hk) h2)
        · exact absurd h2.2 hQ
      · rename_i hw
        rw [if_neg hw] at h2
        exact ⟨fun _ _ => trivial, ih _ _ _ h2⟩
/-- A region that draws its order, in a round: by the steps of one that stands in none. -/
theorem startIn_ {P : Program} {ops : Array Oper} {S : World → Prop} {ds : List Nat} {l m : Nat} {Q : Exit → Act → World → Prop} {id n : Nat} {a : Act} {w : World} (li : Array Bool) (hc : calmOps ops = true) (hQ : ¬ LetsOut Q) (hm : P.follows .mixedOrders = true) (hn : ops.size = n) (hl : Array.replicate n false = li) (hS : S w.drew)
    (h : S w.drew → wpAnyLast P .any ops Q S ds n li a w.drew) : (Code.region id ops true).wpIn (Fence.wide.inRound l) m P Q a w := by
  subst hn
  subst hl
  exact wpIn_region_any hm (wpAnyIn_round hc hQ _ _ _ _ (wpAny_of_last _ _ _ _ (h hS)))
end Go.Proofs.Ytpknchaajgkbnaa.P

-- Written by wip/gprint.py, a program of this session over the kit's print; Lean checks it.
namespace Go.Proofs.Ytpknchaajgkbnaa.P
open Go.RowKit Go.Proofs.YtpknchaajgkbnaaW.PrintWords Go.Proofs.YtpknchaajgkbnaaW.PrintLast Go.Proofs.YtpknchaajgkbnaaW.PrintMore
attribute [local go_sem] max2_int min2_int max_two min_two max_three min_three max_four min_four   -- for this text's walks alone
set_option linter.unusedVariables false
set_option linter.unusedSimpArgs false

/-GIVEN 11keep-/
theorem putObj_alloc (W : World) (o : Obj) {l : Nat} (b : Obj) (h : l < W.heap.size) : (W.alloc o).putObj l b = (W.putObj l b).alloc o := by
  show ({ W with heap := (W.heap.push o).setIfInBounds l b } : World) = { W with heap := (W.heap.setIfInBounds l b).push o }
  congr 1
  apply Array.ext_getElem?
  intro i
  have hne : ¬ W.heap.size = l := by omega
  by_cases e : l = i
  · subst e
    have h2 : l < (W.heap.push o).size := by simp; omega
    rw [Array.getElem?_setIfInBounds_self_of_lt h2, Array.getElem?_push, Array.size_setIfInBounds, if_neg (by omega), Array.getElem?_setIfInBounds_self_of_lt h]
  · rw [Array.getElem?_setIfInBounds_ne e, Array.getElem?_push, Array.getElem?_push, Array.size_setIfInBounds, Array.getElem?_setIfInBounds_ne e]
/-- A range over a function whose rounds never leave early, where what a round is handed is laid in a box of its own ahead of the body (assign). -/
theorem range_boxed {F : Fence} {n : Nat} {P : Program} {α : Type} {g : Operand} {ps : Array Tmp} {assign body : Code} {Q : Exit → Act → World → Prop} {a : Act} {w : World}
    (hro : F.round = none) (h1 : 1 ≤ n) {gf : Nat} {lb : Array Value} (hg : a.eval g = .func (.func gf) #[] lb) (hFg : F.fn gf) (eg : ∀ args w, (callFunc gf args).run P w = .ok (.enter gf args) w)
    (encs : α → Array Value) (hps : ∀ x, (encs x).size = ps.size) (S : List α → Prop) (N : Nat) (I : List α → World → Prop) (G : α → World → Prop)
    (hIb : ∀ pre W l o', (l = w.heap.size ∨ l = w.heap.size + 1) → I pre W → I pre (W.putObj l o'))
    (hGb : ∀ x W l o', (l = w.heap.size ∨ l = w.heap.size + 1) → G x W → G x (W.putObj l o'))
    (h0 : ∀ r : Loop, I [] ((w.alloc (.deferred (some []))).alloc (.loop r))) (a₁ : α → Nat → Act) (ob : α → Obj)
    (hassign : ∀ (l : Nat) (x : α) (W : World) (K : Act → World → Prop), K (a₁ x W.heap.size) (W.alloc (ob x)) →
      assign.wpIn (F.inRound l) (n - 1 - 1) P (Exit.then K (fun _ _ _ => False)) { tmps := (ps.zip (encs x)).foldl (fun t (p, v) => t.setIfInBounds p v) a.tmps, defers := [] } W)
    (hbody : ∀ (l : Nat) (pre : List α) (x : α) (W : World), I pre W → G x W → pre.length < N → body.wpIn (F.inRound l) (n - 1 - 1) P (fun e _ W' => e = .normal ∧ KeepsOthers W W' ∧ I (pre ++ [x]) W') (a₁ x W.heap.size) (W.alloc (ob x)))
    (hit : ∀ (l : Nat) (J : List α → World → Prop) (W : World), (∀ pre W, J pre W → I pre W) → (∀ pre pre' W W', J pre W → KeepsOthers W W' → I pre' W' → J pre' W') →
      (∀ pre x W1, J pre W1 → G x W1 → pre.length < N → YieldAt F (n - 1 - 1) P l (encs x) W1 fun e W' => e = .returned (.bool true) ∧ J (pre ++ [x]) W') → J [] W →
      CallsIn F (n - 1) P gf (#[.func (.yield l) #[] #[]] ++ lb) W fun e W' => (∃ v, e = .returned v) ∧ ∃ xs, S xs ∧ J xs W')
    (hdone : ∀ (D : Nat) (xs : List α) (W : World), D = w.heap.size → S xs → I xs W → W.heap[D]? = some (.deferred (some [])) → Q .normal { a with defers := { target := .collected D, args := #[] } :: a.defers } W) :
    (Code.rangeFunc g ps assign body).wpIn F n P Q a w := by
  refine wpIn_rangeFunc fun fn hfn => ?_
  rw [hro]
  let R : LoopState → Option Code → Loop := fun st pe => { state := st, pending := pe, fn := fn, tmps := a.tmps, params := ps, assign := assign, body := body, defers := w.heap.size }
  let W1 := (w.alloc (.deferred (some []))).alloc (.loop (R .ready none))
  have hL1 : W1.heap[w.heap.size + 1]? = some (.loop (R .ready none)) := by
    have := World.alloc_heap_new (w.alloc (.deferred (some []))) (.loop (R .ready none)); rwa [World.size_alloc] at this
  have hK1 : W1.heap[w.heap.size]? = some (.deferred (some [])) := (Below.heap_alloc _ _ _ (by simp)).trans (World.alloc_heap_new w _)
  refine ⟨w.heap.size + 1, _, W1, { target := .fn (.func gf) lb, args := #[.func (.yield (w.heap.size + 1)) #[] #[]] }, W1, gf, #[.func (.yield (w.heap.size + 1)) #[] #[]] ++ lb, W1,
    run_enterLoop_outer _ _ _ _ _, ?_, ?_, ?_, fun _ => h1, ?_⟩
  · simp only [resolve, hg]
    simp [go_sem]
  · intro f' hf'; simp [Target.leads] at hf'; subst hf'; exact hFg
  · simp [invoke, go_sem, eg]
  · refine (hit (w.heap.size + 1) (fun pre W => I pre W ∧ W.heap[w.heap.size + 1]? = some (.loop (R .ready none)) ∧ W.heap[w.heap.size]? = some (.deferred (some []))) W1
      (fun _ _ h => h.1) (fun _ _ _ _ h hk hi => ⟨hi, hk.same _ _ h.2.1 rfl, hk.same _ _ h.2.2 rfl⟩) ?_ ⟨h0 _, hL1, hK1⟩).mono ?_
    · rintro pre x W ⟨hi, hl, hk⟩ hG hN
      have hlt : w.heap.size + 1 < W.heap.size := (Array.getElem?_eq_some_iff.1 hl).1
      have hlA : (W.alloc (ob x)).heap[w.heap.size + 1]? = some (.loop { R .ready none with state := .ready }) := (Below.heap_alloc _ _ _ hlt).trans hl
      refine ⟨fn, _, assign, body, run_yield (P := P) (args := encs x) hl (hps x), roundIn_of_wpIn hfn (hassign _ x W _ ⟨_, run_beginRound hlA rfl, ?_⟩)⟩
      rw [putObj_alloc W (ob x) _ hlt]
      have hl2 := World.putObj_heap_same (o := .loop { R .ready none with state := .busy }) hlt
      have hk2 : (W.putObj (w.heap.size + 1) (.loop { R .ready none with state := .busy })).heap[w.heap.size]? = some (.deferred (some [])) := (World.putObj_heap_other (by omega)).trans hk
      have hbd := hbody (w.heap.size + 1) pre x _ (hIb pre W (w.heap.size + 1) (.loop { R .ready none with state := .busy }) (by omega) hi) (hGb x W (w.heap.size + 1) (.loop { R .ready none with state := .busy }) (by omega) hG) hN
      rw [World.putObj_size] at hbd
      refine wpIn_mono hbd ?_
      rintro e a3 W3 ⟨rfl, hk3, hi3⟩
      have hl3 := hk3.same _ _ hl2 rfl
      refine ⟨_, _, run_endRound none hl3, rfl, hIb _ _ _ _ (by omega) hi3, World.putObj_heap_same (Array.getElem?_eq_some_iff.1 hl3).1, (World.putObj_heap_other (by omega)).trans (hk3.same _ _ hk2 rfl)⟩
    · rintro e W2 ⟨⟨v, rfl⟩, xs, hS, hi, hl, hk⟩
      exact ⟨none, _, run_endLoop (P := P) hl (by simp [R]), hdone _ xs _ rfl hS (hIb _ _ _ _ (by omega) hi) ((World.putObj_heap_other (by omega)).trans hk)⟩


/-- One more element behind a row of rows of one's own that lead to what is read. -/
theorem N_pushS {α : Type} {d : Kd α} {e base : Nat} {ok : Nat → Prop} {W : World} {v : Value} {xs : List α} (h : Kd.N d e W base ok v xs) (hfresh : ∀ k, W.heap.size ≤ k → ok k) :
    ∃ inner, W.ownsRow base e d.sz v xs.length inner ∧ ∀ (o : Obj) (t : α) (u : List Value) (okp : Nat → Prop) (v1 : Value) (w1 : World), Kd.FK d W okp t u → (∀ k, okp k → ok k ∧ some k ≠ v.ownBlock) → w1.ownsRow base e d.sz v1 (xs.length + 1) (inner ++ u) → (W.alloc o).grownBy w1 v.ownBlock → (v1.ownBlock = v.ownBlock ∨ v1.ownBlock = some (W.alloc o).heap.size) → Kd.N d e w1 base ok v1 (xs ++ [t]) := by
  have hal := fun o => Kd.N_alloc h o
  obtain ⟨h0, rows, hl, ⟨h0', inner, hown, hr⟩, hf⟩ := h
  have hsz' : (Kd.raw d.sz).sz = d.sz := rfl
  rw [hsz', hl] at hown
  refine ⟨inner, hown, fun o t u okp v1 w1 hc hokp hown1 hg hat => ?_⟩
  have hat' : v1.ownBlock = v.ownBlock ∨ ∃ b, v1.ownBlock = some b ∧ (W.alloc o).heap.size ≤ b := hat.imp id (fun e => ⟨_, e, Nat.le_refl _⟩)
  have hR : (Kd.raw d.sz).R e w1 base (fun _ => True) v1 (rows ++ [u]) := Kd.R_appended (W := W.alloc o) (okp := fun _ => False) (fun _ _ => trivial) hr (Kd.FK_raw hc) (fun _ hk => hk.elim) (fun _ _ => trivial) (by rw [hsz', hl]; exact hown1) hg hat'
  refine Kd.N_appended (W := W.alloc o) (news := [u]) (ys := [t]) (okp := okp) h0 hl (fun j x c hx hc2 => Kd.FK_below (hf j x c hx hc2) (below_alloc (Below.refl _ _) o)) rfl ?_ hokp (fun k hk => hfresh k (by rw [World.size_alloc] at hk; omega)) hR hg hat'
  intro j x c hx hc2
  cases j with
  | zero =>
    simp at hx hc2
    subst hx; subst hc2
    exact Kd.FK_below hc (below_alloc (Below.refl _ _) o)
  | succ j => simp at hx

end Go.Proofs.Ytpknchaajgkbnaa.P

-- Written by wip/gprint.py, a program of this session over the kit's print; Lean checks it.
namespace Go.Proofs.Ytpknchaajgkbnaa.P
open Go.RowKit Go.Proofs.YtpknchaajgkbnaaW.PrintWords Go.Proofs.YtpknchaajgkbnaaW.PrintLast Go.Proofs.YtpknchaajgkbnaaW.PrintMore
attribute [local go_sem] max2_int min2_int max_two min_two max_three min_three max_four min_four   -- for this text's walks alone
set_option linter.unusedVariables false
set_option linter.unusedSimpArgs false

/-GIVEN 13rows-/
def okSp (x : S38) : Bool := decide (x.f1.length < 140737488355328) && decide (x.f2.length < 140737488355328)
/-- A row of one's own that leads to what is shared: its block. -/
theorem N_block {α : Type} {d : Kd α} {e base : Nat} {ok : Nat → Prop} {W : World} {v : Value} {xs : List α} (h : Kd.N d e W base ok v xs) :
    ∃ A c, v = .slice A xs.length c ∧ xs.length ≤ c ∧ (0 < xs.length → ∃ (g : Nat) (cur : List Value), A = some ⟨g, 0, none⟩ ∧ base ≤ g ∧ W.heap[g]? = some (.cells cur.toArray e (0, 0)) ∧ xs.length * d.sz ≤ cur.length ∧
      ∀ j x, xs[j]? = some x → Kd.FK d W (fun k => ok k ∧ k ≠ g) x ((cur.drop (j * d.sz)).take d.sz)) := by
  obtain ⟨h0, rows, hl, ⟨_, inner, ⟨hlen, hown⟩, hr⟩, hf⟩ := h
  rcases hown with ⟨rfl, h1⟩ | ⟨g, cap, cur, rfl, hb, hg, hc, hcm, hcs, hi⟩
  · exact ⟨none, 0, by rw [← hl, h1], by omega, fun h => by omega⟩
  · refine ⟨_, cap, by rw [hl], by omega, fun hn => ⟨g, cur.toList, rfl, hb, hg, ?_, fun j x hx => ?_⟩⟩
    · have e1 : cur.toList.length = cap * d.sz := (Array.length_toList).trans hcs
      rw [e1, ← hl]
      exact Nat.mul_le_mul_right _ hc
    · have hjx : j < xs.length := (List.getElem?_eq_some_iff.1 hx).1
      obtain ⟨c, hc1⟩ : ∃ c, rows[j]? = some c := ⟨_, List.getElem?_eq_getElem (by omega)⟩
      have h2 := hr.2 j c hc1
      have h3 : (inner.drop (j * d.sz)).take d.sz = c := h2.1
      have h4 : (cur.toList.drop (j * d.sz)).take d.sz = c := by
        rw [← h3, ← hi, List.drop_take, List.take_take]
        congr 1
        have : j * d.sz + d.sz ≤ rows.length * d.sz := by rw [← Nat.succ_mul]; exact Nat.mul_le_mul_right _ (by omega)
        have e1 : (Kd.raw d.sz).sz = d.sz := rfl
        rw [e1]
        omega
      rw [h4]
      refine Kd.FK_mono (hf j x c hx hc1) (fun k hk => ⟨hk.1, fun he => hk.2 ?_⟩)
      subst he
      rfl
/-- .. and back: a block of elements, each told apart from what may still be written. -/
theorem F_of_block {α : Type} {d : Kd α} {W : World} {A : Option Addr} {t : Nat} {ok : Nat → Prop} {l : List α} (hm : l.length ≤ 9223372036854775807)
    (h : 0 < l.length → ∃ (g : Nat) (cur : List Value), A = some ⟨g, 0, none⟩ ∧ W.heap[g]? = some (.cells cur.toArray t (0, 0)) ∧ ok g ∧ l.length * d.sz ≤ cur.length ∧ ∀ j p, l[j]? = some p → Kd.FK d W ok p ((cur.drop (j * d.sz)).take d.sz)) :
    Kd.F d W ok A l.length l := by
  refine fun W' hW => ⟨rfl, hm, fun hn => ?_⟩
  obtain ⟨g, cur, rfl, hg, hok, hl, hE⟩ := h hn
  refine ⟨⟨g, 0, none⟩, rfl, fun j p hj => ⟨(cur.drop (j * d.sz)).take d.sz, ?_, hE j p hj W' hW, fun i u hu => ?_⟩⟩
  · have hjl : j < l.length := (List.getElem?_eq_some_iff.1 hj).1
    have : j * d.sz + d.sz ≤ l.length * d.sz := by rw [← Nat.succ_mul]; exact Nat.mul_le_mul_right _ hjl
    rw [List.length_take, List.length_drop]; omega
  · have hg' : W'.heap[g]? = some (.cells cur.toArray t (0, 0)) := (hW g hok (blk_lt hg)).trans hg
    have hi : i < d.sz := by
      have := (List.getElem?_eq_some_iff.1 hu).1
      rw [List.length_take] at this; omega
    rw [add_plain, blk_cell hg']
    rw [← hu, ← chunk_at hi]
    simp
theorem meas_stepK (n k : Nat) (h : k < n) : n - (intOf (.int .i64 ((k : Int) + 1))).toNat < n - (intOf (.int .i64 (k : Int))).toNat := by
  simp only [intOf]
  omega
def RowSt {α : Type} (d : Kd α) (t : Nat) (wr : World) (A : Option Addr) (l : List α) (k B : Nat) (D U : Nat → Prop) : Prop :=
  0 < l.length → A = some ⟨B, 0, none⟩ ∧ B < wr.heap.size ∧ ∃ cur : List Value, wr.heap[B]? = some (.cells cur.toArray t (0, 0)) ∧ l.length * d.sz ≤ cur.length ∧
    ∀ j p, l[j]? = some p → (j < k → Kd.FK d wr D p ((cur.drop (j * d.sz)).take d.sz)) ∧ (k ≤ j → Kd.FK d wr U p ((cur.drop (j * d.sz)).take d.sz))
theorem RowSt.step {α : Type} {d : Kd α} {t : Nat} {wr wr1 : World} {A : Option Addr} {l : List α} {k B : Nat} {D U : Nat → Prop} (h : RowSt d t wr A l k B D U) (hs : wr.heap.size ≤ wr1.heap.size)
    (hB : 0 < l.length → B < wr.heap.size → wr1.heap[B]? = wr.heap[B]?) (hD : ∀ q, 0 < k → D q → q < wr.heap.size → wr1.heap[q]? = wr.heap[q]?) (hU : ∀ q, 0 < l.length → U q → q < wr.heap.size → wr1.heap[q]? = wr.heap[q]?) : RowSt d t wr1 A l k B D U := by
  intro hn
  obtain ⟨h1, h2, cur, h3, h4, h5⟩ := h hn
  exact ⟨h1, by omega, cur, (hB hn h2).trans h3, h4, fun j p hj => ⟨fun hk => Kd.FK_step ((h5 j p hj).1 hk) (fun q hq hl => hD q (by omega) hq hl), fun hk => Kd.FK_step ((h5 j p hj).2 hk) (fun q hq hl => hU q hn hq hl)⟩⟩
theorem RowSt.below {α : Type} {d : Kd α} {t : Nat} {wr wr1 : World} {A : Option Addr} {l : List α} {k B : Nat} {D U : Nat → Prop} (h : RowSt d t wr A l k B D U) (hb : Below wr.heap.size wr wr1) : RowSt d t wr1 A l k B D U :=
  h.step hb.size (fun _ hl => hb.block _ hl) (fun _ _ _ hl => hb.block _ hl) (fun _ _ _ hl => hb.block _ hl)
theorem RowSt.of_block {α : Type} {d : Kd α} {t base : Nat} {wr : World} {A : Option Addr} {l : List α} {ok : Nat → Prop} (hw : 0 < wr.heap.size) (h : 0 < l.length → ∃ (g : Nat) (cur : List Value), A = some ⟨g, 0, none⟩ ∧ base ≤ g ∧ wr.heap[g]? = some (.cells cur.toArray t (0, 0)) ∧ l.length * d.sz ≤ cur.length ∧
      ∀ j x, l[j]? = some x → Kd.FK d wr (fun k => ok k ∧ k ≠ g) x ((cur.drop (j * d.sz)).take d.sz)) :
    ∃ B, (0 < l.length → base ≤ B) ∧ B < wr.heap.size ∧ (base ≤ B ∨ B = 0) ∧ ∀ D, RowSt d t wr A l 0 B D (fun q => ok q ∧ q ≠ B) := by
  by_cases hn : 0 < l.length
  · obtain ⟨g, cur, h1, h2, h3, h4, h5⟩ := h hn
    exact ⟨g, fun _ => h2, blk_lt h3, .inl h2, fun D _ => ⟨h1, blk_lt h3, cur, h3, h4, fun j p hj => ⟨fun hk => absurd hk (Nat.not_lt_zero _), fun _ => h5 j p hj⟩⟩⟩
  · exact ⟨0, fun h => absurd h hn, hw, .inr rfl, fun D h => absurd h hn⟩

end Go.Proofs.Ytpknchaajgkbnaa.P

-- Written by wip/gprint.py, a program of this session over the kit's print; Lean checks it.
namespace Go.Proofs.Ytpknchaajgkbnaa.P
open Go.RowKit Go.Proofs.YtpknchaajgkbnaaW.PrintWords Go.Proofs.YtpknchaajgkbnaaW.PrintLast Go.Proofs.YtpknchaajgkbnaaW.PrintMore
attribute [local go_sem] max2_int min2_int max_two min_two max_three min_three max_four min_four   -- for this text's walks alone
set_option linter.unusedVariables false
set_option linter.unusedSimpArgs false

/-GIVEN 14rowN-/
theorem N_open {α : Type} {d : Kd α} {e base : Nat} {ok : Nat → Prop} {W : World} {v : Value} {xs : List α} (h : Kd.N d e W base ok v xs) :
    (v = .slice none 0 0 ∧ xs = []) ∨ ∃ (g cap : Nat) (cur : List Value), v = .slice (some ⟨g, 0, none⟩) xs.length cap ∧ base ≤ g ∧ ok g ∧ W.heap[g]? = some (.cells cur.toArray e (0, 0)) ∧ xs.length ≤ cap ∧ cap ≤ maxLen ∧ cur.length = cap * d.sz ∧
      ∀ j x, xs[j]? = some x → Kd.FK d W (fun k => ok k ∧ k ≠ g) x ((cur.drop (j * d.sz)).take d.sz) := by
  obtain ⟨h0, rows, hl, ⟨_, inner, ⟨hlen, hown⟩, hr⟩, hf⟩ := h
  rcases hown with ⟨rfl, h1⟩ | ⟨g, cap, cur, rfl, hb, hg, hc, hcm, hcs, hi⟩
  · exact .inl ⟨rfl, List.length_eq_zero_iff.1 (by omega)⟩
  · refine .inr ⟨g, cap, cur.toList, by rw [hl], hb, h0 g rfl, hg, by omega, hcm, by rw [Array.length_toList]; exact hcs, fun j x hx => ?_⟩
    have hjx : j < xs.length := (List.getElem?_eq_some_iff.1 hx).1
    obtain ⟨c, hc1⟩ : ∃ c, rows[j]? = some c := ⟨_, List.getElem?_eq_getElem (by omega)⟩
    have h2 := hr.2 j c hc1
    have h3 : (inner.drop (j * d.sz)).take d.sz = c := h2.1
    have h4 : (cur.toList.drop (j * d.sz)).take d.sz = c := by
      rw [← h3, ← hi, List.drop_take, List.take_take]
      congr 1
      have : j * d.sz + d.sz ≤ rows.length * d.sz := by rw [← Nat.succ_mul]; exact Nat.mul_le_mul_right _ (by omega)
      have e1 : (Kd.raw d.sz).sz = d.sz := rfl
      rw [e1]
      omega
    rw [h4]
    refine Kd.FK_mono (hf j x c hx hc1) (fun k hk => ⟨hk.1, fun he => hk.2 ?_⟩)
    subst he
    rfl
theorem chunk_front {cur : List Value} {a b n : Nat} (h : a + b ≤ n) : (cur.drop a).take b = ((cur.take n).drop a).take b := by
  rw [List.drop_take, List.take_take, Nat.min_eq_left (by omega)]
theorem N_shut {α : Type} {d : Kd α} {e base : Nat} {ok : Nat → Prop} {W : World} {xs : List α} {g cap : Nat} {cur : List Value} (hb : base ≤ g) (hok : ok g) (hg : W.heap[g]? = some (.cells cur.toArray e (0, 0))) (hc : xs.length ≤ cap) (hcm : cap ≤ maxLen) (hs : cur.length = cap * d.sz)
    (hf : ∀ j x, xs[j]? = some x → Kd.FK d W (fun k => ok k ∧ k ≠ g) x ((cur.drop (j * d.sz)).take d.sz)) : Kd.N d e W base ok (.slice (some ⟨g, 0, none⟩) xs.length cap) xs := by
  have hle : xs.length * d.sz ≤ cur.length := by rw [hs]; exact Nat.mul_le_mul_right _ hc
  have hch : ∀ j, j < xs.length → (cur.drop (j * d.sz)).take d.sz = ((cur.take (xs.length * d.sz)).drop (j * d.sz)).take d.sz := fun j hj => chunk_front (by rw [← Nat.succ_mul]; exact Nat.mul_le_mul_right _ hj)
  have hreps : Reps (fun x c => Kd.FK d W (fun k => ok k ∧ k ≠ g) x c) d.sz xs (cur.take (xs.length * d.sz)) := by
    refine ⟨by rw [List.length_take]; omega, fun j x hx => ?_⟩
    rw [← hch j (List.getElem?_eq_some_iff.1 hx).1]
    exact hf j x hx
  refine ⟨fun k hk => by simp [Value.ownBlock] at hk; subst hk; exact hok, Kd.chunks d.sz xs.length (cur.take (xs.length * d.sz)), Kd.chunks_length _ _ _, ⟨fun k hk => hk.symm, cur.take (xs.length * d.sz), ?_, Kd.reps_raw hreps (fun x c hp => ⟨d.K_len (Kd.FK_now hp), d.K_one (Kd.FK_now hp)⟩)⟩, fun j x c hx hc1 => ?_⟩
  · rw [Kd.chunks_length]
    exact ⟨by show (cur.take _).length = xs.length * d.sz; rw [List.length_take]; omega, .inr ⟨g, cap, cur.toArray, rfl, hb, hg, hc, hcm, hs, rfl⟩⟩
  · rw [Kd.chunks_get hc1, ← hch j (List.getElem?_eq_some_iff.1 hx).1]
    exact Kd.FK_mono (hf j x hx) (fun k hk => ⟨hk.1, fun he => hk.2 (by simpa [Value.ownBlock] using he)⟩)
/-- The first ones of a row, in whose block nothing was written ahead of their end. -/
theorem N_front {α : Type} {d : Kd α} {e base : Nat} {ok : Nat → Prop} {W W1 : World} {xs : List α} {g n cap k : Nat} {cur cur' : List Value} (h : Kd.N d e W base ok (.slice (some ⟨g, 0, none⟩) n cap) xs) (hgr : W.grownBy W1 (some g))
    (h0 : W.heap[g]? = some (.cells cur.toArray e (0, 0))) (h1 : W1.heap[g]? = some (.cells cur'.toArray e (0, 0))) (hl : cur'.length = cur.length) (hk : k ≤ xs.length) (ht : cur'.take (k * d.sz) = cur.take (k * d.sz)) :
    Kd.N d e W1 base ok (.slice (some ⟨g, 0, none⟩) k cap) (xs.take k) := by
  rcases N_open h with ⟨hv, _⟩ | ⟨g', cap', cur1, hv, hb, hok, hg, hc, hcm, hs, hf⟩
  · cases hv
  · injection hv with e1 e2 e3
    injection e1 with e1
    injection e1 with e1
    subst e1 e3 e2
    rw [hg] at h0
    injection h0 with h0
    injection h0 with h0 _ _
    have h0' : cur1 = cur := by simpa using h0
    subst h0'
    have hlt : (xs.take k).length = k := by rw [List.length_take]; omega
    have := N_shut (d := d) (e := e) (base := base) (ok := ok) (W := W1) (xs := xs.take k) (cap := cap) hb hok h1 (by omega) hcm (by omega) (fun j x hx => by
      have hj : j < k := by have := (List.getElem?_eq_some_iff.1 hx).1; omega
      have hx' : xs[j]? = some x := by rw [← hx, List.getElem?_take, if_pos hj]
      have hle : j * d.sz + d.sz ≤ k * d.sz := by rw [← Nat.succ_mul]; exact Nat.mul_le_mul_right _ hj
      rw [chunk_front hle, ht, ← chunk_front hle]
      exact Kd.FK_step (hf j x hx') (fun q hq hl => hgr.block q hl (fun he => hq.2 (by injection he))))
    rwa [hlt] at this
/-- A row of elements that lie in one block. -/
theorem C_of_block {α : Type} {d : Kd α} {W : World} {g t : Nat} {l : List α} {cur : List Value} (hm : l.length ≤ 9223372036854775807) (hg : W.heap[g]? = some (.cells cur.toArray t (0, 0))) (hl : l.length * d.sz ≤ cur.length) (hE : ∀ j p, l[j]? = some p → d.K W p ((cur.drop (j * d.sz)).take d.sz)) :
    Kd.C d W (some ⟨g, 0, none⟩) l.length l := by
  refine ⟨rfl, hm, fun hn => ⟨⟨g, 0, none⟩, rfl, fun j p hj => ⟨(cur.drop (j * d.sz)).take d.sz, ?_, hE j p hj, fun i u hu => ?_⟩⟩⟩
  · have hjl : j < l.length := (List.getElem?_eq_some_iff.1 hj).1
    have : j * d.sz + d.sz ≤ l.length * d.sz := by rw [← Nat.succ_mul]; exact Nat.mul_le_mul_right _ hjl
    rw [List.length_take, List.length_drop]; omega
  · have hi : i < d.sz := by
      have := (List.getElem?_eq_some_iff.1 hu).1
      rw [List.length_take] at this; omega
    rw [add_plain, blk_cell hg]
    rw [← hu, ← chunk_at hi]
    simp
/-- clear(s[i:]) of a row in one block: what lies ahead stays. -/
theorem run_clear_rows {P : Program} (w : World) (t e : TypeId) (ht : P.underlying t = some (.slice e)) (sz : Nat) (zv : Value) (hz : ∀ w, (zeroValue e).run P w = .ok zv w) (hzs : zv.cells.size = sz) (h1 : ∀ u ∈ zv.cells, u.oneCell' = true) (h0 : 0 < sz)
    (g te : Nat) (cur : List Value) (hg : w.heap[g]? = some (.cells cur.toArray te (0, 0))) (A : Option Addr) (m c i : Nat) (hA : 0 < m → A = some ⟨g, i * sz, none⟩) (hfit : (i + m) * sz ≤ cur.length) :
    ∃ (w' : World) (cur' : List Value), (∀ ty, (Builtin.clear_ #[t] ty #[.slice A m c]).run P w = .ok (.tuple #[]) w') ∧ w.grownBy w' (some g) ∧ w'.heap[g]? = some (.cells cur'.toArray te (0, 0)) ∧ cur'.length = cur.length ∧ cur'.take (i * sz) = cur.take (i * sz) := by
  by_cases hm : m = 0
  · subst hm
    refine ⟨w, cur, fun ty => ?_, World.grownBy.refl _ _, hg, rfl, rfl⟩
    cases A <;> simp [Builtin.clear_, run_underlying ht]
  · have hA' := hA (by omega)
    subst hA'
    obtain ⟨zs, hzz⟩ : ∃ zs, zs = (Builtin.zeroCells zv.cells m).toList := ⟨_, rfl⟩
    have hzl : zs.length = m * sz := by rw [hzz]; simp [Builtin.zeroCells, hzs]
    have hz1 : ∀ u ∈ zs, u.oneCell' = true := by
      intro u hu
      rw [hzz] at hu
      simp only [Builtin.zeroCells, Array.toList_map, List.mem_map] at hu
      obtain ⟨q, _, rfl⟩ := hu
      refine h1 _ ?_
      have hq : q % zv.cells.size < zv.cells.size := Nat.mod_lt _ (by omega)
      rw [getElem!_pos zv.cells _ hq]
      exact Array.getElem_mem hq
    rw [Nat.add_mul] at hfit
    have hst := run_storeCells_at P g (i * sz) te zs 0 cur.toArray w hg (by simp; omega) hz1
    simp only [Nat.add_zero] at hst
    obtain ⟨m', rfl⟩ : ∃ m', m = m' + 1 := ⟨m - 1, by omega⟩
    refine ⟨w.setRow g (cur.take (i * sz) ++ zs ++ cur.drop (i * sz + zs.length)).toArray, cur.take (i * sz) ++ zs ++ cur.drop (i * sz + zs.length), fun ty => ?_, ?_, ?_, ?_, ?_⟩
    · have e1 : (Builtin.clear_ #[t] ty #[.slice (some ⟨g, i * sz, none⟩) (m' + 1) c]).run P w = ((storeCells ⟨g, i * sz, none⟩ (Builtin.zeroCells zv.cells (m' + 1)).toList).run P w).andThen fun _ w' => .ok (.tuple #[]) w' := by
        simp [Builtin.clear_, run_underlying ht, hz, Sem.run_bind, Result.andThen_ok]
      rw [e1, ← hzz, hst]
      rfl
    · exact ⟨rfl, rfl, rfl, by simp [World.setRow], fun k hk hne => setRow_other w g k _ (by first | exact fun he => hne (by rw [he]) | (intro he; exact hne (by rw [he])) | omega)⟩
    · exact setRow_heap w g _ _ te _ hg
    · simp only [List.length_append, List.length_take, List.length_drop]; omega
    · rw [List.append_assoc, List.take_append_of_le_length (by rw [List.length_take]; omega), List.take_take, Nat.min_self]
/-- A store into an element, as a step of a region that draws. -/
theorem N_store_step {P : Program} {ops : Array Oper} {o : Oper} {a : Act} {Q : Exit → Act → World → Prop} {Kc : Act → World → Prop} {α : Type} (d : Kd α) {W : World} (base : Nat) (hw : Region.wanted o (yielded ops a.tmps) = true) (hN : o.dst = none) (t : TypeId) (p x : Operand) (ho : o.op = .store t p x) (e : TypeId) {g n cap o' : Nat} (i : Int) (j : Nat) (xs : List α) (x' : α) (u : Value) (seg c : List Value) (ok okp : Nat → Prop)
    (haddr : a.eval p = .pointer (some ⟨g, o', none⟩)) (hoff : o' = i.toNat * d.sz + j) (hx : a.eval x = u) (hu : u.cells.toList = seg) (ht : (P.info? t).map (·.size) = some seg.length) (h1 : ∀ q ∈ seg, q.oneCell' = true)
    (HO : Kd.N d e W base ok (.slice (some ⟨g, 0, none⟩) n cap) xs) (h0 : 0 ≤ i) (hi : i < n) (hcl : c.length = d.sz) (hcc : ∀ j u, c[j]? = some u → W.cell? ⟨g, i.toNat * d.sz + j, none⟩ = some u)
    (hj : j + seg.length ≤ d.sz) (hM : Kd.FK d W okp x' (c.take j ++ seg ++ c.drop (j + seg.length))) (hokp : ∀ k, okp k → ok k ∧ k ≠ g)
    (h : ∀ w1, Kd.N d e w1 base ok (.slice (some ⟨g, 0, none⟩) n cap) (xs.set i.toNat x') → W.grownBy w1 (some g) → Kc a w1) : if Region.wanted o (yielded ops a.tmps) = true then Oper.wp P o a W Kc Q else Kc (a.put none undef) W := by
  subst hoff
  obtain ⟨hown0, rows, hl, hRr, hf⟩ := HO
  have HR := Kd.raw_any hRr
  obtain ⟨hrow, hg⟩ := Kd.R_seg (x' := c.take j ++ seg ++ c.drop (j + seg.length)) (okp := fun _ => False) HR i h0 hi hcl hcc hj (Kd.FK_raw hM) (fun _ hk => hk.elim)
  have hnx : n = rows.length := (Kd.R_reads' HR).1
  obtain ⟨_, inner, hown, hr⟩ := HR
  have hil : i.toNat < n := by omega
  rw [if_pos hw]
  have hrun : (Instr.storeAt t (.pointer (some ⟨g, i.toNat * d.sz + j, none⟩)) u).run P W = .ok () (W.setCells g (i.toNat * d.sz + j) seg) := by
    rcases hown.2 with ⟨hv, _⟩ | ⟨g', cap', cur, hv, hb, hh, hnc, hcm, hcs, _⟩
    · cases hv
    injection hv with ha _ hc
    injection ha with ha
    injection ha with hg'
    subst hg'; subst hc
    refine run_store_run t u seg hh hu ht ?_ h1
    have h2 : i.toNat * d.sz + d.sz ≤ n * d.sz := by rw [← Nat.succ_mul]; exact Nat.mul_le_mul_right _ hil
    have h3 : n * d.sz ≤ cap * d.sz := Nat.mul_le_mul_right _ (by omega)
    have h4 : cur.size = cap * d.sz := hcs
    omega
  unfold Oper.wp execOp
  simp only [ho, haddr, hx, Sem.run_bind, Sem.run_pure, Result.andThen_ok, hrun]
  show Kc (a.put o.dst undef) _
  rw [hN]
  exact h _ (Kd.N_written hown0 hl hf hrow hg hM hokp) hg
/-- A cut from a place on, by its run's equation. -/
theorem wpList_cut {P : Program} {w : World} {ops : Array Oper} {rest : List Oper} {o : Oper} {a : Act} {Q : Exit → Act → World → Prop} (hgd : o.guard = none) {N : Tmp} (hN : o.dst = some N) (t e : TypeId) (htu : P.underlying t = some (.slice e)) (x y : Operand) (ho : o.op = .slice t x (some y) none none) (vx vy v : Value) (hx : a.eval x = vx) (hy : a.eval y = vy)
    (hrun : ∀ W, (Instr.slice t vx (some vy) none none).run P W = .ok v W) (h : wpList P ops Q rest (a.put (some N) v) w) : wpList P ops Q (o :: rest) a w := by
  refine wpList_plain hgd fun K hK => ?_
  have hr : (execOp a.eval o).run P w = .ok (.value v) w := by
    unfold execOp
    have h1 : (Instr.sliceAt t vx (some vy) none none).run P w = .ok v w := by
      rw [← hrun w]
      simp [Instr.sliceAt, run_underlying htu]
    simp [ho, hx, hy, h1, Sem.run_bind, Result.andThen]
  unfold Oper.wp
  rw [hr]
  show K (a.put o.dst v) w
  rw [hN]
  exact hK _ _ h
theorem wp_np {P : Program} {c : Code} {a : Act} {w : World} {Q : Exit → Act → World → Prop} (h : c.wp P (fun e a w => (∀ ch, e ≠ .panic ch) ∧ Q e a w) a w) : c.wp P Q a w := wp_mono h (fun _ _ _ h => h.2)

end Go.Proofs.Ytpknchaajgkbnaa.P

-- Written by wip/gprint.py, a program of this session over the kit's print; Lean checks it.
namespace Go.Proofs.Ytpknchaajgkbnaa.P
open Go.RowKit Go.Proofs.YtpknchaajgkbnaaW.PrintWords Go.Proofs.YtpknchaajgkbnaaW.PrintLast Go.Proofs.YtpknchaajgkbnaaW.PrintMore
attribute [local go_sem] max2_int min2_int max_two min_two max_three min_three max_four min_four   -- for this text's walks alone
set_option linter.unusedVariables false
set_option linter.unusedSimpArgs false

/-GIVEN 14spanB-/
def inB (x : S38) (t : Int) (k : List Int) : Bool := decide (x.f0 = t) && (decide (Lib.compareBytes (Lib.bytesOf x.f1) (Lib.bytesOf k) ≤ 0) && (x.f3 || decide (Lib.compareBytes (Lib.bytesOf k) (Lib.bytesOf x.f2) < 0)))
def checkB (x : S38) : Bool := decide (0 ≤ x.f0) && (decide (x.f0 < 4) && (decide (x.f1.length ≤ 17) && (decide (x.f2.length ≤ 17) && (!x.f3 || decide (x.f2.length = 0)))))
def emptyB (x : S38) : Bool := !x.f3 && decide (Lib.compareBytes (Lib.bytesOf x.f2) (Lib.bytesOf x.f1) ≤ 0)
def coversB (x y : S38) : Bool := emptyB y || (decide (x.f0 = y.f0) && (decide (Lib.compareBytes (Lib.bytesOf x.f1) (Lib.bytesOf y.f1) ≤ 0) && (x.f3 || (!y.f3 && decide (Lib.compareBytes (Lib.bytesOf y.f2) (Lib.bytesOf x.f2) ≤ 0)))))
end Go.Proofs.Ytpknchaajgkbnaa.P

-- Written by wip/gprint.py, a program of this session over the kit's print; Lean checks it.
namespace Go.Proofs.Ytpknchaajgkbnaa.P
open Go.RowKit Go.Proofs.YtpknchaajgkbnaaW.PrintWords Go.Proofs.YtpknchaajgkbnaaW.PrintLast Go.Proofs.YtpknchaajgkbnaaW.PrintMore
attribute [local go_sem] max2_int min2_int max_two min_two max_three min_three max_four min_four   -- for this text's walks alone
set_option linter.unusedVariables false
set_option linter.unusedSimpArgs false

/-GIVEN 15del.Span-/
theorem zero_Span : ∀ w, (zeroValue 38).run Try.prog w = .ok (.agg #[.int .i64 0, .slice none 0 0, .slice none 0 0, .bool false]) w := fun w => by kernel_rfl
theorem idxBy_spec {α : Type} (p : α → Bool) : ∀ (l : List α), (idxBy p l = -1 ∧ ∀ x ∈ l, p x = false) ∨ ∃ (k : Nat) (x : α), l[k]? = some x ∧ idxBy p l = (k : Int) ∧ p x = true ∧ ∀ j y, j < k → l[j]? = some y → p y = false
  | [] => .inl ⟨rfl, fun x hx => by cases hx⟩
  | y :: l => by
    cases h : p y with
    | true => exact .inr ⟨0, y, rfl, by rw [idxBy, if_pos h]; rfl, h, fun j _ hj => absurd hj (Nat.not_lt_zero _)⟩
    | false =>
      have h' : ¬ p y = true := by rw [h]; decide
      rcases idxBy_spec p l with ⟨e, ha⟩ | ⟨k, x, hk, e, ht, ha⟩
      · refine .inl ⟨by rw [idxBy, if_neg h', e, if_pos (by decide)], fun x hx => ?_⟩
        rcases List.mem_cons.1 hx with rfl | hx
        · exact h
        · exact ha x hx
      · refine .inr ⟨k + 1, x, hk, by rw [idxBy, if_neg h', e, if_neg (by omega)]; omega, ht, fun j z hj hz => ?_⟩
        cases j with
        | zero => cases hz; exact h
        | succ j => exact ha j z (by omega) hz
def KeptL {α : Type} (p : α → Bool) (l : List α) (i j : Nat) (ys : List α) : Prop := ys.length = l.length ∧ i < j ∧ ys.take i = (l.take j).filter (fun x => !p x) ∧ ys.drop j = l.drop j
theorem take_snoc' {α : Type} {l : List α} {j : Nat} {x : α} (h : l[j]? = some x) : l.take (j + 1) = l.take j ++ [x] := by
  rw [List.take_add_one, h]; rfl
theorem KeptL.start {α : Type} {p : α → Bool} {l : List α} {k : Nat} {x : α} (hx : l[k]? = some x) (hp : p x = true) (ha : ∀ j y, j < k → l[j]? = some y → p y = false) : KeptL p l k (k + 1) l := by
  refine ⟨rfl, by omega, ?_, rfl⟩
  rw [take_snoc' hx, List.filter_append]
  have e : [x].filter (fun x => !p x) = [] := by simp [hp]
  rw [e, List.append_nil, List.filter_eq_self.2]
  intro y hy
  obtain ⟨j, hj, rfl⟩ := List.getElem_of_mem hy
  rw [List.length_take] at hj
  rw [List.getElem_take, ha j l[j] (by omega) (List.getElem?_eq_getElem _)]
  rfl
theorem KeptL.at_ {α : Type} {p : α → Bool} {l : List α} {i j : Nat} {ys : List α} (h : KeptL p l i j ys) {m : Nat} (hm : j ≤ m) : ys[m]? = l[m]? := by
  have e := congrArg (fun q => q[m - j]?) h.2.2.2
  simp only [List.getElem?_drop] at e
  rwa [show j + (m - j) = m by omega] at e
theorem KeptL.skip {α : Type} {p : α → Bool} {l : List α} {i j : Nat} {ys : List α} {x : α} (h : KeptL p l i j ys) (hx : l[j]? = some x) (hp : p x = true) : KeptL p l i (j + 1) ys := by
  refine ⟨h.1, by have := h.2.1; omega, ?_, ?_⟩
  · rw [h.2.2.1, take_snoc' hx, List.filter_append]
    have e : [x].filter (fun x => !p x) = [] := by simp [hp]
    rw [e, List.append_nil]
  · have := congrArg (List.drop 1) h.2.2.2
    rwa [List.drop_drop, List.drop_drop] at this
theorem KeptL.keep {α : Type} {p : α → Bool} {l : List α} {i j : Nat} {ys : List α} {x : α} (h : KeptL p l i j ys) (hx : l[j]? = some x) (hp : p x = false) : KeptL p l (i + 1) (j + 1) (ys.set i x) := by
  have hj := (List.getElem?_eq_some_iff.1 hx).1
  have hi := h.2.1
  have hl := h.1
  refine ⟨by rw [List.length_set]; exact hl, by omega, ?_, ?_⟩
  · rw [take_snoc' hx, List.filter_append, take_snoc' (x := x) (by rw [List.getElem?_set_self (by omega)]), List.take_set_of_le (Nat.le_refl _), h.2.2.1]
    simp [hp]
  · rw [List.drop_set_of_lt (by omega)]
    have := congrArg (List.drop 1) h.2.2.2
    rwa [List.drop_drop, List.drop_drop] at this
theorem KeptL.done {α : Type} {p : α → Bool} {l : List α} {i : Nat} {ys : List α} (h : KeptL p l i l.length ys) : ys.take i = l.filter fun x => !p x := by
  rw [h.2.2.1, List.take_length]
set_option maxHeartbeats 4000000 in
set_option maxRecDepth 100000 in
theorem delf_Span (g : FuncId) (lb : Array Value) (p : S38 → Bool) (base : Nat) (ok : Nat → Prop) (v : Value) (l0 : List S38) (w : World) (hN : Kd.N k38 38 w base ok v l0) (he : ∀ args W, (callFunc g args).run Try.prog W = .ok (.enter g args) W)
    (hp : ∀ (W : World) (x : S38) (A1 : Option Addr) (c1 : Nat) (A2 : Option Addr) (c2 : Nat), x ∈ l0 → w.grownBy W v.ownBlock → x.f1.length ≤ c1 → (Kd.int .u8).C W A1 x.f1.length x.f1 → x.f2.length ≤ c2 → (Kd.int .u8).C W A2 x.f2.length x.f2 → Calls Try.prog g (#[.agg #[.int .i64 x.f0, .slice A1 x.f1.length c1, .slice A2 x.f2.length c2, .bool x.f3]] ++ lb) W fun e w' => e = .returned (.bool (p x)) ∧ Below W.heap.size W w') :
    Calls Try.prog 42 #[v, .func (.func g) #[] lb] w fun e w' => ∃ v', e = .returned v' ∧ Kd.N k38 38 w' base ok v' (l0.filter fun x => !p x) ∧ w.grownBy w' v.ownBlock ∧ v'.ownBlock = v.ownBlock := by
  rcases N_open hN with ⟨rfl, rfl⟩ | ⟨B, cap, cur, rfl, hbB, hokB, hgB, hcl, hcm, hcs, hE⟩
  · have HI := Aside0.mk (idx_Span g lb p none 0 [] w ⟨rfl, by simp, fun h => absurd h (by simp)⟩ he (fun W x A1 c1 A2 c2 hx _ _ _ _ _ => by cases hx))
    clear hN he hp
    go_enter Try.func42, Try.ntmps42
    go_wp2_with (go_at_call 48; refine HI.out.mono ?_; rintro e w1 ⟨rfl, hb⟩; have HB1 := Aside0.mk hb; clear hb)
    go_ret
    exact ⟨_, rfl, Kd.N_nil _ _ _ _ _, grown_of_below HB1.out _, rfl⟩
  · have hC : Kd.C k38 w (some ⟨B, 0, none⟩) l0.length l0 := Kd.F_now (Kd.V_at (Kd.N_V (base' := base) hN)).2.2
    have hm : l0.length ≤ 9223372036854775807 := Kd.C_max hC
    have hob : (Value.slice (some ⟨B, 0, none⟩) l0.length cap).ownBlock = some B := rfl
    have HI := Aside0.mk (idx_Span g lb p _ cap l0 w hC he (fun W x A1 c1 A2 c2 hx hb h1 i1 h2 i2 => hp W x A1 c1 A2 c2 hx (grown_of_below hb _) h1 i1 h2 i2))
    have HP := Aside0.mk hp
    have HN0 := Aside0.mk hN
    have hcm' : cap ≤ 9223372036854775807 := hcm
    have hszB : B < w.heap.size := blk_lt hgB
    rcases idxBy_spec p l0 with ⟨e1, hall⟩ | ⟨k0, x0, hk0, e1, ht, hall⟩
    · rw [e1] at HI
      have hfl : l0.filter (fun x => !p x) = l0 := List.filter_eq_self.2 (fun x hx => by rw [hall x hx]; rfl)
      rw [hfl]
      clear hN he hp hC hE hgB hcs hall e1 hfl hob HP
      go_enter Try.func42, Try.ntmps42
      go_wp2_with (go_at_call 48; refine HI.out.mono ?_; rintro e w1 ⟨rfl, hb⟩; have HB1 := Aside0.mk hb; clear hb)
      go_ret
      exact ⟨_, rfl, Kd.N_below HN0.out HB1.out, grown_of_below HB1.out _, rfl⟩
    · rw [e1] at HI
      have hk0l := (List.getElem?_eq_some_iff.1 hk0).1
      have HK0 := Aside0.mk (KeptL.start hk0 ht hall)
      have hne1 : ((k0 : Int) == -1) = false := beq_eq_false_iff_ne.2 (by omega)
      obtain ⟨i0, hi0, _, hsz, _⟩ := info_parts info38
      have hinf : (Try.prog.info? 38).map (·.size) = some 4 := by rw [hi0]; exact congrArg some hsz
      have HINF := Aside0.mk hinf
      have HINF2 := Aside0.mk (And.intro hi0 hsz)
      clear hN hp hC hE hgB hcs hall e1 ht hk0 hi0 hsz hinf
      go_enter Try.func42, Try.ntmps42
      go_wp2_with (go_at_call 48; refine HI.out.mono ?_; rintro e w1 ⟨rfl, hb⟩; have HB1 := Aside0.mk hb; clear hb)
      go_loopw [5, 6] (fun s5 s6 wr => ∃ (i j : Nat) (ys : List S38), s5 = .int .i64 i ∧ s6 = .int .i64 j ∧ i < j ∧ j ≤ l0.length ∧ Aside0 (KeptL p l0 i j ys) ∧ Aside0 (Kd.N k38 38 wr base ok (.slice (some ⟨B, 0, none⟩) l0.length cap) ys) ∧ Aside0 (w.grownBy wr (some B))) (fun _ s6 _ => l0.length - (intOf s6).toNat)
      case atStart => exact ⟨k0, k0 + 1, l0, rfl, by go_num, by omega, by omega, HK0, ⟨Kd.N_below HN0.out HB1.out⟩, ⟨grown_of_below HB1.out _⟩⟩
      case round =>
        obtain ⟨i, j, ys, rfl, rfl, hij, hjl, HK, HNr, HG⟩ := hrel
        rcases N_open HNr.out with ⟨hv, _⟩ | ⟨B', cap', cur, hv, _, _, hcur, _, _, hcs, hE⟩
        · cases hv
        injection hv with e1 e2 e3
        injection e1 with e1
        injection e1 with e1
        subst e1 e3
        clear e2
        have hyl : ys.length = l0.length := HK.out.1
        have HCUR := Aside0.mk hcur
        have hszr : B < wr.heap.size := blk_lt hcur
        by_cases hlt : j < l0.length
        · obtain ⟨x, hx⟩ : ∃ x, l0[j]? = some x := ⟨_, List.getElem?_eq_getElem hlt⟩
          have hyx : ys[j]? = some x := (HK.out.at_ (Nat.le_refl _)).trans hx
          have hFK := hE j x hyx
          obtain ⟨A1, c1, A2, c2, hch, hla, hFa, hlb, hFb⟩ := k38_openF hFK
          have hx0 : wr.cell? ⟨B, j * 4, none⟩ = some (.int .i64 x.f0) := by
            rw [blk_cell hcur]; have := chunk_at (cur := cur) (k := j) (show 0 < 4 by decide); rw [show (cur.drop (j * 4)).take 4 = _ from hch] at this; simpa using this
          have hx1 : wr.cell? ⟨B, j * 4 + 1, none⟩ = some (.slice A1 x.f1.length c1) := by
            rw [blk_cell hcur]; have := chunk_at (cur := cur) (k := j) (show 1 < 4 by decide); rw [show (cur.drop (j * 4)).take 4 = _ from hch] at this; simpa using this
          have hx2 : wr.cell? ⟨B, j * 4 + 2, none⟩ = some (.slice A2 x.f2.length c2) := by
            rw [blk_cell hcur]; have := chunk_at (cur := cur) (k := j) (show 2 < 4 by decide); rw [show (cur.drop (j * 4)).take 4 = _ from hch] at this; simpa using this
          have hx3 : wr.cell? ⟨B, j * 4 + 3, none⟩ = some (.bool x.f3) := by
            rw [blk_cell hcur]; have := chunk_at (cur := cur) (k := j) (show 3 < 4 by decide); rw [show (cur.drop (j * 4)).take 4 = _ from hch] at this; simpa using this
          obtain ⟨Wn, hWn⟩ : ∃ Wn, Wn = wr.alloc (.cells #[.int .i64 x.f0, .slice A1 x.f1.length c1, .slice A2 x.f2.length c2, .bool x.f3] 38 (0, 0)) := ⟨_, rfl⟩
          have hBn : Below wr.heap.size wr Wn := by rw [hWn]; exact below_alloc (Below.refl _ _) _
          have hXn : Wn.heap[wr.heap.size]? = some (.cells #[.int .i64 x.f0, .slice A1 x.f1.length c1, .slice A2 x.f2.length c2, .bool x.f3] 38 (0, 0)) := by rw [hWn]; exact heap_alloc_new wr _
          have hcall := HP.out Wn x A1 c1 A2 c2 (List.mem_of_getElem? hx) (World.grownBy.trans HG.out (grown_of_below hBn _)) hla (Kd.C_below (Kd.F_now hFa) hBn) hlb (Kd.C_below (Kd.F_now hFb) hBn)
          rw [hWn] at hcall
          have HCALL := Aside0.mk hcall
          have HBN := Aside0.mk hBn
          have HXN := Aside0.mk hXn
          have HWN := Aside0.mk hWn
          have HFK := Aside0.mk hFK
          have HX := Aside0.mk hx
          have HCH := Aside0.mk hch
          have HE := Aside0.mk hE
          have HCS := Aside0.mk hcs
          have HYL := Aside0.mk hyl
          clear hcall hBn hXn hFK hx hyx hch hla hFa hlb hFb hE hcs hyl hWn hcur
          cases hq : p x with
          | true =>
            have HQ := Aside0.mk hq
            rw [hq] at HCALL
            clear hq
            go_wp2
            refine HCALL.out.mono ?_
            rintro e w2 ⟨rfl, hb⟩
            rw [← HWN.out] at hb
            have HB2 := Aside0.mk (below_step HBN.out hb)
            clear hb
            go_wp2
            go_roundw
            case rel => exact ⟨i, j + 1, ys, rfl, by go_num, by omega, by omega, ⟨HK.out.skip HX.out HQ.out⟩, ⟨Kd.N_below HNr.out HB2.out⟩, ⟨World.grownBy.trans HG.out (grown_of_below HB2.out _)⟩⟩
            case measure => simp [intOf]; omega
          | false =>
            have HQ := Aside0.mk hq
            rw [hq] at HCALL
            clear hq
            go_wp2
            refine HCALL.out.mono ?_
            rintro e w2 ⟨rfl, hb⟩
            rw [← HWN.out] at hb
            have HB2 := Aside0.mk (below_step HBN.out hb)
            have hX2 := (hb.block _ (blk_lt HXN.out)).trans HXN.out
            have hc0 : w2.cell? ⟨wr.heap.size, 0, none⟩ = some (.int .i64 x.f0) := (blk_cell hX2 0).trans rfl
            have hc1 : w2.cell? ⟨wr.heap.size, 1, none⟩ = some (.slice A1 x.f1.length c1) := (blk_cell hX2 1).trans rfl
            have hc2 : w2.cell? ⟨wr.heap.size, 2, none⟩ = some (.slice A2 x.f2.length c2) := (blk_cell hX2 2).trans rfl
            have hc3 : w2.cell? ⟨wr.heap.size, 3, none⟩ = some (.bool x.f3) := (blk_cell hX2 3).trans rfl
            have HCC : Aside0 (∀ q u, ((cur.drop (i * 4)).take 4)[q]? = some u → w2.cell? ⟨B, (i : Int).toNat * 4 + q, none⟩ = some u) := ⟨by
              intro q u hu
              have hq4 : q < 4 := by have := (List.getElem?_eq_some_iff.1 hu).1; rw [List.length_take] at this; omega
              rw [blk_cell ((HB2.out.block _ hszr).trans HCUR.out), Int.toNat_natCast, ← hu, ← chunk_at hq4]
              simp⟩
            have hic : i < cap := by omega
            have hil : ((cur.drop (i * 4)).take 4).length = 4 := by
              have h1 := HCS.out
              have h2 : cur.length = cap * 4 := h1
              rw [List.length_take, List.length_drop]; omega
            have HIL := Aside0.mk hil
            have HN2 := Aside0.mk (Kd.N_below HNr.out HB2.out)
            have HG2 := Aside0.mk (World.grownBy.trans HG.out (grown_of_below HB2.out (some B)))
            have HFK2 := Aside0.mk (Kd.FK_below HFK.out HB2.out)
            rw [HCH.out] at HFK2
            clear hb hX2 hil
            go_wp2_with ((with_reducible refine gate_store (t := 38) (p := 33) rfl ?_); refine Kd.N_store k38 (w0 := w2) base rfl rfl _ _ _ rfl 38 (i : Int) 0 ys x _ [.int .i64 x.f0, .slice A1 x.f1.length c1, .slice A2 x.f2.length c2, .bool x.f3] ((cur.drop (i * 4)).take 4) ok (fun k => ok k ∧ k ≠ B) (by rfl) ?ho (by rfl) rfl HINF.out ?h1 HN2.out (by omega) (by omega) HIL.out HCC.out (Nat.le_refl 4) ?hM (fun k hk => hk) (Below.refl _ _) ?_; (case ho => (show _ = (i : Int).toNat * 4 + 0; simp)); (case h1 => (intro q hq_; simp at hq_; rcases hq_ with rfl | rfl | rfl | rfl <;> rfl)); (case hM => (show Kd.FK _ _ _ x ([] ++ _ ++ ((cur.drop (i * 4)).take 4).drop 4); rw [List.drop_eq_nil_of_le (by rw [HIL.out]; exact Nat.le_refl _)]; exact HFK2.out)); intro w3 hN3 hB3 hg3; have HN3 := Aside0.mk hN3; have HG3 := Aside0.mk (World.grownBy.trans HG2.out hg3); clear hN3 hB3 hg3)
            go_roundw
            case rel => exact ⟨i + 1, j + 1, ys.set i x, by go_num, by go_num, by omega, by omega, ⟨HK.out.keep HX.out HQ.out⟩, ⟨HN3.out⟩, HG3⟩
            case measure => simp [intOf]; omega
        · obtain rfl : j = l0.length := by omega
          have hcut := cut_from (P := Try.prog) 27 38 .i64 Try.underlying27 HINF2.out.1 4 HINF2.out.2 (some ⟨B, 0, none⟩) l0.length cap (i : Int) (by omega) (by omega)
          obtain ⟨A2, hA2⟩ : ∃ A2, A2 = (if cap = (i : Int).toNat then (some ⟨B, 0, none⟩ : Option Addr) else (some (⟨B, 0, none⟩ : Addr)).map (·.add ((i : Int).toNat * 4))) := ⟨_, rfl⟩
          rw [← hA2, Int.toNat_natCast] at hcut
          rw [Int.toNat_natCast] at hA2
          have hA3 : 0 < l0.length - i → A2 = some ⟨B, i * 4, none⟩ := by
            intro h
            rw [hA2, if_neg (by omega)]
            simp [add_plain]
          obtain ⟨w3, cur3, hclr, hg3, hc3, hl3, ht3⟩ := run_clear_rows (P := Try.prog) wr 27 38 Try.underlying27 4 _ zero_Span rfl (by intro u hu; simp [Value.cells] at hu; rcases hu with rfl | rfl | rfl | rfl <;> rfl) (by decide) B 38 cur hcur A2 (l0.length - i) (cap - i) i hA3 (by
            have h2 : cur.length = cap * 4 := hcs
            omega)
          have hN3 := N_front (k := i) HNr.out hg3 hcur hc3 hl3 (by omega) ht3
          rw [HK.out.done] at hN3
          have HN3 := Aside0.mk hN3
          have HG3 := Aside0.mk (World.grownBy.trans HG.out hg3)
          have hct := cut_to (P := Try.prog) 27 38 .i64 Try.underlying27 HINF2.out.1 (some ⟨B, 0, none⟩) l0.length cap (i : Int) (by omega) (by omega) (by omega)
          rw [Int.toNat_natCast] at hct
          clear hA2 hA3 hg3 hc3 hl3 ht3 hN3 hcur hcs hE hyl
          go_wp2
          go_ret
          exact ⟨_, rfl, HN3.out, HG3.out, rfl⟩

end Go.Proofs.Ytpknchaajgkbnaa.P

-- Written by wip/gprint.py, a program of this session over the kit's print; Lean checks it.
namespace Go.Proofs.Ytpknchaajgkbnaa.P
open Go.RowKit Go.Proofs.YtpknchaajgkbnaaW.PrintWords Go.Proofs.YtpknchaajgkbnaaW.PrintLast Go.Proofs.YtpknchaajgkbnaaW.PrintMore
attribute [local go_sem] max2_int min2_int max_two min_two max_three min_three max_four min_four   -- for this text's walks alone
set_option linter.unusedVariables false
set_option linter.unusedSimpArgs false

/-GIVEN 16back-/
section
attribute [local go_sem] Oper.semAt_some
theorem int_at {w : World} {A : Option Addr} {n i : Nat} {l : List Int} {z : Int} (h : Kd.C (Kd.int .i64) w A n l) (hz : l[i]? = some z) : ∃ ad, A = some ad ∧ w.cell? (ad.add i) = some (.int .i64 z) := by
  have hi := (List.getElem?_eq_some_iff.1 hz).1
  have hn : l.length = n := h.1
  obtain ⟨ad, hA, hc⟩ := h.2.2 (by omega)
  obtain ⟨c, _, hK, hcc⟩ := hc i z hz
  have hK' : c = [.int .i64 z] := hK
  subst hK'
  have := hcc 0 (.int .i64 z) rfl
  have e : i * (Kd.int .i64).sz + 0 = i := Nat.mul_one i
  rw [e] at this
  exact ⟨ad, hA, this⟩
set_option maxHeartbeats 1000000 in
set_option maxRecDepth 100000 in
theorem back_call (A : Option Addr) (n c : Nat) (w : World) :
    Calls Try.prog 45 #[.slice A n c] w fun e w' => e = .returned (.func (.func 51) #[] #[.pointer (some ⟨w.heap.size, 0, none⟩)]) ∧ w' = w.alloc (.cells #[.slice A n c] 51 (0, 0)) := by
  have hmf : ∀ (fn : Fn) (first cap : Array Value) (w : World), (Instr.makeFunc fn first cap).run Try.prog w = .ok (.func fn first cap) w := fun _ _ _ _ => rfl
  go_enter Try.func45, Try.ntmps45
  go_wp2
  go_ret
  exact ⟨rfl, rfl⟩
set_option maxHeartbeats 2000000 in
set_option maxRecDepth 100000 in
theorem back1_in (l gn : Nat) (A0 : Option Addr) (c0 : Nat) (ps : List Int) (J : List (Int × Int) → World → Prop)
    (hJg : ∀ pre W, J pre W → W.heap[gn]? = some (.cells #[.slice A0 ps.length c0] 51 (0, 0)) ∧ Kd.C (Kd.int .i64) W A0 ps.length ps)
    (hY : ∀ pre x W, J pre W → pre.map (·.2) = ps.reverse.take pre.length → ps.reverse[pre.length]? = some x.2 → pre.length < ps.length → YieldAt Fence.wide 4 Try.prog l #[.int .i64 x.1, .int .i64 x.2] W fun e W' => e = .returned (.bool true) ∧ J (pre ++ [x]) W')
    (hm : ps.length ≤ 9223372036854775807) (W : World) (h0 : J [] W) :
    CallsIn Fence.wide 5 Try.prog 51 #[.func (.yield l) #[] #[], .pointer (some ⟨gn, 0, none⟩)] W fun e W' => (∃ v, e = .returned v) ∧ ∃ xs, xs.map (·.2) = ps.reverse ∧ J xs W' := by
  have hg0 := (blk_cell (hJg _ _ h0).1 0).trans rfl
  refine callsIn_of_wp Try.func51 rfl trivial ?_ rfl
  simp only [Try.ntmps51, List.size_toArray, List.length_cons, List.length_nil, Nat.reduceAdd, Nat.reduceSub, Array.replicate_succ, Array.replicate_zero, List.push_toArray, List.append_toArray, List.nil_append, List.cons_append]
  gi_wp2
  gi_loopw [3] (fun v3 wr => ∃ (z : Int) (pre : List (Int × Int)), v3 = .int .i64 z ∧ -1 ≤ z ∧ z + 1 + pre.length = ps.length ∧ Aside0 (J pre wr) ∧ Aside0 (pre.map (·.2) = ps.reverse.take pre.length)) (fun v3 wr => match v3 with | .int _ q => (q + 1).toNat | _ => 0)
  case atStart => exact ⟨(ps.length : Int) - 1, [], by go_num, by omega, by simp, ⟨h0⟩, ⟨by simp⟩⟩
  case round =>
    obtain ⟨z, pre, rfl, hz1, hzp, HJ, HP⟩ := hrel
    clear hg0
    have hg1 := (blk_cell (hJg _ _ HJ.out).1 0).trans rfl
    by_cases hz : 0 ≤ z
    · obtain ⟨i, rfl⟩ := Int.eq_ofNat_of_zero_le hz
      have hil : i < ps.length := by omega
      obtain ⟨v, hv⟩ : ∃ v, ps[i]? = some v := ⟨_, List.getElem?_eq_getElem hil⟩
      have hrv : ps.reverse[pre.length]? = some v := by
        rw [List.getElem?_reverse (by omega), ← hv]
        congr 1
        omega
      obtain ⟨ad, e1, hcell⟩ := int_at (hJg _ _ HJ.out).2 hv
      subst e1
      have HV := Aside0.mk hrv
      obtain ⟨fn, tmps, assign, body, hy, hR⟩ := hY pre ((i : Int), v) wr HJ.out HP.out hrv (by omega)
      clear hrv hv
      gi_wp2
      refine hR.mono ?_
      rintro e3 W3 ⟨rfl, hJ3⟩
      gi_wp2
      go_roundw
      case rel => exact ⟨(i : Int) - 1, pre ++ [((i : Int), v)], by go_num, by omega, by simp; omega, ⟨hJ3⟩, ⟨by rw [List.map_append, HP.out, List.length_append, List.length_singleton, take_snoc' HV.out]; rfl⟩⟩
      case measure =>
        show ((i : Int) - 1 + 1).toNat < ((i : Int) + 1).toNat
        omega
    · have hz2 : z = -1 := by omega
      subst hz2
      gi_wp2
      refine bodyPost_end (results_none rfl _ _ _) rfl ?_
      exact ⟨⟨_, rfl⟩, pre, by rw [HP.out, List.take_of_length_le (by rw [List.length_reverse]; omega)], HJ.out⟩
end

end Go.Proofs.Ytpknchaajgkbnaa.P

-- Written by wip/gprint.py, a program of this session over the kit's print; Lean checks it.
namespace Go.Proofs.Ytpknchaajgkbnaa.P
open Go.RowKit Go.Proofs.YtpknchaajgkbnaaW.PrintWords Go.Proofs.YtpknchaajgkbnaaW.PrintLast Go.Proofs.YtpknchaajgkbnaaW.PrintMore
attribute [local go_sem] max2_int min2_int max_two min_two max_three min_three max_four min_four   -- for this text's walks alone
set_option linter.unusedVariables false
set_option linter.unusedSimpArgs false

/-GIVEN 16del2.Span-/
/-- A cut behind the row's end, within its capacity. -/
theorem cut_mid_cap {P : Program} (t e : TypeId) (kl kh : IntKind) {i : TypeInfo} (ht : P.underlying t = some (.slice e)) (hi : P.info? e = some i) (size : Nat) (hsz : i.size = size) (A : Option Addr) (n c : Nat) (lo hi' : Int) (h0 : 0 ≤ lo) (h1 : lo ≤ hi') (h2 : hi' ≤ c) :
    ∀ W : World, (Instr.slice t (.slice A n c) (some (.int kl lo)) (some (.int kh hi')) none).run P W = .ok (.slice (if c = lo.toNat then A else A.map (·.add (lo.toNat * size))) (hi'.toNat - lo.toNat) (c - lo.toNat)) W := by
  intro W
  have hel : P.elem t = e := by simp [Program.elem, ht]
  have hu : P.underlying t = some (.slice (P.elem t)) := by rw [hel]; exact ht
  rw [run_slice_lh W t A n c hu kl kh lo hi' h0 h1 (by omega), hel]
  simp [sizeOf, typeInfo, hi, hsz, sliced, Result.andThen]
set_option maxHeartbeats 4000000 in
set_option maxRecDepth 100000 in
theorem del_Span (base : Nat) (ok : Nat → Prop) (B n cap i : Nat) (xs : List S38) (w : World) (hN : Kd.N k38 38 w base ok (.slice (some ⟨B, 0, none⟩) n cap) xs) (hi : i < n) :
    Calls Try.prog 46 #[.slice (some ⟨B, 0, none⟩) n cap, .int .i64 i, .int .i64 ((i : Int) + 1)] w fun e w' => e = .returned (.slice (some ⟨B, 0, none⟩) (n - 1) cap) ∧ Kd.N k38 38 w' base ok (.slice (some ⟨B, 0, none⟩) (n - 1) cap) (xs.eraseIdx i) ∧ w.grownBy w' (some B) := by
  rcases N_open hN with ⟨hv, _⟩ | ⟨B', cap', cur0, hv, hbB, hokB, hgB, hcl, hcm, hcs, hE⟩
  · cases hv
  injection hv with e1 e2 e3
  injection e1 with e1
  injection e1 with e1
  subst e1 e3 e2
  have hcm' : cap ≤ 9223372036854775807 := hcm
  obtain ⟨i0, hi0, _, hsz, _⟩ := info_parts info38
  have HINF := Aside0.mk (show (Try.prog.info? 38).map (·.size) = some 4 by rw [hi0]; exact congrArg some hsz)
  have HINF2 := Aside0.mk (And.intro hi0 hsz)
  have HNw := Aside0.mk (Kd.N_drew hN)
  have HBW := Aside0.mk (Kd.N_base (Kd.N_drew hN) B rfl)
  have HSZ := Aside0.mk (blk_lt hgB)
  have hct := cut_to (P := Try.prog) 27 38 .i64 Try.underlying27 hi0 (some ⟨B, 0, none⟩) xs.length cap (i : Int) (by omega) (by omega) (by omega)
  rw [Int.toNat_natCast] at hct
  have hcut := cut_from (P := Try.prog) 27 38 .i64 Try.underlying27 hi0 4 hsz (some ⟨B, 0, none⟩) xs.length cap ((i : Int) + 1) (by omega) (by omega)
  obtain ⟨A2, hA2⟩ : ∃ A2, A2 = (if cap = ((i : Int) + 1).toNat then (some ⟨B, 0, none⟩ : Option Addr) else (some (⟨B, 0, none⟩ : Addr)).map (·.add (((i : Int) + 1).toNat * 4))) := ⟨_, rfl⟩
  have htn : ((i : Int) + 1).toNat = i + 1 := by omega
  rw [← hA2, htn] at hcut
  rw [htn] at hA2
  have HA2 := Aside0.mk hA2
  have hcl1 := cut_from (P := Try.prog) 27 38 .i64 Try.underlying27 hi0 4 hsz (some ⟨B, 0, none⟩) xs.length cap ((xs.length - 1 : Nat) : Int) (by omega) (by omega)
  have hne : ((i : Int) == (i : Int) + 1) = false := beq_eq_false_iff_ne.2 (by omega)
  have hwr : IntKind.i64.wrap ((i : Int) + 1) = (i : Int) + 1 := by simp [IntKind.wrap, IntKind.bits, IntKind.signed]; omega
  clear hN hgB hcs hE hA2 hi0 hsz htn hcl1
  go_enter Try.func46, Try.ntmps46
  go_wp2_with fail
  refine start_ (n := 8) (S := fun w' => True) (ds := ([] : List Nat)) #[false, false, false, false, false, false, false, false] (by kernel_rfl) rfl rfl trivial (fun hHeld => ?_)
  refine pure_ (i := 0) (N := some 20) (v := ?_) (a' := ?_) #[true, false, false, false, false, false, false, false] rfl rfl (by kernel_rfl) (fun _ _ _ h => h) (Or.inl ⟨by rfl, ?_⟩) ?_ ?_
  rotate_left
  · intro w'
    go_simp
    with_reducible rfl
  rotate_left
  · simp only [Act.put, List.setIfInBounds_toArray, List.set_cons_zero, List.set_cons_succ, i64_w, i32_w]
    rfl
  refine pure_ (i := 1) (N := some 21) (v := ?_) (a' := ?_) #[true, true, false, false, false, false, false, false] rfl rfl (by kernel_rfl) (fun _ _ _ h => h) (Or.inl ⟨by rfl, ?_⟩) ?_ ?_
  rotate_left
  · intro w'
    go_simp
    with_reducible rfl
  rotate_left
  · simp only [Act.put, List.setIfInBounds_toArray, List.set_cons_zero, List.set_cons_succ, i64_w, i32_w]
    rfl
  refine pure_ (i := 2) (N := some 22) (v := ?_) (a' := ?_) #[true, true, true, false, false, false, false, false] rfl rfl (by kernel_rfl) (fun _ _ _ h => h) (Or.inl ⟨by rfl, ?_⟩) ?_ ?_
  rotate_left
  · intro w'
    go_simp
    with_reducible rfl
  rotate_left
  · simp only [Act.put, List.setIfInBounds_toArray, List.set_cons_zero, List.set_cons_succ, i64_w, i32_w]
    rfl
  refine pure_ (i := 3) (N := some 23) (v := ?_) (a' := ?_) #[true, true, true, true, false, false, false, false] rfl rfl (by kernel_rfl) (fun _ _ _ h => h) (Or.inl ⟨by rfl, ?_⟩) ?_ ?_
  rotate_left
  · intro w'
    go_simp
    with_reducible rfl
  rotate_left
  · simp only [Act.put, List.setIfInBounds_toArray, List.set_cons_zero, List.set_cons_succ, i64_w, i32_w]
    rfl
  refine pure_ (i := 4) (N := some 24) (v := ?_) (a' := ?_) #[true, true, true, true, true, false, false, false] rfl rfl (by kernel_rfl) (fun _ _ _ h => h) (Or.inl ⟨by rfl, ?_⟩) ?_ ?_
  rotate_left
  · intro w'
    go_simp
    with_reducible rfl
  rotate_left
  · simp only [Act.put, List.setIfInBounds_toArray, List.set_cons_zero, List.set_cons_succ, i64_w, i32_w]
    rfl
  refine pure_ (i := 5) (N := some 25) (v := ?_) (a' := ?_) #[true, true, true, true, true, true, false, false] rfl rfl (by kernel_rfl) (fun _ _ _ h => h) (Or.inl ⟨by rfl, ?_⟩) ?_ ?_
  rotate_left
  · intro w'
    go_simp
    with_reducible rfl
  rotate_left
  · simp only [Act.put, List.setIfInBounds_toArray, List.set_cons_zero, List.set_cons_succ, i64_w, i32_w]
    rfl
  refine one_ (i := 6) (N := some 26) #[true, true, true, true, true, true, true, false] rfl rfl (by kernel_rfl) (by simp) (fun K hK => ?_)
  refine Kd.N_delete_step k38 (w0 := w.drew) base (by rfl) (.tmp 22) (.tmp 25) 27 38 rfl Try.underlying27 HINF.out (by rfl) (by rfl) HA2.out (by omega) HNw.out hi (Below.refl _ _) ?hbs ?_
  case hbs => (have h1 := HBW.out; have h2 : B < w.drew.heap.size := HSZ.out; omega)
  intro w1 hN1 _ hg1
  have HN1 := Aside0.mk hN1
  have HG1 := Aside0.mk hg1
  clear hN1 hg1
  refine hK.out _ _ trivial (fun hHeld => ?_)
  clear hK K
  refine norm_ (a' := ?_) ?_ ?_
  rotate_left
  · show Act.put _ (some 26) _ = _
    simp only [Act.put, List.setIfInBounds_toArray, List.set_cons_zero, List.set_cons_succ, i64_w, i32_w]
    rfl
  refine pure_ (i := 7) (N := some 0) (v := ?_) (a' := ?_) #[true, true, true, true, true, true, true, true] rfl rfl (by kernel_rfl) (fun _ _ _ h => h) (Or.inl ⟨by rfl, ?_⟩) ?_ ?_
  rotate_left
  · intro w'
    go_simp
    with_reducible rfl
  rotate_left
  · simp only [Act.put, List.setIfInBounds_toArray, List.set_cons_zero, List.set_cons_succ, i64_w, i32_w]
    rfl
  refine done_ (by kernel_rfl) ?_
  rcases N_open HN1.out with ⟨hv, _⟩ | ⟨B', cap', cur1, hv, _, _, hcur, _, _, hcs, _⟩
  · cases hv
  injection hv with e1 e2 e3
  injection e1 with e1
  injection e1 with e1
  subst e1 e3
  have hcut2 := cut_mid_cap (P := Try.prog) 27 38 .i64 .i64 Try.underlying27 HINF2.out.1 4 HINF2.out.2 (some ⟨B, 0, none⟩) (xs.length - 1) cap ((xs.length - 1 : Nat) : Int) (xs.length : Int) (by omega) (by omega) (by omega)
  obtain ⟨A3, hA3⟩ : ∃ A3, A3 = (if cap = ((xs.length - 1 : Nat) : Int).toNat then (some ⟨B, 0, none⟩ : Option Addr) else (some (⟨B, 0, none⟩ : Addr)).map (·.add (((xs.length - 1 : Nat) : Int).toNat * 4))) := ⟨_, rfl⟩
  rw [← hA3, Int.toNat_natCast, Int.toNat_natCast] at hcut2
  rw [Int.toNat_natCast] at hA3
  have hA4 : 0 < xs.length - (xs.length - 1) → A3 = some ⟨B, (xs.length - 1) * 4, none⟩ := by
    intro h
    rw [hA3, if_neg (by omega)]
    simp [add_plain]
  have hlen1 : (xs.eraseIdx i).length = xs.length - 1 := by rw [List.length_eraseIdx, if_pos hi]
  obtain ⟨w3, cur3, hclr, hg3, hc3, hl3, ht3⟩ := run_clear_rows (P := Try.prog) w1 27 38 Try.underlying27 4 _ zero_Span rfl (by intro u hu; simp [Value.cells] at hu; rcases hu with rfl | rfl | rfl | rfl <;> rfl) (by decide) B 38 cur1 hcur A3 (xs.length - (xs.length - 1)) (cap - (xs.length - 1)) (xs.length - 1) hA4 (by
    have h2 : cur1.length = cap * 4 := hcs
    omega)
  have hN3 := N_front (k := xs.length - 1) HN1.out hg3 hcur hc3 hl3 (by omega) ht3
  rw [List.take_of_length_le (by omega)] at hN3
  have HN3 := Aside0.mk hN3
  have HG3 := Aside0.mk (World.grownBy.trans (World.grownBy.trans (grown_of_below (below_drew1 (Below.refl w.heap.size w)) _) HG1.out) hg3)
  clear hA3 hA4 hg3 hc3 hl3 ht3 hN3 hcur hcs hlen1 e2 hct hcut HN1 HG1 HNw
  go_wp2
  go_ret
  exact ⟨rfl, HN3.out, HG3.out⟩

end Go.Proofs.Ytpknchaajgkbnaa.P

-- Written by wip/gprint.py, a program of this session over the kit's print; Lean checks it.
namespace Go.Proofs.Ytpknchaajgkbnaa.P
open Go.RowKit Go.Proofs.YtpknchaajgkbnaaW.PrintWords Go.Proofs.YtpknchaajgkbnaaW.PrintLast Go.Proofs.YtpknchaajgkbnaaW.PrintMore
attribute [local go_sem] max2_int min2_int max_two min_two max_three min_three max_four min_four   -- for this text's walks alone
set_option linter.unusedVariables false
set_option linter.unusedSimpArgs false

/-GIVEN 18facts-/
def Stable (p : World → Prop) : Prop := ∀ W W1 : World, Below W.heap.size W W1 → p W → p W1
/-- What has been made since w, and stays: facts, the newest first. -/
structure AB (w : World) (P : World → Prop) (W : World) : Prop where
  hb : Below w.heap.size w W
  hp : P W
  hs : Stable P
theorem AB.start (w : World) : AB w (fun _ => True) w := ⟨Below.refl _ _, trivial, fun _ _ _ h => h⟩
theorem AB.below {w W W1 : World} {P : World → Prop} (h : AB w P W) (hb : Below W.heap.size W W1) : AB w P W1 := ⟨below_step h.hb hb, h.hs _ _ hb h.hp, h.hs⟩
theorem AB.add {w W : World} {P p : World → Prop} (h : AB w P W) (hs : Stable p) (hp : p W) : AB w (fun W => p W ∧ P W) W := ⟨h.hb, ⟨hp, h.hp⟩, fun W W1 hb hh => ⟨hs W W1 hb hh.1, h.hs W W1 hb hh.2⟩⟩
theorem stable_blk (g : Nat) (o : Obj) : Stable fun W => W.heap[g]? = some o := fun W W1 hb h => (hb.block _ (blk_lt h)).trans h
theorem stable_C {α : Type} (d : Kd α) (A : Option Addr) (xs : List α) : Stable fun W => Kd.C d W A xs.length xs := fun _ _ hb h => Kd.C_below h hb
end Go.Proofs.Ytpknchaajgkbnaa.P

-- Written by wip/gprint.py, a program of this session over the kit's print; Lean checks it.
namespace Go.Proofs.Ytpknchaajgkbnaa.P
open Go.RowKit Go.Proofs.YtpknchaajgkbnaaW.PrintWords Go.Proofs.YtpknchaajgkbnaaW.PrintLast Go.Proofs.YtpknchaajgkbnaaW.PrintMore
attribute [local go_sem] max2_int min2_int max_two min_two max_three min_three max_four min_four   -- for this text's walks alone
set_option linter.unusedVariables false
set_option linter.unusedSimpArgs false

/-GIVEN 19past-/
/-- A world behind w: all that lay in w lies unturned. -/
structure Past (w : World) where
  W : World
  h : Below w.heap.size w W
instance (w : World) : Inhabited (Past w) := ⟨⟨w, Below.refl _ _⟩⟩
end Go.Proofs.Ytpknchaajgkbnaa.P

-- Written by wip/gprint.py, a program of this session over the kit's print; Lean checks it.
namespace Go.Proofs.Ytpknchaajgkbnaa.P
open Go.RowKit Go.Proofs.YtpknchaajgkbnaaW.PrintWords Go.Proofs.YtpknchaajgkbnaaW.PrintLast Go.Proofs.YtpknchaajgkbnaaW.PrintMore
attribute [local go_sem] max2_int min2_int max_two min_two max_three min_three max_four min_four   -- for this text's walks alone
set_option linter.unusedVariables false
set_option linter.unusedSimpArgs false

/-GIVEN 21wanted-/
/-- An operation with a guard that holds, or none. -/
theorem event_wanted {P : Program} {ops : Array Oper} {rest : List Oper} {o : Oper} {a : Act} {Q : Exit → Act → World → Prop} {W w1 : World} {v : Value} (hgd : Region.wanted o (yielded ops a.tmps) = true) (hrun : (execOp a.eval o).run P W = .ok (.value v) w1) (h : wpList P ops Q rest (a.put o.dst v) w1) : wpList P ops Q (o :: rest) a W := by
  unfold wpList
  rw [if_pos hgd]
  refine .inl ?_
  unfold Oper.wp
  rw [hrun]
  exact h
/-- '[]byte("..")' of a constant, under a guard that holds. -/
theorem conv_litg_op {P : Program} {ops : Array Oper} {rest : List Oper} {o1 o2 : Oper} {a : Act} {Q : Exit → Act → World → Prop} {W : World} (t e : TypeId) (ht : P.underlying t = some (.slice e)) (he : P.underlying e = some (.int .u8)) (N1 N2 : Tmp) (hg1 : Region.wanted o1 (yielded ops a.tmps) = true) (hd1 : o1.dst = some N1) (hg2 : ∀ v, Region.wanted o2 (yielded ops (a.put (some N1) v).tmps) = true) (hd2 : o2.dst = some N2) (ho2 : o2.op = .convert t t (.tmp N1)) (xs ys : List Int) (hA : conv_lit.f xs = some ys) (inner : List Value)
    (hrun : (execOp a.eval o1).run P W = .ok (.value (.slice (some ⟨W.heap.size, 0, none⟩) xs.length xs.length)) (W.alloc (.cells inner.toArray e)))
    (hev : ∀ v : Value, (a.put (some N1) v).eval (.tmp N1) = v) (hin : inner = xs.map (Value.int .u8)) (hm : xs.length ≤ 9223372036854775807)
    (h : ∀ v w1, Kd.V (Kd.int .u8) e w1 W.heap.size (fun k_ => W.heap.size ≤ k_) v ys → Below W.heap.size W w1 → wpList P ops Q rest ((a.put (some N1) v).put (some N2) v) w1) : wpList P ops Q (o1 :: o2 :: rest) a W := by
  obtain rfl : xs = ys := Option.some.inj hA
  refine event_wanted hg1 hrun ?_
  rw [hd1]
  have hrun2 : (execOp (a.put (some N1) (.slice (some ⟨W.heap.size, 0, none⟩) xs.length xs.length)).eval o2).run P (W.alloc (.cells inner.toArray e)) = .ok (.value (.slice (some ⟨W.heap.size, 0, none⟩) xs.length xs.length)) (W.alloc (.cells inner.toArray e (inner.toArray.size, inner.toArray.size + 1))) := by
    have hc := Lib.run_convert_bytes_const (P := P) W t e inner.toArray xs.length xs.length ht he
    simp [execOp, ho2, hev, hc]
  refine event_wanted (hg2 _) hrun2 ?_
  rw [hd2]
  refine h _ _ ?_ (below_alloc (Below.refl _ _) _)
  subst hin
  have hg : (W.alloc (.cells (xs.map (Value.int .u8)).toArray e ((xs.map (Value.int .u8)).toArray.size, (xs.map (Value.int .u8)).toArray.size + 1))).heap[W.heap.size]? = some (.cells (xs.map (Value.int .u8)).toArray e ((xs.map (Value.int .u8)).toArray.size, (xs.map (Value.int .u8)).toArray.size + 1)) := by
    show (W.heap.push _)[W.heap.size]? = _
    simp
  refine ⟨some ⟨W.heap.size, 0, none⟩, xs.length, rfl, Nat.le_refl _, fun W' hW => ⟨rfl, hm, fun _ => ⟨⟨W.heap.size, 0, none⟩, rfl, fun j p hj => ⟨[.int .u8 p], rfl, rfl, fun i u hu => ?_⟩⟩⟩⟩
  have hg' := (hW W.heap.size (Nat.le_refl _) (blk_lt hg)).trans hg
  cases i with
  | succ i => simp at hu
  | zero =>
    have hu' : Value.int .u8 p = u := by simpa using hu
    subst hu'
    rw [add_plain, cell_of_row W' W.heap.size _ _ e _ hg']
    have hs : (Kd.int .u8).sz = 1 := rfl
    simp [hs, hj]
end Go.Proofs.Ytpknchaajgkbnaa.P

-- Written by wip/gprint.py, a program of this session over the kit's print; Lean checks it.
namespace Go.Proofs.Ytpknchaajgkbnaa.P
open Go.RowKit Go.Proofs.YtpknchaajgkbnaaW.PrintWords Go.Proofs.YtpknchaajgkbnaaW.PrintLast Go.Proofs.YtpknchaajgkbnaaW.PrintMore
attribute [local go_sem] max2_int min2_int max_two min_two max_three min_three max_four min_four   -- for this text's walks alone
set_option linter.unusedVariables false
set_option linter.unusedSimpArgs false

-- NOT PRINTED: function 52 (bytealg_Compare)

end Go.Proofs.Ytpknchaajgkbnaa.P

-- Written by wip/gprint.py, a program of this session over the kit's print; Lean checks it.
namespace Go.Proofs.Ytpknchaajgkbnaa.P
open Go.RowKit Go.Proofs.YtpknchaajgkbnaaW.PrintWords Go.Proofs.YtpknchaajgkbnaaW.PrintLast Go.Proofs.YtpknchaajgkbnaaW.PrintMore
attribute [local go_sem] max2_int min2_int max_two min_two max_three min_three max_four min_four   -- for this text's walks alone
set_option linter.unusedVariables false
set_option linter.unusedSimpArgs false

/-GIVEN bytes_Compare-/
/-! ### bytes_Compare: function 49 -/
theorem C_u8_cell {w : World} {ad : Addr} {n : Nat} {l : List Int} (h : Kd.C (Kd.int .u8) w (some ad) n l) : ∀ j x, l[j]? = some x → w.cell? (ad.add j) = some (.int .u8 x) := by
  intro j x hj
  have hn : 0 < n := by
    have := (List.getElem?_eq_some_iff.1 hj).1
    have h1 := h.1
    omega
  obtain ⟨ad', e, hc⟩ := h.2.2 hn
  cases e
  obtain ⟨c, hl, hk, hcell⟩ := hc j x hj
  have hk' : c = [.int .u8 x] := hk
  subst hk'
  have := hcell 0 _ rfl
  rw [Nat.add_zero, show (Kd.int .u8).sz = 1 from rfl, Nat.mul_one] at this
  exact this
theorem run_bytesOf_C {P : Program} {w : World} {A : Option Addr} {c : Nat} {l : List Int} (h : Kd.C (Kd.int .u8) w A l.length l) : (Extern.Bytes.bytesOf (.slice A l.length c)).run P w = .ok (strOfNums l) w := by
  cases A with
  | none =>
    have hl : l.length = 0 := Classical.byContradiction fun hn => by
      obtain ⟨ad, he, _⟩ := h.2.2 (by omega)
      cases he
    obtain rfl : l = [] := List.length_eq_zero_iff.mp hl
    rfl
  | some ad =>
    show (Extern.Bytes.loadBytes ad l.length .empty).run P w = _
    rw [Lib.run_loadBytesX w l ad .empty (C_u8_cell h)]
    congr 1
    apply ByteArray.ext
    simp [Lib.bytesOf, strOfNums]
theorem run_compare_C {P : Program} {w : World} {A B : Option Addr} {c d : Nat} {l m : List Int} (h : Kd.C (Kd.int .u8) w A l.length l) (h2 : Kd.C (Kd.int .u8) w B m.length m) : (Extern.BytealgCompare.compare #[.slice A l.length c, .slice B m.length d]).run P w = .ok (.int .i64 (Lib.compareBytes (strOfNums l).data.toList (strOfNums m).data.toList)) w := by
  change Sem.run P (do pure (goInt (Extern.BytealgCompare.cmp (← Extern.Bytes.bytesOf (.slice A l.length c)) (← Extern.Bytes.bytesOf (.slice B m.length d))))) w = _
  simp only [Sem.run_bind, run_bytesOf_C h, run_bytesOf_C h2, Sem.run_pure, Result.andThen]
  rw [Lib.cmp_eq]
  rfl
def bytes_Compare.f (l0 : List Int) (l1 : List Int) : Option (Int) := some (Lib.compareBytes (Lib.bytesOf l0) (Lib.bytesOf l1))
set_option maxHeartbeats 1000000 in
set_option maxRecDepth 100000 in
theorem bytes_Compare.calls (A0 : Option Addr) (c0 : Nat) (l0 : List Int) (A1 : Option Addr) (c1 : Nat) (l1 : List Int) (r : Int) (w : World) (hr0 : Kd.C (Kd.int .u8) w A0 l0.length l0) (hc0 : l0.length ≤ c0) (hr1 : Kd.C (Kd.int .u8) w A1 l1.length l1) (hc1 : l1.length ≤ c1) (h : bytes_Compare.f l0 l1 = some r) :
    Calls Try.prog 49 #[.slice A0 l0.length c0, .slice A1 l1.length c1] w fun e w' => e = .returned (.int .i64 r) ∧ Drawn0 w w' := by
  unfold bytes_Compare.f at h
  obtain rfl := Option.some.inj h
  have hrun := run_compare_C (P := Try.prog) (c := c0) (d := c1) hr0 hr1
  have e0 : (strOfNums l0).data.toList = Lib.bytesOf l0 := strOfNums_data l0
  have e1 : (strOfNums l1).data.toList = Lib.bytesOf l1 := strOfNums_data l1
  rw [e0, e1] at hrun
  have HRUN := Aside0.mk hrun
  clear hrun e0 e1 h hr0 hr1
  go_enter Try.func49, Try.ntmps49
  go_wp2
  rw [run_callFunc_extern Try.func52 (by kernel_rfl) (by kernel_rfl) (by kernel_rfl) (e := Extern.BytealgCompare.compare) (by kernel_rfl), HRUN.out]
  simp only [Result.andThen]
  rw [Oper.upon_value]
  go_wp2
  go_ret
  exact ⟨rfl, Drawn0.refl _⟩

end Go.Proofs.Ytpknchaajgkbnaa.P

-- Written by wip/gprint.py, a program of this session over the kit's print; Lean checks it.
namespace Go.Proofs.Ytpknchaajgkbnaa.P
open Go.RowKit Go.Proofs.YtpknchaajgkbnaaW.PrintWords Go.Proofs.YtpknchaajgkbnaaW.PrintLast Go.Proofs.YtpknchaajgkbnaaW.PrintMore
attribute [local go_sem] max2_int min2_int max_two min_two max_three min_three max_four min_four   -- for this text's walks alone
set_option linter.unusedVariables false
set_option linter.unusedSimpArgs false

/-! ### span_In: function 28 -/
def span_In.f (a0_0 : Int) (l0_1 : List Int) (l0_2 : List Int) (a0_3 : Bool) (a1 : Int) (l2 : List Int) : Option (Bool) := if a0_0 = a1 then ((bytes_Compare.f l0_1 l2).bind fun t102 => (if t102 ≤ 0 then (if a0_3 = true then (some true) else ((bytes_Compare.f l2 l0_2).bind fun t103 => (some (decide (t103 < 0))))) else (some false))) else (some false)
set_option maxHeartbeats 8000000 in
set_option maxRecDepth 100000 in
theorem span_In.calls (a0_0 : Int) (A0_1 : Option Addr) (c0_1 : Nat) (l0_1 : List Int) (A0_2 : Option Addr) (c0_2 : Nat) (l0_2 : List Int) (a0_3 : Bool) (a1 : Int) (A2 : Option Addr) (c2 : Nat) (l2 : List Int) (r : Bool) (w : World) (hr0_1 : Kd.C (Kd.int .u8) w A0_1 l0_1.length l0_1) (hc0_1 : l0_1.length ≤ c0_1) (hr0_2 : Kd.C (Kd.int .u8) w A0_2 l0_2.length l0_2) (hc0_2 : l0_2.length ≤ c0_2) (hr2 : Kd.C (Kd.int .u8) w A2 l2.length l2) (hc2 : l2.length ≤ c2) (h : span_In.f a0_0 l0_1 l0_2 a0_3 a1 l2 = some r) :
    Calls Try.prog 28 #[.agg #[.int .i64 a0_0, .slice A0_1 l0_1.length c0_1, .slice A0_2 l0_2.length c0_2, .bool a0_3], .int .i64 a1, .slice A2 l2.length c2] w fun e w' => e = .returned (.bool r) ∧ Below w.heap.size w w' := by
  have hu38 := Try.underlying38
  have HR0_1 := Aside0.mk hr0_1
  have HC0_1 := Aside0.mk hc0_1
  clear hr0_1 hc0_1
  have HR0_2 := Aside0.mk hr0_2
  have HC0_2 := Aside0.mk hc0_2
  clear hr0_2 hc0_2
  have HR2 := Aside0.mk hr2
  have HC2 := Aside0.mk hc2
  clear hr2 hc2
  have HB := Aside0.mk (Below.refl w.heap.size w)
  have H : (if a0_0 = a1 then ((bytes_Compare.f l0_1 l2).bind fun t102 => (if t102 ≤ 0 then (if a0_3 = true then (some true) else ((bytes_Compare.f l2 l0_2).bind fun t103 => (some (decide (t103 < 0))))) else (some false))) else (some false)) = some r := h
  clear h
  by_cases c4 : a0_0 = a1
  · rw [if_pos c4] at H
    have c4b0 : (a0_0 == a1) = true := beq_iff_eq.mpr c4
    have c4b1 : (a0_0 != a1) = false := bne_eq_false_iff_eq.mpr c4
    clear c4
    replace H := Option.bind_eq_some_iff.mp H
    obtain ⟨t102, A50, H⟩ := H
    replace H : (if t102 ≤ 0 then (if a0_3 = true then (some true) else ((bytes_Compare.f l2 l0_2).bind fun t103 => (some (decide (t103 < 0))))) else (some false)) = some r := H
    have A5 := Aside0.mk A50
    clear A50
    by_cases c6 : t102 ≤ 0
    · rw [if_pos c6] at H
      have c6b0 : decide (t102 ≤ 0) = true := decide_eq_true c6
      clear c6
      by_cases c7 : a0_3 = true
      · subst c7
        have H1 : (some true) = some r := by rw [if_pos rfl] at H; exact H
        clear H
        have H := H1
        clear H1
        obtain rfl := Option.some.inj H
        go_enter Try.func28, Try.ntmps28
        go_wp2_with (first | ((with_reducible refine gate_dst (N := 3) rfl ?_); refine box_event ?hg (N := 3) ?hd (cs := #[.int .i64 a0_0, .slice A0_1 l0_1.length c0_1, .slice A0_2 l0_2.length c0_2, .bool true]) (t := 38) ?hr ?_; (case hd => rfl); (case hg => rfl); (case hr => first | (go_simp; done) | (go_simp; rfl)); intro gb101 hg w8 hbox hb; have n0_ := Aside0.mk (below_step (by repeat (first | (with_reducible first | exact HB.out | apply below_alloc | apply pw_below_drewN | apply below_drew1) | exact HB.out)) hb); have n1_ := Aside0.mk (hbox); have n2_ := Aside0.mk ((by rw [hg]; exact (below_size (by repeat (first | (with_reducible first | exact HB.out | apply below_alloc | apply pw_below_drewN | apply below_drew1) | exact HB.out))) : w.heap.size ≤ gb101)); have n3_ := Aside0.mk ((by rw [hg]; exact (below_size (by repeat (first | (with_reducible first | exact HB.out | apply below_alloc | apply pw_below_drewN | apply below_drew1) | exact HB.out))) : w.heap.size ≤ gb101)); clear HB; have HB := n0_; have BK101 := n1_; have GW101 := n2_; have GE101 := n3_; clear n0_ n1_ n2_ n3_; clear hb hbox hg; have hcz9_0 : w8.cell? ⟨gb101, 0, none⟩ = some (.int .i64 a0_0) := (blk_cell BK101.out 0).trans rfl; have hcz9_1 : w8.cell? ⟨gb101, 1, none⟩ = some (.slice A0_1 l0_1.length c0_1) := (blk_cell BK101.out 1).trans rfl; have hcz9_2 : w8.cell? ⟨gb101, 2, none⟩ = some (.slice A0_2 l0_2.length c0_2) := (blk_cell BK101.out 2).trans rfl; have hcz9_3 : w8.cell? ⟨gb101, 3, none⟩ = some (.bool true) := (blk_cell BK101.out 3).trans rfl; have hfz9_0 := blk_frozen BK101.out 0; have hfz9_1 := blk_frozen BK101.out 1; have hfz9_2 := blk_frozen BK101.out 2; have hfz9_3 := blk_frozen BK101.out 3) | (go_at_call 49; (with_reducible refine (bytes_Compare.calls _ _ l0_1 _ _ l2 t102 _ ?side1 ?side2 ?side3 ?side4 A5.out).mono ?_); (case side1 => repeat (first | exact (Kd.C_below HR0_1.out HB.out) | (with_reducible refine Kd.C_alloc ?_ _) | (with_reducible refine Kd.C_drewN ?_ _) | (with_reducible refine Kd.C_drew ?_))); (case side2 => exact HC0_1.out); (case side3 => repeat (first | exact (Kd.C_below HR2.out HB.out) | (with_reducible refine Kd.C_alloc ?_ _) | (with_reducible refine Kd.C_drewN ?_ _) | (with_reducible refine Kd.C_drew ?_))); (case side4 => exact HC2.out); rintro e w' ⟨rfl, ⟨nd, rfl⟩⟩))
        go_ret
        exact ⟨by first | rfl | (simp [errW_none, errW_some] <;> rfl) | (simp [*, errW_none, errW_some] <;> rfl), by repeat (first | (with_reducible first | exact HB.out | apply below_alloc | apply pw_below_drewN | apply below_drew1 | refine below_set ?_ GE101.out) | exact HB.out)⟩
      · replace c7 := Bool.eq_false_iff.mpr c7
        subst c7
        have H1 : ((bytes_Compare.f l2 l0_2).bind fun t103 => (some (decide (t103 < 0)))) = some r := by rw [if_neg (show ¬ (false = true) by decide)] at H; exact H
        clear H
        have H := H1
        clear H1
        replace H := Option.bind_eq_some_iff.mp H
        obtain ⟨t103, A100, H⟩ := H
        replace H : (some (decide (t103 < 0))) = some r := H
        have A10 := Aside0.mk A100
        clear A100
        obtain rfl := Option.some.inj H
        go_enter Try.func28, Try.ntmps28
        go_wp2_with (first | ((with_reducible refine gate_dst (N := 3) rfl ?_); refine box_event ?hg (N := 3) ?hd (cs := #[.int .i64 a0_0, .slice A0_1 l0_1.length c0_1, .slice A0_2 l0_2.length c0_2, .bool false]) (t := 38) ?hr ?_; (case hd => rfl); (case hg => rfl); (case hr => first | (go_simp; done) | (go_simp; rfl)); intro gb101 hg w11 hbox hb; have n0_ := Aside0.mk (below_step (by repeat (first | (with_reducible first | exact HB.out | apply below_alloc | apply pw_below_drewN | apply below_drew1) | exact HB.out)) hb); have n1_ := Aside0.mk (hbox); have n2_ := Aside0.mk ((by rw [hg]; exact (below_size (by repeat (first | (with_reducible first | exact HB.out | apply below_alloc | apply pw_below_drewN | apply below_drew1) | exact HB.out))) : w.heap.size ≤ gb101)); have n3_ := Aside0.mk ((by rw [hg]; exact (below_size (by repeat (first | (with_reducible first | exact HB.out | apply below_alloc | apply pw_below_drewN | apply below_drew1) | exact HB.out))) : w.heap.size ≤ gb101)); clear HB; have HB := n0_; have BK101 := n1_; have GW101 := n2_; have GE101 := n3_; clear n0_ n1_ n2_ n3_; clear hb hbox hg; have hcz12_0 : w11.cell? ⟨gb101, 0, none⟩ = some (.int .i64 a0_0) := (blk_cell BK101.out 0).trans rfl; have hcz12_1 : w11.cell? ⟨gb101, 1, none⟩ = some (.slice A0_1 l0_1.length c0_1) := (blk_cell BK101.out 1).trans rfl; have hcz12_2 : w11.cell? ⟨gb101, 2, none⟩ = some (.slice A0_2 l0_2.length c0_2) := (blk_cell BK101.out 2).trans rfl; have hcz12_3 : w11.cell? ⟨gb101, 3, none⟩ = some (.bool false) := (blk_cell BK101.out 3).trans rfl; have hfz12_0 := blk_frozen BK101.out 0; have hfz12_1 := blk_frozen BK101.out 1; have hfz12_2 := blk_frozen BK101.out 2; have hfz12_3 := blk_frozen BK101.out 3) | (go_at_call 49; (with_reducible refine (bytes_Compare.calls _ _ l0_1 _ _ l2 t102 _ ?side1 ?side2 ?side3 ?side4 A5.out).mono ?_); (case side1 => repeat (first | exact (Kd.C_below HR0_1.out HB.out) | (with_reducible refine Kd.C_alloc ?_ _) | (with_reducible refine Kd.C_drewN ?_ _) | (with_reducible refine Kd.C_drew ?_))); (case side2 => exact HC0_1.out); (case side3 => repeat (first | exact (Kd.C_below HR2.out HB.out) | (with_reducible refine Kd.C_alloc ?_ _) | (with_reducible refine Kd.C_drewN ?_ _) | (with_reducible refine Kd.C_drew ?_))); (case side4 => exact HC2.out); rintro e w' ⟨rfl, ⟨nd, rfl⟩⟩) | (go_at_call 49; (with_reducible refine (bytes_Compare.calls _ _ l2 _ _ l0_2 t103 _ ?side1 ?side2 ?side3 ?side4 A10.out).mono ?_); (case side1 => repeat (first | exact (Kd.C_below HR2.out (by repeat (first | (with_reducible first | exact HB.out | apply below_alloc | apply pw_below_drewN | apply below_drew1 | refine below_set ?_ GE101.out) | exact HB.out))) | (with_reducible refine Kd.C_alloc ?_ _) | (with_reducible refine Kd.C_drewN ?_ _) | (with_reducible refine Kd.C_drew ?_))); (case side2 => exact HC2.out); (case side3 => repeat (first | exact (Kd.C_below HR0_2.out (by repeat (first | (with_reducible first | exact HB.out | apply below_alloc | apply pw_below_drewN | apply below_drew1 | refine below_set ?_ GE101.out) | exact HB.out))) | (with_reducible refine Kd.C_alloc ?_ _) | (with_reducible refine Kd.C_drewN ?_ _) | (with_reducible refine Kd.C_drew ?_))); (case side4 => exact HC0_2.out); rintro e w' ⟨rfl, ⟨nd, rfl⟩⟩))
        go_ret
        exact ⟨by first | rfl | (simp [errW_none, errW_some] <;> rfl) | (simp [*, errW_none, errW_some] <;> rfl), by repeat (first | (with_reducible first | exact HB.out | apply below_alloc | apply pw_below_drewN | apply below_drew1 | refine below_set ?_ GE101.out) | exact HB.out)⟩
    · rw [if_neg c6] at H
      have c6b0 : decide (t102 ≤ 0) = false := decide_eq_false c6
      clear c6
      obtain rfl := Option.some.inj H
      go_enter Try.func28, Try.ntmps28
      go_wp2_with (first | ((with_reducible refine gate_dst (N := 3) rfl ?_); refine box_event ?hg (N := 3) ?hd (cs := #[.int .i64 a0_0, .slice A0_1 l0_1.length c0_1, .slice A0_2 l0_2.length c0_2, .bool a0_3]) (t := 38) ?hr ?_; (case hd => rfl); (case hg => rfl); (case hr => first | (go_simp; done) | (go_simp; rfl)); intro gb101 hg w13 hbox hb; have n0_ := Aside0.mk (below_step (by repeat (first | (with_reducible first | exact HB.out | apply below_alloc | apply pw_below_drewN | apply below_drew1) | exact HB.out)) hb); have n1_ := Aside0.mk (hbox); have n2_ := Aside0.mk ((by rw [hg]; exact (below_size (by repeat (first | (with_reducible first | exact HB.out | apply below_alloc | apply pw_below_drewN | apply below_drew1) | exact HB.out))) : w.heap.size ≤ gb101)); have n3_ := Aside0.mk ((by rw [hg]; exact (below_size (by repeat (first | (with_reducible first | exact HB.out | apply below_alloc | apply pw_below_drewN | apply below_drew1) | exact HB.out))) : w.heap.size ≤ gb101)); clear HB; have HB := n0_; have BK101 := n1_; have GW101 := n2_; have GE101 := n3_; clear n0_ n1_ n2_ n3_; clear hb hbox hg; have hcz14_0 : w13.cell? ⟨gb101, 0, none⟩ = some (.int .i64 a0_0) := (blk_cell BK101.out 0).trans rfl; have hcz14_1 : w13.cell? ⟨gb101, 1, none⟩ = some (.slice A0_1 l0_1.length c0_1) := (blk_cell BK101.out 1).trans rfl; have hcz14_2 : w13.cell? ⟨gb101, 2, none⟩ = some (.slice A0_2 l0_2.length c0_2) := (blk_cell BK101.out 2).trans rfl; have hcz14_3 : w13.cell? ⟨gb101, 3, none⟩ = some (.bool a0_3) := (blk_cell BK101.out 3).trans rfl; have hfz14_0 := blk_frozen BK101.out 0; have hfz14_1 := blk_frozen BK101.out 1; have hfz14_2 := blk_frozen BK101.out 2; have hfz14_3 := blk_frozen BK101.out 3) | (go_at_call 49; (with_reducible refine (bytes_Compare.calls _ _ l0_1 _ _ l2 t102 _ ?side1 ?side2 ?side3 ?side4 A5.out).mono ?_); (case side1 => repeat (first | exact (Kd.C_below HR0_1.out HB.out) | (with_reducible refine Kd.C_alloc ?_ _) | (with_reducible refine Kd.C_drewN ?_ _) | (with_reducible refine Kd.C_drew ?_))); (case side2 => exact HC0_1.out); (case side3 => repeat (first | exact (Kd.C_below HR2.out HB.out) | (with_reducible refine Kd.C_alloc ?_ _) | (with_reducible refine Kd.C_drewN ?_ _) | (with_reducible refine Kd.C_drew ?_))); (case side4 => exact HC2.out); rintro e w' ⟨rfl, ⟨nd, rfl⟩⟩))
      go_ret
      exact ⟨by first | rfl | (simp [errW_none, errW_some] <;> rfl) | (simp [*, errW_none, errW_some] <;> rfl), by repeat (first | (with_reducible first | exact HB.out | apply below_alloc | apply pw_below_drewN | apply below_drew1 | refine below_set ?_ GE101.out) | exact HB.out)⟩
  · rw [if_neg c4] at H
    have c4b0 : (a0_0 == a1) = false := beq_eq_false_iff_ne.mpr c4
    have c4b1 : (a0_0 != a1) = true := bne_iff_ne.mpr c4
    obtain rfl := Option.some.inj H
    go_enter Try.func28, Try.ntmps28
    go_wp2_with (first | ((with_reducible refine gate_dst (N := 3) rfl ?_); refine box_event ?hg (N := 3) ?hd (cs := #[.int .i64 a0_0, .slice A0_1 l0_1.length c0_1, .slice A0_2 l0_2.length c0_2, .bool a0_3]) (t := 38) ?hr ?_; (case hd => rfl); (case hg => rfl); (case hr => first | (go_simp; done) | (go_simp; rfl)); intro gb101 hg w15 hbox hb; have n0_ := Aside0.mk (below_step (by repeat (first | (with_reducible first | exact HB.out | apply below_alloc | apply pw_below_drewN | apply below_drew1) | exact HB.out)) hb); have n1_ := Aside0.mk (hbox); have n2_ := Aside0.mk ((by rw [hg]; exact (below_size (by repeat (first | (with_reducible first | exact HB.out | apply below_alloc | apply pw_below_drewN | apply below_drew1) | exact HB.out))) : w.heap.size ≤ gb101)); have n3_ := Aside0.mk ((by rw [hg]; exact (below_size (by repeat (first | (with_reducible first | exact HB.out | apply below_alloc | apply pw_below_drewN | apply below_drew1) | exact HB.out))) : w.heap.size ≤ gb101)); clear HB; have HB := n0_; have BK101 := n1_; have GW101 := n2_; have GE101 := n3_; clear n0_ n1_ n2_ n3_; clear hb hbox hg; have hcz16_0 : w15.cell? ⟨gb101, 0, none⟩ = some (.int .i64 a0_0) := (blk_cell BK101.out 0).trans rfl; have hcz16_1 : w15.cell? ⟨gb101, 1, none⟩ = some (.slice A0_1 l0_1.length c0_1) := (blk_cell BK101.out 1).trans rfl; have hcz16_2 : w15.cell? ⟨gb101, 2, none⟩ = some (.slice A0_2 l0_2.length c0_2) := (blk_cell BK101.out 2).trans rfl; have hcz16_3 : w15.cell? ⟨gb101, 3, none⟩ = some (.bool a0_3) := (blk_cell BK101.out 3).trans rfl; have hfz16_0 := blk_frozen BK101.out 0; have hfz16_1 := blk_frozen BK101.out 1; have hfz16_2 := blk_frozen BK101.out 2; have hfz16_3 := blk_frozen BK101.out 3))
    go_ret
    exact ⟨by first | rfl | (simp [errW_none, errW_some] <;> rfl) | (simp [*, errW_none, errW_some] <;> rfl), by repeat (first | (with_reducible first | exact HB.out | apply below_alloc | apply pw_below_drewN | apply below_drew1 | refine below_set ?_ GE101.out) | exact HB.out)⟩

end Go.Proofs.Ytpknchaajgkbnaa.P

-- Written by wip/gprint.py, a program of this session over the kit's print; Lean checks it.
namespace Go.Proofs.Ytpknchaajgkbnaa.P
open Go.RowKit Go.Proofs.YtpknchaajgkbnaaW.PrintWords Go.Proofs.YtpknchaajgkbnaaW.PrintLast Go.Proofs.YtpknchaajgkbnaaW.PrintMore
attribute [local go_sem] max2_int min2_int max_two min_two max_three min_three max_four min_four   -- for this text's walks alone
set_option linter.unusedVariables false
set_option linter.unusedSimpArgs false

/-! ### bytes_Equal: function 31 -/
def bytes_Equal.f (l0 : List Int) (l1 : List Int) : Option (Bool) := some ((strOfNums l0).toList == (strOfNums l1).toList)
set_option maxHeartbeats 8000000 in
set_option maxRecDepth 100000 in
theorem bytes_Equal.calls (A0 : Option Addr) (c0 : Nat) (l0 : List Int) (A1 : Option Addr) (c1 : Nat) (l1 : List Int) (r : Bool) (w : World) (hr0 : Kd.C (Kd.int .u8) w A0 l0.length l0) (hc0 : l0.length ≤ c0) (hr1 : Kd.C (Kd.int .u8) w A1 l1.length l1) (hc1 : l1.length ≤ c1) (h : bytes_Equal.f l0 l1 = some r) :
    Calls Try.prog 31 #[.slice A0 l0.length c0, .slice A1 l1.length c1] w fun e w' => e = .returned (.bool r) ∧ Drawn0 w w' := by
  have HR0 := Aside0.mk hr0
  have HC0 := Aside0.mk hc0
  clear hr0 hc0
  have HR1 := Aside0.mk hr1
  have HC1 := Aside0.mk hc1
  clear hr1 hc1
  have H : (some ((strOfNums l0).toList == (strOfNums l1).toList)) = some r := h
  clear h
  obtain rfl := Option.some.inj H
  have hcv3 := Kd.C_string (P := Try.prog) (A := A0) (c := c0) Try.underlying36 Try.underlying5 Try.underlying9 HR0.out
  have hcv4 := Kd.C_string (P := Try.prog) (A := A1) (c := c1) Try.underlying36 Try.underlying5 Try.underlying9 HR1.out
  go_enter Try.func31, Try.ntmps31
  go_wp2
  go_ret
  exact ⟨by first | rfl | (simp; done) | (simp [*]; done), by repeat (first | exact Drawn0.refl _ | apply Drawn0.step)⟩

end Go.Proofs.Ytpknchaajgkbnaa.P

-- Written by wip/gprint.py, a program of this session over the kit's print; Lean checks it.
namespace Go.Proofs.Ytpknchaajgkbnaa.P
open Go.RowKit Go.Proofs.YtpknchaajgkbnaaW.PrintWords Go.Proofs.YtpknchaajgkbnaaW.PrintLast Go.Proofs.YtpknchaajgkbnaaW.PrintMore
attribute [local go_sem] max2_int min2_int max_two min_two max_three min_three max_four min_four   -- for this text's walks alone
set_option linter.unusedVariables false
set_option linter.unusedSimpArgs false

/-! ### span_Check: function 37 -/
def span_Check.f (a0_0 : Int) (l0_1 : List Int) (l0_2 : List Int) (a0_3 : Bool) : Option (Bool) := if a0_0 ≥ 0 then (if a0_0 < 4 then (if (l0_1.length : Int) ≤ 17 then (if (l0_2.length : Int) ≤ 17 then (if a0_3 = true then (some ((l0_2.length : Int) == 0)) else (some true)) else (some false)) else (some false)) else (some false)) else (some false)
set_option maxHeartbeats 8000000 in
set_option maxRecDepth 100000 in
theorem span_Check.calls (a0_0 : Int) (A0_1 : Option Addr) (c0_1 : Nat) (l0_1 : List Int) (A0_2 : Option Addr) (c0_2 : Nat) (l0_2 : List Int) (a0_3 : Bool) (r : Bool) (w : World) (hr0_1 : Kd.C (Kd.int .u8) w A0_1 l0_1.length l0_1) (hc0_1 : l0_1.length ≤ c0_1) (hr0_2 : Kd.C (Kd.int .u8) w A0_2 l0_2.length l0_2) (hc0_2 : l0_2.length ≤ c0_2) (h : span_Check.f a0_0 l0_1 l0_2 a0_3 = some r) :
    Calls Try.prog 37 #[.agg #[.int .i64 a0_0, .slice A0_1 l0_1.length c0_1, .slice A0_2 l0_2.length c0_2, .bool a0_3]] w fun e w' => e = .returned (.bool r) ∧ Below w.heap.size w w' := by
  have hu38 := Try.underlying38
  have HR0_1 := Aside0.mk hr0_1
  have HC0_1 := Aside0.mk hc0_1
  clear hr0_1 hc0_1
  have HR0_2 := Aside0.mk hr0_2
  have HC0_2 := Aside0.mk hc0_2
  clear hr0_2 hc0_2
  have HB := Aside0.mk (Below.refl w.heap.size w)
  have H : (if a0_0 ≥ 0 then (if a0_0 < 4 then (if (l0_1.length : Int) ≤ 17 then (if (l0_2.length : Int) ≤ 17 then (if a0_3 = true then (some ((l0_2.length : Int) == 0)) else (some true)) else (some false)) else (some false)) else (some false)) else (some false)) = some r := h
  clear h
  by_cases c2 : a0_0 ≥ 0
  · rw [if_pos c2] at H
    have c2b0 : decide (0 ≤ a0_0) = true := decide_eq_true c2
    clear c2
    by_cases c3 : a0_0 < 4
    · rw [if_pos c3] at H
      have c3b0 : decide (a0_0 < 4) = true := decide_eq_true c3
      clear c3
      by_cases c4 : (l0_1.length : Int) ≤ 17
      · rw [if_pos c4] at H
        have c4b0 : decide ((l0_1.length : Int) ≤ 17) = true := decide_eq_true c4
        have c4b1 : decide (l0_1.length ≤ 17) = true := decide_eq_true (by omega)
        clear c4
        by_cases c5 : (l0_2.length : Int) ≤ 17
        · rw [if_pos c5] at H
          have c5b0 : decide ((l0_2.length : Int) ≤ 17) = true := decide_eq_true c5
          have c5b1 : decide (l0_2.length ≤ 17) = true := decide_eq_true (by omega)
          clear c5
          by_cases c6 : a0_3 = true
          · subst c6
            have H1 : (some ((l0_2.length : Int) == 0)) = some r := by rw [if_pos rfl] at H; exact H
            clear H
            have H := H1
            clear H1
            obtain rfl := Option.some.inj H
            go_enter Try.func37, Try.ntmps37
            go_wp2_with (first | ((with_reducible refine gate_dst (N := 1) rfl ?_); (try (refine gate_guard (by rfl) ?_; dsimp only)); refine box_event ?hg (N := 1) ?hd (cs := #[.int .i64 a0_0, .slice A0_1 l0_1.length c0_1, .slice A0_2 l0_2.length c0_2, .bool true]) (t := 38) ?hr ?_; (case hd => rfl); (case hg => rfl); (case hr => first | (go_simp; done) | (go_simp; rfl)); intro gb104 hg w7 hbox hb; have n0_ := Aside0.mk (below_step (by repeat (first | (with_reducible first | exact HB.out | apply below_alloc | apply pw_below_drewN | apply below_drew1) | exact HB.out)) hb); have n1_ := Aside0.mk (hbox); have n2_ := Aside0.mk ((by rw [hg]; exact (below_size (by repeat (first | (with_reducible first | exact HB.out | apply below_alloc | apply pw_below_drewN | apply below_drew1) | exact HB.out))) : w.heap.size ≤ gb104)); have n3_ := Aside0.mk ((by rw [hg]; exact (below_size (by repeat (first | (with_reducible first | exact HB.out | apply below_alloc | apply pw_below_drewN | apply below_drew1) | exact HB.out))) : w.heap.size ≤ gb104)); clear HB; have HB := n0_; have BK104 := n1_; have GW104 := n2_; have GE104 := n3_; clear n0_ n1_ n2_ n3_; clear hb hbox hg; have hcz8_0 : w7.cell? ⟨gb104, 0, none⟩ = some (.int .i64 a0_0) := (blk_cell BK104.out 0).trans rfl; have hcz8_1 : w7.cell? ⟨gb104, 1, none⟩ = some (.slice A0_1 l0_1.length c0_1) := (blk_cell BK104.out 1).trans rfl; have hcz8_2 : w7.cell? ⟨gb104, 2, none⟩ = some (.slice A0_2 l0_2.length c0_2) := (blk_cell BK104.out 2).trans rfl; have hcz8_3 : w7.cell? ⟨gb104, 3, none⟩ = some (.bool true) := (blk_cell BK104.out 3).trans rfl; have hfz8_0 := blk_frozen BK104.out 0; have hfz8_1 := blk_frozen BK104.out 1; have hfz8_2 := blk_frozen BK104.out 2; have hfz8_3 := blk_frozen BK104.out 3))
            go_ret
            exact ⟨by first | rfl | (simp [errW_none, errW_some] <;> rfl) | (simp [*, errW_none, errW_some] <;> rfl), by repeat (first | (with_reducible first | exact HB.out | apply below_alloc | apply pw_below_drewN | apply below_drew1 | refine below_set ?_ GE104.out) | exact HB.out)⟩
          · replace c6 := Bool.eq_false_iff.mpr c6
            subst c6
            have H1 : (some true) = some r := by rw [if_neg (show ¬ (false = true) by decide)] at H; exact H
            clear H
            have H := H1
            clear H1
            obtain rfl := Option.some.inj H
            go_enter Try.func37, Try.ntmps37
            go_wp2_with (first | ((with_reducible refine gate_dst (N := 1) rfl ?_); (try (refine gate_guard (by rfl) ?_; dsimp only)); refine box_event ?hg (N := 1) ?hd (cs := #[.int .i64 a0_0, .slice A0_1 l0_1.length c0_1, .slice A0_2 l0_2.length c0_2, .bool false]) (t := 38) ?hr ?_; (case hd => rfl); (case hg => rfl); (case hr => first | (go_simp; done) | (go_simp; rfl)); intro gb104 hg w9 hbox hb; have n0_ := Aside0.mk (below_step (by repeat (first | (with_reducible first | exact HB.out | apply below_alloc | apply pw_below_drewN | apply below_drew1) | exact HB.out)) hb); have n1_ := Aside0.mk (hbox); have n2_ := Aside0.mk ((by rw [hg]; exact (below_size (by repeat (first | (with_reducible first | exact HB.out | apply below_alloc | apply pw_below_drewN | apply below_drew1) | exact HB.out))) : w.heap.size ≤ gb104)); have n3_ := Aside0.mk ((by rw [hg]; exact (below_size (by repeat (first | (with_reducible first | exact HB.out | apply below_alloc | apply pw_below_drewN | apply below_drew1) | exact HB.out))) : w.heap.size ≤ gb104)); clear HB; have HB := n0_; have BK104 := n1_; have GW104 := n2_; have GE104 := n3_; clear n0_ n1_ n2_ n3_; clear hb hbox hg; have hcz10_0 : w9.cell? ⟨gb104, 0, none⟩ = some (.int .i64 a0_0) := (blk_cell BK104.out 0).trans rfl; have hcz10_1 : w9.cell? ⟨gb104, 1, none⟩ = some (.slice A0_1 l0_1.length c0_1) := (blk_cell BK104.out 1).trans rfl; have hcz10_2 : w9.cell? ⟨gb104, 2, none⟩ = some (.slice A0_2 l0_2.length c0_2) := (blk_cell BK104.out 2).trans rfl; have hcz10_3 : w9.cell? ⟨gb104, 3, none⟩ = some (.bool false) := (blk_cell BK104.out 3).trans rfl; have hfz10_0 := blk_frozen BK104.out 0; have hfz10_1 := blk_frozen BK104.out 1; have hfz10_2 := blk_frozen BK104.out 2; have hfz10_3 := blk_frozen BK104.out 3))
            go_ret
            exact ⟨by first | rfl | (simp [errW_none, errW_some] <;> rfl) | (simp [*, errW_none, errW_some] <;> rfl), by repeat (first | (with_reducible first | exact HB.out | apply below_alloc | apply pw_below_drewN | apply below_drew1 | refine below_set ?_ GE104.out) | exact HB.out)⟩
        · rw [if_neg c5] at H
          have c5b0 : decide ((l0_2.length : Int) ≤ 17) = false := decide_eq_false c5
          have c5b1 : decide (l0_2.length ≤ 17) = false := decide_eq_false (by omega)
          clear c5
          obtain rfl := Option.some.inj H
          go_enter Try.func37, Try.ntmps37
          go_wp2_with (first | ((with_reducible refine gate_dst (N := 1) rfl ?_); (try (refine gate_guard (by rfl) ?_; dsimp only)); refine box_event ?hg (N := 1) ?hd (cs := #[.int .i64 a0_0, .slice A0_1 l0_1.length c0_1, .slice A0_2 l0_2.length c0_2, .bool a0_3]) (t := 38) ?hr ?_; (case hd => rfl); (case hg => rfl); (case hr => first | (go_simp; done) | (go_simp; rfl)); intro gb104 hg w11 hbox hb; have n0_ := Aside0.mk (below_step (by repeat (first | (with_reducible first | exact HB.out | apply below_alloc | apply pw_below_drewN | apply below_drew1) | exact HB.out)) hb); have n1_ := Aside0.mk (hbox); have n2_ := Aside0.mk ((by rw [hg]; exact (below_size (by repeat (first | (with_reducible first | exact HB.out | apply below_alloc | apply pw_below_drewN | apply below_drew1) | exact HB.out))) : w.heap.size ≤ gb104)); have n3_ := Aside0.mk ((by rw [hg]; exact (below_size (by repeat (first | (with_reducible first | exact HB.out | apply below_alloc | apply pw_below_drewN | apply below_drew1) | exact HB.out))) : w.heap.size ≤ gb104)); clear HB; have HB := n0_; have BK104 := n1_; have GW104 := n2_; have GE104 := n3_; clear n0_ n1_ n2_ n3_; clear hb hbox hg; have hcz12_0 : w11.cell? ⟨gb104, 0, none⟩ = some (.int .i64 a0_0) := (blk_cell BK104.out 0).trans rfl; have hcz12_1 : w11.cell? ⟨gb104, 1, none⟩ = some (.slice A0_1 l0_1.length c0_1) := (blk_cell BK104.out 1).trans rfl; have hcz12_2 : w11.cell? ⟨gb104, 2, none⟩ = some (.slice A0_2 l0_2.length c0_2) := (blk_cell BK104.out 2).trans rfl; have hcz12_3 : w11.cell? ⟨gb104, 3, none⟩ = some (.bool a0_3) := (blk_cell BK104.out 3).trans rfl; have hfz12_0 := blk_frozen BK104.out 0; have hfz12_1 := blk_frozen BK104.out 1; have hfz12_2 := blk_frozen BK104.out 2; have hfz12_3 := blk_frozen BK104.out 3))
          go_ret
          exact ⟨by first | rfl | (simp [errW_none, errW_some] <;> rfl) | (simp [*, errW_none, errW_some] <;> rfl), by repeat (first | (with_reducible first | exact HB.out | apply below_alloc | apply pw_below_drewN | apply below_drew1 | refine below_set ?_ GE104.out) | exact HB.out)⟩
      · rw [if_neg c4] at H
        have c4b0 : decide ((l0_1.length : Int) ≤ 17) = false := decide_eq_false c4
        have c4b1 : decide (l0_1.length ≤ 17) = false := decide_eq_false (by omega)
        clear c4
        obtain rfl := Option.some.inj H
        go_enter Try.func37, Try.ntmps37
        go_wp2_with (first | ((with_reducible refine gate_dst (N := 1) rfl ?_); (try (refine gate_guard (by rfl) ?_; dsimp only)); refine box_event ?hg (N := 1) ?hd (cs := #[.int .i64 a0_0, .slice A0_1 l0_1.length c0_1, .slice A0_2 l0_2.length c0_2, .bool a0_3]) (t := 38) ?hr ?_; (case hd => rfl); (case hg => rfl); (case hr => first | (go_simp; done) | (go_simp; rfl)); intro gb104 hg w13 hbox hb; have n0_ := Aside0.mk (below_step (by repeat (first | (with_reducible first | exact HB.out | apply below_alloc | apply pw_below_drewN | apply below_drew1) | exact HB.out)) hb); have n1_ := Aside0.mk (hbox); have n2_ := Aside0.mk ((by rw [hg]; exact (below_size (by repeat (first | (with_reducible first | exact HB.out | apply below_alloc | apply pw_below_drewN | apply below_drew1) | exact HB.out))) : w.heap.size ≤ gb104)); have n3_ := Aside0.mk ((by rw [hg]; exact (below_size (by repeat (first | (with_reducible first | exact HB.out | apply below_alloc | apply pw_below_drewN | apply below_drew1) | exact HB.out))) : w.heap.size ≤ gb104)); clear HB; have HB := n0_; have BK104 := n1_; have GW104 := n2_; have GE104 := n3_; clear n0_ n1_ n2_ n3_; clear hb hbox hg; have hcz14_0 : w13.cell? ⟨gb104, 0, none⟩ = some (.int .i64 a0_0) := (blk_cell BK104.out 0).trans rfl; have hcz14_1 : w13.cell? ⟨gb104, 1, none⟩ = some (.slice A0_1 l0_1.length c0_1) := (blk_cell BK104.out 1).trans rfl; have hcz14_2 : w13.cell? ⟨gb104, 2, none⟩ = some (.slice A0_2 l0_2.length c0_2) := (blk_cell BK104.out 2).trans rfl; have hcz14_3 : w13.cell? ⟨gb104, 3, none⟩ = some (.bool a0_3) := (blk_cell BK104.out 3).trans rfl; have hfz14_0 := blk_frozen BK104.out 0; have hfz14_1 := blk_frozen BK104.out 1; have hfz14_2 := blk_frozen BK104.out 2; have hfz14_3 := blk_frozen BK104.out 3))
        go_ret
        exact ⟨by first | rfl | (simp [errW_none, errW_some] <;> rfl) | (simp [*, errW_none, errW_some] <;> rfl), by repeat (first | (with_reducible first | exact HB.out | apply below_alloc | apply pw_below_drewN | apply below_drew1 | refine below_set ?_ GE104.out) | exact HB.out)⟩
    · rw [if_neg c3] at H
      have c3b0 : decide (a0_0 < 4) = false := decide_eq_false c3
      clear c3
      obtain rfl := Option.some.inj H
      go_enter Try.func37, Try.ntmps37
      go_wp2_with (first | ((with_reducible refine gate_dst (N := 1) rfl ?_); (try (refine gate_guard (by rfl) ?_; dsimp only)); refine box_event ?hg (N := 1) ?hd (cs := #[.int .i64 a0_0, .slice A0_1 l0_1.length c0_1, .slice A0_2 l0_2.length c0_2, .bool a0_3]) (t := 38) ?hr ?_; (case hd => rfl); (case hg => rfl); (case hr => first | (go_simp; done) | (go_simp; rfl)); intro gb104 hg w15 hbox hb; have n0_ := Aside0.mk (below_step (by repeat (first | (with_reducible first | exact HB.out | apply below_alloc | apply pw_below_drewN | apply below_drew1) | exact HB.out)) hb); have n1_ := Aside0.mk (hbox); have n2_ := Aside0.mk ((by rw [hg]; exact (below_size (by repeat (first | (with_reducible first | exact HB.out | apply below_alloc | apply pw_below_drewN | apply below_drew1) | exact HB.out))) : w.heap.size ≤ gb104)); have n3_ := Aside0.mk ((by rw [hg]; exact (below_size (by repeat (first | (with_reducible first | exact HB.out | apply below_alloc | apply pw_below_drewN | apply below_drew1) | exact HB.out))) : w.heap.size ≤ gb104)); clear HB; have HB := n0_; have BK104 := n1_; have GW104 := n2_; have GE104 := n3_; clear n0_ n1_ n2_ n3_; clear hb hbox hg; have hcz16_0 : w15.cell? ⟨gb104, 0, none⟩ = some (.int .i64 a0_0) := (blk_cell BK104.out 0).trans rfl; have hcz16_1 : w15.cell? ⟨gb104, 1, none⟩ = some (.slice A0_1 l0_1.length c0_1) := (blk_cell BK104.out 1).trans rfl; have hcz16_2 : w15.cell? ⟨gb104, 2, none⟩ = some (.slice A0_2 l0_2.length c0_2) := (blk_cell BK104.out 2).trans rfl; have hcz16_3 : w15.cell? ⟨gb104, 3, none⟩ = some (.bool a0_3) := (blk_cell BK104.out 3).trans rfl; have hfz16_0 := blk_frozen BK104.out 0; have hfz16_1 := blk_frozen BK104.out 1; have hfz16_2 := blk_frozen BK104.out 2; have hfz16_3 := blk_frozen BK104.out 3))
      go_ret
      exact ⟨by first | rfl | (simp [errW_none, errW_some] <;> rfl) | (simp [*, errW_none, errW_some] <;> rfl), by repeat (first | (with_reducible first | exact HB.out | apply below_alloc | apply pw_below_drewN | apply below_drew1 | refine below_set ?_ GE104.out) | exact HB.out)⟩
  · rw [if_neg c2] at H
    have c2b0 : decide (0 ≤ a0_0) = false := decide_eq_false c2
    clear c2
    obtain rfl := Option.some.inj H
    go_enter Try.func37, Try.ntmps37
    go_wp2_with (first | ((with_reducible refine gate_dst (N := 1) rfl ?_); (try (refine gate_guard (by rfl) ?_; dsimp only)); refine box_event ?hg (N := 1) ?hd (cs := #[.int .i64 a0_0, .slice A0_1 l0_1.length c0_1, .slice A0_2 l0_2.length c0_2, .bool a0_3]) (t := 38) ?hr ?_; (case hd => rfl); (case hg => rfl); (case hr => first | (go_simp; done) | (go_simp; rfl)); intro gb104 hg w17 hbox hb; have n0_ := Aside0.mk (below_step (by repeat (first | (with_reducible first | exact HB.out | apply below_alloc | apply pw_below_drewN | apply below_drew1) | exact HB.out)) hb); have n1_ := Aside0.mk (hbox); have n2_ := Aside0.mk ((by rw [hg]; exact (below_size (by repeat (first | (with_reducible first | exact HB.out | apply below_alloc | apply pw_below_drewN | apply below_drew1) | exact HB.out))) : w.heap.size ≤ gb104)); have n3_ := Aside0.mk ((by rw [hg]; exact (below_size (by repeat (first | (with_reducible first | exact HB.out | apply below_alloc | apply pw_below_drewN | apply below_drew1) | exact HB.out))) : w.heap.size ≤ gb104)); clear HB; have HB := n0_; have BK104 := n1_; have GW104 := n2_; have GE104 := n3_; clear n0_ n1_ n2_ n3_; clear hb hbox hg; have hcz18_0 : w17.cell? ⟨gb104, 0, none⟩ = some (.int .i64 a0_0) := (blk_cell BK104.out 0).trans rfl; have hcz18_1 : w17.cell? ⟨gb104, 1, none⟩ = some (.slice A0_1 l0_1.length c0_1) := (blk_cell BK104.out 1).trans rfl; have hcz18_2 : w17.cell? ⟨gb104, 2, none⟩ = some (.slice A0_2 l0_2.length c0_2) := (blk_cell BK104.out 2).trans rfl; have hcz18_3 : w17.cell? ⟨gb104, 3, none⟩ = some (.bool a0_3) := (blk_cell BK104.out 3).trans rfl; have hfz18_0 := blk_frozen BK104.out 0; have hfz18_1 := blk_frozen BK104.out 1; have hfz18_2 := blk_frozen BK104.out 2; have hfz18_3 := blk_frozen BK104.out 3))
    go_ret
    exact ⟨by first | rfl | (simp [errW_none, errW_some] <;> rfl) | (simp [*, errW_none, errW_some] <;> rfl), by repeat (first | (with_reducible first | exact HB.out | apply below_alloc | apply pw_below_drewN | apply below_drew1 | refine below_set ?_ GE104.out) | exact HB.out)⟩

end Go.Proofs.Ytpknchaajgkbnaa.P

-- Written by wip/gprint.py, a program of this session over the kit's print; Lean checks it.
namespace Go.Proofs.Ytpknchaajgkbnaa.P
open Go.RowKit Go.Proofs.YtpknchaajgkbnaaW.PrintWords Go.Proofs.YtpknchaajgkbnaaW.PrintLast Go.Proofs.YtpknchaajgkbnaaW.PrintMore
attribute [local go_sem] max2_int min2_int max_two min_two max_three min_three max_four min_four   -- for this text's walks alone
set_option linter.unusedVariables false
set_option linter.unusedSimpArgs false

/-! ### span_Empty: function 39 -/
def span_Empty.f (a0_0 : Int) (l0_1 : List Int) (l0_2 : List Int) (a0_3 : Bool) : Option (Bool) := if a0_3 = true then (some false) else ((bytes_Compare.f l0_2 l0_1).bind fun t106 => (some (decide (t106 ≤ 0))))
set_option maxHeartbeats 8000000 in
set_option maxRecDepth 100000 in
theorem span_Empty.calls (a0_0 : Int) (A0_1 : Option Addr) (c0_1 : Nat) (l0_1 : List Int) (A0_2 : Option Addr) (c0_2 : Nat) (l0_2 : List Int) (a0_3 : Bool) (r : Bool) (w : World) (hr0_1 : Kd.C (Kd.int .u8) w A0_1 l0_1.length l0_1) (hc0_1 : l0_1.length ≤ c0_1) (hr0_2 : Kd.C (Kd.int .u8) w A0_2 l0_2.length l0_2) (hc0_2 : l0_2.length ≤ c0_2) (h : span_Empty.f a0_0 l0_1 l0_2 a0_3 = some r) :
    Calls Try.prog 39 #[.agg #[.int .i64 a0_0, .slice A0_1 l0_1.length c0_1, .slice A0_2 l0_2.length c0_2, .bool a0_3]] w fun e w' => e = .returned (.bool r) ∧ Below w.heap.size w w' := by
  have hu38 := Try.underlying38
  have HR0_1 := Aside0.mk hr0_1
  have HC0_1 := Aside0.mk hc0_1
  clear hr0_1 hc0_1
  have HR0_2 := Aside0.mk hr0_2
  have HC0_2 := Aside0.mk hc0_2
  clear hr0_2 hc0_2
  have HB := Aside0.mk (Below.refl w.heap.size w)
  have H : (if a0_3 = true then (some false) else ((bytes_Compare.f l0_2 l0_1).bind fun t106 => (some (decide (t106 ≤ 0))))) = some r := h
  clear h
  by_cases c2 : a0_3 = true
  · subst c2
    have H1 : (some false) = some r := by rw [if_pos rfl] at H; exact H
    clear H
    have H := H1
    clear H1
    obtain rfl := Option.some.inj H
    go_enter Try.func39, Try.ntmps39
    go_wp2_with (first | ((with_reducible refine gate_dst (N := 1) rfl ?_); refine box_event ?hg (N := 1) ?hd (cs := #[.int .i64 a0_0, .slice A0_1 l0_1.length c0_1, .slice A0_2 l0_2.length c0_2, .bool true]) (t := 38) ?hr ?_; (case hd => rfl); (case hg => rfl); (case hr => first | (go_simp; done) | (go_simp; rfl)); intro gb105 hg w3 hbox hb; have n0_ := Aside0.mk (below_step (by repeat (first | (with_reducible first | exact HB.out | apply below_alloc | apply pw_below_drewN | apply below_drew1) | exact HB.out)) hb); have n1_ := Aside0.mk (hbox); have n2_ := Aside0.mk ((by rw [hg]; exact (below_size (by repeat (first | (with_reducible first | exact HB.out | apply below_alloc | apply pw_below_drewN | apply below_drew1) | exact HB.out))) : w.heap.size ≤ gb105)); have n3_ := Aside0.mk ((by rw [hg]; exact (below_size (by repeat (first | (with_reducible first | exact HB.out | apply below_alloc | apply pw_below_drewN | apply below_drew1) | exact HB.out))) : w.heap.size ≤ gb105)); clear HB; have HB := n0_; have BK105 := n1_; have GW105 := n2_; have GE105 := n3_; clear n0_ n1_ n2_ n3_; clear hb hbox hg; have hcz4_0 : w3.cell? ⟨gb105, 0, none⟩ = some (.int .i64 a0_0) := (blk_cell BK105.out 0).trans rfl; have hcz4_1 : w3.cell? ⟨gb105, 1, none⟩ = some (.slice A0_1 l0_1.length c0_1) := (blk_cell BK105.out 1).trans rfl; have hcz4_2 : w3.cell? ⟨gb105, 2, none⟩ = some (.slice A0_2 l0_2.length c0_2) := (blk_cell BK105.out 2).trans rfl; have hcz4_3 : w3.cell? ⟨gb105, 3, none⟩ = some (.bool true) := (blk_cell BK105.out 3).trans rfl; have hfz4_0 := blk_frozen BK105.out 0; have hfz4_1 := blk_frozen BK105.out 1; have hfz4_2 := blk_frozen BK105.out 2; have hfz4_3 := blk_frozen BK105.out 3))
    go_ret
    exact ⟨by first | rfl | (simp [errW_none, errW_some] <;> rfl) | (simp [*, errW_none, errW_some] <;> rfl), by repeat (first | (with_reducible first | exact HB.out | apply below_alloc | apply pw_below_drewN | apply below_drew1 | refine below_set ?_ GE105.out) | exact HB.out)⟩
  · replace c2 := Bool.eq_false_iff.mpr c2
    subst c2
    have H1 : ((bytes_Compare.f l0_2 l0_1).bind fun t106 => (some (decide (t106 ≤ 0)))) = some r := by rw [if_neg (show ¬ (false = true) by decide)] at H; exact H
    clear H
    have H := H1
    clear H1
    replace H := Option.bind_eq_some_iff.mp H
    obtain ⟨t106, A50, H⟩ := H
    replace H : (some (decide (t106 ≤ 0))) = some r := H
    have A5 := Aside0.mk A50
    clear A50
    obtain rfl := Option.some.inj H
    go_enter Try.func39, Try.ntmps39
    go_wp2_with (first | ((with_reducible refine gate_dst (N := 1) rfl ?_); refine box_event ?hg (N := 1) ?hd (cs := #[.int .i64 a0_0, .slice A0_1 l0_1.length c0_1, .slice A0_2 l0_2.length c0_2, .bool false]) (t := 38) ?hr ?_; (case hd => rfl); (case hg => rfl); (case hr => first | (go_simp; done) | (go_simp; rfl)); intro gb105 hg w6 hbox hb; have n0_ := Aside0.mk (below_step (by repeat (first | (with_reducible first | exact HB.out | apply below_alloc | apply pw_below_drewN | apply below_drew1) | exact HB.out)) hb); have n1_ := Aside0.mk (hbox); have n2_ := Aside0.mk ((by rw [hg]; exact (below_size (by repeat (first | (with_reducible first | exact HB.out | apply below_alloc | apply pw_below_drewN | apply below_drew1) | exact HB.out))) : w.heap.size ≤ gb105)); have n3_ := Aside0.mk ((by rw [hg]; exact (below_size (by repeat (first | (with_reducible first | exact HB.out | apply below_alloc | apply pw_below_drewN | apply below_drew1) | exact HB.out))) : w.heap.size ≤ gb105)); clear HB; have HB := n0_; have BK105 := n1_; have GW105 := n2_; have GE105 := n3_; clear n0_ n1_ n2_ n3_; clear hb hbox hg; have hcz7_0 : w6.cell? ⟨gb105, 0, none⟩ = some (.int .i64 a0_0) := (blk_cell BK105.out 0).trans rfl; have hcz7_1 : w6.cell? ⟨gb105, 1, none⟩ = some (.slice A0_1 l0_1.length c0_1) := (blk_cell BK105.out 1).trans rfl; have hcz7_2 : w6.cell? ⟨gb105, 2, none⟩ = some (.slice A0_2 l0_2.length c0_2) := (blk_cell BK105.out 2).trans rfl; have hcz7_3 : w6.cell? ⟨gb105, 3, none⟩ = some (.bool false) := (blk_cell BK105.out 3).trans rfl; have hfz7_0 := blk_frozen BK105.out 0; have hfz7_1 := blk_frozen BK105.out 1; have hfz7_2 := blk_frozen BK105.out 2; have hfz7_3 := blk_frozen BK105.out 3) | (go_at_call 49; (with_reducible refine (bytes_Compare.calls _ _ l0_2 _ _ l0_1 t106 _ ?side1 ?side2 ?side3 ?side4 A5.out).mono ?_); (case side1 => repeat (first | exact (Kd.C_below HR0_2.out HB.out) | (with_reducible refine Kd.C_alloc ?_ _) | (with_reducible refine Kd.C_drewN ?_ _) | (with_reducible refine Kd.C_drew ?_))); (case side2 => exact HC0_2.out); (case side3 => repeat (first | exact (Kd.C_below HR0_1.out HB.out) | (with_reducible refine Kd.C_alloc ?_ _) | (with_reducible refine Kd.C_drewN ?_ _) | (with_reducible refine Kd.C_drew ?_))); (case side4 => exact HC0_1.out); rintro e w' ⟨rfl, ⟨nd, rfl⟩⟩))
    go_ret
    exact ⟨by first | rfl | (simp [errW_none, errW_some] <;> rfl) | (simp [*, errW_none, errW_some] <;> rfl), by repeat (first | (with_reducible first | exact HB.out | apply below_alloc | apply pw_below_drewN | apply below_drew1 | refine below_set ?_ GE105.out) | exact HB.out)⟩

end Go.Proofs.Ytpknchaajgkbnaa.P

-- Written by wip/gprint.py, a program of this session over the kit's print; Lean checks it.
namespace Go.Proofs.Ytpknchaajgkbnaa.P
open Go.RowKit Go.Proofs.YtpknchaajgkbnaaW.PrintWords Go.Proofs.YtpknchaajgkbnaaW.PrintLast Go.Proofs.YtpknchaajgkbnaaW.PrintMore
attribute [local go_sem] max2_int min2_int max_two min_two max_three min_three max_four min_four   -- for this text's walks alone
set_option linter.unusedVariables false
set_option linter.unusedSimpArgs false

/-! ### span_Covers: function 41 -/
def span_Covers.f (a0_0 : Int) (l0_1 : List Int) (l0_2 : List Int) (a0_3 : Bool) (a1_0 : Int) (l1_1 : List Int) (l1_2 : List Int) (a1_3 : Bool) : Option (Bool) := (span_Empty.f a1_0 l1_1 l1_2 a1_3).bind fun t109 => (if t109 = true then (some true) else (if a0_0 = a1_0 then ((bytes_Compare.f l0_1 l1_1).bind fun t110 => (if t110 > 0 then (some false) else (if a0_3 = true then (some true) else (if a1_3 = true then (some false) else ((bytes_Compare.f l1_2 l0_2).bind fun t111 => (some (decide (t111 ≤ 0)))))))) else (some false)))
set_option maxHeartbeats 8000000 in
set_option maxRecDepth 100000 in
theorem span_Covers.calls (a0_0 : Int) (A0_1 : Option Addr) (c0_1 : Nat) (l0_1 : List Int) (A0_2 : Option Addr) (c0_2 : Nat) (l0_2 : List Int) (a0_3 : Bool) (a1_0 : Int) (A1_1 : Option Addr) (c1_1 : Nat) (l1_1 : List Int) (A1_2 : Option Addr) (c1_2 : Nat) (l1_2 : List Int) (a1_3 : Bool) (r : Bool) (w : World) (hr0_1 : Kd.C (Kd.int .u8) w A0_1 l0_1.length l0_1) (hc0_1 : l0_1.length ≤ c0_1) (hr0_2 : Kd.C (Kd.int .u8) w A0_2 l0_2.length l0_2) (hc0_2 : l0_2.length ≤ c0_2) (hr1_1 : Kd.C (Kd.int .u8) w A1_1 l1_1.length l1_1) (hc1_1 : l1_1.length ≤ c1_1) (hr1_2 : Kd.C (Kd.int .u8) w A1_2 l1_2.length l1_2) (hc1_2 : l1_2.length ≤ c1_2) (h : span_Covers.f a0_0 l0_1 l0_2 a0_3 a1_0 l1_1 l1_2 a1_3 = some r) :
    Calls Try.prog 41 #[.agg #[.int .i64 a0_0, .slice A0_1 l0_1.length c0_1, .slice A0_2 l0_2.length c0_2, .bool a0_3], .agg #[.int .i64 a1_0, .slice A1_1 l1_1.length c1_1, .slice A1_2 l1_2.length c1_2, .bool a1_3]] w fun e w' => e = .returned (.bool r) ∧ Below w.heap.size w w' := by
  have hu38 := Try.underlying38
  have HR0_1 := Aside0.mk hr0_1
  have HC0_1 := Aside0.mk hc0_1
  clear hr0_1 hc0_1
  have HR0_2 := Aside0.mk hr0_2
  have HC0_2 := Aside0.mk hc0_2
  clear hr0_2 hc0_2
  have HR1_1 := Aside0.mk hr1_1
  have HC1_1 := Aside0.mk hc1_1
  clear hr1_1 hc1_1
  have HR1_2 := Aside0.mk hr1_2
  have HC1_2 := Aside0.mk hc1_2
  clear hr1_2 hc1_2
  have HB := Aside0.mk (Below.refl w.heap.size w)
  have H : ((span_Empty.f a1_0 l1_1 l1_2 a1_3).bind fun t109 => (if t109 = true then (some true) else (if a0_0 = a1_0 then ((bytes_Compare.f l0_1 l1_1).bind fun t110 => (if t110 > 0 then (some false) else (if a0_3 = true then (some true) else (if a1_3 = true then (some false) else ((bytes_Compare.f l1_2 l0_2).bind fun t111 => (some (decide (t111 ≤ 0)))))))) else (some false)))) = some r := h
  clear h
  replace H := Option.bind_eq_some_iff.mp H
  obtain ⟨t109, A30, H⟩ := H
  replace H : (if t109 = true then (some true) else (if a0_0 = a1_0 then ((bytes_Compare.f l0_1 l1_1).bind fun t110 => (if t110 > 0 then (some false) else (if a0_3 = true then (some true) else (if a1_3 = true then (some false) else ((bytes_Compare.f l1_2 l0_2).bind fun t111 => (some (decide (t111 ≤ 0)))))))) else (some false))) = some r := H
  have A3 := Aside0.mk A30
  clear A30
  by_cases c4 : t109 = true
  · subst c4
    have H1 : (some true) = some r := by rw [if_pos rfl] at H; exact H
    clear H
    have H := H1
    clear H1
    obtain rfl := Option.some.inj H
    go_enter Try.func41, Try.ntmps41
    go_wp2_with (first | ((with_reducible refine gate_dst (N := 2) rfl ?_); refine box_event ?hg (N := 2) ?hd (cs := #[.int .i64 a0_0, .slice A0_1 l0_1.length c0_1, .slice A0_2 l0_2.length c0_2, .bool a0_3]) (t := 38) ?hr ?_; (case hd => rfl); (case hg => rfl); (case hr => first | (go_simp; done) | (go_simp; rfl)); intro gb107 hg w5 hbox hb; have n0_ := Aside0.mk (below_step (by repeat (first | (with_reducible first | exact HB.out | apply below_alloc | apply pw_below_drewN | apply below_drew1) | exact HB.out)) hb); have n1_ := Aside0.mk (hbox); have n2_ := Aside0.mk ((by rw [hg]; exact (below_size (by repeat (first | (with_reducible first | exact HB.out | apply below_alloc | apply pw_below_drewN | apply below_drew1) | exact HB.out))) : w.heap.size ≤ gb107)); have n3_ := Aside0.mk ((by rw [hg]; exact (below_size (by repeat (first | (with_reducible first | exact HB.out | apply below_alloc | apply pw_below_drewN | apply below_drew1) | exact HB.out))) : w.heap.size ≤ gb107)); clear HB; have HB := n0_; have BK107 := n1_; have GW107 := n2_; have GE107 := n3_; clear n0_ n1_ n2_ n3_; clear hb hbox hg) | ((with_reducible refine gate_dst (N := 3) rfl ?_); refine box_event ?hg (N := 3) ?hd (cs := #[.int .i64 a1_0, .slice A1_1 l1_1.length c1_1, .slice A1_2 l1_2.length c1_2, .bool a1_3]) (t := 38) ?hr ?_; (case hd => rfl); (case hg => rfl); (case hr => first | (go_simp; done) | (go_simp; rfl)); intro gb108 hg w6 hbox hb; have n0_ := Aside0.mk (blk_below (g := gb107) (o := .cells #[.int .i64 a0_0, .slice A0_1 l0_1.length c0_1, .slice A0_2 l0_2.length c0_2, .bool a0_3] 38 (0, 0)) (by (with_reducible repeat (first | refine blk_drewN ?_ _ | refine blk_drew ?_ | refine blk_alloc ?_ _)); exact BK107.out) hb); have n1_ := Aside0.mk (below_step (by repeat (first | (with_reducible first | exact HB.out | apply below_alloc | apply pw_below_drewN | apply below_drew1 | refine below_set ?_ GE107.out) | exact HB.out)) hb); have n2_ := Aside0.mk (hbox); have n3_ := Aside0.mk ((by rw [hg]; exact (below_size (by repeat (first | (with_reducible first | exact HB.out | apply below_alloc | apply pw_below_drewN | apply below_drew1 | refine below_set ?_ GE107.out) | exact HB.out))) : w.heap.size ≤ gb108)); have n4_ := Aside0.mk ((by rw [hg]; exact (below_size (by repeat (first | (with_reducible first | exact HB.out | apply below_alloc | apply pw_below_drewN | apply below_drew1 | refine below_set ?_ GE107.out) | exact HB.out))) : w.heap.size ≤ gb108)); have n5_ := Aside0.mk ((by rw [hg]; exact Nat.ne_of_lt (blk_lt (g := gb107) (o := .cells #[.int .i64 a0_0, .slice A0_1 l0_1.length c0_1, .slice A0_2 l0_2.length c0_2, .bool a0_3] 38 (0, 0)) (by (with_reducible repeat (first | refine blk_drewN ?_ _ | refine blk_drew ?_ | refine blk_alloc ?_ _)); exact BK107.out)) : gb107 ≠ gb108)); have n6_ := Aside0.mk ((by rw [hg]; exact Nat.ne_of_gt (blk_lt (g := gb107) (o := .cells #[.int .i64 a0_0, .slice A0_1 l0_1.length c0_1, .slice A0_2 l0_2.length c0_2, .bool a0_3] 38 (0, 0)) (by (with_reducible repeat (first | refine blk_drewN ?_ _ | refine blk_drew ?_ | refine blk_alloc ?_ _)); exact BK107.out)) : gb108 ≠ gb107)); clear BK107; clear HB; have BK107 := n0_; have HB := n1_; have BK108 := n2_; have GW108 := n3_; have GE108 := n4_; have NB107_108 := n5_; have NB108_107 := n6_; clear n0_ n1_ n2_ n3_ n4_ n5_ n6_; clear hb hbox hg; have hnb7 := NB108_107.out; have hnc7 := NB107_108.out; have hcz8_0 : w6.cell? ⟨gb108, 0, none⟩ = some (.int .i64 a1_0) := (blk_cell BK108.out 0).trans rfl; have hcz8_1 : w6.cell? ⟨gb108, 1, none⟩ = some (.slice A1_1 l1_1.length c1_1) := (blk_cell BK108.out 1).trans rfl; have hcz8_2 : w6.cell? ⟨gb108, 2, none⟩ = some (.slice A1_2 l1_2.length c1_2) := (blk_cell BK108.out 2).trans rfl; have hcz8_3 : w6.cell? ⟨gb108, 3, none⟩ = some (.bool a1_3) := (blk_cell BK108.out 3).trans rfl; have hfz8_0 := blk_frozen BK108.out 0; have hfz8_1 := blk_frozen BK108.out 1; have hfz8_2 := blk_frozen BK108.out 2; have hfz8_3 := blk_frozen BK108.out 3) | ((with_reducible refine gate_callee (f := 39) rfl ?_); refine goesL_ (some 7) rfl rfl Try.func39 (by kernel_rfl) rfl #[.agg #[.int .i64 a1_0, .slice A1_1 l1_1.length c1_1, .slice A1_2 l1_2.length c1_2, .bool a1_3]] rfl (by (try simp only [List.map_toArray, List.map_cons, List.map_nil]); first | done | rfl | (simp only [List.length_drop, List.length_take]; rfl)) ?_; (with_reducible refine (span_Empty.calls a1_0 _ _ l1_1 _ _ l1_2 a1_3 true _ ?side1 ?side2 ?side3 ?side4 A3.out).mono ?_); (case side1 => repeat (first | exact (Kd.C_below HR1_1.out HB.out) | (with_reducible refine Kd.C_alloc ?_ _) | (with_reducible refine Kd.C_drewN ?_ _) | (with_reducible refine Kd.C_drew ?_))); (case side2 => exact HC1_1.out); (case side3 => repeat (first | exact (Kd.C_below HR1_2.out HB.out) | (with_reducible refine Kd.C_alloc ?_ _) | (with_reducible refine Kd.C_drewN ?_ _) | (with_reducible refine Kd.C_drew ?_))); (case side4 => exact HC1_2.out); rintro e w9 ⟨rfl, hb⟩; refine ⟨_, rfl, ?_⟩; have n0_ := Aside0.mk (blk_below (g := gb107) (o := .cells #[.int .i64 a0_0, .slice A0_1 l0_1.length c0_1, .slice A0_2 l0_2.length c0_2, .bool a0_3] 38 (0, 0)) (by (with_reducible repeat (first | refine blk_drewN ?_ _ | refine blk_drew ?_ | refine blk_alloc ?_ _)); exact BK107.out) hb); have n1_ := Aside0.mk (blk_below (g := gb108) (o := .cells #[.int .i64 a1_0, .slice A1_1 l1_1.length c1_1, .slice A1_2 l1_2.length c1_2, .bool a1_3] 38 (0, 0)) (by (with_reducible repeat (first | refine blk_drewN ?_ _ | refine blk_drew ?_ | refine blk_alloc ?_ _)); exact BK108.out) hb); have n2_ := Aside0.mk (below_step (by repeat (first | (with_reducible first | exact HB.out | apply below_alloc | apply pw_below_drewN | apply below_drew1 | refine below_set ?_ GE107.out | refine below_set ?_ GE108.out) | exact HB.out)) hb); clear BK107; clear BK108; clear HB; have BK107 := n0_; have BK108 := n1_; have HB := n2_; clear n0_ n1_ n2_; (try clear hb); (try clear hb2); (try clear hk); (try clear hi)))
    go_ret
    exact ⟨by first | rfl | (simp [errW_none, errW_some] <;> rfl) | (simp [*, errW_none, errW_some] <;> rfl), by repeat (first | (with_reducible first | exact HB.out | apply below_alloc | apply pw_below_drewN | apply below_drew1 | refine below_set ?_ GE107.out | refine below_set ?_ GE108.out) | exact HB.out)⟩
  · replace c4 := Bool.eq_false_iff.mpr c4
    subst c4
    have H1 : (if a0_0 = a1_0 then ((bytes_Compare.f l0_1 l1_1).bind fun t110 => (if t110 > 0 then (some false) else (if a0_3 = true then (some true) else (if a1_3 = true then (some false) else ((bytes_Compare.f l1_2 l0_2).bind fun t111 => (some (decide (t111 ≤ 0)))))))) else (some false)) = some r := by rw [if_neg (show ¬ (false = true) by decide)] at H; exact H
    clear H
    have H := H1
    clear H1
    by_cases c10 : a0_0 = a1_0
    · rw [if_pos c10] at H
      have c10b0 : (a0_0 == a1_0) = true := beq_iff_eq.mpr c10
      have c10b1 : (a0_0 != a1_0) = false := bne_eq_false_iff_eq.mpr c10
      clear c10
      replace H := Option.bind_eq_some_iff.mp H
      obtain ⟨t110, A110, H⟩ := H
      replace H : (if t110 > 0 then (some false) else (if a0_3 = true then (some true) else (if a1_3 = true then (some false) else ((bytes_Compare.f l1_2 l0_2).bind fun t111 => (some (decide (t111 ≤ 0))))))) = some r := H
      have A11 := Aside0.mk A110
      clear A110
      by_cases c12 : t110 > 0
      · rw [if_pos c12] at H
        have c12b0 : decide (0 < t110) = true := decide_eq_true c12
        clear c12
        obtain rfl := Option.some.inj H
        go_enter Try.func41, Try.ntmps41
        go_wp2_with (first | ((with_reducible refine gate_dst (N := 2) rfl ?_); refine box_event ?hg (N := 2) ?hd (cs := #[.int .i64 a0_0, .slice A0_1 l0_1.length c0_1, .slice A0_2 l0_2.length c0_2, .bool a0_3]) (t := 38) ?hr ?_; (case hd => rfl); (case hg => rfl); (case hr => first | (go_simp; done) | (go_simp; rfl)); intro gb107 hg w13 hbox hb; have n0_ := Aside0.mk (below_step (by repeat (first | (with_reducible first | exact HB.out | apply below_alloc | apply pw_below_drewN | apply below_drew1) | exact HB.out)) hb); have n1_ := Aside0.mk (hbox); have n2_ := Aside0.mk ((by rw [hg]; exact (below_size (by repeat (first | (with_reducible first | exact HB.out | apply below_alloc | apply pw_below_drewN | apply below_drew1) | exact HB.out))) : w.heap.size ≤ gb107)); have n3_ := Aside0.mk ((by rw [hg]; exact (below_size (by repeat (first | (with_reducible first | exact HB.out | apply below_alloc | apply pw_below_drewN | apply below_drew1) | exact HB.out))) : w.heap.size ≤ gb107)); clear HB; have HB := n0_; have BK107 := n1_; have GW107 := n2_; have GE107 := n3_; clear n0_ n1_ n2_ n3_; clear hb hbox hg) | ((with_reducible refine gate_dst (N := 3) rfl ?_); refine box_event ?hg (N := 3) ?hd (cs := #[.int .i64 a1_0, .slice A1_1 l1_1.length c1_1, .slice A1_2 l1_2.length c1_2, .bool a1_3]) (t := 38) ?hr ?_; (case hd => rfl); (case hg => rfl); (case hr => first | (go_simp; done) | (go_simp; rfl)); intro gb108 hg w14 hbox hb; have n0_ := Aside0.mk (blk_below (g := gb107) (o := .cells #[.int .i64 a0_0, .slice A0_1 l0_1.length c0_1, .slice A0_2 l0_2.length c0_2, .bool a0_3] 38 (0, 0)) (by (with_reducible repeat (first | refine blk_drewN ?_ _ | refine blk_drew ?_ | refine blk_alloc ?_ _)); exact BK107.out) hb); have n1_ := Aside0.mk (below_step (by repeat (first | (with_reducible first | exact HB.out | apply below_alloc | apply pw_below_drewN | apply below_drew1 | refine below_set ?_ GE107.out) | exact HB.out)) hb); have n2_ := Aside0.mk (hbox); have n3_ := Aside0.mk ((by rw [hg]; exact (below_size (by repeat (first | (with_reducible first | exact HB.out | apply below_alloc | apply pw_below_drewN | apply below_drew1 | refine below_set ?_ GE107.out) | exact HB.out))) : w.heap.size ≤ gb108)); have n4_ := Aside0.mk ((by rw [hg]; exact (below_size (by repeat (first | (with_reducible first | exact HB.out | apply below_alloc | apply pw_below_drewN | apply below_drew1 | refine below_set ?_ GE107.out) | exact HB.out))) : w.heap.size ≤ gb108)); have n5_ := Aside0.mk ((by rw [hg]; exact Nat.ne_of_lt (blk_lt (g := gb107) (o := .cells #[.int .i64 a0_0, .slice A0_1 l0_1.length c0_1, .slice A0_2 l0_2.length c0_2, .bool a0_3] 38 (0, 0)) (by (with_reducible repeat (first | refine blk_drewN ?_ _ | refine blk_drew ?_ | refine blk_alloc ?_ _)); exact BK107.out)) : gb107 ≠ gb108)); have n6_ := Aside0.mk ((by rw [hg]; exact Nat.ne_of_gt (blk_lt (g := gb107) (o := .cells #[.int .i64 a0_0, .slice A0_1 l0_1.length c0_1, .slice A0_2 l0_2.length c0_2, .bool a0_3] 38 (0, 0)) (by (with_reducible repeat (first | refine blk_drewN ?_ _ | refine blk_drew ?_ | refine blk_alloc ?_ _)); exact BK107.out)) : gb108 ≠ gb107)); clear BK107; clear HB; have BK107 := n0_; have HB := n1_; have BK108 := n2_; have GW108 := n3_; have GE108 := n4_; have NB107_108 := n5_; have NB108_107 := n6_; clear n0_ n1_ n2_ n3_ n4_ n5_ n6_; clear hb hbox hg; have hnb15 := NB108_107.out; have hnc15 := NB107_108.out; have hcz16_0 : w14.cell? ⟨gb108, 0, none⟩ = some (.int .i64 a1_0) := (blk_cell BK108.out 0).trans rfl; have hcz16_1 : w14.cell? ⟨gb108, 1, none⟩ = some (.slice A1_1 l1_1.length c1_1) := (blk_cell BK108.out 1).trans rfl; have hcz16_2 : w14.cell? ⟨gb108, 2, none⟩ = some (.slice A1_2 l1_2.length c1_2) := (blk_cell BK108.out 2).trans rfl; have hcz16_3 : w14.cell? ⟨gb108, 3, none⟩ = some (.bool a1_3) := (blk_cell BK108.out 3).trans rfl; have hfz16_0 := blk_frozen BK108.out 0; have hfz16_1 := blk_frozen BK108.out 1; have hfz16_2 := blk_frozen BK108.out 2; have hfz16_3 := blk_frozen BK108.out 3) | ((with_reducible refine gate_callee (f := 39) rfl ?_); refine goesL_ (some 7) rfl rfl Try.func39 (by kernel_rfl) rfl #[.agg #[.int .i64 a1_0, .slice A1_1 l1_1.length c1_1, .slice A1_2 l1_2.length c1_2, .bool a1_3]] rfl (by (try simp only [List.map_toArray, List.map_cons, List.map_nil]); first | done | rfl | (simp only [List.length_drop, List.length_take]; rfl)) ?_; (with_reducible refine (span_Empty.calls a1_0 _ _ l1_1 _ _ l1_2 a1_3 false _ ?side1 ?side2 ?side3 ?side4 A3.out).mono ?_); (case side1 => repeat (first | exact (Kd.C_below HR1_1.out HB.out) | (with_reducible refine Kd.C_alloc ?_ _) | (with_reducible refine Kd.C_drewN ?_ _) | (with_reducible refine Kd.C_drew ?_))); (case side2 => exact HC1_1.out); (case side3 => repeat (first | exact (Kd.C_below HR1_2.out HB.out) | (with_reducible refine Kd.C_alloc ?_ _) | (with_reducible refine Kd.C_drewN ?_ _) | (with_reducible refine Kd.C_drew ?_))); (case side4 => exact HC1_2.out); rintro e w17 ⟨rfl, hb⟩; refine ⟨_, rfl, ?_⟩; have n0_ := Aside0.mk (blk_below (g := gb107) (o := .cells #[.int .i64 a0_0, .slice A0_1 l0_1.length c0_1, .slice A0_2 l0_2.length c0_2, .bool a0_3] 38 (0, 0)) (by (with_reducible repeat (first | refine blk_drewN ?_ _ | refine blk_drew ?_ | refine blk_alloc ?_ _)); exact BK107.out) hb); have n1_ := Aside0.mk (blk_below (g := gb108) (o := .cells #[.int .i64 a1_0, .slice A1_1 l1_1.length c1_1, .slice A1_2 l1_2.length c1_2, .bool a1_3] 38 (0, 0)) (by (with_reducible repeat (first | refine blk_drewN ?_ _ | refine blk_drew ?_ | refine blk_alloc ?_ _)); exact BK108.out) hb); have n2_ := Aside0.mk (below_step (by repeat (first | (with_reducible first | exact HB.out | apply below_alloc | apply pw_below_drewN | apply below_drew1 | refine below_set ?_ GE107.out | refine below_set ?_ GE108.out) | exact HB.out)) hb); clear BK107; clear BK108; clear HB; have BK107 := n0_; have BK108 := n1_; have HB := n2_; clear n0_ n1_ n2_; (try clear hb); (try clear hb2); (try clear hk); (try clear hi); have hcz18_0 : w17.cell? ⟨gb107, 0, none⟩ = some (.int .i64 a0_0) := (blk_cell BK107.out 0).trans rfl; have hcz18_1 : w17.cell? ⟨gb107, 1, none⟩ = some (.slice A0_1 l0_1.length c0_1) := (blk_cell BK107.out 1).trans rfl; have hcz18_2 : w17.cell? ⟨gb107, 2, none⟩ = some (.slice A0_2 l0_2.length c0_2) := (blk_cell BK107.out 2).trans rfl; have hcz18_3 : w17.cell? ⟨gb107, 3, none⟩ = some (.bool a0_3) := (blk_cell BK107.out 3).trans rfl; have hfz18_0 := blk_frozen BK107.out 0; have hfz18_1 := blk_frozen BK107.out 1; have hfz18_2 := blk_frozen BK107.out 2; have hfz18_3 := blk_frozen BK107.out 3; have hcz19_0 : w17.cell? ⟨gb108, 0, none⟩ = some (.int .i64 a1_0) := (blk_cell BK108.out 0).trans rfl; have hcz19_1 : w17.cell? ⟨gb108, 1, none⟩ = some (.slice A1_1 l1_1.length c1_1) := (blk_cell BK108.out 1).trans rfl; have hcz19_2 : w17.cell? ⟨gb108, 2, none⟩ = some (.slice A1_2 l1_2.length c1_2) := (blk_cell BK108.out 2).trans rfl; have hcz19_3 : w17.cell? ⟨gb108, 3, none⟩ = some (.bool a1_3) := (blk_cell BK108.out 3).trans rfl; have hfz19_0 := blk_frozen BK108.out 0; have hfz19_1 := blk_frozen BK108.out 1; have hfz19_2 := blk_frozen BK108.out 2; have hfz19_3 := blk_frozen BK108.out 3) | (go_at_call 49; (with_reducible refine (bytes_Compare.calls _ _ l0_1 _ _ l1_1 t110 _ ?side1 ?side2 ?side3 ?side4 A11.out).mono ?_); (case side1 => repeat (first | exact (Kd.C_below HR0_1.out HB.out) | (with_reducible refine Kd.C_alloc ?_ _) | (with_reducible refine Kd.C_drewN ?_ _) | (with_reducible refine Kd.C_drew ?_))); (case side2 => exact HC0_1.out); (case side3 => repeat (first | exact (Kd.C_below HR1_1.out HB.out) | (with_reducible refine Kd.C_alloc ?_ _) | (with_reducible refine Kd.C_drewN ?_ _) | (with_reducible refine Kd.C_drew ?_))); (case side4 => exact HC1_1.out); rintro e w' ⟨rfl, ⟨nd, rfl⟩⟩))
        go_ret
        exact ⟨by first | rfl | (simp [errW_none, errW_some] <;> rfl) | (simp [*, errW_none, errW_some] <;> rfl), by repeat (first | (with_reducible first | exact HB.out | apply below_alloc | apply pw_below_drewN | apply below_drew1 | refine below_set ?_ GE107.out | refine below_set ?_ GE108.out) | exact HB.out)⟩
      · rw [if_neg c12] at H
        have c12b0 : decide (0 < t110) = false := decide_eq_false c12
        clear c12
        by_cases c20 : a0_3 = true
        · subst c20
          have H1 : (some true) = some r := by rw [if_pos rfl] at H; exact H
          clear H
          have H := H1
          clear H1
          obtain rfl := Option.some.inj H
          go_enter Try.func41, Try.ntmps41
          go_wp2_with (first | ((with_reducible refine gate_dst (N := 2) rfl ?_); refine box_event ?hg (N := 2) ?hd (cs := #[.int .i64 a0_0, .slice A0_1 l0_1.length c0_1, .slice A0_2 l0_2.length c0_2, .bool true]) (t := 38) ?hr ?_; (case hd => rfl); (case hg => rfl); (case hr => first | (go_simp; done) | (go_simp; rfl)); intro gb107 hg w21 hbox hb; have n0_ := Aside0.mk (below_step (by repeat (first | (with_reducible first | exact HB.out | apply below_alloc | apply pw_below_drewN | apply below_drew1) | exact HB.out)) hb); have n1_ := Aside0.mk (hbox); have n2_ := Aside0.mk ((by rw [hg]; exact (below_size (by repeat (first | (with_reducible first | exact HB.out | apply below_alloc | apply pw_below_drewN | apply below_drew1) | exact HB.out))) : w.heap.size ≤ gb107)); have n3_ := Aside0.mk ((by rw [hg]; exact (below_size (by repeat (first | (with_reducible first | exact HB.out | apply below_alloc | apply pw_below_drewN | apply below_drew1) | exact HB.out))) : w.heap.size ≤ gb107)); clear HB; have HB := n0_; have BK107 := n1_; have GW107 := n2_; have GE107 := n3_; clear n0_ n1_ n2_ n3_; clear hb hbox hg) | ((with_reducible refine gate_dst (N := 3) rfl ?_); refine box_event ?hg (N := 3) ?hd (cs := #[.int .i64 a1_0, .slice A1_1 l1_1.length c1_1, .slice A1_2 l1_2.length c1_2, .bool a1_3]) (t := 38) ?hr ?_; (case hd => rfl); (case hg => rfl); (case hr => first | (go_simp; done) | (go_simp; rfl)); intro gb108 hg w22 hbox hb; have n0_ := Aside0.mk (blk_below (g := gb107) (o := .cells #[.int .i64 a0_0, .slice A0_1 l0_1.length c0_1, .slice A0_2 l0_2.length c0_2, .bool true] 38 (0, 0)) (by (with_reducible repeat (first | refine blk_drewN ?_ _ | refine blk_drew ?_ | refine blk_alloc ?_ _)); exact BK107.out) hb); have n1_ := Aside0.mk (below_step (by repeat (first | (with_reducible first | exact HB.out | apply below_alloc | apply pw_below_drewN | apply below_drew1 | refine below_set ?_ GE107.out) | exact HB.out)) hb); have n2_ := Aside0.mk (hbox); have n3_ := Aside0.mk ((by rw [hg]; exact (below_size (by repeat (first | (with_reducible first | exact HB.out | apply below_alloc | apply pw_below_drewN | apply below_drew1 | refine below_set ?_ GE107.out) | exact HB.out))) : w.heap.size ≤ gb108)); have n4_ := Aside0.mk ((by rw [hg]; exact (below_size (by repeat (first | (with_reducible first | exact HB.out | apply below_alloc | apply pw_below_drewN | apply below_drew1 | refine below_set ?_ GE107.out) | exact HB.out))) : w.heap.size ≤ gb108)); have n5_ := Aside0.mk ((by rw [hg]; exact Nat.ne_of_lt (blk_lt (g := gb107) (o := .cells #[.int .i64 a0_0, .slice A0_1 l0_1.length c0_1, .slice A0_2 l0_2.length c0_2, .bool true] 38 (0, 0)) (by (with_reducible repeat (first | refine blk_drewN ?_ _ | refine blk_drew ?_ | refine blk_alloc ?_ _)); exact BK107.out)) : gb107 ≠ gb108)); have n6_ := Aside0.mk ((by rw [hg]; exact Nat.ne_of_gt (blk_lt (g := gb107) (o := .cells #[.int .i64 a0_0, .slice A0_1 l0_1.length c0_1, .slice A0_2 l0_2.length c0_2, .bool true] 38 (0, 0)) (by (with_reducible repeat (first | refine blk_drewN ?_ _ | refine blk_drew ?_ | refine blk_alloc ?_ _)); exact BK107.out)) : gb108 ≠ gb107)); clear BK107; clear HB; have BK107 := n0_; have HB := n1_; have BK108 := n2_; have GW108 := n3_; have GE108 := n4_; have NB107_108 := n5_; have NB108_107 := n6_; clear n0_ n1_ n2_ n3_ n4_ n5_ n6_; clear hb hbox hg; have hnb23 := NB108_107.out; have hnc23 := NB107_108.out; have hcz24_0 : w22.cell? ⟨gb108, 0, none⟩ = some (.int .i64 a1_0) := (blk_cell BK108.out 0).trans rfl; have hcz24_1 : w22.cell? ⟨gb108, 1, none⟩ = some (.slice A1_1 l1_1.length c1_1) := (blk_cell BK108.out 1).trans rfl; have hcz24_2 : w22.cell? ⟨gb108, 2, none⟩ = some (.slice A1_2 l1_2.length c1_2) := (blk_cell BK108.out 2).trans rfl; have hcz24_3 : w22.cell? ⟨gb108, 3, none⟩ = some (.bool a1_3) := (blk_cell BK108.out 3).trans rfl; have hfz24_0 := blk_frozen BK108.out 0; have hfz24_1 := blk_frozen BK108.out 1; have hfz24_2 := blk_frozen BK108.out 2; have hfz24_3 := blk_frozen BK108.out 3) | ((with_reducible refine gate_callee (f := 39) rfl ?_); refine goesL_ (some 7) rfl rfl Try.func39 (by kernel_rfl) rfl #[.agg #[.int .i64 a1_0, .slice A1_1 l1_1.length c1_1, .slice A1_2 l1_2.length c1_2, .bool a1_3]] rfl (by (try simp only [List.map_toArray, List.map_cons, List.map_nil]); first | done | rfl | (simp only [List.length_drop, List.length_take]; rfl)) ?_; (with_reducible refine (span_Empty.calls a1_0 _ _ l1_1 _ _ l1_2 a1_3 false _ ?side1 ?side2 ?side3 ?side4 A3.out).mono ?_); (case side1 => repeat (first | exact (Kd.C_below HR1_1.out HB.out) | (with_reducible refine Kd.C_alloc ?_ _) | (with_reducible refine Kd.C_drewN ?_ _) | (with_reducible refine Kd.C_drew ?_))); (case side2 => exact HC1_1.out); (case side3 => repeat (first | exact (Kd.C_below HR1_2.out HB.out) | (with_reducible refine Kd.C_alloc ?_ _) | (with_reducible refine Kd.C_drewN ?_ _) | (with_reducible refine Kd.C_drew ?_))); (case side4 => exact HC1_2.out); rintro e w25 ⟨rfl, hb⟩; refine ⟨_, rfl, ?_⟩; have n0_ := Aside0.mk (blk_below (g := gb107) (o := .cells #[.int .i64 a0_0, .slice A0_1 l0_1.length c0_1, .slice A0_2 l0_2.length c0_2, .bool true] 38 (0, 0)) (by (with_reducible repeat (first | refine blk_drewN ?_ _ | refine blk_drew ?_ | refine blk_alloc ?_ _)); exact BK107.out) hb); have n1_ := Aside0.mk (blk_below (g := gb108) (o := .cells #[.int .i64 a1_0, .slice A1_1 l1_1.length c1_1, .slice A1_2 l1_2.length c1_2, .bool a1_3] 38 (0, 0)) (by (with_reducible repeat (first | refine blk_drewN ?_ _ | refine blk_drew ?_ | refine blk_alloc ?_ _)); exact BK108.out) hb); have n2_ := Aside0.mk (below_step (by repeat (first | (with_reducible first | exact HB.out | apply below_alloc | apply pw_below_drewN | apply below_drew1 | refine below_set ?_ GE107.out | refine below_set ?_ GE108.out) | exact HB.out)) hb); clear BK107; clear BK108; clear HB; have BK107 := n0_; have BK108 := n1_; have HB := n2_; clear n0_ n1_ n2_; (try clear hb); (try clear hb2); (try clear hk); (try clear hi); have hcz26_0 : w25.cell? ⟨gb107, 0, none⟩ = some (.int .i64 a0_0) := (blk_cell BK107.out 0).trans rfl; have hcz26_1 : w25.cell? ⟨gb107, 1, none⟩ = some (.slice A0_1 l0_1.length c0_1) := (blk_cell BK107.out 1).trans rfl; have hcz26_2 : w25.cell? ⟨gb107, 2, none⟩ = some (.slice A0_2 l0_2.length c0_2) := (blk_cell BK107.out 2).trans rfl; have hcz26_3 : w25.cell? ⟨gb107, 3, none⟩ = some (.bool true) := (blk_cell BK107.out 3).trans rfl; have hfz26_0 := blk_frozen BK107.out 0; have hfz26_1 := blk_frozen BK107.out 1; have hfz26_2 := blk_frozen BK107.out 2; have hfz26_3 := blk_frozen BK107.out 3; have hcz27_0 : w25.cell? ⟨gb108, 0, none⟩ = some (.int .i64 a1_0) := (blk_cell BK108.out 0).trans rfl; have hcz27_1 : w25.cell? ⟨gb108, 1, none⟩ = some (.slice A1_1 l1_1.length c1_1) := (blk_cell BK108.out 1).trans rfl; have hcz27_2 : w25.cell? ⟨gb108, 2, none⟩ = some (.slice A1_2 l1_2.length c1_2) := (blk_cell BK108.out 2).trans rfl; have hcz27_3 : w25.cell? ⟨gb108, 3, none⟩ = some (.bool a1_3) := (blk_cell BK108.out 3).trans rfl; have hfz27_0 := blk_frozen BK108.out 0; have hfz27_1 := blk_frozen BK108.out 1; have hfz27_2 := blk_frozen BK108.out 2; have hfz27_3 := blk_frozen BK108.out 3) | (go_at_call 49; (with_reducible refine (bytes_Compare.calls _ _ l0_1 _ _ l1_1 t110 _ ?side1 ?side2 ?side3 ?side4 A11.out).mono ?_); (case side1 => repeat (first | exact (Kd.C_below HR0_1.out HB.out) | (with_reducible refine Kd.C_alloc ?_ _) | (with_reducible refine Kd.C_drewN ?_ _) | (with_reducible refine Kd.C_drew ?_))); (case side2 => exact HC0_1.out); (case side3 => repeat (first | exact (Kd.C_below HR1_1.out HB.out) | (with_reducible refine Kd.C_alloc ?_ _) | (with_reducible refine Kd.C_drewN ?_ _) | (with_reducible refine Kd.C_drew ?_))); (case side4 => exact HC1_1.out); rintro e w' ⟨rfl, ⟨nd, rfl⟩⟩))
          go_ret
          exact ⟨by first | rfl | (simp [errW_none, errW_some] <;> rfl) | (simp [*, errW_none, errW_some] <;> rfl), by repeat (first | (with_reducible first | exact HB.out | apply below_alloc | apply pw_below_drewN | apply below_drew1 | refine below_set ?_ GE107.out | refine below_set ?_ GE108.out) | exact HB.out)⟩
        · replace c20 := Bool.eq_false_iff.mpr c20
          subst c20
          have H1 : (if a1_3 = true then (some false) else ((bytes_Compare.f l1_2 l0_2).bind fun t111 => (some (decide (t111 ≤ 0))))) = some r := by rw [if_neg (show ¬ (false = true) by decide)] at H; exact H
          clear H
          have H := H1
          clear H1
          by_cases c28 : a1_3 = true
          · subst c28
            have H1 : (some false) = some r := by rw [if_pos rfl] at H; exact H
            clear H
            have H := H1
            clear H1
            obtain rfl := Option.some.inj H
            go_enter Try.func41, Try.ntmps41
            go_wp2_with (first | ((with_reducible refine gate_dst (N := 2) rfl ?_); refine box_event ?hg (N := 2) ?hd (cs := #[.int .i64 a0_0, .slice A0_1 l0_1.length c0_1, .slice A0_2 l0_2.length c0_2, .bool false]) (t := 38) ?hr ?_; (case hd => rfl); (case hg => rfl); (case hr => first | (go_simp; done) | (go_simp; rfl)); intro gb107 hg w29 hbox hb; have n0_ := Aside0.mk (below_step (by repeat (first | (with_reducible first | exact HB.out | apply below_alloc | apply pw_below_drewN | apply below_drew1) | exact HB.out)) hb); have n1_ := Aside0.mk (hbox); have n2_ := Aside0.mk ((by rw [hg]; exact (below_size (by repeat (first | (with_reducible first | exact HB.out | apply below_alloc | apply pw_below_drewN | apply below_drew1) | exact HB.out))) : w.heap.size ≤ gb107)); have n3_ := Aside0.mk ((by rw [hg]; exact (below_size (by repeat (first | (with_reducible first | exact HB.out | apply below_alloc | apply pw_below_drewN | apply below_drew1) | exact HB.out))) : w.heap.size ≤ gb107)); clear HB; have HB := n0_; have BK107 := n1_; have GW107 := n2_; have GE107 := n3_; clear n0_ n1_ n2_ n3_; clear hb hbox hg) | ((with_reducible refine gate_dst (N := 3) rfl ?_); refine box_event ?hg (N := 3) ?hd (cs := #[.int .i64 a1_0, .slice A1_1 l1_1.length c1_1, .slice A1_2 l1_2.length c1_2, .bool true]) (t := 38) ?hr ?_; (case hd => rfl); (case hg => rfl); (case hr => first | (go_simp; done) | (go_simp; rfl)); intro gb108 hg w30 hbox hb; have n0_ := Aside0.mk (blk_below (g := gb107) (o := .cells #[.int .i64 a0_0, .slice A0_1 l0_1.length c0_1, .slice A0_2 l0_2.length c0_2, .bool false] 38 (0, 0)) (by (with_reducible repeat (first | refine blk_drewN ?_ _ | refine blk_drew ?_ | refine blk_alloc ?_ _)); exact BK107.out) hb); have n1_ := Aside0.mk (below_step (by repeat (first | (with_reducible first | exact HB.out | apply below_alloc | apply pw_below_drewN | apply below_drew1 | refine below_set ?_ GE107.out) | exact HB.out)) hb); have n2_ := Aside0.mk (hbox); have n3_ := Aside0.mk ((by rw [hg]; exact (below_size (by repeat (first | (with_reducible first | exact HB.out | apply below_alloc | apply pw_below_drewN | apply below_drew1 | refine below_set ?_ GE107.out) | exact HB.out))) : w.heap.size ≤ gb108)); have n4_ := Aside0.mk ((by rw [hg]; exact (below_size (by repeat (first | (with_reducible first | exact HB.out | apply below_alloc | apply pw_below_drewN | apply below_drew1 | refine below_set ?_ GE107.out) | exact HB.out))) : w.heap.size ≤ gb108)); have n5_ := Aside0.mk ((by rw [hg]; exact Nat.ne_of_lt (blk_lt (g := gb107) (o := .cells #[.int .i64 a0_0, .slice A0_1 l0_1.length c0_1, .slice A0_2 l0_2.length c0_2, .bool false] 38 (0, 0)) (by (with_reducible repeat (first | refine blk_drewN ?_ _ | refine blk_drew ?_ | refine blk_alloc ?_ _)); exact BK107.out)) : gb107 ≠ gb108)); have n6_ := Aside0.mk ((by rw [hg]; exact Nat.ne_of_gt (blk_lt (g := gb107) (o := .cells #[.int .i64 a0_0, .slice A0_1 l0_1.length c0_1, .slice A0_2 l0_2.length c0_2, .bool false] 38 (0, 0)) (by (with_reducible repeat (first | refine blk_drewN ?_ _ | refine blk_drew ?_ | refine blk_alloc ?_ _)); exact BK107.out)) : gb108 ≠ gb107)); clear BK107; clear HB; have BK107 := n0_; have HB := n1_; have BK108 := n2_; have GW108 := n3_; have GE108 := n4_; have NB107_108 := n5_; have NB108_107 := n6_; clear n0_ n1_ n2_ n3_ n4_ n5_ n6_; clear hb hbox hg; have hnb31 := NB108_107.out; have hnc31 := NB107_108.out; have hcz32_0 : w30.cell? ⟨gb108, 0, none⟩ = some (.int .i64 a1_0) := (blk_cell BK108.out 0).trans rfl; have hcz32_1 : w30.cell? ⟨gb108, 1, none⟩ = some (.slice A1_1 l1_1.length c1_1) := (blk_cell BK108.out 1).trans rfl; have hcz32_2 : w30.cell? ⟨gb108, 2, none⟩ = some (.slice A1_2 l1_2.length c1_2) := (blk_cell BK108.out 2).trans rfl; have hcz32_3 : w30.cell? ⟨gb108, 3, none⟩ = some (.bool true) := (blk_cell BK108.out 3).trans rfl; have hfz32_0 := blk_frozen BK108.out 0; have hfz32_1 := blk_frozen BK108.out 1; have hfz32_2 := blk_frozen BK108.out 2; have hfz32_3 := blk_frozen BK108.out 3) | ((with_reducible refine gate_callee (f := 39) rfl ?_); refine goesL_ (some 7) rfl rfl Try.func39 (by kernel_rfl) rfl #[.agg #[.int .i64 a1_0, .slice A1_1 l1_1.length c1_1, .slice A1_2 l1_2.length c1_2, .bool true]] rfl (by (try simp only [List.map_toArray, List.map_cons, List.map_nil]); first | done | rfl | (simp only [List.length_drop, List.length_take]; rfl)) ?_; (with_reducible refine (span_Empty.calls a1_0 _ _ l1_1 _ _ l1_2 true false _ ?side1 ?side2 ?side3 ?side4 A3.out).mono ?_); (case side1 => repeat (first | exact (Kd.C_below HR1_1.out HB.out) | (with_reducible refine Kd.C_alloc ?_ _) | (with_reducible refine Kd.C_drewN ?_ _) | (with_reducible refine Kd.C_drew ?_))); (case side2 => exact HC1_1.out); (case side3 => repeat (first | exact (Kd.C_below HR1_2.out HB.out) | (with_reducible refine Kd.C_alloc ?_ _) | (with_reducible refine Kd.C_drewN ?_ _) | (with_reducible refine Kd.C_drew ?_))); (case side4 => exact HC1_2.out); rintro e w33 ⟨rfl, hb⟩; refine ⟨_, rfl, ?_⟩; have n0_ := Aside0.mk (blk_below (g := gb107) (o := .cells #[.int .i64 a0_0, .slice A0_1 l0_1.length c0_1, .slice A0_2 l0_2.length c0_2, .bool false] 38 (0, 0)) (by (with_reducible repeat (first | refine blk_drewN ?_ _ | refine blk_drew ?_ | refine blk_alloc ?_ _)); exact BK107.out) hb); have n1_ := Aside0.mk (blk_below (g := gb108) (o := .cells #[.int .i64 a1_0, .slice A1_1 l1_1.length c1_1, .slice A1_2 l1_2.length c1_2, .bool true] 38 (0, 0)) (by (with_reducible repeat (first | refine blk_drewN ?_ _ | refine blk_drew ?_ | refine blk_alloc ?_ _)); exact BK108.out) hb); have n2_ := Aside0.mk (below_step (by repeat (first | (with_reducible first | exact HB.out | apply below_alloc | apply pw_below_drewN | apply below_drew1 | refine below_set ?_ GE107.out | refine below_set ?_ GE108.out) | exact HB.out)) hb); clear BK107; clear BK108; clear HB; have BK107 := n0_; have BK108 := n1_; have HB := n2_; clear n0_ n1_ n2_; (try clear hb); (try clear hb2); (try clear hk); (try clear hi); have hcz34_0 : w33.cell? ⟨gb107, 0, none⟩ = some (.int .i64 a0_0) := (blk_cell BK107.out 0).trans rfl; have hcz34_1 : w33.cell? ⟨gb107, 1, none⟩ = some (.slice A0_1 l0_1.length c0_1) := (blk_cell BK107.out 1).trans rfl; have hcz34_2 : w33.cell? ⟨gb107, 2, none⟩ = some (.slice A0_2 l0_2.length c0_2) := (blk_cell BK107.out 2).trans rfl; have hcz34_3 : w33.cell? ⟨gb107, 3, none⟩ = some (.bool false) := (blk_cell BK107.out 3).trans rfl; have hfz34_0 := blk_frozen BK107.out 0; have hfz34_1 := blk_frozen BK107.out 1; have hfz34_2 := blk_frozen BK107.out 2; have hfz34_3 := blk_frozen BK107.out 3; have hcz35_0 : w33.cell? ⟨gb108, 0, none⟩ = some (.int .i64 a1_0) := (blk_cell BK108.out 0).trans rfl; have hcz35_1 : w33.cell? ⟨gb108, 1, none⟩ = some (.slice A1_1 l1_1.length c1_1) := (blk_cell BK108.out 1).trans rfl; have hcz35_2 : w33.cell? ⟨gb108, 2, none⟩ = some (.slice A1_2 l1_2.length c1_2) := (blk_cell BK108.out 2).trans rfl; have hcz35_3 : w33.cell? ⟨gb108, 3, none⟩ = some (.bool true) := (blk_cell BK108.out 3).trans rfl; have hfz35_0 := blk_frozen BK108.out 0; have hfz35_1 := blk_frozen BK108.out 1; have hfz35_2 := blk_frozen BK108.out 2; have hfz35_3 := blk_frozen BK108.out 3) | (go_at_call 49; (with_reducible refine (bytes_Compare.calls _ _ l0_1 _ _ l1_1 t110 _ ?side1 ?side2 ?side3 ?side4 A11.out).mono ?_); (case side1 => repeat (first | exact (Kd.C_below HR0_1.out HB.out) | (with_reducible refine Kd.C_alloc ?_ _) | (with_reducible refine Kd.C_drewN ?_ _) | (with_reducible refine Kd.C_drew ?_))); (case side2 => exact HC0_1.out); (case side3 => repeat (first | exact (Kd.C_below HR1_1.out HB.out) | (with_reducible refine Kd.C_alloc ?_ _) | (with_reducible refine Kd.C_drewN ?_ _) | (with_reducible refine Kd.C_drew ?_))); (case side4 => exact HC1_1.out); rintro e w' ⟨rfl, ⟨nd, rfl⟩⟩))
            go_ret
            exact ⟨by first | rfl | (simp [errW_none, errW_some] <;> rfl) | (simp [*, errW_none, errW_some] <;> rfl), by repeat (first | (with_reducible first | exact HB.out | apply below_alloc | apply pw_below_drewN | apply below_drew1 | refine below_set ?_ GE107.out | refine below_set ?_ GE108.out) | exact HB.out)⟩
          · replace c28 := Bool.eq_false_iff.mpr c28
            subst c28
            have H1 : ((bytes_Compare.f l1_2 l0_2).bind fun t111 => (some (decide (t111 ≤ 0)))) = some r := by rw [if_neg (show ¬ (false = true) by decide)] at H; exact H
            clear H
            have H := H1
            clear H1
            replace H := Option.bind_eq_some_iff.mp H
            obtain ⟨t111, A360, H⟩ := H
            replace H : (some (decide (t111 ≤ 0))) = some r := H
            have A36 := Aside0.mk A360
            clear A360
            obtain rfl := Option.some.inj H
            go_enter Try.func41, Try.ntmps41
            go_wp2_with (first | ((with_reducible refine gate_dst (N := 2) rfl ?_); refine box_event ?hg (N := 2) ?hd (cs := #[.int .i64 a0_0, .slice A0_1 l0_1.length c0_1, .slice A0_2 l0_2.length c0_2, .bool false]) (t := 38) ?hr ?_; (case hd => rfl); (case hg => rfl); (case hr => first | (go_simp; done) | (go_simp; rfl)); intro gb107 hg w37 hbox hb; have n0_ := Aside0.mk (below_step (by repeat (first | (with_reducible first | exact HB.out | apply below_alloc | apply pw_below_drewN | apply below_drew1) | exact HB.out)) hb); have n1_ := Aside0.mk (hbox); have n2_ := Aside0.mk ((by rw [hg]; exact (below_size (by repeat (first | (with_reducible first | exact HB.out | apply below_alloc | apply pw_below_drewN | apply below_drew1) | exact HB.out))) : w.heap.size ≤ gb107)); have n3_ := Aside0.mk ((by rw [hg]; exact (below_size (by repeat (first | (with_reducible first | exact HB.out | apply below_alloc | apply pw_below_drewN | apply below_drew1) | exact HB.out))) : w.heap.size ≤ gb107)); clear HB; have HB := n0_; have BK107 := n1_; have GW107 := n2_; have GE107 := n3_; clear n0_ n1_ n2_ n3_; clear hb hbox hg) | ((with_reducible refine gate_dst (N := 3) rfl ?_); refine box_event ?hg (N := 3) ?hd (cs := #[.int .i64 a1_0, .slice A1_1 l1_1.length c1_1, .slice A1_2 l1_2.length c1_2, .bool false]) (t := 38) ?hr ?_; (case hd => rfl); (case hg => rfl); (case hr => first | (go_simp; done) | (go_simp; rfl)); intro gb108 hg w38 hbox hb; have n0_ := Aside0.mk (blk_below (g := gb107) (o := .cells #[.int .i64 a0_0, .slice A0_1 l0_1.length c0_1, .slice A0_2 l0_2.length c0_2, .bool false] 38 (0, 0)) (by (with_reducible repeat (first | refine blk_drewN ?_ _ | refine blk_drew ?_ | refine blk_alloc ?_ _)); exact BK107.out) hb); have n1_ := Aside0.mk (below_step (by repeat (first | (with_reducible first | exact HB.out | apply below_alloc | apply pw_below_drewN | apply below_drew1 | refine below_set ?_ GE107.out) | exact HB.out)) hb); have n2_ := Aside0.mk (hbox); have n3_ := Aside0.mk ((by rw [hg]; exact (below_size (by repeat (first | (with_reducible first | exact HB.out | apply below_alloc | apply pw_below_drewN | apply below_drew1 | refine below_set ?_ GE107.out) | exact HB.out))) : w.heap.size ≤ gb108)); have n4_ := Aside0.mk ((by rw [hg]; exact (below_size (by repeat (first | (with_reducible first | exact HB.out | apply below_alloc | apply pw_below_drewN | apply below_drew1 | refine below_set ?_ GE107.out) | exact HB.out))) : w.heap.size ≤ gb108)); have n5_ := Aside0.mk ((by rw [hg]; exact Nat.ne_of_lt (blk_lt (g := gb107) (o := .cells #[.int .i64 a0_0, .slice A0_1 l0_1.length c0_1, .slice A0_2 l0_2.length c0_2, .bool false] 38 (0, 0)) (by (with_reducible repeat (first | refine blk_drewN ?_ _ | refine blk_drew ?_ | refine blk_alloc ?_ _)); exact BK107.out)) : gb107 ≠ gb108)); have n6_ := Aside0.mk ((by rw [hg]; exact Nat.ne_of_gt (blk_lt (g := gb107) (o := .cells #[.int .i64 a0_0, .slice A0_1 l0_1.length c0_1, .slice A0_2 l0_2.length c0_2, .bool false] 38 (0, 0)) (by (with_reducible repeat (first | refine blk_drewN ?_ _ | refine blk_drew ?_ | refine blk_alloc ?_ _)); exact BK107.out)) : gb108 ≠ gb107)); clear BK107; clear HB; have BK107 := n0_; have HB := n1_; have BK108 := n2_; have GW108 := n3_; have GE108 := n4_; have NB107_108 := n5_; have NB108_107 := n6_; clear n0_ n1_ n2_ n3_ n4_ n5_ n6_; clear hb hbox hg; have hnb39 := NB108_107.out; have hnc39 := NB107_108.out; have hcz40_0 : w38.cell? ⟨gb108, 0, none⟩ = some (.int .i64 a1_0) := (blk_cell BK108.out 0).trans rfl; have hcz40_1 : w38.cell? ⟨gb108, 1, none⟩ = some (.slice A1_1 l1_1.length c1_1) := (blk_cell BK108.out 1).trans rfl; have hcz40_2 : w38.cell? ⟨gb108, 2, none⟩ = some (.slice A1_2 l1_2.length c1_2) := (blk_cell BK108.out 2).trans rfl; have hcz40_3 : w38.cell? ⟨gb108, 3, none⟩ = some (.bool false) := (blk_cell BK108.out 3).trans rfl; have hfz40_0 := blk_frozen BK108.out 0; have hfz40_1 := blk_frozen BK108.out 1; have hfz40_2 := blk_frozen BK108.out 2; have hfz40_3 := blk_frozen BK108.out 3) | ((with_reducible refine gate_callee (f := 39) rfl ?_); refine goesL_ (some 7) rfl rfl Try.func39 (by kernel_rfl) rfl #[.agg #[.int .i64 a1_0, .slice A1_1 l1_1.length c1_1, .slice A1_2 l1_2.length c1_2, .bool false]] rfl (by (try simp only [List.map_toArray, List.map_cons, List.map_nil]); first | done | rfl | (simp only [List.length_drop, List.length_take]; rfl)) ?_; (with_reducible refine (span_Empty.calls a1_0 _ _ l1_1 _ _ l1_2 false false _ ?side1 ?side2 ?side3 ?side4 A3.out).mono ?_); (case side1 => repeat (first | exact (Kd.C_below HR1_1.out HB.out) | (with_reducible refine Kd.C_alloc ?_ _) | (with_reducible refine Kd.C_drewN ?_ _) | (with_reducible refine Kd.C_drew ?_))); (case side2 => exact HC1_1.out); (case side3 => repeat (first | exact (Kd.C_below HR1_2.out HB.out) | (with_reducible refine Kd.C_alloc ?_ _) | (with_reducible refine Kd.C_drewN ?_ _) | (with_reducible refine Kd.C_drew ?_))); (case side4 => exact HC1_2.out); rintro e w41 ⟨rfl, hb⟩; refine ⟨_, rfl, ?_⟩; have n0_ := Aside0.mk (blk_below (g := gb107) (o := .cells #[.int .i64 a0_0, .slice A0_1 l0_1.length c0_1, .slice A0_2 l0_2.length c0_2, .bool false] 38 (0, 0)) (by (with_reducible repeat (first | refine blk_drewN ?_ _ | refine blk_drew ?_ | refine blk_alloc ?_ _)); exact BK107.out) hb); have n1_ := Aside0.mk (blk_below (g := gb108) (o := .cells #[.int .i64 a1_0, .slice A1_1 l1_1.length c1_1, .slice A1_2 l1_2.length c1_2, .bool false] 38 (0, 0)) (by (with_reducible repeat (first | refine blk_drewN ?_ _ | refine blk_drew ?_ | refine blk_alloc ?_ _)); exact BK108.out) hb); have n2_ := Aside0.mk (below_step (by repeat (first | (with_reducible first | exact HB.out | apply below_alloc | apply pw_below_drewN | apply below_drew1 | refine below_set ?_ GE107.out | refine below_set ?_ GE108.out) | exact HB.out)) hb); clear BK107; clear BK108; clear HB; have BK107 := n0_; have BK108 := n1_; have HB := n2_; clear n0_ n1_ n2_; (try clear hb); (try clear hb2); (try clear hk); (try clear hi); have hcz42_0 : w41.cell? ⟨gb107, 0, none⟩ = some (.int .i64 a0_0) := (blk_cell BK107.out 0).trans rfl; have hcz42_1 : w41.cell? ⟨gb107, 1, none⟩ = some (.slice A0_1 l0_1.length c0_1) := (blk_cell BK107.out 1).trans rfl; have hcz42_2 : w41.cell? ⟨gb107, 2, none⟩ = some (.slice A0_2 l0_2.length c0_2) := (blk_cell BK107.out 2).trans rfl; have hcz42_3 : w41.cell? ⟨gb107, 3, none⟩ = some (.bool false) := (blk_cell BK107.out 3).trans rfl; have hfz42_0 := blk_frozen BK107.out 0; have hfz42_1 := blk_frozen BK107.out 1; have hfz42_2 := blk_frozen BK107.out 2; have hfz42_3 := blk_frozen BK107.out 3; have hcz43_0 : w41.cell? ⟨gb108, 0, none⟩ = some (.int .i64 a1_0) := (blk_cell BK108.out 0).trans rfl; have hcz43_1 : w41.cell? ⟨gb108, 1, none⟩ = some (.slice A1_1 l1_1.length c1_1) := (blk_cell BK108.out 1).trans rfl; have hcz43_2 : w41.cell? ⟨gb108, 2, none⟩ = some (.slice A1_2 l1_2.length c1_2) := (blk_cell BK108.out 2).trans rfl; have hcz43_3 : w41.cell? ⟨gb108, 3, none⟩ = some (.bool false) := (blk_cell BK108.out 3).trans rfl; have hfz43_0 := blk_frozen BK108.out 0; have hfz43_1 := blk_frozen BK108.out 1; have hfz43_2 := blk_frozen BK108.out 2; have hfz43_3 := blk_frozen BK108.out 3) | (go_at_call 49; (with_reducible refine (bytes_Compare.calls _ _ l0_1 _ _ l1_1 t110 _ ?side1 ?side2 ?side3 ?side4 A11.out).mono ?_); (case side1 => repeat (first | exact (Kd.C_below HR0_1.out HB.out) | (with_reducible refine Kd.C_alloc ?_ _) | (with_reducible refine Kd.C_drewN ?_ _) | (with_reducible refine Kd.C_drew ?_))); (case side2 => exact HC0_1.out); (case side3 => repeat (first | exact (Kd.C_below HR1_1.out HB.out) | (with_reducible refine Kd.C_alloc ?_ _) | (with_reducible refine Kd.C_drewN ?_ _) | (with_reducible refine Kd.C_drew ?_))); (case side4 => exact HC1_1.out); rintro e w' ⟨rfl, ⟨nd, rfl⟩⟩) | (go_at_call 49; (with_reducible refine (bytes_Compare.calls _ _ l1_2 _ _ l0_2 t111 _ ?side1 ?side2 ?side3 ?side4 A36.out).mono ?_); (case side1 => repeat (first | exact (Kd.C_below HR1_2.out (by repeat (first | (with_reducible first | exact HB.out | apply below_alloc | apply pw_below_drewN | apply below_drew1 | refine below_set ?_ GE107.out | refine below_set ?_ GE108.out) | exact HB.out))) | (with_reducible refine Kd.C_alloc ?_ _) | (with_reducible refine Kd.C_drewN ?_ _) | (with_reducible refine Kd.C_drew ?_))); (case side2 => exact HC1_2.out); (case side3 => repeat (first | exact (Kd.C_below HR0_2.out (by repeat (first | (with_reducible first | exact HB.out | apply below_alloc | apply pw_below_drewN | apply below_drew1 | refine below_set ?_ GE107.out | refine below_set ?_ GE108.out) | exact HB.out))) | (with_reducible refine Kd.C_alloc ?_ _) | (with_reducible refine Kd.C_drewN ?_ _) | (with_reducible refine Kd.C_drew ?_))); (case side4 => exact HC0_2.out); rintro e w' ⟨rfl, ⟨nd, rfl⟩⟩))
            go_ret
            exact ⟨by first | rfl | (simp [errW_none, errW_some] <;> rfl) | (simp [*, errW_none, errW_some] <;> rfl), by repeat (first | (with_reducible first | exact HB.out | apply below_alloc | apply pw_below_drewN | apply below_drew1 | refine below_set ?_ GE107.out | refine below_set ?_ GE108.out) | exact HB.out)⟩
    · rw [if_neg c10] at H
      have c10b0 : (a0_0 == a1_0) = false := beq_eq_false_iff_ne.mpr c10
      have c10b1 : (a0_0 != a1_0) = true := bne_iff_ne.mpr c10
      obtain rfl := Option.some.inj H
      go_enter Try.func41, Try.ntmps41
      go_wp2_with (first | ((with_reducible refine gate_dst (N := 2) rfl ?_); refine box_event ?hg (N := 2) ?hd (cs := #[.int .i64 a0_0, .slice A0_1 l0_1.length c0_1, .slice A0_2 l0_2.length c0_2, .bool a0_3]) (t := 38) ?hr ?_; (case hd => rfl); (case hg => rfl); (case hr => first | (go_simp; done) | (go_simp; rfl)); intro gb107 hg w44 hbox hb; have n0_ := Aside0.mk (below_step (by repeat (first | (with_reducible first | exact HB.out | apply below_alloc | apply pw_below_drewN | apply below_drew1) | exact HB.out)) hb); have n1_ := Aside0.mk (hbox); have n2_ := Aside0.mk ((by rw [hg]; exact (below_size (by repeat (first | (with_reducible first | exact HB.out | apply below_alloc | apply pw_below_drewN | apply below_drew1) | exact HB.out))) : w.heap.size ≤ gb107)); have n3_ := Aside0.mk ((by rw [hg]; exact (below_size (by repeat (first | (with_reducible first | exact HB.out | apply below_alloc | apply pw_below_drewN | apply below_drew1) | exact HB.out))) : w.heap.size ≤ gb107)); clear HB; have HB := n0_; have BK107 := n1_; have GW107 := n2_; have GE107 := n3_; clear n0_ n1_ n2_ n3_; clear hb hbox hg) | ((with_reducible refine gate_dst (N := 3) rfl ?_); refine box_event ?hg (N := 3) ?hd (cs := #[.int .i64 a1_0, .slice A1_1 l1_1.length c1_1, .slice A1_2 l1_2.length c1_2, .bool a1_3]) (t := 38) ?hr ?_; (case hd => rfl); (case hg => rfl); (case hr => first | (go_simp; done) | (go_simp; rfl)); intro gb108 hg w45 hbox hb; have n0_ := Aside0.mk (blk_below (g := gb107) (o := .cells #[.int .i64 a0_0, .slice A0_1 l0_1.length c0_1, .slice A0_2 l0_2.length c0_2, .bool a0_3] 38 (0, 0)) (by (with_reducible repeat (first | refine blk_drewN ?_ _ | refine blk_drew ?_ | refine blk_alloc ?_ _)); exact BK107.out) hb); have n1_ := Aside0.mk (below_step (by repeat (first | (with_reducible first | exact HB.out | apply below_alloc | apply pw_below_drewN | apply below_drew1 | refine below_set ?_ GE107.out) | exact HB.out)) hb); have n2_ := Aside0.mk (hbox); have n3_ := Aside0.mk ((by rw [hg]; exact (below_size (by repeat (first | (with_reducible first | exact HB.out | apply below_alloc | apply pw_below_drewN | apply below_drew1 | refine below_set ?_ GE107.out) | exact HB.out))) : w.heap.size ≤ gb108)); have n4_ := Aside0.mk ((by rw [hg]; exact (below_size (by repeat (first | (with_reducible first | exact HB.out | apply below_alloc | apply pw_below_drewN | apply below_drew1 | refine below_set ?_ GE107.out) | exact HB.out))) : w.heap.size ≤ gb108)); have n5_ := Aside0.mk ((by rw [hg]; exact Nat.ne_of_lt (blk_lt (g := gb107) (o := .cells #[.int .i64 a0_0, .slice A0_1 l0_1.length c0_1, .slice A0_2 l0_2.length c0_2, .bool a0_3] 38 (0, 0)) (by (with_reducible repeat (first | refine blk_drewN ?_ _ | refine blk_drew ?_ | refine blk_alloc ?_ _)); exact BK107.out)) : gb107 ≠ gb108)); have n6_ := Aside0.mk ((by rw [hg]; exact Nat.ne_of_gt (blk_lt (g := gb107) (o := .cells #[.int .i64 a0_0, .slice A0_1 l0_1.length c0_1, .slice A0_2 l0_2.length c0_2, .bool a0_3] 38 (0, 0)) (by (with_reducible repeat (first | refine blk_drewN ?_ _ | refine blk_drew ?_ | refine blk_alloc ?_ _)); exact BK107.out)) : gb108 ≠ gb107)); clear BK107; clear HB; have BK107 := n0_; have HB := n1_; have BK108 := n2_; have GW108 := n3_; have GE108 := n4_; have NB107_108 := n5_; have NB108_107 := n6_; clear n0_ n1_ n2_ n3_ n4_ n5_ n6_; clear hb hbox hg; have hnb46 := NB108_107.out; have hnc46 := NB107_108.out; have hcz47_0 : w45.cell? ⟨gb108, 0, none⟩ = some (.int .i64 a1_0) := (blk_cell BK108.out 0).trans rfl; have hcz47_1 : w45.cell? ⟨gb108, 1, none⟩ = some (.slice A1_1 l1_1.length c1_1) := (blk_cell BK108.out 1).trans rfl; have hcz47_2 : w45.cell? ⟨gb108, 2, none⟩ = some (.slice A1_2 l1_2.length c1_2) := (blk_cell BK108.out 2).trans rfl; have hcz47_3 : w45.cell? ⟨gb108, 3, none⟩ = some (.bool a1_3) := (blk_cell BK108.out 3).trans rfl; have hfz47_0 := blk_frozen BK108.out 0; have hfz47_1 := blk_frozen BK108.out 1; have hfz47_2 := blk_frozen BK108.out 2; have hfz47_3 := blk_frozen BK108.out 3) | ((with_reducible refine gate_callee (f := 39) rfl ?_); refine goesL_ (some 7) rfl rfl Try.func39 (by kernel_rfl) rfl #[.agg #[.int .i64 a1_0, .slice A1_1 l1_1.length c1_1, .slice A1_2 l1_2.length c1_2, .bool a1_3]] rfl (by (try simp only [List.map_toArray, List.map_cons, List.map_nil]); first | done | rfl | (simp only [List.length_drop, List.length_take]; rfl)) ?_; (with_reducible refine (span_Empty.calls a1_0 _ _ l1_1 _ _ l1_2 a1_3 false _ ?side1 ?side2 ?side3 ?side4 A3.out).mono ?_); (case side1 => repeat (first | exact (Kd.C_below HR1_1.out HB.out) | (with_reducible refine Kd.C_alloc ?_ _) | (with_reducible refine Kd.C_drewN ?_ _) | (with_reducible refine Kd.C_drew ?_))); (case side2 => exact HC1_1.out); (case side3 => repeat (first | exact (Kd.C_below HR1_2.out HB.out) | (with_reducible refine Kd.C_alloc ?_ _) | (with_reducible refine Kd.C_drewN ?_ _) | (with_reducible refine Kd.C_drew ?_))); (case side4 => exact HC1_2.out); rintro e w48 ⟨rfl, hb⟩; refine ⟨_, rfl, ?_⟩; have n0_ := Aside0.mk (blk_below (g := gb107) (o := .cells #[.int .i64 a0_0, .slice A0_1 l0_1.length c0_1, .slice A0_2 l0_2.length c0_2, .bool a0_3] 38 (0, 0)) (by (with_reducible repeat (first | refine blk_drewN ?_ _ | refine blk_drew ?_ | refine blk_alloc ?_ _)); exact BK107.out) hb); have n1_ := Aside0.mk (blk_below (g := gb108) (o := .cells #[.int .i64 a1_0, .slice A1_1 l1_1.length c1_1, .slice A1_2 l1_2.length c1_2, .bool a1_3] 38 (0, 0)) (by (with_reducible repeat (first | refine blk_drewN ?_ _ | refine blk_drew ?_ | refine blk_alloc ?_ _)); exact BK108.out) hb); have n2_ := Aside0.mk (below_step (by repeat (first | (with_reducible first | exact HB.out | apply below_alloc | apply pw_below_drewN | apply below_drew1 | refine below_set ?_ GE107.out | refine below_set ?_ GE108.out) | exact HB.out)) hb); clear BK107; clear BK108; clear HB; have BK107 := n0_; have BK108 := n1_; have HB := n2_; clear n0_ n1_ n2_; (try clear hb); (try clear hb2); (try clear hk); (try clear hi); have hcz49_0 : w48.cell? ⟨gb107, 0, none⟩ = some (.int .i64 a0_0) := (blk_cell BK107.out 0).trans rfl; have hcz49_1 : w48.cell? ⟨gb107, 1, none⟩ = some (.slice A0_1 l0_1.length c0_1) := (blk_cell BK107.out 1).trans rfl; have hcz49_2 : w48.cell? ⟨gb107, 2, none⟩ = some (.slice A0_2 l0_2.length c0_2) := (blk_cell BK107.out 2).trans rfl; have hcz49_3 : w48.cell? ⟨gb107, 3, none⟩ = some (.bool a0_3) := (blk_cell BK107.out 3).trans rfl; have hfz49_0 := blk_frozen BK107.out 0; have hfz49_1 := blk_frozen BK107.out 1; have hfz49_2 := blk_frozen BK107.out 2; have hfz49_3 := blk_frozen BK107.out 3; have hcz50_0 : w48.cell? ⟨gb108, 0, none⟩ = some (.int .i64 a1_0) := (blk_cell BK108.out 0).trans rfl; have hcz50_1 : w48.cell? ⟨gb108, 1, none⟩ = some (.slice A1_1 l1_1.length c1_1) := (blk_cell BK108.out 1).trans rfl; have hcz50_2 : w48.cell? ⟨gb108, 2, none⟩ = some (.slice A1_2 l1_2.length c1_2) := (blk_cell BK108.out 2).trans rfl; have hcz50_3 : w48.cell? ⟨gb108, 3, none⟩ = some (.bool a1_3) := (blk_cell BK108.out 3).trans rfl; have hfz50_0 := blk_frozen BK108.out 0; have hfz50_1 := blk_frozen BK108.out 1; have hfz50_2 := blk_frozen BK108.out 2; have hfz50_3 := blk_frozen BK108.out 3))
      go_ret
      exact ⟨by first | rfl | (simp [errW_none, errW_some] <;> rfl) | (simp [*, errW_none, errW_some] <;> rfl), by repeat (first | (with_reducible first | exact HB.out | apply below_alloc | apply pw_below_drewN | apply below_drew1 | refine below_set ?_ GE107.out | refine below_set ?_ GE108.out) | exact HB.out)⟩

end Go.Proofs.Ytpknchaajgkbnaa.P

-- Written by wip/gprint.py, a program of this session over the kit's print; Lean checks it.
namespace Go.Proofs.Ytpknchaajgkbnaa.P
open Go.RowKit Go.Proofs.YtpknchaajgkbnaaW.PrintWords Go.Proofs.YtpknchaajgkbnaaW.PrintLast Go.Proofs.YtpknchaajgkbnaaW.PrintMore
attribute [local go_sem] max2_int min2_int max_two min_two max_three min_three max_four min_four   -- for this text's walks alone
set_option linter.unusedVariables false
set_option linter.unusedSimpArgs false

/-GIVEN slices_Clone_Span-/
/-! ### slices_Clone_Span: function 18 -/
def slices_Clone_Span.f (l0 : List (S38)) : Option ((List (S38))) := if l0.length < 2199023255552 then some l0 else none
set_option maxHeartbeats 1000000 in
set_option maxRecDepth 100000 in
theorem slices_Clone_Span.calls (P0_ : Nat → Prop) (A0 : Option Addr) (c0 : Nat) (l0 : List (S38)) (r : List (S38)) (w : World) (hs0 : Kd.V k38 38 w w.heap.size (fun k_ => P0_ k_) (.slice A0 l0.length c0) l0) (h : slices_Clone_Span.f l0 = some r) :
    Calls Try.prog 18 #[.slice A0 l0.length c0] w fun e w' => ∃ v0_ : Value, e = .returned (v0_) ∧ Kd.N k38 38 w' w.heap.size (fun k_ => (P0_ k_ ∨ w.heap.size ≤ k_)) v0_ r ∧ Below w.heap.size w w' := by
  unfold slices_Clone_Span.f at h
  have hlt : l0.length < 2199023255552 := Classical.byContradiction fun hn => by rw [if_neg hn] at h; cases h
  rw [if_pos hlt] at h
  obtain rfl := Option.some.inj h
  clear h
  have hF := Kd.V_F hs0
  cases A0 with
  | none =>
    have hl : l0.length = 0 := Classical.byContradiction fun hn => by
      obtain ⟨ad, he, _⟩ := (Kd.F_now hF).2.2 (by omega)
      cases he
    obtain rfl : l0 = [] := List.length_eq_zero_iff.mp hl
    have ke : ∀ w, (binOp .eql 27 (.slice none 0 c0) (.slice none 0 0)).run Try.prog w = .ok (.bool true) w := fun w => Lib.run_eql_slice_nil w _ _ none 0 c0 0 0 Try.underlying27
    clear hs0 hl hF
    go_enter Try.func18, Try.ntmps18
    go_wp2
    go_ret
    exact ⟨_, rfl, Kd.N_nil _ _ _ _ _, Below.refl _ _⟩
  | some a =>
    have ke : ∀ w, (binOp .eql 27 (.slice (some a) l0.length c0) (.slice none 0 0)).run Try.prog w = .ok (.bool false) w := fun w => Lib.run_eql_slice_nil w _ _ (some a) l0.length c0 0 0 Try.underlying27
    have HF := Aside0.mk hF
    clear hs0 hF
    go_enter Try.func18, Try.ntmps18
    go_wp2_with (first | ((with_reducible refine gate_dst (N := 5) rfl ?_); refine Kd.R_lit k38 w.heap.size 38 ?hg (N := 5) ?hd (xs := ([] : List S38)) (inner := []) (ok := fun k => w.heap.size ≤ k) (okp := fun k => w.heap.size ≤ k) ?hr ?hp (fun _ hk => hk) (Nat.le_refl _) (Below.refl _ _) (Nat.le_refl _) (by simp) ?_; (case hd => rfl); (case hg => rfl); (case hr => first | (go_simp; done) | (go_simp; rfl)); (case hp => exact (Reps.none _ _)); intro v5 w5 ho5 hb5 hg5 hn5; have HO5 := Aside0.mk (Kd.R_N ho5); have HB5 := Aside0.mk hb5; clear ho5 hb5 hg5 hn5) | ((with_reducible refine gate_builtin (b := .append) (xs := #[.tmp 5, .tmp 6]) rfl ?_); at_builtin; refine Kd.N_append_rows k38 (w0 := w) w.heap.size rfl (.tmp 5) (.tmp 6) 27 38 _ _ rfl Try.underlying27 info38 rfl (by decide) (by omega) _ [] l0 _ _ _ (fun k => P0_ k ∨ w.heap.size ≤ k) (fun k => P0_ k ∧ k < w.heap.size) rfl rfl (Kd.N_mono HO5.out (fun k hk => .inr hk)) (Kd.F_below (Kd.F_bound HF.out) HB5.out) (fun k hk => ⟨.inl hk.1, fun he => by have := Kd.N_base HO5.out k he.symm; have := hk.2; omega⟩) (fun k hk => .inr (Nat.le_trans (below_size HB5.out) hk)) HB5.out (below_size HB5.out) (by simp; omega) ?_; intro v7 w7 ho7 hb7 hg7 ha7; have HO7 := Aside0.mk ho7; have HB7 := Aside0.mk hb7; clear ho7 hb7 hg7 ha7))
    go_ret
    exact ⟨_, rfl, HO7.out, HB7.out⟩

end Go.Proofs.Ytpknchaajgkbnaa.P

-- Written by wip/gprint.py, a program of this session over the kit's print; Lean checks it.
namespace Go.Proofs.Ytpknchaajgkbnaa.P
open Go.RowKit Go.Proofs.YtpknchaajgkbnaaW.PrintWords Go.Proofs.YtpknchaajgkbnaaW.PrintLast Go.Proofs.YtpknchaajgkbnaaW.PrintMore
attribute [local go_sem] max2_int min2_int max_two min_two max_three min_three max_four min_four   -- for this text's walks alone
set_option linter.unusedVariables false
set_option linter.unusedSimpArgs false

-- NOT PRINTED: function 48 (api_Span_48)

end Go.Proofs.Ytpknchaajgkbnaa.P

-- Written by wip/gprint.py, a program of this session over the kit's print; Lean checks it.
namespace Go.Proofs.Ytpknchaajgkbnaa.P
open Go.RowKit Go.Proofs.YtpknchaajgkbnaaW.PrintWords Go.Proofs.YtpknchaajgkbnaaW.PrintLast Go.Proofs.YtpknchaajgkbnaaW.PrintMore
attribute [local go_sem] max2_int min2_int max_two min_two max_three min_three max_four min_four   -- for this text's walks alone
set_option linter.unusedVariables false
set_option linter.unusedSimpArgs false

-- NOT PRINTED: function 26 (api_Span_26)

end Go.Proofs.Ytpknchaajgkbnaa.P

-- Written by wip/gprint.py, a program of this session over the kit's print; Lean checks it.
namespace Go.Proofs.Ytpknchaajgkbnaa.P
open Go.RowKit Go.Proofs.YtpknchaajgkbnaaW.PrintWords Go.Proofs.YtpknchaajgkbnaaW.PrintLast Go.Proofs.YtpknchaajgkbnaaW.PrintMore
attribute [local go_sem] max2_int min2_int max_two min_two max_three min_three max_four min_four   -- for this text's walks alone
set_option linter.unusedVariables false
set_option linter.unusedSimpArgs false

/-GIVEN bytes_Clone-/
/-! ### bytes_Clone: function 20 -/
def bytes_Clone.f (l0 : List Int) : Option (List Int) := if l0.length < 140737488355328 then some l0 else none
set_option maxHeartbeats 1000000 in
set_option maxRecDepth 100000 in
theorem bytes_Clone.calls (A0 : Option Addr) (c0 : Nat) (l0 : List Int) (r : List Int) (w : World) (hr0 : Kd.C (Kd.int .u8) w A0 l0.length l0) (hc0 : l0.length ≤ c0) (h : bytes_Clone.f l0 = some r) :
    Calls Try.prog 20 #[.slice A0 l0.length c0] w fun e w' => ∃ v0_ : Value, e = .returned (v0_) ∧ Kd.R (Kd.int .u8) 5 w' w.heap.size (fun _ => True) v0_ r ∧ Below w.heap.size w w' := by
  unfold bytes_Clone.f at h
  have hlt : l0.length < 140737488355328 := Classical.byContradiction fun hn => by rw [if_neg hn] at h; cases h
  rw [if_pos hlt] at h
  obtain rfl := Option.some.inj h
  clear h
  cases A0 with
  | none =>
    have hl : l0.length = 0 := Classical.byContradiction fun hn => by
      obtain ⟨ad, he, _⟩ := hr0.2.2 (by omega)
      cases he
    obtain rfl : l0 = [] := List.length_eq_zero_iff.mp hl
    have ke : ∀ w, (binOp .eql 36 (.slice none 0 c0) (.slice none 0 0)).run Try.prog w = .ok (.bool true) w := fun w => Lib.run_eql_slice_nil w _ _ none 0 c0 0 0 Try.underlying36
    clear hr0 hl
    go_enter Try.func20, Try.ntmps20
    go_wp2
    go_ret
    exact ⟨_, rfl, Kd.R_nil _ _ _ _ _, Below.refl _ _⟩
  | some a =>
    have ke : ∀ w, (binOp .eql 36 (.slice (some a) l0.length c0) (.slice none 0 0)).run Try.prog w = .ok (.bool false) w := fun w => Lib.run_eql_slice_nil w _ _ (some a) l0.length c0 0 0 Try.underlying36
    have HR := Aside0.mk hr0
    clear hr0
    go_enter Try.func20, Try.ntmps20
    go_wp2_with (first | ((with_reducible refine gate_dst (N := 5) rfl ?_); refine Kd.R_lit (Kd.int .u8) w.heap.size 5 ?hg (N := 5) ?hd (xs := ([] : List Int)) (inner := []) (ok := fun _ => True) (okp := fun _ => True) ?hr ?hp (fun _ hk => hk) trivial (Below.refl _ _) (Nat.le_refl _) (by simp) ?_; (case hd => rfl); (case hg => rfl); (case hr => first | (go_simp; done) | (go_simp; rfl)); (case hp => exact (Reps.none _ _)); intro v5 w5 ho5 hb5 hg5 hn5; have HO5 := Aside0.mk ho5; have HB5 := Aside0.mk hb5; clear ho5 hb5 hg5 hn5) | ((with_reducible refine gate_builtin (b := .append) (xs := #[.tmp 5, .tmp 6]) rfl ?_); at_builtin; refine Kd.R_append_rows (Kd.int .u8) (w0 := w) w.heap.size rfl (.tmp 5) (.tmp 6) 36 5 (.int .u8 0) 1 rfl Try.underlying36 info5 rfl (by decide) (by omega) _ [] l0 _ _ _ (fun _ => True) (fun _ => False) rfl rfl HO5.out (Kd.C_below HR.out HB5.out) (fun _ _ h => h) (fun _ h => h.elim) (fun _ _ => trivial) HB5.out (below_size HB5.out) (by simp; omega) ?_; intro v7 w7 ho7 hb7 hg7 ha7; have HO7 := Aside0.mk ho7; have HB7 := Aside0.mk hb7; clear ho7 hb7 hg7 ha7))
    go_ret
    exact ⟨_, rfl, HO7.out, HB7.out⟩

end Go.Proofs.Ytpknchaajgkbnaa.P

-- Written by wip/gprint.py, a program of this session over the kit's print; Lean checks it.
namespace Go.Proofs.Ytpknchaajgkbnaa.P
open Go.RowKit Go.Proofs.YtpknchaajgkbnaaW.PrintWords Go.Proofs.YtpknchaajgkbnaaW.PrintLast Go.Proofs.YtpknchaajgkbnaaW.PrintMore
attribute [local go_sem] max2_int min2_int max_two min_two max_three min_three max_four min_four   -- for this text's walks alone
set_option linter.unusedVariables false
set_option linter.unusedSimpArgs false

/-GIVEN span_own-/
/-! ### span_own: function 38 -/
def span_own.f (l0 : List (S38)) : Option ((List (S38))) := if (decide (l0.length < 2199023255552) && l0.all okSp) = true then some l0 else none
set_option maxHeartbeats 4000000 in
set_option maxRecDepth 100000 in
theorem span_own.calls (A0 : Option Addr) (c0 : Nat) (l0 : List (S38)) (r : List (S38)) (w : World) (hr0 : Kd.C k38 w A0 l0.length l0) (hc0 : l0.length ≤ c0) (h : span_own.f l0 = some r) :
    Calls Try.prog 38 #[.slice A0 l0.length c0] w fun e w' => ∃ v0_ : Value, e = .returned (v0_) ∧ Kd.V k38 38 w' w.heap.size (fun k_ => (w.heap.size ≤ k_)) v0_ r ∧ Below w.heap.size w w' := by
  unfold span_own.f at h
  have hok : (decide (l0.length < 2199023255552) && l0.all okSp) = true := Classical.byContradiction fun hn => by rw [if_neg hn] at h; cases h
  rw [if_pos hok] at h
  obtain rfl := Option.some.inj h
  clear h
  simp only [Bool.and_eq_true, decide_eq_true_eq, List.all_eq_true] at hok
  obtain ⟨hln, hsm⟩ := hok
  have HSM := Aside0.mk hsm
  have HCO := Aside0.mk (show slices_Clone_Span.f l0 = some l0 by unfold slices_Clone_Span.f; rw [if_pos hln])
  have HV := Aside0.mk (show Kd.V k38 38 w w.heap.size (fun k_ => k_ < w.heap.size) (.slice A0 l0.length c0) l0 from Kd.V_mk hc0 (Kd.C_F (by repeat (first | exact Kd.heap_int _ | exact Kd.heap_bool | exact Kd.heap_string | apply Kd.heap_slice | apply Kd.heap_iso | apply Kd.heap_pair)) hr0))
  clear hr0 hsm
  have hu2 := Try.underlying38
  go_enter Try.func38, Try.ntmps38
  go_wp2_with fail
  refine (slices_Clone_Span.calls (fun k_ => k_ < w.heap.size) A0 c0 l0 l0 w HV.out HCO.out).mono ?_
  rintro e wb ⟨v, rfl, hN, hb⟩
  obtain ⟨Ar, cr, rfl, hcr, hrow⟩ := N_block hN
  have hm : l0.length ≤ 9223372036854775807 := by omega
  obtain ⟨B1, hB1, hS1⟩ : ∃ B, (0 < l0.length → w.heap.size ≤ B) ∧ RowSt k38 38 wb Ar l0 0 B (fun q => w.heap.size ≤ q ∧ q ≠ B) (fun q => (q < w.heap.size ∨ w.heap.size ≤ q) ∧ q ≠ B) := by
    by_cases hn : 0 < l0.length
    · obtain ⟨g, cur, _, _, hg, _⟩ := hrow hn
      obtain ⟨B, h1, _, _, h4⟩ := RowSt.of_block (Nat.lt_of_le_of_lt (Nat.zero_le _) (blk_lt hg)) hrow
      exact ⟨B, h1, h4 _⟩
    · exact ⟨0, fun h => absurd h hn, fun h => absurd h hn⟩
  have HB1 := Aside0.mk hb
  have HS1 := Aside0.mk hS1
  clear hN hb hrow hS1
  go_wp2_with fail
  go_loopw [10] (fun v_ wr => ∃ k : Nat, k ≤ l0.length ∧ v_ = .int .i64 k ∧ Aside0 (Below w.heap.size w wr) ∧ Aside0 (RowSt k38 38 wr Ar l0 k B1 (fun q => w.heap.size ≤ q ∧ q ≠ B1) (fun q => (q < w.heap.size ∨ w.heap.size ≤ q) ∧ q ≠ B1))) (fun v_ _ => l0.length - (intOf v_).toNat)
  case atStart => exact ⟨0, Nat.zero_le _, rfl, HB1, HS1⟩
  case round =>
    obtain ⟨k, hk, rfl, HBr, HRr⟩ := hrel
    by_cases hlt : k < l0.length
    · obtain ⟨hAr, hBl, cur, hcur, hcl, hE⟩ := HRr.out (by omega)
      subst hAr
      have hBB := hB1 (by omega)
      obtain ⟨p, hp⟩ : ∃ p, l0[k]? = some p := ⟨_, List.getElem?_eq_getElem hlt⟩
      obtain ⟨Aa, ca, Ab, cb, hch, hla, hFa, hlb, hFb⟩ := k38_openF ((hE k p hp).2 (Nat.le_refl _))
      have hch' : (cur.drop (k * 4)).take 4 = [.int .i64 p.f0, .slice Aa p.f1.length ca, .slice Ab p.f2.length cb, .bool p.f3] := hch
      have hcl' : l0.length * 4 ≤ cur.length := hcl
      have hx0 : wr.cell? ⟨B1, k * 4, none⟩ = some (.int .i64 p.f0) := by
        rw [blk_cell hcur]; have := chunk_at (cur := cur) (k := k) (show 0 < 4 by decide); rw [hch'] at this; simpa using this
      have hx1 : wr.cell? ⟨B1, k * 4 + 1, none⟩ = some (.slice Aa p.f1.length ca) := by
        rw [blk_cell hcur]; have := chunk_at (cur := cur) (k := k) (show 1 < 4 by decide); rw [hch'] at this; simpa using this
      have hx2 : wr.cell? ⟨B1, k * 4 + 2, none⟩ = some (.slice Ab p.f2.length cb) := by
        rw [blk_cell hcur]; have := chunk_at (cur := cur) (k := k) (show 2 < 4 by decide); rw [hch'] at this; simpa using this
      have hx3 : wr.cell? ⟨B1, k * 4 + 3, none⟩ = some (.bool p.f3) := by
        rw [blk_cell hcur]; have := chunk_at (cur := cur) (k := k) (show 3 < 4 by decide); rw [hch'] at this; simpa using this
      have hsmall := HSM.out p (List.mem_of_getElem? hp)
      unfold okSp at hsmall
      simp only [Bool.and_eq_true, decide_eq_true_eq] at hsmall
      have HCa := Aside0.mk (show bytes_Clone.f p.f1 = some p.f1 by unfold bytes_Clone.f; rw [if_pos hsmall.1])
      have HCb := Aside0.mk (show bytes_Clone.f p.f2 = some p.f2 by unfold bytes_Clone.f; rw [if_pos hsmall.2])
      have HP := Aside0.mk hp
      have HCH := Aside0.mk hch'
      have HE := Aside0.mk hE
      have HCUR := Aside0.mk hcur
      have HCL := Aside0.mk hcl'
      have HRa := Aside0.mk (Kd.F_now hFa)
      have HRb := Aside0.mk (Kd.F_now hFb)
      have HLa := Aside0.mk hla
      have HLb := Aside0.mk hlb
      clear hp hch hch' hE hcl hcl' hFa hFb hla hlb hsmall
      go_wp2_with fail
      obtain ⟨gx, hgx⟩ : ∃ gx, gx = wr.heap.size := ⟨_, rfl⟩
      obtain ⟨Wy, hWy⟩ : ∃ Wy, Wy = wr.alloc (.cells #[.int .i64 p.f0, .slice Aa p.f1.length ca, .slice Ab p.f2.length cb, .bool p.f3] 38 (0, 0)) := ⟨_, rfl⟩
      have HBy := Aside0.mk (show Below wr.heap.size wr Wy by rw [hWy]; exact below_alloc (Below.refl _ _) _)
      have hX : Wy.heap[gx]? = some (.cells #[.int .i64 p.f0, .slice Aa p.f1.length ca, .slice Ab p.f2.length cb, .bool p.f3] 38 (0, 0)) := by rw [hWy, hgx]; exact heap_alloc_new wr _
      have HCY := Aside0.mk ((HBy.out.block _ hBl).trans HCUR.out)
      have hszy : gx < Wy.heap.size := blk_lt hX
      have HGX := Aside0.mk hgx
      have hgxl : wr.heap.size ≤ gx := by omega
      rw [← hWy, ← hgx]
      clear hWy hgx hx0 hx1 hx2 hx3 hcur
      have HX := Aside0.mk hX
      have hq1 : Wy.cell? ⟨gx, 1, none⟩ = some (.slice Aa p.f1.length ca) := (blk_cell hX 1).trans rfl
      have hq2 : Wy.cell? ⟨gx, 2, none⟩ = some (.slice Ab p.f2.length cb) := (blk_cell hX 2).trans rfl
      clear hX
      have hp1 : (0 ≤ (k : Int)) = True := eq_true (by omega)
      have hp2 : ((k : Int) < (l0.length : Int)) = True := eq_true (by omega)
      refine start_ (n := 16) (S := fun w' => w'.cell? ⟨gx, 1, none⟩ = some (.slice Aa p.f1.length ca) ∧ w'.cell? ⟨gx, 2, none⟩ = some (.slice Ab p.f2.length cb)) (ds := [15]) #[false, false, false, false, false, false, false, false, false, false, false, false, false, false, false, false] (by kernel_rfl) rfl rfl ⟨hq1, hq2⟩ (fun hHeld => ?_)
      clear hq1 hq2
      have HCa0 := Aside0.mk (show Wy.drew.heap[B1]? = some (.cells cur.toArray 38 (0, 0)) from HCY.out)
      have HXa := Aside0.mk (show Wy.drew.heap[gx]? = some (.cells #[.int .i64 p.f0, .slice Aa p.f1.length ca, .slice Ab p.f2.length cb, .bool p.f3] 38 (0, 0)) from HX.out)
      have HBa := Aside0.mk (below_drew1 HBy.out)
      have hsza : gx < Wy.drew.heap.size := hszy
      clear HCY HX HBy hszy
      generalize Wy.drew = ya at HCa0 HXa HBa hsza hHeld ⊢
      refine pure_ (i := 0) (N := some 15) (v := ?_) (a' := ?_) #[true, false, false, false, false, false, false, false, false, false, false, false, false, false, false, false] rfl rfl (by kernel_rfl) (fun _ _ _ h => h) (Or.inl ⟨by rfl, ?_⟩) ?_ ?_
      rotate_left
      · intro w'
        go_simp
        with_reducible rfl
      rotate_left
      · simp only [Act.put, List.setIfInBounds_toArray, List.set_cons_zero, List.set_cons_succ, i64_w, i32_w]
        rfl
      refine pure_ (i := 1) (N := some 16) (v := ?_) (a' := ?_) #[true, true, false, false, false, false, false, false, false, false, false, false, false, false, false, false] rfl rfl (by kernel_rfl) (fun _ _ _ h => h) (Or.inl ⟨by rfl, ?_⟩) ?_ ?_
      rotate_left
      · intro w'
        go_simp
        with_reducible rfl
      rotate_left
      · simp only [Act.put, List.setIfInBounds_toArray, List.set_cons_zero, List.set_cons_succ, i64_w, i32_w]
        rfl
      refine pure_ (i := 2) (N := some 17) (v := ?_) (a' := ?_) #[true, true, true, false, false, false, false, false, false, false, false, false, false, false, false, false] rfl rfl (by kernel_rfl) (fun _ _ _ h => h) (Or.inl ⟨by rfl, ?_⟩) ?_ ?_
      rotate_left
      · intro w'
        go_simp
        with_reducible rfl
      rotate_left
      · simp only [Act.put, List.setIfInBounds_toArray, List.set_cons_zero, List.set_cons_succ, i64_w, i32_w]
        rfl
      refine pure_ (i := 3) (N := some 18) (v := ?_) (a' := ?_) #[true, true, true, true, false, false, false, false, false, false, false, false, false, false, false, false] rfl rfl (by kernel_rfl) (fun _ _ _ h => h) (Or.inl ⟨by rfl, ?_⟩) ?_ ?_
      rotate_left
      · intro w'
        go_simp
        with_reducible rfl
      rotate_left
      · simp only [Act.put, List.setIfInBounds_toArray, List.set_cons_zero, List.set_cons_succ, i64_w, i32_w]
        rfl
      refine pure_ (i := 4) (N := some 19) (v := ?_) (a' := ?_) #[true, true, true, true, true, false, false, false, false, false, false, false, false, false, false, false] rfl rfl (by kernel_rfl) (fun _ _ _ h => h) (Or.inl ⟨by rfl, ?_⟩) ?_ ?_
      rotate_left
      · intro w'
        go_simp
        with_reducible rfl
      rotate_left
      · simp only [Act.put, List.setIfInBounds_toArray, List.set_cons_zero, List.set_cons_succ, i64_w, i32_w]
        rfl
      refine take_ (i := 5) (N := some 20) (v := ?_) (a' := ?_) #[true, true, true, true, true, true, false, false, false, false, false, false, false, false, false, false] rfl rfl (by kernel_rfl) (fun _ _ _ h => h) (Or.inl ⟨by rfl, ?_⟩) hHeld ?_ ?_
      rotate_left
      · rintro w' ⟨s0, s1⟩
        go_simp
        with_reducible rfl
      rotate_left
      · simp only [Act.put, List.setIfInBounds_toArray, List.set_cons_zero, List.set_cons_succ, i64_w, i32_w]
        rfl
      refine pure_ (i := 7) (N := some 22) (v := ?_) (a' := ?_) #[true, true, true, true, true, true, false, true, false, false, false, false, false, false, false, false] rfl rfl (by kernel_rfl) (fun _ _ _ h => h) (Or.inl ⟨by rfl, ?_⟩) ?_ ?_
      rotate_left
      · intro w'
        go_simp
        with_reducible rfl
      rotate_left
      · simp only [Act.put, List.setIfInBounds_toArray, List.set_cons_zero, List.set_cons_succ, i64_w, i32_w]
        rfl
      refine take_ (i := 8) (N := some 23) (v := ?_) (a' := ?_) #[true, true, true, true, true, true, false, true, true, false, false, false, false, false, false, false] rfl rfl (by kernel_rfl) (fun _ _ _ h => h) (Or.inl ⟨by rfl, ?_⟩) hHeld ?_ ?_
      rotate_left
      · rintro w' ⟨s0, s1⟩
        go_simp
        with_reducible rfl
      rotate_left
      · simp only [Act.put, List.setIfInBounds_toArray, List.set_cons_zero, List.set_cons_succ, i64_w, i32_w]
        rfl
      refine one_ (i := 6) (N := some 21) #[true, true, true, true, true, true, true, true, true, false, false, false, false, false, false, false] rfl rfl (by kernel_rfl) (by decide) (fun K hK => ?_)
      refine goes_ Try.func20 (by kernel_rfl) rfl #[.slice Aa p.f1.length ca] (by rfl) rfl rfl (by (try simp only [List.map_toArray, List.map_cons, List.map_nil]); first | done | rfl) ?_
      refine (bytes_Clone.calls Aa ca p.f1 p.f1 ya (Kd.C_below HRa.out HBa.out) HLa.out HCa.out).mono ?_
      rintro e yb ⟨v, rfl, hva, hba⟩
      have HCb0 := Aside0.mk ((hba.block _ (by omega)).trans HCa0.out)
      have HXb := Aside0.mk ((hba.block _ (by omega)).trans HXa.out)
      refine ⟨_, rfl, ?_⟩
      refine hK.out _ _ ⟨(blk_cell HXb.out 1).trans rfl, (blk_cell HXb.out 2).trans rfl⟩ (fun hHeld => ?_)
      clear hK K
      refine norm_ (a' := ?_) ?_ ?_
      rotate_left
      · show Act.put _ (some 21) _ = _
        simp only [Act.put, List.setIfInBounds_toArray, List.set_cons_zero, List.set_cons_succ, i64_w, i32_w]
        rfl
      obtain ⟨Ac, cc, rfl⟩ := Kd.R_slice hva
      have HVa := Aside0.mk hva
      have HBb := Aside0.mk (below_step HBa.out hba)
      have hszb : ya.heap.size ≤ yb.heap.size := hba.size
      clear hva hba
      refine one_ (i := 9) (N := some 24) #[true, true, true, true, true, true, true, true, true, true, false, false, false, false, false, false] rfl rfl (by kernel_rfl) (by decide) (fun K hK => ?_)
      refine goes_ Try.func20 (by kernel_rfl) rfl #[.slice Ab p.f2.length cb] (by rfl) rfl rfl (by (try simp only [List.map_toArray, List.map_cons, List.map_nil]); first | done | rfl) ?_
      refine (bytes_Clone.calls Ab cb p.f2 p.f2 yb (Kd.C_below HRb.out HBb.out) HLb.out HCb.out).mono ?_
      rintro e yc ⟨v, rfl, hvb, hbb⟩
      have HCc0 := Aside0.mk ((hbb.block _ (by omega)).trans HCb0.out)
      have HXc := Aside0.mk ((hbb.block _ (by omega)).trans HXb.out)
      refine ⟨_, rfl, ?_⟩
      refine hK.out _ _ ⟨(blk_cell HXc.out 1).trans rfl, (blk_cell HXc.out 2).trans rfl⟩ (fun hHeld => ?_)
      clear hK K
      refine norm_ (a' := ?_) ?_ ?_
      rotate_left
      · show Act.put _ (some 24) _ = _
        simp only [Act.put, List.setIfInBounds_toArray, List.set_cons_zero, List.set_cons_succ, i64_w, i32_w]
        rfl
      obtain ⟨Ae, ce, rfl⟩ := Kd.R_slice hvb
      have HVb := Aside0.mk hvb
      have HBc := Aside0.mk (below_step HBb.out hbb)
      have HVa2 := Aside0.mk (Kd.R_below HVa.out hbb)
      have hszc : yb.heap.size ≤ yc.heap.size := hbb.size
      clear hvb hbb
      have hlen4 : k * 4 + 4 ≤ cur.length := by have := HCL.out; omega
      have hga : yc.cell? ⟨B1, k * 4 + 1, none⟩ = some (.slice Aa p.f1.length ca) := by
        rw [blk_cell HCc0.out]; have := chunk_at (cur := cur) (k := k) (show 1 < 4 by decide); rw [HCH.out] at this; simpa using this
      have hgb : yc.cell? ⟨B1, k * 4 + 2, none⟩ = some (.slice Ab p.f2.length cb) := by
        rw [blk_cell HCc0.out]; have := chunk_at (cur := cur) (k := k) (show 2 < 4 by decide); rw [HCH.out] at this; simpa using this
      have hfa := blk_frozen HCc0.out (k * 4 + 1)
      have hfb := blk_frozen HCc0.out (k * 4 + 2)
      have hne2 : gx ≠ B1 := by omega
      refine pure_ (i := 10) (N := some 25) (v := ?_) (a' := ?_) #[true, true, true, true, true, true, true, true, true, true, true, false, false, false, false, false] rfl rfl (by kernel_rfl) (fun _ _ _ h => h) (Or.inl ⟨by rfl, ?_⟩) ?_ ?_
      rotate_left
      · intro w'
        go_simp
        with_reducible rfl
      rotate_left
      · simp only [Act.put, List.setIfInBounds_toArray, List.set_cons_zero, List.set_cons_succ, i64_w, i32_w]
        rfl
      refine pure_ (i := 11) (N := some 26) (v := ?_) (a' := ?_) #[true, true, true, true, true, true, true, true, true, true, true, true, false, false, false, false] rfl rfl (by kernel_rfl) (fun _ _ _ h => h) (Or.inl ⟨by rfl, ?_⟩) ?_ ?_
      rotate_left
      · intro w'
        go_simp
        with_reducible rfl
      rotate_left
      · simp only [Act.put, List.setIfInBounds_toArray, List.set_cons_zero, List.set_cons_succ, i64_w, i32_w]
        rfl
      refine one_ (i := 12) (N := none) #[true, true, true, true, true, true, true, true, true, true, true, true, true, false, false, false] rfl rfl (by kernel_rfl) (by decide) (fun K hK => ?_)
      refine skip_ (w1 := ?_) (by rfl) rfl ?_ ?_
      rotate_left
      · go_simp
        rfl
      refine hK.out _ _ ⟨(blk_cell (blk_far HXc.out (p := ⟨B1, k * 4 + 1, none⟩) hne2 _) 1).trans rfl, (blk_cell (blk_far HXc.out (p := ⟨B1, k * 4 + 1, none⟩) hne2 _) 2).trans rfl⟩ (fun hHeld => ?_)
      clear hK K
      have HCd := Aside0.mk (blk_set HCc0.out (k * 4 + 1) (.slice Ac p.f1.length cc))
      have hfb2 := blk_frozen HCd.out (k * 4 + 2)
      have hgb2 : (yc.setCell ⟨B1, k * 4 + 1, none⟩ (.slice Ac p.f1.length cc)).cell? ⟨B1, k * 4 + 2, none⟩ = some (.slice Ab p.f2.length cb) := by
        rw [blk_cell HCd.out, Array.getElem?_setIfInBounds_ne (by omega), ← blk_cell HCc0.out]; exact hgb
      refine pure_ (i := 13) (N := some 27) (v := ?_) (a' := ?_) #[true, true, true, true, true, true, true, true, true, true, true, true, true, true, false, false] rfl rfl (by kernel_rfl) (fun _ _ _ h => h) (Or.inl ⟨by rfl, ?_⟩) ?_ ?_
      rotate_left
      · intro w'
        go_simp
        with_reducible rfl
      rotate_left
      · simp only [Act.put, List.setIfInBounds_toArray, List.set_cons_zero, List.set_cons_succ, i64_w, i32_w]
        rfl
      refine pure_ (i := 14) (N := some 28) (v := ?_) (a' := ?_) #[true, true, true, true, true, true, true, true, true, true, true, true, true, true, true, false] rfl rfl (by kernel_rfl) (fun _ _ _ h => h) (Or.inl ⟨by rfl, ?_⟩) ?_ ?_
      rotate_left
      · intro w'
        go_simp
        with_reducible rfl
      rotate_left
      · simp only [Act.put, List.setIfInBounds_toArray, List.set_cons_zero, List.set_cons_succ, i64_w, i32_w]
        rfl
      refine last_ (i := 15) (N := none) #[true, true, true, true, true, true, true, true, true, true, true, true, true, true, true, true] rfl rfl (by kernel_rfl) (by decide) (fun K hK => ?_)
      refine skip_ (w1 := ?_) (by rfl) rfl ?_ ?_
      rotate_left
      · go_simp
        rfl
      refine hK.out _ _ ?_
      clear hK K
      refine done_ (by kernel_rfl) ?_
      have HCe := Aside0.mk (blk_set HCd.out (k * 4 + 2) (.slice Ae p.f2.length ce))
      have hoth : ∀ q, q ≠ B1 → ((yc.setCell ⟨B1, k * 4 + 1, none⟩ (.slice Ac p.f1.length cc)).setCell ⟨B1, k * 4 + 2, none⟩ (.slice Ae p.f2.length ce)).heap[q]? = yc.heap[q]? := fun q hq => (Below.heap_setCell _ _ _ _ hq).trans (Below.heap_setCell _ _ _ _ hq)
      have hszz : ((yc.setCell ⟨B1, k * 4 + 1, none⟩ (.slice Ac p.f1.length cc)).setCell ⟨B1, k * 4 + 2, none⟩ (.slice Ae p.f2.length ce)).heap.size = yc.heap.size := by simp [World.setCell]
      have hszr : wr.heap.size ≤ yc.heap.size := by omega
      have HBz := Aside0.mk (show Below w.heap.size w ((yc.setCell ⟨B1, k * 4 + 1, none⟩ (.slice Ac p.f1.length cc)).setCell ⟨B1, k * 4 + 2, none⟩ (.slice Ae p.f2.length ce)) from ((below_step HBr.out HBc.out).setCell (p := ⟨B1, k * 4 + 1, none⟩) (by show w.heap.size ≤ B1; omega) _).setCell (p := ⟨B1, k * 4 + 2, none⟩) (by show w.heap.size ≤ B1; omega) _)
      have hoth2 : ∀ q, q ≠ B1 → q < wr.heap.size → ((yc.setCell ⟨B1, k * 4 + 1, none⟩ (.slice Ac p.f1.length cc)).setCell ⟨B1, k * 4 + 2, none⟩ (.slice Ae p.f2.length ce)).heap[q]? = wr.heap[q]? := fun q hq hl => (hoth q hq).trans (HBc.out.block q hl)
      have hwr : w.heap.size ≤ wr.heap.size := HBr.out.size
      have HFa := Aside0.mk (Kd.F_step (W1 := ((yc.setCell ⟨B1, k * 4 + 1, none⟩ (.slice Ac p.f1.length cc)).setCell ⟨B1, k * 4 + 2, none⟩ (.slice Ae p.f2.length ce))) (Kd.R_F (Kd.R_mono (ok' := fun q => ya.heap.size ≤ q) (Kd.R_bound HVa2.out) (fun q hq => hq.2.1))) (fun q hq _ => hoth q (by omega)))
      have HFb := Aside0.mk (Kd.F_step (W1 := ((yc.setCell ⟨B1, k * 4 + 1, none⟩ (.slice Ac p.f1.length cc)).setCell ⟨B1, k * 4 + 2, none⟩ (.slice Ae p.f2.length ce))) (Kd.R_F (Kd.R_mono (ok' := fun q => yb.heap.size ≤ q) (Kd.R_bound HVb.out) (fun q hq => hq.2.1))) (fun q hq _ => hoth q (by omega)))
      have HLa2 := Aside0.mk (Kd.R_reads' HVa.out).2.1
      have HLb2 := Aside0.mk (Kd.R_reads' HVb.out).2.1
      have HNEW := Aside0.mk (show RowSt k38 38 ((yc.setCell ⟨B1, k * 4 + 1, none⟩ (.slice Ac p.f1.length cc)).setCell ⟨B1, k * 4 + 2, none⟩ (.slice Ae p.f2.length ce)) (some ⟨B1, 0, none⟩) l0 (k + 1) B1 (fun q => w.heap.size ≤ q ∧ q ≠ B1) (fun q => (q < w.heap.size ∨ w.heap.size ≤ q) ∧ q ≠ B1) from fun _ => by
        refine ⟨rfl, by omega, (cur.set (k * 4 + 1) (.slice Ac p.f1.length cc)).set (k * 4 + 2) (.slice Ae p.f2.length ce), ?_, ?_, fun j q hj => ?_⟩
        · have := HCe.out; simpa using this
        · show l0.length * 4 ≤ _; rw [List.length_set, List.length_set]; exact HCL.out
        · have hold := HE.out j q hj
          have hck : ((((cur.set (k * 4 + 1) (.slice Ac p.f1.length cc)).set (k * 4 + 2) (.slice Ae p.f2.length ce)).drop (j * 4)).take 4) = if j = k then [.int .i64 p.f0, .slice Ac p.f1.length cc, .slice Ae p.f2.length ce, .bool p.f3] else (cur.drop (j * 4)).take 4 := by
            rw [chunk_set _ 4 k j 2 _ (by decide), chunk_set cur 4 k j 1 _ (by decide)]
            by_cases e : j = k
            · subst e; rw [if_pos rfl, if_pos rfl, if_pos rfl, HCH.out]; rfl
            · rw [if_neg e, if_neg e, if_neg e]
          refine ⟨fun hjk => ?_, fun hjk => ?_⟩
          · show Kd.FK _ _ _ _ ((((cur.set (k * 4 + 1) (.slice Ac p.f1.length cc)).set (k * 4 + 2) (.slice Ae p.f2.length ce)).drop (j * 4)).take 4)
            rw [hck]
            by_cases e : j = k
            · subst e
              have hqp : q = p := Option.some.inj (hj.symm.trans HP.out)
              subst hqp
              rw [if_pos rfl]
              exact k38_mkF _ _ _ HLa2.out (Kd.F_mono HFa.out (fun z hz => by omega)) HLb2.out (Kd.F_mono HFb.out (fun z hz => by omega))
            · rw [if_neg e]
              exact Kd.FK_step (hold.1 (by omega)) (fun z hz hl => hoth2 z (by omega) hl)
          · show Kd.FK _ _ _ _ ((((cur.set (k * 4 + 1) (.slice Ac p.f1.length cc)).set (k * 4 + 2) (.slice Ae p.f2.length ce)).drop (j * 4)).take 4)
            rw [hck, if_neg (by omega)]
            exact Kd.FK_step (hold.2 (by omega)) (fun z hz hl => hoth2 z (by have := hz.2; omega) hl))
      have hmeas := meas_stepK l0.length k hlt
      go_wp2
      go_roundw
      case rel => exact ⟨k + 1, hlt, by go_num, HBz, HNEW⟩
      case measure => exact hmeas
    · obtain rfl : k = l0.length := by omega
      go_wp2
      go_ret
      refine ⟨_, rfl, Kd.V_mk hcr (F_of_block (t := 38) hm (fun hn => ?_)), HBr.out⟩
      obtain ⟨hA, hBl, cur, h1, h2, h3⟩ := HRr.out hn
      exact ⟨B1, cur, hA, h1, hB1 hn, h2, fun j q hj => Kd.FK_mono ((h3 j q hj).1 (List.getElem?_eq_some_iff.1 hj).1) (fun z hz => hz.1)⟩

end Go.Proofs.Ytpknchaajgkbnaa.P

-- Written by wip/gprint.py, a program of this session over the kit's print; Lean checks it.
namespace Go.Proofs.Ytpknchaajgkbnaa.P
open Go.RowKit Go.Proofs.YtpknchaajgkbnaaW.PrintWords Go.Proofs.YtpknchaajgkbnaaW.PrintLast Go.Proofs.YtpknchaajgkbnaaW.PrintMore
attribute [local go_sem] max2_int min2_int max_two min_two max_three min_three max_four min_four   -- for this text's walks alone
set_option linter.unusedVariables false
set_option linter.unusedSimpArgs false

-- NOT PRINTED: function 42 (api_Span_42)

end Go.Proofs.Ytpknchaajgkbnaa.P

-- Written by wip/gprint.py, a program of this session over the kit's print; Lean checks it.
namespace Go.Proofs.Ytpknchaajgkbnaa.P
open Go.RowKit Go.Proofs.YtpknchaajgkbnaaW.PrintWords Go.Proofs.YtpknchaajgkbnaaW.PrintLast Go.Proofs.YtpknchaajgkbnaaW.PrintMore
attribute [local go_sem] max2_int min2_int max_two min_two max_three min_three max_four min_four   -- for this text's walks alone
set_option linter.unusedVariables false
set_option linter.unusedSimpArgs false

/-! ### span_All: function 44 -/
def span_All.f (a0 : Int) : Option (Int × List Int × List Int × Bool) := some (a0, ([] : List Int), ([] : List Int), true)
set_option maxHeartbeats 8000000 in
set_option maxRecDepth 100000 in
theorem span_All.calls (a0 : Int) (r1 : Int) (r2 : List Int) (r3 : List Int) (r4 : Bool) (w : World) (h : span_All.f a0 = some (r1, r2, r3, r4)) :
    Calls Try.prog 44 #[.int .i64 a0] w fun e w' => ∃ v1_ v2_ : Value, e = .returned (.agg #[.int .i64 r1, v1_, v2_, .bool r4]) ∧ Kd.R (Kd.int .u8) 5 w' w.heap.size (fun k_ => some k_ ≠ (v2_ : Value).ownBlock) v1_ r2 ∧ Kd.R (Kd.int .u8) 5 w' w.heap.size (fun k_ => some k_ ≠ (v1_ : Value).ownBlock) v2_ r3 ∧ Below w.heap.size w w' := by
  have hu38 := Try.underlying38
  have HB := Aside0.mk (Below.refl w.heap.size w)
  have H : (some (a0, ([] : List Int), ([] : List Int), true)) = some (r1, r2, r3, r4) := h
  clear h
  simp only [Option.some.injEq, Prod.mk.injEq] at H
  obtain ⟨rfl, rfl, rfl, rfl⟩ := H
  go_enter Try.func44, Try.ntmps44
  go_wp2_with (first | ((with_reducible refine gate_dst (N := 2) rfl ?_); refine box_event ?hg (N := 2) ?hd (cs := #[.int .i64 0, .slice none 0 0, .slice none 0 0, .bool false]) (t := 38) ?hr ?_; (case hd => rfl); (case hg => rfl); (case hr => first | (go_simp; done) | (go_simp; rfl)); intro gb112 hg w2 hbox hb; have n0_ := Aside0.mk (below_step (by repeat (first | (with_reducible first | exact HB.out | apply below_alloc | apply pw_below_drewN | apply below_drew1) | exact HB.out)) hb); have n1_ := Aside0.mk (hbox); have n2_ := Aside0.mk ((by rw [hg]; exact (below_size (by repeat (first | (with_reducible first | exact HB.out | apply below_alloc | apply pw_below_drewN | apply below_drew1) | exact HB.out))) : w.heap.size ≤ gb112)); have n3_ := Aside0.mk ((by rw [hg]; exact (below_size (by repeat (first | (with_reducible first | exact HB.out | apply below_alloc | apply pw_below_drewN | apply below_drew1) | exact HB.out))) : w.heap.size ≤ gb112)); clear HB; have HB := n0_; have BK112 := n1_; have GW112 := n2_; have GE112 := n3_; clear n0_ n1_ n2_ n3_; clear hb hbox hg; have hcz3_0 : w2.cell? ⟨gb112, 0, none⟩ = some (.int .i64 0) := (blk_cell BK112.out 0).trans rfl; have hcz3_1 : w2.cell? ⟨gb112, 1, none⟩ = some (.slice none 0 0) := (blk_cell BK112.out 1).trans rfl; have hcz3_2 : w2.cell? ⟨gb112, 2, none⟩ = some (.slice none 0 0) := (blk_cell BK112.out 2).trans rfl; have hcz3_3 : w2.cell? ⟨gb112, 3, none⟩ = some (.bool false) := (blk_cell BK112.out 3).trans rfl; have hfz3_0 := blk_frozen BK112.out 0; have hfz3_1 := blk_frozen BK112.out 1; have hfz3_2 := blk_frozen BK112.out 2; have hfz3_3 := blk_frozen BK112.out 3))
  refine bodyPost_ret (results_cell_row rfl _ _ gb112 38 #[.int .i64 a0, .slice none 0 0, .slice none 0 0, .bool true] (0, 0) _ rfl (by (with_reducible repeat (first | refine blk_drewN ?_ _ | refine blk_drew ?_ | refine blk_alloc ?_ _)); refine blk_put (cs := #[.int .i64 a0, .slice none 0 0, .slice none 0 0, .bool false]) ?_ 3 _ rfl; (with_reducible repeat (first | refine blk_drewN ?_ _ | refine blk_drew ?_ | refine blk_alloc ?_ _)); refine blk_put (cs := #[.int .i64 a0, .slice none 0 0, .slice none 0 0, .bool false]) ?_ 2 _ rfl; (with_reducible repeat (first | refine blk_drewN ?_ _ | refine blk_drew ?_ | refine blk_alloc ?_ _)); refine blk_put (cs := #[.int .i64 a0, .slice none 0 0, .slice none 0 0, .bool false]) ?_ 1 _ rfl; (with_reducible repeat (first | refine blk_drewN ?_ _ | refine blk_drew ?_ | refine blk_alloc ?_ _)); refine blk_put (cs := #[.int .i64 0, .slice none 0 0, .slice none 0 0, .bool false]) ?_ 0 _ rfl; (with_reducible repeat (first | refine blk_drewN ?_ _ | refine blk_drew ?_ | refine blk_alloc ?_ _)); exact BK112.out) Try.underlying38 rfl (by kernel_rfl)) rfl ?_
  exact ⟨_, _, by first | rfl | (simp [errW_none, errW_some] <;> rfl) | (simp [*, errW_none, errW_some] <;> rfl), by first | exact Kd.R_nil _ _ _ _ _ | exact Kd.N_nil _ _ _ _ _ | exact Kd.V_nil _ _ _ _ _ | exact Kd.Q_nil _ _ _ _ _ | exact Kd.S_nil _ _ _ _ _, by first | exact Kd.R_nil _ _ _ _ _ | exact Kd.N_nil _ _ _ _ _ | exact Kd.V_nil _ _ _ _ _ | exact Kd.Q_nil _ _ _ _ _ | exact Kd.S_nil _ _ _ _ _, by repeat (first | (with_reducible first | exact HB.out | apply below_alloc | apply pw_below_drewN | apply below_drew1 | refine below_set ?_ GE112.out) | exact HB.out)⟩

end Go.Proofs.Ytpknchaajgkbnaa.P

-- Written by wip/gprint.py, a program of this session over the kit's print; Lean checks it.
namespace Go.Proofs.Ytpknchaajgkbnaa.P
open Go.RowKit Go.Proofs.YtpknchaajgkbnaaW.PrintWords Go.Proofs.YtpknchaajgkbnaaW.PrintLast Go.Proofs.YtpknchaajgkbnaaW.PrintMore
attribute [local go_sem] max2_int min2_int max_two min_two max_three min_three max_four min_four   -- for this text's walks alone
set_option linter.unusedVariables false
set_option linter.unusedSimpArgs false

-- NOT PRINTED: function 45 (slices_Backward_int_int)

end Go.Proofs.Ytpknchaajgkbnaa.P

-- Written by wip/gprint.py, a program of this session over the kit's print; Lean checks it.
namespace Go.Proofs.Ytpknchaajgkbnaa.P
open Go.RowKit Go.Proofs.YtpknchaajgkbnaaW.PrintWords Go.Proofs.YtpknchaajgkbnaaW.PrintLast Go.Proofs.YtpknchaajgkbnaaW.PrintMore
attribute [local go_sem] max2_int min2_int max_two min_two max_three min_three max_four min_four   -- for this text's walks alone
set_option linter.unusedVariables false
set_option linter.unusedSimpArgs false

-- NOT PRINTED: function 46 (api_Span_46)

end Go.Proofs.Ytpknchaajgkbnaa.P

-- Written by wip/gprint.py, a program of this session over the kit's print; Lean checks it.
namespace Go.Proofs.Ytpknchaajgkbnaa.P
open Go.RowKit Go.Proofs.YtpknchaajgkbnaaW.PrintWords Go.Proofs.YtpknchaajgkbnaaW.PrintLast Go.Proofs.YtpknchaajgkbnaaW.PrintMore
attribute [local go_sem] max2_int min2_int max_two min_two max_three min_three max_four min_four   -- for this text's walks alone
set_option linter.unusedVariables false
set_option linter.unusedSimpArgs false

-- NOT PRINTED: function 17 (reads_met)

end Go.Proofs.Ytpknchaajgkbnaa.P

-- Written by wip/gprint.py, a program of this session over the kit's print; Lean checks it.
namespace Go.Proofs.Ytpknchaajgkbnaa.P
open Go.RowKit Go.Proofs.YtpknchaajgkbnaaW.PrintWords Go.Proofs.YtpknchaajgkbnaaW.PrintLast Go.Proofs.YtpknchaajgkbnaaW.PrintMore
attribute [local go_sem] max2_int min2_int max_two min_two max_three min_three max_four min_four   -- for this text's walks alone
set_option linter.unusedVariables false
set_option linter.unusedSimpArgs false

/-GIVEN slices_Clone_Write-/
/-! ### slices_Clone_Write: function 19 -/
def slices_Clone_Write.f (l0 : List (S46)) : Option ((List (S46))) := if l0.length < 2199023255552 then some l0 else none
set_option maxHeartbeats 1000000 in
set_option maxRecDepth 100000 in
theorem slices_Clone_Write.calls (P0_ : Nat → Prop) (A0 : Option Addr) (c0 : Nat) (l0 : List (S46)) (r : List (S46)) (w : World) (hs0 : Kd.V k46 46 w w.heap.size (fun k_ => P0_ k_) (.slice A0 l0.length c0) l0) (h : slices_Clone_Write.f l0 = some r) :
    Calls Try.prog 19 #[.slice A0 l0.length c0] w fun e w' => ∃ v0_ : Value, e = .returned (v0_) ∧ Kd.N k46 46 w' w.heap.size (fun k_ => (P0_ k_ ∨ w.heap.size ≤ k_)) v0_ r ∧ Below w.heap.size w w' := by
  unfold slices_Clone_Write.f at h
  have hlt : l0.length < 2199023255552 := Classical.byContradiction fun hn => by rw [if_neg hn] at h; cases h
  rw [if_pos hlt] at h
  obtain rfl := Option.some.inj h
  clear h
  have hF := Kd.V_F hs0
  cases A0 with
  | none =>
    have hl : l0.length = 0 := Classical.byContradiction fun hn => by
      obtain ⟨ad, he, _⟩ := (Kd.F_now hF).2.2 (by omega)
      cases he
    obtain rfl : l0 = [] := List.length_eq_zero_iff.mp hl
    have ke : ∀ w, (binOp .eql 32 (.slice none 0 c0) (.slice none 0 0)).run Try.prog w = .ok (.bool true) w := fun w => Lib.run_eql_slice_nil w _ _ none 0 c0 0 0 Try.underlying32
    clear hs0 hl hF
    go_enter Try.func19, Try.ntmps19
    go_wp2
    go_ret
    exact ⟨_, rfl, Kd.N_nil _ _ _ _ _, Below.refl _ _⟩
  | some a =>
    have ke : ∀ w, (binOp .eql 32 (.slice (some a) l0.length c0) (.slice none 0 0)).run Try.prog w = .ok (.bool false) w := fun w => Lib.run_eql_slice_nil w _ _ (some a) l0.length c0 0 0 Try.underlying32
    have HF := Aside0.mk hF
    clear hs0 hF
    go_enter Try.func19, Try.ntmps19
    go_wp2_with (first | ((with_reducible refine gate_dst (N := 5) rfl ?_); refine Kd.R_lit k46 w.heap.size 46 ?hg (N := 5) ?hd (xs := ([] : List S46)) (inner := []) (ok := fun k => w.heap.size ≤ k) (okp := fun k => w.heap.size ≤ k) ?hr ?hp (fun _ hk => hk) (Nat.le_refl _) (Below.refl _ _) (Nat.le_refl _) (by simp) ?_; (case hd => rfl); (case hg => rfl); (case hr => first | (go_simp; done) | (go_simp; rfl)); (case hp => exact (Reps.none _ _)); intro v5 w5 ho5 hb5 hg5 hn5; have HO5 := Aside0.mk (Kd.R_N ho5); have HB5 := Aside0.mk hb5; clear ho5 hb5 hg5 hn5) | ((with_reducible refine gate_builtin (b := .append) (xs := #[.tmp 5, .tmp 6]) rfl ?_); at_builtin; refine Kd.N_append_rows k46 (w0 := w) w.heap.size rfl (.tmp 5) (.tmp 6) 32 46 _ _ rfl Try.underlying32 info46 rfl (by decide) (by omega) _ [] l0 _ _ _ (fun k => P0_ k ∨ w.heap.size ≤ k) (fun k => P0_ k ∧ k < w.heap.size) rfl rfl (Kd.N_mono HO5.out (fun k hk => .inr hk)) (Kd.F_below (Kd.F_bound HF.out) HB5.out) (fun k hk => ⟨.inl hk.1, fun he => by have := Kd.N_base HO5.out k he.symm; have := hk.2; omega⟩) (fun k hk => .inr (Nat.le_trans (below_size HB5.out) hk)) HB5.out (below_size HB5.out) (by simp; omega) ?_; intro v7 w7 ho7 hb7 hg7 ha7; have HO7 := Aside0.mk ho7; have HB7 := Aside0.mk hb7; clear ho7 hb7 hg7 ha7))
    go_ret
    exact ⟨_, rfl, HO7.out, HB7.out⟩

end Go.Proofs.Ytpknchaajgkbnaa.P

-- Written by wip/gprint.py, a program of this session over the kit's print; Lean checks it.
namespace Go.Proofs.Ytpknchaajgkbnaa.P
open Go.RowKit Go.Proofs.YtpknchaajgkbnaaW.PrintWords Go.Proofs.YtpknchaajgkbnaaW.PrintLast Go.Proofs.YtpknchaajgkbnaaW.PrintMore
attribute [local go_sem] max2_int min2_int max_two min_two max_three min_three max_four min_four   -- for this text's walks alone
set_option linter.unusedVariables false
set_option linter.unusedSimpArgs false

-- NOT PRINTED: function 47 (api_Write_47)

end Go.Proofs.Ytpknchaajgkbnaa.P

-- Written by wip/gprint.py, a program of this session over the kit's print; Lean checks it.
namespace Go.Proofs.Ytpknchaajgkbnaa.P
open Go.RowKit Go.Proofs.YtpknchaajgkbnaaW.PrintWords Go.Proofs.YtpknchaajgkbnaaW.PrintLast Go.Proofs.YtpknchaajgkbnaaW.PrintMore
attribute [local go_sem] max2_int min2_int max_two min_two max_three min_three max_four min_four   -- for this text's walks alone
set_option linter.unusedVariables false
set_option linter.unusedSimpArgs false

-- NOT PRINTED: function 24 (api_Write_24)

end Go.Proofs.Ytpknchaajgkbnaa.P

-- Written by wip/gprint.py, a program of this session over the kit's print; Lean checks it.
namespace Go.Proofs.Ytpknchaajgkbnaa.P
open Go.RowKit Go.Proofs.YtpknchaajgkbnaaW.PrintWords Go.Proofs.YtpknchaajgkbnaaW.PrintLast Go.Proofs.YtpknchaajgkbnaaW.PrintMore
attribute [local go_sem] max2_int min2_int max_two min_two max_three min_three max_four min_four   -- for this text's walks alone
set_option linter.unusedVariables false
set_option linter.unusedSimpArgs false

/-GIVEN reads_Hit-/
/-! ### reads_Hit: function 12 -/
theorem span_In_f (x : S38) (t : Int) (k : List Int) : span_In.f x.f0 x.f1 x.f2 x.f3 t k = some (inB x t k) := by
  unfold span_In.f inB
  simp only [bytes_Compare.f, Option.bind_some]
  by_cases h : x.f0 = t
  · rw [if_pos h, decide_eq_true h, Bool.true_and]
    by_cases h2 : Lib.compareBytes (Lib.bytesOf x.f1) (Lib.bytesOf k) ≤ 0
    · rw [if_pos h2, decide_eq_true h2, Bool.true_and]
      cases x.f3 <;> rfl
    · rw [if_neg h2, decide_eq_false h2]; rfl
  · rw [if_neg h, decide_eq_false h]; rfl
set_option maxHeartbeats 1000000 in
set_option maxRecDepth 100000 in
theorem hit_in (g t : Nat) (ty : Int) (Ak : Option Addr) (key : List Int) (ck : Nat) (gone : Bool) (v3 : Value) (W : World) (x : S38) (A1 : Option Addr) (c1 : Nat) (A2 : Option Addr) (c2 : Nat)
    (hg : W.heap[g]? = some (.cells #[.int .i64 ty, .slice Ak key.length ck, .bool gone, v3] t (0, 0))) (hk : Kd.C (Kd.int .u8) W Ak key.length key) (hck : key.length ≤ ck)
    (h1 : x.f1.length ≤ c1) (i1 : Kd.C (Kd.int .u8) W A1 x.f1.length x.f1) (h2 : x.f2.length ≤ c2) (i2 : Kd.C (Kd.int .u8) W A2 x.f2.length x.f2) :
    Calls Try.prog 27 #[.agg #[.int .i64 x.f0, .slice A1 x.f1.length c1, .slice A2 x.f2.length c2, .bool x.f3], .pointer (some ⟨g, 0, none⟩)] W fun e w' => e = .returned (.bool (inB x ty key)) ∧ Below W.heap.size W w' := by
  have e0 : ∀ o, (W.alloc o).cell? ⟨g, 0, none⟩ = some (.int .i64 ty) := fun o => (World.cell?_alloc_lt W o _ (blk_lt hg)).trans ((blk_cell hg 0).trans rfl)
  have e1 : ∀ o, (W.alloc o).cell? ⟨g, 1, none⟩ = some (.slice Ak key.length ck) := fun o => (World.cell?_alloc_lt W o _ (blk_lt hg)).trans ((blk_cell hg 1).trans rfl)
  have HIN := fun o => Aside0.mk (span_In.calls x.f0 A1 c1 x.f1 A2 c2 x.f2 x.f3 ty Ak ck key (inB x ty key) (W.alloc o) (Kd.C_alloc i1 o) h1 (Kd.C_alloc i2 o) h2 (Kd.C_alloc hk o) hck (span_In_f x ty key))
  have hu := Try.underlying38
  have hu2 := Try.underlying46
  clear hg hk hck h1 i1 h2 i2
  go_enter Try.func27, Try.ntmps27
  go_wp2_with (go_at_call 28; refine (HIN _).out.mono ?_; rintro e w1 ⟨rfl, hb⟩; have HB1 := Aside0.mk (below_step (below_alloc (Below.refl W.heap.size W) _) hb); clear hb)
  go_ret
  exact ⟨rfl, HB1.out⟩
set_option maxHeartbeats 1000000 in
set_option maxRecDepth 100000 in
theorem hit_one (g : Nat) (A0 : Option Addr) (c0 : Nat) (l0 : List S38) (W : World) (y : S46) (A1 : Option Addr) (c1 : Nat) (A3 : Option Addr) (c3 : Nat)
    (hg : W.heap[g]? = some (.cells #[.slice A0 l0.length c0] 27 (0, 0))) (hr0 : Kd.C k38 W A0 l0.length l0)
    (h1 : y.f1.length ≤ c1) (i1 : Kd.C (Kd.int .u8) W A1 y.f1.length y.f1) :
    Calls Try.prog 25 #[.agg #[.int .i64 y.f0, .slice A1 y.f1.length c1, .bool y.f2, .slice A3 y.f3.length c3], .pointer (some ⟨g, 0, none⟩)] W fun e w' => e = .returned (.bool (l0.any fun x => inB x y.f0 y.f1)) ∧ Below W.heap.size W w' := by
  have e0 : ∀ o, (W.alloc o).cell? ⟨g, 0, none⟩ = some (.slice A0 l0.length c0) := fun o => (World.cell?_alloc_lt W o _ (blk_lt hg)).trans ((blk_cell hg 0).trans rfl)
  have HIN := Aside0.mk (has_Span 27 #[.pointer (some ⟨W.heap.size, 0, none⟩)] (fun x => inB x y.f0 y.f1) A0 c0 l0 (W.alloc (.cells #[.int .i64 y.f0, .slice A1 y.f1.length c1, .bool y.f2, .slice A3 y.f3.length c3] 46)) (Kd.C_alloc hr0 _) (enters_of Try.func27 (by kernel_rfl) rfl)
    (fun W1 x B1 d1 B2 d2 _ hb j1 k1 j2 k2 => hit_in W.heap.size 46 y.f0 A1 y.f1 c1 y.f2 _ W1 x B1 d1 B2 d2 ((hb.block _ (by simp)).trans (heap_alloc_new _ _)) (Kd.C_below (Kd.C_alloc i1 _) hb) h1 j1 k1 j2 k2))
  have hmf : ∀ (fn : Fn) (first cap : Array Value) (w : World), (Instr.makeFunc fn first cap).run Try.prog w = .ok (.func fn first cap) w := fun _ _ _ _ => rfl
  have hu2 := Try.underlying46
  clear hg hr0 h1 i1
  go_enter Try.func25, Try.ntmps25
  go_wp2_with (go_at_call 26; refine HIN.out.mono ?_; rintro e w1 ⟨rfl, hb⟩; have HB1 := Aside0.mk (below_step (below_alloc (Below.refl W.heap.size W) _) hb); clear hb)
  go_ret
  exact ⟨rfl, HB1.out⟩
def reads_Hit.f (l0 : List (S38)) (l1 : List (S46)) : Option (Bool) := some (l1.any fun y => l0.any fun x => inB x y.f0 y.f1)
set_option maxHeartbeats 1000000 in
set_option maxRecDepth 100000 in
theorem reads_Hit.calls (A0 : Option Addr) (c0 : Nat) (l0 : List (S38)) (A1 : Option Addr) (c1 : Nat) (l1 : List (S46)) (r : Bool) (w : World) (hr0 : Kd.C k38 w A0 l0.length l0) (hc0 : l0.length ≤ c0) (hr1 : Kd.C k46 w A1 l1.length l1) (hc1 : l1.length ≤ c1) (h : reads_Hit.f l0 l1 = some r) :
    Calls Try.prog 12 #[.slice A0 l0.length c0, .slice A1 l1.length c1] w fun e w' => e = .returned (.bool r) ∧ Below w.heap.size w w' := by
  unfold reads_Hit.f at h
  obtain rfl := Option.some.inj h
  clear h
  have HIN := Aside0.mk (has_Write 25 #[.pointer (some ⟨w.heap.size, 0, none⟩)] (fun y => l0.any fun x => inB x y.f0 y.f1) A1 c1 l1 (w.alloc (.cells #[.slice A0 l0.length c0] 27)) (Kd.C_alloc hr1 _) (enters_of Try.func25 (by kernel_rfl) rfl)
    (fun W1 y B1 d1 B3 d3 _ hb j1 k1 j3 k3 => hit_one w.heap.size A0 c0 l0 W1 y B1 d1 B3 d3 ((hb.block _ (by simp)).trans (heap_alloc_new _ _)) (Kd.C_below (Kd.C_alloc hr0 _) hb) j1 k1))
  have hmf : ∀ (fn : Fn) (first cap : Array Value) (w : World), (Instr.makeFunc fn first cap).run Try.prog w = .ok (.func fn first cap) w := fun _ _ _ _ => rfl
  clear hr0 hr1 hc0 hc1
  go_enter Try.func12, Try.ntmps12
  go_wp2_with (go_at_call 24; refine HIN.out.mono ?_; rintro e w1 ⟨rfl, hb⟩; have HB1 := Aside0.mk (below_step (below_alloc (Below.refl w.heap.size w) _) hb); clear hb)
  go_ret
  exact ⟨rfl, HB1.out⟩

end Go.Proofs.Ytpknchaajgkbnaa.P

-- Written by wip/gprint.py, a program of this session over the kit's print; Lean checks it.
namespace Go.Proofs.Ytpknchaajgkbnaa.P
open Go.RowKit Go.Proofs.YtpknchaajgkbnaaW.PrintWords Go.Proofs.YtpknchaajgkbnaaW.PrintLast Go.Proofs.YtpknchaajgkbnaaW.PrintMore
attribute [local go_sem] max2_int min2_int max_two min_two max_three min_three max_four min_four   -- for this text's walks alone
set_option linter.unusedVariables false
set_option linter.unusedSimpArgs false

/-GIVEN reads_Same-/
/-! ### reads_Same: function 14 -/
def sameB (x y : S46) : Bool := decide (x.f0 = y.f0) && ((strOfNums x.f1).toList == (strOfNums y.f1).toList)
set_option maxHeartbeats 1000000 in
set_option maxRecDepth 100000 in
theorem same_in (g : Nat) (x : S46) (Ak : Option Addr) (ck : Nat) (v3 : Value) (W : World) (y : S46) (A1 : Option Addr) (c1 : Nat) (A3 : Option Addr) (c3 : Nat)
    (hg : W.heap[g]? = some (.cells #[.int .i64 x.f0, .slice Ak x.f1.length ck, .bool x.f2, v3] 46 (0, 0))) (hk : Kd.C (Kd.int .u8) W Ak x.f1.length x.f1) (hck : x.f1.length ≤ ck)
    (h1 : y.f1.length ≤ c1) (i1 : Kd.C (Kd.int .u8) W A1 y.f1.length y.f1) :
    Calls Try.prog 30 #[.agg #[.int .i64 y.f0, .slice A1 y.f1.length c1, .bool y.f2, .slice A3 y.f3.length c3], .pointer (some ⟨g, 0, none⟩)] W fun e w' => e = .returned (.bool (sameB x y)) ∧ Below W.heap.size W w' := by
  have e0 : ∀ o, (W.alloc o).cell? ⟨g, 0, none⟩ = some (.int .i64 x.f0) := fun o => (World.cell?_alloc_lt W o _ (blk_lt hg)).trans ((blk_cell hg 0).trans rfl)
  have e1 : ∀ o, (W.alloc o).cell? ⟨g, 1, none⟩ = some (.slice Ak x.f1.length ck) := fun o => (World.cell?_alloc_lt W o _ (blk_lt hg)).trans ((blk_cell hg 1).trans rfl)
  have HIN := fun o => Aside0.mk (bytes_Equal.calls Ak ck x.f1 A1 c1 y.f1 _ (W.alloc o) (Kd.C_alloc hk o) hck (Kd.C_alloc i1 o) h1 rfl)
  have hu2 := Try.underlying46
  unfold sameB
  clear hg hk hck h1 i1
  generalize ((strOfNums x.f1).toList == (strOfNums y.f1).toList) = b at HIN ⊢
  go_enter Try.func30, Try.ntmps30
  by_cases hq : x.f0 = y.f0
  · have hd : decide (x.f0 = y.f0) = true := decide_eq_true hq
    have hb1 : (x.f0 == y.f0) = true := beq_iff_eq.mpr hq
    rw [hd]
    clear hq
    go_wp2_with (go_at_call 31; refine (HIN _).out.mono ?_; rintro e w1 ⟨rfl, ⟨nd, rfl⟩⟩)
    go_ret
    exact ⟨by simp, pw_below_drewN (below_alloc (Below.refl W.heap.size W) _) nd⟩
  · have hd : decide (x.f0 = y.f0) = false := decide_eq_false hq
    have hb1 : (x.f0 == y.f0) = false := beq_eq_false_iff_ne.mpr hq
    rw [hd]
    clear hq
    go_wp2
    go_ret
    exact ⟨by simp, below_alloc (Below.refl W.heap.size W) _⟩
set_option maxHeartbeats 1000000 in
set_option maxRecDepth 100000 in
theorem same_one (g : Nat) (A0 : Option Addr) (c0 : Nat) (l0 : List S46) (W : World) (x : S46) (A1 : Option Addr) (c1 : Nat) (A3 : Option Addr) (c3 : Nat)
    (hg : W.heap[g]? = some (.cells #[.slice A0 l0.length c0] 32 (0, 0))) (hr0 : Kd.C k46 W A0 l0.length l0)
    (h1 : x.f1.length ≤ c1) (i1 : Kd.C (Kd.int .u8) W A1 x.f1.length x.f1) :
    Calls Try.prog 29 #[.agg #[.int .i64 x.f0, .slice A1 x.f1.length c1, .bool x.f2, .slice A3 x.f3.length c3], .pointer (some ⟨g, 0, none⟩)] W fun e w' => e = .returned (.bool (l0.any fun y => sameB x y)) ∧ Below W.heap.size W w' := by
  have e0 : ∀ o, (W.alloc o).cell? ⟨g, 0, none⟩ = some (.slice A0 l0.length c0) := fun o => (World.cell?_alloc_lt W o _ (blk_lt hg)).trans ((blk_cell hg 0).trans rfl)
  have HIN := Aside0.mk (has_Write 30 #[.pointer (some ⟨W.heap.size, 0, none⟩)] (fun y => sameB x y) A0 c0 l0 (W.alloc (.cells #[.int .i64 x.f0, .slice A1 x.f1.length c1, .bool x.f2, .slice A3 x.f3.length c3] 46)) (Kd.C_alloc hr0 _) (enters_of Try.func30 (by kernel_rfl) rfl)
    (fun W1 y B1 d1 B3 d3 _ hb j1 k1 j3 k3 => same_in W.heap.size x A1 c1 _ W1 y B1 d1 B3 d3 ((hb.block _ (by simp)).trans (heap_alloc_new _ _)) (Kd.C_below (Kd.C_alloc i1 _) hb) h1 j1 k1))
  have hmf : ∀ (fn : Fn) (first cap : Array Value) (w : World), (Instr.makeFunc fn first cap).run Try.prog w = .ok (.func fn first cap) w := fun _ _ _ _ => rfl
  have hu2 := Try.underlying46
  clear hg hr0 h1 i1
  go_enter Try.func29, Try.ntmps29
  go_wp2_with (go_at_call 24; refine HIN.out.mono ?_; rintro e w1 ⟨rfl, hb⟩; have HB1 := Aside0.mk (below_step (below_alloc (Below.refl W.heap.size W) _) hb); clear hb)
  go_ret
  exact ⟨rfl, HB1.out⟩
def reads_Same.f (l0 : List (S46)) (l1 : List (S46)) : Option (Bool) := some (l0.any fun x => l1.any fun y => sameB x y)
set_option maxHeartbeats 1000000 in
set_option maxRecDepth 100000 in
theorem reads_Same.calls (A0 : Option Addr) (c0 : Nat) (l0 : List (S46)) (A1 : Option Addr) (c1 : Nat) (l1 : List (S46)) (r : Bool) (w : World) (hr0 : Kd.C k46 w A0 l0.length l0) (hc0 : l0.length ≤ c0) (hr1 : Kd.C k46 w A1 l1.length l1) (hc1 : l1.length ≤ c1) (h : reads_Same.f l0 l1 = some r) :
    Calls Try.prog 14 #[.slice A0 l0.length c0, .slice A1 l1.length c1] w fun e w' => e = .returned (.bool r) ∧ Below w.heap.size w w' := by
  unfold reads_Same.f at h
  obtain rfl := Option.some.inj h
  clear h
  have HIN := Aside0.mk (has_Write 29 #[.pointer (some ⟨w.heap.size, 0, none⟩)] (fun x => l1.any fun y => sameB x y) A0 c0 l0 (w.alloc (.cells #[.slice A1 l1.length c1] 32)) (Kd.C_alloc hr0 _) (enters_of Try.func29 (by kernel_rfl) rfl)
    (fun W1 y B1 d1 B3 d3 _ hb j1 k1 j3 k3 => same_one w.heap.size A1 c1 l1 W1 y B1 d1 B3 d3 ((hb.block _ (by simp)).trans (heap_alloc_new _ _)) (Kd.C_below (Kd.C_alloc hr1 _) hb) j1 k1))
  have hmf : ∀ (fn : Fn) (first cap : Array Value) (w : World), (Instr.makeFunc fn first cap).run Try.prog w = .ok (.func fn first cap) w := fun _ _ _ _ => rfl
  clear hr0 hr1 hc0 hc1
  go_enter Try.func14, Try.ntmps14
  go_wp2_with (go_at_call 24; refine HIN.out.mono ?_; rintro e w1 ⟨rfl, hb⟩; have HB1 := Aside0.mk (below_step (below_alloc (Below.refl w.heap.size w) _) hb); clear hb)
  go_ret
  exact ⟨rfl, HB1.out⟩

end Go.Proofs.Ytpknchaajgkbnaa.P
