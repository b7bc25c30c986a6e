import Derived.Test.YtfbjabpjfalmlaaPx0
import Derived.Laws.CopyOwn
import Derived.Lib.SlBytesConst
import Derived.LoopIn
import Derived.LoopNIn
import Derived.Maps.AppendAt
import Derived.OwnWalkIn
import Derived.RangeFuncBound
import Derived.RangeFuncBox
import Derived.RangeFuncCalls
import Derived.RangeFuncLeaves
import Derived.RangeFuncNested
import Derived.TacticsInMore
import Derived.BigQuiet
import Derived.Lib.SliceRun
import Derived.Lib.EndianBits
import Derived.ScopeJumps
import Derived.WalkMore
import Derived.Deep.CutBlock
import Derived.Deep.DeepCutAuto
import Derived.Shelf.Abstract
import Derived.Defers
import Derived.Laws.EntriesVeiled
import Derived.Recover
import Derived.WalkLawsBesides
namespace Go.Proofs.Ytfbjabpjfalmlaa.P
open Go.RowKit Go.Proofs.YtfbjabpjfalmlaaW.PrintWords Go.Proofs.YtfbjabpjfalmlaaW.PrintLast Go.Proofs.YtfbjabpjfalmlaaW.PrintMore
attribute [local go_sem] max2_int min2_int max_two min_two max_three min_three max_four min_four
set_option linter.unusedVariables false
set_option linter.unusedSimpArgs false
def okb (l : List Int) : Bool := l.all fun b => decide (0 ≤ b) && decide (b ≤ 255)
theorem okb_mem {l : List Int} (h : okb l = true) {b : Int} (hb : b ∈ l) : 0 ≤ b ∧ b ≤ 255 := by
  unfold okb at h
  have := List.all_eq_true.mp h b hb
  simp at this
  exact this
theorem okb_rd {l : List Int} (h : okb l = true) (k : Nat) (hk : k < l.length) : 0 ≤ rd l (k : Int) ∧ rd l (k : Int) ≤ 255 := by
  have e : rd l (k : Int) = l[k] := by unfold rd; simp [List.getD_eq_getElem?_getD, hk]
  rw [e]
  exact okb_mem h (List.getElem_mem hk)
theorem ret_int {k : IntKind} {a b : Int} (h : a = b) : Ending.returned (.int k a) = .returned (.int k b) := by rw [h]
end Go.Proofs.Ytfbjabpjfalmlaa.P
namespace Go.Proofs.Ytfbjabpjfalmlaa.P
open Go.RowKit Go.Proofs.YtfbjabpjfalmlaaW.PrintWords Go.Proofs.YtfbjabpjfalmlaaW.PrintLast Go.Proofs.YtfbjabpjfalmlaaW.PrintMore
attribute [local go_sem] max2_int min2_int max_two min_two max_three min_three max_four min_four
set_option linter.unusedVariables false
set_option linter.unusedSimpArgs false
end Go.Proofs.Ytfbjabpjfalmlaa.P
namespace Go.Proofs.Ytfbjabpjfalmlaa.P
open Go.RowKit Go.Proofs.YtfbjabpjfalmlaaW.PrintWords Go.Proofs.YtfbjabpjfalmlaaW.PrintLast Go.Proofs.YtfbjabpjfalmlaaW.PrintMore
attribute [local go_sem] max2_int min2_int max_two min_two max_three min_three max_four min_four
set_option linter.unusedVariables false
set_option linter.unusedSimpArgs false
end Go.Proofs.Ytfbjabpjfalmlaa.P
namespace Go.Proofs.Ytfbjabpjfalmlaa.P
open Go.RowKit Go.Proofs.YtfbjabpjfalmlaaW.PrintWords Go.Proofs.YtfbjabpjfalmlaaW.PrintLast Go.Proofs.YtfbjabpjfalmlaaW.PrintMore
attribute [local go_sem] max2_int min2_int max_two min_two max_three min_three max_four min_four
set_option linter.unusedVariables false
set_option linter.unusedSimpArgs false
def conv_lit.f (l : List Int) : Option (List Int) := some l
theorem conv_lit_op {P : Program} {ops : Array Oper} {rest : List Oper} {o1 o2 : Oper} {a : Act} {Q : Exit → Act → World → Prop} {W : World} (t e : TypeId) (ht : P.underlying t = some (.slice e)) (he : P.underlying e = some (.int .u8)) (hg1 : o1.guard = none) (N1 N2 : Tmp) (hd1 : o1.dst = some N1) (hg2 : o2.guard = none) (hd2 : o2.dst = some N2) (ho2 : o2.op = .convert t t (.tmp N1)) (xs ys : List Int) (hA : conv_lit.f xs = some ys) (inner : List Value)
    (hrun : (execOp a.eval o1).run P W = .ok (.value (.slice (some ⟨W.heap.size, 0, none⟩) xs.length xs.length)) (W.alloc (.cells inner.toArray e)))
    (hev : ∀ v : Value, (a.put (some N1) v).eval (.tmp N1) = v) (hin : inner = xs.map (Value.int .u8)) (hm : xs.length ≤ 9223372036854775807)
    (h : ∀ v w1, Kd.V (Kd.int .u8) e w1 W.heap.size (fun k_ => W.heap.size ≤ k_) v ys → Below W.heap.size W w1 → wpList P ops Q rest ((a.put (some N1) v).put (some N2) v) w1) : wpList P ops Q (o1 :: o2 :: rest) a W := by
  obtain rfl : xs = ys := Option.some.inj hA
  refine Kd.event_run hg1 hrun ?_
  rw [hd1]
  have hrun2 : (execOp (a.put (some N1) (.slice (some ⟨W.heap.size, 0, none⟩) xs.length xs.length)).eval o2).run P (W.alloc (.cells inner.toArray e)) = .ok (.value (.slice (some ⟨W.heap.size, 0, none⟩) xs.length xs.length)) (W.alloc (.cells inner.toArray e (inner.toArray.size, inner.toArray.size + 1))) := by
    have hc := Lib.run_convert_bytes_const (P := P) W t e inner.toArray xs.length xs.length ht he
    simp [execOp, ho2, hev, hc]
  refine Kd.event_run hg2 hrun2 ?_
  rw [hd2]
  refine h _ _ ?_ (below_alloc (Below.refl _ _) _)
  subst hin
  have hg : (W.alloc (.cells (xs.map (Value.int .u8)).toArray e ((xs.map (Value.int .u8)).toArray.size, (xs.map (Value.int .u8)).toArray.size + 1))).heap[W.heap.size]? = some (.cells (xs.map (Value.int .u8)).toArray e ((xs.map (Value.int .u8)).toArray.size, (xs.map (Value.int .u8)).toArray.size + 1)) := by
    show (W.heap.push _)[W.heap.size]? = _
    simp
  refine ⟨some ⟨W.heap.size, 0, none⟩, xs.length, rfl, Nat.le_refl _, fun W' hW => ⟨rfl, hm, fun _ => ⟨⟨W.heap.size, 0, none⟩, rfl, fun j p hj => ⟨[.int .u8 p], rfl, rfl, fun i u hu => ?_⟩⟩⟩⟩
  have hg' := (hW W.heap.size (Nat.le_refl _) (blk_lt hg)).trans hg
  cases i with
  | succ i => simp at hu
  | zero =>
    have hu' : Value.int .u8 p = u := by simpa using hu
    subst hu'
    rw [add_plain, cell_of_row W' W.heap.size _ _ e _ hg']
    have hs : (Kd.int .u8).sz = 1 := rfl
    simp [hs, hj]
end Go.Proofs.Ytfbjabpjfalmlaa.P
namespace Go.Proofs.Ytfbjabpjfalmlaa.P
open Go.RowKit Go.Proofs.YtfbjabpjfalmlaaW.PrintWords Go.Proofs.YtfbjabpjfalmlaaW.PrintLast Go.Proofs.YtfbjabpjfalmlaaW.PrintMore
attribute [local go_sem] max2_int min2_int max_two min_two max_three min_three max_four min_four
set_option linter.unusedVariables false
set_option linter.unusedSimpArgs false
theorem range_cells {F : Fence} {n : Nat} {P : Program} {α β : Type} {g : Operand} {ps : Array Tmp} {assign body : Code} {Q : Exit → Act → World → Prop} {a : Act} {w : World}
    (hro : F.round = none) (h1 : 1 ≤ n) {gf : Nat} {lb : Array Value} (hg : a.eval g = .func (.func gf) #[] lb) (hFg : F.fn gf) (eg : ∀ args w, (callFunc gf args).run P w = .ok (.enter gf args) w)
    (encs : α → Array Value) (hps : ∀ x, (encs x).size = ps.size) (S : List α → Prop) (N : Nat) (I : List α → β → World → Prop)
    (hIb : ∀ pre m W l o o', w.heap.size ≤ l → W.heap[l]? = some o → o.isCells = false → I pre m W → I pre m (W.putObj l o'))
    (m0 : β) (h0 : ∀ r : Loop, I [] m0 ((w.alloc (.deferred (some []))).alloc (.loop r))) (a₁ : α → Act)
    (hassign : ∀ (l : Nat) (x : α) (W : World) (K : Act → World → Prop), K (a₁ x) W →
      assign.wpIn (F.inRound l) (n - 1 - 1) P (Exit.then K (fun _ _ _ => False)) { tmps := (ps.zip (encs x)).foldl (fun t (p, v) => t.setIfInBounds p v) a.tmps, defers := [] } W)
    (hbody : ∀ (l : Nat) (pre : List α) (m : β) (x : α) (W : World), I pre m W → pre.length < N → body.wpIn (F.inRound l) (n - 1 - 1) P (fun e _ W' => e = .normal ∧ KeepsOthers W W' ∧ I (pre ++ [x]) m W') (a₁ x) W)
    (hit : ∀ (l : Nat) (J : List α → β → World → Prop) (W : World), (∀ pre m W, J pre m W → I pre m W) → (∀ pre pre' m m' W W', J pre m W → KeepsOthers W W' → I pre' m' W' → J pre' m' W') →
      (∀ pre m x W1, J pre m W1 → pre.length < N → YieldAt F (n - 1 - 1) P l (encs x) W1 fun e W' => e = .returned (.bool true) ∧ J (pre ++ [x]) m W') → J [] m0 W →
      CallsIn F (n - 1) P gf (#[.func (.yield l) #[] #[]] ++ lb) W fun e W' => (∃ v, e = .returned v) ∧ ∃ xs m, S xs ∧ J xs m W')
    (hdone : ∀ (D : Nat) (xs : List α) (m : β) (W : World), w.heap.size ≤ D → S xs → I xs m W → W.heap[D]? = some (.deferred (some [])) → Q .normal { a with defers := { target := .collected D, args := #[] } :: a.defers } W) :
    (Code.rangeFunc g ps assign body).wpIn F n P Q a w := by
  refine wpIn_rangeFunc fun fn hfn => ?_
  rw [hro]
  let R : LoopState → Option Code → Loop := fun st pe => { state := st, pending := pe, fn := fn, tmps := a.tmps, params := ps, assign := assign, body := body, defers := w.heap.size }
  let W1 := (w.alloc (.deferred (some []))).alloc (.loop (R .ready none))
  have hL1 : W1.heap[w.heap.size + 1]? = some (.loop (R .ready none)) := by
    have := World.alloc_heap_new (w.alloc (.deferred (some []))) (.loop (R .ready none)); rwa [World.size_alloc] at this
  have hK1 : W1.heap[w.heap.size]? = some (.deferred (some [])) := (Below.heap_alloc _ _ _ (by simp)).trans (World.alloc_heap_new w _)
  refine ⟨w.heap.size + 1, _, W1, { target := .fn (.func gf) lb, args := #[.func (.yield (w.heap.size + 1)) #[] #[]] }, W1, gf, #[.func (.yield (w.heap.size + 1)) #[] #[]] ++ lb, W1,
    run_enterLoop_outer _ _ _ _ _, ?_, ?_, ?_, fun _ => h1, ?_⟩
  · simp only [resolve, hg]
    simp [go_sem]
  · intro f' hf'; simp [Target.leads] at hf'; subst hf'; exact hFg
  · simp [invoke, go_sem, eg]
  · refine (hit (w.heap.size + 1) (fun pre m W => I pre m W ∧ W.heap[w.heap.size + 1]? = some (.loop (R .ready none)) ∧ W.heap[w.heap.size]? = some (.deferred (some []))) W1
      (fun _ _ _ h => h.1) (fun _ _ _ _ _ _ h hk hi => ⟨hi, hk.same _ _ h.2.1 rfl, hk.same _ _ h.2.2 rfl⟩) ?_ ⟨h0 _, hL1, hK1⟩).mono ?_
    · rintro pre m x W ⟨hi, hl, hk⟩ hN
      have hlt : w.heap.size + 1 < W.heap.size := (Array.getElem?_eq_some_iff.1 hl).1
      refine ⟨fn, _, assign, body, run_yield (P := P) (args := encs x) hl (hps x), roundIn_of_wpIn hfn (hassign _ x W _ ⟨_, run_beginRound hl rfl, ?_⟩)⟩
      have hl2 := World.putObj_heap_same (o := .loop { R .ready none with state := .busy }) hlt
      have hk2 : (W.putObj (w.heap.size + 1) (.loop { R .ready none with state := .busy })).heap[w.heap.size]? = some (.deferred (some [])) := (World.putObj_heap_other (by omega)).trans hk
      refine wpIn_mono (hbody _ pre m x _ (hIb _ _ _ _ _ _ (by omega) hl rfl hi) hN) ?_
      rintro e a3 W3 ⟨rfl, hk3, hi3⟩
      have hl3 := hk3.same _ _ hl2 rfl
      refine ⟨_, _, run_endRound none hl3, rfl, hIb _ _ _ _ _ _ (by omega) hl3 rfl hi3, World.putObj_heap_same (Array.getElem?_eq_some_iff.1 hl3).1, (World.putObj_heap_other (by omega)).trans (hk3.same _ _ hk2 rfl)⟩
    · rintro e W2 ⟨⟨v, rfl⟩, xs, m, hS, hi, hl, hk⟩
      exact ⟨none, _, run_endLoop (P := P) hl (by simp [R]), hdone _ xs m _ (Nat.le_refl _) hS (hIb _ _ _ _ _ _ (by omega) hl rfl hi) ((World.putObj_heap_other (by omega)).trans hk)⟩
end Go.Proofs.Ytfbjabpjfalmlaa.P
namespace Go.Proofs.Ytfbjabpjfalmlaa.P
open Go.RowKit Go.Proofs.YtfbjabpjfalmlaaW.PrintWords Go.Proofs.YtfbjabpjfalmlaaW.PrintLast Go.Proofs.YtfbjabpjfalmlaaW.PrintMore
attribute [local go_sem] max2_int min2_int max_two min_two max_three min_three max_four min_four
set_option linter.unusedVariables false
set_option linter.unusedSimpArgs false
end Go.Proofs.Ytfbjabpjfalmlaa.P
namespace Go.Proofs.Ytfbjabpjfalmlaa.P
open Go.RowKit Go.Proofs.YtfbjabpjfalmlaaW.PrintWords Go.Proofs.YtfbjabpjfalmlaaW.PrintLast Go.Proofs.YtfbjabpjfalmlaaW.PrintMore
attribute [local go_sem] max2_int min2_int max_two min_two max_three min_three max_four min_four
set_option linter.unusedVariables false
set_option linter.unusedSimpArgs false
def idxBy {α : Type} (p : α → Bool) : List α → Int
  | [] => -1
  | x :: l => if p x then 0 else (if idxBy p l < 0 then -1 else idxBy p l + 1)
theorem idxBy_lo {α : Type} (p : α → Bool) (l : List α) : -1 ≤ idxBy p l := by
  induction l with
  | nil => simp [idxBy]
  | cons x l ih => rw [idxBy]; split <;> (try split) <;> omega
theorem idxBy_any {α : Type} (p : α → Bool) (l : List α) : decide (0 ≤ idxBy p l) = l.any p := by
  induction l with
  | nil => simp [idxBy]
  | cons x l ih =>
    rw [idxBy, List.any_cons, ← ih]
    have := idxBy_lo p l
    cases h : p x with
    | true => simp
    | false =>
      rw [if_neg (by decide), Bool.false_or]
      by_cases h2 : idxBy p l < 0
      · rw [if_pos h2, decide_eq_false (by omega), decide_eq_false (by omega)]
      · rw [if_neg h2, decide_eq_true (by omega), decide_eq_true (by omega)]
theorem idxBy_none {α : Type} (p : α → Bool) (l : List α) (h : ∀ x ∈ l, p x = false) : idxBy p l = -1 := by
  induction l with
  | nil => rfl
  | cons x l ih => rw [idxBy, h x (by simp), ih (fun y hy => h y (by simp [hy]))]; rfl
theorem idxBy_at {α : Type} (p : α → Bool) : ∀ (l : List α) (k : Nat), (∀ j, j < k → ∀ x, l[j]? = some x → p x = false) → ∀ (h : k < l.length), p l[k] = true → idxBy p l = k := by
  intro l
  induction l with
  | nil => intro k _ h; simp at h
  | cons x l ih =>
    intro k hk h hp
    cases k with
    | zero =>
      have hp' : p x = true := hp
      rw [idxBy, if_pos hp']
      rfl
    | succ k =>
      have h0 := hk 0 (by omega) x rfl
      have h1 := ih k (fun j hj y hy => hk (j + 1) (by omega) y (by simpa using hy)) (by simpa using h) (by simpa using hp)
      rw [idxBy, h0, h1, if_neg (by decide), if_neg (by omega)]
      omega
end Go.Proofs.Ytfbjabpjfalmlaa.P
namespace Go.Proofs.Ytfbjabpjfalmlaa.P
open Go.RowKit Go.Proofs.YtfbjabpjfalmlaaW.PrintWords Go.Proofs.YtfbjabpjfalmlaaW.PrintLast Go.Proofs.YtfbjabpjfalmlaaW.PrintMore
attribute [local go_sem] max2_int min2_int max_two min_two max_three min_three max_four min_four
set_option linter.unusedVariables false
set_option linter.unusedSimpArgs false
theorem idxBy_at_Pair (p : S47 → Bool) (l : List S47) (k : Nat) (hk : ∀ j, j < k → ∀ x, l[j]? = some x → p x = false) (hlt : k < l.length) (hp : p (rd_T47 l (k : Int)) = true) : idxBy p l = k := by
  have e : rd_T47 l (k : Int) = l[k] := by unfold rd_T47; simp [List.getD_eq_getElem?_getD, hlt]
  rw [e] at hp
  exact idxBy_at p l k hk hlt hp
set_option maxHeartbeats 1000000 in
set_option maxRecDepth 100000 in
theorem idx_Pair (g : FuncId) (lb : Array Value) (p : S47 → Bool) (A0 : Option Addr) (c0 : Nat) (l0 : List S47) (w : World) (hr0 : Kd.C k47 w A0 l0.length l0) (he : ∀ args W, (callFunc g args).run Try.prog W = .ok (.enter g args) W)
    (hp : ∀ (W : World) (x : S47) (A0 : Option Addr) (c0 : Nat) (A1 : Option Addr) (c1 : Nat), x ∈ l0 → Below w.heap.size w W → x.f0.length ≤ c0 → (Kd.int .u8).C W A0 x.f0.length x.f0 → x.f1.length ≤ c1 → (Kd.int .u8).C W A1 x.f1.length x.f1 → Calls Try.prog g (#[.agg #[.slice A0 x.f0.length c0, .slice A1 x.f1.length c1]] ++ lb) W fun e w' => e = .returned (.bool (p x)) ∧ Below W.heap.size W w') :
    Calls Try.prog 52 #[.slice A0 l0.length c0, .func (.func g) #[] lb] w fun e w' => e = .returned (.int .i64 (idxBy p l0)) ∧ Below w.heap.size w w' := by
  have hm : l0.length ≤ 9223372036854775807 := Kd.C_max hr0
  have HR := Aside0.mk hr0
  have hu := Try.underlying47
  clear hr0
  go_enter Try.func52, Try.ntmps52
  go_wp2
  go_loopw [8] (fun i wr => ∃ k : Nat, k ≤ l0.length ∧ i = .int .i64 k ∧ Aside0 (∀ j, j < k → ∀ x, l0[j]? = some x → p x = false) ∧ Aside0 (Below w.heap.size w wr)) (fun i _ => l0.length - (intOf i).toNat)
  case atStart => exact ⟨0, Nat.zero_le _, rfl, ⟨fun j hj => absurd hj (Nat.not_lt_zero _)⟩, ⟨Below.refl _ _⟩⟩
  case round =>
    obtain ⟨k, hk, rfl, HN, HB⟩ := hrel
    by_cases hlt : k < l0.length
    · obtain ⟨ad, A0, c0, A1, c1, e, hx0, hx1, hl0, hi0, hl1, hi1⟩ := at_T47 (Kd.C_below HR.out HB.out) k (by omega) (by omega)
      cases e
      rw [Int.toNat_natCast] at hx0 hx1
      have hat := idxBy_at_Pair p l0 k HN.out hlt
      have hmem : rd_T47 l0 (k : Int) ∈ l0 := by
        have e : rd_T47 l0 (k : Int) = l0[k] := by unfold rd_T47; simp [List.getD_eq_getElem?_getD, hlt]
        rw [e]
        exact List.getElem_mem hlt
      have hnx : p (rd_T47 l0 (k : Int)) = false → ∀ j, j < k + 1 → ∀ x, l0[j]? = some x → p x = false := by
        intro hv j hj x hx
        rcases Nat.lt_or_ge j k with h | h
        · exact HN.out j h x hx
        · obtain rfl : j = k := by omega
          have e : rd_T47 l0 (j : Int) = x := by unfold rd_T47; rw [Int.toNat_natCast, List.getD_eq_getElem?_getD, hx]; rfl
          rw [← e]
          exact hv
      have HMEM := Aside0.mk hmem
      generalize hv : rd_T47 l0 (k : Int) = v at *
      have hcall := (hp _ v A0 c0 A1 c1 hmem HB.out hl0 hi0 hl1 hi1)
      have HCALL := Aside0.mk hcall
      clear hcall hmem hv HMEM
      cases hq : p v with
      | true =>
        have HE := Aside0.mk (hat hq)
        rw [hq] at HCALL
        clear hat hnx hq
        go_wp2
        refine HCALL.out.mono ?_
        rintro e w1 ⟨rfl, hb⟩
        have HB1 := Aside0.mk (below_step HB.out hb)
        clear hb
        go_wp2
        go_ret
        exact ⟨ret_int HE.out.symm, HB1.out⟩
      | false =>
        have HE := Aside0.mk (hnx hq)
        rw [hq] at HCALL
        clear hat hnx hq
        go_wp2
        refine HCALL.out.mono ?_
        rintro e w1 ⟨rfl, hb⟩
        have HB1 := Aside0.mk (below_step HB.out hb)
        clear hb
        go_wp2
        go_roundw
        case rel => exact ⟨k + 1, by omega, by go_num, HE, HB1⟩
        case measure => simp [intOf]; omega
    · obtain rfl : k = l0.length := by omega
      have HE := Aside0.mk (idxBy_none p l0 (fun x hx => by
        obtain ⟨j, hj, e⟩ := List.getElem_of_mem hx
        exact HN.out j hj x (by rw [List.getElem?_eq_getElem hj, e])))
      go_wp2
      go_ret
      exact ⟨ret_int HE.out.symm, HB.out⟩
set_option maxHeartbeats 1000000 in
set_option maxRecDepth 100000 in
theorem has_Pair (g : FuncId) (lb : Array Value) (p : S47 → Bool) (A0 : Option Addr) (c0 : Nat) (l0 : List S47) (w : World) (hr0 : Kd.C k47 w A0 l0.length l0) (he : ∀ args W, (callFunc g args).run Try.prog W = .ok (.enter g args) W)
    (hp : ∀ (W : World) (x : S47) (A0 : Option Addr) (c0 : Nat) (A1 : Option Addr) (c1 : Nat), x ∈ l0 → Below w.heap.size w W → x.f0.length ≤ c0 → (Kd.int .u8).C W A0 x.f0.length x.f0 → x.f1.length ≤ c1 → (Kd.int .u8).C W A1 x.f1.length x.f1 → Calls Try.prog g (#[.agg #[.slice A0 x.f0.length c0, .slice A1 x.f1.length c1]] ++ lb) W fun e w' => e = .returned (.bool (p x)) ∧ Below W.heap.size W w') :
    Calls Try.prog 50 #[.slice A0 l0.length c0, .func (.func g) #[] lb] w fun e w' => e = .returned (.bool (l0.any p)) ∧ Below w.heap.size w w' := by
  have HI := Aside0.mk (idx_Pair g lb p A0 c0 l0 w hr0 he hp)
  have HE := Aside0.mk (idxBy_any p l0)
  clear hr0 he hp
  go_enter Try.func50, Try.ntmps50
  go_wp2_with (go_at_call 52; refine HI.out.mono ?_; rintro e w1 ⟨rfl, hb⟩; have HB1 := Aside0.mk hb; clear hb)
  go_ret
  exact ⟨by rw [← HE.out]; rfl, HB1.out⟩
end Go.Proofs.Ytfbjabpjfalmlaa.P
namespace Go.Proofs.Ytfbjabpjfalmlaa.P
open Go.RowKit Go.Proofs.YtfbjabpjfalmlaaW.PrintWords Go.Proofs.YtfbjabpjfalmlaaW.PrintLast Go.Proofs.YtfbjabpjfalmlaaW.PrintMore
attribute [local go_sem] max2_int min2_int max_two min_two max_three min_three max_four min_four
set_option linter.unusedVariables false
set_option linter.unusedSimpArgs false
end Go.Proofs.Ytfbjabpjfalmlaa.P
namespace Go.Proofs.Ytfbjabpjfalmlaa.P
open Go.RowKit Go.Proofs.YtfbjabpjfalmlaaW.PrintWords Go.Proofs.YtfbjabpjfalmlaaW.PrintLast Go.Proofs.YtfbjabpjfalmlaaW.PrintMore
attribute [local go_sem] max2_int min2_int max_two min_two max_three min_three max_four min_four
set_option linter.unusedVariables false
set_option linter.unusedSimpArgs false
class Ups (w W : World) : Prop where
  up : ∀ (g : Nat) (o : Obj), w.heap[g]? = some o → W.heap[g]? = some o
instance Ups.same (w : World) : Ups w w := ⟨fun _ _ h => h⟩
instance Ups.alloc (w W : World) (o : Obj) [h : Ups w W] : Ups w (W.alloc o) := ⟨fun g x hx => blk_alloc (h.up g x hx) o⟩
instance Ups.drewN (w W : World) (n : Nat) [h : Ups w W] : Ups w (W.drewN n) := ⟨fun g x hx => h.up g x hx⟩
instance Ups.drew (w W : World) [h : Ups w W] : Ups w W.drew := ⟨fun g x hx => h.up g x hx⟩
theorem Ups.at {w W : World} (h : Ups w W) (k : Nat) (hk : k < w.heap.size) : W.heap[k]? = w.heap[k]? := by
  rw [Array.getElem?_eq_getElem hk]
  exact h.up k _ (Array.getElem?_eq_getElem hk)
theorem bU {w W : World} [h : Ups w W] {g : Nat} {o : Obj} (x : w.heap[g]? = some o) : W.heap[g]? = some o := h.up g o x
theorem vU {α : Type} {d : Kd α} {e base : Nat} {w W : World} {ok : Nat → Prop} {v : Value} {xs : List α} [h : Ups w W] (x : Kd.V d e w base ok v xs) : Kd.V d e W base ok v xs := Kd.V_step x (fun k _ hk => h.at k hk)
theorem nU {α : Type} {d : Kd α} {e base : Nat} {w W : World} {ok : Nat → Prop} {v : Value} {xs : List α} [h : Ups w W] (x : Kd.N d e w base ok v xs) : Kd.N d e W base ok v xs := Kd.N_step x (fun k _ hk => h.at k hk)
theorem rU {α : Type} {d : Kd α} {e base : Nat} {w W : World} {ok : Nat → Prop} {v : Value} {xs : List α} [h : Ups w W] (x : Kd.R d e w base ok v xs) : Kd.R d e W base ok v xs := Kd.R_step x (fun k _ hk => h.at k hk)
theorem bA {w W : World} (h : Below w.heap.size w W) (o : Obj) : Below w.heap.size w (W.alloc o) := below_alloc h o
theorem bN {B : Nat} {w W : World} (h : Below B w W) (n : Nat) : Below B w (W.drewN n) := pw_below_drewN h n
theorem bD {base : Nat} {w W : World} (h : Below base w W) : Below base w W.drew := below_drew1 h
theorem bS {w W : World} {g j : Nat} {v : Value} (h : Below w.heap.size w W) (hg : w.heap.size ≤ g) : Below w.heap.size w (W.setCell ⟨g, j, none⟩ v) := below_set h hg
theorem aM {p : Prop} (h : p) : Aside0 p := ⟨h⟩
theorem vB {α : Type} {d : Kd α} {e base : Nat} {W w1 : World} {ok : Nat → Prop} {v : Value} {xs : List α} (h : Kd.V d e W base ok v xs) (hb : Below W.heap.size W w1) : Kd.V d e w1 base ok v xs := Kd.V_below h hb
theorem kB {w w1 : World} {g : Nat} {o : Obj} (h : w.heap[g]? = some o) (hb : Below w.heap.size w w1) : w1.heap[g]? = some o := blk_below h hb
theorem vE {α : Type} {d : Kd α} {e base : Nat} {W : World} {ok : Nat → Prop} {v : Value} {xs : List α} (h : Kd.V d e W base ok v xs) (a : Nat) (ha : W.heap.size ≤ a) : Kd.V d e W base (fun k => ok k ∧ k ≠ a) v xs := Kd.V_elderB h a ha
theorem kF {w : World} {g : Nat} {t : TypeId} {cs : Array Value} (h : w.heap[g]? = some (.cells cs t (0, 0))) (i : Nat) : w.frozen? ⟨g, i, none⟩ = false := blk_frozen h i
theorem kC {w : World} {g : Nat} {t : TypeId} {cs : Array Value} (h : w.heap[g]? = some (.cells cs t (0, 0))) (i : Nat) : w.cell? ⟨g, i, none⟩ = cs[i]? := blk_cell h i
class UpB (w W : World) : Prop where
  up : Below w.heap.size w W
instance UpB.same (w : World) : UpB w w := ⟨Below.refl _ _⟩
instance UpB.alloc (w W : World) (o : Obj) [h : UpB w W] : UpB w (W.alloc o) := ⟨below_alloc h.up o⟩
instance UpB.drewN (w W : World) (n : Nat) [h : UpB w W] : UpB w (W.drewN n) := ⟨pw_below_drewN h.up n⟩
instance UpB.drew (w W : World) [h : UpB w W] : UpB w W.drew := ⟨below_drew1 h.up⟩
end Go.Proofs.Ytfbjabpjfalmlaa.P
namespace Go.Proofs.Ytfbjabpjfalmlaa.P
open Go.RowKit Go.Proofs.YtfbjabpjfalmlaaW.PrintWords Go.Proofs.YtfbjabpjfalmlaaW.PrintLast Go.Proofs.YtfbjabpjfalmlaaW.PrintMore
attribute [local go_sem] max2_int min2_int max_two min_two max_three min_three max_four min_four
set_option linter.unusedVariables false
set_option linter.unusedSimpArgs false
structure Past (w : World) where
  W : World
  h : Below w.heap.size w W
instance (w : World) : Inhabited (Past w) := ⟨⟨w, Below.refl _ _⟩⟩
end Go.Proofs.Ytfbjabpjfalmlaa.P
namespace Go.Proofs.Ytfbjabpjfalmlaa.P
open Go.RowKit Go.Proofs.YtfbjabpjfalmlaaW.PrintWords Go.Proofs.YtfbjabpjfalmlaaW.PrintLast Go.Proofs.YtfbjabpjfalmlaaW.PrintMore
attribute [local go_sem] max2_int min2_int max_two min_two max_three min_three max_four min_four
set_option linter.unusedVariables false
set_option linter.unusedSimpArgs false
def bytes_Clone.f (l0 : List Int) : Option (List Int) := if l0.length < 140737488355328 then some l0 else none
set_option maxHeartbeats 1000000 in
set_option maxRecDepth 100000 in
theorem bytes_Clone.calls (A0 : Option Addr) (c0 : Nat) (l0 : List Int) (r : List Int) (w : World) (hr0 : Kd.C (Kd.int .u8) w A0 l0.length l0) (hc0 : l0.length ≤ c0) (h : bytes_Clone.f l0 = some r) :
    Calls Try.prog 35 #[.slice A0 l0.length c0] w fun e w' => ∃ v0_ : Value, e = .returned (v0_) ∧ Kd.R (Kd.int .u8) 5 w' w.heap.size (fun _ => True) v0_ r ∧ Below w.heap.size w w' := by
  unfold bytes_Clone.f at h
  have hlt : l0.length < 140737488355328 := Classical.byContradiction fun hn => by rw [if_neg hn] at h; cases h
  rw [if_pos hlt] at h
  obtain rfl := Option.some.inj h
  clear h
  cases A0 with
  | none =>
    have hl : l0.length = 0 := Classical.byContradiction fun hn => by
      obtain ⟨ad, he, _⟩ := hr0.2.2 (by omega)
      cases he
    obtain rfl : l0 = [] := List.length_eq_zero_iff.mp hl
    have ke : ∀ w, (binOp .eql 22 (.slice none 0 c0) (.slice none 0 0)).run Try.prog w = .ok (.bool true) w := fun w => Lib.run_eql_slice_nil w _ _ none 0 c0 0 0 Try.underlying22
    clear hr0 hl
    go_enter Try.func35, Try.ntmps35
    go_wp2
    go_ret
    exact ⟨_, rfl, Kd.R_nil _ _ _ _ _, Below.refl _ _⟩
  | some a =>
    have ke : ∀ w, (binOp .eql 22 (.slice (some a) l0.length c0) (.slice none 0 0)).run Try.prog w = .ok (.bool false) w := fun w => Lib.run_eql_slice_nil w _ _ (some a) l0.length c0 0 0 Try.underlying22
    have HR := Aside0.mk hr0
    clear hr0
    go_enter Try.func35, Try.ntmps35
    go_wp2_with (first | ((with_reducible refine gate_dst (N := 5) rfl ?_); refine Kd.R_lit (Kd.int .u8) w.heap.size 5 ?hg (N := 5) ?hd (xs := ([] : List Int)) (inner := []) (ok := fun _ => True) (okp := fun _ => True) ?hr ?hp (fun _ hk => hk) trivial (Below.refl _ _) (Nat.le_refl _) (by simp) ?_; (case hd => rfl); (case hg => rfl); (case hr => first | (go_simp; done) | (go_simp; rfl)); (case hp => exact (Reps.none _ _)); intro v5 w5 ho5 hb5 hg5 hn5; have HO5 := Aside0.mk ho5; have HB5 := Aside0.mk hb5; clear ho5 hb5 hg5 hn5) | ((with_reducible refine gate_builtin (b := .append) (xs := #[.tmp 5, .tmp 6]) rfl ?_); at_builtin; refine Kd.R_append_rows (Kd.int .u8) (w0 := w) w.heap.size rfl (.tmp 5) (.tmp 6) 22 5 (.int .u8 0) 1 rfl Try.underlying22 info5 rfl (by decide) (by omega) _ [] l0 _ _ _ (fun _ => True) (fun _ => False) rfl rfl HO5.out (Kd.C_below HR.out HB5.out) (fun _ _ h => h) (fun _ h => h.elim) (fun _ _ => trivial) HB5.out (below_size HB5.out) (by simp; omega) ?_; intro v7 w7 ho7 hb7 hg7 ha7; have HO7 := Aside0.mk ho7; have HB7 := Aside0.mk hb7; clear ho7 hb7 hg7 ha7))
    go_ret
    exact ⟨_, rfl, HO7.out, HB7.out⟩
end Go.Proofs.Ytfbjabpjfalmlaa.P
namespace Go.Proofs.Ytfbjabpjfalmlaa.P
open Go.RowKit Go.Proofs.YtfbjabpjfalmlaaW.PrintWords Go.Proofs.YtfbjabpjfalmlaaW.PrintLast Go.Proofs.YtfbjabpjfalmlaaW.PrintMore
attribute [local go_sem] max2_int min2_int max_two min_two max_three min_three max_four min_four
set_option linter.unusedVariables false
set_option linter.unusedSimpArgs false
def takeR : List Int → Nat → Int → Option (Int × List Int)
  | [], _, _ => none
  | x :: t, k, n =>
    if k ≥ 5 then none else
    if x ≥ 128 then takeR t (k + 1) (n + x % 128 * 128 ^ k) else
    if n + x * 128 ^ k > 2147483647 ∨ (x = 0 ∧ k ≥ 1) then none else some (n + x * 128 ^ k, t)
def takeRes : Option (Int × List Int) → Int × List Int × Int
  | none => (0, [], 10)
  | some (n, t) => (n, t, 0)
theorem take_and {x : Int} (h0 : 0 ≤ x) (h1 : x ≤ 255) : bits .and .u8 x 128 = if 128 ≤ x then 128 else 0 := by
  have H : ∀ a : Fin 256, bits .and .u8 ((a.val : Nat) : Int) 128 = if 128 ≤ ((a.val : Nat) : Int) then 128 else 0 := by decide +kernel
  have := H ⟨x.toNat, by omega⟩
  simpa [Int.toNat_of_nonneg h0] using this
theorem take_andNot {x : Int} (h0 : 0 ≤ x) (h1 : x ≤ 255) : bits .andNot .u8 x 128 = x % 128 := by
  have H : ∀ a : Fin 256, bits .andNot .u8 ((a.val : Nat) : Int) 128 = ((a.val : Nat) : Int) % 128 := by decide +kernel
  have := H ⟨x.toNat, by omega⟩
  simpa [Int.toNat_of_nonneg h0] using this
theorem wraps_i64' (n : Int) (h₀ : 0 ≤ n) (h₁ : n < 2 ^ 62) : IntKind.i64.wrap n = n := by simp [IntKind.wrap, IntKind.bits, IntKind.signed]; omega
theorem take_or {x n : Int} {k : Nat} (h0 : 0 ≤ x) (h1 : x ≤ 255) (hk : k ≤ 4) (n0 : 0 ≤ n) (n1 : n < 128 ^ k) : bits .or .i64 n (wrap64 (wrap64 (bits .andNot .u8 x 128) * 2 ^ (7 * k))) = n + x % 128 * 128 ^ k := by
  rw [take_andNot h0 h1]
  have e1 : wrap64 (x % 128) = x % 128 := by unfold wrap64; omega
  rw [e1]
  obtain rfl | rfl | rfl | rfl | rfl : k = 0 ∨ k = 1 ∨ k = 2 ∨ k = 3 ∨ k = 4 := by omega
  all_goals
    simp only [Nat.mul_zero, Nat.reduceMul, Nat.mul_one, Int.reducePow, Int.pow_zero, Int.mul_one] at *
    first
    | rw [show wrap64 (x % 128) = x % 128 from e1, bits_join_low .i64 62 (by decide) wraps_i64' 0 n (x % 128) n0 (by simpa using n1) (by omega) (by omega) (by omega) (by omega)]
    | rw [show wrap64 (x % 128 * 128) = x % 128 * 128 by (unfold wrap64; omega), bits_join_low .i64 62 (by decide) wraps_i64' 7 n (x % 128 * 128) n0 (by omega) (by omega) (by omega) (by omega) (by omega)]
    | rw [show wrap64 (x % 128 * 16384) = x % 128 * 16384 by (unfold wrap64; omega), bits_join_low .i64 62 (by decide) wraps_i64' 14 n (x % 128 * 16384) n0 (by omega) (by omega) (by omega) (by omega) (by omega)]
    | rw [show wrap64 (x % 128 * 2097152) = x % 128 * 2097152 by (unfold wrap64; omega), bits_join_low .i64 62 (by decide) wraps_i64' 21 n (x % 128 * 2097152) n0 (by omega) (by omega) (by omega) (by omega) (by omega)]
    | rw [show wrap64 (x % 128 * 268435456) = x % 128 * 268435456 by (unfold wrap64; omega), bits_join_low .i64 62 (by decide) wraps_i64' 28 n (x % 128 * 268435456) n0 (by omega) (by omega) (by omega) (by omega) (by omega)]
def OctJ (A0 : Option Addr) (c0 : Nat) (l0 : List Int) (w : World) (a' : Act) (w' : World) : Prop := w' = w ∧ ∃ (k : Nat) (n : Int) (u1 u7 u8 u9 u10 u11 u12 u13 u14 u15 u16 u17 u18 u19 u20 u21 u22 u23 u24 u25 u26 u27 u28 u29 u30 u31 u32 u33 u34 u35 u36 u37 u38 u39 u40 u41 u42 u43 u44 u45 u46 u47 u48 : Value),
  a' = { tmps := #[.slice A0 l0.length c0, u1, .int .i64 0, .slice none 0 0, .int .i64 0, .int .i64 n, .int .i64 k, u7, u8, u9, u10, u11, u12, u13, u14, u15, u16, u17, u18, u19, u20, u21, u22, u23, u24, u25, u26, u27, u28, u29, u30, u31, u32, u33, u34, u35, u36, u37, u38, u39, u40, u41, u42, u43, u44, u45, u46, u47, u48], defers := [] } ∧ k ≤ l0.length ∧ 0 ≤ n ∧ n < 128 ^ k ∧ k ≤ 5 ∧ takeR l0 0 0 = takeR (l0.drop k) k n
def OctM (a' : Act) : Nat := 100 - (match a'.tmps.getD 6 undef with | .int _ q => q.toNat | _ => 0)
def octet_Take.f (l0 : List Int) : Option (Int × List Int × Int) := if okb l0 = true then (if l0.length < 140737488355328 then some (takeRes (takeR l0 0 0)) else none) else none
set_option maxHeartbeats 2000000 in
set_option maxRecDepth 1000000 in
theorem octet_Take.calls (A0 : Option Addr) (c0 : Nat) (l0 : List Int) (r1 : Int) (r2 : List Int) (r3 : Int) (w : World) (hr0 : Kd.C (Kd.int .u8) w A0 l0.length l0) (hc0 : l0.length ≤ c0) (h : octet_Take.f l0 = some (r1, r2, r3)) :
    Calls Try.prog 43 #[.slice A0 l0.length c0] w fun e w' => ∃ v1_ : Value, e = .returned (.tuple #[.int .i64 r1, v1_, .int .i64 r3]) ∧ Kd.R (Kd.int .u8) 5 w' w.heap.size (fun _ => True) v1_ r2 ∧ Below w.heap.size w w' := by
  unfold octet_Take.f at h
  have hok : okb l0 = true := Classical.byContradiction fun hn => by rw [if_neg hn] at h; cases h
  rw [if_pos hok] at h
  have hlt : l0.length < 140737488355328 := Classical.byContradiction fun hn => by rw [if_neg hn] at h; cases h
  rw [if_pos hlt] at h
  have hres := Aside0.mk (Option.some.inj h)
  have HOK := Aside0.mk hok
  have HR := Aside0.mk hr0
  have HL := Aside0.mk hlt
  clear h hok hr0 hlt
  go_enter Try.func43, Try.ntmps43
  go_wp2
  refine wp_scope_jumps 0 (OctJ A0 c0 l0 w) (fun a' _ => OctM a') rfl ?first ?pass
  case first =>
    go_wp2
    go_step3
    refine (show ∀ (k : Nat) (n : Int), k ≤ l0.length → 0 ≤ n → n < 128 ^ k → k ≤ 5 → Aside0 (takeR l0 0 0 = takeR (l0.drop k) k n) → Exit.then _ _ Exit.normal { tmps := #[.slice A0 l0.length c0, undef, .int .i64 0, .slice none 0 0, .int .i64 0, .int .i64 n, .int .i64 k, undef, undef, undef, undef, undef, undef, undef, undef, undef, undef, undef, undef, undef, undef, undef, undef, undef, undef, undef, undef, undef, undef, undef, undef, undef, undef, undef, undef, undef, undef, undef, undef, undef, undef, undef, undef, undef, undef, undef, undef, undef, undef], defers := [] } _ from ?_) 0 0 (by omega) (by omega) (by decide) (by omega) ⟨rfl⟩
    intro k n hk hn0 hn1 hk5 HT
    by_cases hkl : k = l0.length
    · have hkz : (k : Int) = (l0.length : Int) := by omega
      have hnone : takeR (l0.drop k) k n = none := by rw [List.drop_of_length_le (by omega)]; rfl
      obtain ⟨rfl, rfl, rfl⟩ : 0 = r1 ∧ [] = r2 ∧ 10 = r3 := by have := hres.out; rw [HT.out, hnone] at this; simpa [takeRes] using this
      go_wp2
      simp only [Exit.jump]
      refine bodyPost_ret (results_tmp3 rfl _ _ _) rfl ?_
      exact ⟨_, rfl, Kd.R_nil _ _ _ _ _, Below.refl _ _⟩
    · have hlt : k < l0.length := by omega
      obtain ⟨hb0, hb1⟩ := okb_rd HOK.out k hlt
      obtain ⟨ad, e, hc⟩ := Kd.at_int HR.out k (by omega) (by omega)
      have hne : ¬ (k : Int) = (l0.length : Int) := by omega
      simp only [Int.toNat_natCast] at hc
      have hdr : l0.drop k = rd l0 (k : Int) :: l0.drop (k + 1) := by
        rw [List.drop_eq_getElem_cons hlt]; congr 1; unfold rd; simp [List.getD_eq_getElem?_getD, hlt]
      have hHT := HT.out
      rw [hdr] at hHT
      obtain ⟨x, hx⟩ : ∃ x, x = rd l0 (k : Int) := ⟨_, rfl⟩
      rw [← hx] at hc hb0 hb1 hHT
      clear hx hdr HT
      have HT := Aside0.mk hHT
      clear hHT
      have hki : (k : Int) < (l0.length : Int) := by omega
      subst e
      by_cases hk4 : k = 5
      · have h7 : 7 * (k : Int) > 31 := by omega
        have hnone : takeR (x :: l0.drop (k + 1)) k n = none := by rw [takeR, if_pos (by omega)]
        obtain ⟨rfl, rfl, rfl⟩ : 0 = r1 ∧ [] = r2 ∧ 10 = r3 := by have := hres.out; rw [HT.out, hnone] at this; simpa [takeRes] using this
        go_wp2
        simp only [Exit.jump]
        refine bodyPost_ret (results_tmp3 rfl _ _ _) rfl ?_
        exact ⟨_, rfl, Kd.R_nil _ _ _ _ _, Below.refl _ _⟩
      · have h7 : ¬ (7 * (k : Int) > 31) := by omega
        obtain ⟨n', hn'⟩ : ∃ n', n' = n + x % 128 * 128 ^ k := ⟨_, rfl⟩
        have hO := take_or hb0 hb1 (show k ≤ 4 by omega) hn0 hn1
        rw [← hn'] at hO
        have hA := take_and hb0 hb1
        have hp : (0 : Int) < 128 ^ k := Int.pow_pos (by decide)
        have hn'0 : 0 ≤ n' := by have : 0 ≤ x % 128 * 128 ^ k := Int.mul_nonneg (by omega) (by omega); omega
        have hn'1 : n' < 128 ^ (k + 1) := by
          have e1 : (128 : Int) ^ (k + 1) = 128 ^ k * 128 := Int.pow_succ _ _
          have e2 : x % 128 * 128 ^ k ≤ 127 * 128 ^ k := Int.mul_le_mul_of_nonneg_right (by omega) (by omega)
          omega
        by_cases h128 : 128 ≤ x
        · rw [if_pos h128] at hA
          have hT' : takeR l0 0 0 = takeR (l0.drop (k + 1)) (k + 1) n' := by rw [HT.out, takeR, if_neg (by omega), if_pos h128, hn']
          have hT'' := Aside0.mk hT'
          have hN := Aside0.mk (And.intro hn' (And.intro hn'0 hn'1))
          clear hT' hn' hn'0 hn'1
          go_wp2
          obtain ⟨hn', hn'0, hn'1⟩ := hN.out
          have hT' := hT''.out
          go_step3
          exact ⟨rfl, rfl, k + 1, n', _, _, _, _, _, _, _, _, _, _, _, _, _, _, _, _, _, _, _, _, _, _, _, _, _, _, _, _, _, _, _, _, _, _, _, _, _, _, _, _, _, _, _, rfl, by omega, hn'0, hn'1, by omega, hT'⟩
        · rw [if_neg h128] at hA
          have hxm : x % 128 = x := by omega
          rw [hxm] at hn'
          have HN := Aside0.mk (And.intro hn' (And.intro hn'0 hn'1))
          clear hn' hn'0 hn'1 hxm
          by_cases hm : n' > 2147483647
          · have hnone : takeR (x :: l0.drop (k + 1)) k n = none := by rw [takeR, if_neg (by omega), if_neg (by omega), if_pos (.inl (by have := HN.out.1; omega))]
            obtain ⟨rfl, rfl, rfl⟩ : 0 = r1 ∧ [] = r2 ∧ 10 = r3 := by have := hres.out; rw [HT.out, hnone] at this; simpa [takeRes] using this
            go_wp2
            simp only [Exit.jump]
            refine bodyPost_ret (results_tmp3 rfl _ _ _) rfl ?_
            exact ⟨_, rfl, Kd.R_nil _ _ _ _ _, Below.refl _ _⟩
          · by_cases hz : x = 0
            · by_cases hk1 : k ≥ 1
              · have hnone : takeR (x :: l0.drop (k + 1)) k n = none := by rw [takeR, if_neg (by omega), if_neg (by omega), if_pos (.inr ⟨hz, hk1⟩)]
                subst hz
                have hk2 : (k : Int) + 1 > 1 := by omega
                have hk3 : (0 : Int) < (k : Int) := by omega
                obtain ⟨rfl, rfl, rfl⟩ : 0 = r1 ∧ [] = r2 ∧ 10 = r3 := by have := hres.out; rw [HT.out, hnone] at this; simpa [takeRes] using this
                go_wp2
                simp only [Exit.jump]
                refine bodyPost_ret (results_tmp3 rfl _ _ _) rfl ?_
                exact ⟨_, rfl, Kd.R_nil _ _ _ _ _, Below.refl _ _⟩
              · have hok_ : ¬ (n + x * 128 ^ k > 2147483647 ∨ (x = 0 ∧ k ≥ 1)) := by have := HN.out.1; omega
                subst hz
                have hk2 : ¬ ((k : Int) + 1 > 1) := by omega
                have hk3 : ¬ ((0 : Int) < (k : Int)) := by omega
                obtain ⟨y, hy⟩ : ∃ y, y = l0.drop (k + 1) := ⟨_, rfl⟩
                have hsome : takeR (0 :: l0.drop (k + 1)) k n = some (n', y) := by rw [takeR, if_neg (by omega), if_neg (by omega), if_neg hok_, ← HN.out.1, hy]
                obtain ⟨rfl, rfl, rfl⟩ : n' = r1 ∧ y = r2 ∧ 0 = r3 := by have := hres.out; rw [HT.out, hsome] at this; simpa [takeRes] using this
                have hyl : y.length = l0.length - (k + 1) := by rw [hy, List.length_drop]
                have hr := Kd.C_drop (m := k + 1) (c := c0) HR.out (by omega) hc0
                rw [← hy] at hr
                obtain ⟨i0, hi0, _, hsz, _⟩ := info_parts info5
                have hcut := cut_from (P := Try.prog) 22 5 .i64 Try.underlying22 hi0 1 hsz (some ad) l0.length c0 ((k : Int) + 1) (by omega) (by omega)
                have ek : ((k : Int) + 1).toNat = k + 1 := by omega
                obtain ⟨A1, hA1⟩ : ∃ A1, A1 = (if c0 = k + 1 then (some ad) else ((some ad) : Option Addr).map (·.add ((k + 1) * 1))) := ⟨_, rfl⟩
                obtain ⟨c1, hc1⟩ : ∃ c1, c1 = c0 - (k + 1) := ⟨_, rfl⟩
                rw [ek, ← hA1, ← hc1, ← hyl] at hcut
                have hcy : y.length ≤ c1 := by omega
                have HCY := Aside0.mk hcy
                have HRY := Aside0.mk (show Kd.C (Kd.int .u8) _ A1 y.length y by rw [hA1]; exact hr)
                have HCL := Aside0.mk (show bytes_Clone.f y = some y by unfold bytes_Clone.f; rw [if_pos (by have := HL.out; omega)])
                clear hr hA1 hc1 hy hyl hsome hcy hi0 hsz hok_
                go_wp2_with (go_at_call 35; refine (bytes_Clone.calls A1 c1 y y _ HRY.out HCY.out HCL.out).mono ?_; rintro e w1 ⟨v1, rfl, ho1, hb1⟩)
                simp only [Exit.jump]
                refine bodyPost_ret (results_tmp3 rfl _ _ _) rfl ?_
                exact ⟨_, rfl, ho1, hb1⟩
            · have hok_ : ¬ (n + x * 128 ^ k > 2147483647 ∨ (x = 0 ∧ k ≥ 1)) := by have := HN.out.1; omega
              obtain ⟨y, hy⟩ : ∃ y, y = l0.drop (k + 1) := ⟨_, rfl⟩
              have hsome : takeR (x :: l0.drop (k + 1)) k n = some (n', y) := by rw [takeR, if_neg (by omega), if_neg (by omega), if_neg hok_, ← HN.out.1, hy]
              obtain ⟨rfl, rfl, rfl⟩ : n' = r1 ∧ y = r2 ∧ 0 = r3 := by have := hres.out; rw [HT.out, hsome] at this; simpa [takeRes] using this
              have hyl : y.length = l0.length - (k + 1) := by rw [hy, List.length_drop]
              have hr := Kd.C_drop (m := k + 1) (c := c0) HR.out (by omega) hc0
              rw [← hy] at hr
              obtain ⟨i0, hi0, _, hsz, _⟩ := info_parts info5
              have hcut := cut_from (P := Try.prog) 22 5 .i64 Try.underlying22 hi0 1 hsz (some ad) l0.length c0 ((k : Int) + 1) (by omega) (by omega)
              have ek : ((k : Int) + 1).toNat = k + 1 := by omega
              obtain ⟨A1, hA1⟩ : ∃ A1, A1 = (if c0 = k + 1 then (some ad) else ((some ad) : Option Addr).map (·.add ((k + 1) * 1))) := ⟨_, rfl⟩
              obtain ⟨c1, hc1⟩ : ∃ c1, c1 = c0 - (k + 1) := ⟨_, rfl⟩
              rw [ek, ← hA1, ← hc1, ← hyl] at hcut
              have hcy : y.length ≤ c1 := by omega
              have HCY := Aside0.mk hcy
              have HRY := Aside0.mk (show Kd.C (Kd.int .u8) _ A1 y.length y by rw [hA1]; exact hr)
              have HCL := Aside0.mk (show bytes_Clone.f y = some y by unfold bytes_Clone.f; rw [if_pos (by have := HL.out; omega)])
              clear hr hA1 hc1 hy hyl hsome hcy hi0 hsz hok_
              go_wp2_with (go_at_call 35; refine (bytes_Clone.calls A1 c1 y y _ HRY.out HCY.out HCL.out).mono ?_; rintro e w1 ⟨v1, rfl, ho1, hb1⟩)
              simp only [Exit.jump]
              refine bodyPost_ret (results_tmp3 rfl _ _ _) rfl ?_
              exact ⟨_, rfl, ho1, hb1⟩
  case pass =>
    intro a' w' hJ
    obtain ⟨rfl, k, n, u1, u7, u8, u9, u10, u11, u12, u13, u14, u15, u16, u17, u18, u19, u20, u21, u22, u23, u24, u25, u26, u27, u28, u29, u30, u31, u32, u33, u34, u35, u36, u37, u38, u39, u40, u41, u42, u43, u44, u45, u46, u47, u48, rfl, hk, hn0, hn1, hk5, ht⟩ := hJ
    have HT := Aside0.mk ht
    clear ht
    by_cases hkl : k = l0.length
    · have hkz : (k : Int) = (l0.length : Int) := by omega
      have hnone : takeR (l0.drop k) k n = none := by rw [List.drop_of_length_le (by omega)]; rfl
      obtain ⟨rfl, rfl, rfl⟩ : 0 = r1 ∧ [] = r2 ∧ 10 = r3 := by have := hres.out; rw [HT.out, hnone] at this; simpa [takeRes] using this
      go_wp2
      simp only [Exit.jump]
      refine bodyPost_ret (results_tmp3 rfl _ _ _) rfl ?_
      exact ⟨_, rfl, Kd.R_nil _ _ _ _ _, Below.refl _ _⟩
    · have hlt : k < l0.length := by omega
      obtain ⟨hb0, hb1⟩ := okb_rd HOK.out k hlt
      obtain ⟨ad, e, hc⟩ := Kd.at_int HR.out k (by omega) (by omega)
      have hne : ¬ (k : Int) = (l0.length : Int) := by omega
      simp only [Int.toNat_natCast] at hc
      have hdr : l0.drop k = rd l0 (k : Int) :: l0.drop (k + 1) := by
        rw [List.drop_eq_getElem_cons hlt]; congr 1; unfold rd; simp [List.getD_eq_getElem?_getD, hlt]
      have hHT := HT.out
      rw [hdr] at hHT
      obtain ⟨x, hx⟩ : ∃ x, x = rd l0 (k : Int) := ⟨_, rfl⟩
      rw [← hx] at hc hb0 hb1 hHT
      clear hx hdr HT
      have HT := Aside0.mk hHT
      clear hHT
      have hki : (k : Int) < (l0.length : Int) := by omega
      subst e
      by_cases hk4 : k = 5
      · have h7 : 7 * (k : Int) > 31 := by omega
        have hnone : takeR (x :: l0.drop (k + 1)) k n = none := by rw [takeR, if_pos (by omega)]
        obtain ⟨rfl, rfl, rfl⟩ : 0 = r1 ∧ [] = r2 ∧ 10 = r3 := by have := hres.out; rw [HT.out, hnone] at this; simpa [takeRes] using this
        go_wp2
        simp only [Exit.jump]
        refine bodyPost_ret (results_tmp3 rfl _ _ _) rfl ?_
        exact ⟨_, rfl, Kd.R_nil _ _ _ _ _, Below.refl _ _⟩
      · have h7 : ¬ (7 * (k : Int) > 31) := by omega
        obtain ⟨n', hn'⟩ : ∃ n', n' = n + x % 128 * 128 ^ k := ⟨_, rfl⟩
        have hO := take_or hb0 hb1 (show k ≤ 4 by omega) hn0 hn1
        rw [← hn'] at hO
        have hA := take_and hb0 hb1
        have hp : (0 : Int) < 128 ^ k := Int.pow_pos (by decide)
        have hn'0 : 0 ≤ n' := by have : 0 ≤ x % 128 * 128 ^ k := Int.mul_nonneg (by omega) (by omega); omega
        have hn'1 : n' < 128 ^ (k + 1) := by
          have e1 : (128 : Int) ^ (k + 1) = 128 ^ k * 128 := Int.pow_succ _ _
          have e2 : x % 128 * 128 ^ k ≤ 127 * 128 ^ k := Int.mul_le_mul_of_nonneg_right (by omega) (by omega)
          omega
        by_cases h128 : 128 ≤ x
        · rw [if_pos h128] at hA
          have hT' : takeR l0 0 0 = takeR (l0.drop (k + 1)) (k + 1) n' := by rw [HT.out, takeR, if_neg (by omega), if_pos h128, hn']
          have hT'' := Aside0.mk hT'
          have hN := Aside0.mk (And.intro hn' (And.intro hn'0 hn'1))
          clear hT' hn' hn'0 hn'1
          go_wp2
          obtain ⟨hn', hn'0, hn'1⟩ := hN.out
          have hT' := hT''.out
          go_step3
          exact ⟨rfl, ⟨rfl, k + 1, n', _, _, _, _, _, _, _, _, _, _, _, _, _, _, _, _, _, _, _, _, _, _, _, _, _, _, _, _, _, _, _, _, _, _, _, _, _, _, _, _, _, _, _, rfl, by omega, hn'0, hn'1, by omega, hT'⟩, by simp [OctM]; omega⟩
        · rw [if_neg h128] at hA
          have hxm : x % 128 = x := by omega
          rw [hxm] at hn'
          have HN := Aside0.mk (And.intro hn' (And.intro hn'0 hn'1))
          clear hn' hn'0 hn'1 hxm
          by_cases hm : n' > 2147483647
          · have hnone : takeR (x :: l0.drop (k + 1)) k n = none := by rw [takeR, if_neg (by omega), if_neg (by omega), if_pos (.inl (by have := HN.out.1; omega))]
            obtain ⟨rfl, rfl, rfl⟩ : 0 = r1 ∧ [] = r2 ∧ 10 = r3 := by have := hres.out; rw [HT.out, hnone] at this; simpa [takeRes] using this
            go_wp2
            simp only [Exit.jump]
            refine bodyPost_ret (results_tmp3 rfl _ _ _) rfl ?_
            exact ⟨_, rfl, Kd.R_nil _ _ _ _ _, Below.refl _ _⟩
          · by_cases hz : x = 0
            · by_cases hk1 : k ≥ 1
              · have hnone : takeR (x :: l0.drop (k + 1)) k n = none := by rw [takeR, if_neg (by omega), if_neg (by omega), if_pos (.inr ⟨hz, hk1⟩)]
                subst hz
                have hk2 : (k : Int) + 1 > 1 := by omega
                have hk3 : (0 : Int) < (k : Int) := by omega
                obtain ⟨rfl, rfl, rfl⟩ : 0 = r1 ∧ [] = r2 ∧ 10 = r3 := by have := hres.out; rw [HT.out, hnone] at this; simpa [takeRes] using this
                go_wp2
                simp only [Exit.jump]
                refine bodyPost_ret (results_tmp3 rfl _ _ _) rfl ?_
                exact ⟨_, rfl, Kd.R_nil _ _ _ _ _, Below.refl _ _⟩
              · have hok_ : ¬ (n + x * 128 ^ k > 2147483647 ∨ (x = 0 ∧ k ≥ 1)) := by have := HN.out.1; omega
                subst hz
                have hk2 : ¬ ((k : Int) + 1 > 1) := by omega
                have hk3 : ¬ ((0 : Int) < (k : Int)) := by omega
                obtain ⟨y, hy⟩ : ∃ y, y = l0.drop (k + 1) := ⟨_, rfl⟩
                have hsome : takeR (0 :: l0.drop (k + 1)) k n = some (n', y) := by rw [takeR, if_neg (by omega), if_neg (by omega), if_neg hok_, ← HN.out.1, hy]
                obtain ⟨rfl, rfl, rfl⟩ : n' = r1 ∧ y = r2 ∧ 0 = r3 := by have := hres.out; rw [HT.out, hsome] at this; simpa [takeRes] using this
                have hyl : y.length = l0.length - (k + 1) := by rw [hy, List.length_drop]
                have hr := Kd.C_drop (m := k + 1) (c := c0) HR.out (by omega) hc0
                rw [← hy] at hr
                obtain ⟨i0, hi0, _, hsz, _⟩ := info_parts info5
                have hcut := cut_from (P := Try.prog) 22 5 .i64 Try.underlying22 hi0 1 hsz (some ad) l0.length c0 ((k : Int) + 1) (by omega) (by omega)
                have ek : ((k : Int) + 1).toNat = k + 1 := by omega
                obtain ⟨A1, hA1⟩ : ∃ A1, A1 = (if c0 = k + 1 then (some ad) else ((some ad) : Option Addr).map (·.add ((k + 1) * 1))) := ⟨_, rfl⟩
                obtain ⟨c1, hc1⟩ : ∃ c1, c1 = c0 - (k + 1) := ⟨_, rfl⟩
                rw [ek, ← hA1, ← hc1, ← hyl] at hcut
                have hcy : y.length ≤ c1 := by omega
                have HCY := Aside0.mk hcy
                have HRY := Aside0.mk (show Kd.C (Kd.int .u8) _ A1 y.length y by rw [hA1]; exact hr)
                have HCL := Aside0.mk (show bytes_Clone.f y = some y by unfold bytes_Clone.f; rw [if_pos (by have := HL.out; omega)])
                clear hr hA1 hc1 hy hyl hsome hcy hi0 hsz hok_
                go_wp2_with (go_at_call 35; refine (bytes_Clone.calls A1 c1 y y _ HRY.out HCY.out HCL.out).mono ?_; rintro e w1 ⟨v1, rfl, ho1, hb1⟩)
                simp only [Exit.jump]
                refine bodyPost_ret (results_tmp3 rfl _ _ _) rfl ?_
                exact ⟨_, rfl, ho1, hb1⟩
            · have hok_ : ¬ (n + x * 128 ^ k > 2147483647 ∨ (x = 0 ∧ k ≥ 1)) := by have := HN.out.1; omega
              obtain ⟨y, hy⟩ : ∃ y, y = l0.drop (k + 1) := ⟨_, rfl⟩
              have hsome : takeR (x :: l0.drop (k + 1)) k n = some (n', y) := by rw [takeR, if_neg (by omega), if_neg (by omega), if_neg hok_, ← HN.out.1, hy]
              obtain ⟨rfl, rfl, rfl⟩ : n' = r1 ∧ y = r2 ∧ 0 = r3 := by have := hres.out; rw [HT.out, hsome] at this; simpa [takeRes] using this
              have hyl : y.length = l0.length - (k + 1) := by rw [hy, List.length_drop]
              have hr := Kd.C_drop (m := k + 1) (c := c0) HR.out (by omega) hc0
              rw [← hy] at hr
              obtain ⟨i0, hi0, _, hsz, _⟩ := info_parts info5
              have hcut := cut_from (P := Try.prog) 22 5 .i64 Try.underlying22 hi0 1 hsz (some ad) l0.length c0 ((k : Int) + 1) (by omega) (by omega)
              have ek : ((k : Int) + 1).toNat = k + 1 := by omega
              obtain ⟨A1, hA1⟩ : ∃ A1, A1 = (if c0 = k + 1 then (some ad) else ((some ad) : Option Addr).map (·.add ((k + 1) * 1))) := ⟨_, rfl⟩
              obtain ⟨c1, hc1⟩ : ∃ c1, c1 = c0 - (k + 1) := ⟨_, rfl⟩
              rw [ek, ← hA1, ← hc1, ← hyl] at hcut
              have hcy : y.length ≤ c1 := by omega
              have HCY := Aside0.mk hcy
              have HRY := Aside0.mk (show Kd.C (Kd.int .u8) _ A1 y.length y by rw [hA1]; exact hr)
              have HCL := Aside0.mk (show bytes_Clone.f y = some y by unfold bytes_Clone.f; rw [if_pos (by have := HL.out; omega)])
              clear hr hA1 hc1 hy hyl hsome hcy hi0 hsz hok_
              go_wp2_with (go_at_call 35; refine (bytes_Clone.calls A1 c1 y y _ HRY.out HCY.out HCL.out).mono ?_; rintro e w1 ⟨v1, rfl, ho1, hb1⟩)
              simp only [Exit.jump]
              refine bodyPost_ret (results_tmp3 rfl _ _ _) rfl ?_
              exact ⟨_, rfl, ho1, hb1⟩
end Go.Proofs.Ytfbjabpjfalmlaa.P
namespace Go.Proofs.Ytfbjabpjfalmlaa.P
open Go.RowKit Go.Proofs.YtfbjabpjfalmlaaW.PrintWords Go.Proofs.YtfbjabpjfalmlaaW.PrintLast Go.Proofs.YtfbjabpjfalmlaaW.PrintMore
attribute [local go_sem] max2_int min2_int max_two min_two max_three min_three max_four min_four
set_option linter.unusedVariables false
set_option linter.unusedSimpArgs false
def octet_TakeText.f (l0 : List Int) : Option (List Int × List Int × Int) := (octet_Take.f l0).bind fun p => if p.2.2 = 0 then (if p.1 < 0 then none else if p.1 > 65535 then some ([], [], 10) else if p.1 > (p.2.1.length : Int) then some ([], [], 10) else if p.2.1.length < 140737488355328 then some (p.2.1.take p.1.toNat, p.2.1.drop p.1.toNat, 0) else none) else some ([], [], 10)
set_option maxHeartbeats 2000000 in
set_option maxRecDepth 100000 in
theorem octet_TakeText.calls (A0 : Option Addr) (c0 : Nat) (l0 : List Int) (r1 : List Int) (r2 : List Int) (r3 : Int) (w : World) (hr0 : Kd.C (Kd.int .u8) w A0 l0.length l0) (hc0 : l0.length ≤ c0) (h : octet_TakeText.f l0 = some (r1, r2, r3)) :
    Calls Try.prog 46 #[.slice A0 l0.length c0] w fun e w' => ∃ v0_ v1_ : Value, e = .returned (.tuple #[v0_, v1_, .int .i64 r3]) ∧ Kd.V (Kd.int .u8) 5 w' w.heap.size (fun k_ => (w.heap.size ≤ k_) ∧ some k_ ≠ (v1_ : Value).ownBlock) v0_ r1 ∧ Kd.R (Kd.int .u8) 5 w' w.heap.size (fun k_ => (w.heap.size ≤ k_)) v1_ r2 ∧ Below w.heap.size w w' := by
  unfold octet_TakeText.f at h
  obtain ⟨⟨n, t, e⟩, hT, h⟩ := Option.bind_eq_some_iff.mp h
  simp only at h
  have HT := Aside0.mk hT
  have HR := Aside0.mk hr0
  have HC := Aside0.mk hc0
  clear hT hr0 hc0
  by_cases he : e = 0
  · rw [if_pos he] at h
    subst he
    by_cases h0 : n < 0
    · rw [if_pos h0] at h; cases h
    rw [if_neg h0] at h
    by_cases h1 : n > 65535
    · rw [if_pos h1] at h
      obtain ⟨rfl, rfl, rfl⟩ : [] = r1 ∧ [] = r2 ∧ 10 = r3 := by simpa using h
      clear h
      go_enter Try.func46, Try.ntmps46
      go_wp2_with (go_at_call 43; refine (octet_Take.calls A0 c0 l0 n t 0 _ HR.out HC.out HT.out).mono ?_; rintro e w1 ⟨v1, rfl, ho1, hb1⟩)
      refine bodyPost_ret (results_tmp3 rfl _ _ _) rfl ?_
      exact ⟨_, _, rfl, Kd.V_nil _ _ _ _ _, Kd.R_nil _ _ _ _ _, hb1⟩
    rw [if_neg h1] at h
    by_cases h2 : n > (t.length : Int)
    · rw [if_pos h2] at h
      obtain ⟨rfl, rfl, rfl⟩ : [] = r1 ∧ [] = r2 ∧ 10 = r3 := by simpa using h
      clear h
      go_enter Try.func46, Try.ntmps46
      go_wp2_with (go_at_call 43; refine (octet_Take.calls A0 c0 l0 n t 0 _ HR.out HC.out HT.out).mono ?_; rintro e w1 ⟨v1, rfl, ho1, hb1⟩; obtain ⟨A1, c1, e1⟩ := Kd.R_slice ho1; subst e1)
      refine bodyPost_ret (results_tmp3 rfl _ _ _) rfl ?_
      exact ⟨_, _, rfl, Kd.V_nil _ _ _ _ _, Kd.R_nil _ _ _ _ _, hb1⟩
    rw [if_neg h2] at h
    by_cases h3 : t.length < 140737488355328
    · rw [if_pos h3] at h
      obtain ⟨rfl, rfl, rfl⟩ : t.take n.toNat = r1 ∧ t.drop n.toNat = r2 ∧ 0 = r3 := by simpa using h
      clear h
      obtain ⟨m, rfl⟩ := Int.eq_ofNat_of_zero_le (show 0 ≤ n by omega)
      simp only [Int.toNat_natCast]
      have hm : m ≤ t.length := by omega
      obtain ⟨y, hy⟩ : ∃ y, y = t.drop m := ⟨_, rfl⟩
      have hyl : y.length = t.length - m := by rw [hy, List.length_drop]
      have HCL := Aside0.mk (show bytes_Clone.f y = some y by unfold bytes_Clone.f; rw [if_pos (by omega)])
      have HY := Aside0.mk hy
      rw [← hy]
      clear hy
      go_enter Try.func46, Try.ntmps46
      go_wp2_with (go_at_call 43; refine (octet_Take.calls A0 c0 l0 m t 0 _ HR.out HC.out HT.out).mono ?_; rintro e w1 ⟨v1, rfl, ho1, hb1⟩; obtain ⟨A1, c1, e1⟩ := Kd.R_slice ho1; subst e1)
      have hr := Kd.C_drop (m := m) (c := c1) (Kd.R_reads' ho1).2.2 hm (Kd.R_reads' ho1).2.1
      rw [← HY.out] at hr
      obtain ⟨i0, hi0, _, hsz, _⟩ := info_parts info5
      have hcut := cut_from (P := Try.prog) 22 5 .i64 Try.underlying22 hi0 1 hsz A1 t.length c1 (m : Int) (by omega) (by omega)
      obtain ⟨A2, hA2⟩ : ∃ A2, A2 = (if c1 = m then A1 else A1.map (·.add (m * 1))) := ⟨_, rfl⟩
      obtain ⟨c2, hc2⟩ : ∃ c2, c2 = c1 - m := ⟨_, rfl⟩
      rw [Int.toNat_natCast, ← hA2, ← hc2, ← hyl] at hcut
      have hrow1 := (Kd.R_reads' ho1).2.1
      have HCY := Aside0.mk (show y.length ≤ c2 by omega)
      have hmc : m ≤ c1 := by omega
      have HRY := Aside0.mk (show Kd.C (Kd.int .u8) w1 A2 y.length y by rw [hA2]; exact hr)
      have HYL := Aside0.mk hyl
      clear hyl
      have HO1 := Aside0.mk (Kd.R_drew ho1)
      have HB1 := Aside0.mk (below_drew1 hb1)
      have HRY' := Aside0.mk (Kd.C_drew HRY.out)
      clear hr hA2 hc2 hi0 hsz ho1 hb1 HRY
      refine start_ (n := 11) (S := fun _ => True) (ds := []) #[false, false, false, false, false, false, false, false, false, false, false] (by kernel_rfl) rfl rfl trivial (fun hHeld => ?_)
      generalize w1.drew = w2 at HO1 HB1 HRY' ⊢
      refine pure_ (i := 0) (N := some 26) (v := ?_) (a' := ?_) #[true, false, false, false, false, false, false, false, false, false, false] rfl rfl (by kernel_rfl) (fun _ _ _ h => h) (Or.inl ⟨by rfl, ?_⟩) ?_ ?_
      rotate_left
      · intro w'
        go_simp
        with_reducible rfl
      rotate_left
      · simp only [Act.put, List.setIfInBounds_toArray, List.set_cons_zero, List.set_cons_succ]
        rfl
      refine pure_ (i := 1) (N := some 27) (v := ?_) (a' := ?_) #[true, true, false, false, false, false, false, false, false, false, false] rfl rfl (by kernel_rfl) (fun _ _ _ h => h) (Or.inl ⟨by rfl, ?_⟩) ?_ ?_
      rotate_left
      · intro w'
        go_simp
        with_reducible rfl
      rotate_left
      · simp only [Act.put, List.setIfInBounds_toArray, List.set_cons_zero, List.set_cons_succ]
        rfl
      refine pure_ (i := 2) (N := some 28) (v := ?_) (a' := ?_) #[true, true, true, false, false, false, false, false, false, false, false] rfl rfl (by kernel_rfl) (fun _ _ _ h => h) (Or.inl ⟨by rfl, ?_⟩) ?_ ?_
      rotate_left
      · intro w'
        go_simp
        with_reducible rfl
      rotate_left
      · simp only [Act.put, List.setIfInBounds_toArray, List.set_cons_zero, List.set_cons_succ]
        rfl
      refine pure_ (i := 3) (N := some 29) (v := ?_) (a' := ?_) #[true, true, true, true, false, false, false, false, false, false, false] rfl rfl (by kernel_rfl) (fun _ _ _ h => h) (Or.inl ⟨by rfl, ?_⟩) ?_ ?_
      rotate_left
      · intro w'
        go_simp
        with_reducible rfl
      rotate_left
      · simp only [Act.put, List.setIfInBounds_toArray, List.set_cons_zero, List.set_cons_succ]
        rfl
      refine pure_ (i := 4) (N := some 30) (v := ?_) (a' := ?_) #[true, true, true, true, true, false, false, false, false, false, false] rfl rfl (by kernel_rfl) (fun _ _ _ h => h) (Or.inl ⟨by rfl, ?_⟩) ?_ ?_
      rotate_left
      · intro w'
        go_simp
        with_reducible rfl
      rotate_left
      · simp only [Act.put, List.setIfInBounds_toArray, List.set_cons_zero, List.set_cons_succ]
        rfl
      refine pure_ (i := 5) (N := some 31) (v := ?_) (a' := ?_) #[true, true, true, true, true, true, false, false, false, false, false] rfl rfl (by kernel_rfl) (fun _ _ _ h => h) (Or.inl ⟨by rfl, ?_⟩) ?_ ?_
      rotate_left
      · intro w'
        go_simp
        with_reducible rfl
      rotate_left
      · simp only [Act.put, List.setIfInBounds_toArray, List.set_cons_zero, List.set_cons_succ]
        rfl
      refine pure_ (i := 6) (N := some 32) (v := ?_) (a' := ?_) #[true, true, true, true, true, true, true, false, false, false, false] rfl rfl (by kernel_rfl) (fun _ _ _ h => h) (Or.inl ⟨by rfl, ?_⟩) ?_ ?_
      rotate_left
      · intro w'
        go_simp
        with_reducible rfl
      rotate_left
      · simp only [Act.put, List.setIfInBounds_toArray, List.set_cons_zero, List.set_cons_succ]
        rfl
      refine one_ (i := 7) (N := some 33) #[true, true, true, true, true, true, true, true, false, false, false] rfl rfl (by kernel_rfl) (by decide) (fun K hK => ?_)
      refine goes_ Try.func35 (by kernel_rfl) rfl #[.slice A2 y.length c2] (by rfl) rfl rfl (by (try simp only [List.map_toArray, List.map_cons, List.map_nil]); first | done | rfl) ?_
      refine (bytes_Clone.calls A2 c2 y y _ HRY'.out HCY.out HCL.out).mono ?_
      rintro e w3 ⟨v2, rfl, ho2, hb2⟩
      refine ⟨_, rfl, ?_⟩
      obtain ⟨A3, c3, e3⟩ := Kd.R_slice ho2
      subst e3
      refine hK.out _ _ trivial (fun hHeld2 => ?_)
      clear hK K
      refine norm_ (a' := ?_) ?_ ?_
      rotate_left
      · show Act.put _ (some 33) _ = _
        simp only [Act.put, List.setIfInBounds_toArray, List.set_cons_zero, List.set_cons_succ]
        rfl
      refine pure_ (i := 8) (N := some 2) (v := ?_) (a' := ?_) #[true, true, true, true, true, true, true, true, true, false, false] rfl rfl (by kernel_rfl) (fun _ _ _ h => h) (Or.inl ⟨by rfl, ?_⟩) ?_ ?_
      rotate_left
      · intro w'
        go_simp
        with_reducible rfl
      rotate_left
      · simp only [Act.put, List.setIfInBounds_toArray, List.set_cons_zero, List.set_cons_succ]
        rfl
      refine pure_ (i := 9) (N := some 3) (v := ?_) (a' := ?_) #[true, true, true, true, true, true, true, true, true, true, false] rfl rfl (by kernel_rfl) (fun _ _ _ h => h) (Or.inl ⟨by rfl, ?_⟩) ?_ ?_
      rotate_left
      · intro w'
        go_simp
        with_reducible rfl
      rotate_left
      · simp only [Act.put, List.setIfInBounds_toArray, List.set_cons_zero, List.set_cons_succ]
        rfl
      refine pure_ (i := 10) (N := some 4) (v := ?_) (a' := ?_) #[true, true, true, true, true, true, true, true, true, true, true] rfl rfl (by kernel_rfl) (fun _ _ _ h => h) (Or.inl ⟨by rfl, ?_⟩) ?_ ?_
      rotate_left
      · intro w'
        go_simp
        with_reducible rfl
      rotate_left
      · simp only [Act.put, List.setIfInBounds_toArray, List.set_cons_zero, List.set_cons_succ]
        rfl
      refine done_ (by kernel_rfl) ?_
      try go_wp2
      refine bodyPost_ret (results_tmp3 rfl _ _ _) rfl ?_
      have hml : (t.take m).length = m := by rw [List.length_take]; omega
      have hV2 := Kd.V_below (Kd.V_mk (e := 5) (base := w.heap.size) (c := m) (Nat.le_of_eq hml) (Kd.F_take (Kd.R_F (Kd.R_tight rfl HO1.out)) hm)) hb2
      rw [hml] at hV2
      exact ⟨_, _, rfl, Kd.V_mono hV2 (fun k_ hk_ => ⟨Kd.R_base HO1.out k_ hk_.symm, fun e_ => Nat.not_le.2 (Kd.R_lt HO1.out k_ hk_.symm) (Kd.R_base ho2 k_ e_.symm)⟩), Kd.R_lower (Kd.R_mono (Kd.R_tight rfl ho2) (fun k_ hk_ => Nat.le_trans (below_size HB1.out) (Kd.R_base ho2 k_ hk_.symm))) (below_size HB1.out), below_step HB1.out hb2⟩
    · rw [if_neg h3] at h; cases h
  · rw [if_neg he] at h
    obtain ⟨rfl, rfl, rfl⟩ : [] = r1 ∧ [] = r2 ∧ 10 = r3 := by simpa using h
    clear h
    go_enter Try.func46, Try.ntmps46
    go_wp2_with (go_at_call 43; refine (octet_Take.calls A0 c0 l0 n t e _ HR.out HC.out HT.out).mono ?_; rintro e w1 ⟨v1, rfl, ho1, hb1⟩)
    refine bodyPost_ret (results_tmp3 rfl _ _ _) rfl ?_
    exact ⟨_, _, rfl, Kd.V_nil _ _ _ _ _, Kd.R_nil _ _ _ _ _, hb1⟩
end Go.Proofs.Ytfbjabpjfalmlaa.P
namespace Go.Proofs.Ytfbjabpjfalmlaa.P
open Go.RowKit Go.Proofs.YtfbjabpjfalmlaaW.PrintWords Go.Proofs.YtfbjabpjfalmlaaW.PrintLast Go.Proofs.YtfbjabpjfalmlaaW.PrintMore
attribute [local go_sem] max2_int min2_int max_two min_two max_three min_three max_four min_four
set_option linter.unusedVariables false
set_option linter.unusedSimpArgs false
def numOk (k n : Int) : Bool := if k = 8 then decide (n = 3) || decide (n = 5) else if k = 11 then decide (n = 0) || decide (n = 1) else if k = 7 then decide (0 ≤ n) && decide (n < 4) else true
def kindOk (k t : Int) : Bool := decide (1 ≤ k) && decide (k ≤ 11) && decide (0 ≤ t) && decide (t < 4)
def longOk (k h v : Nat) (o : Bool) : Bool := decide (k ≤ 16) && decide (h ≤ 16) && (!o || decide (h = 0)) && decide (v ≤ 32)
def txn_Check.f (a0_0 : Int) (a0_1 : Int) (l0_2 : List Int) (l0_3 : List Int) (a0_4 : Bool) (l0_5 : List Int) (a0_6 : Int) : Option (Int) := some (if (numOk a0_0 a0_6 && kindOk a0_0 a0_1 && longOk l0_2.length l0_3.length l0_5.length a0_4) = true then 0 else 1)
set_option maxHeartbeats 8000000 in
set_option maxRecDepth 100000 in
theorem txn_Check.calls (a0_0 : Int) (a0_1 : Int) (A0_2 : Option Addr) (c0_2 : Nat) (l0_2 : List Int) (A0_3 : Option Addr) (c0_3 : Nat) (l0_3 : List Int) (a0_4 : Bool) (A0_5 : Option Addr) (c0_5 : Nat) (l0_5 : List Int) (a0_6 : Int) (r : Int) (w : World) (hr0_2 : Kd.C (Kd.int .u8) w A0_2 l0_2.length l0_2) (hc0_2 : l0_2.length ≤ c0_2) (hr0_3 : Kd.C (Kd.int .u8) w A0_3 l0_3.length l0_3) (hc0_3 : l0_3.length ≤ c0_3) (hr0_5 : Kd.C (Kd.int .u8) w A0_5 l0_5.length l0_5) (hc0_5 : l0_5.length ≤ c0_5) (h : txn_Check.f a0_0 a0_1 l0_2 l0_3 a0_4 l0_5 a0_6 = some r) :
    Calls Try.prog 37 #[.agg #[.int .i64 a0_0, .int .i64 a0_1, .slice A0_2 l0_2.length c0_2, .slice A0_3 l0_3.length c0_3, .bool a0_4, .slice A0_5 l0_5.length c0_5, .int .i64 a0_6]] w fun e w' => e = .returned (.int .i64 r) ∧ Below w.heap.size w w' := by
  unfold txn_Check.f at h
  have HR := Aside0.mk (Option.some.inj h)
  clear h
  have hu := Try.underlying24
  obtain ⟨oA, hoA⟩ : ∃ o : Obj, o = .cells #[.int .i64 a0_0, .int .i64 a0_1, .slice A0_2 l0_2.length c0_2, .slice A0_3 l0_3.length c0_3, .bool a0_4, .slice A0_5 l0_5.length c0_5, .int .i64 a0_6] 24 (0, 0) := ⟨_, rfl⟩
  go_enter Try.func37, Try.ntmps37
  go_upto_block 0 with (fail)
  go_cut [3] (fun v3 wc => v3 = .bool (numOk a0_0 a0_6) ∧ wc = w.alloc (.cells #[.int .i64 a0_0, .int .i64 a0_1, .slice A0_2 l0_2.length c0_2, .slice A0_3 l0_3.length c0_3, .bool a0_4, .slice A0_5 l0_5.length c0_5, .int .i64 a0_6] 24 (0, 0)))
  case first =>
    by_cases k8 : (a0_0 == 8) = true
    · have e8 : a0_0 = 8 := by simpa using k8
      by_cases n3 : (a0_6 == 3) = true
      · have hv : Aside0 (true = numOk a0_0 a0_6) := ⟨by rw [numOk, if_pos e8]; simp at n3 ⊢; omega⟩
        (try clear e8); (try clear e11); (try clear e7)
        go_wp2_with (fail)
        go_meet
        case rel => exact ⟨congrArg Value.bool hv.out, rfl⟩
      · replace n3 : (a0_6 == 3) = false := by simpa using n3
        have hv : Aside0 ((a0_6 == 5) = numOk a0_0 a0_6) := ⟨by rw [numOk, if_pos e8, Bool.eq_iff_iff]; simp at n3 ⊢; omega⟩
        (try clear e8); (try clear e11); (try clear e7)
        go_wp2_with (fail)
        go_meet
        case rel => exact ⟨congrArg Value.bool hv.out, rfl⟩
    replace k8 : (a0_0 == 8) = false := by simpa using k8
    have e8 : ¬ a0_0 = 8 := by simpa using k8
    by_cases k11 : (a0_0 == 11) = true
    · have e11 : a0_0 = 11 := by simpa using k11
      by_cases n0 : (a0_6 == 0) = true
      · have hv : Aside0 (true = numOk a0_0 a0_6) := ⟨by rw [numOk, if_neg e8, if_pos e11]; simp at n0 ⊢; omega⟩
        (try clear e8); (try clear e11); (try clear e7)
        go_wp2_with (fail)
        go_meet
        case rel => exact ⟨congrArg Value.bool hv.out, rfl⟩
      · replace n0 : (a0_6 == 0) = false := by simpa using n0
        have hv : Aside0 ((a0_6 == 1) = numOk a0_0 a0_6) := ⟨by rw [numOk, if_neg e8, if_pos e11, Bool.eq_iff_iff]; simp at n0 ⊢; omega⟩
        (try clear e8); (try clear e11); (try clear e7)
        go_wp2_with (fail)
        go_meet
        case rel => exact ⟨congrArg Value.bool hv.out, rfl⟩
    replace k11 : (a0_0 == 11) = false := by simpa using k11
    have e11 : ¬ a0_0 = 11 := by simpa using k11
    by_cases k7 : (a0_0 == 7) = true
    · have e7 : a0_0 = 7 := by simpa using k7
      by_cases n0 : 0 ≤ a0_6
      · have hv : Aside0 (decide (a0_6 < 4) = numOk a0_0 a0_6) := ⟨by rw [numOk, if_neg e8, if_neg e11, if_pos e7, Bool.eq_iff_iff]; simp; omega⟩
        have n0' : decide (0 ≤ a0_6) = true := decide_eq_true n0
        (try clear e8); (try clear e11); (try clear e7)
        go_wp2_with (fail)
        go_meet
        case rel => exact ⟨congrArg Value.bool hv.out, rfl⟩
      · have hv : Aside0 (false = numOk a0_0 a0_6) := ⟨by rw [numOk, if_neg e8, if_neg e11, if_pos e7]; simp; omega⟩
        have n0' : decide (0 ≤ a0_6) = false := decide_eq_false n0
        (try clear e8); (try clear e11); (try clear e7)
        go_wp2_with (fail)
        go_meet
        case rel => exact ⟨congrArg Value.bool hv.out, rfl⟩
    · replace k7 : (a0_0 == 7) = false := by simpa using k7
      have e7 : ¬ a0_0 = 7 := by simpa using k7
      have hv : Aside0 (true = numOk a0_0 a0_6) := ⟨by rw [numOk, if_neg e8, if_neg e11, if_neg e7]⟩
      (try clear e8); (try clear e11); (try clear e7)
      go_wp2_with (fail)
      go_meet
      case rel => exact ⟨congrArg Value.bool hv.out, rfl⟩
  case rest =>
    obtain ⟨rfl, rfl⟩ := hcut
    go_upto_region 9 with (fail)
    go_cut [4] (fun v4 wc => v4 = .bool (kindOk a0_0 a0_1) ∧ wc = w.alloc (.cells #[.int .i64 a0_0, .int .i64 a0_1, .slice A0_2 l0_2.length c0_2, .slice A0_3 l0_3.length c0_3, .bool a0_4, .slice A0_5 l0_5.length c0_5, .int .i64 a0_6] 24 (0, 0)))
    case first =>
      by_cases k1 : 1 ≤ a0_0
      case neg =>
        have k1' : decide (1 ≤ a0_0) = false := decide_eq_false k1
        have hv : Aside0 (false = kindOk a0_0 a0_1) := ⟨by unfold kindOk; simp [k1']⟩
        go_wp2_with (fail)
        go_meet
        case rel => exact ⟨congrArg Value.bool hv.out, rfl⟩
      have k1' : decide (1 ≤ a0_0) = true := decide_eq_true k1
      by_cases k2 : a0_0 ≤ 11
      case neg =>
        have k2' : decide (a0_0 ≤ 11) = false := decide_eq_false k2
        have hv : Aside0 (false = kindOk a0_0 a0_1) := ⟨by unfold kindOk; simp [k1', k2']⟩
        go_wp2_with (fail)
        go_meet
        case rel => exact ⟨congrArg Value.bool hv.out, rfl⟩
      have k2' : decide (a0_0 ≤ 11) = true := decide_eq_true k2
      by_cases k3 : 0 ≤ a0_1
      case neg =>
        have k3' : decide (0 ≤ a0_1) = false := decide_eq_false k3
        have hv : Aside0 (false = kindOk a0_0 a0_1) := ⟨by unfold kindOk; simp [k1', k2', k3']⟩
        go_wp2_with (fail)
        go_meet
        case rel => exact ⟨congrArg Value.bool hv.out, rfl⟩
      have k3' : decide (0 ≤ a0_1) = true := decide_eq_true k3
      have hv : Aside0 (decide (a0_1 < 4) = kindOk a0_0 a0_1) := ⟨by unfold kindOk; simp [k1', k2', k3']⟩
      go_wp2_with (fail)
      go_meet
      case rel => exact ⟨congrArg Value.bool hv.out, rfl⟩
    case rest =>
      obtain ⟨rfl, rfl⟩ := hcut
      generalize numOk a0_0 a0_6 = nb at HR ⊢
      generalize kindOk a0_0 a0_1 = kb at HR ⊢
      cases nb with
      | false =>
        have hr : r = 1 := by rw [← HR.out]; rfl
        clear HR
        subst hr
        go_wp2
        go_ret
        exact ⟨rfl, below_alloc (Below.refl _ _) _⟩
      | true =>
      cases kb with
      | false =>
        have hr : r = 1 := by rw [← HR.out]; rfl
        clear HR
        subst hr
        go_wp2
        go_ret
        exact ⟨rfl, below_alloc (Below.refl _ _) _⟩
      | true =>
      by_cases g2 : 16 < l0_2.length
      case pos =>
        have hv : Aside0 (longOk l0_2.length l0_3.length l0_5.length a0_4 = false) := ⟨by unfold longOk; generalize l0_2.length = x2 at *; generalize l0_3.length = x3 at *; generalize l0_5.length = x5 at *; simp; omega⟩
        have g2i : decide ((16 : Int) < (l0_2.length : Int)) = true := decide_eq_true (by omega)
        have g2n : decide (16 < l0_2.length) = true := decide_eq_true (by omega)
        clear g2
        have hr : r = 1 := by rw [← HR.out, hv.out]; rfl
        clear hv HR
        subst hr
        go_wp2
        go_ret
        exact ⟨rfl, below_alloc (Below.refl _ _) _⟩
      have g2i : decide ((16 : Int) < (l0_2.length : Int)) = false := decide_eq_false (by omega)
      have g2n : decide (16 < l0_2.length) = false := decide_eq_false (by omega)
      by_cases g3 : 16 < l0_3.length
      case pos =>
        have hv : Aside0 (longOk l0_2.length l0_3.length l0_5.length a0_4 = false) := ⟨by unfold longOk; generalize l0_2.length = x2 at *; generalize l0_3.length = x3 at *; generalize l0_5.length = x5 at *; simp; omega⟩
        have g3i : decide ((16 : Int) < (l0_3.length : Int)) = true := decide_eq_true (by omega)
        have g3n : decide (16 < l0_3.length) = true := decide_eq_true (by omega)
        clear g3
        have hr : r = 1 := by rw [← HR.out, hv.out]; rfl
        clear hv HR
        subst hr
        go_wp2
        go_ret
        exact ⟨rfl, below_alloc (Below.refl _ _) _⟩
      have g3i : decide ((16 : Int) < (l0_3.length : Int)) = false := decide_eq_false (by omega)
      have g3n : decide (16 < l0_3.length) = false := decide_eq_false (by omega)
      cases a0_4 with
      | true =>
        by_cases g4 : 0 < l0_3.length
        case pos =>
          have hv : Aside0 (longOk l0_2.length l0_3.length l0_5.length true = false) := ⟨by unfold longOk; generalize l0_2.length = x2 at *; generalize l0_3.length = x3 at *; generalize l0_5.length = x5 at *; simp; omega⟩
          have g4i : decide ((0 : Int) < (l0_3.length : Int)) = true := decide_eq_true (by omega)
          have g4n : decide (0 < l0_3.length) = true := decide_eq_true (by omega)
          clear g4
          have hr : r = 1 := by rw [← HR.out, hv.out]; rfl
          clear hv HR
          subst hr
          go_wp2
          go_ret
          exact ⟨rfl, below_alloc (Below.refl _ _) _⟩
        have g4i : decide ((0 : Int) < (l0_3.length : Int)) = false := decide_eq_false (by omega)
        have g4n : decide (0 < l0_3.length) = false := decide_eq_false (by omega)
        by_cases g5 : 32 < l0_5.length
        case pos =>
          have hv : Aside0 (longOk l0_2.length l0_3.length l0_5.length true = false) := ⟨by unfold longOk; generalize l0_2.length = x2 at *; generalize l0_3.length = x3 at *; generalize l0_5.length = x5 at *; simp; omega⟩
          have g5i : decide ((32 : Int) < (l0_5.length : Int)) = true := decide_eq_true (by omega)
          have g5n : decide (32 < l0_5.length) = true := decide_eq_true (by omega)
          clear g5
          have hr : r = 1 := by rw [← HR.out, hv.out]; rfl
          clear hv HR
          subst hr
          go_wp2
          go_ret
          exact ⟨rfl, below_alloc (Below.refl _ _) _⟩
        have g5i : decide ((32 : Int) < (l0_5.length : Int)) = false := decide_eq_false (by omega)
        have g5n : decide (32 < l0_5.length) = false := decide_eq_false (by omega)
        have hv : Aside0 (longOk l0_2.length l0_3.length l0_5.length true = true) := ⟨by unfold longOk; generalize l0_2.length = x2 at *; generalize l0_3.length = x3 at *; generalize l0_5.length = x5 at *; simp; omega⟩
        clear g2 g3 g4 g5
        have hr : r = 0 := by rw [← HR.out, hv.out]; rfl
        clear hv HR
        subst hr
        go_wp2
        go_ret
        exact ⟨rfl, below_alloc (Below.refl _ _) _⟩
      | false =>
        by_cases g5 : 32 < l0_5.length
        case pos =>
          have hv : Aside0 (longOk l0_2.length l0_3.length l0_5.length false = false) := ⟨by unfold longOk; generalize l0_2.length = x2 at *; generalize l0_3.length = x3 at *; generalize l0_5.length = x5 at *; simp; omega⟩
          have g5i : decide ((32 : Int) < (l0_5.length : Int)) = true := decide_eq_true (by omega)
          have g5n : decide (32 < l0_5.length) = true := decide_eq_true (by omega)
          clear g5
          have hr : r = 1 := by rw [← HR.out, hv.out]; rfl
          clear hv HR
          subst hr
          go_wp2
          go_ret
          exact ⟨rfl, below_alloc (Below.refl _ _) _⟩
        have g5i : decide ((32 : Int) < (l0_5.length : Int)) = false := decide_eq_false (by omega)
        have g5n : decide (32 < l0_5.length) = false := decide_eq_false (by omega)
        have hv : Aside0 (longOk l0_2.length l0_3.length l0_5.length false = true) := ⟨by unfold longOk; generalize l0_2.length = x2 at *; generalize l0_3.length = x3 at *; generalize l0_5.length = x5 at *; simp; omega⟩
        clear g2 g3 g5
        have hr : r = 0 := by rw [← HR.out, hv.out]; rfl
        clear hv HR
        subst hr
        go_wp2
        go_ret
        exact ⟨rfl, below_alloc (Below.refl _ _) _⟩
end Go.Proofs.Ytfbjabpjfalmlaa.P
namespace Go.Proofs.Ytfbjabpjfalmlaa.P
open Go.RowKit Go.Proofs.YtfbjabpjfalmlaaW.PrintWords Go.Proofs.YtfbjabpjfalmlaaW.PrintLast Go.Proofs.YtfbjabpjfalmlaaW.PrintMore
attribute [local go_sem] max2_int min2_int max_two min_two max_three min_three max_four min_four
set_option linter.unusedVariables false
set_option linter.unusedSimpArgs false
def bareOk (s t : Int) (k h v : Nat) (o : Bool) : Bool := (s == 0) && (t == 0) && (wrap64 (wrap64 ((k : Int) + (h : Int)) + (v : Int)) == 0) && !o
def wire_may.f (a0 : Int) (a1_0 : Int) (a1_1 : Int) (l1_2 : List Int) (l1_3 : List Int) (a1_4 : Bool) (l1_5 : List Int) (a1_6 : Int) : Option (Bool) := if a0 < 0 ∨ 4 ≤ a0 ∨ a1_6 < 0 ∨ 2147483647 < a1_6 then some false else if a1_0 = 12 then some (bareOk a0 a1_1 l1_2.length l1_3.length l1_5.length a1_4) else (txn_Check.f a1_0 a1_1 l1_2 l1_3 a1_4 l1_5 a1_6).bind fun e => some (e == 0)
set_option maxHeartbeats 8000000 in
set_option maxRecDepth 100000 in
theorem wire_may.calls (a0 : Int) (a1_0 : Int) (a1_1 : Int) (A1_2 : Option Addr) (c1_2 : Nat) (l1_2 : List Int) (A1_3 : Option Addr) (c1_3 : Nat) (l1_3 : List Int) (a1_4 : Bool) (A1_5 : Option Addr) (c1_5 : Nat) (l1_5 : List Int) (a1_6 : Int) (r : Bool) (w : World) (hr1_2 : Kd.C (Kd.int .u8) w A1_2 l1_2.length l1_2) (hc1_2 : l1_2.length ≤ c1_2) (hr1_3 : Kd.C (Kd.int .u8) w A1_3 l1_3.length l1_3) (hc1_3 : l1_3.length ≤ c1_3) (hr1_5 : Kd.C (Kd.int .u8) w A1_5 l1_5.length l1_5) (hc1_5 : l1_5.length ≤ c1_5) (h : wire_may.f a0 a1_0 a1_1 l1_2 l1_3 a1_4 l1_5 a1_6 = some r) :
    Calls Try.prog 21 #[.int .i64 a0, .agg #[.int .i64 a1_0, .int .i64 a1_1, .slice A1_2 l1_2.length c1_2, .slice A1_3 l1_3.length c1_3, .bool a1_4, .slice A1_5 l1_5.length c1_5, .int .i64 a1_6]] w fun e w' => e = .returned (.bool r) ∧ Below w.heap.size w w' := by
  unfold wire_may.f at h
  have H := Aside0.mk h
  clear h
  have hu := Try.underlying24
  go_enter Try.func21, Try.ntmps21
  go_upto_region 1 with (fail)
  go_cut [5] (fun v5 wc => v5 = .bool (bareOk a0 a1_1 l1_2.length l1_3.length l1_5.length a1_4) ∧ wc = w.alloc (.cells #[.int .i64 a1_0, .int .i64 a1_1, .slice A1_2 l1_2.length c1_2, .slice A1_3 l1_3.length c1_3, .bool a1_4, .slice A1_5 l1_5.length c1_5, .int .i64 a1_6] 24 (0, 0)))
  case first =>
    cases hs : (a0 == 0) with
    | false =>
      have hv : Aside0 (false = bareOk a0 a1_1 l1_2.length l1_3.length l1_5.length a1_4) := ⟨by unfold bareOk; simp only [hs, Bool.false_and]⟩
      go_wp2_with (fail)
      go_meet
      case rel => exact ⟨congrArg Value.bool hv.out, rfl⟩
    | true =>
    cases ht : (a1_1 == 0) with
    | false =>
      have hv : Aside0 (false = bareOk a0 a1_1 l1_2.length l1_3.length l1_5.length a1_4) := ⟨by unfold bareOk; simp only [hs, ht, Bool.false_and, Bool.and_false]⟩
      go_wp2_with (fail)
      go_meet
      case rel => exact ⟨congrArg Value.bool hv.out, rfl⟩
    | true =>
    cases hl : (wrap64 (wrap64 ((l1_2.length : Int) + (l1_3.length : Int)) + (l1_5.length : Int)) == 0) with
    | false =>
      have hv : Aside0 (false = bareOk a0 a1_1 l1_2.length l1_3.length l1_5.length a1_4) := ⟨by unfold bareOk; simp only [hs, ht, hl, Bool.false_and, Bool.and_false]⟩
      go_wp2_with (fail)
      go_meet
      case rel => exact ⟨congrArg Value.bool hv.out, rfl⟩
    | true =>
      have hv : Aside0 ((!a1_4) = bareOk a0 a1_1 l1_2.length l1_3.length l1_5.length a1_4) := ⟨by unfold bareOk; simp only [hs, ht, hl, Bool.true_and]⟩
      go_wp2_with (fail)
      go_meet
      case rel => exact ⟨congrArg Value.bool hv.out, rfl⟩
  case rest =>
    obtain ⟨rfl, rfl⟩ := hcut
    obtain ⟨bo, hbo⟩ : ∃ b, b = bareOk a0 a1_1 l1_2.length l1_3.length l1_5.length a1_4 := ⟨_, rfl⟩
    rw [← hbo] at H ⊢
    clear hbo
    have hh := H.out
    by_cases k1 : a0 < 0
    case pos =>
      rw [if_pos (.inl k1)] at hh
      obtain rfl := Option.some.inj hh
      clear hh H
      go_wp2
      go_ret
      exact ⟨rfl, below_alloc (Below.refl _ _) _⟩
    by_cases k2 : 4 ≤ a0
    case pos =>
      rw [if_pos (.inr (.inl k2))] at hh
      obtain rfl := Option.some.inj hh
      clear hh H
      have k2' : decide (4 ≤ a0) = true := decide_eq_true k2
      go_wp2
      go_ret
      exact ⟨rfl, below_alloc (Below.refl _ _) _⟩
    by_cases k3 : a1_6 < 0
    case pos =>
      rw [if_pos (.inr (.inr (.inl k3)))] at hh
      obtain rfl := Option.some.inj hh
      clear hh H
      have k2' : decide (4 ≤ a0) = false := decide_eq_false k2
      go_wp2
      go_ret
      exact ⟨rfl, below_alloc (Below.refl _ _) _⟩
    have k2' : decide (4 ≤ a0) = false := decide_eq_false k2
    by_cases k4 : 2147483647 < a1_6
    case pos =>
      rw [if_pos (.inr (.inr (.inr k4)))] at hh
      obtain rfl := Option.some.inj hh
      clear hh H
      go_wp2
      go_ret
      exact ⟨rfl, below_alloc (Below.refl _ _) _⟩
    rw [if_neg (by rintro (h | h | h | h) <;> contradiction)] at hh
    by_cases k5 : a1_0 = 12
    case pos =>
      rw [if_pos k5] at hh
      obtain rfl := Option.some.inj hh
      clear hh H
      subst k5
      go_wp2
      go_ret
      exact ⟨rfl, below_alloc (Below.refl _ _) _⟩
    rw [if_neg k5] at hh
    have k5' : (a1_0 == 12) = false := by simpa using k5
    obtain ⟨e, he, hh⟩ := Option.bind_eq_some_iff.mp hh
    obtain rfl := Option.some.inj hh
    have HT := fun o => Aside0.mk (txn_Check.calls a1_0 a1_1 A1_2 c1_2 l1_2 A1_3 c1_3 l1_3 a1_4 A1_5 c1_5 l1_5 a1_6 e (w.alloc o) (Kd.C_alloc hr1_2 o) hc1_2 (Kd.C_alloc hr1_3 o) hc1_3 (Kd.C_alloc hr1_5 o) hc1_5 he)
    clear hh H he k5 hr1_2 hr1_3 hr1_5
    go_wp2_with (go_at_call 37; (with_reducible refine (HT _).out.mono ?_); rintro e1 w1 ⟨rfl, hb⟩; have HB1 := Aside0.mk (below_step (below_alloc (Below.refl w.heap.size w) _) hb); clear hb)
    go_ret
    exact ⟨rfl, HB1.out⟩
end Go.Proofs.Ytfbjabpjfalmlaa.P
namespace Go.Proofs.Ytfbjabpjfalmlaa.P
open Go.RowKit Go.Proofs.YtfbjabpjfalmlaaW.PrintWords Go.Proofs.YtfbjabpjfalmlaaW.PrintLast Go.Proofs.YtfbjabpjfalmlaaW.PrintMore
attribute [local go_sem] max2_int min2_int max_two min_two max_three min_three max_four min_four
set_option linter.unusedVariables false
set_option linter.unusedSimpArgs false
end Go.Proofs.Ytfbjabpjfalmlaa.P
namespace Go.Proofs.Ytfbjabpjfalmlaa.P
open Go.RowKit Go.Proofs.YtfbjabpjfalmlaaW.PrintWords Go.Proofs.YtfbjabpjfalmlaaW.PrintLast Go.Proofs.YtfbjabpjfalmlaaW.PrintMore
attribute [local go_sem] max2_int min2_int max_two min_two max_three min_three max_four min_four
set_option linter.unusedVariables false
set_option linter.unusedSimpArgs false
section
attribute [local go_sem] Oper.semAt_some
theorem or128 {m : Int} (h : 0 ≤ m) : bits .or .u8 (m % 256) 128 = m % 128 + 128 := by
  have H : ∀ a : Fin 256, bits .or .u8 ((a.val : Nat) : Int) 128 = ((a.val % 128 + 128 : Nat) : Int) := by decide +kernel
  obtain ⟨a, ha⟩ : ∃ a : Fin 256, ((a.val : Nat) : Int) = m % 256 := ⟨⟨(m % 256).toNat, by omega⟩, by show (((m % 256).toNat : Nat) : Int) = m % 256; omega⟩
  rw [← ha, H a]
  omega
def OctI (n0 B : Nat) (w : World) (l0 : List Int) (tS tB tI : TypeId) (pre : List Int) (m : Int) (W : World) : Prop :=
  (∃ (v : Value) (ys : List Int), ys = l0 ++ pre ∧ Boxed W B tS v ∧ W.ownsRow n0 tB 1 v ys.length (ys.map (Value.int .u8))) ∧ Boxed W (B + 1) tI (.int .i64 m) ∧ Below n0 w W
theorem OctI.mk {n0 B : Nat} {w : World} {l0 : List Int} {tS tB tI : TypeId} {pre : List Int} {m : Int} {W : World} (v : Value) (ys : List Int) (h1 : ys = l0 ++ pre) (h2 : Boxed W B tS v) (h3 : W.ownsRow n0 tB 1 v ys.length (ys.map (Value.int .u8))) (h4 : Boxed W (B + 1) tI (.int .i64 m)) (h5 : Below n0 w W) : OctI n0 B w l0 tS tB tI pre m W := ⟨⟨v, ys, h1, h2, h3⟩, h4, h5⟩
def octBytes : Nat → Int → List Int
  | 0, _ => []
  | k + 1, m => if 128 ≤ m then (m % 128 + 128) :: octBytes k (m / 128) else [m]
theorem octBytes_len (k : Nat) (m : Int) : (octBytes k m).length ≤ k := by
  induction k generalizing m with
  | zero => simp [octBytes]
  | succ k ih => unfold octBytes; split <;> simp; have := ih (m / 128); omega
set_option maxHeartbeats 1000000 in
set_option maxRecDepth 100000 in
theorem octet_of1_in (F : Fence) (n : Nat) (hF : F.fn 53) (hro : F.round = none) (hn : 1 ≤ n) (l gn : Nat) (J : List Int → Int → World → Prop)
    (hJc : ∀ pre m W, J pre m W → Boxed W gn 3 (.int .i64 m)) (hJs : ∀ pre m m' W, J pre m W → J pre m' (W.setCell ⟨gn, 0, none⟩ (.int .i64 m')))
    (hY : ∀ pre m x W, J pre m W → pre.length < 5 → YieldAt F (n - 1) Try.prog l #[.int .u8 x] W fun e W' => e = .returned (.bool true) ∧ J (pre ++ [x]) m W')
    (m0 : Int) (hm0 : 0 ≤ m0) (hm1 : m0 ≤ 2147483647) (W : World) (h0 : J [] m0 W) :
    CallsIn F n Try.prog 53 #[.func (.yield l) #[] #[], .pointer (some ⟨gn, 0, none⟩)] W fun e W' => (∃ v, e = .returned v) ∧ ∃ xs m, xs = octBytes 5 m0 ∧ J xs m W' := by
  refine callsIn_of_wp Try.func53 rfl hF ?_ hro
  simp only [Try.ntmps53, List.size_toArray, List.length_cons, List.length_nil, Nat.reduceAdd, Nat.reduceSub, Array.replicate_succ, Array.replicate_zero, List.push_toArray, List.append_toArray, List.nil_append, List.cons_append]
  gi_wp2
  gi_loopw [] (fun wr => ∃ (pre : List Int) (m : Int) (k : Nat), J pre m wr ∧ 0 ≤ m ∧ m < 128 ^ (k + 1) ∧ k < 5 ∧ octBytes 5 m0 = pre ++ octBytes (k + 1) m)
    (fun wr => match wr.cell? ⟨gn, 0, none⟩ with | some (.int _ m) => m.toNat | _ => 0)
  case atStart =>
    exact ⟨[], m0, 4, h0, hm0, by omega, by omega, rfl⟩
  case round =>
    obtain ⟨pre, m, k, hJ, hm, hmk, hk, hb⟩ := hrel
    have hc := (hJc _ _ _ hJ).cell
    have hf := (hJc _ _ _ hJ).frozen
    have hpl : pre.length < 5 := by
      have h5 := octBytes_len 5 m0
      have hne : 0 < (octBytes (k + 1) m).length := by rw [octBytes]; split <;> simp
      rw [hb, List.length_append] at h5; omega
    by_cases h128 : 128 ≤ m
    · obtain ⟨fn, tmps, assign, body, hy, hR⟩ := hY pre m (bits .or .u8 (m % 256) 128) wr hJ hpl
      gi_wp2
      refine hR.mono ?_
      rintro e W3 ⟨rfl, hJ3⟩
      have hc3 := (hJc _ _ _ hJ3).cell
      have hf3 := (hJc _ _ _ hJ3).frozen
      gi_wp2
      go_roundw
      case rel =>
        refine ⟨_, m / 128, k - 1, hJs _ _ _ _ hJ3, by omega, ?_, by omega, ?_⟩
        · cases k with
          | zero => simp at hmk; omega
          | succ k =>
            rw [Nat.add_sub_cancel]
            have e : (128 : Int) ^ (k + 1 + 1) = 128 ^ (k + 1) * 128 := Int.pow_succ _ _
            omega
        · cases k with
          | zero => simp at hmk; omega
          | succ k => rw [hb, Nat.add_sub_cancel, List.append_assoc, or128 hm]; conv => lhs; rw [octBytes, if_pos h128]
                      rfl
      case measure =>
        have e3 := ((hJc _ _ _ hJ3).set (.int .i64 (m / 128))).cell
        simp only [e3, hc]
        omega
    · obtain ⟨fn, tmps, assign, body, hy, hR⟩ := hY pre m m wr hJ hpl
      gi_wp2
      refine hR.mono ?_
      rintro e W3 ⟨rfl, hJ3⟩
      gi_wp2
      go_end0
      exact ⟨⟨_, rfl⟩, _, m, by rw [hb, octBytes, if_neg (show ¬ 128 ≤ m by omega)], hJ3⟩
set_option maxHeartbeats 1000000 in
theorem octet_of_in (F : Fence) (n : Nat) (hF : F.fn 51) (hro : F.round = none) (m : Int) (w : World) :
    CallsIn F n Try.prog 51 #[.int .i64 m] w fun e w' => e = .returned (.func (.func 53) #[] #[.pointer (some ⟨w.heap.size, 0, none⟩)]) ∧ w' = w.alloc (.cells #[.int .i64 m] 3) := by
  refine callsIn_of_wp Try.func51 rfl hF ?_ hro
  simp only [Try.ntmps51, List.size_toArray, List.length_cons, List.length_nil, Nat.reduceAdd, Nat.reduceSub, Array.replicate_succ, Array.replicate_zero, List.push_toArray, List.append_toArray, List.nil_append, List.cons_append]
  gi_wp2
  go_ret
  exact ⟨rfl, rfl⟩
def octet_Number.f (l0 : List Int) (a1 : Int) : Option (List Int × Int) := if a1 < 0 then some ([], 10) else if a1 > 2147483647 then some ([], 10) else if l0.length < 140737488355000 then some (l0 ++ octBytes 5 a1, 0) else none
set_option maxHeartbeats 2000000 in
set_option maxRecDepth 100000 in
theorem octet_Number.calls (A0 : Option Addr) (c0 : Nat) (l0 : List Int) (a1 : Int) (r1 : List Int) (r2 : Int) (w : World) (hr0 : Kd.C (Kd.int .u8) w A0 l0.length l0) (hc0 : l0.length ≤ c0) (h : octet_Number.f l0 a1 = some (r1, r2)) :
    Calls Try.prog 38 #[.slice A0 l0.length c0, .int .i64 a1] w fun e w' => ∃ v0_ : Value, e = .returned (.tuple #[v0_, .int .i64 r2]) ∧ Kd.R (Kd.int .u8) 5 w' w.heap.size (fun _ => True) v0_ r1 ∧ Below w.heap.size w w' := by
  unfold octet_Number.f at h
  by_cases h1 : a1 < 0
  · rw [if_pos h1] at h
    obtain ⟨rfl, rfl⟩ := Prod.mk.inj (Option.some.inj h)
    have HB := Aside0.mk (Below.refl w.heap.size w)
    clear hr0 hc0 h
    go_enter Try.func38, Try.ntmps38
    go_wp2
    go_ret2
    exact ⟨_, rfl, Kd.R_nil _ _ _ _ _, Below.refl _ _⟩
  rw [if_neg h1] at h
  by_cases h2 : a1 > 2147483647
  · rw [if_pos h2] at h
    obtain ⟨rfl, rfl⟩ := Prod.mk.inj (Option.some.inj h)
    clear hr0 hc0 h
    go_enter Try.func38, Try.ntmps38
    go_wp2
    go_ret2
    exact ⟨_, rfl, Kd.R_nil _ _ _ _ _, Below.refl _ _⟩
  rw [if_neg h2] at h
  by_cases h3 : l0.length < 140737488355000
  · rw [if_pos h3] at h
    obtain ⟨rfl, rfl⟩ := Prod.mk.inj (Option.some.inj h)
    clear h
    have hcl : bytes_Clone.f l0 = some l0 := by unfold bytes_Clone.f; rw [if_pos (by omega)]
    have kclone := callsIn_wide (n := 5).2 (bytes_Clone.calls A0 c0 l0 l0 w hr0 hc0 hcl)
    refine (callsIn_wide (n := 6)).1 ?_
    refine callsIn_of_wp_marks Try.func38 rfl trivial ?_ rfl
    simp only [Try.ntmps38, List.size_toArray, List.length_cons, List.length_nil, Nat.reduceAdd, Nat.reduceSub, Array.replicate_succ, Array.replicate_zero, List.push_toArray, List.append_toArray, List.nil_append, List.cons_append]
    gi_wp2_with (first | (refine ⟨trivial, ?_⟩; gi_at_call 35; refine kclone.mono ?_; rintro e w1 ⟨v1, rfl, ho1, hb1⟩; obtain ⟨Ao, co, eo⟩ := Kd.R_slice ho1; subst eo) | (refine ⟨trivial, ?_⟩; gi_at_call 51; refine (octet_of_in Fence.wide 5 trivial rfl _ _).mono ?_; rintro e w2 ⟨rfl, rfl⟩))
    have hrow0 : w1.ownsRow w.heap.size 5 1 (.slice Ao l0.length co) l0.length (l0.map (Value.int .u8)) := Kd.own_of_R ho1
    have hs1 := hb1.size
    have bO := Boxed.new w1 22 (.slice Ao l0.length co)
    have bN := Boxed.new (w1.alloc (.cells #[.slice Ao l0.length co] 22)) 3 (.int .i64 a1)
    rw [World.size_alloc] at bN
    obtain ⟨i0, hi, hz0, hz1, hz2⟩ := info_parts info5
    refine range_cells (F := Fence.wide) (n := 6) rfl (by decide) (gf := 53) (lb := #[.pointer (some ⟨w1.heap.size + 1, 0, none⟩)]) rfl trivial (enters_of Try.func53 (by kernel_rfl) rfl)
      (fun x : Int => #[.int .u8 x]) (fun _ => rfl) (fun xs => xs = octBytes 5 a1) 5
      (OctI w.heap.size w1.heap.size w l0 22 5 3)
      ?hIb a1 ?h0
      (fun x => { tmps := #[.slice A0 l0.length c0, .int .i64 a1, undef, undef, .slice none 0 0, .int .i64 0, .pointer (some ⟨w1.heap.size, 0, none⟩), .int .u8 x, .int .i64 a1, .bool false, .bool false, .int .i64 a1, .bool false, .bool false, .slice A0 l0.length c0, .slice Ao l0.length co, .int .i64 a1, .func (.func 53) #[] #[.pointer (some ⟨w1.heap.size + 1, 0, none⟩)], .int .u8 x, undef, undef, undef, undef, undef], defers := [] }) ?assign ?body ?hit ?done
    case hIb =>
      rintro pre m W l o o' hl ho hc ⟨⟨v, ys, hys, hv, hrow⟩, hN, hB⟩
      simp only [World.size_alloc] at hl
      refine OctI.mk v ys hys (hv.kept (grownBy_putObj' W l o') (fun e => by cases e; omega)) (ownsRow_putObj hrow o' ho hc) (hN.kept (grownBy_putObj' W l o') (fun e => by cases e; omega)) ?_
      exact hB.trans ((Below.refl _ W).grown (grownBy_putObj' W l o') hB.size (fun k e => by cases e; omega))
    case h0 =>
      intro r
      refine OctI.mk _ l0 (List.append_nil _).symm (((bO.alloc _).alloc _).alloc _) ((((hrow0.alloc _).alloc _).alloc _).alloc _) ((bN.alloc _).alloc _) ?_
      exact (((hb1.alloc hs1 _).alloc (by simp; omega) _).alloc (by simp; omega) _).alloc (by simp; omega) _
    case assign =>
      intro l x W K hK
      gi_wp2
      exact hK
    case body =>
      rintro l pre m x W ⟨⟨v, ys, hys, hv, hrow⟩, hN, hB⟩ hpl
      have hc := hv.cell
      have hlen : ys.length < 140737488355010 := by rw [hys, List.length_append]; omega
      have HY := Aside0.mk hys
      clear hys
      gi_wp2_with (gi_at_builtin; refine wpListIn_append_own _ rfl _ _ 22 rfl w.heap.size 5 i0 (.int .u8 0) 1 1 Try.underlying22 hi hz0 hz1 hz2 rfl (by decide) _ _ _ rfl (hrow.alloc _) ⟨W.heap.size, 0, none⟩ 1 1 [.int .u8 x] rfl rfl (cell_one_new _ _ _) (by simp [Value.oneCell']) (by simp only [maxLen]; omega) (by omega) (by have := hB.size; simp; omega) ?_; intro v' w5 hown' hgrow _; obtain ⟨g', cap', rfl⟩ := ownsRow_succ hown'; obtain ⟨hv1, hv2, hr2, hk2, hb2⟩ := hv.appended (by decide) hrow hB.size hs1 hown' hgrow; have hc1 := hv1.cell; have hf1 := hv1.frozen)
      refine OctI.mk _ (ys ++ [x]) (by rw [HY.out, List.append_assoc]) hv2 (by simpa using hr2) ?_ (hB.trans hb2)
      have hN1 : Boxed w5 (w1.heap.size + 1) 3 (.int .i64 m) := (hN.alloc _).kept hgrow ((hN.alloc (.cells #[.int .u8 x] 5)).not_row (by decide) (hrow.alloc _))
      exact hN1.other (by omega) _
    case hit =>
      intro l J W hJI hJ2 hY h0
      refine octet_of1_in Fence.wide 5 trivial rfl (by decide) l (w1.heap.size + 1) J (fun pre m W h => (hJI pre m W h).2.1) ?_ hY a1 (by omega) (by omega) W h0
      intro pre m m' W h
      obtain ⟨⟨v, ys, hys, hv, hrow⟩, hN, hB⟩ := hJI pre m W h
      refine hJ2 _ _ _ _ _ _ h (KeepsOthers.setCell _ _ _) (OctI.mk v ys hys (hv.kept (grownBy_setCell' W _ _) (fun e => by simp at e)) (hrow.kept (grownBy_setCell' W _ _) (.inr (hN.not_row (by decide) hrow).symm)) (hN.set _) (hB.setCell (p := ⟨w1.heap.size + 1, 0, none⟩) (by show w.heap.size ≤ w1.heap.size + 1; omega) _))
    case done =>
      rintro D xs m W hD rfl ⟨⟨v, ys, hys, hv, hrow⟩, hN, hB⟩ hK
      have hc := hv.cell
      obtain ⟨A5, c5, rfl⟩ : ∃ A c, v = .slice A ys.length c := Kd.R_slice (d := Kd.int .u8) (Kd.R_of_own (ok := fun _ => True) hrow (fun _ _ => trivial))
      have HY := Aside0.mk hys
      clear hys
      gi_wp2
      have hys := HY.out
      refine ⟨by simp, .inl ⟨_, _, rfl, run_takeDeferred hK, ?_⟩⟩
      simp only [World.size_alloc] at hD
      refine ⟨_, results_tmp2 rfl _ _ _, _, rfl, by rw [← hys]; exact Kd.R_of_own (ownsRow_putObj hrow _ hK rfl) (fun _ _ => trivial), hB.trans ((Below.refl _ W).grown (grownBy_putObj' W D _) hB.size (fun k e => by cases e; omega))⟩
  · rw [if_neg h3] at h; cases h
end
end Go.Proofs.Ytfbjabpjfalmlaa.P
namespace Go.Proofs.Ytfbjabpjfalmlaa.P
open Go.RowKit Go.Proofs.YtfbjabpjfalmlaaW.PrintWords Go.Proofs.YtfbjabpjfalmlaaW.PrintLast Go.Proofs.YtfbjabpjfalmlaaW.PrintMore
attribute [local go_sem] max2_int min2_int max_two min_two max_three min_three max_four min_four
set_option linter.unusedVariables false
set_option linter.unusedSimpArgs false
def octet_Text.f (l0 : List Int) (l1 : List Int) : Option (List Int × Int) := if (l1.length : Int) > 65535 then (some (([] : List Int), 10)) else ((octet_Number.f l0 (l1.length : Int)).bind fun bt101 => (if bt101.1.length + l1.length < 140737488355328 then (some ((bt101.1 ++ l1), bt101.2)) else (none)))
set_option maxHeartbeats 8000000 in
set_option maxRecDepth 100000 in
theorem octet_Text.calls (A0 : Option Addr) (c0 : Nat) (l0 : List Int) (A1 : Option Addr) (c1 : Nat) (l1 : List Int) (r1 : List Int) (r2 : Int) (w : World) (hr0 : Kd.C (Kd.int .u8) w A0 l0.length l0) (hc0 : l0.length ≤ c0) (hr1 : Kd.C (Kd.int .u8) w A1 l1.length l1) (hc1 : l1.length ≤ c1) (h : octet_Text.f l0 l1 = some (r1, r2)) :
    Calls Try.prog 39 #[.slice A0 l0.length c0, .slice A1 l1.length c1] w fun e w' => ∃ v0_ : Value, e = .returned (.tuple #[v0_, .int .i64 r2]) ∧ Kd.R (Kd.int .u8) 5 w' w.heap.size (fun _ => True) v0_ r1 ∧ Below w.heap.size w w' := by
  have HR0 := Aside0.mk hr0
  have HC0 := Aside0.mk hc0
  clear hr0 hc0
  have HR1 := Aside0.mk hr1
  have HC1 := Aside0.mk hc1
  clear hr1 hc1
  have HB := Aside0.mk (Below.refl w.heap.size w)
  have H : (if (l1.length : Int) > 65535 then (some (([] : List Int), 10)) else ((octet_Number.f l0 (l1.length : Int)).bind fun bt101 => (if bt101.1.length + l1.length < 140737488355328 then (some ((bt101.1 ++ l1), bt101.2)) else (none)))) = some (r1, r2) := h
  clear h
  by_cases c3 : (l1.length : Int) > 65535
  · rw [if_pos c3] at H
    have c3b0 : decide (65535 < (l1.length : Int)) = true := decide_eq_true c3
    have c3b1 : decide (65535 < l1.length) = true := decide_eq_true (by omega)
    clear c3
    simp only [Option.some.injEq, Prod.mk.injEq] at H
    obtain ⟨rfl, rfl⟩ := H
    go_enter Try.func39, Try.ntmps39
    go_wp2
    go_ret2
    exact ⟨_, by first | rfl | (simp [errW_none, errW_some] <;> rfl) | (simp [*, errW_none, errW_some] <;> rfl), by first | exact Kd.R_nil _ _ _ _ _ | exact Kd.N_nil _ _ _ _ _ | exact Kd.V_nil _ _ _ _ _ | exact Kd.Q_nil _ _ _ _ _ | exact Kd.S_nil _ _ _ _ _, by repeat (first | (with_reducible first | exact HB.out | apply below_alloc | apply pw_below_drewN | apply below_drew1) | exact HB.out)⟩
  · rw [if_neg c3] at H
    have c3b0 : decide (65535 < (l1.length : Int)) = false := decide_eq_false c3
    have c3b1 : decide (65535 < l1.length) = false := decide_eq_false (by omega)
    clear c3
    replace H := Option.bind_eq_some_iff.mp H
    obtain ⟨⟨t101, t102⟩, A40, H⟩ := H
    replace H : (if t101.length + l1.length < 140737488355328 then (some ((t101 ++ l1), t102)) else (none)) = some (r1, r2) := H
    have A4 := Aside0.mk A40
    clear A40
    by_cases c5 : t101.length + l1.length < 140737488355328
    · rw [if_pos c5] at H
      have LMc5 := Aside0.mk c5
      clear c5
      obtain ⟨y105, hy105⟩ : ∃ y_ : List Int, y_ = (t101 ++ l1) := ⟨_, rfl⟩
      replace H : (some (y105, t102)) = some (r1, r2) := by first | (rw [hy105]; with_reducible exact H) | (have H2_ := (Option.bind_some _ _).symm.trans H; rw [hy105]; with_reducible exact H2_) | (have H2_ := (Option.bind_some _ _).symm.trans H; with_reducible exact H2_) | with_reducible exact H | (rw [hy105]; exact H) | exact H
      have Ny105 := Aside0.mk hy105
      clear hy105
      simp only [Option.some.injEq, Prod.mk.injEq] at H
      obtain ⟨rfl, rfl⟩ := H
      go_enter Try.func39, Try.ntmps39
      go_wp2_with (first | ((with_reducible refine gate_callee (f := 38) rfl ?_); refine goesL_ (some 15) rfl rfl Try.func38 (by kernel_rfl) rfl #[.slice A0 l0.length c0, .int .i64 (l1.length : Int)] rfl (by (try simp only [List.map_toArray, List.map_cons, List.map_nil]); first | done | rfl | (simp only [List.length_drop, List.length_take]; rfl)) ?_; (with_reducible refine (octet_Number.calls _ _ l0 (l1.length : Int) t101 t102 _ ?side1 ?side2 A4.out).mono ?_); (case side1 => repeat (first | exact HR0.out | (with_reducible refine Kd.C_alloc ?_ _) | (with_reducible refine Kd.C_drewN ?_ _) | (with_reducible refine Kd.C_drew ?_))); (case side2 => exact HC0.out); rintro e w6 ⟨v103, rfl, ho0, hb⟩; refine ⟨_, rfl, ?_⟩; have n0_ := Aside0.mk (Kd.R_lower ho0 (below_size (by repeat (first | (with_reducible first | exact HB.out | apply below_alloc | apply pw_below_drewN | apply below_drew1) | exact HB.out)))); have n1_ := Aside0.mk (below_step (by repeat (first | (with_reducible first | exact HB.out | apply below_alloc | apply pw_below_drewN | apply below_drew1) | exact HB.out)) hb); clear HB; have HO104 := n0_; have HB := n1_; clear n0_ n1_; (try clear hb); (try clear hb2); (try clear hk); (try clear hi); (try clear ho0)) | ((with_reducible refine gate_builtin (b := .append) (xs := #[.tmp 18, .tmp 19]) rfl ?_); at_builtin; refine Kd.R_append_rows (Kd.int .u8) (w0 := w) w.heap.size rfl (.tmp 18) (.tmp 19) 22 5 (.int .u8 0) 1 rfl Try.underlying22 info5 rfl (by decide) (by omega) v103 t101 l1 _ _ _ (fun _ => True) (fun _ => False) rfl rfl ?aO ?aR (fun _ _ h => h) (fun _ h => h.elim) ?aF ?aB ?aS ?aL ?_; (case aR => repeat (first | exact (Kd.C_below HR1.out HB.out) | (with_reducible refine Kd.C_alloc ?_ _) | (with_reducible refine Kd.C_drewN ?_ _) | (with_reducible refine Kd.C_drew ?_))); (case aB => exact (by repeat (first | (with_reducible first | exact HB.out | apply below_alloc | apply pw_below_drewN | apply below_drew1) | exact HB.out))); (case aF => exact (fun _ _ => trivial)); (case aO => exact (by (with_reducible repeat (first | apply Kd.R_alloc | apply Kd.R_drewN | apply Kd.R_drew)); exact HO104.out)); (case aS => exact (below_size (by repeat (first | (with_reducible first | exact HB.out | apply below_alloc | apply pw_below_drewN | apply below_drew1) | exact HB.out)))); (case aL => have := LMc5.out; omega); intro v106 w7 ho hb hg hat; rw [← Ny105.out] at ho; have n0_ := Aside0.mk (hb); have n1_ := Aside0.mk (ho); clear HB; clear HO104; have HB := n0_; have HO107 := n1_; clear n0_ n1_; clear ho hb hg hat))
      go_ret2
      exact ⟨_, by first | rfl | (simp [errW_none, errW_some] <;> rfl) | (simp [*, errW_none, errW_some] <;> rfl), by (with_reducible repeat (first | apply Kd.R_alloc | apply Kd.R_drewN | apply Kd.R_drew)); exact HO107.out, by repeat (first | (with_reducible first | exact HB.out | apply below_alloc | apply pw_below_drewN | apply below_drew1) | exact HB.out)⟩
    · rw [if_neg c5] at H
      exact absurd H (by simp)
end Go.Proofs.Ytfbjabpjfalmlaa.P
namespace Go.Proofs.Ytfbjabpjfalmlaa.P
open Go.RowKit Go.Proofs.YtfbjabpjfalmlaaW.PrintWords Go.Proofs.YtfbjabpjfalmlaaW.PrintLast Go.Proofs.YtfbjabpjfalmlaaW.PrintMore
attribute [local go_sem] max2_int min2_int max_two min_two max_three min_three max_four min_four
set_option linter.unusedVariables false
set_option linter.unusedSimpArgs false
def lostV (e : Int) : PanicEntry := { v := .iface 64 (.agg #[.int .i64 e]), recovered := false }
set_option maxHeartbeats 1000000 in
theorem must_int_ok (n : Int) (v : Value) (w : World) : Calls Try.prog 42 #[.int .i64 n, v, .int .i64 0] w fun e w' => e = .returned (.tuple #[.int .i64 n, v]) ∧ w' = w := by
  go_enter Try.func42, Try.ntmps42
  go_wp2
  go_ret2
  exact ⟨rfl, rfl⟩
set_option maxHeartbeats 1000000 in
theorem must_int_bad (n : Int) (v : Value) (x : Int) (hx : (x != 0) = true) (w : World) : Calls Try.prog 42 #[.int .i64 n, v, .int .i64 x] w fun e w' => e = .panicked [lostV x] ∧ w' = w := by
  have hu := Try.underlying64
  go_enter Try.func42, Try.ntmps42
  go_wp2
  exact ⟨rfl, rfl, rfl⟩
set_option maxHeartbeats 1000000 in
theorem must_row_ok (u v : Value) (w : World) : Calls Try.prog 45 #[u, v, .int .i64 0] w fun e w' => e = .returned (.tuple #[u, v]) ∧ w' = w := by
  go_enter Try.func45, Try.ntmps45
  go_wp2
  go_ret2
  exact ⟨rfl, rfl⟩
set_option maxHeartbeats 1000000 in
theorem must_row_bad (u v : Value) (x : Int) (hx : (x != 0) = true) (w : World) : Calls Try.prog 45 #[u, v, .int .i64 x] w fun e w' => e = .panicked [lostV x] ∧ w' = w := by
  have hu := Try.underlying64
  go_enter Try.func45, Try.ntmps45
  go_wp2
  exact ⟨rfl, rfl, rfl⟩
theorem goesP_ {P : Program} {ops : Array Oper} {Q : Exit → Act → World → Prop} {oi : Oper} {N : Option Tmp} {a : Act} {w : World} {K : Act → World → Prop} {f : FuncId} {fn : Func} {xs : Array Operand} {ts : Array TypeId} (hf : P.funcs[f]? = some fn) (hname : (fn.name == "runtime.NumGoroutine") = false) (hb : fn.body.isSome = true) (args : Array Value)
    (hw : Region.wanted oi (yielded ops a.tmps) = true) (hN : oi.dst = N) (hop : oi.op = .call { callee := .value (.func f), args := xs, argTypes := ts }) (hargs : xs.map a.eval = args)
    (h : Calls P f args w fun
      | .returned v, w'' => K (a.put N v) w''
      | .panicked chain, w'' => Q (.panic chain) a w''
      | .outgrown, _ => LetsOut Q) : if Region.wanted oi (yielded ops a.tmps) = true then Oper.wp P oi a w K Q else K (a.put N undef) w := by
  have he := enters_ hf hname hb args w
  have hrun : (execOp a.eval oi).run P w = .ok (.enter f args) w := by
    unfold execOp
    simp [hop, resolve, Deferred.ofValue, invoke, Act.eval, hargs, he]
  rw [if_pos hw]
  subst hN
  unfold Oper.wp
  rw [hrun, Oper.upon_enter]
  exact h
theorem goesV_ {P : Program} {ops : Array Oper} {Q : Exit → Act → World → Prop} {oi : Oper} {N : Option Tmp} {a : Act} {w : World} {K : Act → World → Prop} (f : FuncId) (args : Array Value)
    (hw : Region.wanted oi (yielded ops a.tmps) = true) (hN : oi.dst = N) (hrun : (execOp a.eval oi).run P w = .ok (.enter f args) w)
    (h : Calls P f args w fun
      | .returned v, w'' => K (a.put N v) w''
      | .panicked chain, w'' => Q (.panic chain) a w''
      | .outgrown, _ => LetsOut Q) : if Region.wanted oi (yielded ops a.tmps) = true then Oper.wp P oi a w K Q else K (a.put N undef) w := by
  rw [if_pos hw]
  subst hN
  unfold Oper.wp
  rw [hrun, Oper.upon_enter]
  exact h
theorem Kd.V_lower' {α : Type} {d : Kd α} {e base base' : Nat} {W : World} {v : Value} {xs : List α} {p : Nat → Prop} (h : d.V e W base p v xs) (hb : base' ≤ base) : d.V e W base' p v xs := Kd.V_lower h hb
set_option maxHeartbeats 4000000 in
set_option maxRecDepth 100000 in
theorem number_calls (gB g1 : Nat) (A : Option Addr) (c : Nat) (l : List Int) (n : Int) (t : List Int) (x : Int) (W : World) (hne : gB ≠ g1) (hB : W.heap[gB]? = some (.cells #[.slice A l.length c] 22 (0, 0))) (h1 : W.heap[g1]? = some (.cells #[.pointer (some ⟨gB, 0, none⟩)] 57 (0, 0)))
    (hr : Kd.C (Kd.int .u8) W A l.length l) (hc : l.length ≤ c) (hf : octet_Take.f l = some (n, t, x)) :
    Calls Try.prog 41 #[.pointer (some ⟨g1, 0, none⟩)] W fun e W' => (x = 0 ∧ e = .returned (.int .i64 n) ∧ ∃ v W1, Kd.R (Kd.int .u8) 5 W1 W.heap.size (fun _ => True) v t ∧ Below W.heap.size W W1 ∧ W' = W1.setCell ⟨gB, 0, none⟩ v) ∨ (x ≠ 0 ∧ e = .panicked [lostV x] ∧ Below W.heap.size W W') := by
  have hTk := fun W' hb => octet_Take.calls A c l n t x W' (Kd.C_below hr (show Below W.heap.size W W' from hb)) hc hf
  have HB := Aside0.mk hB
  have H1 := Aside0.mk h1
  clear hB h1 hr hc hf
  go_enter Try.func41, Try.ntmps41
  go_wp2
  have HB0 := Aside0.mk (show W.drew.heap[gB]? = _ from HB.out)
  have H10 := Aside0.mk (show W.drew.heap[g1]? = _ from H1.out)
  have HL0 := Aside0.mk (below_drew1 (Below.refl W.heap.size W))
  refine start_ (n := 15) (S := fun w' => w'.cell? ⟨g1, 0, none⟩ = some (.pointer (some ⟨gB, 0, none⟩)) ∧ w'.cell? ⟨gB, 0, none⟩ = some (.slice A l.length c)) (ds := [14]) #[false, false, false, false, false, false, false, false, false, false, false, false, false, false, false] (by kernel_rfl) rfl rfl ⟨(blk_cell H10.out 0).trans rfl, (blk_cell HB0.out 0).trans rfl⟩ (fun hHeld => ?_)
  generalize W.drew = w0 at HB0 H10 HL0 hHeld ⊢
  refine take_ (i := 0) (N := some 3) (v := ?_) (a' := ?_) #[true, false, false, false, false, false, false, false, false, false, false, false, false, false, false] rfl rfl (by kernel_rfl) (fun _ _ _ h => h) (Or.inl ⟨by rfl, ?_⟩) hHeld ?_ ?_
  rotate_left
  · rintro w' ⟨s0, s1⟩
    go_simp
    with_reducible rfl
  rotate_left
  · simp only [Act.put, List.setIfInBounds_toArray, List.set_cons_zero, List.set_cons_succ]
    rfl
  refine take_ (i := 1) (N := some 4) (v := ?_) (a' := ?_) #[true, true, false, false, false, false, false, false, false, false, false, false, false, false, false] rfl rfl (by kernel_rfl) (fun _ _ _ h => h) (Or.inl ⟨by rfl, ?_⟩) hHeld ?_ ?_
  rotate_left
  · rintro w' ⟨s0, s1⟩
    go_simp
    with_reducible rfl
  rotate_left
  · simp only [Act.put, List.setIfInBounds_toArray, List.set_cons_zero, List.set_cons_succ]
    rfl
  refine pure_ (i := 2) (N := some 5) (v := ?_) (a' := ?_) #[true, true, true, false, false, false, false, false, false, false, false, false, false, false, false] rfl rfl (by kernel_rfl) (fun _ _ _ h => h) (Or.inl ⟨by rfl, ?_⟩) ?_ ?_
  rotate_left
  · intro w'
    go_simp
    with_reducible rfl
  rotate_left
  · simp only [Act.put, List.setIfInBounds_toArray, List.set_cons_zero, List.set_cons_succ]
    rfl
  refine take_ (i := 3) (N := some 6) (v := ?_) (a' := ?_) #[true, true, true, true, false, false, false, false, false, false, false, false, false, false, false] rfl rfl (by kernel_rfl) (fun _ _ _ h => h) (Or.inl ⟨by rfl, ?_⟩) hHeld ?_ ?_
  rotate_left
  · rintro w' ⟨s0, s1⟩
    go_simp
    with_reducible rfl
  rotate_left
  · simp only [Act.put, List.setIfInBounds_toArray, List.set_cons_zero, List.set_cons_succ]
    rfl
  refine one_ (i := 4) (N := some 7) #[true, true, true, true, true, false, false, false, false, false, false, false, false, false, false] rfl rfl (by kernel_rfl) (by decide) (fun K hK => ?_)
  refine goes_ Try.func43 (by kernel_rfl) rfl #[.slice A l.length c] (by rfl) rfl rfl (by (try simp only [List.map_toArray, List.map_cons, List.map_nil]); first | done | rfl) ?_
  refine (hTk _ HL0.out).mono ?_
  rintro e w1 ⟨v, rfl, hv, hb⟩
  obtain ⟨Av, cv, rfl⟩ := Kd.R_slice hv
  have HV := Aside0.mk (Kd.R_mono (ok' := fun _ => True) (Kd.R_lower hv HL0.out.size) (fun _ _ => trivial))
  have HB1 := Aside0.mk (blk_below HB0.out hb)
  have H11 := Aside0.mk (blk_below H10.out hb)
  have HL1 := Aside0.mk (below_step HL0.out hb)
  clear hv hb
  refine ⟨_, rfl, ?_⟩
  refine hK.out _ _ ⟨(blk_cell H11.out 0).trans rfl, (blk_cell HB1.out 0).trans rfl⟩ (fun hHeld => ?_)
  clear hK K
  refine norm_ (a' := ?_) ?_ ?_
  rotate_left
  · show Act.put _ (some 7) _ = _
    simp only [Act.put, List.setIfInBounds_toArray, List.set_cons_zero, List.set_cons_succ]
    rfl
  refine pure_ (i := 5) (N := some 8) (v := ?_) (a' := ?_) #[true, true, true, true, true, true, false, false, false, false, false, false, false, false, false] rfl rfl (by kernel_rfl) (fun _ _ _ h => h) (Or.inl ⟨by rfl, ?_⟩) ?_ ?_
  rotate_left
  · intro w'
    go_simp
    with_reducible rfl
  rotate_left
  · simp only [Act.put, List.setIfInBounds_toArray, List.set_cons_zero, List.set_cons_succ]
    rfl
  refine pure_ (i := 6) (N := some 9) (v := ?_) (a' := ?_) #[true, true, true, true, true, true, true, false, false, false, false, false, false, false, false] rfl rfl (by kernel_rfl) (fun _ _ _ h => h) (Or.inl ⟨by rfl, ?_⟩) ?_ ?_
  rotate_left
  · intro w'
    go_simp
    with_reducible rfl
  rotate_left
  · simp only [Act.put, List.setIfInBounds_toArray, List.set_cons_zero, List.set_cons_succ]
    rfl
  refine pure_ (i := 7) (N := some 10) (v := ?_) (a' := ?_) #[true, true, true, true, true, true, true, true, false, false, false, false, false, false, false] rfl rfl (by kernel_rfl) (fun _ _ _ h => h) (Or.inl ⟨by rfl, ?_⟩) ?_ ?_
  rotate_left
  · intro w'
    go_simp
    with_reducible rfl
  rotate_left
  · simp only [Act.put, List.setIfInBounds_toArray, List.set_cons_zero, List.set_cons_succ]
    rfl
  by_cases hx : x = 0
  case neg =>
    refine one_ (i := 8) (N := some 11) #[true, true, true, true, true, true, true, true, true, false, false, false, false, false, false] rfl rfl (by kernel_rfl) (by decide) (fun K hK => ?_)
    refine goesP_ Try.func42 (by kernel_rfl) rfl #[.int .i64 n, .slice Av t.length cv, .int .i64 x] (by rfl) rfl rfl (by (try simp only [List.map_toArray, List.map_cons, List.map_nil]); first | done | rfl) ?_
    refine (must_int_bad n _ x (by simpa using hx) w1).mono ?_
    rintro e w2 ⟨rfl, rfl⟩
    exact ⟨rfl, .inr ⟨hx, rfl, HL1.out⟩⟩
  subst hx
  refine one_ (i := 8) (N := some 11) #[true, true, true, true, true, true, true, true, true, false, false, false, false, false, false] rfl rfl (by kernel_rfl) (by decide) (fun K hK => ?_)
  refine goes_ Try.func42 (by kernel_rfl) rfl #[.int .i64 n, .slice Av t.length cv, .int .i64 0] (by rfl) rfl rfl (by (try simp only [List.map_toArray, List.map_cons, List.map_nil]); first | done | rfl) ?_
  refine (must_int_ok n _ w1).mono ?_
  rintro e w2 ⟨rfl, rfl⟩
  refine ⟨_, rfl, ?_⟩
  refine hK.out _ _ hHeld (fun hHeld => ?_)
  clear hK K
  refine norm_ (a' := ?_) ?_ ?_
  rotate_left
  · show Act.put _ (some 11) _ = _
    simp only [Act.put, List.setIfInBounds_toArray, List.set_cons_zero, List.set_cons_succ]
    rfl
  refine pure_ (i := 9) (N := some 2) (v := ?_) (a' := ?_) #[true, true, true, true, true, true, true, true, true, true, false, false, false, false, false] rfl rfl (by kernel_rfl) (fun _ _ _ h => h) (Or.inl ⟨by rfl, ?_⟩) ?_ ?_
  rotate_left
  · intro w'
    go_simp
    with_reducible rfl
  rotate_left
  · simp only [Act.put, List.setIfInBounds_toArray, List.set_cons_zero, List.set_cons_succ]
    rfl
  refine pure_ (i := 10) (N := some 12) (v := ?_) (a' := ?_) #[true, true, true, true, true, true, true, true, true, true, true, false, false, false, false] rfl rfl (by kernel_rfl) (fun _ _ _ h => h) (Or.inl ⟨by rfl, ?_⟩) ?_ ?_
  rotate_left
  · intro w'
    go_simp
    with_reducible rfl
  rotate_left
  · simp only [Act.put, List.setIfInBounds_toArray, List.set_cons_zero, List.set_cons_succ]
    rfl
  refine pure_ (i := 11) (N := some 13) (v := ?_) (a' := ?_) #[true, true, true, true, true, true, true, true, true, true, true, true, false, false, false] rfl rfl (by kernel_rfl) (fun _ _ _ h => h) (Or.inl ⟨by rfl, ?_⟩) ?_ ?_
  rotate_left
  · intro w'
    go_simp
    with_reducible rfl
  rotate_left
  · simp only [Act.put, List.setIfInBounds_toArray, List.set_cons_zero, List.set_cons_succ]
    rfl
  refine pure_ (i := 12) (N := some 1) (v := ?_) (a' := ?_) #[true, true, true, true, true, true, true, true, true, true, true, true, true, false, false] rfl rfl (by kernel_rfl) (fun _ _ _ h => h) (Or.inl ⟨by rfl, ?_⟩) ?_ ?_
  rotate_left
  · intro w'
    go_simp
    with_reducible rfl
  rotate_left
  · simp only [Act.put, List.setIfInBounds_toArray, List.set_cons_zero, List.set_cons_succ]
    rfl
  refine pure_ (i := 13) (N := some 14) (v := ?_) (a' := ?_) #[true, true, true, true, true, true, true, true, true, true, true, true, true, true, false] rfl rfl (by kernel_rfl) (fun _ _ _ h => h) (Or.inl ⟨by rfl, ?_⟩) ?_ ?_
  rotate_left
  · intro w'
    go_simp
    with_reducible rfl
  rotate_left
  · simp only [Act.put, List.setIfInBounds_toArray, List.set_cons_zero, List.set_cons_succ]
    rfl
  have hfz := blk_frozen HB1.out 0
  have hcz := (blk_cell HB1.out 0).trans (show _ = some _ from rfl)
  refine last_ (i := 14) (N := none) #[true, true, true, true, true, true, true, true, true, true, true, true, true, true, true] rfl rfl (by kernel_rfl) (by decide) (fun K hK => ?_)
  refine skip_ (w1 := ?_) (by rfl) rfl ?_ ?_
  rotate_left
  · go_simp
    rfl
  refine hK.out _ _ ?_
  clear hK K
  refine done_ (by kernel_rfl) ?_
  go_wp2
  go_ret
  first | exact .inl ⟨rfl, rfl, _, _, HV.out, HL1.out, rfl⟩ | exact ⟨rfl, _, _, HV.out, HL1.out, rfl⟩
set_option maxHeartbeats 4000000 in
set_option maxRecDepth 100000 in
theorem text_calls (gB g1 : Nat) (A : Option Addr) (c : Nat) (l : List Int) (s : List Int) (t : List Int) (x : Int) (W : World) (hne : gB ≠ g1) (hB : W.heap[gB]? = some (.cells #[.slice A l.length c] 22 (0, 0))) (h1 : W.heap[g1]? = some (.cells #[.pointer (some ⟨gB, 0, none⟩)] 57 (0, 0)))
    (hr : Kd.C (Kd.int .u8) W A l.length l) (hc : l.length ≤ c) (hf : octet_TakeText.f l = some (s, t, x)) :
    Calls Try.prog 44 #[.pointer (some ⟨g1, 0, none⟩)] W fun e W' => (x = 0 ∧ ∃ u, e = .returned u ∧ ∃ v W1, Kd.V (Kd.int .u8) 5 W1 W.heap.size (fun k_ => W.heap.size ≤ k_) u s ∧ Kd.R (Kd.int .u8) 5 W1 W.heap.size (fun _ => True) v t ∧ Below W.heap.size W W1 ∧ W' = W1.setCell ⟨gB, 0, none⟩ v) ∨ (x ≠ 0 ∧ e = .panicked [lostV x] ∧ Below W.heap.size W W') := by
  have hTk := fun W' hb => octet_TakeText.calls A c l s t x W' (Kd.C_below hr (show Below W.heap.size W W' from hb)) hc hf
  have HB := Aside0.mk hB
  have H1 := Aside0.mk h1
  clear hB h1 hr hc hf
  go_enter Try.func44, Try.ntmps44
  go_wp2
  have HB0 := Aside0.mk (show W.drew.heap[gB]? = _ from HB.out)
  have H10 := Aside0.mk (show W.drew.heap[g1]? = _ from H1.out)
  have HL0 := Aside0.mk (below_drew1 (Below.refl W.heap.size W))
  refine start_ (n := 15) (S := fun w' => w'.cell? ⟨g1, 0, none⟩ = some (.pointer (some ⟨gB, 0, none⟩)) ∧ w'.cell? ⟨gB, 0, none⟩ = some (.slice A l.length c)) (ds := [14]) #[false, false, false, false, false, false, false, false, false, false, false, false, false, false, false] (by kernel_rfl) rfl rfl ⟨(blk_cell H10.out 0).trans rfl, (blk_cell HB0.out 0).trans rfl⟩ (fun hHeld => ?_)
  generalize W.drew = w0 at HB0 H10 HL0 hHeld ⊢
  refine take_ (i := 0) (N := some 3) (v := ?_) (a' := ?_) #[true, false, false, false, false, false, false, false, false, false, false, false, false, false, false] rfl rfl (by kernel_rfl) (fun _ _ _ h => h) (Or.inl ⟨by rfl, ?_⟩) hHeld ?_ ?_
  rotate_left
  · rintro w' ⟨s0, s1⟩
    go_simp
    with_reducible rfl
  rotate_left
  · simp only [Act.put, List.setIfInBounds_toArray, List.set_cons_zero, List.set_cons_succ]
    rfl
  refine take_ (i := 1) (N := some 4) (v := ?_) (a' := ?_) #[true, true, false, false, false, false, false, false, false, false, false, false, false, false, false] rfl rfl (by kernel_rfl) (fun _ _ _ h => h) (Or.inl ⟨by rfl, ?_⟩) hHeld ?_ ?_
  rotate_left
  · rintro w' ⟨s0, s1⟩
    go_simp
    with_reducible rfl
  rotate_left
  · simp only [Act.put, List.setIfInBounds_toArray, List.set_cons_zero, List.set_cons_succ]
    rfl
  refine pure_ (i := 2) (N := some 5) (v := ?_) (a' := ?_) #[true, true, true, false, false, false, false, false, false, false, false, false, false, false, false] rfl rfl (by kernel_rfl) (fun _ _ _ h => h) (Or.inl ⟨by rfl, ?_⟩) ?_ ?_
  rotate_left
  · intro w'
    go_simp
    with_reducible rfl
  rotate_left
  · simp only [Act.put, List.setIfInBounds_toArray, List.set_cons_zero, List.set_cons_succ]
    rfl
  refine take_ (i := 3) (N := some 6) (v := ?_) (a' := ?_) #[true, true, true, true, false, false, false, false, false, false, false, false, false, false, false] rfl rfl (by kernel_rfl) (fun _ _ _ h => h) (Or.inl ⟨by rfl, ?_⟩) hHeld ?_ ?_
  rotate_left
  · rintro w' ⟨s0, s1⟩
    go_simp
    with_reducible rfl
  rotate_left
  · simp only [Act.put, List.setIfInBounds_toArray, List.set_cons_zero, List.set_cons_succ]
    rfl
  refine one_ (i := 4) (N := some 7) #[true, true, true, true, true, false, false, false, false, false, false, false, false, false, false] rfl rfl (by kernel_rfl) (by decide) (fun K hK => ?_)
  refine goes_ Try.func46 (by kernel_rfl) rfl #[.slice A l.length c] (by rfl) rfl rfl (by (try simp only [List.map_toArray, List.map_cons, List.map_nil]); first | done | rfl) ?_
  refine (hTk _ HL0.out).mono ?_
  rintro e w1 ⟨u, v, rfl, hu, hv, hb⟩
  obtain ⟨Av, cv, rfl⟩ := Kd.R_slice hv
  have HU := Aside0.mk (Kd.V_mono (Kd.V_lower' hu HL0.out.size) (fun k_ hk_ => Nat.le_trans HL0.out.size hk_.1))
  have HV := Aside0.mk (Kd.R_mono (ok' := fun _ => True) (Kd.R_lower hv HL0.out.size) (fun _ _ => trivial))
  have HB1 := Aside0.mk (blk_below HB0.out hb)
  have H11 := Aside0.mk (blk_below H10.out hb)
  have HL1 := Aside0.mk (below_step HL0.out hb)
  clear hu hv hb
  refine ⟨_, rfl, ?_⟩
  refine hK.out _ _ ⟨(blk_cell H11.out 0).trans rfl, (blk_cell HB1.out 0).trans rfl⟩ (fun hHeld => ?_)
  clear hK K
  refine norm_ (a' := ?_) ?_ ?_
  rotate_left
  · show Act.put _ (some 7) _ = _
    simp only [Act.put, List.setIfInBounds_toArray, List.set_cons_zero, List.set_cons_succ]
    rfl
  refine pure_ (i := 5) (N := some 8) (v := ?_) (a' := ?_) #[true, true, true, true, true, true, false, false, false, false, false, false, false, false, false] rfl rfl (by kernel_rfl) (fun _ _ _ h => h) (Or.inl ⟨by rfl, ?_⟩) ?_ ?_
  rotate_left
  · intro w'
    go_simp
    with_reducible rfl
  rotate_left
  · simp only [Act.put, List.setIfInBounds_toArray, List.set_cons_zero, List.set_cons_succ]
    rfl
  refine pure_ (i := 6) (N := some 9) (v := ?_) (a' := ?_) #[true, true, true, true, true, true, true, false, false, false, false, false, false, false, false] rfl rfl (by kernel_rfl) (fun _ _ _ h => h) (Or.inl ⟨by rfl, ?_⟩) ?_ ?_
  rotate_left
  · intro w'
    go_simp
    with_reducible rfl
  rotate_left
  · simp only [Act.put, List.setIfInBounds_toArray, List.set_cons_zero, List.set_cons_succ]
    rfl
  refine pure_ (i := 7) (N := some 10) (v := ?_) (a' := ?_) #[true, true, true, true, true, true, true, true, false, false, false, false, false, false, false] rfl rfl (by kernel_rfl) (fun _ _ _ h => h) (Or.inl ⟨by rfl, ?_⟩) ?_ ?_
  rotate_left
  · intro w'
    go_simp
    with_reducible rfl
  rotate_left
  · simp only [Act.put, List.setIfInBounds_toArray, List.set_cons_zero, List.set_cons_succ]
    rfl
  by_cases hx : x = 0
  case neg =>
    refine one_ (i := 8) (N := some 11) #[true, true, true, true, true, true, true, true, true, false, false, false, false, false, false] rfl rfl (by kernel_rfl) (by decide) (fun K hK => ?_)
    refine goesP_ Try.func45 (by kernel_rfl) rfl #[u, .slice Av t.length cv, .int .i64 x] (by rfl) rfl rfl (by (try simp only [List.map_toArray, List.map_cons, List.map_nil]); first | done | rfl) ?_
    refine (must_row_bad u _ x (by simpa using hx) w1).mono ?_
    rintro e w2 ⟨rfl, rfl⟩
    exact ⟨rfl, .inr ⟨hx, rfl, HL1.out⟩⟩
  subst hx
  refine one_ (i := 8) (N := some 11) #[true, true, true, true, true, true, true, true, true, false, false, false, false, false, false] rfl rfl (by kernel_rfl) (by decide) (fun K hK => ?_)
  refine goes_ Try.func45 (by kernel_rfl) rfl #[u, .slice Av t.length cv, .int .i64 0] (by rfl) rfl rfl (by (try simp only [List.map_toArray, List.map_cons, List.map_nil]); first | done | rfl) ?_
  refine (must_row_ok u _ w1).mono ?_
  rintro e w2 ⟨rfl, rfl⟩
  refine ⟨_, rfl, ?_⟩
  refine hK.out _ _ hHeld (fun hHeld => ?_)
  clear hK K
  refine norm_ (a' := ?_) ?_ ?_
  rotate_left
  · show Act.put _ (some 11) _ = _
    simp only [Act.put, List.setIfInBounds_toArray, List.set_cons_zero, List.set_cons_succ]
    rfl
  refine pure_ (i := 9) (N := some 2) (v := ?_) (a' := ?_) #[true, true, true, true, true, true, true, true, true, true, false, false, false, false, false] rfl rfl (by kernel_rfl) (fun _ _ _ h => h) (Or.inl ⟨by rfl, ?_⟩) ?_ ?_
  rotate_left
  · intro w'
    go_simp
    with_reducible rfl
  rotate_left
  · simp only [Act.put, List.setIfInBounds_toArray, List.set_cons_zero, List.set_cons_succ]
    rfl
  refine pure_ (i := 10) (N := some 12) (v := ?_) (a' := ?_) #[true, true, true, true, true, true, true, true, true, true, true, false, false, false, false] rfl rfl (by kernel_rfl) (fun _ _ _ h => h) (Or.inl ⟨by rfl, ?_⟩) ?_ ?_
  rotate_left
  · intro w'
    go_simp
    with_reducible rfl
  rotate_left
  · simp only [Act.put, List.setIfInBounds_toArray, List.set_cons_zero, List.set_cons_succ]
    rfl
  refine pure_ (i := 11) (N := some 13) (v := ?_) (a' := ?_) #[true, true, true, true, true, true, true, true, true, true, true, true, false, false, false] rfl rfl (by kernel_rfl) (fun _ _ _ h => h) (Or.inl ⟨by rfl, ?_⟩) ?_ ?_
  rotate_left
  · intro w'
    go_simp
    with_reducible rfl
  rotate_left
  · simp only [Act.put, List.setIfInBounds_toArray, List.set_cons_zero, List.set_cons_succ]
    rfl
  refine pure_ (i := 12) (N := some 1) (v := ?_) (a' := ?_) #[true, true, true, true, true, true, true, true, true, true, true, true, true, false, false] rfl rfl (by kernel_rfl) (fun _ _ _ h => h) (Or.inl ⟨by rfl, ?_⟩) ?_ ?_
  rotate_left
  · intro w'
    go_simp
    with_reducible rfl
  rotate_left
  · simp only [Act.put, List.setIfInBounds_toArray, List.set_cons_zero, List.set_cons_succ]
    rfl
  refine pure_ (i := 13) (N := some 14) (v := ?_) (a' := ?_) #[true, true, true, true, true, true, true, true, true, true, true, true, true, true, false] rfl rfl (by kernel_rfl) (fun _ _ _ h => h) (Or.inl ⟨by rfl, ?_⟩) ?_ ?_
  rotate_left
  · intro w'
    go_simp
    with_reducible rfl
  rotate_left
  · simp only [Act.put, List.setIfInBounds_toArray, List.set_cons_zero, List.set_cons_succ]
    rfl
  have hfz := blk_frozen HB1.out 0
  have hcz := (blk_cell HB1.out 0).trans (show _ = some _ from rfl)
  refine last_ (i := 14) (N := none) #[true, true, true, true, true, true, true, true, true, true, true, true, true, true, true] rfl rfl (by kernel_rfl) (by decide) (fun K hK => ?_)
  refine skip_ (w1 := ?_) (by rfl) rfl ?_ ?_
  rotate_left
  · go_simp
    rfl
  refine hK.out _ _ ?_
  clear hK K
  refine done_ (by kernel_rfl) ?_
  go_wp2
  go_ret
  first | exact .inl ⟨rfl, u, rfl, _, _, HU.out, HV.out, HL1.out, rfl⟩ | exact ⟨u, rfl, _, _, HU.out, HV.out, HL1.out, rfl⟩
def Oth (N : Nat) (W W' : World) : Prop := Below N W W' ∧ ∀ k, k < W.heap.size → k ≠ N → W'.heap[k]? = W.heap[k]?
theorem Oth.trans {N : Nat} {W W1 W2 : World} (h : Oth N W W1) (h2 : Oth N W1 W2) : Oth N W W2 := ⟨h.1.trans h2.1, fun k hk hn => (h2.2 k (Nat.lt_of_lt_of_le hk h.1.size) hn).trans (h.2 k hk hn)⟩
theorem Oth.of_below {N : Nat} {W W1 : World} (h : Below W.heap.size W W1) (hN : N ≤ W.heap.size) : Oth N W W1 := ⟨h.mono hN, fun k hk _ => h.block k hk⟩
theorem Oth.set {N : Nat} {W W1 : World} (h : Oth N W W1) (i : Nat) (v : Value) : Oth N W (W1.setCell ⟨N, i, none⟩ v) :=
  ⟨h.1.setCell (p := ⟨N, i, none⟩) (Nat.le_refl _) v, fun k hk hn => (Below.heap_setCell W1 ⟨N, i, none⟩ v k hn).trans (h.2 k hk hn)⟩
def Rest (N : Nat) (ok : Nat → Prop) (W : World) (v : Value) (l : List Int) : Prop := ∃ A c, v = .slice A l.length c ∧ l.length ≤ c ∧ ∀ W', Below N W W' → (∀ k, k < W.heap.size → ok k → W'.heap[k]? = W.heap[k]?) → Kd.C (Kd.int .u8) W' A l.length l
theorem Rest.step {N : Nat} {ok : Nat → Prop} {W W1 : World} {v : Value} {l : List Int} (h : Rest N ok W v l) (hb : Below N W W1) (hm : ∀ k, k < W.heap.size → ok k → W1.heap[k]? = W.heap[k]?) : Rest N ok W1 v l := by
  obtain ⟨A, c, e, hc, hr⟩ := h
  exact ⟨A, c, e, hc, fun W' hb' hm' => hr W' (hb.trans hb') (fun k hk hM => (hm' k (Nat.lt_of_lt_of_le hk hb.size) hM).trans (hm k hk hM))⟩
theorem Rest.of_C {ok : Nat → Prop} {w W : World} {A : Option Addr} {c : Nat} {l : List Int} (h : Kd.C (Kd.int .u8) w A l.length l) (hc : l.length ≤ c) (hb : Below w.heap.size w W) : Rest w.heap.size ok W (.slice A l.length c) l :=
  ⟨A, c, rfl, hc, fun _ hb' _ => Kd.C_below h (hb.trans hb')⟩
theorem Rest.of_V {N : Nat} {ok ok' : Nat → Prop} {W : World} {base : Nat} {v : Value} {l : List Int} (h : Kd.V (Kd.int .u8) 5 W base ok v l) (hok : ∀ k, ok k → ok' k) : Rest N ok' W v l := by
  obtain ⟨A, c, rfl⟩ := Kd.V_slice h
  refine ⟨A, c, rfl, (Kd.V_reads' h).2.1, fun W' hb' hm => (Kd.V_reads' (Kd.V_step h (fun k hk hl => hm k hl (hok k hk)))).2.2⟩
theorem Rest.mono {N : Nat} {ok ok' : Nat → Prop} {W : World} {v : Value} {l : List Int} (h : Rest N ok W v l) (hok : ∀ k, k < W.heap.size → ok k → ok' k) : Rest N ok' W v l := by
  obtain ⟨A, c, e, hc, hr⟩ := h
  exact ⟨A, c, e, hc, fun W' hb' hm => hr W' hb' (fun k hk ho => hm k hk (hok k hk ho))⟩
theorem R_old_V {W1 : World} {base : Nat} {v : Value} {t : List Int} {ok : Nat → Prop} (h : Kd.R (Kd.int .u8) 5 W1 base ok v t) : Kd.V (Kd.int .u8) 5 W1 base (fun k_ => base ≤ k_) v t :=
  Kd.R_V (Kd.R_mono (Kd.R_tight rfl h) (fun k_ hk_ => Kd.R_base h k_ hk_.symm))
structure TkS (N M : Nat) (ok : Nat → Prop) (W : World) (l : List Int) : Prop where
  bx : ∃ v, W.heap[N]? = some (.cells #[v] 22 (0, 0)) ∧ Rest N ok W v l
  p2 : W.heap[N + 2]? = some (.cells #[.pointer (some ⟨N, 0, none⟩)] 57 (0, 0))
  p3 : W.heap[N + 3]? = some (.cells #[.func (.func 41) #[] #[.pointer (some ⟨N + 2, 0, none⟩)]] 53 (0, 0))
  p4 : W.heap[N + 4]? = some (.cells #[.func (.func 41) #[] #[.pointer (some ⟨N + 2, 0, none⟩)]] 53 (0, 0))
  p5 : W.heap[N + 5]? = some (.cells #[.func (.func 44) #[] #[.pointer (some ⟨N + 2, 0, none⟩)]] 54 (0, 0))
  p6 : W.heap[N + 6]? = some (.cells #[.func (.func 47) #[] #[.pointer (some ⟨N + 3, 0, none⟩)]] 25 (0, 0))
  hM : N + 7 ≤ M
  hs : M ≤ W.heap.size
  hok : ∀ k, W.heap.size ≤ k → ok k
theorem TkS.oth {N M : Nat} {ok : Nat → Prop} {W W1 : World} {l l' : List Int} (h : TkS N M ok W l) (ho : Oth N W W1) (hb : ∃ v, W1.heap[N]? = some (.cells #[v] 22 (0, 0)) ∧ Rest N ok W1 v l') : TkS N M ok W1 l' := by
  have hM := h.hM
  have hs := h.hs
  exact ⟨hb, (ho.2 _ (by omega) (by omega)).trans h.p2, (ho.2 _ (by omega) (by omega)).trans h.p3, (ho.2 _ (by omega) (by omega)).trans h.p4, (ho.2 _ (by omega) (by omega)).trans h.p5, (ho.2 _ (by omega) (by omega)).trans h.p6, hM, Nat.le_trans hs ho.1.size, fun k hk => h.hok k (Nat.le_trans ho.1.size hk)⟩
theorem TkS.keep {N M : Nat} {ok : Nat → Prop} {W W1 : World} {l : List Int} (h : TkS N M ok W l) (hb : Below N W W1) (hk : ∀ k, N ≤ k → k < N + 7 → W1.heap[k]? = W.heap[k]?) (hm : ∀ k, k < W.heap.size → ok k → W1.heap[k]? = W.heap[k]?) : TkS N M ok W1 l := by
  obtain ⟨v, hv, hr⟩ := h.bx
  exact ⟨⟨v, (hk _ (by omega) (by omega)).trans hv, hr.step hb hm⟩, (hk _ (by omega) (by omega)).trans h.p2, (hk _ (by omega) (by omega)).trans h.p3, (hk _ (by omega) (by omega)).trans h.p4, (hk _ (by omega) (by omega)).trans h.p5, (hk _ (by omega) (by omega)).trans h.p6, h.hM, Nat.le_trans h.hs hb.size, fun k hk => h.hok k (Nat.le_trans hb.size hk)⟩
theorem tk_set {N M : Nat} {ok : Nat → Prop} {W W1 : World} {l t : List Int} {v : Value} (h : TkS N M ok W l) (hv : Kd.R (Kd.int .u8) 5 W1 W.heap.size (fun _ => True) v t) (hb : Below W.heap.size W W1) : TkS N M ok (W1.setCell ⟨N, 0, none⟩ v) t ∧ Oth N W (W1.setCell ⟨N, 0, none⟩ v) := by
  obtain ⟨v0, hv0, _⟩ := h.bx
  have hM := h.hM
  have hs := h.hs
  have ho : Oth N W (W1.setCell ⟨N, 0, none⟩ v) := (Oth.of_below hb (by omega)).set 0 v
  refine ⟨h.oth ho ⟨v, ?_, ?_⟩, ho⟩
  · have := blk_set ((hb.block _ (blk_lt hv0)).trans hv0) 0 v
    simpa using this
  · exact Rest.of_V (Kd.V_far (R_old_V hv) (p := ⟨N, 0, none⟩) (fun k hk => by show k ≠ N; omega) v) (fun k hk => h.hok k hk)
theorem numberS {N M : Nat} {ok : Nat → Prop} {W : World} {l t : List Int} {n : Int} (h : TkS N M ok W l) (hf : octet_Take.f l = some (n, t, 0)) :
    Calls Try.prog 41 #[.pointer (some ⟨N + 2, 0, none⟩)] W fun e W' => e = .returned (.int .i64 n) ∧ TkS N M ok W' t ∧ Oth N W W' := by
  obtain ⟨v, hv, A, c, rfl, hc, hr⟩ := h.bx
  refine (number_calls N (N + 2) A c l n t 0 W (by omega) hv h.p2 (hr W (Below.refl _ _) (fun _ _ _ => rfl)) hc hf).mono ?_
  rintro e W' (⟨_, rfl, v', W1, hv', hb, rfl⟩ | ⟨h0, _⟩)
  · exact ⟨rfl, tk_set h hv' hb⟩
  · exact absurd rfl h0
theorem numberX {N M : Nat} {ok : Nat → Prop} {W : World} {l t : List Int} {n x : Int} (h : TkS N M ok W l) (hx : x ≠ 0) (hf : octet_Take.f l = some (n, t, x)) :
    Calls Try.prog 41 #[.pointer (some ⟨N + 2, 0, none⟩)] W fun e W' => e = .panicked [lostV x] ∧ Below W.heap.size W W' := by
  obtain ⟨v, hv, A, c, rfl, hc, hr⟩ := h.bx
  refine (number_calls N (N + 2) A c l n t x W (by omega) hv h.p2 (hr W (Below.refl _ _) (fun _ _ _ => rfl)) hc hf).mono ?_
  rintro e W' (⟨h0, _⟩ | ⟨_, rfl, hb⟩)
  · exact absurd h0 hx
  · exact ⟨rfl, hb⟩
theorem textS {N M : Nat} {ok : Nat → Prop} {W : World} {l s t : List Int} (h : TkS N M ok W l) (hf : octet_TakeText.f l = some (s, t, 0)) :
    Calls Try.prog 44 #[.pointer (some ⟨N + 2, 0, none⟩)] W fun e W' => ∃ u, e = .returned u ∧ Kd.V (Kd.int .u8) 5 W' W.heap.size (fun k_ => W.heap.size ≤ k_) u s ∧ TkS N M ok W' t ∧ Oth N W W' := by
  obtain ⟨v, hv, A, c, rfl, hc, hr⟩ := h.bx
  have hM := h.hM
  have hs := h.hs
  refine (text_calls N (N + 2) A c l s t 0 W (by omega) hv h.p2 (hr W (Below.refl _ _) (fun _ _ _ => rfl)) hc hf).mono ?_
  rintro e W' (⟨_, u, rfl, v', W1, hu, hv', hb, rfl⟩ | ⟨h0, _⟩)
  · exact ⟨u, rfl, Kd.V_far hu (p := ⟨N, 0, none⟩) (fun k hk => by show k ≠ N; omega) v', tk_set h hv' hb⟩
  · exact absurd rfl h0
theorem textX {N M : Nat} {ok : Nat → Prop} {W : World} {l s t : List Int} {x : Int} (h : TkS N M ok W l) (hx : x ≠ 0) (hf : octet_TakeText.f l = some (s, t, x)) :
    Calls Try.prog 44 #[.pointer (some ⟨N + 2, 0, none⟩)] W fun e W' => e = .panicked [lostV x] ∧ Below W.heap.size W W' := by
  obtain ⟨v, hv, A, c, rfl, hc, hr⟩ := h.bx
  refine (text_calls N (N + 2) A c l s t x W (by omega) hv h.p2 (hr W (Below.refl _ _) (fun _ _ _ => rfl)) hc hf).mono ?_
  rintro e W' (⟨h0, _⟩ | ⟨_, rfl, hb⟩)
  · exact absurd h0 hx
  · exact ⟨rfl, hb⟩
set_option maxHeartbeats 2000000 in
theorem flagS {N M : Nat} {ok : Nat → Prop} {W : World} {l t : List Int} {n : Int} (h : TkS N M ok W l) (hn : n ≤ 1) (hf : octet_Take.f l = some (n, t, 0)) :
    Calls Try.prog 47 #[.pointer (some ⟨N + 3, 0, none⟩)] W fun e W' => e = .returned (.bool (n == 1)) ∧ TkS N M ok W' t ∧ Oth N W W' := by
  have hc := (blk_cell h.p3 0).trans (show _ = some _ from rfl)
  have hN := Aside0.mk (numberS h hf)
  have hn' : ¬ 1 < n := by omega
  clear h hf hn
  go_enter Try.func47, Try.ntmps47
  go_wp2_with (go_at_call 41; (with_reducible refine hN.out.mono ?_); rintro e W1 ⟨rfl, ht, ho⟩; have HT := Aside0.mk ht; have HO := Aside0.mk ho; clear ht ho)
  go_ret
  exact ⟨rfl, HT.out, HO.out⟩
set_option maxHeartbeats 2000000 in
theorem flagB {N M : Nat} {ok : Nat → Prop} {W : World} {l t : List Int} {n : Int} (h : TkS N M ok W l) (hn : 1 < n) (hf : octet_Take.f l = some (n, t, 0)) :
    Calls Try.prog 47 #[.pointer (some ⟨N + 3, 0, none⟩)] W fun e W' => e = .panicked [lostV 210] ∧ Oth N W W' := by
  have hc := (blk_cell h.p3 0).trans (show _ = some _ from rfl)
  have hu := Try.underlying64
  have hN := Aside0.mk (numberS h hf)
  clear h hf
  go_enter Try.func47, Try.ntmps47
  go_wp2_with (go_at_call 41; (with_reducible refine hN.out.mono ?_); rintro e W1 ⟨rfl, ht, ho⟩; have HO := Aside0.mk ho; clear ht ho)
  exact ⟨rfl, rfl, HO.out⟩
set_option maxHeartbeats 2000000 in
theorem flagX {N M : Nat} {ok : Nat → Prop} {W : World} {l t : List Int} {n x : Int} (h : TkS N M ok W l) (hx : x ≠ 0) (hf : octet_Take.f l = some (n, t, x)) :
    Calls Try.prog 47 #[.pointer (some ⟨N + 3, 0, none⟩)] W fun e W' => e = .panicked [lostV x] ∧ Below W.heap.size W W' := by
  have hc := (blk_cell h.p3 0).trans (show _ = some _ from rfl)
  have hN := Aside0.mk (numberX h hx hf)
  clear h hf
  go_enter Try.func47, Try.ntmps47
  go_wp2_with (go_at_call 41; (with_reducible refine hN.out.mono ?_); rintro e W1 ⟨rfl, hb⟩; have HB := Aside0.mk hb; clear hb)
  exact ⟨rfl, rfl, HB.out⟩
set_option maxHeartbeats 4000000 in
theorem catch_lost (b : Nat) (x : Int) (older : List PanicEntry) (w : World) (hB : w.heap[b]? = some (.cells #[.bool false] 4 (0, 0))) :
    CallsD Try.prog 48 #[.pointer (some ⟨b, 0, none⟩)] (.panicking (lostV x :: older)) w fun e u' w' =>
      e = .returned (.tuple #[]) ∧ u' = .panicking ({ lostV x with recovered := true } :: older) ∧ w' = (w.alloc (.cells #[.int .i64 x] 64)).setCell ⟨b, 0, none⟩ (.bool false) := by
  have hu := Try.underlying64
  have hta : ∀ (w : World), (Instr.typeAssert (.iface 64 (.agg #[.int .i64 x])) 20 64 true).run Try.prog w = .ok (.tuple #[.agg #[.int .i64 x], .bool true]) w := fun _ => by kernel_rfl
  have hB1 := blk_alloc hB (.cells #[.int .i64 x] 64)
  have hc1 : (w.alloc (.cells #[.int .i64 x] 64)).cell? ⟨b, 0, none⟩ = some (.bool false) := (blk_cell hB1 0).trans rfl
  have hz1 := blk_frozen hB1 0
  have hne : ¬ w.heap.size = b := by have := blk_lt hB; omega
  clear hB hB1
  refine callsD_of_wpS Try.func48 rfl fun c₀ cs hu => ?_
  apply wpS_seq
  apply wpS_region
  simp [wpOpsS, go_sem, recoverD, hu, Try.ntmps48, Exit.thenS, lostV]
  simp only [List.size_toArray, List.length_cons, List.length_nil, Nat.reduceAdd, Nat.reduceSub, Array.replicate_succ, Array.replicate_zero, List.push_toArray, List.append_toArray, List.nil_append, List.cons_append, List.setIfInBounds_toArray, List.set_cons_zero, List.set_cons_succ]
  refine wpS_of_wp ?_
  go_wp2
  cases c₀
  simp_all [bodyPostS, results, Try.results48]
set_option maxHeartbeats 4000000 in
theorem catch_idle (b : Nat) (w : World) :
    CallsD Try.prog 48 #[.pointer (some ⟨b, 0, none⟩)] .returning w fun e u' w' => e = .returned (.tuple #[]) ∧ u' = .returning ∧ w' = w := by
  refine callsD_of_wpS Try.func48 rfl fun c₀ cs hu => ?_
  apply wpS_seq
  apply wpS_region
  simp [wpOpsS, go_sem, recoverD, hu, Try.ntmps48, Exit.thenS]
  simp only [List.size_toArray, List.length_cons, List.length_nil, Nat.reduceAdd, Nat.reduceSub, Array.replicate_succ, Array.replicate_zero, List.push_toArray, List.append_toArray, List.nil_append, List.cons_append, List.setIfInBounds_toArray, List.set_cons_zero, List.set_cons_succ]
  refine wpS_of_wp ?_
  go_wp2
  cases c₀
  simp_all [bodyPostS, results, Try.results48]
set_option maxHeartbeats 4000000 in
theorem take_ok (g : Nat) (caps : Array Value) (w : World) (R : World → Prop) (hR : ∀ W, R W → W.heap[w.heap.size]? = some (.cells #[.bool false] 4 (0, 0))) (eg : Enters Try.prog g)
    (hdo : Calls Try.prog g caps (w.alloc (.cells #[.bool false] 4)) fun e W => e = .returned (.tuple #[]) ∧ R W) :
    Calls Try.prog 28 #[.func (.func g) #[] caps] w fun e W' => e = .returned (.bool true) ∧ ∃ W, R W ∧ W' = W.setCell ⟨w.heap.size, 0, none⟩ (.bool true) := by
  have hmf : ∀ (fn : Fn) (first cap : Array Value) (w : World), (Instr.makeFunc fn first cap).run Try.prog w = .ok (.func fn first cap) w := fun _ _ _ _ => rfl
  have eg' : ∀ (args : Array Value) (w : World), (callFunc g args).run Try.prog w = .ok (.enter g args) w := eg
  have HR := Aside0.mk hR
  have HD := Aside0.mk hdo
  clear hR hdo
  go_enter_defers Try.func28, Try.ntmps28
  go_wp2_with (go_at_fn g; refine HD.out.mono ?_; rintro e W ⟨rfl, hW⟩; have HW := Aside0.mk hW; have hc := (blk_cell (HR.out W hW) 0).trans (show _ = some _ from rfl); have hz := blk_frozen (HR.out W hW) 0; clear hW)
  refine leaves_cons (f := 48) (args := #[.pointer (some ⟨w.heap.size, 0, none⟩)]) (by simp) (by simp [go_sem]) ?_
  refine (catch_idle w.heap.size _).mono ?_
  rintro e u' w'' ⟨rfl, rfl, rfl⟩
  have hB2 := blk_set (HR.out W HW.out) 0 (.bool true)
  have hc2 : (W.setCell ⟨w.heap.size, 0, none⟩ (.bool true)).cell? ⟨w.heap.size, 0, none⟩ = some (.bool true) := (blk_cell hB2 0).trans rfl
  simp [Leaves, settle, results, Try.results28, go_sem, hc2]
  exact ⟨W, HW.out, rfl⟩
set_option maxHeartbeats 4000000 in
theorem take_lost (g : Nat) (caps : Array Value) (w : World) (R : World → Prop) (hR : ∀ W, R W → W.heap[w.heap.size]? = some (.cells #[.bool false] 4 (0, 0))) (eg : Enters Try.prog g)
    (hdo : Calls Try.prog g caps (w.alloc (.cells #[.bool false] 4)) fun e W => ∃ x, e = .panicked [lostV x] ∧ R W) :
    Calls Try.prog 28 #[.func (.func g) #[] caps] w fun e W' => e = .returned (.bool false) ∧ ∃ x W, R W ∧ W' = (W.alloc (.cells #[.int .i64 x] 64)).setCell ⟨w.heap.size, 0, none⟩ (.bool false) := by
  have hmf : ∀ (fn : Fn) (first cap : Array Value) (w : World), (Instr.makeFunc fn first cap).run Try.prog w = .ok (.func fn first cap) w := fun _ _ _ _ => rfl
  have eg' : ∀ (args : Array Value) (w : World), (callFunc g args).run Try.prog w = .ok (.enter g args) w := eg
  have HR := Aside0.mk hR
  have HD := Aside0.mk hdo
  clear hR hdo
  go_enter_defers Try.func28, Try.ntmps28
  go_wp2_with (go_at_fn g; refine HD.out.mono ?_; rintro e W ⟨x, rfl, hW⟩; have HW := Aside0.mk hW; clear hW)
  refine leaves_cons (f := 48) (args := #[.pointer (some ⟨w.heap.size, 0, none⟩)]) (by simp) (by simp [go_sem]) ?_
  refine (catch_lost w.heap.size x [] W (HR.out W HW.out)).mono ?_
  rintro e u' w'' ⟨rfl, rfl, rfl⟩
  have hB2 := blk_set (blk_alloc (HR.out W HW.out) (.cells #[.int .i64 x] 64)) 0 (.bool false)
  have hc2 : ((W.alloc (.cells #[.int .i64 x] 64)).setCell ⟨w.heap.size, 0, none⟩ (.bool false)).cell? ⟨w.heap.size, 0, none⟩ = some (.bool false) := (blk_cell hB2 0).trans rfl
  simp [Leaves, settle, results, Try.results28, go_sem, hc2, lostV]
  exact ⟨x, W, HW.out, rfl⟩
theorem goesF_ {P : Program} {ops : Array Oper} {Q : Exit → Act → World → Prop} {oi : Oper} {N : Option Tmp} {a : Act} {w : World} {K : Act → World → Prop} {x : Operand} (f : FuncId) (caps : Array Value)
    (hw : Region.wanted oi (yielded ops a.tmps) = true) (hN : oi.dst = N) (hop : oi.op = .call { callee := .value x, args := #[], argTypes := #[] }) (hx : a.eval x = .func (.func f) #[] caps) (eg : Enters P f)
    (h : Calls P f caps w fun
      | .returned v, w'' => K (a.put N v) w''
      | .panicked chain, w'' => Q (.panic chain) a w''
      | .outgrown, _ => LetsOut Q) : if Region.wanted oi (yielded ops a.tmps) = true then Oper.wp P oi a w K Q else K (a.put N undef) w := by
  refine goesV_ f caps hw hN ?_ h
  have he := eg caps w
  unfold execOp
  simp [hop, resolve, Deferred.ofValue, invoke, hx, he]
structure RdS (N : Nat) (z1 z9 : Option Obj) (W0 W : World) (l : List Int) (s : Value) (o : Array Value) : Prop where
  tk : TkS N (N + 9) (fun k_ => N + 9 ≤ k_) W l
  hb : Below N W0 W
  b1 : W.heap[N + 1]? = z1
  b9 : W.heap[N + 9]? = z9
  bs : W.heap[N + 7]? = some (.cells #[s] 3 (0, 0))
  bo : W.heap[N + 8]? = some (.cells o 24 (0, 0))
  sz : N + 9 < W.heap.size
section
variable {N : Nat} {z1 z9 : Option Obj} {W0 W W1 : World} {l l' : List Int} {s : Value} {o : Array Value}
theorem RdS.oth (h : RdS N z1 z9 W0 W l s o) (ht : TkS N (N + 9) (fun k_ => N + 9 ≤ k_) W1 l') (ho : Oth N W W1) : RdS N z1 z9 W0 W1 l' s o := by
  have hs := h.sz
  exact ⟨ht, h.hb.trans ho.1, (ho.2 _ (by omega) (by omega)).trans h.b1, (ho.2 _ (by omega) (by omega)).trans h.b9, (ho.2 _ (by omega) (by omega)).trans h.bs, (ho.2 _ (by omega) (by omega)).trans h.bo, Nat.lt_of_lt_of_le hs ho.1.size⟩
theorem RdS.drew (h : RdS N z1 z9 W0 W l s o) : RdS N z1 z9 W0 W.drew l s o :=
  ⟨h.tk.keep (below_drew1 (Below.refl N W)) (fun _ _ _ => rfl) (fun _ _ _ => rfl), h.hb.drew, h.b1, h.b9, h.bs, h.bo, h.sz⟩
theorem RdS.setS (h : RdS N z1 z9 W0 W l s o) (v : Value) : RdS N z1 z9 W0 (W.setCell ⟨N + 7, 0, none⟩ v) l v o := by
  have hn : ∀ k, k ≠ N + 7 → (W.setCell ⟨N + 7, 0, none⟩ v).heap[k]? = W.heap[k]? := fun k hk => Below.heap_setCell W ⟨N + 7, 0, none⟩ v k hk
  have hb : Below N W (W.setCell ⟨N + 7, 0, none⟩ v) := (Below.refl N W).setCell (p := ⟨N + 7, 0, none⟩) (by show N ≤ N + 7; omega) v
  exact ⟨h.tk.keep hb (fun k h1 h2 => hn k (by omega)) (fun k _ h2 => hn k (by have h3 : N + 9 ≤ k := h2; omega)), h.hb.trans hb, (hn _ (by omega)).trans h.b1, (hn _ (by omega)).trans h.b9, by simpa using blk_set h.bs 0 v, (hn _ (by omega)).trans h.bo, Nat.lt_of_lt_of_le h.sz hb.size⟩
theorem RdS.setO (h : RdS N z1 z9 W0 W l s o) (i : Nat) (v : Value) : RdS N z1 z9 W0 (W.setCell ⟨N + 8, i, none⟩ v) l s (o.setIfInBounds i v) := by
  have hn : ∀ k, k ≠ N + 8 → (W.setCell ⟨N + 8, i, none⟩ v).heap[k]? = W.heap[k]? := fun k hk => Below.heap_setCell W ⟨N + 8, i, none⟩ v k hk
  have hb : Below N W (W.setCell ⟨N + 8, i, none⟩ v) := (Below.refl N W).setCell (p := ⟨N + 8, i, none⟩) (by show N ≤ N + 8; omega) v
  exact ⟨h.tk.keep hb (fun k h1 h2 => hn k (by omega)) (fun k _ h2 => hn k (by have h3 : N + 9 ≤ k := h2; omega)), h.hb.trans hb, (hn _ (by omega)).trans h.b1, (hn _ (by omega)).trans h.b9, (hn _ (by omega)).trans h.bs, blk_set h.bo i v, Nat.lt_of_lt_of_le h.sz hb.size⟩
theorem RdS.lost (h : RdS N z1 z9 W0 W l s o) (hb : Oth N W W1) : Below N W0 W1 ∧ W1.heap[N + 1]? = z1 ∧ W1.heap[N + 9]? = z9 := by
  have hs := h.sz
  exact ⟨h.hb.trans hb.1, (hb.2 _ (by omega) (by omega)).trans h.b1, (hb.2 _ (by omega) (by omega)).trans h.b9⟩
theorem RdS.oth_b (h : RdS N z1 z9 W0 W l s o) (hb : Below W.heap.size W W1) : Oth N W W1 := Oth.of_below hb (by have := h.sz; omega)
theorem RdS.S (h : RdS N z1 z9 W0 W l s o) : W.cell? ⟨N + 4, 0, none⟩ = some (.func (.func 41) #[] #[.pointer (some ⟨N + 2, 0, none⟩)]) ∧ W.cell? ⟨N + 5, 0, none⟩ = some (.func (.func 44) #[] #[.pointer (some ⟨N + 2, 0, none⟩)]) ∧ W.cell? ⟨N + 6, 0, none⟩ = some (.func (.func 47) #[] #[.pointer (some ⟨N + 3, 0, none⟩)]) :=
  ⟨(blk_cell h.tk.p4 0).trans rfl, (blk_cell h.tk.p5 0).trans rfl, (blk_cell h.tk.p6 0).trans rfl⟩
def Txt (M : Nat) (W : World) (v : Value) (l : List Int) : Prop := Kd.V (Kd.int .u8) 5 W 0 (fun k_ => M ≤ k_) v l
theorem Txt.of {M : Nat} {W : World} {v : Value} {l : List Int} {b : Nat} (h : Kd.V (Kd.int .u8) 5 W b (fun k_ => b ≤ k_) v l) (hb : M ≤ b) : Txt M W v l := Kd.V_mono (Kd.V_lower h (Nat.zero_le _)) (fun _ hk => Nat.le_trans hb hk)
theorem Txt.oth {M : Nat} {v : Value} {l : List Int} (h : Txt M W v l) (ho : Oth N W W1) (hM : N < M) : Txt M W1 v l := Kd.V_step h (fun k hk hl => ho.2 k hl (by omega))
theorem Txt.set {M : Nat} {v : Value} {l : List Int} (h : Txt M W v l) (g i : Nat) (u : Value) (hg : g < M) : Txt M (W.setCell ⟨g, i, none⟩ u) v l := Kd.V_far h (p := ⟨g, i, none⟩) (fun k hk => by show k ≠ g; omega) u
theorem Txt.drew {M : Nat} {v : Value} {l : List Int} (h : Txt M W v l) : Txt M W.drew v l := Kd.V_drew h
end
def readF (l : List Int) : Option (Option (Int × Int × Int × List Int × List Int × Bool × List Int × Int × List Int)) :=
  (octet_Take.f l).bind fun p => if p.2.2 ≠ 0 then some none else (octet_Take.f p.2.1).bind fun q => if q.2.2 ≠ 0 then some none else (octet_Take.f q.2.1).bind fun t => if t.2.2 ≠ 0 then some none else
  (octet_TakeText.f t.2.1).bind fun k => if k.2.2 ≠ 0 then some none else (octet_TakeText.f k.2.1).bind fun hi => if hi.2.2 ≠ 0 then some none else
  (octet_Take.f hi.2.1).bind fun o => if o.2.2 ≠ 0 then some none else if 1 < o.1 then some none else (octet_TakeText.f o.2.1).bind fun v => if v.2.2 ≠ 0 then some none else (octet_Take.f v.2.1).bind fun n => if n.2.2 ≠ 0 then some none else
  some (some (p.1, q.1, t.1, k.1, hi.1, o.1 == 1, v.1, n.1, n.2.1))
def ReadPost (N : Nat) (z1 z9 : Option Obj) (W0 : World) (res : Option (Int × Int × Int × List Int × List Int × Bool × List Int × Int × List Int)) (e : Ending) (W' : World) : Prop :=
      (∃ x, res = none ∧ e = .panicked [lostV x] ∧ Below N W0 W' ∧ W'.heap[N + 1]? = z1 ∧ W'.heap[N + 9]? = z9) ∨
      (∃ s kd tb k hi op v n rest uk uh uv, res = some (s, kd, tb, k, hi, op, v, n, rest) ∧ e = .returned (.tuple #[]) ∧ RdS N z1 z9 W0 W' rest (.int .i64 s) #[.int .i64 kd, .int .i64 tb, uk, uh, .bool op, uv, .int .i64 n] ∧ Txt (N + 10) W' uk k ∧ Txt (N + 10) W' uh hi ∧ Txt (N + 10) W' uv v)
set_option maxHeartbeats 8000000 in
set_option maxRecDepth 100000 in
theorem readDo {N : Nat} {z1 z9 : Option Obj} {W0 : World} {l : List Int} {s0 : Value} {o0 o1 o2 o3 o4 o5 o6 : Value} {res} (h : RdS N z1 z9 W0 W0 l s0 #[o0, o1, o2, o3, o4, o5, o6]) (hf : readF l = some res) :
    Calls Try.prog 29 #[.pointer (some ⟨N + 4, 0, none⟩), .pointer (some ⟨N + 7, 0, none⟩), .pointer (some ⟨N + 8, 0, none⟩), .pointer (some ⟨N + 5, 0, none⟩), .pointer (some ⟨N + 6, 0, none⟩)] W0 (ReadPost N z1 z9 W0 res) := by
  have hu := Try.underlying24
  have eg1 := Aside0.mk (enters_of (P := Try.prog) Try.func41 (by kernel_rfl) rfl)
  have eg2 := Aside0.mk (enters_of (P := Try.prog) Try.func44 (by kernel_rfl) rfl)
  have eg3 := Aside0.mk (enters_of (P := Try.prog) Try.func47 (by kernel_rfl) rfl)
  unfold readF at hf
  have H0 := Aside0.mk h
  have HF := Aside0.mk hf
  clear h hf
  go_enter Try.func29, Try.ntmps29
  go_wp2
  have H1 := Aside0.mk H0.out.drew
  refine start_ (n := 11) (S := fun w' => w'.cell? ⟨N + 4, 0, none⟩ = some (.func (.func 41) #[] #[.pointer (some ⟨N + 2, 0, none⟩)]) ∧ w'.cell? ⟨N + 5, 0, none⟩ = some (.func (.func 44) #[] #[.pointer (some ⟨N + 2, 0, none⟩)]) ∧ w'.cell? ⟨N + 6, 0, none⟩ = some (.func (.func 47) #[] #[.pointer (some ⟨N + 3, 0, none⟩)])) (ds := []) #[false, false, false, false, false, false, false, false, false, false, false] (by kernel_rfl) rfl rfl H1.out.S (fun hHeld => ?_)
  generalize W0.drew = y1 at H1  hHeld ⊢
  refine take_ (i := 0) (N := some 5) (v := ?_) (a' := ?_) #[true, false, false, false, false, false, false, false, false, false, false] rfl rfl (by kernel_rfl) (fun _ _ _ h => h) (Or.inl ⟨by rfl, ?_⟩) hHeld ?_ ?_
  rotate_left
  · rintro w' ⟨s0, s1, s2⟩
    go_simp
    with_reducible rfl
  rotate_left
  · simp only [Act.put, List.setIfInBounds_toArray, List.set_cons_zero, List.set_cons_succ]
    rfl
  refine take_ (i := 2) (N := some 7) (v := ?_) (a' := ?_) #[true, false, true, false, false, false, false, false, false, false, false] rfl rfl (by kernel_rfl) (fun _ _ _ h => h) (Or.inl ⟨by rfl, ?_⟩) hHeld ?_ ?_
  rotate_left
  · rintro w' ⟨s0, s1, s2⟩
    go_simp
    with_reducible rfl
  rotate_left
  · simp only [Act.put, List.setIfInBounds_toArray, List.set_cons_zero, List.set_cons_succ]
    rfl
  refine take_ (i := 4) (N := some 9) (v := ?_) (a' := ?_) #[true, false, true, false, true, false, false, false, false, false, false] rfl rfl (by kernel_rfl) (fun _ _ _ h => h) (Or.inl ⟨by rfl, ?_⟩) hHeld ?_ ?_
  rotate_left
  · rintro w' ⟨s0, s1, s2⟩
    go_simp
    with_reducible rfl
  rotate_left
  · simp only [Act.put, List.setIfInBounds_toArray, List.set_cons_zero, List.set_cons_succ]
    rfl
  obtain ⟨⟨s, l1, xs⟩, fs, hfs⟩ := Option.bind_eq_some_iff.mp HF.out
  simp only at hfs
  clear HF
  by_cases cs : xs = 0
  case neg =>
    rw [if_pos cs] at hfs
    obtain rfl := Option.some.inj hfs
    refine one_ (i := 1) (N := some 6) #[true, true, true, false, true, false, false, false, false, false, false] rfl rfl (by kernel_rfl) (by decide) (fun K hK => ?_)
    refine goesF_ 41 #[.pointer (some ⟨N + 2, 0, none⟩)] (by rfl) rfl rfl rfl eg1.out ?_
    refine (numberX H1.out.tk cs fs).mono ?_
    rintro e y2 ⟨rfl, hb⟩
    exact ⟨rfl, .inl ⟨_, rfl, rfl, H1.out.lost (H1.out.oth_b hb)⟩⟩
  subst cs
  rw [if_neg (by simp)] at hfs
  have HF := Aside0.mk hfs
  clear hfs
  refine one_ (i := 1) (N := some 6) #[true, true, true, false, true, false, false, false, false, false, false] rfl rfl (by kernel_rfl) (by decide) (fun K hK => ?_)
  refine goesF_ 41 #[.pointer (some ⟨N + 2, 0, none⟩)] (by rfl) rfl rfl rfl eg1.out ?_
  refine (numberS H1.out.tk fs).mono ?_
  rintro e y2 ⟨rfl, ht, ho⟩
  have H2 := Aside0.mk (H1.out.oth ht ho)
  clear ht ho fs H1
  refine hK.out _ _ H2.out.S (fun hHeld => ?_)
  clear hK K
  refine norm_ (a' := ?_) ?_ ?_
  rotate_left
  · show Act.put _ (some 6) _ = _
    simp only [Act.put, List.setIfInBounds_toArray, List.set_cons_zero, List.set_cons_succ]
    rfl
  obtain ⟨⟨kd, l2, xkd⟩, fkd, hfkd⟩ := Option.bind_eq_some_iff.mp HF.out
  simp only at hfkd
  clear HF
  by_cases ckd : xkd = 0
  case neg =>
    rw [if_pos ckd] at hfkd
    obtain rfl := Option.some.inj hfkd
    refine one_ (i := 3) (N := some 8) #[true, true, true, true, true, false, false, false, false, false, false] rfl rfl (by kernel_rfl) (by decide) (fun K hK => ?_)
    refine goesF_ 41 #[.pointer (some ⟨N + 2, 0, none⟩)] (by rfl) rfl rfl rfl eg1.out ?_
    refine (numberX H2.out.tk ckd fkd).mono ?_
    rintro e y3 ⟨rfl, hb⟩
    exact ⟨rfl, .inl ⟨_, rfl, rfl, H2.out.lost (H2.out.oth_b hb)⟩⟩
  subst ckd
  rw [if_neg (by simp)] at hfkd
  have HF := Aside0.mk hfkd
  clear hfkd
  refine one_ (i := 3) (N := some 8) #[true, true, true, true, true, false, false, false, false, false, false] rfl rfl (by kernel_rfl) (by decide) (fun K hK => ?_)
  refine goesF_ 41 #[.pointer (some ⟨N + 2, 0, none⟩)] (by rfl) rfl rfl rfl eg1.out ?_
  refine (numberS H2.out.tk fkd).mono ?_
  rintro e y3 ⟨rfl, ht, ho⟩
  have H3 := Aside0.mk (H2.out.oth ht ho)
  clear ht ho fkd H2
  refine hK.out _ _ H3.out.S (fun hHeld => ?_)
  clear hK K
  refine norm_ (a' := ?_) ?_ ?_
  rotate_left
  · show Act.put _ (some 8) _ = _
    simp only [Act.put, List.setIfInBounds_toArray, List.set_cons_zero, List.set_cons_succ]
    rfl
  obtain ⟨⟨tb, l3, xtb⟩, ftb, hftb⟩ := Option.bind_eq_some_iff.mp HF.out
  simp only at hftb
  clear HF
  by_cases ctb : xtb = 0
  case neg =>
    rw [if_pos ctb] at hftb
    obtain rfl := Option.some.inj hftb
    refine one_ (i := 5) (N := some 10) #[true, true, true, true, true, true, false, false, false, false, false] rfl rfl (by kernel_rfl) (by decide) (fun K hK => ?_)
    refine goesF_ 41 #[.pointer (some ⟨N + 2, 0, none⟩)] (by rfl) rfl rfl rfl eg1.out ?_
    refine (numberX H3.out.tk ctb ftb).mono ?_
    rintro e y4 ⟨rfl, hb⟩
    exact ⟨rfl, .inl ⟨_, rfl, rfl, H3.out.lost (H3.out.oth_b hb)⟩⟩
  subst ctb
  rw [if_neg (by simp)] at hftb
  have HF := Aside0.mk hftb
  clear hftb
  refine one_ (i := 5) (N := some 10) #[true, true, true, true, true, true, false, false, false, false, false] rfl rfl (by kernel_rfl) (by decide) (fun K hK => ?_)
  refine goesF_ 41 #[.pointer (some ⟨N + 2, 0, none⟩)] (by rfl) rfl rfl rfl eg1.out ?_
  refine (numberS H3.out.tk ftb).mono ?_
  rintro e y4 ⟨rfl, ht, ho⟩
  have H4 := Aside0.mk (H3.out.oth ht ho)
  clear ht ho ftb H3
  refine hK.out _ _ H4.out.S (fun hHeld => ?_)
  clear hK K
  refine norm_ (a' := ?_) ?_ ?_
  rotate_left
  · show Act.put _ (some 10) _ = _
    simp only [Act.put, List.setIfInBounds_toArray, List.set_cons_zero, List.set_cons_succ]
    rfl
  have hcs := (blk_cell H4.out.bs 0).trans (show _ = some _ from rfl)
  have hfs := blk_frozen H4.out.bs 0
  have H5 := Aside0.mk (H4.out.setS (.int .i64 s))
  refine one_ (i := 6) (N := none) #[true, true, true, true, true, true, true, false, false, false, false] rfl rfl (by kernel_rfl) (by decide) (fun K hK => ?_)
  refine skip_ (w1 := ?_) (by rfl) rfl ?_ ?_
  rotate_left
  · go_simp
    rfl
  refine hK.out _ _ H5.out.S (fun hHeld => ?_)
  clear hK K
  clear hcs hfs H4
  generalize y4.setCell ⟨N + 7, 0, none⟩ (.int .i64 s) = y5 at H5  hHeld ⊢
  refine pure_ (i := 7) (N := some 11) (v := ?_) (a' := ?_) #[true, true, true, true, true, true, true, true, false, false, false] rfl rfl (by kernel_rfl) (fun _ _ _ h => h) (Or.inl ⟨by rfl, ?_⟩) ?_ ?_
  rotate_left
  · intro w'
    go_simp
    with_reducible rfl
  rotate_left
  · simp only [Act.put, List.setIfInBounds_toArray, List.set_cons_zero, List.set_cons_succ]
    rfl
  have hcs := (blk_cell H5.out.bo 0).trans (show _ = some _ from rfl)
  have hfs := blk_frozen H5.out.bo 0
  have H6 := Aside0.mk (H5.out.setO 0 (.int .i64 kd))
  simp only [List.setIfInBounds_toArray, List.set_cons_zero, List.set_cons_succ] at H6
  refine one_ (i := 8) (N := none) #[true, true, true, true, true, true, true, true, true, false, false] rfl rfl (by kernel_rfl) (by decide) (fun K hK => ?_)
  refine skip_ (w1 := ?_) (by rfl) rfl ?_ ?_
  rotate_left
  · go_simp
    rfl
  refine hK.out _ _ H6.out.S (fun hHeld => ?_)
  clear hK K
  clear hcs hfs H5
  generalize y5.setCell ⟨N + 8, 0, none⟩ (.int .i64 kd) = y6 at H6  hHeld ⊢
  refine pure_ (i := 9) (N := some 12) (v := ?_) (a' := ?_) #[true, true, true, true, true, true, true, true, true, true, false] rfl rfl (by kernel_rfl) (fun _ _ _ h => h) (Or.inl ⟨by rfl, ?_⟩) ?_ ?_
  rotate_left
  · intro w'
    go_simp
    with_reducible rfl
  rotate_left
  · simp only [Act.put, List.setIfInBounds_toArray, List.set_cons_zero, List.set_cons_succ]
    rfl
  have hcs := (blk_cell H6.out.bo 1).trans (show _ = some _ from rfl)
  have hfs := blk_frozen H6.out.bo 1
  have H7 := Aside0.mk (H6.out.setO 1 (.int .i64 tb))
  simp only [List.setIfInBounds_toArray, List.set_cons_zero, List.set_cons_succ] at H7
  refine one_ (i := 10) (N := none) #[true, true, true, true, true, true, true, true, true, true, true] rfl rfl (by kernel_rfl) (by decide) (fun K hK => ?_)
  refine skip_ (w1 := ?_) (by rfl) rfl ?_ ?_
  rotate_left
  · go_simp
    rfl
  refine hK.out _ _ H7.out.S (fun hHeld => ?_)
  clear hK K
  clear hcs hfs H6
  generalize y6.setCell ⟨N + 8, 1, none⟩ (.int .i64 tb) = y7 at H7  hHeld ⊢
  refine done_ (by kernel_rfl) ?_
  clear hHeld
  go_wp2
  have H8 := Aside0.mk H7.out.drew
  refine start_ (n := 8) (S := fun w' => w'.cell? ⟨N + 4, 0, none⟩ = some (.func (.func 41) #[] #[.pointer (some ⟨N + 2, 0, none⟩)]) ∧ w'.cell? ⟨N + 5, 0, none⟩ = some (.func (.func 44) #[] #[.pointer (some ⟨N + 2, 0, none⟩)]) ∧ w'.cell? ⟨N + 6, 0, none⟩ = some (.func (.func 47) #[] #[.pointer (some ⟨N + 3, 0, none⟩)])) (ds := []) #[false, false, false, false, false, false, false, false] (by kernel_rfl) rfl rfl H8.out.S (fun hHeld => ?_)
  generalize y7.drew = y8 at H8  hHeld ⊢
  refine take_ (i := 0) (N := some 13) (v := ?_) (a' := ?_) #[true, false, false, false, false, false, false, false] rfl rfl (by kernel_rfl) (fun _ _ _ h => h) (Or.inl ⟨by rfl, ?_⟩) hHeld ?_ ?_
  rotate_left
  · rintro w' ⟨s0, s1, s2⟩
    go_simp
    with_reducible rfl
  rotate_left
  · simp only [Act.put, List.setIfInBounds_toArray, List.set_cons_zero, List.set_cons_succ]
    rfl
  refine take_ (i := 2) (N := some 15) (v := ?_) (a' := ?_) #[true, false, true, false, false, false, false, false] rfl rfl (by kernel_rfl) (fun _ _ _ h => h) (Or.inl ⟨by rfl, ?_⟩) hHeld ?_ ?_
  rotate_left
  · rintro w' ⟨s0, s1, s2⟩
    go_simp
    with_reducible rfl
  rotate_left
  · simp only [Act.put, List.setIfInBounds_toArray, List.set_cons_zero, List.set_cons_succ]
    rfl
  obtain ⟨⟨k, l4, xk⟩, fk, hfk⟩ := Option.bind_eq_some_iff.mp HF.out
  simp only at hfk
  clear HF
  by_cases ck : xk = 0
  case neg =>
    rw [if_pos ck] at hfk
    obtain rfl := Option.some.inj hfk
    refine one_ (i := 1) (N := some 14) #[true, true, true, false, false, false, false, false] rfl rfl (by kernel_rfl) (by decide) (fun K hK => ?_)
    refine goesF_ 44 #[.pointer (some ⟨N + 2, 0, none⟩)] (by rfl) rfl rfl rfl eg2.out ?_
    refine (textX H8.out.tk ck fk).mono ?_
    rintro e y9 ⟨rfl, hb⟩
    exact ⟨rfl, .inl ⟨_, rfl, rfl, H8.out.lost (H8.out.oth_b hb)⟩⟩
  subst ck
  rw [if_neg (by simp)] at hfk
  have HF := Aside0.mk hfk
  clear hfk
  refine one_ (i := 1) (N := some 14) #[true, true, true, false, false, false, false, false] rfl rfl (by kernel_rfl) (by decide) (fun K hK => ?_)
  refine goesF_ 44 #[.pointer (some ⟨N + 2, 0, none⟩)] (by rfl) rfl rfl rfl eg2.out ?_
  refine (textS H8.out.tk fk).mono ?_
  rintro e y9 ⟨uk, rfl, huk, ht, ho⟩
  have H9 := Aside0.mk (H8.out.oth ht ho)
  have Tk := Aside0.mk (Txt.of (M := N + 10) huk (by have := H8.out.sz; omega))
  clear huk
  clear ht ho fk H8
  refine hK.out _ _ H9.out.S (fun hHeld => ?_)
  clear hK K
  refine norm_ (a' := ?_) ?_ ?_
  rotate_left
  · show Act.put _ (some 14) _ = _
    simp only [Act.put, List.setIfInBounds_toArray, List.set_cons_zero, List.set_cons_succ]
    rfl
  obtain ⟨⟨hi, l5, xhi⟩, fhi, hfhi⟩ := Option.bind_eq_some_iff.mp HF.out
  simp only at hfhi
  clear HF
  by_cases chi : xhi = 0
  case neg =>
    rw [if_pos chi] at hfhi
    obtain rfl := Option.some.inj hfhi
    refine one_ (i := 3) (N := some 16) #[true, true, true, true, false, false, false, false] rfl rfl (by kernel_rfl) (by decide) (fun K hK => ?_)
    refine goesF_ 44 #[.pointer (some ⟨N + 2, 0, none⟩)] (by rfl) rfl rfl rfl eg2.out ?_
    refine (textX H9.out.tk chi fhi).mono ?_
    rintro e y10 ⟨rfl, hb⟩
    exact ⟨rfl, .inl ⟨_, rfl, rfl, H9.out.lost (H9.out.oth_b hb)⟩⟩
  subst chi
  rw [if_neg (by simp)] at hfhi
  have HF := Aside0.mk hfhi
  clear hfhi
  refine one_ (i := 3) (N := some 16) #[true, true, true, true, false, false, false, false] rfl rfl (by kernel_rfl) (by decide) (fun K hK => ?_)
  refine goesF_ 44 #[.pointer (some ⟨N + 2, 0, none⟩)] (by rfl) rfl rfl rfl eg2.out ?_
  refine (textS H9.out.tk fhi).mono ?_
  rintro e y10 ⟨uhi, rfl, huhi, ht, ho⟩
  have H10 := Aside0.mk (H9.out.oth ht ho)
  replace Tk := Aside0.mk (Tk.out.oth ho (by omega))
  have Thi := Aside0.mk (Txt.of (M := N + 10) huhi (by have := H9.out.sz; omega))
  clear huhi
  clear ht ho fhi H9
  refine hK.out _ _ H10.out.S (fun hHeld => ?_)
  clear hK K
  refine norm_ (a' := ?_) ?_ ?_
  rotate_left
  · show Act.put _ (some 16) _ = _
    simp only [Act.put, List.setIfInBounds_toArray, List.set_cons_zero, List.set_cons_succ]
    rfl
  refine pure_ (i := 4) (N := some 17) (v := ?_) (a' := ?_) #[true, true, true, true, true, false, false, false] rfl rfl (by kernel_rfl) (fun _ _ _ h => h) (Or.inl ⟨by rfl, ?_⟩) ?_ ?_
  rotate_left
  · intro w'
    go_simp
    with_reducible rfl
  rotate_left
  · simp only [Act.put, List.setIfInBounds_toArray, List.set_cons_zero, List.set_cons_succ]
    rfl
  obtain ⟨Ak, ck, rfl⟩ := Kd.V_slice Tk.out
  have hcs := (blk_cell H10.out.bo 2).trans (show _ = some _ from rfl)
  have hfs := blk_frozen H10.out.bo 2
  have H11 := Aside0.mk (H10.out.setO 2 (.slice Ak k.length ck))
  simp only [List.setIfInBounds_toArray, List.set_cons_zero, List.set_cons_succ] at H11
  replace Tk := Aside0.mk (Tk.out.set (N + 8) 2 (.slice Ak k.length ck) (by omega))
  replace Thi := Aside0.mk (Thi.out.set (N + 8) 2 (.slice Ak k.length ck) (by omega))
  refine one_ (i := 5) (N := none) #[true, true, true, true, true, true, false, false] rfl rfl (by kernel_rfl) (by decide) (fun K hK => ?_)
  refine skip_ (w1 := ?_) (by rfl) rfl ?_ ?_
  rotate_left
  · go_simp
    rfl
  refine hK.out _ _ H11.out.S (fun hHeld => ?_)
  clear hK K
  clear hcs hfs H10
  generalize y10.setCell ⟨N + 8, 2, none⟩ (.slice Ak k.length ck) = y11 at H11 Tk Thi hHeld ⊢
  refine pure_ (i := 6) (N := some 18) (v := ?_) (a' := ?_) #[true, true, true, true, true, true, true, false] rfl rfl (by kernel_rfl) (fun _ _ _ h => h) (Or.inl ⟨by rfl, ?_⟩) ?_ ?_
  rotate_left
  · intro w'
    go_simp
    with_reducible rfl
  rotate_left
  · simp only [Act.put, List.setIfInBounds_toArray, List.set_cons_zero, List.set_cons_succ]
    rfl
  obtain ⟨Ahi, chi, rfl⟩ := Kd.V_slice Thi.out
  have hcs := (blk_cell H11.out.bo 3).trans (show _ = some _ from rfl)
  have hfs := blk_frozen H11.out.bo 3
  have H12 := Aside0.mk (H11.out.setO 3 (.slice Ahi hi.length chi))
  simp only [List.setIfInBounds_toArray, List.set_cons_zero, List.set_cons_succ] at H12
  replace Tk := Aside0.mk (Tk.out.set (N + 8) 3 (.slice Ahi hi.length chi) (by omega))
  replace Thi := Aside0.mk (Thi.out.set (N + 8) 3 (.slice Ahi hi.length chi) (by omega))
  refine one_ (i := 7) (N := none) #[true, true, true, true, true, true, true, true] rfl rfl (by kernel_rfl) (by decide) (fun K hK => ?_)
  refine skip_ (w1 := ?_) (by rfl) rfl ?_ ?_
  rotate_left
  · go_simp
    rfl
  refine hK.out _ _ H12.out.S (fun hHeld => ?_)
  clear hK K
  clear hcs hfs H11
  generalize y11.setCell ⟨N + 8, 3, none⟩ (.slice Ahi hi.length chi) = y12 at H12 Tk Thi hHeld ⊢
  refine done_ (by kernel_rfl) ?_
  clear hHeld
  go_wp2
  have H13 := Aside0.mk H12.out.drew
  replace Tk := Aside0.mk Tk.out.drew
  replace Thi := Aside0.mk Thi.out.drew
  refine start_ (n := 12) (S := fun w' => w'.cell? ⟨N + 4, 0, none⟩ = some (.func (.func 41) #[] #[.pointer (some ⟨N + 2, 0, none⟩)]) ∧ w'.cell? ⟨N + 5, 0, none⟩ = some (.func (.func 44) #[] #[.pointer (some ⟨N + 2, 0, none⟩)]) ∧ w'.cell? ⟨N + 6, 0, none⟩ = some (.func (.func 47) #[] #[.pointer (some ⟨N + 3, 0, none⟩)])) (ds := []) #[false, false, false, false, false, false, false, false, false, false, false, false] (by kernel_rfl) rfl rfl H13.out.S (fun hHeld => ?_)
  generalize y12.drew = y13 at H13 Tk Thi hHeld ⊢
  refine take_ (i := 0) (N := some 19) (v := ?_) (a' := ?_) #[true, false, false, false, false, false, false, false, false, false, false, false] rfl rfl (by kernel_rfl) (fun _ _ _ h => h) (Or.inl ⟨by rfl, ?_⟩) hHeld ?_ ?_
  rotate_left
  · rintro w' ⟨s0, s1, s2⟩
    go_simp
    with_reducible rfl
  rotate_left
  · simp only [Act.put, List.setIfInBounds_toArray, List.set_cons_zero, List.set_cons_succ]
    rfl
  refine take_ (i := 2) (N := some 21) (v := ?_) (a' := ?_) #[true, false, true, false, false, false, false, false, false, false, false, false] rfl rfl (by kernel_rfl) (fun _ _ _ h => h) (Or.inl ⟨by rfl, ?_⟩) hHeld ?_ ?_
  rotate_left
  · rintro w' ⟨s0, s1, s2⟩
    go_simp
    with_reducible rfl
  rotate_left
  · simp only [Act.put, List.setIfInBounds_toArray, List.set_cons_zero, List.set_cons_succ]
    rfl
  refine take_ (i := 4) (N := some 23) (v := ?_) (a' := ?_) #[true, false, true, false, true, false, false, false, false, false, false, false] rfl rfl (by kernel_rfl) (fun _ _ _ h => h) (Or.inl ⟨by rfl, ?_⟩) hHeld ?_ ?_
  rotate_left
  · rintro w' ⟨s0, s1, s2⟩
    go_simp
    with_reducible rfl
  rotate_left
  · simp only [Act.put, List.setIfInBounds_toArray, List.set_cons_zero, List.set_cons_succ]
    rfl
  obtain ⟨⟨op, l6, xop⟩, fop, hfop⟩ := Option.bind_eq_some_iff.mp HF.out
  simp only at hfop
  clear HF
  by_cases cop : xop = 0
  case neg =>
    rw [if_pos cop] at hfop
    obtain rfl := Option.some.inj hfop
    refine one_ (i := 1) (N := some 20) #[true, true, true, false, true, false, false, false, false, false, false, false] rfl rfl (by kernel_rfl) (by decide) (fun K hK => ?_)
    refine goesF_ 47 #[.pointer (some ⟨N + 3, 0, none⟩)] (by rfl) rfl rfl rfl eg3.out ?_
    refine (flagX H13.out.tk cop fop).mono ?_
    rintro e y14 ⟨rfl, hb⟩
    exact ⟨rfl, .inl ⟨_, rfl, rfl, H13.out.lost (H13.out.oth_b hb)⟩⟩
  subst cop
  rw [if_neg (by simp)] at hfop
  by_cases dop : 1 < op
  case pos =>
    rw [if_pos dop] at hfop
    obtain rfl := Option.some.inj hfop
    refine one_ (i := 1) (N := some 20) #[true, true, true, false, true, false, false, false, false, false, false, false] rfl rfl (by kernel_rfl) (by decide) (fun K hK => ?_)
    refine goesF_ 47 #[.pointer (some ⟨N + 3, 0, none⟩)] (by rfl) rfl rfl rfl eg3.out ?_
    refine (flagB H13.out.tk dop fop).mono ?_
    rintro e y14 ⟨rfl, hb⟩
    exact ⟨rfl, .inl ⟨_, rfl, rfl, H13.out.lost hb⟩⟩
  rw [if_neg dop] at hfop
  have HF := Aside0.mk hfop
  clear hfop
  refine one_ (i := 1) (N := some 20) #[true, true, true, false, true, false, false, false, false, false, false, false] rfl rfl (by kernel_rfl) (by decide) (fun K hK => ?_)
  refine goesF_ 47 #[.pointer (some ⟨N + 3, 0, none⟩)] (by rfl) rfl rfl rfl eg3.out ?_
  refine (flagS H13.out.tk (by omega) fop).mono ?_
  rintro e y14 ⟨rfl, ht, ho⟩
  have H14 := Aside0.mk (H13.out.oth ht ho)
  replace Tk := Aside0.mk (Tk.out.oth ho (by omega))
  replace Thi := Aside0.mk (Thi.out.oth ho (by omega))
  clear ht ho fop H13
  refine hK.out _ _ H14.out.S (fun hHeld => ?_)
  clear hK K
  refine norm_ (a' := ?_) ?_ ?_
  rotate_left
  · show Act.put _ (some 20) _ = _
    simp only [Act.put, List.setIfInBounds_toArray, List.set_cons_zero, List.set_cons_succ]
    rfl
  obtain ⟨⟨v, l7, xv⟩, fv, hfv⟩ := Option.bind_eq_some_iff.mp HF.out
  simp only at hfv
  clear HF
  by_cases cv : xv = 0
  case neg =>
    rw [if_pos cv] at hfv
    obtain rfl := Option.some.inj hfv
    refine one_ (i := 3) (N := some 22) #[true, true, true, true, true, false, false, false, false, false, false, false] rfl rfl (by kernel_rfl) (by decide) (fun K hK => ?_)
    refine goesF_ 44 #[.pointer (some ⟨N + 2, 0, none⟩)] (by rfl) rfl rfl rfl eg2.out ?_
    refine (textX H14.out.tk cv fv).mono ?_
    rintro e y15 ⟨rfl, hb⟩
    exact ⟨rfl, .inl ⟨_, rfl, rfl, H14.out.lost (H14.out.oth_b hb)⟩⟩
  subst cv
  rw [if_neg (by simp)] at hfv
  have HF := Aside0.mk hfv
  clear hfv
  refine one_ (i := 3) (N := some 22) #[true, true, true, true, true, false, false, false, false, false, false, false] rfl rfl (by kernel_rfl) (by decide) (fun K hK => ?_)
  refine goesF_ 44 #[.pointer (some ⟨N + 2, 0, none⟩)] (by rfl) rfl rfl rfl eg2.out ?_
  refine (textS H14.out.tk fv).mono ?_
  rintro e y15 ⟨uv, rfl, huv, ht, ho⟩
  have H15 := Aside0.mk (H14.out.oth ht ho)
  replace Tk := Aside0.mk (Tk.out.oth ho (by omega))
  replace Thi := Aside0.mk (Thi.out.oth ho (by omega))
  have Tv := Aside0.mk (Txt.of (M := N + 10) huv (by have := H14.out.sz; omega))
  clear huv
  clear ht ho fv H14
  refine hK.out _ _ H15.out.S (fun hHeld => ?_)
  clear hK K
  refine norm_ (a' := ?_) ?_ ?_
  rotate_left
  · show Act.put _ (some 22) _ = _
    simp only [Act.put, List.setIfInBounds_toArray, List.set_cons_zero, List.set_cons_succ]
    rfl
  obtain ⟨⟨n, l8, xn⟩, fn, hfn⟩ := Option.bind_eq_some_iff.mp HF.out
  simp only at hfn
  clear HF
  by_cases cn : xn = 0
  case neg =>
    rw [if_pos cn] at hfn
    obtain rfl := Option.some.inj hfn
    refine one_ (i := 5) (N := some 24) #[true, true, true, true, true, true, false, false, false, false, false, false] rfl rfl (by kernel_rfl) (by decide) (fun K hK => ?_)
    refine goesF_ 41 #[.pointer (some ⟨N + 2, 0, none⟩)] (by rfl) rfl rfl rfl eg1.out ?_
    refine (numberX H15.out.tk cn fn).mono ?_
    rintro e y16 ⟨rfl, hb⟩
    exact ⟨rfl, .inl ⟨_, rfl, rfl, H15.out.lost (H15.out.oth_b hb)⟩⟩
  subst cn
  rw [if_neg (by simp)] at hfn
  have HF := Aside0.mk hfn
  clear hfn
  refine one_ (i := 5) (N := some 24) #[true, true, true, true, true, true, false, false, false, false, false, false] rfl rfl (by kernel_rfl) (by decide) (fun K hK => ?_)
  refine goesF_ 41 #[.pointer (some ⟨N + 2, 0, none⟩)] (by rfl) rfl rfl rfl eg1.out ?_
  refine (numberS H15.out.tk fn).mono ?_
  rintro e y16 ⟨rfl, ht, ho⟩
  have H16 := Aside0.mk (H15.out.oth ht ho)
  replace Tk := Aside0.mk (Tk.out.oth ho (by omega))
  replace Thi := Aside0.mk (Thi.out.oth ho (by omega))
  replace Tv := Aside0.mk (Tv.out.oth ho (by omega))
  clear ht ho fn H15
  refine hK.out _ _ H16.out.S (fun hHeld => ?_)
  clear hK K
  refine norm_ (a' := ?_) ?_ ?_
  rotate_left
  · show Act.put _ (some 24) _ = _
    simp only [Act.put, List.setIfInBounds_toArray, List.set_cons_zero, List.set_cons_succ]
    rfl
  refine pure_ (i := 6) (N := some 25) (v := ?_) (a' := ?_) #[true, true, true, true, true, true, true, false, false, false, false, false] rfl rfl (by kernel_rfl) (fun _ _ _ h => h) (Or.inl ⟨by rfl, ?_⟩) ?_ ?_
  rotate_left
  · intro w'
    go_simp
    with_reducible rfl
  rotate_left
  · simp only [Act.put, List.setIfInBounds_toArray, List.set_cons_zero, List.set_cons_succ]
    rfl
  have hcs := (blk_cell H16.out.bo 4).trans (show _ = some _ from rfl)
  have hfs := blk_frozen H16.out.bo 4
  have H17 := Aside0.mk (H16.out.setO 4 (.bool (op == 1)))
  simp only [List.setIfInBounds_toArray, List.set_cons_zero, List.set_cons_succ] at H17
  replace Tk := Aside0.mk (Tk.out.set (N + 8) 4 (.bool (op == 1)) (by omega))
  replace Thi := Aside0.mk (Thi.out.set (N + 8) 4 (.bool (op == 1)) (by omega))
  replace Tv := Aside0.mk (Tv.out.set (N + 8) 4 (.bool (op == 1)) (by omega))
  refine one_ (i := 7) (N := none) #[true, true, true, true, true, true, true, true, false, false, false, false] rfl rfl (by kernel_rfl) (by decide) (fun K hK => ?_)
  refine skip_ (w1 := ?_) (by rfl) rfl ?_ ?_
  rotate_left
  · go_simp
    rfl
  refine hK.out _ _ H17.out.S (fun hHeld => ?_)
  clear hK K
  clear hcs hfs H16
  generalize y16.setCell ⟨N + 8, 4, none⟩ (.bool (op == 1)) = y17 at H17 Tk Thi Tv hHeld ⊢
  refine pure_ (i := 8) (N := some 26) (v := ?_) (a' := ?_) #[true, true, true, true, true, true, true, true, true, false, false, false] rfl rfl (by kernel_rfl) (fun _ _ _ h => h) (Or.inl ⟨by rfl, ?_⟩) ?_ ?_
  rotate_left
  · intro w'
    go_simp
    with_reducible rfl
  rotate_left
  · simp only [Act.put, List.setIfInBounds_toArray, List.set_cons_zero, List.set_cons_succ]
    rfl
  obtain ⟨Av, cv, rfl⟩ := Kd.V_slice Tv.out
  have hcs := (blk_cell H17.out.bo 5).trans (show _ = some _ from rfl)
  have hfs := blk_frozen H17.out.bo 5
  have H18 := Aside0.mk (H17.out.setO 5 (.slice Av v.length cv))
  simp only [List.setIfInBounds_toArray, List.set_cons_zero, List.set_cons_succ] at H18
  replace Tk := Aside0.mk (Tk.out.set (N + 8) 5 (.slice Av v.length cv) (by omega))
  replace Thi := Aside0.mk (Thi.out.set (N + 8) 5 (.slice Av v.length cv) (by omega))
  replace Tv := Aside0.mk (Tv.out.set (N + 8) 5 (.slice Av v.length cv) (by omega))
  refine one_ (i := 9) (N := none) #[true, true, true, true, true, true, true, true, true, true, false, false] rfl rfl (by kernel_rfl) (by decide) (fun K hK => ?_)
  refine skip_ (w1 := ?_) (by rfl) rfl ?_ ?_
  rotate_left
  · go_simp
    rfl
  refine hK.out _ _ H18.out.S (fun hHeld => ?_)
  clear hK K
  clear hcs hfs H17
  generalize y17.setCell ⟨N + 8, 5, none⟩ (.slice Av v.length cv) = y18 at H18 Tk Thi Tv hHeld ⊢
  refine pure_ (i := 10) (N := some 27) (v := ?_) (a' := ?_) #[true, true, true, true, true, true, true, true, true, true, true, false] rfl rfl (by kernel_rfl) (fun _ _ _ h => h) (Or.inl ⟨by rfl, ?_⟩) ?_ ?_
  rotate_left
  · intro w'
    go_simp
    with_reducible rfl
  rotate_left
  · simp only [Act.put, List.setIfInBounds_toArray, List.set_cons_zero, List.set_cons_succ]
    rfl
  have hcs := (blk_cell H18.out.bo 6).trans (show _ = some _ from rfl)
  have hfs := blk_frozen H18.out.bo 6
  have H19 := Aside0.mk (H18.out.setO 6 (.int .i64 n))
  simp only [List.setIfInBounds_toArray, List.set_cons_zero, List.set_cons_succ] at H19
  replace Tk := Aside0.mk (Tk.out.set (N + 8) 6 (.int .i64 n) (by omega))
  replace Thi := Aside0.mk (Thi.out.set (N + 8) 6 (.int .i64 n) (by omega))
  replace Tv := Aside0.mk (Tv.out.set (N + 8) 6 (.int .i64 n) (by omega))
  refine one_ (i := 11) (N := none) #[true, true, true, true, true, true, true, true, true, true, true, true] rfl rfl (by kernel_rfl) (by decide) (fun K hK => ?_)
  refine skip_ (w1 := ?_) (by rfl) rfl ?_ ?_
  rotate_left
  · go_simp
    rfl
  refine hK.out _ _ H19.out.S (fun hHeld => ?_)
  clear hK K
  clear hcs hfs H18
  generalize y18.setCell ⟨N + 8, 6, none⟩ (.int .i64 n) = y19 at H19 Tk Thi Tv hHeld ⊢
  refine done_ (by kernel_rfl) ?_
  clear hHeld
  go_wp2
  go_end0
  have hres := Option.some.inj HF.out
  exact Or.inr ⟨_, _, _, _, _, _, _, _, _, _, _, _, hres.symm, rfl, H19.out, Tk.out, Thi.out, Tv.out⟩
theorem new_at2 (W : World) (a b : Obj) : ((W.alloc a).alloc b).heap[W.heap.size + 1]? = some b := by
  have := heap_alloc_new (W.alloc a) b
  rwa [World.size_alloc] at this
theorem new_at3 (W : World) (a b c : Obj) : (((W.alloc a).alloc b).alloc c).heap[W.heap.size + 2]? = some c := by
  have := heap_alloc_new ((W.alloc a).alloc b) c
  rwa [World.size_alloc, World.size_alloc] at this
theorem size_set (W : World) (p : Addr) (v : Value) : (W.setCell p v).heap.size = W.heap.size := by simp [World.setCell]
set_option maxHeartbeats 4000000 in
theorem taker_calls (p : Addr) (W : World) : Calls Try.prog 27 #[.pointer (some p)] W fun e W' =>
    e = .returned (.tuple #[.func (.func 41) #[] #[.pointer (some ⟨W.heap.size, 0, none⟩)], .func (.func 44) #[] #[.pointer (some ⟨W.heap.size, 0, none⟩)], .func (.func 47) #[] #[.pointer (some ⟨W.heap.size + 1, 0, none⟩)]]) ∧
    W'.heap[W.heap.size]? = some (.cells #[.pointer (some p)] 57 (0, 0)) ∧ W'.heap[W.heap.size + 1]? = some (.cells #[.func (.func 41) #[] #[.pointer (some ⟨W.heap.size, 0, none⟩)]] 53 (0, 0)) ∧ Below W.heap.size W W' ∧ W'.heap.size = W.heap.size + 2 := by
  have hmf : ∀ (fn : Fn) (first cap : Array Value) (w : World), (Instr.makeFunc fn first cap).run Try.prog w = .ok (.func fn first cap) w := fun _ _ _ _ => rfl
  have hB := new_at2 W (.cells #[.pointer (some p)] 57) (.cells #[.nilFunc] 53)
  have hA := blk_alloc (heap_alloc_new W (.cells #[.pointer (some p)] 57)) (.cells #[.nilFunc] 53)
  have hc := (blk_cell hB 0).trans (show _ = some _ from rfl)
  have hz := blk_frozen hB 0
  have HB := Aside0.mk hB
  have HA := Aside0.mk hA
  clear hB hA
  go_enter Try.func27, Try.ntmps27
  go_upto_region 1 with (fail)
  have hs : ((W.alloc (.cells #[.pointer (some p)] 57)).alloc (.cells #[.nilFunc] 53)).heap.size = W.heap.size + 2 := by simp
  have hL : Below W.heap.size W ((W.alloc (.cells #[.pointer (some p)] 57)).alloc (.cells #[.nilFunc] 53)) := below_alloc (below_alloc (Below.refl _ _) _) _
  generalize (W.alloc (.cells #[.pointer (some p)] 57)).alloc (.cells #[.nilFunc] 53) = X at *
  have HS := Aside0.mk hs
  have HL := Aside0.mk hL
  clear hs hL
  have hB2 := Aside0.mk (blk_set HB.out 0 (.func (.func 41) #[] #[.pointer (some ⟨W.heap.size, 0, none⟩)]))
  have hc2 := (blk_cell hB2.out 0).trans (show _ = some _ from rfl)
  have hz2 := blk_frozen hB2.out 0
  go_wp2
  have hB3 := blk_set hB2.out 0 (.func (.func 41) #[] #[.pointer (some ⟨W.heap.size, 0, none⟩)])
  have hc3 := (blk_cell hB3 0).trans (show _ = some _ from rfl)
  have hn : ∀ (Y : World) (v : Value) (k : Nat), k ≠ W.heap.size + 1 → (Y.setCell ⟨W.heap.size + 1, 0, none⟩ v).heap[k]? = Y.heap[k]? := fun Y v k hk => Below.heap_setCell Y ⟨W.heap.size + 1, 0, none⟩ v k hk
  refine bodyPost_ret (v := .tuple #[.func (.func 41) #[] #[.pointer (some ⟨W.heap.size, 0, none⟩)], .func (.func 44) #[] #[.pointer (some ⟨W.heap.size, 0, none⟩)], .func (.func 47) #[] #[.pointer (some ⟨W.heap.size + 1, 0, none⟩)]]) (by simp [results, Try.results27, go_sem, hc3]) rfl ?_
  refine ⟨rfl, (hn _ _ _ (by omega)).trans ((hn _ _ _ (by omega)).trans HA.out), by simpa using hB3, ?_, by rw [size_set, size_set]; exact HS.out⟩
  exact (HL.out.setCell (p := ⟨W.heap.size + 1, 0, none⟩) (by show W.heap.size ≤ W.heap.size + 1; omega) _).setCell (p := ⟨W.heap.size + 1, 0, none⟩) (by show W.heap.size ≤ W.heap.size + 1; omega) _
structure RdV (w W : World) (c4 c5 c6 : Value) (vb : Value) (m : Nat) : Prop where
  hb : Below w.heap.size w W
  b0 : W.heap[w.heap.size]? = some (.cells #[vb] 22 (0, 0))
  b2 : W.heap[w.heap.size + 2]? = some (.cells #[.pointer (some ⟨w.heap.size, 0, none⟩)] 57 (0, 0))
  b3 : W.heap[w.heap.size + 3]? = some (.cells #[.func (.func 41) #[] #[.pointer (some ⟨w.heap.size + 2, 0, none⟩)]] 53 (0, 0))
  b4 : W.heap[w.heap.size + 4]? = some (.cells #[c4] 53 (0, 0))
  b5 : W.heap[w.heap.size + 5]? = some (.cells #[c5] 54 (0, 0))
  b6 : W.heap[w.heap.size + 6]? = some (.cells #[c6] 25 (0, 0))
  sz : W.heap.size = w.heap.size + 7 + m
section
variable {w W : World} {c4 c5 c6 vb : Value} {m : Nat}
theorem RdV.far (h : RdV w W c4 c5 c6 vb m) (i : Nat) (hi : 4 ≤ i) (v : Value) : Below w.heap.size w (W.setCell ⟨w.heap.size + i, 0, none⟩ v) ∧ (∀ k, k ≠ w.heap.size + i → (W.setCell ⟨w.heap.size + i, 0, none⟩ v).heap[k]? = W.heap[k]?) ∧ (W.setCell ⟨w.heap.size + i, 0, none⟩ v).heap.size = W.heap.size :=
  ⟨h.hb.setCell (p := ⟨w.heap.size + i, 0, none⟩) (by show w.heap.size ≤ w.heap.size + i; omega) v, fun k hk => Below.heap_setCell W ⟨w.heap.size + i, 0, none⟩ v k hk, size_set _ _ _⟩
theorem RdV.set4 (h : RdV w W c4 c5 c6 vb m) (v : Value) : RdV w (W.setCell ⟨w.heap.size + 4, 0, none⟩ v) v c5 c6 vb m := by
  obtain ⟨a, b, c⟩ := h.far 4 (by omega) v
  exact ⟨a, (b _ (by omega)).trans h.b0, (b _ (by omega)).trans h.b2, (b _ (by omega)).trans h.b3, by simpa using blk_set h.b4 0 v, (b _ (by omega)).trans h.b5, (b _ (by omega)).trans h.b6, c.trans h.sz⟩
theorem RdV.set5 (h : RdV w W c4 c5 c6 vb m) (v : Value) : RdV w (W.setCell ⟨w.heap.size + 5, 0, none⟩ v) c4 v c6 vb m := by
  obtain ⟨a, b, c⟩ := h.far 5 (by omega) v
  exact ⟨a, (b _ (by omega)).trans h.b0, (b _ (by omega)).trans h.b2, (b _ (by omega)).trans h.b3, (b _ (by omega)).trans h.b4, by simpa using blk_set h.b5 0 v, (b _ (by omega)).trans h.b6, c.trans h.sz⟩
theorem RdV.set6 (h : RdV w W c4 c5 c6 vb m) (v : Value) : RdV w (W.setCell ⟨w.heap.size + 6, 0, none⟩ v) c4 c5 v vb m := by
  obtain ⟨a, b, c⟩ := h.far 6 (by omega) v
  exact ⟨a, (b _ (by omega)).trans h.b0, (b _ (by omega)).trans h.b2, (b _ (by omega)).trans h.b3, (b _ (by omega)).trans h.b4, (b _ (by omega)).trans h.b5, by simpa using blk_set h.b6 0 v, c.trans h.sz⟩
theorem RdV.alloc (h : RdV w W c4 c5 c6 vb m) (o : Obj) : RdV w (W.alloc o) c4 c5 c6 vb (m + 1) :=
  ⟨below_alloc h.hb o, blk_alloc h.b0 o, blk_alloc h.b2 o, blk_alloc h.b3 o, blk_alloc h.b4 o, blk_alloc h.b5 o, blk_alloc h.b6 o, by rw [World.size_alloc, h.sz]; omega⟩
theorem RdV.start {X : World} {ob o1 a b c : Obj} (x2 : X.heap[w.heap.size + 2]? = some (.cells #[.pointer (some ⟨w.heap.size, 0, none⟩)] 57 (0, 0))) (x3 : X.heap[w.heap.size + 3]? = some (.cells #[.func (.func 41) #[] #[.pointer (some ⟨w.heap.size + 2, 0, none⟩)]] 53 (0, 0)))
    (hb : Below ((w.alloc ob).alloc o1).heap.size ((w.alloc ob).alloc o1) X) (hs : X.heap.size = w.heap.size + 4) (hob : ob = .cells #[vb] 22 (0, 0)) (ha : a = .cells #[c4] 53 (0, 0)) (hb' : b = .cells #[c5] 54 (0, 0)) (hc : c = .cells #[c6] 25 (0, 0)) :
    RdV w (((X.alloc a).alloc b).alloc c) c4 c5 c6 vb 0 := by
  subst hob ha hb' hc
  have h0 : X.heap[w.heap.size]? = some (.cells #[vb] 22 (0, 0)) := (hb.block _ (by simp; omega)).trans (blk_alloc (heap_alloc_new w _) _)
  have e4 := heap_alloc_new X (.cells #[c4] 53 (0, 0))
  have e5 := new_at2 X (.cells #[c4] 53 (0, 0)) (.cells #[c5] 54 (0, 0))
  have e6 := new_at3 X (.cells #[c4] 53 (0, 0)) (.cells #[c5] 54 (0, 0)) (.cells #[c6] 25 (0, 0))
  rw [hs] at e4 e5 e6
  exact ⟨below_alloc (below_alloc (below_alloc (below_step (below_alloc (below_alloc (Below.refl _ _) _) _) hb) _) _) _, blk_alloc (blk_alloc (blk_alloc h0 _) _) _, blk_alloc (blk_alloc (blk_alloc x2 _) _) _, blk_alloc (blk_alloc (blk_alloc x3 _) _) _, blk_alloc (blk_alloc e4 _) _, blk_alloc e5 _, e6, by rw [World.size_alloc, World.size_alloc, World.size_alloc, hs]⟩
theorem RdV.tk {A : Option Addr} {c : Nat} {l : List Int} {M : Nat} {ok : Nat → Prop} (h : RdV w W (.func (.func 41) #[] #[.pointer (some ⟨w.heap.size + 2, 0, none⟩)]) (.func (.func 44) #[] #[.pointer (some ⟨w.heap.size + 2, 0, none⟩)]) (.func (.func 47) #[] #[.pointer (some ⟨w.heap.size + 3, 0, none⟩)]) (.slice A l.length c) m)
    (hr : Kd.C (Kd.int .u8) w A l.length l) (hc : l.length ≤ c) (hM : w.heap.size + 7 ≤ M) (hM2 : M ≤ W.heap.size) (hok : ∀ k, W.heap.size ≤ k → ok k) : TkS w.heap.size M ok W l :=
  ⟨⟨_, h.b0, Rest.of_C hr hc h.hb⟩, h.b2, h.b3, h.b4, h.b5, h.b6, hM, hM2, hok⟩
end
theorem store_row_ {P : Program} {ops : Array Oper} {Q : Exit → Act → World → Prop} {o : Oper} {a : Act} {w : World} {K : Act → World → Prop} (ty : TypeId) (x y : Operand) (hw : Region.wanted o (yielded ops a.tmps) = true) (hN : o.dst = none) (ho : o.op = .store ty x y)
    (g : Nat) (cells : Array Value) (hx : a.eval x = .pointer (some ⟨g, 0, none⟩)) (hy : a.eval y = .agg cells)
    (t : TypeId) (old : Array Value) (hg : w.heap[g]? = some (.cells old t (0, 0))) (hi : (P.info? ty).map (·.size) = some cells.size)
    (hold : old.size = cells.size) (h1 : cells.all (·.oneCell') = true)
    (h : K a (w.setRow g cells)) : if Region.wanted o (yielded ops a.tmps) = true then Oper.wp P o a w K Q else K (a.put none undef) w := by
  rw [if_pos hw]
  refine wp_store_row ty x y ho g cells hx hy t old hg hi hold h1 ?_
  rw [hN]
  exact h
theorem storeL_row_ {P : Program} {ops : Array Oper} {Q : Exit → Act → World → Prop} {rest : List Oper} {o : Oper} {a : Act} {w : World} (ty : TypeId) (x y : Operand) (hd : o.dst = none) (hG : o.guard = none) (ho : o.op = .store ty x y)
    (g : Nat) (cells : Array Value) (hx : a.eval x = .pointer (some ⟨g, 0, none⟩)) (hy : a.eval y = .agg cells)
    (t : TypeId) (old : Array Value) (hg : w.heap[g]? = some (.cells old t (0, 0))) (hi : (P.info? ty).map (·.size) = some cells.size)
    (hold : old.size = cells.size) (h1 : cells.all (·.oneCell') = true)
    (h : wpList P ops Q rest a (w.setRow g cells)) : wpList P ops Q (o :: rest) a w := by
  refine wpList_plain hG fun K hK => ?_
  refine wp_store_row ty x y ho g cells hx hy t old hg hi hold h1 ?_
  rw [hd]
  exact hK _ _ h
theorem Txt.row {M : Nat} {W : World} {v : Value} {l : List Int} (h : Txt M W v l) (g : Nat) (cs : Array Value) (hg : g < M) : Txt M (W.setRow g cs) v l := Kd.V_step h (fun k hk _ => setRow_other W g k cs (by omega))
theorem Txt.below {M : Nat} {W W1 : World} {v : Value} {l : List Int} (h : Txt M W v l) (hb : Below W.heap.size W W1) : Txt M W1 v l := Kd.V_below h hb
theorem Txt.V {M n : Nat} {W : World} {v : Value} {l : List Int} (h : Txt M W v l) (hM : n ≤ M) : Kd.V (Kd.int .u8) 5 W n (fun k_ => n ≤ k_) v l := Kd.V_mono (show Kd.V (Kd.int .u8) 5 W n (fun k_ => M ≤ k_) v l from h) (fun _ hk => Nat.le_trans hM hk)
inductive Part where
  | num (n : Int)
  | txt (A : Option Addr) (c : Nat) (l : List Int)
  | flag (b : Bool)
def Part.val : Part → Value
  | .num n => .iface 3 (.int .i64 n)
  | .txt A c l => .iface 22 (.slice A l.length c)
  | .flag b => .iface 4 (.bool b)
def Part.ok (W : World) : Part → Prop
  | .txt A c l => Kd.C (Kd.int .u8) W A l.length l ∧ l.length ≤ c
  | _ => True
def putF : List Int → List Part → Option (List Int)
  | acc, [] => some acc
  | acc, .num n :: r => (octet_Number.f acc n).bind fun p => putF p.1 r
  | acc, .txt _ _ l :: r => (octet_Text.f acc l).bind fun p => putF p.1 r
  | acc, .flag b :: r => if acc.length < 140737488355000 then putF (acc ++ [if b then 1 else 0]) r else none
set_option maxHeartbeats 8000000 in
set_option maxRecDepth 100000 in
theorem put_calls (ps : List Part) (g : Nat) (r : List Int) (w : World) (hg : w.heap[g]? = some (.cells (ps.map Part.val).toArray 20 (0, 0))) (hps : ps.length ≤ 100) (hok : ∀ p ∈ ps, p.ok w) (h : putF [] ps = some r) :
    Calls Try.prog 22 #[.slice (some ⟨g, 0, none⟩) ps.length ps.length] w fun e w' => ∃ v, e = .returned v ∧ Kd.R (Kd.int .u8) 5 w' w.heap.size (fun _ => True) v r ∧ Below w.heap.size w w' := by
  have hni : ∀ (n : Int) (w : World), (Instr.typeAssert (.iface 3 (.int .i64 n)) 20 3 true).run Try.prog w = .ok (.tuple #[.int .i64 n, .bool true]) w := fun _ _ => by kernel_rfl
  have hti : ∀ (A : Option Addr) (n c : Nat) (w : World), (Instr.typeAssert (.iface 22 (.slice A n c)) 20 3 true).run Try.prog w = .ok (.tuple #[.int .i64 0, .bool false]) w := fun _ _ _ _ => by kernel_rfl
  have hfi : ∀ (b : Bool) (w : World), (Instr.typeAssert (.iface 4 (.bool b)) 20 3 true).run Try.prog w = .ok (.tuple #[.int .i64 0, .bool false]) w := fun _ _ => by kernel_rfl
  have htt : ∀ (A : Option Addr) (n c : Nat) (w : World), (Instr.typeAssert (.iface 22 (.slice A n c)) 20 22 true).run Try.prog w = .ok (.tuple #[.slice A n c, .bool true]) w := fun _ _ _ _ => by kernel_rfl
  have hft : ∀ (b : Bool) (w : World), (Instr.typeAssert (.iface 4 (.bool b)) 20 22 true).run Try.prog w = .ok (.tuple #[.slice none 0 0, .bool false]) w := fun _ _ => by kernel_rfl
  have hff : ∀ (b : Bool) (w : World), (Instr.typeAssert (.iface 4 (.bool b)) 20 4 true).run Try.prog w = .ok (.tuple #[.bool b, .bool true]) w := fun _ _ => by kernel_rfl
  have HG := Aside0.mk hg
  have HO := Aside0.mk hok
  have HP := Aside0.mk h
  clear hg hok h
  go_enter Try.func22, Try.ntmps22
  go_wp2
  go_loopw [2, 11] (fun s2 s11 wr => ∃ (k : Nat) (acc : List Int), k ≤ ps.length ∧ s11 = .int .i64 k ∧ Aside0 (Kd.R (Kd.int .u8) 5 wr w.heap.size (fun _ => True) s2 acc) ∧ Aside0 (Below w.heap.size w wr) ∧ Aside0 (putF acc (ps.drop k) = some r)) (fun _ s11 _ => ps.length - (intOf s11).toNat)
  case atStart => exact ⟨0, [], Nat.zero_le _, rfl, ⟨Kd.R_nil _ _ _ _ _⟩, ⟨Below.refl _ _⟩, HP⟩
  case round =>
    obtain ⟨k, acc, hk, rfl, HR, HB, HF⟩ := hrel
    by_cases hlt : k < ps.length
    · obtain ⟨p, hp⟩ : ∃ p, ps[k]? = some p := ⟨_, List.getElem?_eq_getElem hlt⟩
      have hd : ps.drop k = p :: ps.drop (k + 1) := by rw [List.drop_eq_getElem_cons hlt]; congr 1; rw [List.getElem?_eq_getElem hlt] at hp; exact Option.some.inj hp
      have hgr := (HB.out.block g (blk_lt HG.out)).trans HG.out
      have hcell : wr.cell? ⟨g, k, none⟩ = some p.val := by rw [blk_cell hgr k]; simp [hp]
      have hpok := HO.out p (List.mem_of_getElem? hp)
      have HF2 := Aside0.mk (show putF acc (p :: ps.drop (k + 1)) = some r from by rw [← hd]; exact HF.out)
      obtain ⟨A5, c5, rfl⟩ := Kd.R_slice HR.out
      clear hd hgr hp HF
      have hl1 : (k : Int) < (ps.length : Int) := by omega
      cases p with
      | num n =>
        have hcell' : wr.cell? ⟨g, k, none⟩ = some (.iface 3 (.int .i64 n)) := hcell
        have hF := HF2.out
        simp only [putF] at hF
        obtain ⟨⟨b, e⟩, hN, hF⟩ := Option.bind_eq_some_iff.mp hF
        have HN := Aside0.mk (octet_Number.calls A5 c5 acc n b e wr (Kd.R_reads' HR.out).2.2 (Kd.R_reads' HR.out).2.1 hN)
        have HF3 := Aside0.mk hF
        clear hcell hF hN hpok HF2
        go_wp2_with (go_at_call 38; (with_reducible refine HN.out.mono ?_); rintro e1 w1 ⟨v1, rfl, hv, hb⟩; have HV := Aside0.mk (Kd.R_mono (ok' := fun _ => True) (Kd.R_lower hv HB.out.size) (fun _ _ => trivial)); have HB1 := Aside0.mk (below_step HB.out hb); clear hv hb)
        exact ⟨⟨k + 1, b, by omega, by go_num, HV, HB1, HF3⟩, by simp [intOf]; omega⟩
      | txt A c l =>
        have hcell' : wr.cell? ⟨g, k, none⟩ = some (.iface 22 (.slice A l.length c)) := hcell
        have hF := HF2.out
        simp only [putF] at hF
        obtain ⟨⟨b, e⟩, hN, hF⟩ := Option.bind_eq_some_iff.mp hF
        have HN := Aside0.mk (octet_Text.calls A5 c5 acc A c l b e wr (Kd.R_reads' HR.out).2.2 (Kd.R_reads' HR.out).2.1 (Kd.C_below hpok.1 HB.out) hpok.2 hN)
        have HF3 := Aside0.mk hF
        clear hcell hF hN hpok HF2
        go_wp2_with (go_at_call 39; (with_reducible refine HN.out.mono ?_); rintro e1 w1 ⟨v1, rfl, hv, hb⟩; have HV := Aside0.mk (Kd.R_mono (ok' := fun _ => True) (Kd.R_lower hv HB.out.size) (fun _ _ => trivial)); have HB1 := Aside0.mk (below_step HB.out hb); clear hv hb)
        exact ⟨⟨k + 1, b, by omega, by go_num, HV, HB1, HF3⟩, by simp [intOf]; omega⟩
      | flag b =>
        have hcell' : wr.cell? ⟨g, k, none⟩ = some (.iface 4 (.bool b)) := hcell
        have hF := HF2.out
        simp only [putF] at hF
        have hlen : acc.length < 140737488355000 := Classical.byContradiction fun hn => by rw [if_neg hn] at hF; cases hF
        rw [if_pos hlen] at hF
        have HF3 := Aside0.mk hF
        have HL := Aside0.mk hlen
        clear hcell hF hpok HF2 hlen
        cases b with
        | false =>
          go_wp2_with (first | ((with_reducible refine gate_builtin (b := .append) (xs := #[.tmp 38, .tmp 40]) rfl ?_); at_builtin; refine Kd.R_append (Kd.int .u8) (w0 := w) w.heap.size rfl (.tmp 38) (.tmp 40) 22 5 (.int .u8 0) 1 rfl Try.underlying22 info5 rfl (by decide) (by omega) (.slice A5 acc.length c5) acc 0 [.int .u8 0] (fun _ => True) (fun _ => False) rfl rfl ?aP (fun _ hk => hk.elim) ?aF ?aO ?aB ?aS ?aL ?_; (case aP => exact rfl); (case aB => exact HB.out); (case aF => exact (fun _ _ => trivial)); (case aO => exact HR.out); (case aS => exact below_size HB.out); (case aL => have := HL.out; omega); intro v135 w12 ho hb hg hat; have HV := Aside0.mk ho; have HB1 := Aside0.mk hb; clear ho hb hg hat))
          exact ⟨⟨k + 1, _, by omega, by go_num, HV, HB1, HF3⟩, by simp [intOf]; omega⟩
        | true =>
          go_wp2_with (first | ((with_reducible refine gate_builtin (b := .append) (xs := #[.tmp 38, .tmp 40]) rfl ?_); at_builtin; refine Kd.R_append (Kd.int .u8) (w0 := w) w.heap.size rfl (.tmp 38) (.tmp 40) 22 5 (.int .u8 0) 1 rfl Try.underlying22 info5 rfl (by decide) (by omega) (.slice A5 acc.length c5) acc 1 [.int .u8 1] (fun _ => True) (fun _ => False) rfl rfl ?aP (fun _ hk => hk.elim) ?aF ?aO ?aB ?aS ?aL ?_; (case aP => exact rfl); (case aB => exact HB.out); (case aF => exact (fun _ _ => trivial)); (case aO => exact HR.out); (case aS => exact below_size HB.out); (case aL => have := HL.out; omega); intro v135 w12 ho hb hg hat; have HV := Aside0.mk ho; have HB1 := Aside0.mk hb; clear ho hb hg hat))
          exact ⟨⟨k + 1, _, by omega, by go_num, HV, HB1, HF3⟩, by simp [intOf]; omega⟩
    · obtain rfl : k = ps.length := by omega
      have hl1 : ¬ ((ps.length : Int) < (ps.length : Int)) := by omega
      have hF := HF.out
      rw [List.drop_length] at hF
      obtain rfl := Option.some.inj hF
      clear hF HF
      go_wp2
      go_ret
      exact ⟨_, rfl, HR.out, HB.out⟩
structure TlS (N : Nat) (z1 z9 : Option Obj) (W0 W : World) (l : List Int) (e f uv : Value) (v : List Int) (u : Value) (ps : List S47) : Prop where
  tk : TkS N (N + 8) (fun k_ => N + 9 ≤ k_ ∧ some k_ ≠ u.ownBlock) W l
  hb : Below N W0 W
  b1 : W.heap[N + 1]? = z1
  b9 : W.heap[N + 8]? = z9
  bo : W.heap[N + 7]? = some (.cells #[e, f, uv, u] 36 (0, 0))
  tv : Kd.V (Kd.int .u8) 5 W 0 (fun k_ => N + 9 ≤ k_ ∧ some k_ ≠ u.ownBlock) uv v
  hp : Kd.N k47 47 W (N + 9) (fun k_ => N + 9 ≤ k_) u ps
  sz : N + 8 < W.heap.size
section
variable {N : Nat} {z1 z9 : Option Obj} {W0 W W1 : World} {l l' : List Int} {e f uv u : Value} {v : List Int} {ps : List S47}
theorem TlS.oth (h : TlS N z1 z9 W0 W l e f uv v u ps) (ht : TkS N (N + 8) (fun k_ => N + 9 ≤ k_ ∧ some k_ ≠ u.ownBlock) W1 l') (ho : Oth N W W1) : TlS N z1 z9 W0 W1 l' e f uv v u ps := by
  have hs := h.sz
  exact ⟨ht, h.hb.trans ho.1, (ho.2 _ (by omega) (by omega)).trans h.b1, (ho.2 _ (by omega) (by omega)).trans h.b9, (ho.2 _ (by omega) (by omega)).trans h.bo, Kd.V_step h.tv (fun k hk hl => ho.2 k hl (by have := hk.1; omega)), Kd.N_step h.hp (fun k hk hl => ho.2 k hl (by have h3 : N + 9 ≤ k := hk; omega)), Nat.lt_of_lt_of_le hs ho.1.size⟩
theorem TlS.drew (h : TlS N z1 z9 W0 W l e f uv v u ps) : TlS N z1 z9 W0 W.drew l e f uv v u ps :=
  ⟨h.tk.keep (below_drew1 (Below.refl N W)) (fun _ _ _ => rfl) (fun _ _ _ => rfl), h.hb.drew, h.b1, h.b9, h.bo, Kd.V_drew h.tv, Kd.N_drew h.hp, h.sz⟩
theorem TlS.set (h : TlS N z1 z9 W0 W l e f uv v u ps) (i : Nat) (q : Value) {e' f' uv' : Value} {v' : List Int} (hi : (#[e, f, uv, u] : Array Value).setIfInBounds i q = #[e', f', uv', u]) (hv : Kd.V (Kd.int .u8) 5 W 0 (fun k_ => N + 9 ≤ k_ ∧ some k_ ≠ u.ownBlock) uv' v') : TlS N z1 z9 W0 (W.setCell ⟨N + 7, i, none⟩ q) l e' f' uv' v' u ps := by
  have hn : ∀ k, k ≠ N + 7 → (W.setCell ⟨N + 7, i, none⟩ q).heap[k]? = W.heap[k]? := fun k hk => Below.heap_setCell W ⟨N + 7, i, none⟩ q k hk
  have hb : Below N W (W.setCell ⟨N + 7, i, none⟩ q) := (Below.refl N W).setCell (p := ⟨N + 7, i, none⟩) (by show N ≤ N + 7; omega) q
  exact ⟨h.tk.keep hb (fun k h1 h2 => hn k (by omega)) (fun k _ h2 => hn k (by have := h2.1; omega)), h.hb.trans hb, (hn _ (by omega)).trans h.b1, (hn _ (by omega)).trans h.b9, by rw [← hi]; exact blk_set h.bo i q, Kd.V_step hv (fun k hk _ => hn k (by have := hk.1; omega)), Kd.N_step h.hp (fun k hk _ => hn k (by have h3 : N + 9 ≤ k := hk; omega)), Nat.lt_of_lt_of_le h.sz hb.size⟩
theorem TlS.lost (h : TlS N z1 z9 W0 W l e f uv v u ps) (hb : Oth N W W1) : Below N W0 W1 ∧ W1.heap[N + 1]? = z1 ∧ W1.heap[N + 8]? = z9 := by
  have hs := h.sz
  exact ⟨h.hb.trans hb.1, (hb.2 _ (by omega) (by omega)).trans h.b1, (hb.2 _ (by omega) (by omega)).trans h.b9⟩
theorem TlS.oth_b (h : TlS N z1 z9 W0 W l e f uv v u ps) (hb : Below W.heap.size W W1) : Oth N W W1 := Oth.of_below hb (by have := h.sz; omega)
theorem TlS.S (h : TlS N z1 z9 W0 W l e f uv v u ps) : W.cell? ⟨N + 4, 0, none⟩ = some (.func (.func 41) #[] #[.pointer (some ⟨N + 2, 0, none⟩)]) ∧ W.cell? ⟨N + 5, 0, none⟩ = some (.func (.func 44) #[] #[.pointer (some ⟨N + 2, 0, none⟩)]) ∧ W.cell? ⟨N + 6, 0, none⟩ = some (.func (.func 47) #[] #[.pointer (some ⟨N + 3, 0, none⟩)]) ∧ W.cell? ⟨N + 7, 3, none⟩ = some u :=
  ⟨(blk_cell h.tk.p4 0).trans rfl, (blk_cell h.tk.p5 0).trans rfl, (blk_cell h.tk.p6 0).trans rfl, (blk_cell h.bo 3).trans rfl⟩
theorem TlS.txt {s : List Int} {x : Value} {Wb : World} (h : TlS N z1 z9 W0 Wb l e f uv v u ps) (hv : Kd.V (Kd.int .u8) 5 W1 Wb.heap.size (fun k_ => Wb.heap.size ≤ k_) x s) : Kd.V (Kd.int .u8) 5 W1 0 (fun k_ => N + 9 ≤ k_ ∧ some k_ ≠ u.ownBlock) x s := by
  refine Kd.V_mono (show Kd.V (Kd.int .u8) 5 W1 0 (fun k_ => Wb.heap.size ≤ k_) x s from hv) (fun k hk => ⟨by have := h.sz; have h3 : Wb.heap.size ≤ k := hk; omega, fun hc => ?_⟩)
  have := Kd.N_lt h.hp k hc.symm
  have h3 : Wb.heap.size ≤ k := hk
  omega
theorem TlS.txt_oth {s : List Int} {x : Value} (hv : Kd.V (Kd.int .u8) 5 W 0 (fun k_ => N + 9 ≤ k_ ∧ some k_ ≠ u.ownBlock) x s) (ho : Oth N W W1) : Kd.V (Kd.int .u8) 5 W1 0 (fun k_ => N + 9 ≤ k_ ∧ some k_ ≠ u.ownBlock) x s := Kd.V_step hv (fun k hk hl => ho.2 k hl (by have := hk.1; omega))
theorem TlS.push {u1 : Value} {p : S47} (h : TlS N z1 z9 W0 W l e f uv v u ps) (hN : Kd.N k47 47 W1 (N + 9) (fun k_ => N + 9 ≤ k_) u1 (ps ++ [p])) (hg : W.grownBy W1 u.ownBlock) (hat : u1.ownBlock = u.ownBlock ∨ ∃ b, u1.ownBlock = some b ∧ W.heap.size ≤ b) :
    TlS N z1 z9 W0 (W1.setCell ⟨N + 7, 3, none⟩ u1) l e f uv v u1 (ps ++ [p]) ∧ (∀ k, k ≤ N + 8 → W1.heap[k]? = W.heap[k]?) := by
  have hs := h.sz
  have hge : ∀ k, u.ownBlock = some k → N + 9 ≤ k := Kd.N_base h.hp
  have hb : Below N W W1 := (Below.refl N W).grown hg (by omega) (fun k hk => by have := hge k hk; omega)
  have hlow : ∀ k, k ≤ N + 8 → W1.heap[k]? = W.heap[k]? := fun k hk => hg.block k (by omega) (fun hc => by have := hge k hc.symm; omega)
  have hne : ∀ k, N + 9 ≤ k ∧ some k ≠ u.ownBlock → k < W.heap.size → (N + 9 ≤ k ∧ some k ≠ u1.ownBlock) := fun k hk hl => ⟨hk.1, fun hc => by
    rcases hat with hat | ⟨b, hb, hle⟩
    · exact hk.2 (hc.trans hat)
    · rw [hb] at hc; injection hc with hc; omega⟩
  have hst : ∀ k, k < W.heap.size → (N + 9 ≤ k ∧ some k ≠ u.ownBlock) → W1.heap[k]? = W.heap[k]? := fun k hl hk => hg.block k hl hk.2
  obtain ⟨vb, hvb, hrb⟩ := h.tk.bx
  have hr1 : Rest N (fun k_ => N + 9 ≤ k_ ∧ some k_ ≠ u1.ownBlock) W1 vb l := by
    have a := hrb.mono (ok' := fun k => (N + 9 ≤ k ∧ some k ≠ u.ownBlock) ∧ k < W.heap.size) (fun k hl hk => ⟨hk, hl⟩)
    exact (a.step hb (fun k hl hk => hst k hl hk.1)).mono (fun k _ hk => hne k hk.1 hk.2)
  have tv1 : Kd.V (Kd.int .u8) 5 W1 0 (fun k_ => N + 9 ≤ k_ ∧ some k_ ≠ u1.ownBlock) uv v := Kd.V_mono (Kd.V_step (Kd.V_bound h.tv) (fun k hk hl => hst k hl hk.1)) (fun k hk => hne k hk.1 hk.2)
  have hM := h.tk.hM
  have tk1 : TkS N (N + 8) (fun k_ => N + 9 ≤ k_ ∧ some k_ ≠ u1.ownBlock) W1 l := ⟨⟨vb, (hlow _ (by omega)).trans hvb, hr1⟩, (hlow _ (by omega)).trans h.tk.p2, (hlow _ (by omega)).trans h.tk.p3, (hlow _ (by omega)).trans h.tk.p4, (hlow _ (by omega)).trans h.tk.p5, (hlow _ (by omega)).trans h.tk.p6, hM, Nat.le_trans h.tk.hs hb.size, fun k hk => ⟨by have := hb.size; omega, fun hc => by have := Kd.N_lt hN k hc.symm; omega⟩⟩
  have hn : ∀ k, k ≠ N + 7 → (W1.setCell ⟨N + 7, 3, none⟩ u1).heap[k]? = W1.heap[k]? := fun k hk => Below.heap_setCell W1 ⟨N + 7, 3, none⟩ u1 k hk
  have hb2 : Below N W1 (W1.setCell ⟨N + 7, 3, none⟩ u1) := (Below.refl N W1).setCell (p := ⟨N + 7, 3, none⟩) (by show N ≤ N + 7; omega) u1
  refine ⟨⟨tk1.keep hb2 (fun k h1 h2 => hn k (by omega)) (fun k _ h2 => hn k (by have := h2.1; omega)), (h.hb.trans hb).trans hb2, (hn _ (by omega)).trans ((hlow _ (by omega)).trans h.b1), (hn _ (by omega)).trans ((hlow _ (by omega)).trans h.b9), ?_, Kd.V_step tv1 (fun k hk _ => hn k (by have := hk.1; omega)), Kd.N_step hN (fun k hk _ => hn k (by have h3 : N + 9 ≤ k := hk; omega)), by rw [size_set]; have := hb.size; omega⟩, hlow⟩
  simpa using blk_set ((hlow _ (by omega)).trans h.bo) 3 u1
end
def tellLoop : Nat → List Int → List S47 → Option (Option (List S47 × List Int))
  | 0, l, ps => some (some (ps, l))
  | n + 1, l, ps => (octet_TakeText.f l).bind fun k => if k.2.2 ≠ 0 then some none else (octet_TakeText.f k.2.1).bind fun v => if v.2.2 ≠ 0 then some none else tellLoop n v.2.1 (ps ++ [⟨k.1, v.1⟩])
def tellF (l : List Int) : Option (Option (Int × Bool × List Int × List S47 × List Int)) :=
  (octet_Take.f l).bind fun p => if p.2.2 ≠ 0 then some none else (octet_Take.f p.2.1).bind fun o => if o.2.2 ≠ 0 then some none else if 1 < o.1 then some none else
  (octet_TakeText.f o.2.1).bind fun v => if v.2.2 ≠ 0 then some none else (octet_Take.f v.2.1).bind fun n => if n.2.2 ≠ 0 then some none else if 80 < n.1 then some none else
  (tellLoop n.1.toNat n.2.1 []).bind fun q => some (q.map fun q => (p.1, o.1 == 1, v.1, q.1, q.2))
def TellPost (N : Nat) (z1 z9 : Option Obj) (W0 : World) (res : Option (Int × Bool × List Int × List S47 × List Int)) (e : Ending) (W' : World) : Prop :=
  (∃ x, res = none ∧ e = .panicked [lostV x] ∧ Below N W0 W' ∧ W'.heap[N + 1]? = z1 ∧ W'.heap[N + 8]? = z9) ∨
  (∃ er op v ps rest uv u, res = some (er, op, v, ps, rest) ∧ e = .returned (.tuple #[]) ∧ TlS N z1 z9 W0 W' rest (.int .i64 er) (.bool op) uv v u ps)
set_option maxHeartbeats 8000000 in
set_option maxRecDepth 100000 in
theorem tellDo {N : Nat} {z1 z9 : Option Obj} {W0 : World} {l : List Int} {res} (h : TlS N z1 z9 W0 W0 l (.int .i64 0) (.bool false) (.slice none 0 0) [] (.slice none 0 0) []) (hf : tellF l = some res) :
    Calls Try.prog 34 #[.pointer (some ⟨N + 4, 0, none⟩), .pointer (some ⟨N + 6, 0, none⟩), .pointer (some ⟨N + 5, 0, none⟩), .pointer (some ⟨N + 7, 0, none⟩)] W0 (TellPost N z1 z9 W0 res) := by
  have hu := Try.underlying36
  have hu2 := Try.underlying47
  have hu3 := Try.underlying64
  have eg1 := Aside0.mk (enters_of (P := Try.prog) Try.func41 (by kernel_rfl) rfl)
  have eg2 := Aside0.mk (enters_of (P := Try.prog) Try.func44 (by kernel_rfl) rfl)
  have eg3 := Aside0.mk (enters_of (P := Try.prog) Try.func47 (by kernel_rfl) rfl)
  unfold tellF at hf
  have H0 := Aside0.mk h
  have HF := Aside0.mk hf
  clear h hf
  go_enter Try.func34, Try.ntmps34
  go_wp2
  have H1 := Aside0.mk H0.out.drew
  refine start_ (n := 12) (S := fun w' => w'.cell? ⟨N + 4, 0, none⟩ = some (.func (.func 41) #[] #[.pointer (some ⟨N + 2, 0, none⟩)]) ∧ w'.cell? ⟨N + 5, 0, none⟩ = some (.func (.func 44) #[] #[.pointer (some ⟨N + 2, 0, none⟩)]) ∧ w'.cell? ⟨N + 6, 0, none⟩ = some (.func (.func 47) #[] #[.pointer (some ⟨N + 3, 0, none⟩)]) ∧ w'.cell? ⟨N + 7, 3, none⟩ = some (.slice none 0 0)) (ds := []) #[false, false, false, false, false, false, false, false, false, false, false, false] (by kernel_rfl) rfl rfl H1.out.S (fun hHeld => ?_)
  generalize W0.drew = y1 at H1  hHeld ⊢
  refine take_ (i := 0) (N := some 5) (v := ?_) (a' := ?_) #[true, false, false, false, false, false, false, false, false, false, false, false] rfl rfl (by kernel_rfl) (fun _ _ _ h => h) (Or.inl ⟨by rfl, ?_⟩) hHeld ?_ ?_
  rotate_left
  · rintro w' ⟨s0, s1, s2, s3⟩
    go_simp
    with_reducible rfl
  rotate_left
  · simp only [Act.put, List.setIfInBounds_toArray, List.set_cons_zero, List.set_cons_succ]
    rfl
  refine take_ (i := 2) (N := some 7) (v := ?_) (a' := ?_) #[true, false, true, false, false, false, false, false, false, false, false, false] rfl rfl (by kernel_rfl) (fun _ _ _ h => h) (Or.inl ⟨by rfl, ?_⟩) hHeld ?_ ?_
  rotate_left
  · rintro w' ⟨s0, s1, s2, s3⟩
    go_simp
    with_reducible rfl
  rotate_left
  · simp only [Act.put, List.setIfInBounds_toArray, List.set_cons_zero, List.set_cons_succ]
    rfl
  refine take_ (i := 4) (N := some 9) (v := ?_) (a' := ?_) #[true, false, true, false, true, false, false, false, false, false, false, false] rfl rfl (by kernel_rfl) (fun _ _ _ h => h) (Or.inl ⟨by rfl, ?_⟩) hHeld ?_ ?_
  rotate_left
  · rintro w' ⟨s0, s1, s2, s3⟩
    go_simp
    with_reducible rfl
  rotate_left
  · simp only [Act.put, List.setIfInBounds_toArray, List.set_cons_zero, List.set_cons_succ]
    rfl
  obtain ⟨⟨er, l1, xer⟩, fer, hfer⟩ := Option.bind_eq_some_iff.mp HF.out
  simp only at hfer
  by_cases cer : xer = 0
  case neg =>
    rw [if_pos cer] at hfer
    refine one_ (i := 1) (N := some 6) #[true, true, true, false, true, false, false, false, false, false, false, false] rfl rfl (by kernel_rfl) (by decide) (fun K hK => ?_)
    refine goesF_ 41 #[.pointer (some ⟨N + 2, 0, none⟩)] (by rfl) rfl rfl rfl eg1.out ?_
    refine (numberX H1.out.tk cer fer).mono ?_
    rintro e y2 ⟨rfl, hb⟩
    obtain rfl := Option.some.inj hfer
    exact ⟨rfl, Or.inl ⟨_, rfl, rfl, H1.out.lost (H1.out.oth_b hb)⟩⟩
  subst cer
  rw [if_neg (by simp)] at hfer
  clear HF
  have HF := Aside0.mk hfer
  clear hfer
  refine one_ (i := 1) (N := some 6) #[true, true, true, false, true, false, false, false, false, false, false, false] rfl rfl (by kernel_rfl) (by decide) (fun K hK => ?_)
  refine goesF_ 41 #[.pointer (some ⟨N + 2, 0, none⟩)] (by rfl) rfl rfl rfl eg1.out ?_
  refine (numberS H1.out.tk fer).mono ?_
  rintro e y2 ⟨rfl, ht, ho⟩
  have H2 := Aside0.mk (H1.out.oth ht ho)
  clear ht ho fer H1
  refine hK.out _ _ H2.out.S (fun hHeld => ?_)
  clear hK K
  refine norm_ (a' := ?_) ?_ ?_
  rotate_left
  · show Act.put _ (some 6) _ = _
    simp only [Act.put, List.setIfInBounds_toArray, List.set_cons_zero, List.set_cons_succ]
    rfl
  obtain ⟨⟨op, l2, xop⟩, fop, hfop⟩ := Option.bind_eq_some_iff.mp HF.out
  simp only at hfop
  by_cases cop : xop = 0
  case neg =>
    rw [if_pos cop] at hfop
    refine one_ (i := 3) (N := some 8) #[true, true, true, true, true, false, false, false, false, false, false, false] rfl rfl (by kernel_rfl) (by decide) (fun K hK => ?_)
    refine goesF_ 47 #[.pointer (some ⟨N + 3, 0, none⟩)] (by rfl) rfl rfl rfl eg3.out ?_
    refine (flagX H2.out.tk cop fop).mono ?_
    rintro e y3 ⟨rfl, hb⟩
    obtain rfl := Option.some.inj hfop
    exact ⟨rfl, Or.inl ⟨_, rfl, rfl, H2.out.lost (H2.out.oth_b hb)⟩⟩
  subst cop
  rw [if_neg (by simp)] at hfop
  by_cases dop : 1 < op
  case pos =>
    rw [if_pos dop] at hfop
    refine one_ (i := 3) (N := some 8) #[true, true, true, true, true, false, false, false, false, false, false, false] rfl rfl (by kernel_rfl) (by decide) (fun K hK => ?_)
    refine goesF_ 47 #[.pointer (some ⟨N + 3, 0, none⟩)] (by rfl) rfl rfl rfl eg3.out ?_
    refine (flagB H2.out.tk dop fop).mono ?_
    rintro e y3 ⟨rfl, hb⟩
    obtain rfl := Option.some.inj hfop
    exact ⟨rfl, Or.inl ⟨_, rfl, rfl, H2.out.lost hb⟩⟩
  rw [if_neg dop] at hfop
  clear HF
  have HF := Aside0.mk hfop
  clear hfop
  refine one_ (i := 3) (N := some 8) #[true, true, true, true, true, false, false, false, false, false, false, false] rfl rfl (by kernel_rfl) (by decide) (fun K hK => ?_)
  refine goesF_ 47 #[.pointer (some ⟨N + 3, 0, none⟩)] (by rfl) rfl rfl rfl eg3.out ?_
  refine (flagS H2.out.tk (by omega) fop).mono ?_
  rintro e y3 ⟨rfl, ht, ho⟩
  have H3 := Aside0.mk (H2.out.oth ht ho)
  clear ht ho fop H2
  refine hK.out _ _ H3.out.S (fun hHeld => ?_)
  clear hK K
  refine norm_ (a' := ?_) ?_ ?_
  rotate_left
  · show Act.put _ (some 8) _ = _
    simp only [Act.put, List.setIfInBounds_toArray, List.set_cons_zero, List.set_cons_succ]
    rfl
  obtain ⟨⟨v, l3, xv⟩, fv, hfv⟩ := Option.bind_eq_some_iff.mp HF.out
  simp only at hfv
  by_cases cv : xv = 0
  case neg =>
    rw [if_pos cv] at hfv
    refine one_ (i := 5) (N := some 10) #[true, true, true, true, true, true, false, false, false, false, false, false] rfl rfl (by kernel_rfl) (by decide) (fun K hK => ?_)
    refine goesF_ 44 #[.pointer (some ⟨N + 2, 0, none⟩)] (by rfl) rfl rfl rfl eg2.out ?_
    refine (textX H3.out.tk cv fv).mono ?_
    rintro e y4 ⟨rfl, hb⟩
    obtain rfl := Option.some.inj hfv
    exact ⟨rfl, Or.inl ⟨_, rfl, rfl, H3.out.lost (H3.out.oth_b hb)⟩⟩
  subst cv
  rw [if_neg (by simp)] at hfv
  clear HF
  have HF := Aside0.mk hfv
  clear hfv
  refine one_ (i := 5) (N := some 10) #[true, true, true, true, true, true, false, false, false, false, false, false] rfl rfl (by kernel_rfl) (by decide) (fun K hK => ?_)
  refine goesF_ 44 #[.pointer (some ⟨N + 2, 0, none⟩)] (by rfl) rfl rfl rfl eg2.out ?_
  refine (textS H3.out.tk fv).mono ?_
  rintro e y4 ⟨uv, rfl, huv, ht, ho⟩
  have H4 := Aside0.mk (H3.out.oth ht ho)
  have Tv := Aside0.mk (H3.out.txt huv)
  clear huv
  clear ht ho fv H3
  refine hK.out _ _ H4.out.S (fun hHeld => ?_)
  clear hK K
  refine norm_ (a' := ?_) ?_ ?_
  rotate_left
  · show Act.put _ (some 10) _ = _
    simp only [Act.put, List.setIfInBounds_toArray, List.set_cons_zero, List.set_cons_succ]
    rfl
  refine pure_ (i := 6) (N := some 11) (v := ?_) (a' := ?_) #[true, true, true, true, true, true, true, false, false, false, false, false] rfl rfl (by kernel_rfl) (fun _ _ _ h => h) (Or.inl ⟨by rfl, ?_⟩) ?_ ?_
  rotate_left
  · intro w'
    go_simp
    with_reducible rfl
  rotate_left
  · simp only [Act.put, List.setIfInBounds_toArray, List.set_cons_zero, List.set_cons_succ]
    rfl
  have hcs := (blk_cell H4.out.bo 0).trans (show _ = some _ from rfl)
  have hfs := blk_frozen H4.out.bo 0
  have H5 := Aside0.mk (TlS.set H4.out 0 (.int .i64 er) (e' := (.int .i64 er)) (f' := (.bool false)) (uv' := (.slice none 0 0)) (v' := []) rfl H4.out.tv)
  replace Tv := Aside0.mk (Kd.V_step Tv.out (fun j_ hj_ _ => Below.heap_setCell y4 ⟨N + 7, 0, none⟩ (.int .i64 er) j_ (by show j_ ≠ N + 7; have := hj_.1; omega)))
  refine one_ (i := 7) (N := none) #[true, true, true, true, true, true, true, true, false, false, false, false] rfl rfl (by kernel_rfl) (by decide) (fun K hK => ?_)
  refine skip_ (w1 := ?_) (by rfl) rfl ?_ ?_
  rotate_left
  · go_simp
    rfl
  refine hK.out _ _ H5.out.S (fun hHeld => ?_)
  clear hK K
  clear hcs hfs H4
  generalize y4.setCell ⟨N + 7, 0, none⟩ (.int .i64 er) = y5 at H5 Tv hHeld ⊢
  refine pure_ (i := 8) (N := some 12) (v := ?_) (a' := ?_) #[true, true, true, true, true, true, true, true, true, false, false, false] rfl rfl (by kernel_rfl) (fun _ _ _ h => h) (Or.inl ⟨by rfl, ?_⟩) ?_ ?_
  rotate_left
  · intro w'
    go_simp
    with_reducible rfl
  rotate_left
  · simp only [Act.put, List.setIfInBounds_toArray, List.set_cons_zero, List.set_cons_succ]
    rfl
  have hcs := (blk_cell H5.out.bo 1).trans (show _ = some _ from rfl)
  have hfs := blk_frozen H5.out.bo 1
  have H6 := Aside0.mk (TlS.set H5.out 1 (.bool (op == 1)) (e' := (.int .i64 er)) (f' := (.bool (op == 1))) (uv' := (.slice none 0 0)) (v' := []) rfl H5.out.tv)
  replace Tv := Aside0.mk (Kd.V_step Tv.out (fun j_ hj_ _ => Below.heap_setCell y5 ⟨N + 7, 1, none⟩ (.bool (op == 1)) j_ (by show j_ ≠ N + 7; have := hj_.1; omega)))
  refine one_ (i := 9) (N := none) #[true, true, true, true, true, true, true, true, true, true, false, false] rfl rfl (by kernel_rfl) (by decide) (fun K hK => ?_)
  refine skip_ (w1 := ?_) (by rfl) rfl ?_ ?_
  rotate_left
  · go_simp
    rfl
  refine hK.out _ _ H6.out.S (fun hHeld => ?_)
  clear hK K
  clear hcs hfs H5
  generalize y5.setCell ⟨N + 7, 1, none⟩ (.bool (op == 1)) = y6 at H6 Tv hHeld ⊢
  obtain ⟨Av, cv, rfl⟩ := Kd.V_slice Tv.out
  refine pure_ (i := 10) (N := some 13) (v := ?_) (a' := ?_) #[true, true, true, true, true, true, true, true, true, true, true, false] rfl rfl (by kernel_rfl) (fun _ _ _ h => h) (Or.inl ⟨by rfl, ?_⟩) ?_ ?_
  rotate_left
  · intro w'
    go_simp
    with_reducible rfl
  rotate_left
  · simp only [Act.put, List.setIfInBounds_toArray, List.set_cons_zero, List.set_cons_succ]
    rfl
  have hcs := (blk_cell H6.out.bo 2).trans (show _ = some _ from rfl)
  have hfs := blk_frozen H6.out.bo 2
  have H7 := Aside0.mk (TlS.set H6.out 2 (.slice Av v.length cv) (e' := (.int .i64 er)) (f' := (.bool (op == 1))) (uv' := (.slice Av v.length cv)) (v' := v) rfl Tv.out)
  replace Tv := Aside0.mk (Kd.V_step Tv.out (fun j_ hj_ _ => Below.heap_setCell y6 ⟨N + 7, 2, none⟩ (.slice Av v.length cv) j_ (by show j_ ≠ N + 7; have := hj_.1; omega)))
  refine one_ (i := 11) (N := none) #[true, true, true, true, true, true, true, true, true, true, true, true] rfl rfl (by kernel_rfl) (by decide) (fun K hK => ?_)
  refine skip_ (w1 := ?_) (by rfl) rfl ?_ ?_
  rotate_left
  · go_simp
    rfl
  refine hK.out _ _ H7.out.S (fun hHeld => ?_)
  clear hK K
  clear hcs hfs H6
  generalize y6.setCell ⟨N + 7, 2, none⟩ (.slice Av v.length cv) = y7 at H7 Tv hHeld ⊢
  refine done_ (by kernel_rfl) ?_
  clear hHeld Tv
  obtain ⟨⟨n, l4, xn⟩, fn, hfn⟩ := Option.bind_eq_some_iff.mp HF.out
  simp only at hfn
  have s4 := H7.out.S.1
  by_cases cn : xn = 0
  case neg =>
    rw [if_pos cn] at hfn
    obtain rfl := Option.some.inj hfn
    have HN := Aside0.mk (numberX H7.out.tk cn fn)
    go_wp2_with (go_at_call 41; (with_reducible refine HN.out.mono ?_); rintro e w1 ⟨rfl, hb⟩; have HLo := Aside0.mk (H7.out.lost (H7.out.oth_b hb)); clear hb)
    exact ⟨rfl, Or.inl ⟨_, rfl, rfl, HLo.out⟩⟩
  subst cn
  rw [if_neg (by simp)] at hfn
  have HN := Aside0.mk (numberS H7.out.tk fn)
  by_cases dn : 80 < n
  case pos =>
    rw [if_pos dn] at hfn
    obtain rfl := Option.some.inj hfn
    go_wp2_with (go_at_call 41; (with_reducible refine HN.out.mono ?_); rintro e w1 ⟨rfl, ht, ho⟩; have HLo := Aside0.mk (H7.out.lost ho); clear ht ho)
    exact ⟨rfl, Or.inl ⟨210, rfl, rfl, HLo.out⟩⟩
  rw [if_neg dn] at hfn
  obtain ⟨q, hq, hres⟩ := Option.bind_eq_some_iff.mp hfn
  have hres' := Aside0.mk (Option.some.inj hres)
  have HQ := Aside0.mk hq
  clear hres hfn hq HF fn
  go_wp2_with (go_at_call 41; (with_reducible refine HN.out.mono ?_); rintro e w1 ⟨rfl, ht, ho⟩; have HA := Aside0.mk (H7.out.oth ht ho); clear ht ho s4)
  clear HN H7
  go_loopw [21] (fun s21 wr => ∃ (k : Nat) (lk : List Int) (u : Value) (ps : List S47), k ≤ n.toNat ∧ s21 = .int .i64 k ∧ Aside0 (ps.length = k) ∧ Aside0 (TlS N z1 z9 W0 wr lk (.int .i64 er) (.bool (op == 1)) (.slice Av v.length cv) v u ps) ∧ Aside0 (tellLoop (n.toNat - k) lk ps = some q)) (fun s21 _ => n.toNat - (intOf s21).toNat)
  case atStart => exact ⟨0, l4, _, [], Nat.zero_le _, rfl, ⟨rfl⟩, HA, HQ⟩
  case round =>
    obtain ⟨k, lk, u, ps, hk, rfl, HPL, HK, HLQ⟩ := hrel
    by_cases hlt : (k : Int) < n
    case neg =>
      have hz : n.toNat - k = 0 := by omega
      have hq := HLQ.out
      rw [hz] at hq
      obtain rfl := Option.some.inj hq
      go_wp2
      go_end0
      exact Or.inr ⟨_, _, _, _, _, _, _, hres'.out.symm, rfl, HK.out⟩
    obtain ⟨m, hm⟩ : ∃ m, n.toNat - k = m + 1 := ⟨n.toNat - k - 1, by omega⟩
    have hq := HLQ.out
    rw [hm] at hq
    simp only [tellLoop] at hq
    have HF := Aside0.mk hq
    clear hq HLQ
    have hw : wrap64 ((k : Int) + 1) = (k : Int) + 1 := by unfold wrap64; omega
    have hm' : n.toNat - (k + 1) = m := by omega
    clear HA HQ
    go_wp2
    have Hb1 := Aside0.mk HK.out.drew
    refine start_ (n := 11) (S := fun w' => w'.cell? ⟨N + 4, 0, none⟩ = some (.func (.func 41) #[] #[.pointer (some ⟨N + 2, 0, none⟩)]) ∧ w'.cell? ⟨N + 5, 0, none⟩ = some (.func (.func 44) #[] #[.pointer (some ⟨N + 2, 0, none⟩)]) ∧ w'.cell? ⟨N + 6, 0, none⟩ = some (.func (.func 47) #[] #[.pointer (some ⟨N + 3, 0, none⟩)]) ∧ w'.cell? ⟨N + 7, 3, none⟩ = some u) (ds := [10]) #[false, false, false, false, false, false, false, false, false, false, false] (by kernel_rfl) rfl rfl Hb1.out.S (fun hHeld => ?_)
    generalize wr.drew = yb1 at Hb1  hHeld ⊢
    refine pure_ (i := 0) (N := some 23) (v := ?_) (a' := ?_) #[true, false, false, false, false, false, false, false, false, false, false] rfl rfl (by kernel_rfl) (fun _ _ _ h => h) (Or.inl ⟨by rfl, ?_⟩) ?_ ?_
    rotate_left
    · intro w'
      go_simp
      with_reducible rfl
    rotate_left
    · simp only [Act.put, List.setIfInBounds_toArray, List.set_cons_zero, List.set_cons_succ]
      rfl
    refine take_ (i := 1) (N := some 24) (v := ?_) (a' := ?_) #[true, true, false, false, false, false, false, false, false, false, false] rfl rfl (by kernel_rfl) (fun _ _ _ h => h) (Or.inl ⟨by rfl, ?_⟩) hHeld ?_ ?_
    rotate_left
    · rintro w' ⟨s0, s1, s2, s3⟩
      go_simp
      with_reducible rfl
    rotate_left
    · simp only [Act.put, List.setIfInBounds_toArray, List.set_cons_zero, List.set_cons_succ]
      rfl
    refine take_ (i := 2) (N := some 25) (v := ?_) (a' := ?_) #[true, true, true, false, false, false, false, false, false, false, false] rfl rfl (by kernel_rfl) (fun _ _ _ h => h) (Or.inl ⟨by rfl, ?_⟩) hHeld ?_ ?_
    rotate_left
    · rintro w' ⟨s0, s1, s2, s3⟩
      go_simp
      with_reducible rfl
    rotate_left
    · simp only [Act.put, List.setIfInBounds_toArray, List.set_cons_zero, List.set_cons_succ]
      rfl
    refine take_ (i := 4) (N := some 27) (v := ?_) (a' := ?_) #[true, true, true, false, true, false, false, false, false, false, false] rfl rfl (by kernel_rfl) (fun _ _ _ h => h) (Or.inl ⟨by rfl, ?_⟩) hHeld ?_ ?_
    rotate_left
    · rintro w' ⟨s0, s1, s2, s3⟩
      go_simp
      with_reducible rfl
    rotate_left
    · simp only [Act.put, List.setIfInBounds_toArray, List.set_cons_zero, List.set_cons_succ]
      rfl
    obtain ⟨⟨ky, l5, xky⟩, fky, hfky⟩ := Option.bind_eq_some_iff.mp HF.out
    simp only at hfky
    by_cases cky : xky = 0
    case neg =>
      rw [if_pos cky] at hfky
      refine one_ (i := 3) (N := some 26) #[true, true, true, true, true, false, false, false, false, false, false] rfl rfl (by kernel_rfl) (by decide) (fun K hK => ?_)
      refine goesF_ 44 #[.pointer (some ⟨N + 2, 0, none⟩)] (by rfl) rfl rfl rfl eg2.out ?_
      refine (textX Hb1.out.tk cky fky).mono ?_
      rintro e yb2 ⟨rfl, hb⟩
      obtain rfl := Option.some.inj hfky
      have hr0 : res = none := hres'.out.symm
      exact ⟨rfl, Or.inl ⟨_, hr0, rfl, Hb1.out.lost (Hb1.out.oth_b hb)⟩⟩
    subst cky
    rw [if_neg (by simp)] at hfky
    clear HF
    have HF := Aside0.mk hfky
    clear hfky
    refine one_ (i := 3) (N := some 26) #[true, true, true, true, true, false, false, false, false, false, false] rfl rfl (by kernel_rfl) (by decide) (fun K hK => ?_)
    refine goesF_ 44 #[.pointer (some ⟨N + 2, 0, none⟩)] (by rfl) rfl rfl rfl eg2.out ?_
    refine (textS Hb1.out.tk fky).mono ?_
    rintro e yb2 ⟨uky, rfl, huky, ht, ho⟩
    have Hb2 := Aside0.mk (Hb1.out.oth ht ho)
    have Tky := Aside0.mk (Hb1.out.txt huky)
    clear huky
    clear ht ho fky Hb1
    refine hK.out _ _ Hb2.out.S (fun hHeld => ?_)
    clear hK K
    refine norm_ (a' := ?_) ?_ ?_
    rotate_left
    · show Act.put _ (some 26) _ = _
      simp only [Act.put, List.setIfInBounds_toArray, List.set_cons_zero, List.set_cons_succ]
      rfl
    obtain ⟨⟨va, l6, xva⟩, fva, hfva⟩ := Option.bind_eq_some_iff.mp HF.out
    simp only at hfva
    by_cases cva : xva = 0
    case neg =>
      rw [if_pos cva] at hfva
      refine one_ (i := 5) (N := some 28) #[true, true, true, true, true, true, false, false, false, false, false] rfl rfl (by kernel_rfl) (by decide) (fun K hK => ?_)
      refine goesF_ 44 #[.pointer (some ⟨N + 2, 0, none⟩)] (by rfl) rfl rfl rfl eg2.out ?_
      refine (textX Hb2.out.tk cva fva).mono ?_
      rintro e yb3 ⟨rfl, hb⟩
      obtain rfl := Option.some.inj hfva
      have hr0 : res = none := hres'.out.symm
      exact ⟨rfl, Or.inl ⟨_, hr0, rfl, Hb2.out.lost (Hb2.out.oth_b hb)⟩⟩
    subst cva
    rw [if_neg (by simp)] at hfva
    clear HF
    have HF := Aside0.mk hfva
    clear hfva
    refine one_ (i := 5) (N := some 28) #[true, true, true, true, true, true, false, false, false, false, false] rfl rfl (by kernel_rfl) (by decide) (fun K hK => ?_)
    refine goesF_ 44 #[.pointer (some ⟨N + 2, 0, none⟩)] (by rfl) rfl rfl rfl eg2.out ?_
    refine (textS Hb2.out.tk fva).mono ?_
    rintro e yb3 ⟨uva, rfl, huva, ht, ho⟩
    have Hb3 := Aside0.mk (Hb2.out.oth ht ho)
    replace Tky := Aside0.mk (TlS.txt_oth Tky.out ho)
    have Tva := Aside0.mk (Hb2.out.txt huva)
    clear huva
    clear ht ho fva Hb2
    refine hK.out _ _ Hb3.out.S (fun hHeld => ?_)
    clear hK K
    refine norm_ (a' := ?_) ?_ ?_
    rotate_left
    · show Act.put _ (some 28) _ = _
      simp only [Act.put, List.setIfInBounds_toArray, List.set_cons_zero, List.set_cons_succ]
      rfl
    obtain ⟨Ak, ck, rfl⟩ := Kd.V_slice Tky.out
    obtain ⟨Ax, cx, rfl⟩ := Kd.V_slice Tva.out
    refine pure_ (i := 6) (N := some 29) (v := ?_) (a' := ?_) #[true, true, true, true, true, true, true, false, false, false, false] rfl rfl (by kernel_rfl) (fun _ _ _ h => h) (Or.inl ⟨by rfl, ?_⟩) ?_ ?_
    rotate_left
    · intro w'
      go_simp
      with_reducible rfl
    rotate_left
    · simp only [Act.put, List.setIfInBounds_toArray, List.set_cons_zero, List.set_cons_succ]
      rfl
    refine one_ (i := 7) (N := some 30) #[true, true, true, true, true, true, true, true, false, false, false] rfl rfl (by kernel_rfl) (by decide) (fun K hK => ?_)
    refine value_ (v := .slice (some ⟨yb3.heap.size, 0, none⟩) 1 1) (w1 := yb3.alloc (.cells #[.slice Ak ky.length ck, .slice Ax va.length cx] 47 (0, 0))) (by rfl) rfl (by first | (go_simp; done) | (go_simp; rfl)) ?_
    refine hK.out _ _ ⟨(blk_cell (blk_alloc Hb3.out.tk.p4 (.cells #[.slice Ak ky.length ck, .slice Ax va.length cx] 47 (0, 0))) 0).trans rfl, (blk_cell (blk_alloc Hb3.out.tk.p5 (.cells #[.slice Ak ky.length ck, .slice Ax va.length cx] 47 (0, 0))) 0).trans rfl, (blk_cell (blk_alloc Hb3.out.tk.p6 (.cells #[.slice Ak ky.length ck, .slice Ax va.length cx] 47 (0, 0))) 0).trans rfl, (blk_cell (blk_alloc Hb3.out.bo (.cells #[.slice Ak ky.length ck, .slice Ax va.length cx] 47 (0, 0))) 3).trans rfl⟩ (fun hHeld => ?_)
    clear hK K
    refine norm_ (a' := ?_) ?_ ?_
    rotate_left
    · show Act.put _ (some 30) _ = _
      simp only [Act.put, List.setIfInBounds_toArray, List.set_cons_zero, List.set_cons_succ]
      rfl
    have hsz := Hb3.out.sz
    have hpl := HPL.out
    refine one_ (i := 8) (N := some 31) #[true, true, true, true, true, true, true, true, true, false, false] rfl rfl (by kernel_rfl) (by decide) (fun K hK => ?_)
    refine Kd.N_append_step k47 (w0 := yb3) (N + 9) (by rfl) (.tmp 24) (.tmp 30) 34 47 (.agg #[.slice none 0 0, .slice none 0 0]) 48 rfl Try.underlying34 info47 rfl (by decide) (by decide) u ps (⟨ky, va⟩ : S47) [.slice Ak ky.length ck, .slice Ax va.length cx] (fun k_ => N + 9 ≤ k_) (fun k_ => N + 9 ≤ k_ ∧ some k_ ≠ u.ownBlock) rfl rfl (k47_mkF _ _ (⟨ky, va⟩ : S47) (Kd.V_reads' Tky.out).2.1 (Kd.V_F Tky.out) (Kd.V_reads' Tva.out).2.1 (Kd.V_F Tva.out)) (fun _ hk_ => hk_) (fun k_ hk_ => by omega) Hb3.out.hp (Below.refl _ _) (by omega) (by omega) ?_
    intro u1 w2 hN hbl hg hat
    obtain ⟨hP, hlow⟩ := Hb3.out.push hN hg hat
    have HP := Aside0.mk hP
    have hbo := (hlow (N + 7) (by omega)).trans Hb3.out.bo
    have HS2 := Aside0.mk (show _ ∧ _ ∧ _ ∧ _ from ⟨(blk_cell ((hlow (N + 4) (by omega)).trans Hb3.out.tk.p4) 0).trans rfl, (blk_cell ((hlow (N + 5) (by omega)).trans Hb3.out.tk.p5) 0).trans rfl, (blk_cell ((hlow (N + 6) (by omega)).trans Hb3.out.tk.p6) 0).trans rfl, (blk_cell hbo 3).trans rfl⟩)
    obtain ⟨Au, cu, rfl⟩ := Kd.N_slice hN
    refine hK.out _ _ HS2.out (fun hHeld => ?_)
    clear hK K
    refine norm_ (a' := ?_) ?_ ?_
    rotate_left
    · show Act.put _ (some 31) _ = _
      simp only [Act.put, List.setIfInBounds_toArray, List.set_cons_zero, List.set_cons_succ]
      rfl
    have hcs := (blk_cell hbo 3).trans (show _ = some _ from rfl)
    have hfs := blk_frozen hbo 3
    clear hP hN hbl hg hat hlow hbo HS2 Tky Tva hpl
    refine pure_ (i := 9) (N := some 32) (v := ?_) (a' := ?_) #[true, true, true, true, true, true, true, true, true, true, false] rfl rfl (by kernel_rfl) (fun _ _ _ h => h) (Or.inl ⟨by rfl, ?_⟩) ?_ ?_
    rotate_left
    · intro w'
      go_simp
      with_reducible rfl
    rotate_left
    · simp only [Act.put, List.setIfInBounds_toArray, List.set_cons_zero, List.set_cons_succ]
      rfl
    refine last_ (i := 10) (N := none) #[true, true, true, true, true, true, true, true, true, true, true] rfl rfl (by kernel_rfl) (by decide) (fun K hK => ?_)
    refine skip_ (w1 := ?_) (by rfl) rfl ?_ ?_
    rotate_left
    · go_simp
      rfl
    refine hK.out _ _ ?_
    clear hK K
    refine done_ (by kernel_rfl) ?_
    clear hHeld hcs hfs
    go_wp2
    have hlen : (ps ++ [(⟨ky, va⟩ : S47)]).length = ps.length + 1 := by rw [List.length_append]; rfl
    rw [hlen] at HP
    exact ⟨⟨k + 1, l6, .slice Au (ps.length + 1) cu, ps ++ [(⟨ky, va⟩ : S47)], by omega, by go_num, ⟨by rw [hlen, HPL.out]⟩, HP, ⟨by rw [hm']; exact HF.out⟩⟩, by simp [intOf]; omega⟩
end Go.Proofs.Ytfbjabpjfalmlaa.P
namespace Go.Proofs.Ytfbjabpjfalmlaa.P
open Go.RowKit Go.Proofs.YtfbjabpjfalmlaaW.PrintWords Go.Proofs.YtfbjabpjfalmlaaW.PrintLast Go.Proofs.YtfbjabpjfalmlaaW.PrintMore
attribute [local go_sem] max2_int min2_int max_two min_two max_three min_three max_four min_four
set_option linter.unusedVariables false
set_option linter.unusedSimpArgs false
end Go.Proofs.Ytfbjabpjfalmlaa.P
namespace Go.Proofs.Ytfbjabpjfalmlaa.P
open Go.RowKit Go.Proofs.YtfbjabpjfalmlaaW.PrintWords Go.Proofs.YtfbjabpjfalmlaaW.PrintLast Go.Proofs.YtfbjabpjfalmlaaW.PrintMore
attribute [local go_sem] max2_int min2_int max_two min_two max_three min_three max_four min_four
set_option linter.unusedVariables false
set_option linter.unusedSimpArgs false
def wire_Write.f (a0 : Int) (a1_0 : Int) (a1_1 : Int) (l1_2 : List Int) (l1_3 : List Int) (a1_4 : Bool) (l1_5 : List Int) (a1_6 : Int) : Option (List Int × Int) := (wire_may.f a0 a1_0 a1_1 l1_2 l1_3 a1_4 l1_5 a1_6).bind fun m => if m = true then (putF [] [.num a0, .num a1_0, .num a1_1, .txt none 0 l1_2, .txt none 0 l1_3, .flag a1_4, .txt none 0 l1_5, .num a1_6]).bind fun b => some (b, 0) else some ([], 210)
set_option maxHeartbeats 4000000 in
set_option maxRecDepth 100000 in
theorem wire_Write.calls (a0 : Int) (a1_0 : Int) (a1_1 : Int) (A1_2 : Option Addr) (c1_2 : Nat) (l1_2 : List Int) (A1_3 : Option Addr) (c1_3 : Nat) (l1_3 : List Int) (a1_4 : Bool) (A1_5 : Option Addr) (c1_5 : Nat) (l1_5 : List Int) (a1_6 : Int) (r1 : List Int) (r2 : Int) (w : World) (hr1_2 : Kd.C (Kd.int .u8) w A1_2 l1_2.length l1_2) (hc1_2 : l1_2.length ≤ c1_2) (hr1_3 : Kd.C (Kd.int .u8) w A1_3 l1_3.length l1_3) (hc1_3 : l1_3.length ≤ c1_3) (hr1_5 : Kd.C (Kd.int .u8) w A1_5 l1_5.length l1_5) (hc1_5 : l1_5.length ≤ c1_5) (h : wire_Write.f a0 a1_0 a1_1 l1_2 l1_3 a1_4 l1_5 a1_6 = some (r1, r2)) :
    Calls Try.prog 10 #[.int .i64 a0, .agg #[.int .i64 a1_0, .int .i64 a1_1, .slice A1_2 l1_2.length c1_2, .slice A1_3 l1_3.length c1_3, .bool a1_4, .slice A1_5 l1_5.length c1_5, .int .i64 a1_6]] w fun e w' => ∃ v0_ : Value, e = .returned (.tuple #[v0_, .int .i64 r2]) ∧ Kd.R (Kd.int .u8) 5 w' w.heap.size (fun _ => True) v0_ r1 ∧ Below w.heap.size w w' := by
  unfold wire_Write.f at h
  obtain ⟨m, hm, h⟩ := Option.bind_eq_some_iff.mp h
  obtain ⟨oA, hoA⟩ : ∃ o : Obj, o = .cells #[.int .i64 a1_0, .int .i64 a1_1, .slice A1_2 l1_2.length c1_2, .slice A1_3 l1_3.length c1_3, .bool a1_4, .slice A1_5 l1_5.length c1_5, .int .i64 a1_6] 24 (0, 0) := ⟨_, rfl⟩
  have HM := Aside0.mk (wire_may.calls a0 a1_0 a1_1 A1_2 c1_2 l1_2 A1_3 c1_3 l1_3 a1_4 A1_5 c1_5 l1_5 a1_6 m (w.alloc oA) (Kd.C_alloc hr1_2 _) hc1_2 (Kd.C_alloc hr1_3 _) hc1_3 (Kd.C_alloc hr1_5 _) hc1_5 hm)
  have HK := Aside0.mk (heap_alloc_new w oA)
  have HL := Aside0.mk (below_alloc (Below.refl w.heap.size w) oA)
  subst hoA
  have hu := Try.underlying24
  have R2 := Aside0.mk hr1_2
  have R3 := Aside0.mk hr1_3
  have R5 := Aside0.mk hr1_5
  have C2 := Aside0.mk hc1_2
  have C3 := Aside0.mk hc1_3
  have C5 := Aside0.mk hc1_5
  clear hm hr1_2 hc1_2 hr1_3 hc1_3 hr1_5 hc1_5
  cases m with
  | false =>
    rw [if_neg (by decide)] at h
    obtain ⟨rfl, rfl⟩ : [] = r1 ∧ 210 = r2 := by simpa using h
    clear h
    go_enter Try.func10, Try.ntmps10
    go_wp2_with (go_at_call 21; (with_reducible refine HM.out.mono ?_); rintro e1 w1 ⟨rfl, hb⟩; have HB1 := Aside0.mk (below_step HL.out hb); clear hb)
    go_ret2
    exact ⟨_, rfl, Kd.R_nil _ _ _ _ _, HB1.out⟩
  | true =>
    rw [if_pos rfl] at h
    obtain ⟨b, hp, h⟩ := Option.bind_eq_some_iff.mp h
    obtain ⟨rfl, rfl⟩ : b = r1 ∧ 0 = r2 := by simpa using h
    have HP := Aside0.mk (show putF [] [.num a0, .num a1_0, .num a1_1, .txt A1_2 c1_2 l1_2, .txt A1_3 c1_3 l1_3, .flag a1_4, .txt A1_5 c1_5 l1_5, .num a1_6] = some b from hp)
    clear h hp
    go_enter Try.func10, Try.ntmps10
    go_wp2_with (first | (go_at_call 21; (with_reducible refine HM.out.mono ?_); rintro e1 w1 ⟨rfl, hb⟩; have hk := blk_below HK.out hb; have z0 := (blk_cell hk 0).trans (show _ = some _ from rfl); have z1 := (blk_cell hk 1).trans (show _ = some _ from rfl); have z2 := (blk_cell hk 2).trans (show _ = some _ from rfl); have z3 := (blk_cell hk 3).trans (show _ = some _ from rfl); have z4 := (blk_cell hk 4).trans (show _ = some _ from rfl); have z5 := (blk_cell hk 5).trans (show _ = some _ from rfl); have z6 := (blk_cell hk 6).trans (show _ = some _ from rfl); have HB1 := Aside0.mk (below_step HL.out hb); clear hb hk) | (go_at_call 22; (suffices hsuf : Aside0 _ from hsuf.out)))
    refine ⟨?_⟩
    have HLa := fun o => Aside0.mk (below_alloc HB1.out o)
    refine (put_calls [.num a0, .num a1_0, .num a1_1, .txt A1_2 c1_2 l1_2, .txt A1_3 c1_3 l1_3, .flag a1_4, .txt A1_5 c1_5 l1_5, .num a1_6] w1.heap.size b _ (heap_alloc_new w1 _) (by simp) ?ok HP.out).mono ?_
    case ok =>
      intro p hp
      simp only [List.mem_cons, List.not_mem_nil, or_false] at hp
      rcases hp with rfl | rfl | rfl | rfl | rfl | rfl | rfl | rfl <;> first | trivial | exact ⟨Kd.C_below R2.out (HLa _).out, C2.out⟩ | exact ⟨Kd.C_below R3.out (HLa _).out, C3.out⟩ | exact ⟨Kd.C_below R5.out (HLa _).out, C5.out⟩
    rintro e w2 ⟨v, rfl, hv, hb⟩
    have HV := Aside0.mk (Kd.R_lower hv (HLa _).out.size)
    have HB2 := Aside0.mk (below_step (HLa _).out hb)
    clear hv hb
    go_wp2
    go_ret2
    exact ⟨_, rfl, HV.out, HB2.out⟩
end Go.Proofs.Ytfbjabpjfalmlaa.P
namespace Go.Proofs.Ytfbjabpjfalmlaa.P
open Go.RowKit Go.Proofs.YtfbjabpjfalmlaaW.PrintWords Go.Proofs.YtfbjabpjfalmlaaW.PrintLast Go.Proofs.YtfbjabpjfalmlaaW.PrintMore
attribute [local go_sem] max2_int min2_int max_two min_two max_three min_three max_four min_four
set_option linter.unusedVariables false
set_option linter.unusedSimpArgs false
end Go.Proofs.Ytfbjabpjfalmlaa.P
namespace Go.Proofs.Ytfbjabpjfalmlaa.P
open Go.RowKit Go.Proofs.YtfbjabpjfalmlaaW.PrintWords Go.Proofs.YtfbjabpjfalmlaaW.PrintLast Go.Proofs.YtfbjabpjfalmlaaW.PrintMore
attribute [local go_sem] max2_int min2_int max_two min_two max_three min_three max_four min_four
set_option linter.unusedVariables false
set_option linter.unusedSimpArgs false
end Go.Proofs.Ytfbjabpjfalmlaa.P
namespace Go.Proofs.Ytfbjabpjfalmlaa.P
open Go.RowKit Go.Proofs.YtfbjabpjfalmlaaW.PrintWords Go.Proofs.YtfbjabpjfalmlaaW.PrintLast Go.Proofs.YtfbjabpjfalmlaaW.PrintMore
attribute [local go_sem] max2_int min2_int max_two min_two max_three min_three max_four min_four
set_option linter.unusedVariables false
set_option linter.unusedSimpArgs false
def wire_Read.f (l0 : List Int) : Option (Int × Int × Int × List Int × List Int × Bool × List Int × Int × Int) := (readF l0).bind fun res => match res with
  | none => some (0, 0, 0, [], [], false, [], 0, 210)
  | some (s, kd, tb, k, hi, op, v, n, rest) => if rest.length > 0 then some (0, 0, 0, [], [], false, [], 0, 210) else
    (wire_may.f s kd tb k hi op v n).bind fun m => if m = true then some (s, kd, tb, k, hi, op, v, n, 0) else some (0, 0, 0, [], [], false, [], 0, 210)
set_option maxHeartbeats 4000000 in
set_option maxRecDepth 100000 in
theorem wire_Read.calls (A0 : Option Addr) (c0 : Nat) (l0 : List Int) (r1 : Int) (r2 : Int) (r3 : Int) (r4 : List Int) (r5 : List Int) (r6 : Bool) (r7 : List Int) (r8 : Int) (r9 : Int) (w : World) (hr0 : Kd.C (Kd.int .u8) w A0 l0.length l0) (hc0 : l0.length ≤ c0) (h : wire_Read.f l0 = some (r1, r2, r3, r4, r5, r6, r7, r8, r9)) :
    Calls Try.prog 12 #[.slice A0 l0.length c0] w fun e w' => ∃ v3_ v4_ v6_ : Value, e = .returned (.tuple #[.int .i64 r1, .agg #[.int .i64 r2, .int .i64 r3, v3_, v4_, .bool r6, v6_, .int .i64 r8], .int .i64 r9]) ∧ Kd.V (Kd.int .u8) 5 w' w.heap.size (fun k_ => (w.heap.size ≤ k_)) v3_ r4 ∧ Kd.V (Kd.int .u8) 5 w' w.heap.size (fun k_ => (w.heap.size ≤ k_)) v4_ r5 ∧ Kd.V (Kd.int .u8) 5 w' w.heap.size (fun k_ => (w.heap.size ≤ k_)) v6_ r7 ∧ Below w.heap.size w w' := by
  unfold wire_Read.f at h
  have HF := Aside0.mk h
  have HR := Aside0.mk hr0
  have HC := Aside0.mk hc0
  clear h hr0 hc0
  have hmf : ∀ (fn : Fn) (first cap : Array Value) (w : World), (Instr.makeFunc fn first cap).run Try.prog w = .ok (.func fn first cap) w := fun _ _ _ _ => rfl
  have hu := Try.underlying24
  go_enter Try.func12, Try.ntmps12
  go_wp2_with (first | (go_at_call 27; (with_reducible refine (taker_calls _ _).mono ?_); rintro e X ⟨rfl, x2, x3, hbX, hsX⟩; simp only [World.size_alloc, Nat.add_assoc, Nat.reduceAdd] at x2 x3 hsX ⊢; have X2 := Aside0.mk x2; have X3 := Aside0.mk x3; have XB := Aside0.mk hbX; have XS := Aside0.mk hsX; clear x2 x3 hbX hsX) | ((with_reducible refine gate_store (t := 53) (p := 5) rfl ?_); (suffices hsuf : Aside0 _ from hsuf.out)))
  refine ⟨?_⟩
  have hxs := XS.out
  rw [hxs]
  simp only [Nat.add_assoc, Nat.reduceAdd]
  have V0 := Aside0.mk (RdV.start (w := w) (vb := .slice A0 l0.length c0) (a := .cells #[.nilFunc] 53) (b := .cells #[.nilFunc] 54) (c := .cells #[.nilFunc] 25) X2.out X3.out XB.out XS.out rfl rfl rfl rfl)
  have Z1 := Aside0.mk (show (((X.alloc (.cells #[.nilFunc] 53)).alloc (.cells #[.nilFunc] 54)).alloc (.cells #[.nilFunc] 25)).heap[w.heap.size + 1]? = some (.cells #[.int .i64 0, .int .i64 0, .slice none 0 0, .slice none 0 0, .bool false, .slice none 0 0, .int .i64 0] 24 (0, 0)) from blk_alloc (blk_alloc (blk_alloc ((XB.out.block _ (by simp)).trans (new_at2 w _ _)) _) _) _)
  generalize ((X.alloc (.cells #[.nilFunc] 53)).alloc (.cells #[.nilFunc] 54)).alloc (.cells #[.nilFunc] 25) = Y at V0 Z1 ⊢
  clear X2 X3 XB XS hxs X
  have hc := (blk_cell V0.out.b4 0).trans (show _ = some _ from rfl)
  have hz := blk_frozen V0.out.b4 0
  go_wp2_with ((with_reducible refine gate_store (t := 54) (p := 6) rfl ?_); (suffices hsuf : Aside0 _ from hsuf.out))
  refine ⟨?_⟩
  have V1 := Aside0.mk (V0.out.set4 (.func (.func 41) #[] #[.pointer (some ⟨w.heap.size + 2, 0, none⟩)]))
  have Z2 := Aside0.mk ((Below.heap_setCell Y ⟨w.heap.size + 4, 0, none⟩ (.func (.func 41) #[] #[.pointer (some ⟨w.heap.size + 2, 0, none⟩)]) (w.heap.size + 1) (by show w.heap.size + 1 ≠ w.heap.size + 4; omega)).trans Z1.out)
  clear hc hz V0 Z1
  generalize Y.setCell ⟨w.heap.size + 4, 0, none⟩ (.func (.func 41) #[] #[.pointer (some ⟨w.heap.size + 2, 0, none⟩)]) = Y1 at V1 Z2 ⊢
  have hc := (blk_cell V1.out.b5 0).trans (show _ = some _ from rfl)
  have hz := blk_frozen V1.out.b5 0
  go_wp2_with ((with_reducible refine gate_store (t := 25) (p := 7) rfl ?_); (suffices hsuf : Aside0 _ from hsuf.out))
  refine ⟨?_⟩
  have V2 := Aside0.mk (V1.out.set5 (.func (.func 44) #[] #[.pointer (some ⟨w.heap.size + 2, 0, none⟩)]))
  have Z3 := Aside0.mk ((Below.heap_setCell Y1 ⟨w.heap.size + 5, 0, none⟩ (.func (.func 44) #[] #[.pointer (some ⟨w.heap.size + 2, 0, none⟩)]) (w.heap.size + 1) (by show w.heap.size + 1 ≠ w.heap.size + 5; omega)).trans Z2.out)
  clear hc hz V1 Z2
  generalize Y1.setCell ⟨w.heap.size + 5, 0, none⟩ (.func (.func 44) #[] #[.pointer (some ⟨w.heap.size + 2, 0, none⟩)]) = Y2 at V2 Z3 ⊢
  have hc := (blk_cell V2.out.b6 0).trans (show _ = some _ from rfl)
  have hz := blk_frozen V2.out.b6 0
  go_wp2_with (go_at_call 28; (suffices hsuf : Aside0 _ from hsuf.out))
  refine ⟨?_⟩
  have V3 := Aside0.mk (V2.out.set6 (.func (.func 47) #[] #[.pointer (some ⟨w.heap.size + 3, 0, none⟩)]))
  have Z4 := Aside0.mk ((Below.heap_setCell Y2 ⟨w.heap.size + 6, 0, none⟩ (.func (.func 47) #[] #[.pointer (some ⟨w.heap.size + 3, 0, none⟩)]) (w.heap.size + 1) (by show w.heap.size + 1 ≠ w.heap.size + 6; omega)).trans Z3.out)
  have hY2 := V2.out.sz
  clear hc hz V2 Z3
  generalize Y2.setCell ⟨w.heap.size + 6, 0, none⟩ (.func (.func 47) #[] #[.pointer (some ⟨w.heap.size + 3, 0, none⟩)]) = Y3 at V3 Z4 ⊢
  rw [hY2]
  simp only [Nat.add_assoc, Nat.add_zero, Nat.reduceAdd]
  have hY3 := V3.out.sz
  have hS := heap_alloc_new Y3 (.cells #[.int .i64 0] 3 (0, 0))
  have hO := new_at2 Y3 (.cells #[.int .i64 0] 3 (0, 0)) (.cells #[.int .i64 0, .int .i64 0, .slice none 0 0, .slice none 0 0, .bool false, .slice none 0 0, .int .i64 0] 24 (0, 0))
  rw [hY3] at hS hO
  have V5 := Aside0.mk ((V3.out.alloc (.cells #[.int .i64 0] 3 (0, 0))).alloc (.cells #[.int .i64 0, .int .i64 0, .slice none 0 0, .slice none 0 0, .bool false, .slice none 0 0, .int .i64 0] 24 (0, 0)))
  have hS5 := Aside0.mk (blk_alloc hS (.cells #[.int .i64 0, .int .i64 0, .slice none 0 0, .slice none 0 0, .bool false, .slice none 0 0, .int .i64 0] 24 (0, 0)))
  have hO5 := Aside0.mk hO
  have Z5 := Aside0.mk (blk_alloc (blk_alloc Z4.out (.cells #[.int .i64 0] 3 (0, 0))) (.cells #[.int .i64 0, .int .i64 0, .slice none 0 0, .slice none 0 0, .bool false, .slice none 0 0, .int .i64 0] 24 (0, 0)))
  have hY5 := V5.out.sz
  clear hY2 hY3 hS hO V3 Z4
  generalize (Y3.alloc (.cells #[.int .i64 0] 3 (0, 0))).alloc (.cells #[.int .i64 0, .int .i64 0, .slice none 0 0, .slice none 0 0, .bool false, .slice none 0 0, .int .i64 0] 24 (0, 0)) = Y5 at V5 hS5 hO5 Z5 hY5 ⊢
  have V6 := V5.out.alloc (.cells #[.bool false] 4 (0, 0))
  have h9 := heap_alloc_new Y5 (.cells #[.bool false] 4 (0, 0))
  rw [hY5] at h9
  have HD := Aside0.mk (RdS.mk (V6.tk HR.out HC.out (M := w.heap.size + 9) (by omega) (by rw [World.size_alloc, hY5]; omega) (fun k hk => by rw [World.size_alloc, hY5] at hk; show w.heap.size + 9 ≤ k; omega)) (Below.refl _ _) (blk_alloc Z5.out (.cells #[.bool false] 4 (0, 0))) h9 (blk_alloc hS5.out (.cells #[.bool false] 4 (0, 0))) (blk_alloc hO5.out (.cells #[.bool false] 4 (0, 0))) (by rw [World.size_alloc, hY5]; omega))
  have HB6 := Aside0.mk V6.hb
  clear V6 h9
  obtain ⟨res, hres, hF⟩ := Option.bind_eq_some_iff.mp HF.out
  have eg := enters_of (P := Try.prog) Try.func29 (by kernel_rfl) rfl
  cases res with
  | none =>
    obtain ⟨rfl, rfl, rfl, rfl, rfl, rfl, rfl, rfl, rfl⟩ : 0 = r1 ∧ 0 = r2 ∧ 0 = r3 ∧ [] = r4 ∧ [] = r5 ∧ false = r6 ∧ [] = r7 ∧ 0 = r8 ∧ 210 = r9 := by simpa using hF
    refine (take_lost 29 _ Y5 (fun W => Below w.heap.size (Y5.alloc (.cells #[.bool false] 4 (0, 0))) W ∧ W.heap[w.heap.size + 1]? = some (.cells #[.int .i64 0, .int .i64 0, .slice none 0 0, .slice none 0 0, .bool false, .slice none 0 0, .int .i64 0] 24 (0, 0)) ∧ W.heap[w.heap.size + 9]? = some (.cells #[.bool false] 4 (0, 0))) (fun W hW => by rw [hY5]; exact hW.2.2) eg ((readDo HD.out hres).mono ?_)).mono ?_
    · rintro e W (⟨x, _, rfl, hb, h1, h9⟩ | ⟨_, _, _, _, _, _, _, _, _, _, _, _, hh, _⟩)
      · exact ⟨x, rfl, hb, h1, h9⟩
      · cases hh
    rintro e W' ⟨rfl, x, W, ⟨hb, h1, h9⟩, rfl⟩
    have hq := blk_set (blk_alloc h9 (.cells #[.int .i64 x] 64)) 0 (.bool false)
    have hz := (Below.heap_setCell (W.alloc (.cells #[.int .i64 x] 64)) ⟨w.heap.size + 9, 0, none⟩ (.bool false) (w.heap.size + 1) (by show w.heap.size + 1 ≠ w.heap.size + 9; omega)).trans (blk_alloc h1 _)
    have hb7 := (below_alloc (HB6.out.trans hb) (.cells #[.int .i64 x] 64)).setCell (p := ⟨w.heap.size + 9, 0, none⟩) (by show w.heap.size ≤ w.heap.size + 9; omega) (.bool false)
    rw [hY5]
    have HZ := Aside0.mk hz
    have HB7 := Aside0.mk hb7
    clear hz hb7 hq h1 h9 hb HD HR HC
    generalize (W.alloc (.cells #[.int .i64 x] 64)).setCell ⟨w.heap.size + 9, 0, none⟩ (.bool false) = W7 at HZ HB7 ⊢
    simp only []
    go_wp2_with ((with_reducible refine gate_store (t := 24) (p := 3) rfl ?_); (suffices hsuf : Aside0 _ from hsuf.out))
    refine ⟨?_⟩
    refine storeL_row_ 24 (.tmp 3) (.tmp 31) rfl rfl rfl (w.heap.size + 1) #[.int .i64 0, .int .i64 0, .slice none 0 0, .slice none 0 0, .bool false, .slice none 0 0, .int .i64 0] rfl rfl 24 _ HZ.out (by kernel_rfl) rfl (by simp [Value.oneCell']) ?_
    have HB8 := Aside0.mk (below_setRow HB7.out (show w.heap.size ≤ w.heap.size + 1 by omega) #[.int .i64 0, .int .i64 0, .slice none 0 0, .slice none 0 0, .bool false, .slice none 0 0, .int .i64 0])
    have HO8 := setRow_heap W7 (w.heap.size + 1) _ #[.int .i64 0, .int .i64 0, .slice none 0 0, .slice none 0 0, .bool false, .slice none 0 0, .int .i64 0] 24 (0, 0) HZ.out
    generalize W7.setRow (w.heap.size + 1) #[.int .i64 0, .int .i64 0, .slice none 0 0, .slice none 0 0, .bool false, .slice none 0 0, .int .i64 0] = W8 at HB8 HO8 ⊢
    go_wp2_with (fail)
    have q0 := (blk_cell HO8 0).trans (show _ = some _ from rfl)
    have q1 := (blk_cell HO8 1).trans (show _ = some _ from rfl)
    have q2 := (blk_cell HO8 2).trans (show _ = some _ from rfl)
    have q3 := (blk_cell HO8 3).trans (show _ = some _ from rfl)
    have q4 := (blk_cell HO8 4).trans (show _ = some _ from rfl)
    have q5 := (blk_cell HO8 5).trans (show _ = some _ from rfl)
    have q6 := (blk_cell HO8 6).trans (show _ = some _ from rfl)
    have hu3 := Try.underlying3
    refine bodyPost_ret (v := .tuple #[.int .i64 0, .agg #[.int .i64 0, .int .i64 0, .slice none 0 0, .slice none 0 0, .bool false, .slice none 0 0, .int .i64 0], .int .i64 210]) (by simp [results, Try.results12, go_sem, q0, q1, q2, q3, q4, q5, q6]) rfl ?_
    exact ⟨_, _, _, rfl, Kd.V_nil _ _ _ _ _, Kd.V_nil _ _ _ _ _, Kd.V_nil _ _ _ _ _, HB8.out⟩
  | some q =>
    obtain ⟨s, kd, tb, k, hi, op, v, n, rest⟩ := q
    simp only at hF
    refine (take_ok 29 _ Y5 (fun W => ∃ uk uh uv, RdS w.heap.size (some (.cells #[.int .i64 0, .int .i64 0, .slice none 0 0, .slice none 0 0, .bool false, .slice none 0 0, .int .i64 0] 24 (0, 0))) (some (.cells #[.bool false] 4 (0, 0))) (Y5.alloc (.cells #[.bool false] 4 (0, 0))) W rest (.int .i64 s) #[.int .i64 kd, .int .i64 tb, uk, uh, .bool op, uv, .int .i64 n] ∧ Txt (w.heap.size + 10) W uk k ∧ Txt (w.heap.size + 10) W uh hi ∧ Txt (w.heap.size + 10) W uv v) (fun W hW => by obtain ⟨_, _, _, hW, _⟩ := hW; rw [hY5]; exact hW.b9) eg ((readDo HD.out hres).mono ?_)).mono ?_
    · rintro e W (⟨x, hh, _⟩ | ⟨s', kd', tb', k', hi', op', v', n', rest', uk, uh, uv, hh, rfl, hR, h1, h2, h3⟩)
      · cases hh
      · obtain ⟨rfl, rfl, rfl, rfl, rfl, rfl, rfl, rfl, rfl⟩ : s = s' ∧ kd = kd' ∧ tb = tb' ∧ k = k' ∧ hi = hi' ∧ op = op' ∧ v = v' ∧ n = n' ∧ rest = rest' := by simpa using hh
        exact ⟨rfl, uk, uh, uv, hR, h1, h2, h3⟩
    rintro e W' ⟨rfl, W, ⟨uk, uh, uv, hR, hk, hh, hv⟩, rfl⟩
    obtain ⟨Ak, ck, rfl⟩ := Kd.V_slice hk
    obtain ⟨Ah, ch, rfl⟩ := Kd.V_slice hh
    obtain ⟨Av, cv, rfl⟩ := Kd.V_slice hv
    obtain ⟨vb, hvb, Ab, cb, rfl, hcb, _⟩ := hR.tk.bx
    rw [hY5]
    have hf : ∀ j, j ≠ w.heap.size + 9 → (W.setCell ⟨w.heap.size + 9, 0, none⟩ (.bool true)).heap[j]? = W.heap[j]? := fun j hj => Below.heap_setCell W ⟨w.heap.size + 9, 0, none⟩ (.bool true) j hj
    have HZ := Aside0.mk ((hf _ (by omega)).trans hR.b1)
    have HV := Aside0.mk ((hf _ (by omega)).trans hvb)
    have HS7 := Aside0.mk ((hf _ (by omega)).trans hR.bs)
    have HO7 := Aside0.mk ((hf _ (by omega)).trans hR.bo)
    have TK := Aside0.mk (hk.set (w.heap.size + 9) 0 (.bool true) (by omega))
    have TH := Aside0.mk (hh.set (w.heap.size + 9) 0 (.bool true) (by omega))
    have TV := Aside0.mk (hv.set (w.heap.size + 9) 0 (.bool true) (by omega))
    have HB7 := Aside0.mk ((HB6.out.trans hR.hb).setCell (p := ⟨w.heap.size + 9, 0, none⟩) (by show w.heap.size ≤ w.heap.size + 9; omega) (.bool true))
    clear hk hh hv hR hvb hcb hf HD HR HC HF hres
    generalize W.setCell ⟨w.heap.size + 9, 0, none⟩ (.bool true) = W7 at HZ HV HS7 HO7 TK TH TV HB7 ⊢
    simp only []
    have v0 := (blk_cell HV.out 0).trans (show _ = some _ from rfl)
    have s0 := (blk_cell HS7.out 0).trans (show _ = some _ from rfl)
    have o0 := (blk_cell HO7.out 0).trans (show _ = some _ from rfl)
    have o1 := (blk_cell HO7.out 1).trans (show _ = some _ from rfl)
    have o2 := (blk_cell HO7.out 2).trans (show _ = some _ from rfl)
    have o3 := (blk_cell HO7.out 3).trans (show _ = some _ from rfl)
    have o4 := (blk_cell HO7.out 4).trans (show _ = some _ from rfl)
    have o5 := (blk_cell HO7.out 5).trans (show _ = some _ from rfl)
    have o6 := (blk_cell HO7.out 6).trans (show _ = some _ from rfl)
    by_cases hrl : rest.length > 0
    case pos =>
      rw [if_pos hrl] at hF
      obtain ⟨rfl, rfl, rfl, rfl, rfl, rfl, rfl, rfl, rfl⟩ : 0 = r1 ∧ 0 = r2 ∧ 0 = r3 ∧ [] = r4 ∧ [] = r5 ∧ false = r6 ∧ [] = r7 ∧ 0 = r8 ∧ 210 = r9 := by simpa using hF
      have hrl' : decide ((0 : Int) < (rest.length : Int)) = true := decide_eq_true (by omega)
      have hrl2 : decide (0 < rest.length) = true := decide_eq_true hrl
      go_wp2_with ((with_reducible refine gate_store (t := 24) (p := 3) rfl ?_); (suffices hsuf : Aside0 _ from hsuf.out))
      refine ⟨?_⟩
      refine storeL_row_ 24 (.tmp 3) (.tmp 31) rfl rfl rfl (w.heap.size + 1) #[.int .i64 0, .int .i64 0, .slice none 0 0, .slice none 0 0, .bool false, .slice none 0 0, .int .i64 0] rfl rfl 24 _ HZ.out (by kernel_rfl) rfl (by simp [Value.oneCell']) ?_
      have HB8 := Aside0.mk (below_setRow HB7.out (show w.heap.size ≤ w.heap.size + 1 by omega) #[.int .i64 0, .int .i64 0, .slice none 0 0, .slice none 0 0, .bool false, .slice none 0 0, .int .i64 0])
      have HO8 := setRow_heap W7 (w.heap.size + 1) _ #[.int .i64 0, .int .i64 0, .slice none 0 0, .slice none 0 0, .bool false, .slice none 0 0, .int .i64 0] 24 (0, 0) HZ.out
      generalize W7.setRow (w.heap.size + 1) #[.int .i64 0, .int .i64 0, .slice none 0 0, .slice none 0 0, .bool false, .slice none 0 0, .int .i64 0] = W8 at HB8 HO8 ⊢
      go_wp2_with (fail)
      have q0 := (blk_cell HO8 0).trans (show _ = some _ from rfl)
      have q1 := (blk_cell HO8 1).trans (show _ = some _ from rfl)
      have q2 := (blk_cell HO8 2).trans (show _ = some _ from rfl)
      have q3 := (blk_cell HO8 3).trans (show _ = some _ from rfl)
      have q4 := (blk_cell HO8 4).trans (show _ = some _ from rfl)
      have q5 := (blk_cell HO8 5).trans (show _ = some _ from rfl)
      have q6 := (blk_cell HO8 6).trans (show _ = some _ from rfl)
      refine bodyPost_ret (v := .tuple #[.int .i64 0, .agg #[.int .i64 0, .int .i64 0, .slice none 0 0, .slice none 0 0, .bool false, .slice none 0 0, .int .i64 0], .int .i64 210]) (by simp [results, Try.results12, go_sem, q0, q1, q2, q3, q4, q5, q6]) rfl ?_
      exact ⟨_, _, _, rfl, Kd.V_nil _ _ _ _ _, Kd.V_nil _ _ _ _ _, Kd.V_nil _ _ _ _ _, HB8.out⟩
    rw [if_neg hrl] at hF
    have hrl' : decide ((0 : Int) < (rest.length : Int)) = false := decide_eq_false (by omega)
    have hrl2 : decide (0 < rest.length) = false := decide_eq_false hrl
    obtain ⟨m, hm, hF⟩ := Option.bind_eq_some_iff.mp hF
    have HM := Aside0.mk (wire_may.calls s kd tb Ak ck k Ah ch hi op Av cv v n m W7 (Kd.V_reads' TK.out).2.2 (Kd.V_reads' TK.out).2.1 (Kd.V_reads' TH.out).2.2 (Kd.V_reads' TH.out).2.1 (Kd.V_reads' TV.out).2.2 (Kd.V_reads' TV.out).2.1 hm)
    clear hm hrl
    cases m with
    | false =>
      rw [if_neg (by decide)] at hF
      obtain ⟨rfl, rfl, rfl, rfl, rfl, rfl, rfl, rfl, rfl⟩ : 0 = r1 ∧ 0 = r2 ∧ 0 = r3 ∧ [] = r4 ∧ [] = r5 ∧ false = r6 ∧ [] = r7 ∧ 0 = r8 ∧ 210 = r9 := by simpa using hF
      go_wp2_with (first | (go_at_call 21; (with_reducible refine HM.out.mono ?_); rintro e1 W9 ⟨rfl, hb⟩; have HB9 := Aside0.mk (below_step HB7.out hb); have HZ9 := Aside0.mk (blk_below HZ.out hb); have HS9 := Aside0.mk (blk_below HS7.out hb); have HO9 := Aside0.mk (blk_below HO7.out hb); have TK9 := Aside0.mk (TK.out.below hb); have TH9 := Aside0.mk (TH.out.below hb); have TV9 := Aside0.mk (TV.out.below hb); clear hb v0 s0 o0 o1 o2 o3 o4 o5 o6) | ((with_reducible refine gate_store (t := 24) (p := 3) rfl ?_); (suffices hsuf : Aside0 _ from hsuf.out)))
      refine ⟨?_⟩
      refine storeL_row_ 24 (.tmp 3) (.tmp 31) rfl rfl rfl (w.heap.size + 1) #[.int .i64 0, .int .i64 0, .slice none 0 0, .slice none 0 0, .bool false, .slice none 0 0, .int .i64 0] rfl rfl 24 _ HZ9.out (by kernel_rfl) rfl (by simp [Value.oneCell']) ?_
      have HB8 := Aside0.mk (below_setRow HB9.out (show w.heap.size ≤ w.heap.size + 1 by omega) #[.int .i64 0, .int .i64 0, .slice none 0 0, .slice none 0 0, .bool false, .slice none 0 0, .int .i64 0])
      have HO8 := setRow_heap W9 (w.heap.size + 1) _ #[.int .i64 0, .int .i64 0, .slice none 0 0, .slice none 0 0, .bool false, .slice none 0 0, .int .i64 0] 24 (0, 0) HZ9.out
      generalize W9.setRow (w.heap.size + 1) #[.int .i64 0, .int .i64 0, .slice none 0 0, .slice none 0 0, .bool false, .slice none 0 0, .int .i64 0] = W8 at HB8 HO8 ⊢
      go_wp2_with (fail)
      have q0 := (blk_cell HO8 0).trans (show _ = some _ from rfl)
      have q1 := (blk_cell HO8 1).trans (show _ = some _ from rfl)
      have q2 := (blk_cell HO8 2).trans (show _ = some _ from rfl)
      have q3 := (blk_cell HO8 3).trans (show _ = some _ from rfl)
      have q4 := (blk_cell HO8 4).trans (show _ = some _ from rfl)
      have q5 := (blk_cell HO8 5).trans (show _ = some _ from rfl)
      have q6 := (blk_cell HO8 6).trans (show _ = some _ from rfl)
      refine bodyPost_ret (v := .tuple #[.int .i64 0, .agg #[.int .i64 0, .int .i64 0, .slice none 0 0, .slice none 0 0, .bool false, .slice none 0 0, .int .i64 0], .int .i64 210]) (by simp [results, Try.results12, go_sem, q0, q1, q2, q3, q4, q5, q6]) rfl ?_
      exact ⟨_, _, _, rfl, Kd.V_nil _ _ _ _ _, Kd.V_nil _ _ _ _ _, Kd.V_nil _ _ _ _ _, HB8.out⟩
    | true =>
      rw [if_pos rfl] at hF
      obtain ⟨rfl, rfl, rfl, rfl, rfl, rfl, rfl, rfl, rfl⟩ : s = r1 ∧ kd = r2 ∧ tb = r3 ∧ k = r4 ∧ hi = r5 ∧ op = r6 ∧ v = r7 ∧ n = r8 ∧ 0 = r9 := by simpa using hF
      go_wp2_with (first | (go_at_call 21; (with_reducible refine HM.out.mono ?_); rintro e1 W9 ⟨rfl, hb⟩; have HB9 := Aside0.mk (below_step HB7.out hb); have HZ9 := Aside0.mk (blk_below HZ.out hb); have HS9 := Aside0.mk (blk_below HS7.out hb); have HO9 := Aside0.mk (blk_below HO7.out hb); have TK9 := Aside0.mk (TK.out.below hb); have TH9 := Aside0.mk (TH.out.below hb); have TV9 := Aside0.mk (TV.out.below hb); clear hb v0 s0 o0 o1 o2 o3 o4 o5 o6))
      have HB10 := Aside0.mk HB9.out.drew
      have HZ10 := Aside0.mk (show W9.drew.heap[w.heap.size + 1]? = _ from HZ9.out)
      have TK10 := Aside0.mk TK9.out.drew
      have TH10 := Aside0.mk TH9.out.drew
      have TV10 := Aside0.mk TV9.out.drew
      refine start_ (n := 5) (S := fun w' => w'.cell? ⟨w.heap.size + 7, 0, none⟩ = some (.int .i64 s) ∧ w'.cell? ⟨w.heap.size + 8, 0, none⟩ = some (.int .i64 kd) ∧ w'.cell? ⟨w.heap.size + 8, 1, none⟩ = some (.int .i64 tb) ∧ w'.cell? ⟨w.heap.size + 8, 2, none⟩ = some (.slice Ak k.length ck) ∧ w'.cell? ⟨w.heap.size + 8, 3, none⟩ = some (.slice Ah hi.length ch) ∧ w'.cell? ⟨w.heap.size + 8, 4, none⟩ = some (.bool op) ∧ w'.cell? ⟨w.heap.size + 8, 5, none⟩ = some (.slice Av v.length cv) ∧ w'.cell? ⟨w.heap.size + 8, 6, none⟩ = some (.int .i64 n)) (ds := [3]) #[false, false, false, false, false] (by kernel_rfl) rfl rfl ⟨(blk_cell HS9.out 0).trans rfl, (blk_cell HO9.out 0).trans rfl, (blk_cell HO9.out 1).trans rfl, (blk_cell HO9.out 2).trans rfl, (blk_cell HO9.out 3).trans rfl, (blk_cell HO9.out 4).trans rfl, (blk_cell HO9.out 5).trans rfl, (blk_cell HO9.out 6).trans rfl⟩ (fun hHeld => ?_)
      clear HB9 HZ9 HS9 HO9 TK9 TH9 TV9
      generalize W9.drew = W10 at HB10 HZ10 TK10 TH10 TV10 hHeld ⊢
      refine take_ (i := 0) (N := some 32) (v := ?_) (a' := ?_) #[true, false, false, false, false] rfl rfl (by kernel_rfl) (fun _ _ _ h => h) (Or.inl ⟨by rfl, ?_⟩) hHeld ?_ ?_
      rotate_left
      · rintro w' ⟨s0, s1, s2, s3, s4, s5, s6, s7⟩
        go_simp
        with_reducible rfl
      rotate_left
      · simp only [Act.put, List.setIfInBounds_toArray, List.set_cons_zero, List.set_cons_succ]
        rfl
      refine take_ (i := 1) (N := some 33) (v := ?_) (a' := ?_) #[true, true, false, false, false] rfl rfl (by kernel_rfl) (fun _ _ _ h => h) (Or.inl ⟨by rfl, ?_⟩) hHeld ?_ ?_
      rotate_left
      · rintro w' ⟨s0, s1, s2, s3, s4, s5, s6, s7⟩
        go_simp
        with_reducible rfl
      rotate_left
      · simp only [Act.put, List.setIfInBounds_toArray, List.set_cons_zero, List.set_cons_succ]
        rfl
      refine pure_ (i := 2) (N := some 2) (v := ?_) (a' := ?_) #[true, true, true, false, false] rfl rfl (by kernel_rfl) (fun _ _ _ h => h) (Or.inl ⟨by rfl, ?_⟩) ?_ ?_
      rotate_left
      · intro w'
        go_simp
        with_reducible rfl
      rotate_left
      · simp only [Act.put, List.setIfInBounds_toArray, List.set_cons_zero, List.set_cons_succ]
        rfl
      refine last_ (i := 3) (N := none) #[true, true, true, true, false] rfl rfl (by kernel_rfl) (by decide) (fun K hK => ?_)
      refine store_row_ 24 (.tmp 3) (.tmp 33) rfl rfl rfl (w.heap.size + 1) #[.int .i64 kd, .int .i64 tb, .slice Ak k.length ck, .slice Ah hi.length ch, .bool op, .slice Av v.length cv, .int .i64 n] rfl rfl 24 _ HZ10.out (by kernel_rfl) rfl (by simp [Value.oneCell']) ?_
      refine hK.out _ _ ?_
      clear hK K
      have HB11 := Aside0.mk (below_setRow HB10.out (show w.heap.size ≤ w.heap.size + 1 by omega) #[.int .i64 kd, .int .i64 tb, .slice Ak k.length ck, .slice Ah hi.length ch, .bool op, .slice Av v.length cv, .int .i64 n])
      have HO11 := setRow_heap W10 (w.heap.size + 1) _ #[.int .i64 kd, .int .i64 tb, .slice Ak k.length ck, .slice Ah hi.length ch, .bool op, .slice Av v.length cv, .int .i64 n] 24 (0, 0) HZ10.out
      have TK11 := Aside0.mk (TK10.out.row (w.heap.size + 1) #[.int .i64 kd, .int .i64 tb, .slice Ak k.length ck, .slice Ah hi.length ch, .bool op, .slice Av v.length cv, .int .i64 n] (by omega))
      have TH11 := Aside0.mk (TH10.out.row (w.heap.size + 1) #[.int .i64 kd, .int .i64 tb, .slice Ak k.length ck, .slice Ah hi.length ch, .bool op, .slice Av v.length cv, .int .i64 n] (by omega))
      have TV11 := Aside0.mk (TV10.out.row (w.heap.size + 1) #[.int .i64 kd, .int .i64 tb, .slice Ak k.length ck, .slice Ah hi.length ch, .bool op, .slice Av v.length cv, .int .i64 n] (by omega))
      generalize W10.setRow (w.heap.size + 1) #[.int .i64 kd, .int .i64 tb, .slice Ak k.length ck, .slice Ah hi.length ch, .bool op, .slice Av v.length cv, .int .i64 n] = W11 at HB11 HO11 TK11 TH11 TV11 ⊢
      refine pure_ (i := 4) (N := some 4) (v := ?_) (a' := ?_) #[true, true, true, true, true] rfl rfl (by kernel_rfl) (fun _ _ _ h => h) (Or.inl ⟨by rfl, ?_⟩) ?_ ?_
      rotate_left
      · intro w'
        go_simp
        with_reducible rfl
      rotate_left
      · simp only [Act.put, List.setIfInBounds_toArray, List.set_cons_zero, List.set_cons_succ]
        rfl
      refine done_ (by kernel_rfl) ?_
      clear hHeld
      go_wp2
      have q0 := (blk_cell HO11 0).trans (show _ = some _ from rfl)
      have q1 := (blk_cell HO11 1).trans (show _ = some _ from rfl)
      have q2 := (blk_cell HO11 2).trans (show _ = some _ from rfl)
      have q3 := (blk_cell HO11 3).trans (show _ = some _ from rfl)
      have q4 := (blk_cell HO11 4).trans (show _ = some _ from rfl)
      have q5 := (blk_cell HO11 5).trans (show _ = some _ from rfl)
      have q6 := (blk_cell HO11 6).trans (show _ = some _ from rfl)
      refine bodyPost_ret (v := .tuple #[.int .i64 s, .agg #[.int .i64 kd, .int .i64 tb, .slice Ak k.length ck, .slice Ah hi.length ch, .bool op, .slice Av v.length cv, .int .i64 n], .int .i64 0]) (by simp [results, Try.results12, go_sem, q0, q1, q2, q3, q4, q5, q6]) rfl ?_
      exact ⟨_, _, _, rfl, TK11.out.V (by omega), TH11.out.V (by omega), TV11.out.V (by omega), HB11.out⟩
end Go.Proofs.Ytfbjabpjfalmlaa.P
namespace Go.Proofs.Ytfbjabpjfalmlaa.P
open Go.RowKit Go.Proofs.YtfbjabpjfalmlaaW.PrintWords Go.Proofs.YtfbjabpjfalmlaaW.PrintLast Go.Proofs.YtfbjabpjfalmlaaW.PrintMore
attribute [local go_sem] max2_int min2_int max_two min_two max_three min_three max_four min_four
set_option linter.unusedVariables false
set_option linter.unusedSimpArgs false
end Go.Proofs.Ytfbjabpjfalmlaa.P
namespace Go.Proofs.Ytfbjabpjfalmlaa.P
open Go.RowKit Go.Proofs.YtfbjabpjfalmlaaW.PrintWords Go.Proofs.YtfbjabpjfalmlaaW.PrintLast Go.Proofs.YtfbjabpjfalmlaaW.PrintMore
attribute [local go_sem] max2_int min2_int max_two min_two max_three min_three max_four min_four
set_option linter.unusedVariables false
set_option linter.unusedSimpArgs false
end Go.Proofs.Ytfbjabpjfalmlaa.P
namespace Go.Proofs.Ytfbjabpjfalmlaa.P
open Go.RowKit Go.Proofs.YtfbjabpjfalmlaaW.PrintWords Go.Proofs.YtfbjabpjfalmlaaW.PrintLast Go.Proofs.YtfbjabpjfalmlaaW.PrintMore
attribute [local go_sem] max2_int min2_int max_two min_two max_three min_three max_four min_four
set_option linter.unusedVariables false
set_option linter.unusedSimpArgs false
def longB (p : S47) : Bool := decide (16 < p.f0.length) || decide (32 < p.f1.length)
def replyB (e : Int) (f : Bool) (v : Nat) (ps : List S47) : Bool := decide (0 ≤ e) && decide (e ≤ 2147483647) && decide (v ≤ 32) && (f || decide (v = 0)) && decide (ps.length ≤ 80) && !(ps.any longB)
set_option maxHeartbeats 1000000 in
set_option maxRecDepth 100000 in
theorem reply_long (W : World) (x : S47) (A0 : Option Addr) (c0 : Nat) (A1 : Option Addr) (c1 : Nat) :
    Calls Try.prog 49 #[.agg #[.slice A0 x.f0.length c0, .slice A1 x.f1.length c1]] W fun e w' => e = .returned (.bool (longB x)) ∧ Below W.heap.size W w' := by
  have hu := Try.underlying47
  by_cases h : 16 < x.f0.length
  · have hi : decide ((16 : Int) < (x.f0.length : Int)) = true := decide_eq_true (by omega)
    have hn : decide (16 < x.f0.length) = true := decide_eq_true h
    have hv : Aside0 (true = longB x) := ⟨by unfold longB; rw [hn]; rfl⟩
    clear h
    go_enter Try.func49, Try.ntmps49
    go_wp2
    go_ret
    exact ⟨by rw [← hv.out]; rfl, below_alloc (Below.refl _ _) _⟩
  · have hi : decide ((16 : Int) < (x.f0.length : Int)) = false := decide_eq_false (by omega)
    have hn : decide (16 < x.f0.length) = false := decide_eq_false h
    have hv : Aside0 (decide (32 < x.f1.length) = longB x) := ⟨by unfold longB; rw [hn]; rfl⟩
    have hj : ((32 : Int) < (x.f1.length : Int)) = (32 < x.f1.length) := by apply propext; omega
    clear h
    go_enter Try.func49, Try.ntmps49
    go_wp2
    go_ret
    exact ⟨by rw [← hv.out]; first | rfl | (simp only [hj]; rfl) | simp [hj], below_alloc (Below.refl _ _) _⟩
def wire_reply.f (a0_0 : Int) (a0_1 : Bool) (l0_2 : List Int) (l0_3 : List (S47)) : Option (Bool) := some (replyB a0_0 a0_1 l0_2.length l0_3)
set_option maxHeartbeats 4000000 in
set_option maxRecDepth 100000 in
theorem wire_reply.calls (a0_0 : Int) (a0_1 : Bool) (A0_2 : Option Addr) (c0_2 : Nat) (l0_2 : List Int) (A0_3 : Option Addr) (c0_3 : Nat) (l0_3 : List (S47)) (r : Bool) (w : World) (hr0_2 : Kd.C (Kd.int .u8) w A0_2 l0_2.length l0_2) (hc0_2 : l0_2.length ≤ c0_2) (hr0_3 : Kd.C k47 w A0_3 l0_3.length l0_3) (hc0_3 : l0_3.length ≤ c0_3) (h : wire_reply.f a0_0 a0_1 l0_2 l0_3 = some r) :
    Calls Try.prog 32 #[.agg #[.int .i64 a0_0, .bool a0_1, .slice A0_2 l0_2.length c0_2, .slice A0_3 l0_3.length c0_3]] w fun e w' => e = .returned (.bool r) ∧ Below w.heap.size w w' := by
  unfold wire_reply.f at h
  have HR := Aside0.mk (Option.some.inj h)
  clear h
  have HP := fun o => Aside0.mk (has_Pair 49 #[] longB A0_3 c0_3 l0_3 (w.alloc o) (Kd.C_alloc hr0_3 o) (enters_of Try.func49 (by kernel_rfl) rfl) (fun W x B1 d1 B2 d2 _ _ _ _ _ _ => reply_long W x B1 d1 B2 d2))
  clear hr0_2 hc0_2 hr0_3 hc0_3
  have hu := Try.underlying36
  by_cases k1 : 0 ≤ a0_0
  case neg =>
    obtain rfl : r = false := by rw [← HR.out]; unfold replyB; rw [decide_eq_false k1]; rfl
    have k1' : decide (0 ≤ a0_0) = false := decide_eq_false k1
    go_enter Try.func32, Try.ntmps32
    go_wp2
    go_ret
    exact ⟨rfl, below_alloc (Below.refl _ _) _⟩
  have k1' : decide (0 ≤ a0_0) = true := decide_eq_true k1
  by_cases k2 : a0_0 ≤ 2147483647
  case neg =>
    obtain rfl : r = false := by rw [← HR.out]; unfold replyB; rw [k1', decide_eq_false k2]; rfl
    have k2' : decide (a0_0 ≤ 2147483647) = false := decide_eq_false k2
    go_enter Try.func32, Try.ntmps32
    go_wp2
    go_ret
    exact ⟨rfl, below_alloc (Below.refl _ _) _⟩
  have k2' : decide (a0_0 ≤ 2147483647) = true := decide_eq_true k2
  by_cases k3 : l0_2.length ≤ 32
  case neg =>
    obtain rfl : r = false := by rw [← HR.out]; unfold replyB; rw [k1', k2', decide_eq_false k3]; rfl
    have k3' : decide (l0_2.length ≤ 32) = false := decide_eq_false k3
    have k3i : decide ((l0_2.length : Int) ≤ (32 : Int)) = false := decide_eq_false (by omega)
    clear k3
    go_enter Try.func32, Try.ntmps32
    go_wp2
    go_ret
    exact ⟨rfl, below_alloc (Below.refl _ _) _⟩
  have k3' : decide (l0_2.length ≤ 32) = true := decide_eq_true k3
  have k3i : decide ((l0_2.length : Int) ≤ (32 : Int)) = true := decide_eq_true (by omega)
  clear k3
  have rest : ∀ (hq : (a0_1 || decide (l0_2.length = 0)) = true), (a0_1 = true ∨ (a0_1 = false ∧ ((l0_2.length : Int) == 0) = true)) → Calls Try.prog 32 #[.agg #[.int .i64 a0_0, .bool a0_1, .slice A0_2 l0_2.length c0_2, .slice A0_3 l0_3.length c0_3]] w fun e w' => e = .returned (.bool r) ∧ Below w.heap.size w w' := by
    intro hq hw
    by_cases k4 : l0_3.length ≤ 80
    case neg =>
      obtain rfl : r = false := by rw [← HR.out]; unfold replyB; rw [k1', k2', k3', hq, decide_eq_false k4]; rfl
      have k4' : decide (l0_3.length ≤ 80) = false := decide_eq_false k4
      have k4i : decide ((l0_3.length : Int) ≤ (80 : Int)) = false := decide_eq_false (by omega)
      clear k4 hq
      rcases hw with rfl | ⟨rfl, hw⟩
      all_goals
        go_enter Try.func32, Try.ntmps32
        go_wp2
        go_ret
        exact ⟨rfl, below_alloc (Below.refl _ _) _⟩
    obtain rfl : r = !(l0_3.any longB) := by rw [← HR.out]; unfold replyB; rw [k1', k2', k3', hq, decide_eq_true k4]; rfl
    have k4' : decide (l0_3.length ≤ 80) = true := decide_eq_true k4
    have k4i : decide ((l0_3.length : Int) ≤ (80 : Int)) = true := decide_eq_true (by omega)
    generalize l0_3.any longB = lb at HP ⊢
    clear k4 hq HR
    rcases hw with rfl | ⟨rfl, hw⟩
    all_goals
      go_enter Try.func32, Try.ntmps32
      go_wp2_with (go_at_call 50; (with_reducible refine (HP _).out.mono ?_); rintro e w1 ⟨rfl, hb⟩; have HB1 := Aside0.mk (below_step (below_alloc (Below.refl w.heap.size w) _) hb); clear hb)
      go_ret
      exact ⟨rfl, HB1.out⟩
  cases a0_1 with
  | true => exact rest rfl (.inl rfl)
  | false =>
    by_cases k5 : l0_2.length = 0
    · exact rest (by simp [k5]) (.inr ⟨rfl, by simp [k5]⟩)
    · obtain rfl : r = false := by rw [← HR.out]; unfold replyB; rw [k1', k2', k3', decide_eq_false k5]; rfl
      have k5i : ((l0_2.length : Int) == 0) = false := beq_false_of_ne (by omega)
      clear k5 rest
      go_enter Try.func32, Try.ntmps32
      go_wp2
      go_ret
      exact ⟨rfl, below_alloc (Below.refl _ _) _⟩
end Go.Proofs.Ytfbjabpjfalmlaa.P
namespace Go.Proofs.Ytfbjabpjfalmlaa.P
open Go.RowKit Go.Proofs.YtfbjabpjfalmlaaW.PrintWords Go.Proofs.YtfbjabpjfalmlaaW.PrintLast Go.Proofs.YtfbjabpjfalmlaaW.PrintMore
attribute [local go_sem] max2_int min2_int max_two min_two max_three min_three max_four min_four
set_option linter.unusedVariables false
set_option linter.unusedSimpArgs false
def banksmanref21_flag.f (a0 : Bool) : Option (Int) := if a0 = true then (some 1) else (some 0)
set_option maxHeartbeats 8000000 in
set_option maxRecDepth 100000 in
theorem banksmanref21_flag.calls (a0 : Bool) (r : Int) (w : World) (h : banksmanref21_flag.f a0 = some r) :
    Calls Try.prog 26 #[.bool a0] w fun e w' => e = .returned (.int .i64 r) ∧ Drawn0 w w' := by
  have H : (if a0 = true then (some 1) else (some 0)) = some r := h
  clear h
  by_cases c2 : a0 = true
  · subst c2
    have H1 : (some 1) = some r := by rw [if_pos rfl] at H; exact H
    clear H
    have H := H1
    clear H1
    obtain rfl := Option.some.inj H
    go_enter Try.func26, Try.ntmps26
    go_wp2
    go_ret
    exact ⟨by first | rfl | (simp; done) | (simp [*]; done), by repeat (first | exact Drawn0.refl _ | apply Drawn0.step)⟩
  · replace c2 := Bool.eq_false_iff.mpr c2
    subst c2
    have H1 : (some 0) = some r := by rw [if_neg (show ¬ (false = true) by decide)] at H; exact H
    clear H
    have H := H1
    clear H1
    obtain rfl := Option.some.inj H
    go_enter Try.func26, Try.ntmps26
    go_wp2
    go_ret
    exact ⟨by first | rfl | (simp; done) | (simp [*]; done), by repeat (first | exact Drawn0.refl _ | apply Drawn0.step)⟩
end Go.Proofs.Ytfbjabpjfalmlaa.P
