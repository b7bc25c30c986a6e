import Derived.Test.YtbjeaalbdaedpaaPx0
import Derived.Laws.CopyOwn
import Derived.Lib.SlBytesConst
import Derived.CallsIn
import Derived.OrdersIn
import Derived.OwnWalkIn
import Derived.RangeFuncCalls
import Derived.Laws.CopyRow
import Derived.BigQuiet
import Derived.LoopIn
import Derived.LoopNIn
import Derived.Maps.OwnIn
import Derived.RangeFuncBound
import Derived.RangeFuncBox
import Derived.RangeFuncLeaves
import Derived.RangeFuncNested
import Derived.RegionIn
import Derived.Shelf.Abstract
import Derived.TacticsInMore
import Derived.Lib.BytesEntry
import Derived.Lib.AppendZerosOnto
import Derived.Lib.Overlaps
import Derived.Shelf.RegionOpenPlain
import Derived.Shelf.Spec.SlicesInsert
import Derived.Laws.Cover1
import Derived.Shelf.SlSortCmp.WholeK
import Derived.Sort.Walk0
import Derived.Lib.SliceRun
namespace Go.Proofs.Ytbjeaalbdaedpaa.P
open Go.RowKit Go.Proofs.YtbjeaalbdaedpaaW.PrintWords Go.Proofs.YtbjeaalbdaedpaaW.PrintLast Go.Proofs.YtbjeaalbdaedpaaW.PrintMore
attribute [local go_sem] max2_int min2_int max_two min_two max_three min_three max_four min_four
set_option linter.unusedVariables false
set_option linter.unusedSimpArgs false
theorem ret_int {k : IntKind} {a b : Int} (h : a = b) : Ending.returned (.int k a) = .returned (.int k b) := by rw [h]
end Go.Proofs.Ytbjeaalbdaedpaa.P
namespace Go.Proofs.Ytbjeaalbdaedpaa.P
open Go.RowKit Go.Proofs.YtbjeaalbdaedpaaW.PrintWords Go.Proofs.YtbjeaalbdaedpaaW.PrintLast Go.Proofs.YtbjeaalbdaedpaaW.PrintMore
attribute [local go_sem] max2_int min2_int max_two min_two max_three min_three max_four min_four
set_option linter.unusedVariables false
set_option linter.unusedSimpArgs false
end Go.Proofs.Ytbjeaalbdaedpaa.P
namespace Go.Proofs.Ytbjeaalbdaedpaa.P
open Go.RowKit Go.Proofs.YtbjeaalbdaedpaaW.PrintWords Go.Proofs.YtbjeaalbdaedpaaW.PrintLast Go.Proofs.YtbjeaalbdaedpaaW.PrintMore
attribute [local go_sem] max2_int min2_int max_two min_two max_three min_three max_four min_four
set_option linter.unusedVariables false
set_option linter.unusedSimpArgs false
theorem chunk_at {α : Type} {cur : List α} {sz k i : Nat} (hi : i < sz) : cur[k * sz + i]? = ((cur.drop (k * sz)).take sz)[i]? := by
  rw [List.getElem?_take, if_pos hi, List.getElem?_drop]
end Go.Proofs.Ytbjeaalbdaedpaa.P
namespace Go.Proofs.Ytbjeaalbdaedpaa.P
open Go.RowKit Go.Proofs.YtbjeaalbdaedpaaW.PrintWords Go.Proofs.YtbjeaalbdaedpaaW.PrintLast Go.Proofs.YtbjeaalbdaedpaaW.PrintMore
attribute [local go_sem] max2_int min2_int max_two min_two max_three min_three max_four min_four
set_option linter.unusedVariables false
set_option linter.unusedSimpArgs false
def conv_lit.f (l : List Int) : Option (List Int) := some l
theorem conv_lit_op {P : Program} {ops : Array Oper} {rest : List Oper} {o1 o2 : Oper} {a : Act} {Q : Exit → Act → World → Prop} {W : World} (t e : TypeId) (ht : P.underlying t = some (.slice e)) (he : P.underlying e = some (.int .u8)) (hg1 : o1.guard = none) (N1 N2 : Tmp) (hd1 : o1.dst = some N1) (hg2 : o2.guard = none) (hd2 : o2.dst = some N2) (ho2 : o2.op = .convert t t (.tmp N1)) (xs ys : List Int) (hA : conv_lit.f xs = some ys) (inner : List Value)
    (hrun : (execOp a.eval o1).run P W = .ok (.value (.slice (some ⟨W.heap.size, 0, none⟩) xs.length xs.length)) (W.alloc (.cells inner.toArray e)))
    (hev : ∀ v : Value, (a.put (some N1) v).eval (.tmp N1) = v) (hin : inner = xs.map (Value.int .u8)) (hm : xs.length ≤ 9223372036854775807)
    (h : ∀ v w1, Kd.V (Kd.int .u8) e w1 W.heap.size (fun k_ => W.heap.size ≤ k_) v ys → Below W.heap.size W w1 → wpList P ops Q rest ((a.put (some N1) v).put (some N2) v) w1) : wpList P ops Q (o1 :: o2 :: rest) a W := by
  obtain rfl : xs = ys := Option.some.inj hA
  refine Kd.event_run hg1 hrun ?_
  rw [hd1]
  have hrun2 : (execOp (a.put (some N1) (.slice (some ⟨W.heap.size, 0, none⟩) xs.length xs.length)).eval o2).run P (W.alloc (.cells inner.toArray e)) = .ok (.value (.slice (some ⟨W.heap.size, 0, none⟩) xs.length xs.length)) (W.alloc (.cells inner.toArray e (inner.toArray.size, inner.toArray.size + 1))) := by
    have hc := Lib.run_convert_bytes_const (P := P) W t e inner.toArray xs.length xs.length ht he
    simp [execOp, ho2, hev, hc]
  refine Kd.event_run hg2 hrun2 ?_
  rw [hd2]
  refine h _ _ ?_ (below_alloc (Below.refl _ _) _)
  subst hin
  have hg : (W.alloc (.cells (xs.map (Value.int .u8)).toArray e ((xs.map (Value.int .u8)).toArray.size, (xs.map (Value.int .u8)).toArray.size + 1))).heap[W.heap.size]? = some (.cells (xs.map (Value.int .u8)).toArray e ((xs.map (Value.int .u8)).toArray.size, (xs.map (Value.int .u8)).toArray.size + 1)) := by
    show (W.heap.push _)[W.heap.size]? = _
    simp
  refine ⟨some ⟨W.heap.size, 0, none⟩, xs.length, rfl, Nat.le_refl _, fun W' hW => ⟨rfl, hm, fun _ => ⟨⟨W.heap.size, 0, none⟩, rfl, fun j p hj => ⟨[.int .u8 p], rfl, rfl, fun i u hu => ?_⟩⟩⟩⟩
  have hg' := (hW W.heap.size (Nat.le_refl _) (blk_lt hg)).trans hg
  cases i with
  | succ i => simp at hu
  | zero =>
    have hu' : Value.int .u8 p = u := by simpa using hu
    subst hu'
    rw [add_plain, cell_of_row W' W.heap.size _ _ e _ hg']
    have hs : (Kd.int .u8).sz = 1 := rfl
    simp [hs, hj]
end Go.Proofs.Ytbjeaalbdaedpaa.P
namespace Go.Proofs.Ytbjeaalbdaedpaa.P
open Go.RowKit Go.Proofs.YtbjeaalbdaedpaaW.PrintWords Go.Proofs.YtbjeaalbdaedpaaW.PrintLast Go.Proofs.YtbjeaalbdaedpaaW.PrintMore
attribute [local go_sem] max2_int min2_int max_two min_two max_three min_three max_four min_four
set_option linter.unusedVariables false
set_option linter.unusedSimpArgs false
end Go.Proofs.Ytbjeaalbdaedpaa.P
namespace Go.Proofs.Ytbjeaalbdaedpaa.P
open Go.RowKit Go.Proofs.YtbjeaalbdaedpaaW.PrintWords Go.Proofs.YtbjeaalbdaedpaaW.PrintLast Go.Proofs.YtbjeaalbdaedpaaW.PrintMore
attribute [local go_sem] max2_int min2_int max_two min_two max_three min_three max_four min_four
set_option linter.unusedVariables false
set_option linter.unusedSimpArgs false
def idxBy {α : Type} (p : α → Bool) : List α → Int
  | [] => -1
  | x :: l => if p x then 0 else (if idxBy p l < 0 then -1 else idxBy p l + 1)
theorem idxBy_lo {α : Type} (p : α → Bool) (l : List α) : -1 ≤ idxBy p l := by
  induction l with
  | nil => simp [idxBy]
  | cons x l ih => rw [idxBy]; split <;> (try split) <;> omega
theorem idxBy_any {α : Type} (p : α → Bool) (l : List α) : decide (0 ≤ idxBy p l) = l.any p := by
  induction l with
  | nil => simp [idxBy]
  | cons x l ih =>
    rw [idxBy, List.any_cons, ← ih]
    have := idxBy_lo p l
    cases h : p x with
    | true => simp
    | false =>
      rw [if_neg (by decide), Bool.false_or]
      by_cases h2 : idxBy p l < 0
      · rw [if_pos h2, decide_eq_false (by omega), decide_eq_false (by omega)]
      · rw [if_neg h2, decide_eq_true (by omega), decide_eq_true (by omega)]
theorem idxBy_none {α : Type} (p : α → Bool) (l : List α) (h : ∀ x ∈ l, p x = false) : idxBy p l = -1 := by
  induction l with
  | nil => rfl
  | cons x l ih => rw [idxBy, h x (by simp), ih (fun y hy => h y (by simp [hy]))]; rfl
theorem idxBy_at {α : Type} (p : α → Bool) : ∀ (l : List α) (k : Nat), (∀ j, j < k → ∀ x, l[j]? = some x → p x = false) → ∀ (h : k < l.length), p l[k] = true → idxBy p l = k := by
  intro l
  induction l with
  | nil => intro k _ h; simp at h
  | cons x l ih =>
    intro k hk h hp
    cases k with
    | zero =>
      have hp' : p x = true := hp
      rw [idxBy, if_pos hp']
      rfl
    | succ k =>
      have h0 := hk 0 (by omega) x rfl
      have h1 := ih k (fun j hj y hy => hk (j + 1) (by omega) y (by simpa using hy)) (by simpa using h) (by simpa using hp)
      rw [idxBy, h0, h1, if_neg (by decide), if_neg (by omega)]
      omega
end Go.Proofs.Ytbjeaalbdaedpaa.P
namespace Go.Proofs.Ytbjeaalbdaedpaa.P
open Go.RowKit Go.Proofs.YtbjeaalbdaedpaaW.PrintWords Go.Proofs.YtbjeaalbdaedpaaW.PrintLast Go.Proofs.YtbjeaalbdaedpaaW.PrintMore
attribute [local go_sem] max2_int min2_int max_two min_two max_three min_three max_four min_four
set_option linter.unusedVariables false
set_option linter.unusedSimpArgs false
theorem idxBy_at_Write (p : S28 → Bool) (l : List S28) (k : Nat) (hk : ∀ j, j < k → ∀ x, l[j]? = some x → p x = false) (hlt : k < l.length) (hp : p (rd_T28 l (k : Int)) = true) : idxBy p l = k := by
  have e : rd_T28 l (k : Int) = l[k] := by unfold rd_T28; simp [List.getD_eq_getElem?_getD, hlt]
  rw [e] at hp
  exact idxBy_at p l k hk hlt hp
set_option maxHeartbeats 1000000 in
set_option maxRecDepth 100000 in
theorem idx_Write (g : FuncId) (lb : Array Value) (p : S28 → Bool) (A0 : Option Addr) (c0 : Nat) (l0 : List S28) (w : World) (hr0 : Kd.C k28 w A0 l0.length l0) (he : ∀ args W, (callFunc g args).run Try.prog W = .ok (.enter g args) W)
    (hp : ∀ (W : World) (x : S28) (A1 : Option Addr) (c1 : Nat) (A3 : Option Addr) (c3 : Nat), x ∈ l0 → Below w.heap.size w W → x.f1.length ≤ c1 → (Kd.int .u8).C W A1 x.f1.length x.f1 → x.f3.length ≤ c3 → (Kd.int .u8).C W A3 x.f3.length x.f3 → Calls Try.prog g (#[.agg #[.int .i64 x.f0, .slice A1 x.f1.length c1, .bool x.f2, .slice A3 x.f3.length c3]] ++ lb) W fun e w' => e = .returned (.bool (p x)) ∧ Below W.heap.size W w') :
    Calls Try.prog 54 #[.slice A0 l0.length c0, .func (.func g) #[] lb] w fun e w' => e = .returned (.int .i64 (idxBy p l0)) ∧ Below w.heap.size w w' := by
  have hm : l0.length ≤ 9223372036854775807 := Kd.C_max hr0
  have HR := Aside0.mk hr0
  have hu := Try.underlying28
  clear hr0
  go_enter Try.func54, Try.ntmps54
  go_wp2
  go_loopw [8] (fun i wr => ∃ k : Nat, k ≤ l0.length ∧ i = .int .i64 k ∧ Aside0 (∀ j, j < k → ∀ x, l0[j]? = some x → p x = false) ∧ Aside0 (Below w.heap.size w wr)) (fun i _ => l0.length - (intOf i).toNat)
  case atStart => exact ⟨0, Nat.zero_le _, rfl, ⟨fun j hj => absurd hj (Nat.not_lt_zero _)⟩, ⟨Below.refl _ _⟩⟩
  case round =>
    obtain ⟨k, hk, rfl, HN, HB⟩ := hrel
    by_cases hlt : k < l0.length
    · obtain ⟨ad, A1, c1, A3, c3, e, hx0, hx1, hx2, hx3, hl1, hi1, hl3, hi3⟩ := at_T28 (Kd.C_below HR.out HB.out) k (by omega) (by omega)
      cases e
      rw [Int.toNat_natCast] at hx0 hx1 hx2 hx3
      have hat := idxBy_at_Write p l0 k HN.out hlt
      have hmem : rd_T28 l0 (k : Int) ∈ l0 := by
        have e : rd_T28 l0 (k : Int) = l0[k] := by unfold rd_T28; simp [List.getD_eq_getElem?_getD, hlt]
        rw [e]
        exact List.getElem_mem hlt
      have hnx : p (rd_T28 l0 (k : Int)) = false → ∀ j, j < k + 1 → ∀ x, l0[j]? = some x → p x = false := by
        intro hv j hj x hx
        rcases Nat.lt_or_ge j k with h | h
        · exact HN.out j h x hx
        · obtain rfl : j = k := by omega
          have e : rd_T28 l0 (j : Int) = x := by unfold rd_T28; rw [Int.toNat_natCast, List.getD_eq_getElem?_getD, hx]; rfl
          rw [← e]
          exact hv
      have HMEM := Aside0.mk hmem
      generalize hv : rd_T28 l0 (k : Int) = v at *
      have hcall := (hp _ v A1 c1 A3 c3 hmem HB.out hl1 hi1 hl3 hi3)
      have HCALL := Aside0.mk hcall
      clear hcall hmem hv HMEM
      cases hq : p v with
      | true =>
        have HE := Aside0.mk (hat hq)
        rw [hq] at HCALL
        clear hat hnx hq
        go_wp2
        refine HCALL.out.mono ?_
        rintro e w1 ⟨rfl, hb⟩
        have HB1 := Aside0.mk (below_step HB.out hb)
        clear hb
        go_wp2
        go_ret
        exact ⟨ret_int HE.out.symm, HB1.out⟩
      | false =>
        have HE := Aside0.mk (hnx hq)
        rw [hq] at HCALL
        clear hat hnx hq
        go_wp2
        refine HCALL.out.mono ?_
        rintro e w1 ⟨rfl, hb⟩
        have HB1 := Aside0.mk (below_step HB.out hb)
        clear hb
        go_wp2
        go_roundw
        case rel => exact ⟨k + 1, by omega, by go_num, HE, HB1⟩
        case measure => simp [intOf]; omega
    · obtain rfl : k = l0.length := by omega
      have HE := Aside0.mk (idxBy_none p l0 (fun x hx => by
        obtain ⟨j, hj, e⟩ := List.getElem_of_mem hx
        exact HN.out j hj x (by rw [List.getElem?_eq_getElem hj, e])))
      go_wp2
      go_ret
      exact ⟨ret_int HE.out.symm, HB.out⟩
set_option maxHeartbeats 1000000 in
set_option maxRecDepth 100000 in
theorem has_Write (g : FuncId) (lb : Array Value) (p : S28 → Bool) (A0 : Option Addr) (c0 : Nat) (l0 : List S28) (w : World) (hr0 : Kd.C k28 w A0 l0.length l0) (he : ∀ args W, (callFunc g args).run Try.prog W = .ok (.enter g args) W)
    (hp : ∀ (W : World) (x : S28) (A1 : Option Addr) (c1 : Nat) (A3 : Option Addr) (c3 : Nat), x ∈ l0 → Below w.heap.size w W → x.f1.length ≤ c1 → (Kd.int .u8).C W A1 x.f1.length x.f1 → x.f3.length ≤ c3 → (Kd.int .u8).C W A3 x.f3.length x.f3 → Calls Try.prog g (#[.agg #[.int .i64 x.f0, .slice A1 x.f1.length c1, .bool x.f2, .slice A3 x.f3.length c3]] ++ lb) W fun e w' => e = .returned (.bool (p x)) ∧ Below W.heap.size W w') :
    Calls Try.prog 37 #[.slice A0 l0.length c0, .func (.func g) #[] lb] w fun e w' => e = .returned (.bool (l0.any p)) ∧ Below w.heap.size w w' := by
  have HI := Aside0.mk (idx_Write g lb p A0 c0 l0 w hr0 he hp)
  have HE := Aside0.mk (idxBy_any p l0)
  clear hr0 he hp
  go_enter Try.func37, Try.ntmps37
  go_wp2_with (go_at_call 54; refine HI.out.mono ?_; rintro e w1 ⟨rfl, hb⟩; have HB1 := Aside0.mk hb; clear hb)
  go_ret
  exact ⟨by rw [← HE.out]; rfl, HB1.out⟩
end Go.Proofs.Ytbjeaalbdaedpaa.P
namespace Go.Proofs.Ytbjeaalbdaedpaa.P
open Go.RowKit Go.Proofs.YtbjeaalbdaedpaaW.PrintWords Go.Proofs.YtbjeaalbdaedpaaW.PrintLast Go.Proofs.YtbjeaalbdaedpaaW.PrintMore
attribute [local go_sem] max2_int min2_int max_two min_two max_three min_three max_four min_four
set_option linter.unusedVariables false
set_option linter.unusedSimpArgs false
theorem idxBy_at_int (p : Int → Bool) (l : List Int) (k : Nat) (hk : ∀ j, j < k → ∀ x, l[j]? = some x → p x = false) (hlt : k < l.length) (hp : p (rd l (k : Int)) = true) : idxBy p l = k := by
  have e : rd l (k : Int) = l[k] := by unfold rd; simp [List.getD_eq_getElem?_getD, hlt]
  rw [e] at hp
  exact idxBy_at p l k hk hlt hp
set_option maxHeartbeats 1000000 in
set_option maxRecDepth 100000 in
theorem idx_int (g : FuncId) (lb : Array Value) (p : Int → Bool) (A0 : Option Addr) (c0 : Nat) (l0 : List Int) (w : World) (hr0 : Kd.C (Kd.int .i64) w A0 l0.length l0) (he : ∀ args W, (callFunc g args).run Try.prog W = .ok (.enter g args) W)
    (hp : ∀ (W : World) (x : Int), x ∈ l0 → Below w.heap.size w W → Calls Try.prog g (#[.int .i64 x] ++ lb) W fun e w' => e = .returned (.bool (p x)) ∧ Below W.heap.size W w') :
    Calls Try.prog 55 #[.slice A0 l0.length c0, .func (.func g) #[] lb] w fun e w' => e = .returned (.int .i64 (idxBy p l0)) ∧ Below w.heap.size w w' := by
  have hm : l0.length ≤ 9223372036854775807 := Kd.C_max hr0
  have HR := Aside0.mk hr0
  clear hr0
  go_enter Try.func55, Try.ntmps55
  go_wp2
  go_loopw [8] (fun i wr => ∃ k : Nat, k ≤ l0.length ∧ i = .int .i64 k ∧ Aside0 (∀ j, j < k → ∀ x, l0[j]? = some x → p x = false) ∧ Aside0 (Below w.heap.size w wr)) (fun i _ => l0.length - (intOf i).toNat)
  case atStart => exact ⟨0, Nat.zero_le _, rfl, ⟨fun j hj => absurd hj (Nat.not_lt_zero _)⟩, ⟨Below.refl _ _⟩⟩
  case round =>
    obtain ⟨k, hk, rfl, HN, HB⟩ := hrel
    by_cases hlt : k < l0.length
    · obtain ⟨ad, e, hx0⟩ := Kd.at_int (Kd.C_below HR.out HB.out) k (by omega) (by omega)
      cases e
      rw [Int.toNat_natCast] at hx0
      have hat := idxBy_at_int p l0 k HN.out hlt
      have hmem : rd l0 (k : Int) ∈ l0 := by
        have e : rd l0 (k : Int) = l0[k] := by unfold rd; simp [List.getD_eq_getElem?_getD, hlt]
        rw [e]
        exact List.getElem_mem hlt
      have hnx : p (rd l0 (k : Int)) = false → ∀ j, j < k + 1 → ∀ x, l0[j]? = some x → p x = false := by
        intro hv j hj x hx
        rcases Nat.lt_or_ge j k with h | h
        · exact HN.out j h x hx
        · obtain rfl : j = k := by omega
          have e : rd l0 (j : Int) = x := by unfold rd; rw [Int.toNat_natCast, List.getD_eq_getElem?_getD, hx]; rfl
          rw [← e]
          exact hv
      have HMEM := Aside0.mk hmem
      generalize hv : rd l0 (k : Int) = v at *
      have hcall := (hp _ v hmem HB.out)
      have HCALL := Aside0.mk hcall
      clear hcall hmem hv HMEM
      cases hq : p v with
      | true =>
        have HE := Aside0.mk (hat hq)
        rw [hq] at HCALL
        clear hat hnx hq
        go_wp2
        refine HCALL.out.mono ?_
        rintro e w1 ⟨rfl, hb⟩
        have HB1 := Aside0.mk (below_step HB.out hb)
        clear hb
        go_wp2
        go_ret
        exact ⟨ret_int HE.out.symm, HB1.out⟩
      | false =>
        have HE := Aside0.mk (hnx hq)
        rw [hq] at HCALL
        clear hat hnx hq
        go_wp2
        refine HCALL.out.mono ?_
        rintro e w1 ⟨rfl, hb⟩
        have HB1 := Aside0.mk (below_step HB.out hb)
        clear hb
        go_wp2
        go_roundw
        case rel => exact ⟨k + 1, by omega, by go_num, HE, HB1⟩
        case measure => simp [intOf]; omega
    · obtain rfl : k = l0.length := by omega
      have HE := Aside0.mk (idxBy_none p l0 (fun x hx => by
        obtain ⟨j, hj, e⟩ := List.getElem_of_mem hx
        exact HN.out j hj x (by rw [List.getElem?_eq_getElem hj, e])))
      go_wp2
      go_ret
      exact ⟨ret_int HE.out.symm, HB.out⟩
set_option maxHeartbeats 1000000 in
set_option maxRecDepth 100000 in
theorem has_int (g : FuncId) (lb : Array Value) (p : Int → Bool) (A0 : Option Addr) (c0 : Nat) (l0 : List Int) (w : World) (hr0 : Kd.C (Kd.int .i64) w A0 l0.length l0) (he : ∀ args W, (callFunc g args).run Try.prog W = .ok (.enter g args) W)
    (hp : ∀ (W : World) (x : Int), x ∈ l0 → Below w.heap.size w W → Calls Try.prog g (#[.int .i64 x] ++ lb) W fun e w' => e = .returned (.bool (p x)) ∧ Below W.heap.size W w') :
    Calls Try.prog 38 #[.slice A0 l0.length c0, .func (.func g) #[] lb] w fun e w' => e = .returned (.bool (l0.any p)) ∧ Below w.heap.size w w' := by
  have HI := Aside0.mk (idx_int g lb p A0 c0 l0 w hr0 he hp)
  have HE := Aside0.mk (idxBy_any p l0)
  clear hr0 he hp
  go_enter Try.func38, Try.ntmps38
  go_wp2_with (go_at_call 55; refine HI.out.mono ?_; rintro e w1 ⟨rfl, hb⟩; have HB1 := Aside0.mk hb; clear hb)
  go_ret
  exact ⟨by rw [← HE.out]; rfl, HB1.out⟩
end Go.Proofs.Ytbjeaalbdaedpaa.P
namespace Go.Proofs.Ytbjeaalbdaedpaa.P
open Go.RowKit Go.Proofs.YtbjeaalbdaedpaaW.PrintWords Go.Proofs.YtbjeaalbdaedpaaW.PrintLast Go.Proofs.YtbjeaalbdaedpaaW.PrintMore
attribute [local go_sem] max2_int min2_int max_two min_two max_three min_three max_four min_four
set_option linter.unusedVariables false
set_option linter.unusedSimpArgs false
end Go.Proofs.Ytbjeaalbdaedpaa.P
namespace Go.Proofs.Ytbjeaalbdaedpaa.P
open Go.RowKit Go.Proofs.YtbjeaalbdaedpaaW.PrintWords Go.Proofs.YtbjeaalbdaedpaaW.PrintLast Go.Proofs.YtbjeaalbdaedpaaW.PrintMore
attribute [local go_sem] max2_int min2_int max_two min_two max_three min_three max_four min_four
set_option linter.unusedVariables false
set_option linter.unusedSimpArgs false
class Ups (w W : World) : Prop where
  up : ∀ (g : Nat) (o : Obj), w.heap[g]? = some o → W.heap[g]? = some o
instance Ups.same (w : World) : Ups w w := ⟨fun _ _ h => h⟩
instance Ups.alloc (w W : World) (o : Obj) [h : Ups w W] : Ups w (W.alloc o) := ⟨fun g x hx => blk_alloc (h.up g x hx) o⟩
instance Ups.drewN (w W : World) (n : Nat) [h : Ups w W] : Ups w (W.drewN n) := ⟨fun g x hx => h.up g x hx⟩
instance Ups.drew (w W : World) [h : Ups w W] : Ups w W.drew := ⟨fun g x hx => h.up g x hx⟩
theorem Ups.at {w W : World} (h : Ups w W) (k : Nat) (hk : k < w.heap.size) : W.heap[k]? = w.heap[k]? := by
  rw [Array.getElem?_eq_getElem hk]
  exact h.up k _ (Array.getElem?_eq_getElem hk)
theorem bU {w W : World} [h : Ups w W] {g : Nat} {o : Obj} (x : w.heap[g]? = some o) : W.heap[g]? = some o := h.up g o x
theorem vU {α : Type} {d : Kd α} {e base : Nat} {w W : World} {ok : Nat → Prop} {v : Value} {xs : List α} [h : Ups w W] (x : Kd.V d e w base ok v xs) : Kd.V d e W base ok v xs := Kd.V_step x (fun k _ hk => h.at k hk)
theorem nU {α : Type} {d : Kd α} {e base : Nat} {w W : World} {ok : Nat → Prop} {v : Value} {xs : List α} [h : Ups w W] (x : Kd.N d e w base ok v xs) : Kd.N d e W base ok v xs := Kd.N_step x (fun k _ hk => h.at k hk)
theorem rU {α : Type} {d : Kd α} {e base : Nat} {w W : World} {ok : Nat → Prop} {v : Value} {xs : List α} [h : Ups w W] (x : Kd.R d e w base ok v xs) : Kd.R d e W base ok v xs := Kd.R_step x (fun k _ hk => h.at k hk)
theorem bA {w W : World} (h : Below w.heap.size w W) (o : Obj) : Below w.heap.size w (W.alloc o) := below_alloc h o
theorem bN {B : Nat} {w W : World} (h : Below B w W) (n : Nat) : Below B w (W.drewN n) := pw_below_drewN h n
theorem bD {base : Nat} {w W : World} (h : Below base w W) : Below base w W.drew := below_drew1 h
theorem bS {w W : World} {g j : Nat} {v : Value} (h : Below w.heap.size w W) (hg : w.heap.size ≤ g) : Below w.heap.size w (W.setCell ⟨g, j, none⟩ v) := below_set h hg
theorem aM {p : Prop} (h : p) : Aside0 p := ⟨h⟩
abbrev T_ := true
abbrev F_ := false
theorem vB {α : Type} {d : Kd α} {e base : Nat} {W w1 : World} {ok : Nat → Prop} {v : Value} {xs : List α} (h : Kd.V d e W base ok v xs) (hb : Below W.heap.size W w1) : Kd.V d e w1 base ok v xs := Kd.V_below h hb
theorem kB {w w1 : World} {g : Nat} {o : Obj} (h : w.heap[g]? = some o) (hb : Below w.heap.size w w1) : w1.heap[g]? = some o := blk_below h hb
theorem vE {α : Type} {d : Kd α} {e base : Nat} {W : World} {ok : Nat → Prop} {v : Value} {xs : List α} (h : Kd.V d e W base ok v xs) (a : Nat) (ha : W.heap.size ≤ a) : Kd.V d e W base (fun k => ok k ∧ k ≠ a) v xs := Kd.V_elderB h a ha
theorem kF {w : World} {g : Nat} {t : TypeId} {cs : Array Value} (h : w.heap[g]? = some (.cells cs t (0, 0))) (i : Nat) : w.frozen? ⟨g, i, none⟩ = false := blk_frozen h i
theorem kC {w : World} {g : Nat} {t : TypeId} {cs : Array Value} (h : w.heap[g]? = some (.cells cs t (0, 0))) (i : Nat) : w.cell? ⟨g, i, none⟩ = cs[i]? := blk_cell h i
class UpB (w W : World) : Prop where
  up : Below w.heap.size w W
instance UpB.same (w : World) : UpB w w := ⟨Below.refl _ _⟩
instance UpB.alloc (w W : World) (o : Obj) [h : UpB w W] : UpB w (W.alloc o) := ⟨below_alloc h.up o⟩
instance UpB.drewN (w W : World) (n : Nat) [h : UpB w W] : UpB w (W.drewN n) := ⟨pw_below_drewN h.up n⟩
instance UpB.drew (w W : World) [h : UpB w W] : UpB w W.drew := ⟨below_drew1 h.up⟩
theorem cU {α : Type} {d : Kd α} {w W : World} {A : Option Addr} {n : Nat} {xs : List α} [h : UpB w W] (x : Kd.C d w A n xs) : Kd.C d W A n xs := Kd.C_below x h.up
end Go.Proofs.Ytbjeaalbdaedpaa.P
namespace Go.Proofs.Ytbjeaalbdaedpaa.P
open Go.RowKit Go.Proofs.YtbjeaalbdaedpaaW.PrintWords Go.Proofs.YtbjeaalbdaedpaaW.PrintLast Go.Proofs.YtbjeaalbdaedpaaW.PrintMore
attribute [local go_sem] max2_int min2_int max_two min_two max_three min_three max_four min_four
set_option linter.unusedVariables false
set_option linter.unusedSimpArgs false
def calmOps (ops : Array Oper) : Bool := ops.all fun o => match o.op with | .defer _ => false | _ => true
theorem Oper.wpIn_round {P : Program} {o : Oper} {a : Act} {w : World} {l n : Nat} {K : Act → World → Prop} {Q : Exit → Act → World → Prop} (ho : ∀ c, o.op ≠ .defer c) (hQ : ¬ LetsOut Q) (h : o.wp P a w K Q) : o.wpIn (Fence.wide.inRound l) n P a w K Q := by
  refine ⟨fun _ _ => trivial, ?_⟩
  rw [Oper.semAt_eq _ _ _ ho]
  unfold Oper.wp at h
  generalize hr : (execOp a.eval o).run P w = r at h
  cases r with
  | ok x w' =>
    cases x with
    | value v => exact h
    | skip => exact h
    | defer d => exact h
    | enter f args =>
      refine ⟨fun e => Bool.noConfusion (show false = true from e), CallsIn.inRound l (callsIn_wide.2 (Calls.mono h ?_))⟩
      intro e w'' he
      cases e <;> exact he
    | row row args => exact ⟨fun e => Bool.noConfusion (show false = true from e), fun c cs _ => let ⟨v, w2, r, s⟩ := h c cs; ⟨v, w2, r, stepsIn_wide.2 s⟩⟩
    | _ => exact h.elim
  | halt x w' =>
    cases x <;> first | exact h | exact h.elim
theorem wpAnyIn_round {P : Program} {md : Region.Mode} {ops : Array Oper} {l n : Nat} {Q : Exit → Act → World → Prop} (ho : calmOps ops = true) (hQ : ¬ LetsOut Q) :
    ∀ (fuel : Nat) (listed : Array Bool) (a : Act) (w : World), wpAny P md ops Q fuel listed a w → wpAnyIn (Fence.wide.inRound l) n P md ops Q fuel listed a w := by
  intro fuel
  induction fuel with
  | zero => exact fun _ _ _ h => h
  | succ fuel ih =>
    intro listed a w h
    refine ⟨h.1, fun i hi => ?_⟩
    have h2 := h.2 i hi
    unfold wpOp at h2
    unfold wpOpIn
    cases hoi : ops[i]? with
    | none => rw [hoi] at h2; exact ih _ _ _ h2
    | some o =>
      rw [hoi] at h2
      simp only at h2 ⊢
      have hmem : o ∈ ops := Array.mem_of_getElem? hoi
      have hnd : ∀ c, o.op ≠ .defer c := by
        intro c hc
        have := Array.all_eq_true_iff_forall_mem.mp ho o hmem
        simp [hc] at this
      split
      · rename_i hw
        rw [if_pos hw] at h2
        rcases h2 with h2 | h2
        · exact Oper.wpIn_round hnd hQ (Oper.wp_mono (fun a w hk => ih _ _ _ hk) h2)
        · exact absurd h2.2 hQ
      · rename_i hw
        rw [if_neg hw] at h2
        exact ⟨fun _ _ => trivial, ih _ _ _ h2⟩
theorem startIn_ {P : Program} {ops : Array Oper} {S : World → Prop} {ds : List Nat} {l m : Nat} {Q : Exit → Act → World → Prop} {id n : Nat} {a : Act} {w : World} (li : Array Bool) (hc : calmOps ops = true) (hQ : ¬ LetsOut Q) (hm : P.follows .mixedOrders = true) (hn : ops.size = n) (hl : Array.replicate n false = li) (hS : S w.drew)
    (h : S w.drew → wpAnyLast P .any ops Q S ds n li a w.drew) : (Code.region id ops true).wpIn (Fence.wide.inRound l) m P Q a w := by
  subst hn
  subst hl
  exact wpIn_region_any hm (wpAnyIn_round hc hQ _ _ _ _ (wpAny_of_last _ _ _ _ (h hS)))
end Go.Proofs.Ytbjeaalbdaedpaa.P
namespace Go.Proofs.Ytbjeaalbdaedpaa.P
open Go.RowKit Go.Proofs.YtbjeaalbdaedpaaW.PrintWords Go.Proofs.YtbjeaalbdaedpaaW.PrintLast Go.Proofs.YtbjeaalbdaedpaaW.PrintMore
attribute [local go_sem] max2_int min2_int max_two min_two max_three min_three max_four min_four
set_option linter.unusedVariables false
set_option linter.unusedSimpArgs false
def RowSt {α : Type} (d : Kd α) (t : Nat) (wr : World) (A : Option Addr) (l : List α) (k B : Nat) (D U : Nat → Prop) : Prop :=
  0 < l.length → A = some ⟨B, 0, none⟩ ∧ B < wr.heap.size ∧ ∃ cur : List Value, wr.heap[B]? = some (.cells cur.toArray t (0, 0)) ∧ l.length * d.sz ≤ cur.length ∧
    ∀ j p, l[j]? = some p → (j < k → Kd.FK d wr D p ((cur.drop (j * d.sz)).take d.sz)) ∧ (k ≤ j → Kd.FK d wr U p ((cur.drop (j * d.sz)).take d.sz))
theorem RowSt.step {α : Type} {d : Kd α} {t : Nat} {wr wr1 : World} {A : Option Addr} {l : List α} {k B : Nat} {D U : Nat → Prop} (h : RowSt d t wr A l k B D U) (hs : wr.heap.size ≤ wr1.heap.size)
    (hB : 0 < l.length → B < wr.heap.size → wr1.heap[B]? = wr.heap[B]?) (hD : ∀ q, 0 < k → D q → q < wr.heap.size → wr1.heap[q]? = wr.heap[q]?) (hU : ∀ q, 0 < l.length → U q → q < wr.heap.size → wr1.heap[q]? = wr.heap[q]?) : RowSt d t wr1 A l k B D U := by
  intro hn
  obtain ⟨h1, h2, cur, h3, h4, h5⟩ := h hn
  exact ⟨h1, by omega, cur, (hB hn h2).trans h3, h4, fun j p hj => ⟨fun hk => Kd.FK_step ((h5 j p hj).1 hk) (fun q hq hl => hD q (by omega) hq hl), fun hk => Kd.FK_step ((h5 j p hj).2 hk) (fun q hq hl => hU q hn hq hl)⟩⟩
theorem RowSt.below {α : Type} {d : Kd α} {t : Nat} {wr wr1 : World} {A : Option Addr} {l : List α} {k B : Nat} {D U : Nat → Prop} (h : RowSt d t wr A l k B D U) (hb : Below wr.heap.size wr wr1) : RowSt d t wr1 A l k B D U :=
  h.step hb.size (fun _ hl => hb.block _ hl) (fun _ _ _ hl => hb.block _ hl) (fun _ _ _ hl => hb.block _ hl)
end Go.Proofs.Ytbjeaalbdaedpaa.P
namespace Go.Proofs.Ytbjeaalbdaedpaa.P
open Go.RowKit Go.Proofs.YtbjeaalbdaedpaaW.PrintWords Go.Proofs.YtbjeaalbdaedpaaW.PrintLast Go.Proofs.YtbjeaalbdaedpaaW.PrintMore
attribute [local go_sem] max2_int min2_int max_two min_two max_three min_three max_four min_four
set_option linter.unusedVariables false
set_option linter.unusedSimpArgs false
theorem N_open {α : Type} {d : Kd α} {e base : Nat} {ok : Nat → Prop} {W : World} {v : Value} {xs : List α} (h : Kd.N d e W base ok v xs) :
    (v = .slice none 0 0 ∧ xs = []) ∨ ∃ (g cap : Nat) (cur : List Value), v = .slice (some ⟨g, 0, none⟩) xs.length cap ∧ base ≤ g ∧ ok g ∧ W.heap[g]? = some (.cells cur.toArray e (0, 0)) ∧ xs.length ≤ cap ∧ cap ≤ maxLen ∧ cur.length = cap * d.sz ∧
      ∀ j x, xs[j]? = some x → Kd.FK d W (fun k => ok k ∧ k ≠ g) x ((cur.drop (j * d.sz)).take d.sz) := by
  obtain ⟨h0, rows, hl, ⟨_, inner, ⟨hlen, hown⟩, hr⟩, hf⟩ := h
  rcases hown with ⟨rfl, h1⟩ | ⟨g, cap, cur, rfl, hb, hg, hc, hcm, hcs, hi⟩
  · exact .inl ⟨rfl, List.length_eq_zero_iff.1 (by omega)⟩
  · refine .inr ⟨g, cap, cur.toList, by rw [hl], hb, h0 g rfl, hg, by omega, hcm, by rw [Array.length_toList]; exact hcs, fun j x hx => ?_⟩
    have hjx : j < xs.length := (List.getElem?_eq_some_iff.1 hx).1
    obtain ⟨c, hc1⟩ : ∃ c, rows[j]? = some c := ⟨_, List.getElem?_eq_getElem (by omega)⟩
    have h2 := hr.2 j c hc1
    have h3 : (inner.drop (j * d.sz)).take d.sz = c := h2.1
    have h4 : (cur.toList.drop (j * d.sz)).take d.sz = c := by
      rw [← h3, ← hi, List.drop_take, List.take_take]
      congr 1
      have : j * d.sz + d.sz ≤ rows.length * d.sz := by rw [← Nat.succ_mul]; exact Nat.mul_le_mul_right _ (by omega)
      have e1 : (Kd.raw d.sz).sz = d.sz := rfl
      rw [e1]
      omega
    rw [h4]
    refine Kd.FK_mono (hf j x c hx hc1) (fun k hk => ⟨hk.1, fun he => hk.2 ?_⟩)
    subst he
    rfl
theorem chunk_front {cur : List Value} {a b n : Nat} (h : a + b ≤ n) : (cur.drop a).take b = ((cur.take n).drop a).take b := by
  rw [List.drop_take, List.take_take, Nat.min_eq_left (by omega)]
theorem N_shut {α : Type} {d : Kd α} {e base : Nat} {ok : Nat → Prop} {W : World} {xs : List α} {g cap : Nat} {cur : List Value} (hb : base ≤ g) (hok : ok g) (hg : W.heap[g]? = some (.cells cur.toArray e (0, 0))) (hc : xs.length ≤ cap) (hcm : cap ≤ maxLen) (hs : cur.length = cap * d.sz)
    (hf : ∀ j x, xs[j]? = some x → Kd.FK d W (fun k => ok k ∧ k ≠ g) x ((cur.drop (j * d.sz)).take d.sz)) : Kd.N d e W base ok (.slice (some ⟨g, 0, none⟩) xs.length cap) xs := by
  have hle : xs.length * d.sz ≤ cur.length := by rw [hs]; exact Nat.mul_le_mul_right _ hc
  have hch : ∀ j, j < xs.length → (cur.drop (j * d.sz)).take d.sz = ((cur.take (xs.length * d.sz)).drop (j * d.sz)).take d.sz := fun j hj => chunk_front (by rw [← Nat.succ_mul]; exact Nat.mul_le_mul_right _ hj)
  have hreps : Reps (fun x c => Kd.FK d W (fun k => ok k ∧ k ≠ g) x c) d.sz xs (cur.take (xs.length * d.sz)) := by
    refine ⟨by rw [List.length_take]; omega, fun j x hx => ?_⟩
    rw [← hch j (List.getElem?_eq_some_iff.1 hx).1]
    exact hf j x hx
  refine ⟨fun k hk => by simp [Value.ownBlock] at hk; subst hk; exact hok, Kd.chunks d.sz xs.length (cur.take (xs.length * d.sz)), Kd.chunks_length _ _ _, ⟨fun k hk => hk.symm, cur.take (xs.length * d.sz), ?_, Kd.reps_raw hreps (fun x c hp => ⟨d.K_len (Kd.FK_now hp), d.K_one (Kd.FK_now hp)⟩)⟩, fun j x c hx hc1 => ?_⟩
  · rw [Kd.chunks_length]
    exact ⟨by show (cur.take _).length = xs.length * d.sz; rw [List.length_take]; omega, .inr ⟨g, cap, cur.toArray, rfl, hb, hg, hc, hcm, hs, rfl⟩⟩
  · rw [Kd.chunks_get hc1, ← hch j (List.getElem?_eq_some_iff.1 hx).1]
    exact Kd.FK_mono (hf j x hx) (fun k hk => ⟨hk.1, fun he => hk.2 (by simpa [Value.ownBlock] using he)⟩)
theorem N_front {α : Type} {d : Kd α} {e base : Nat} {ok : Nat → Prop} {W W1 : World} {xs : List α} {g n cap k : Nat} {cur cur' : List Value} (h : Kd.N d e W base ok (.slice (some ⟨g, 0, none⟩) n cap) xs) (hgr : W.grownBy W1 (some g))
    (h0 : W.heap[g]? = some (.cells cur.toArray e (0, 0))) (h1 : W1.heap[g]? = some (.cells cur'.toArray e (0, 0))) (hl : cur'.length = cur.length) (hk : k ≤ xs.length) (ht : cur'.take (k * d.sz) = cur.take (k * d.sz)) :
    Kd.N d e W1 base ok (.slice (some ⟨g, 0, none⟩) k cap) (xs.take k) := by
  rcases N_open h with ⟨hv, _⟩ | ⟨g', cap', cur1, hv, hb, hok, hg, hc, hcm, hs, hf⟩
  · cases hv
  · injection hv with e1 e2 e3
    injection e1 with e1
    injection e1 with e1
    subst e1 e3 e2
    rw [hg] at h0
    injection h0 with h0
    injection h0 with h0 _ _
    have h0' : cur1 = cur := by simpa using h0
    subst h0'
    have hlt : (xs.take k).length = k := by rw [List.length_take]; omega
    have := N_shut (d := d) (e := e) (base := base) (ok := ok) (W := W1) (xs := xs.take k) (cap := cap) hb hok h1 (by omega) hcm (by omega) (fun j x hx => by
      have hj : j < k := by have := (List.getElem?_eq_some_iff.1 hx).1; omega
      have hx' : xs[j]? = some x := by rw [← hx, List.getElem?_take, if_pos hj]
      have hle : j * d.sz + d.sz ≤ k * d.sz := by rw [← Nat.succ_mul]; exact Nat.mul_le_mul_right _ hj
      rw [chunk_front hle, ht, ← chunk_front hle]
      exact Kd.FK_step (hf j x hx') (fun q hq hl => hgr.block q hl (fun he => hq.2 (by injection he))))
    rwa [hlt] at this
theorem C_of_block {α : Type} {d : Kd α} {W : World} {g t : Nat} {l : List α} {cur : List Value} (hm : l.length ≤ 9223372036854775807) (hg : W.heap[g]? = some (.cells cur.toArray t (0, 0))) (hl : l.length * d.sz ≤ cur.length) (hE : ∀ j p, l[j]? = some p → d.K W p ((cur.drop (j * d.sz)).take d.sz)) :
    Kd.C d W (some ⟨g, 0, none⟩) l.length l := by
  refine ⟨rfl, hm, fun hn => ⟨⟨g, 0, none⟩, rfl, fun j p hj => ⟨(cur.drop (j * d.sz)).take d.sz, ?_, hE j p hj, fun i u hu => ?_⟩⟩⟩
  · have hjl : j < l.length := (List.getElem?_eq_some_iff.1 hj).1
    have : j * d.sz + d.sz ≤ l.length * d.sz := by rw [← Nat.succ_mul]; exact Nat.mul_le_mul_right _ hjl
    rw [List.length_take, List.length_drop]; omega
  · have hi : i < d.sz := by
      have := (List.getElem?_eq_some_iff.1 hu).1
      rw [List.length_take] at this; omega
    rw [add_plain, blk_cell hg]
    rw [← hu, ← chunk_at hi]
    simp
theorem run_clear_rows {P : Program} (w : World) (t e : TypeId) (ht : P.underlying t = some (.slice e)) (sz : Nat) (zv : Value) (hz : ∀ w, (zeroValue e).run P w = .ok zv w) (hzs : zv.cells.size = sz) (h1 : ∀ u ∈ zv.cells, u.oneCell' = true) (h0 : 0 < sz)
    (g te : Nat) (cur : List Value) (hg : w.heap[g]? = some (.cells cur.toArray te (0, 0))) (A : Option Addr) (m c i : Nat) (hA : 0 < m → A = some ⟨g, i * sz, none⟩) (hfit : (i + m) * sz ≤ cur.length) :
    ∃ (w' : World) (cur' : List Value), (∀ ty, (Builtin.clear_ #[t] ty #[.slice A m c]).run P w = .ok (.tuple #[]) w') ∧ w.grownBy w' (some g) ∧ w'.heap[g]? = some (.cells cur'.toArray te (0, 0)) ∧ cur'.length = cur.length ∧ cur'.take (i * sz) = cur.take (i * sz) := by
  by_cases hm : m = 0
  · subst hm
    refine ⟨w, cur, fun ty => ?_, World.grownBy.refl _ _, hg, rfl, rfl⟩
    cases A <;> simp [Builtin.clear_, run_underlying ht]
  · have hA' := hA (by omega)
    subst hA'
    obtain ⟨zs, hzz⟩ : ∃ zs, zs = (Builtin.zeroCells zv.cells m).toList := ⟨_, rfl⟩
    have hzl : zs.length = m * sz := by rw [hzz]; simp [Builtin.zeroCells, hzs]
    have hz1 : ∀ u ∈ zs, u.oneCell' = true := by
      intro u hu
      rw [hzz] at hu
      simp only [Builtin.zeroCells, Array.toList_map, List.mem_map] at hu
      obtain ⟨q, _, rfl⟩ := hu
      refine h1 _ ?_
      have hq : q % zv.cells.size < zv.cells.size := Nat.mod_lt _ (by omega)
      rw [getElem!_pos zv.cells _ hq]
      exact Array.getElem_mem hq
    rw [Nat.add_mul] at hfit
    have hst := run_storeCells_at P g (i * sz) te zs 0 cur.toArray w hg (by simp; omega) hz1
    simp only [Nat.add_zero] at hst
    obtain ⟨m', rfl⟩ : ∃ m', m = m' + 1 := ⟨m - 1, by omega⟩
    refine ⟨w.setRow g (cur.take (i * sz) ++ zs ++ cur.drop (i * sz + zs.length)).toArray, cur.take (i * sz) ++ zs ++ cur.drop (i * sz + zs.length), fun ty => ?_, ?_, ?_, ?_, ?_⟩
    · have e1 : (Builtin.clear_ #[t] ty #[.slice (some ⟨g, i * sz, none⟩) (m' + 1) c]).run P w = ((storeCells ⟨g, i * sz, none⟩ (Builtin.zeroCells zv.cells (m' + 1)).toList).run P w).andThen fun _ w' => .ok (.tuple #[]) w' := by
        simp [Builtin.clear_, run_underlying ht, hz, Sem.run_bind, Result.andThen_ok]
      rw [e1, ← hzz, hst]
      rfl
    · exact ⟨rfl, rfl, rfl, by simp [World.setRow], fun k hk hne => setRow_other w g k _ (by first | exact fun he => hne (by rw [he]) | (intro he; exact hne (by rw [he])) | omega)⟩
    · exact setRow_heap w g _ _ te _ hg
    · simp only [List.length_append, List.length_take, List.length_drop]; omega
    · rw [List.append_assoc, List.take_append_of_le_length (by rw [List.length_take]; omega), List.take_take, Nat.min_self]
theorem N_store_step {P : Program} {ops : Array Oper} {o : Oper} {a : Act} {Q : Exit → Act → World → Prop} {Kc : Act → World → Prop} {α : Type} (d : Kd α) {W : World} (base : Nat) (hw : Region.wanted o (yielded ops a.tmps) = true) (hN : o.dst = none) (t : TypeId) (p x : Operand) (ho : o.op = .store t p x) (e : TypeId) {g n cap o' : Nat} (i : Int) (j : Nat) (xs : List α) (x' : α) (u : Value) (seg c : List Value) (ok okp : Nat → Prop)
    (haddr : a.eval p = .pointer (some ⟨g, o', none⟩)) (hoff : o' = i.toNat * d.sz + j) (hx : a.eval x = u) (hu : u.cells.toList = seg) (ht : (P.info? t).map (·.size) = some seg.length) (h1 : ∀ q ∈ seg, q.oneCell' = true)
    (HO : Kd.N d e W base ok (.slice (some ⟨g, 0, none⟩) n cap) xs) (h0 : 0 ≤ i) (hi : i < n) (hcl : c.length = d.sz) (hcc : ∀ j u, c[j]? = some u → W.cell? ⟨g, i.toNat * d.sz + j, none⟩ = some u)
    (hj : j + seg.length ≤ d.sz) (hM : Kd.FK d W okp x' (c.take j ++ seg ++ c.drop (j + seg.length))) (hokp : ∀ k, okp k → ok k ∧ k ≠ g)
    (h : ∀ w1, Kd.N d e w1 base ok (.slice (some ⟨g, 0, none⟩) n cap) (xs.set i.toNat x') → W.grownBy w1 (some g) → Kc a w1) : if Region.wanted o (yielded ops a.tmps) = true then Oper.wp P o a W Kc Q else Kc (a.put none undef) W := by
  subst hoff
  obtain ⟨hown0, rows, hl, hRr, hf⟩ := HO
  have HR := Kd.raw_any hRr
  obtain ⟨hrow, hg⟩ := Kd.R_seg (x' := c.take j ++ seg ++ c.drop (j + seg.length)) (okp := fun _ => False) HR i h0 hi hcl hcc hj (Kd.FK_raw hM) (fun _ hk => hk.elim)
  have hnx : n = rows.length := (Kd.R_reads' HR).1
  obtain ⟨_, inner, hown, hr⟩ := HR
  have hil : i.toNat < n := by omega
  rw [if_pos hw]
  have hrun : (Instr.storeAt t (.pointer (some ⟨g, i.toNat * d.sz + j, none⟩)) u).run P W = .ok () (W.setCells g (i.toNat * d.sz + j) seg) := by
    rcases hown.2 with ⟨hv, _⟩ | ⟨g', cap', cur, hv, hb, hh, hnc, hcm, hcs, _⟩
    · cases hv
    injection hv with ha _ hc
    injection ha with ha
    injection ha with hg'
    subst hg'; subst hc
    refine run_store_run t u seg hh hu ht ?_ h1
    have h2 : i.toNat * d.sz + d.sz ≤ n * d.sz := by rw [← Nat.succ_mul]; exact Nat.mul_le_mul_right _ hil
    have h3 : n * d.sz ≤ cap * d.sz := Nat.mul_le_mul_right _ (by omega)
    have h4 : cur.size = cap * d.sz := hcs
    omega
  unfold Oper.wp execOp
  simp only [ho, haddr, hx, Sem.run_bind, Sem.run_pure, Result.andThen_ok, hrun]
  show Kc (a.put o.dst undef) _
  rw [hN]
  exact h _ (Kd.N_written hown0 hl hf hrow hg hM hokp) hg
end Go.Proofs.Ytbjeaalbdaedpaa.P
namespace Go.Proofs.Ytbjeaalbdaedpaa.P
open Go.RowKit Go.Proofs.YtbjeaalbdaedpaaW.PrintWords Go.Proofs.YtbjeaalbdaedpaaW.PrintLast Go.Proofs.YtbjeaalbdaedpaaW.PrintMore
attribute [local go_sem] max2_int min2_int max_two min_two max_three min_three max_four min_four
set_option linter.unusedVariables false
set_option linter.unusedSimpArgs false
theorem zero_Pair : ∀ w, (zeroValue 53).run Try.prog w = .ok (.agg #[.slice none 0 0, .slice none 0 0]) w := fun w => by kernel_rfl
theorem cut_mid_cap {P : Program} (t e : TypeId) (kl kh : IntKind) {i : TypeInfo} (ht : P.underlying t = some (.slice e)) (hi : P.info? e = some i) (size : Nat) (hsz : i.size = size) (A : Option Addr) (n c : Nat) (lo hi' : Int) (h0 : 0 ≤ lo) (h1 : lo ≤ hi') (h2 : hi' ≤ c) :
    ∀ W : World, (Instr.slice t (.slice A n c) (some (.int kl lo)) (some (.int kh hi')) none).run P W = .ok (.slice (if c = lo.toNat then A else A.map (·.add (lo.toNat * size))) (hi'.toNat - lo.toNat) (c - lo.toNat)) W := by
  intro W
  have hel : P.elem t = e := by simp [Program.elem, ht]
  have hu : P.underlying t = some (.slice (P.elem t)) := by rw [hel]; exact ht
  rw [run_slice_lh W t A n c hu kl kh lo hi' h0 h1 (by omega), hel]
  simp [sizeOf, typeInfo, hi, hsz, sliced, Result.andThen]
set_option maxHeartbeats 4000000 in
set_option maxRecDepth 100000 in
theorem del_Pair (base : Nat) (ok : Nat → Prop) (B n cap i : Nat) (xs : List S53) (w : World) (hN : Kd.N k53 53 w base ok (.slice (some ⟨B, 0, none⟩) n cap) xs) (hi : i < n) :
    Calls Try.prog 50 #[.slice (some ⟨B, 0, none⟩) n cap, .int .i64 i, .int .i64 ((i : Int) + 1)] w fun e w' => e = .returned (.slice (some ⟨B, 0, none⟩) (n - 1) cap) ∧ Kd.N k53 53 w' base ok (.slice (some ⟨B, 0, none⟩) (n - 1) cap) (xs.eraseIdx i) ∧ w.grownBy w' (some B) := by
  rcases N_open hN with ⟨hv, _⟩ | ⟨B', cap', cur0, hv, hbB, hokB, hgB, hcl, hcm, hcs, hE⟩
  · cases hv
  injection hv with e1 e2 e3
  injection e1 with e1
  injection e1 with e1
  subst e1 e3 e2
  have hcm' : cap ≤ 9223372036854775807 := hcm
  obtain ⟨i0, hi0, _, hsz, _⟩ := info_parts info53
  have HINF := Aside0.mk (show (Try.prog.info? 53).map (·.size) = some 2 by rw [hi0]; exact congrArg some hsz)
  have HINF2 := Aside0.mk (And.intro hi0 hsz)
  have HNw := Aside0.mk (Kd.N_drew hN)
  have HBW := Aside0.mk (Kd.N_base (Kd.N_drew hN) B rfl)
  have HSZ := Aside0.mk (blk_lt hgB)
  have hct := cut_to (P := Try.prog) 40 53 .i64 Try.underlying40 hi0 (some ⟨B, 0, none⟩) xs.length cap (i : Int) (by omega) (by omega) (by omega)
  rw [Int.toNat_natCast] at hct
  have hcut := cut_from (P := Try.prog) 40 53 .i64 Try.underlying40 hi0 2 hsz (some ⟨B, 0, none⟩) xs.length cap ((i : Int) + 1) (by omega) (by omega)
  obtain ⟨A2, hA2⟩ : ∃ A2, A2 = (if cap = ((i : Int) + 1).toNat then (some ⟨B, 0, none⟩ : Option Addr) else (some (⟨B, 0, none⟩ : Addr)).map (·.add (((i : Int) + 1).toNat * 2))) := ⟨_, rfl⟩
  have htn : ((i : Int) + 1).toNat = i + 1 := by omega
  rw [← hA2, htn] at hcut
  rw [htn] at hA2
  have HA2 := Aside0.mk hA2
  have hcl1 := cut_from (P := Try.prog) 40 53 .i64 Try.underlying40 hi0 2 hsz (some ⟨B, 0, none⟩) xs.length cap ((xs.length - 1 : Nat) : Int) (by omega) (by omega)
  have hne : ((i : Int) == (i : Int) + 1) = false := beq_eq_false_iff_ne.2 (by omega)
  have hwr : IntKind.i64.wrap ((i : Int) + 1) = (i : Int) + 1 := by simp [IntKind.wrap, IntKind.bits, IntKind.signed]; omega
  clear hN hgB hcs hE hA2 hi0 hsz htn hcl1
  go_enter Try.func50, Try.ntmps50
  go_wp2_with fail
  refine start_ (n := 8) (S := fun w' => True) (ds := ([] : List Nat)) #[false, false, false, false, false, false, false, false] (by kernel_rfl) rfl rfl trivial (fun hHeld => ?_)
  refine pure_ (i := 0) (N := some 20) (v := ?_) (a' := ?_) #[true, false, false, false, false, false, false, false] rfl rfl (by kernel_rfl) (fun _ _ _ h => h) (Or.inl ⟨by rfl, ?_⟩) ?_ ?_
  rotate_left
  · intro w'
    go_simp
    with_reducible rfl
  rotate_left
  · simp only [Act.put, List.setIfInBounds_toArray, List.set_cons_zero, List.set_cons_succ, i64_w, i32_w]
    rfl
  refine pure_ (i := 1) (N := some 21) (v := ?_) (a' := ?_) #[true, true, false, false, false, false, false, false] rfl rfl (by kernel_rfl) (fun _ _ _ h => h) (Or.inl ⟨by rfl, ?_⟩) ?_ ?_
  rotate_left
  · intro w'
    go_simp
    with_reducible rfl
  rotate_left
  · simp only [Act.put, List.setIfInBounds_toArray, List.set_cons_zero, List.set_cons_succ, i64_w, i32_w]
    rfl
  refine pure_ (i := 2) (N := some 22) (v := ?_) (a' := ?_) #[true, true, true, false, false, false, false, false] rfl rfl (by kernel_rfl) (fun _ _ _ h => h) (Or.inl ⟨by rfl, ?_⟩) ?_ ?_
  rotate_left
  · intro w'
    go_simp
    with_reducible rfl
  rotate_left
  · simp only [Act.put, List.setIfInBounds_toArray, List.set_cons_zero, List.set_cons_succ, i64_w, i32_w]
    rfl
  refine pure_ (i := 3) (N := some 23) (v := ?_) (a' := ?_) #[true, true, true, true, false, false, false, false] rfl rfl (by kernel_rfl) (fun _ _ _ h => h) (Or.inl ⟨by rfl, ?_⟩) ?_ ?_
  rotate_left
  · intro w'
    go_simp
    with_reducible rfl
  rotate_left
  · simp only [Act.put, List.setIfInBounds_toArray, List.set_cons_zero, List.set_cons_succ, i64_w, i32_w]
    rfl
  refine pure_ (i := 4) (N := some 24) (v := ?_) (a' := ?_) #[true, true, true, true, true, false, false, false] rfl rfl (by kernel_rfl) (fun _ _ _ h => h) (Or.inl ⟨by rfl, ?_⟩) ?_ ?_
  rotate_left
  · intro w'
    go_simp
    with_reducible rfl
  rotate_left
  · simp only [Act.put, List.setIfInBounds_toArray, List.set_cons_zero, List.set_cons_succ, i64_w, i32_w]
    rfl
  refine pure_ (i := 5) (N := some 25) (v := ?_) (a' := ?_) #[true, true, true, true, true, true, false, false] rfl rfl (by kernel_rfl) (fun _ _ _ h => h) (Or.inl ⟨by rfl, ?_⟩) ?_ ?_
  rotate_left
  · intro w'
    go_simp
    with_reducible rfl
  rotate_left
  · simp only [Act.put, List.setIfInBounds_toArray, List.set_cons_zero, List.set_cons_succ, i64_w, i32_w]
    rfl
  refine one_ (i := 6) (N := some 26) #[true, true, true, true, true, true, true, false] rfl rfl (by kernel_rfl) (by simp) (fun K hK => ?_)
  refine Kd.N_delete_step k53 (w0 := w.drew) base (by rfl) (.tmp 22) (.tmp 25) 40 53 rfl Try.underlying40 HINF.out (by rfl) (by rfl) HA2.out (by omega) HNw.out hi (Below.refl _ _) ?hbs ?_
  case hbs => (have h1 := HBW.out; have h2 : B < w.drew.heap.size := HSZ.out; omega)
  intro w1 hN1 _ hg1
  have HN1 := Aside0.mk hN1
  have HG1 := Aside0.mk hg1
  clear hN1 hg1
  refine hK.out _ _ trivial (fun hHeld => ?_)
  clear hK K
  refine norm_ (a' := ?_) ?_ ?_
  rotate_left
  · show Act.put _ (some 26) _ = _
    simp only [Act.put, List.setIfInBounds_toArray, List.set_cons_zero, List.set_cons_succ, i64_w, i32_w]
    rfl
  refine pure_ (i := 7) (N := some 0) (v := ?_) (a' := ?_) #[true, true, true, true, true, true, true, true] rfl rfl (by kernel_rfl) (fun _ _ _ h => h) (Or.inl ⟨by rfl, ?_⟩) ?_ ?_
  rotate_left
  · intro w'
    go_simp
    with_reducible rfl
  rotate_left
  · simp only [Act.put, List.setIfInBounds_toArray, List.set_cons_zero, List.set_cons_succ, i64_w, i32_w]
    rfl
  refine done_ (by kernel_rfl) ?_
  rcases N_open HN1.out with ⟨hv, _⟩ | ⟨B', cap', cur1, hv, _, _, hcur, _, _, hcs, _⟩
  · cases hv
  injection hv with e1 e2 e3
  injection e1 with e1
  injection e1 with e1
  subst e1 e3
  have hcut2 := cut_mid_cap (P := Try.prog) 40 53 .i64 .i64 Try.underlying40 HINF2.out.1 2 HINF2.out.2 (some ⟨B, 0, none⟩) (xs.length - 1) cap ((xs.length - 1 : Nat) : Int) (xs.length : Int) (by omega) (by omega) (by omega)
  obtain ⟨A3, hA3⟩ : ∃ A3, A3 = (if cap = ((xs.length - 1 : Nat) : Int).toNat then (some ⟨B, 0, none⟩ : Option Addr) else (some (⟨B, 0, none⟩ : Addr)).map (·.add (((xs.length - 1 : Nat) : Int).toNat * 2))) := ⟨_, rfl⟩
  rw [← hA3, Int.toNat_natCast, Int.toNat_natCast] at hcut2
  rw [Int.toNat_natCast] at hA3
  have hA4 : 0 < xs.length - (xs.length - 1) → A3 = some ⟨B, (xs.length - 1) * 2, none⟩ := by
    intro h
    rw [hA3, if_neg (by omega)]
    simp [add_plain]
  have hlen1 : (xs.eraseIdx i).length = xs.length - 1 := by rw [List.length_eraseIdx, if_pos hi]
  obtain ⟨w3, cur3, hclr, hg3, hc3, hl3, ht3⟩ := run_clear_rows (P := Try.prog) w1 40 53 Try.underlying40 2 _ zero_Pair rfl (by intro u hu; simp [Value.cells] at hu; rcases hu with rfl | rfl | rfl | rfl <;> rfl) (by decide) B 53 cur1 hcur A3 (xs.length - (xs.length - 1)) (cap - (xs.length - 1)) (xs.length - 1) hA4 (by
    have h2 : cur1.length = cap * 2 := hcs
    omega)
  have hN3 := N_front (k := xs.length - 1) HN1.out hg3 hcur hc3 hl3 (by omega) ht3
  rw [List.take_of_length_le (by omega)] at hN3
  have HN3 := Aside0.mk hN3
  have HG3 := Aside0.mk (World.grownBy.trans (World.grownBy.trans (grown_of_below (below_drew1 (Below.refl w.heap.size w)) _) HG1.out) hg3)
  clear hA3 hA4 hg3 hc3 hl3 ht3 hN3 hcur hcs hlen1 e2 hct hcut HN1 HG1 HNw
  go_wp2
  go_ret
  exact ⟨rfl, HN3.out, HG3.out⟩
end Go.Proofs.Ytbjeaalbdaedpaa.P
namespace Go.Proofs.Ytbjeaalbdaedpaa.P
open Go.RowKit Go.Proofs.YtbjeaalbdaedpaaW.PrintWords Go.Proofs.YtbjeaalbdaedpaaW.PrintLast Go.Proofs.YtbjeaalbdaedpaaW.PrintMore
attribute [local go_sem] max2_int min2_int max_two min_two max_three min_three max_four min_four
set_option linter.unusedVariables false
set_option linter.unusedSimpArgs false
def Stable (p : World → Prop) : Prop := ∀ W W1 : World, Below W.heap.size W W1 → p W → p W1
structure AB (w : World) (P : World → Prop) (W : World) : Prop where
  hb : Below w.heap.size w W
  hp : P W
  hs : Stable P
theorem AB.start (w : World) : AB w (fun _ => True) w := ⟨Below.refl _ _, trivial, fun _ _ _ h => h⟩
theorem AB.below {w W W1 : World} {P : World → Prop} (h : AB w P W) (hb : Below W.heap.size W W1) : AB w P W1 := ⟨below_step h.hb hb, h.hs _ _ hb h.hp, h.hs⟩
theorem AB.add {w W : World} {P p : World → Prop} (h : AB w P W) (hs : Stable p) (hp : p W) : AB w (fun W => p W ∧ P W) W := ⟨h.hb, ⟨hp, h.hp⟩, fun W W1 hb hh => ⟨hs W W1 hb hh.1, h.hs W W1 hb hh.2⟩⟩
theorem stable_blk (g : Nat) (o : Obj) : Stable fun W => W.heap[g]? = some o := fun W W1 hb h => (hb.block _ (blk_lt h)).trans h
theorem stable_C {α : Type} (d : Kd α) (A : Option Addr) (xs : List α) : Stable fun W => Kd.C d W A xs.length xs := fun _ _ hb h => Kd.C_below h hb
end Go.Proofs.Ytbjeaalbdaedpaa.P
namespace Go.Proofs.Ytbjeaalbdaedpaa.P
open Go.RowKit Go.Proofs.YtbjeaalbdaedpaaW.PrintWords Go.Proofs.YtbjeaalbdaedpaaW.PrintLast Go.Proofs.YtbjeaalbdaedpaaW.PrintMore
attribute [local go_sem] max2_int min2_int max_two min_two max_three min_three max_four min_four
set_option linter.unusedVariables false
set_option linter.unusedSimpArgs false
structure Past (w : World) where
  W : World
  h : Below w.heap.size w W
instance (w : World) : Inhabited (Past w) := ⟨⟨w, Below.refl _ _⟩⟩
theorem wp_region_past {P : Program} {id : Nat} {Q : Exit → Act → World → Prop} {a : Act} {w : World} {l : List Oper} (hm : P.follows .mixedOrders = true) (hB : Region.lexB .any l.toArray = true)
    (h : wpQuiet P l.toArray (fun w' => ∃ p : Past w, w' = p.W) (fun a' => ∀ w', (∃ p : Past w, w' = p.W) → Q .normal a' w') l a) : (Code.region id l.toArray true).wp P Q a w :=
  wp_region_quiet (C := fun w' => ∃ p : Past w, w' = p.W) hm hB ⟨⟨w.drew, below_drew1 (Below.refl _ _)⟩, rfl⟩ (by simpa using h)
theorem Calls.past_of {P : Program} {f : FuncId} {args : Array Value} {w : World} {p : Past w} {v : Value} {n : Nat} (hn : n = p.W.heap.size)
    (h : Calls P f args p.W fun e w' => e = .returned v ∧ Below n p.W w') : Calls P f args p.W fun e w'' => e = .returned v ∧ ∃ q : Past w, w'' = q.W :=
  h.mono fun _ w1 ⟨he, hb⟩ => ⟨he, ⟨w1, below_step p.h (hn ▸ hb)⟩, rfl⟩
theorem past_cell {w : World} (p : Past w) {b i : Nat} {v : Value} {t : TypeId} {cs : Array Value} (h : w.heap[b]? = some (.cells cs t (0, 0))) (hi : cs[i]? = some v) : p.W.cell? ⟨b, i, none⟩ = some v := by
  rw [blk_cell ((p.h.block _ (blk_lt h)).trans h) i, hi]
theorem wpAnyLast_of_any {P : Program} {md : Region.Mode} {ops : Array Oper} {Q : Exit → Act → World → Prop} : ∀ (fuel : Nat) (listed : Array Bool) (a : Act) (w : World),
    wpAny P md ops Q fuel listed a w → wpAnyLast P md ops Q (fun _ => True) [] fuel listed a w
  | 0, _, _, _, h => h
  | fuel + 1, _, _, _, h => ⟨h.1, fun i hi => wpOp_mono (fun a w hk => ⟨fun _ _ => trivial, wpAnyLast_of_any fuel _ a w hk⟩) (h.2 i hi)⟩
theorem rest_past {P : Program} {Q : Exit → Act → World → Prop} {ops : Array Oper} {a : Act} {w : World} (w0 : World) (k n : Nat) {li : Array Bool} (hb : Below w0.heap.size w0 w) (hs : Region.noSelect ops = true) (hn : (ops.toList.drop k).length = n)
    (hB : Region.lexFrom .any ops n k li = true) 
    (h : wpQuiet P ops (fun w' => ∃ p : Past w0, w' = p.W) (fun a' => ∀ w', (∃ p : Past w0, w' = p.W) → Q .normal a' w') (ops.toList.drop k) a) : wpAnyLast P .any ops Q (fun _ => True) [] n li a w := by
  subst hn
  refine wpAnyLast_of_any _ _ _ _ ?_
  refine wpAny_of_quiet (C := fun w' => ∃ p : Past w0, w' = p.W) (Q := fun a' => ∀ w', (∃ p : Past w0, w' = p.W) → Q .normal a' w') (fun _ w' hw' h => h w' hw') _ _ _ _ ⟨⟨w, hb⟩, rfl⟩ ?_
  exact wpAnyQ_lex hs (ops.toList.drop k) k li a (by simp) hB h
end Go.Proofs.Ytbjeaalbdaedpaa.P
namespace Go.Proofs.Ytbjeaalbdaedpaa.P
open Go.RowKit Go.Proofs.YtbjeaalbdaedpaaW.PrintWords Go.Proofs.YtbjeaalbdaedpaaW.PrintLast Go.Proofs.YtbjeaalbdaedpaaW.PrintMore
attribute [local go_sem] max2_int min2_int max_two min_two max_three min_three max_four min_four
set_option linter.unusedVariables false
set_option linter.unusedSimpArgs false
end Go.Proofs.Ytbjeaalbdaedpaa.P
namespace Go.Proofs.Ytbjeaalbdaedpaa.P
open Go.RowKit Go.Proofs.YtbjeaalbdaedpaaW.PrintWords Go.Proofs.YtbjeaalbdaedpaaW.PrintLast Go.Proofs.YtbjeaalbdaedpaaW.PrintMore
attribute [local go_sem] max2_int min2_int max_two min_two max_three min_three max_four min_four
set_option linter.unusedVariables false
set_option linter.unusedSimpArgs false
theorem storeL_row_ {P : Program} {ops : Array Oper} {Q : Exit → Act → World → Prop} {rest : List Oper} {o : Oper} {a : Act} {w : World} (ty : TypeId) (x y : Operand) (hd : o.dst = none) (hG : o.guard = none) (ho : o.op = .store ty x y)
    (g : Nat) (cells : Array Value) (hx : a.eval x = .pointer (some ⟨g, 0, none⟩)) (hy : a.eval y = .agg cells)
    (t : TypeId) (old : Array Value) (hg : w.heap[g]? = some (.cells old t (0, 0))) (hi : (P.info? ty).map (·.size) = some cells.size)
    (hold : old.size = cells.size) (h1 : cells.all (·.oneCell') = true)
    (h : wpList P ops Q rest a (w.setRow g cells)) : wpList P ops Q (o :: rest) a w := by
  refine wpList_plain hG fun K hK => ?_
  refine wp_store_row ty x y ho g cells hx hy t old hg hi hold h1 ?_
  rw [hd]
  exact hK _ _ h
end Go.Proofs.Ytbjeaalbdaedpaa.P
namespace Go.Proofs.Ytbjeaalbdaedpaa.P
open Go.RowKit Go.Proofs.YtbjeaalbdaedpaaW.PrintWords Go.Proofs.YtbjeaalbdaedpaaW.PrintLast Go.Proofs.YtbjeaalbdaedpaaW.PrintMore
attribute [local go_sem] max2_int min2_int max_two min_two max_three min_three max_four min_four
set_option linter.unusedVariables false
set_option linter.unusedSimpArgs false
def bsL (c : S53 → Int) (l : List S53) : Nat → Nat → Nat → Nat
  | 0, i, _ => i
  | f + 1, i, j => if i < j then (if c (rd_T53 l (((i + j) / 2 : Nat) : Int)) < 0 then bsL c l f ((i + j) / 2 + 1) j else bsL c l f i ((i + j) / 2)) else i
theorem half_u64 {i j n : Nat} (hi : i ≤ j) (hj : j ≤ n) (hn : n ≤ 1000000000000) : (wrap64 ((i : Int) + (j : Int))) = ((i + j : Nat) : Int) := by unfold wrap64; omega
set_option maxHeartbeats 1000000 in
set_option maxRecDepth 100000 in
theorem bsearch_Pair (g : FuncId) (lb : Array Value) (c : S53 → S53 → Int) (A0 : Option Addr) (c0 : Nat) (l0 : List S53) (x : S53) (A1 : Option Addr) (c1 : Nat) (A2 : Option Addr) (c2 : Nat) (w : World) (hr0 : Kd.C k53 w A0 l0.length l0) (hn : l0.length ≤ 1000000000000)
    (i1 : (Kd.int .u8).C w A1 x.f0.length x.f0) (h1 : x.f0.length ≤ c1) (i2 : (Kd.int .u8).C w A2 x.f1.length x.f1) (h2 : x.f1.length ≤ c2) (he : ∀ args W, (callFunc g args).run Try.prog W = .ok (.enter g args) W)
    (hp : ∀ (W : World) (y : S53) (B1 : Option Addr) (d1 : Nat) (B2 : Option Addr) (d2 : Nat), Below w.heap.size w W → y.f0.length ≤ d1 → (Kd.int .u8).C W B1 y.f0.length y.f0 → y.f1.length ≤ d2 → (Kd.int .u8).C W B2 y.f1.length y.f1 → Calls Try.prog g (#[.agg #[.slice B1 y.f0.length d1, .slice B2 y.f1.length d2], .agg #[.slice A1 x.f0.length c1, .slice A2 x.f1.length c2]] ++ lb) W fun e w' => e = .returned (.int .i64 (c y x)) ∧ Below W.heap.size W w') :
    Calls Try.prog 49 #[.slice A0 l0.length c0, .agg #[.slice A1 x.f0.length c1, .slice A2 x.f1.length c2], .func (.func g) #[] lb] w fun e w' => e = .returned (.tuple #[.int .i64 (bsL (fun y => c y x) l0 (l0.length + 1) 0 l0.length : Nat), .bool (decide (bsL (fun y => c y x) l0 (l0.length + 1) 0 l0.length < l0.length) && decide (c (rd_T53 l0 (bsL (fun y => c y x) l0 (l0.length + 1) 0 l0.length : Nat)) x = 0))]) ∧ Below w.heap.size w w' := by
  obtain ⟨R, hR⟩ : ∃ R, R = bsL (fun y => c y x) l0 (l0.length + 1) 0 l0.length := ⟨_, rfl⟩
  rw [← hR]
  have HRR := Aside0.mk hR
  have HR := Aside0.mk hr0
  have hu := Try.underlying53
  clear hr0 hR
  go_enter Try.func49, Try.ntmps49
  go_wp2_with (fail)
  obtain ⟨s, hs⟩ : ∃ s, s = w.heap.size := ⟨_, rfl⟩
  obtain ⟨w1, hw1⟩ : ∃ w1, w1 = w.alloc (.cells #[.slice A1 x.f0.length c1, .slice A2 x.f1.length c2] 53 (0, 0)) := ⟨_, rfl⟩
  have HG := Aside0.mk (show w1.heap[s]? = some (.cells #[.slice A1 x.f0.length c1, .slice A2 x.f1.length c2] 53 (0, 0)) by rw [hw1, hs]; exact heap_alloc_new _ _)
  have HB1 := Aside0.mk (show Below w.heap.size w w1 by rw [hw1]; exact below_alloc (Below.refl _ _) _)
  rw [← hw1, ← hs]
  clear hw1 hs
  go_loopw [9, 10] (fun s9 s10 wr => ∃ i j f : Nat, s9 = .int .i64 i ∧ s10 = .int .i64 j ∧ i ≤ j ∧ j ≤ l0.length ∧ j - i < f ∧ Aside0 (R = bsL (fun y => c y x) l0 f i j) ∧ Aside0 (Below w1.heap.size w1 wr)) (fun s9 s10 _ => (intOf s10).toNat - (intOf s9).toNat)
  case atStart => exact ⟨0, l0.length, l0.length + 1, rfl, rfl, Nat.zero_le _, Nat.le_refl _, by omega, HRR, ⟨Below.refl _ _⟩⟩
  case round =>
    obtain ⟨i, j, f, rfl, rfl, hij, hjn, hf, HF, HB⟩ := hrel
    by_cases hlt : i < j
    · have hw := half_u64 hij hjn hn
      have hlt1 : (i : Int) < (j : Int) := by omega
      obtain ⟨f, rfl⟩ : ∃ f', f = f' + 1 := ⟨f - 1, by omega⟩
      obtain ⟨h, hh⟩ : ∃ h, h = (i + j) / 2 := ⟨_, rfl⟩
      have hF := HF.out
      rw [bsL, if_pos hlt, ← hh] at hF
      have HF2 := Aside0.mk hF
      have HHE := Aside0.mk hh
      have HQ := Aside0.mk (below_step HB1.out HB.out)
      obtain ⟨ad, B1, d1, B2, d2, e, hx0, hx1, hl1, hi1, hl2, hi2⟩ := at_T53 (Kd.C_below HR.out HQ.out) h (by omega) (by omega)
      cases e
      rw [Int.toNat_natCast] at hx0 hx1
      generalize hy : rd_T53 l0 (h : Int) = y at *
      have hup : ∀ {q : Addr} {u : Value} (r : Past wr), wr.cell? q = some u → r.W.cell? q = some u := fun {q u} r h => (r.h.cell (World.block_lt_of_cell? wr _ h)).trans h
      have px0 := fun r : Past wr => hup r hx0
      have px1 := fun r : Past wr => hup r hx1
      have hGw := (HB.out.block _ (blk_lt HG.out)).trans HG.out
      have py0 := fun r : Past wr => hup r ((blk_cell hGw 0).trans (show _ = some _ from rfl))
      have py1 := fun r : Past wr => hup r ((blk_cell hGw 1).trans (show _ = some _ from rfl))
      have HC := Aside0.mk (fun r : Past wr => hp r.W y B1 d1 B2 d2 (below_step HQ.out r.h) hl1 (Kd.C_below hi1 r.h) hl2 (Kd.C_below hi2 r.h))
      have HE := Aside0.mk he
      have hh2 : h < l0.length := by omega
      have hh3 : (h : Int) < (l0.length : Int) := by omega
      have HH := Aside0.mk (show i ≤ h ∧ h < j from ⟨by omega, by omega⟩)
      clear hF HF hx0 hx1 hGw hup hi1 hi2 hl1 hl2 hy
      clear hh2 hh3 hh
      go_wp2_with (fail)
      have hh := HHE.out
      have hhi : ((i : Int) + (j : Int)) / 2 = (h : Int) := by omega
      have hh2 : h < l0.length := by have := HH.out; omega
      have hh3 : (h : Int) < (l0.length : Int) := by omega
      rw [hhi]
      clear hhi hw hh
      obtain ⟨v, hv⟩ : ∃ v, v = c y x := ⟨_, rfl⟩
      rw [← hv] at HC HF2
      clear hv
      refine wp_region_past (by kernel_rfl) (by kernel_rfl) ?_
      repeat (go_big_quiet_step (with_reducible exact Calls.past_of rfl (HC.out _)))
      refine wpQuiet_nil ?_
      rintro _ ⟨q, rfl⟩
      have HB2 := Aside0.mk (below_step HB.out q.h)
      clear px0 px1 py0 py1 HC
      by_cases hv0 : v < 0
      · rw [if_pos hv0] at HF2
        go_wp2
        have hH := HH.out
        exact ⟨⟨h + 1, j, f, by go_num, rfl, by omega, hjn, by omega, HF2, HB2⟩, by simp [intOf]; omega⟩
      · rw [if_neg hv0] at HF2
        go_wp2
        have hH := HH.out
        exact ⟨⟨i, h, f, rfl, rfl, by omega, by omega, by omega, HF2, HB2⟩, by simp [intOf]; omega⟩
    · obtain ⟨f, rfl⟩ : ∃ f', f = f' + 1 := ⟨f - 1, by omega⟩
      have hF := HF.out
      rw [bsL, if_neg hlt] at hF
      subst hF
      have hlt1 : ¬ ((R : Int) < (j : Int)) := by omega
      have HQ := Aside0.mk (below_step HB1.out HB.out)
      clear HF HRR
      by_cases hRn : R < l0.length
      · obtain ⟨ad, B1, d1, B2, d2, e, hx0, hx1, hl1, hi1, hl2, hi2⟩ := at_T53 (Kd.C_below HR.out HQ.out) R (by omega) (by omega)
        cases e
        rw [Int.toNat_natCast] at hx0 hx1
        have HGOAL := Aside0.mk (show decide (R < l0.length) = true from decide_eq_true hRn)
        obtain ⟨y, hy⟩ : ∃ y, y = rd_T53 l0 (R : Int) := ⟨_, rfl⟩
        rw [← hy] at hx0 hx1 hl1 hi1 hl2 hi2
        have HY := Aside0.mk hy
        have hup : ∀ {q : Addr} {u : Value} (r : Past wr), wr.cell? q = some u → r.W.cell? q = some u := fun {q u} r h => (r.h.cell (World.block_lt_of_cell? wr _ h)).trans h
        have px0 := fun r : Past wr => hup r hx0
        have px1 := fun r : Past wr => hup r hx1
        have hGw := (HB.out.block _ (blk_lt HG.out)).trans HG.out
        have py0 := fun r : Past wr => hup r ((blk_cell hGw 0).trans (show _ = some _ from rfl))
        have py1 := fun r : Past wr => hup r ((blk_cell hGw 1).trans (show _ = some _ from rfl))
        have HC := Aside0.mk (fun r : Past wr => hp r.W y B1 d1 B2 d2 (below_step HQ.out r.h) hl1 (Kd.C_below hi1 r.h) hl2 (Kd.C_below hi2 r.h))
        have hR1 : (R : Int) < (l0.length : Int) := by omega
        clear hx0 hx1 hGw hup hi1 hi2 hl1 hl2 hy hRn hlt
        obtain ⟨v, hv⟩ : ∃ v, v = c y x := ⟨_, rfl⟩
        have HV := Aside0.mk hv
        rw [← hv] at HC
        clear hv
        go_wp2_with (fail)
        refine wp_region_past (by kernel_rfl) (by kernel_rfl) ?_
        repeat (go_big_quiet_step (with_reducible exact Calls.past_of rfl (HC.out _)))
        refine wpQuiet_nil ?_
        rintro _ ⟨q, rfl⟩
        go_wp2
        go_ret2
        exact ⟨by rw [HGOAL.out, ← HY.out, ← HV.out]; first | rfl | simp, below_step HQ.out q.h⟩
      · have hR1 : decide ((R : Int) < (l0.length : Int)) = false := decide_eq_false (by omega)
        obtain rfl : R = l0.length := by omega
        have hR2 : decide ((l0.length : Int) < (l0.length : Int)) = false := decide_eq_false (by omega)
        have hR3 : ¬ ((l0.length : Int) < (l0.length : Int)) := by omega
        have HC := Aside0.mk (fun r : Past wr => hp r.W x A1 c1 A2 c2 (below_step HQ.out r.h) h1 (Kd.C_below i1 (below_step HQ.out r.h)) h2 (Kd.C_below i2 (below_step HQ.out r.h)))
        clear hRn hlt
        go_wp2_with (fail)
        refine wp_region_past (by kernel_rfl) (by kernel_rfl) ?_
        repeat (go_big_quiet_step (with_reducible exact Calls.past_of rfl (HC.out _)))
        refine wpQuiet_nil ?_
        rintro _ ⟨q, rfl⟩
        go_wp2
        go_ret2
        exact ⟨by first | rfl | simp, below_step HQ.out q.h⟩
end Go.Proofs.Ytbjeaalbdaedpaa.P
namespace Go.Proofs.Ytbjeaalbdaedpaa.P
open Go.RowKit Go.Proofs.YtbjeaalbdaedpaaW.PrintWords Go.Proofs.YtbjeaalbdaedpaaW.PrintLast Go.Proofs.YtbjeaalbdaedpaaW.PrintMore
attribute [local go_sem] max2_int min2_int max_two min_two max_three min_three max_four min_four
set_option linter.unusedVariables false
set_option linter.unusedSimpArgs false
section
attribute [local go_sem] Oper.semAt_some
theorem putObj_alloc' (W : World) (o : Obj) {l : Nat} (b : Obj) (h : l < W.heap.size) : (W.alloc o).putObj l b = (W.putObj l b).alloc o := by
  show ({ W with heap := (W.heap.push o).setIfInBounds l b } : World) = { W with heap := (W.heap.setIfInBounds l b).push o }
  congr 1
  apply Array.ext_getElem?
  intro i
  have hne : ¬ W.heap.size = l := by omega
  by_cases e : l = i
  · subst e
    have h2 : l < (W.heap.push o).size := by simp; omega
    rw [Array.getElem?_setIfInBounds_self_of_lt h2, Array.getElem?_push, Array.size_setIfInBounds, if_neg (by omega), Array.getElem?_setIfInBounds_self_of_lt h]
  · rw [Array.getElem?_setIfInBounds_ne e, Array.getElem?_push, Array.getElem?_push, Array.size_setIfInBounds, Array.getElem?_setIfInBounds_ne e]
theorem range_count {F : Fence} {n : Nat} {P : Program} {g : Operand} {ps : Array Tmp} {assign body : Code} {Q : Exit → Act → World → Prop} {a : Act} {w : World}
    (hro : F.round = none) (h1 : 1 ≤ n) {gf : Nat} {lb : Array Value} (hg : a.eval g = .func (.func gf) #[] lb) (hFg : F.fn gf) (eg : ∀ args w, (callFunc gf args).run P w = .ok (.enter gf args) w)
    (encs : Nat → Array Value) (hps : ∀ k, (encs k).size = ps.size) (N : Nat) (I Ix : Nat → World → Prop)
    (hIb : ∀ k W l o', (l = w.heap.size ∨ l = w.heap.size + 1) → I k W → I k (W.putObj l o'))
    (hIxb : ∀ k W l o', (l = w.heap.size ∨ l = w.heap.size + 1) → Ix k W → Ix k (W.putObj l o'))
    (h0 : ∀ r : Loop, I 0 ((w.alloc (.deferred (some []))).alloc (.loop r))) (a₁ : Nat → Nat → Act) (ob : Nat → Obj)
    (hassign : ∀ (l k : Nat) (W : World) (K : Act → World → Prop), k < N → K (a₁ k W.heap.size) (W.alloc (ob k)) →
      assign.wpIn (F.inRound l) (n - 1 - 1) P (Exit.then K (fun _ _ _ => False)) { tmps := (ps.zip (encs k)).foldl (fun t (p, v) => t.setIfInBounds p v) a.tmps, defers := [] } W)
    (hbody : ∀ (l k : Nat) (W : World), k < N → I k W → body.wpIn (F.inRound l) (n - 1 - 1) P (fun e _ W' => (e = .normal ∧ KeepsOthers W W' ∧ I (k + 1) W') ∨ (e = .ret ∧ KeepsOthers W W' ∧ Ix k W')) (a₁ k W.heap.size) (W.alloc (ob k)))
    (hit : ∀ (l : Nat) (J Jx : Nat → World → Prop) (W : World), (∀ k W, J k W → I k W) →
      (∀ k W1, J k W1 → k < N → YieldAt F (n - 1 - 1) P l (encs k) W1 fun e W' => (e = .returned (.bool true) ∧ J (k + 1) W') ∨ (e = .returned (.bool false) ∧ Jx k W')) → J 0 W →
      CallsIn F (n - 1) P gf (#[.func (.yield l) #[] #[]] ++ lb) W fun e W' => (∃ v, e = .returned v) ∧ (J N W' ∨ ∃ k, k < N ∧ Jx k W'))
    (hdone : ∀ (D : Nat) (W : World), D = w.heap.size → I N W → W.heap[D]? = some (.deferred (some [])) → Q .normal { a with defers := { target := .collected D, args := #[] } :: a.defers } W)
    (hstop : ∀ (D k : Nat) (W : World), D = w.heap.size → k < N → Ix k W → W.heap[D]? = some (.deferred (some [])) → Code.ret.wpIn F n P Q { a with defers := { target := .collected D, args := #[] } :: a.defers } W) :
    (Code.rangeFunc g ps assign body).wpIn F n P Q a w := by
  refine wpIn_rangeFunc fun fn hfn => ?_
  rw [hro]
  let R : LoopState → Option Code → Loop := fun st pe => { state := st, pending := pe, fn := fn, tmps := a.tmps, params := ps, assign := assign, body := body, defers := w.heap.size }
  let W1 := (w.alloc (.deferred (some []))).alloc (.loop (R .ready none))
  have hL1 : W1.heap[w.heap.size + 1]? = some (.loop (R .ready none)) := by
    have := World.alloc_heap_new (w.alloc (.deferred (some []))) (.loop (R .ready none)); rwa [World.size_alloc] at this
  have hK1 : W1.heap[w.heap.size]? = some (.deferred (some [])) := (Below.heap_alloc _ _ _ (by simp)).trans (World.alloc_heap_new w _)
  refine ⟨w.heap.size + 1, _, W1, { target := .fn (.func gf) lb, args := #[.func (.yield (w.heap.size + 1)) #[] #[]] }, W1, gf, #[.func (.yield (w.heap.size + 1)) #[] #[]] ++ lb, W1,
    run_enterLoop_outer _ _ _ _ _, ?_, ?_, ?_, fun _ => h1, ?_⟩
  · simp only [resolve, hg]
    simp [go_sem]
  · intro f' hf'; simp [Target.leads] at hf'; subst hf'; exact hFg
  · simp [invoke, go_sem, eg]
  · refine (hit (w.heap.size + 1) (fun k W => I k W ∧ W.heap[w.heap.size + 1]? = some (.loop (R .ready none)) ∧ W.heap[w.heap.size]? = some (.deferred (some [])))
      (fun k W => Ix k W ∧ W.heap[w.heap.size + 1]? = some (.loop (R .done (some .ret))) ∧ W.heap[w.heap.size]? = some (.deferred (some []))) W1
      (fun _ _ h => h.1) ?_ ⟨h0 _, hL1, hK1⟩).mono ?_
    · rintro k W ⟨hi, hl, hk⟩ hN
      have hlt : w.heap.size + 1 < W.heap.size := (Array.getElem?_eq_some_iff.1 hl).1
      have hlA : (W.alloc (ob k)).heap[w.heap.size + 1]? = some (.loop { R .ready none with state := .ready }) := (Below.heap_alloc _ _ _ hlt).trans hl
      refine ⟨fn, _, assign, body, run_yield (P := P) (args := encs k) hl (hps k), roundIn_of_wpIn hfn (hassign _ k W _ hN ⟨_, run_beginRound hlA rfl, ?_⟩)⟩
      rw [putObj_alloc' W (ob k) _ hlt]
      have hl2 := World.putObj_heap_same (o := .loop { R .ready none with state := .busy }) hlt
      have hk2 : (W.putObj (w.heap.size + 1) (.loop { R .ready none with state := .busy })).heap[w.heap.size]? = some (.deferred (some [])) := (World.putObj_heap_other (by omega)).trans hk
      have hbd := hbody (w.heap.size + 1) k _ hN (hIb k W (w.heap.size + 1) (.loop { R .ready none with state := .busy }) (by omega) hi)
      rw [World.putObj_size] at hbd
      refine wpIn_mono hbd ?_
      rintro e a3 W3 (⟨rfl, hk3, hi3⟩ | ⟨rfl, hk3, hi3⟩)
      · have hl3 := hk3.same _ _ hl2 rfl
        exact ⟨_, _, run_endRound none hl3, .inl ⟨rfl, hIb _ _ _ _ (by omega) hi3, World.putObj_heap_same (Array.getElem?_eq_some_iff.1 hl3).1, (World.putObj_heap_other (by omega)).trans (hk3.same _ _ hk2 rfl)⟩⟩
      · have hl3 := hk3.same _ _ hl2 rfl
        exact ⟨_, _, run_endRound (some .ret) hl3, .inr ⟨rfl, hIxb _ _ _ _ (by omega) hi3, World.putObj_heap_same (Array.getElem?_eq_some_iff.1 hl3).1, (World.putObj_heap_other (by omega)).trans (hk3.same _ _ hk2 rfl)⟩⟩
    · rintro e W2 ⟨⟨v, rfl⟩, ⟨hi, hl, hk⟩ | ⟨k, hkN, hi, hl, hk⟩⟩
      · exact ⟨none, _, run_endLoop (P := P) hl (by simp [R]), hdone _ _ rfl (hIb _ _ _ _ (by omega) hi) ((World.putObj_heap_other (by omega)).trans hk)⟩
      · exact ⟨some .ret, _, run_endLoop (P := P) hl (by simp [R]), hstop _ k _ rfl hkN (hIxb _ _ _ _ (by omega) hi) ((World.putObj_heap_other (by omega)).trans hk)⟩
end
end Go.Proofs.Ytbjeaalbdaedpaa.P
namespace Go.Proofs.Ytbjeaalbdaedpaa.P
open Go.RowKit Go.Proofs.YtbjeaalbdaedpaaW.PrintWords Go.Proofs.YtbjeaalbdaedpaaW.PrintLast Go.Proofs.YtbjeaalbdaedpaaW.PrintMore
attribute [local go_sem] max2_int min2_int max_two min_two max_three min_three max_four min_four
set_option linter.unusedVariables false
set_option linter.unusedSimpArgs false
section
attribute [local go_sem] Oper.semAt_some
set_option maxHeartbeats 1000000 in
set_option maxRecDepth 100000 in
theorem backW_call (A : Option Addr) (n c : Nat) (w : World) :
    Calls Try.prog 40 #[.slice A n c] w fun e w' => e = .returned (.func (.func 57) #[] #[.pointer (some ⟨w.heap.size, 0, none⟩)]) ∧ w' = w.alloc (.cells #[.slice A n c] 22 (0, 0)) := by
  have hmf : ∀ (fn : Fn) (first cap : Array Value) (w : World), (Instr.makeFunc fn first cap).run Try.prog w = .ok (.func fn first cap) w := fun _ _ _ _ => rfl
  go_enter Try.func40, Try.ntmps40
  go_wp2
  go_ret
  exact ⟨rfl, rfl⟩
abbrev AtW := Nat → Option Addr × Nat × Option Addr × Nat
def cellsW (xs : List S28) (vs : AtW) (i : Nat) : Array Value := #[.int .i64 (rd_T28 xs (i : Int)).f0, .slice (vs i).1 (rd_T28 xs (i : Int)).f1.length (vs i).2.1, .bool (rd_T28 xs (i : Int)).f2, .slice (vs i).2.2.1 (rd_T28 xs (i : Int)).f3.length (vs i).2.2.2]
def LiesW (xs : List S28) (A : Option Addr) (vs : AtW) (W : World) : Prop := ∀ i, i < xs.length → ∃ ad, A = some ad ∧ W.cell? (ad.add (i * 4)) = some (.int .i64 (rd_T28 xs (i : Int)).f0) ∧ W.cell? ⟨(ad.add (i * 4)).block, (ad.add (i * 4)).off + 1, none⟩ = some (.slice (vs i).1 (rd_T28 xs (i : Int)).f1.length (vs i).2.1) ∧
  W.cell? ⟨(ad.add (i * 4)).block, (ad.add (i * 4)).off + 2, none⟩ = some (.bool (rd_T28 xs (i : Int)).f2) ∧ W.cell? ⟨(ad.add (i * 4)).block, (ad.add (i * 4)).off + 3, none⟩ = some (.slice (vs i).2.2.1 (rd_T28 xs (i : Int)).f3.length (vs i).2.2.2) ∧
  (rd_T28 xs (i : Int)).f1.length ≤ (vs i).2.1 ∧ (Kd.int .u8).C W (vs i).1 (rd_T28 xs (i : Int)).f1.length (rd_T28 xs (i : Int)).f1 ∧ (rd_T28 xs (i : Int)).f3.length ≤ (vs i).2.2.2 ∧ (Kd.int .u8).C W (vs i).2.2.1 (rd_T28 xs (i : Int)).f3.length (rd_T28 xs (i : Int)).f3
theorem liesW {w : World} {A : Option Addr} {xs : List S28} (h : Kd.C k28 w A xs.length xs) : ∃ vs : AtW, ∀ W, Below w.heap.size w W → LiesW xs A vs W := by
  have h1 : ∀ i : Nat, ∃ q : Option Addr × Nat × Option Addr × Nat, i < xs.length → ∀ W, Below w.heap.size w W → ∃ ad, A = some ad ∧ W.cell? (ad.add (i * 4)) = some (.int .i64 (rd_T28 xs (i : Int)).f0) ∧ W.cell? ⟨(ad.add (i * 4)).block, (ad.add (i * 4)).off + 1, none⟩ = some (.slice q.1 (rd_T28 xs (i : Int)).f1.length q.2.1) ∧
      W.cell? ⟨(ad.add (i * 4)).block, (ad.add (i * 4)).off + 2, none⟩ = some (.bool (rd_T28 xs (i : Int)).f2) ∧ W.cell? ⟨(ad.add (i * 4)).block, (ad.add (i * 4)).off + 3, none⟩ = some (.slice q.2.2.1 (rd_T28 xs (i : Int)).f3.length q.2.2.2) ∧
      (rd_T28 xs (i : Int)).f1.length ≤ q.2.1 ∧ (Kd.int .u8).C W q.1 (rd_T28 xs (i : Int)).f1.length (rd_T28 xs (i : Int)).f1 ∧ (rd_T28 xs (i : Int)).f3.length ≤ q.2.2.2 ∧ (Kd.int .u8).C W q.2.2.1 (rd_T28 xs (i : Int)).f3.length (rd_T28 xs (i : Int)).f3 := by
    intro i
    by_cases hi : i < xs.length
    · obtain ⟨ad, A1, c1, A3, c3, e, hx0, hx1, hx2, hx3, hl1, hi1, hl3, hi3⟩ := at_T28 h (i : Int) (by omega) (by omega)
      rw [Int.toNat_natCast] at hx0 hx1 hx2 hx3
      refine ⟨(A1, c1, A3, c3), fun _ W hb => ?_⟩
      have kp : ∀ {q : Addr} {u : Value}, w.cell? q = some u → W.cell? q = some u := fun {q u} h => (hb.cell (World.block_lt_of_cell? w _ h)).trans h
      exact ⟨ad, e, kp hx0, kp hx1, kp hx2, kp hx3, hl1, Kd.C_below hi1 hb, hl3, Kd.C_below hi3 hb⟩
    · exact ⟨(none, 0, none, 0), fun h => absurd h hi⟩
  refine ⟨fun i => Classical.choose (h1 i), fun W hb i hi => ?_⟩
  exact Classical.choose_spec (h1 i) hi W hb
set_option maxHeartbeats 2000000 in
set_option maxRecDepth 100000 in
theorem backW1_in (l gn : Nat) (A0 : Option Addr) (c0 : Nat) (xs : List S28) (vs : AtW) (J Jx : Nat → World → Prop)
    (hJg : ∀ k W, J k W → W.heap[gn]? = some (.cells #[.slice A0 xs.length c0] 22 (0, 0)) ∧ LiesW xs A0 vs W)
    (hY : ∀ k W, J k W → k < xs.length → YieldAt Fence.wide 4 Try.prog l #[.int .i64 ((xs.length - 1 - k : Nat) : Int), .agg (cellsW xs vs (xs.length - 1 - k))] W fun e W' => (e = .returned (.bool true) ∧ J (k + 1) W') ∨ (e = .returned (.bool false) ∧ Jx k W'))
    (hm : xs.length ≤ 9223372036854775807) (W : World) (h0 : J 0 W) :
    CallsIn Fence.wide 5 Try.prog 57 #[.func (.yield l) #[] #[], .pointer (some ⟨gn, 0, none⟩)] W fun e W' => (∃ v, e = .returned v) ∧ (J xs.length W' ∨ ∃ k, k < xs.length ∧ Jx k W') := by
  have hg0 := (blk_cell (hJg _ _ h0).1 0).trans rfl
  refine callsIn_of_wp Try.func57 rfl trivial ?_ rfl
  simp only [Try.ntmps57, List.size_toArray, List.length_cons, List.length_nil, Nat.reduceAdd, Nat.reduceSub, Array.replicate_succ, Array.replicate_zero, List.push_toArray, List.append_toArray, List.nil_append, List.cons_append]
  gi_wp2
  gi_loopw [3] (fun v3 wr => ∃ (z : Int) (k : Nat), v3 = .int .i64 z ∧ -1 ≤ z ∧ z + 1 + k = xs.length ∧ Aside0 (J k wr)) (fun v3 wr => match v3 with | .int _ q => (q + 1).toNat | _ => 0)
  case atStart => exact ⟨(xs.length : Int) - 1, 0, by go_num, by omega, by omega, ⟨h0⟩⟩
  case round =>
    obtain ⟨z, k, rfl, hz1, hzp, HJ⟩ := hrel
    clear hg0
    have hg1 := (blk_cell (hJg _ _ HJ.out).1 0).trans rfl
    by_cases hz : 0 ≤ z
    · obtain ⟨i, rfl⟩ := Int.eq_ofNat_of_zero_le hz
      have hil : i < xs.length := by omega
      obtain ⟨ad, e1, hx0, hx1, hx2, hx3, _⟩ := (hJg _ _ HJ.out).2 i hil
      subst e1
      have hik : xs.length - 1 - k = i := by omega
      obtain ⟨fn, tmps, assign, body, hy, hR⟩ := hY k wr HJ.out (by omega)
      rw [hik] at hy
      unfold cellsW at hy
      clear hik
      generalize rd_T28 xs (i : Int) = y at *
      gi_wp2
      refine hR.mono ?_
      rintro e3 W3 (⟨rfl, hJ3⟩ | ⟨rfl, hJ3⟩)
      · gi_wp2
        go_roundw
        case rel => exact ⟨(i : Int) - 1, k + 1, by go_num, by omega, by omega, ⟨hJ3⟩⟩
        case measure =>
          show ((i : Int) - 1 + 1).toNat < ((i : Int) + 1).toNat
          omega
      · gi_wp2
        refine bodyPost_ret (results_none rfl _ _ _) rfl ?_
        exact ⟨⟨_, rfl⟩, .inr ⟨k, by omega, hJ3⟩⟩
    · have hz2 : z = -1 := by omega
      subst hz2
      gi_wp2
      refine bodyPost_end (results_none rfl _ _ _) rfl ?_
      have hk : k = xs.length := by omega
      exact ⟨⟨_, rfl⟩, .inl (hk ▸ HJ.out)⟩
end
end Go.Proofs.Ytbjeaalbdaedpaa.P
namespace Go.Proofs.Ytbjeaalbdaedpaa.P
open Go.RowKit Go.Proofs.YtbjeaalbdaedpaaW.PrintWords Go.Proofs.YtbjeaalbdaedpaaW.PrintLast Go.Proofs.YtbjeaalbdaedpaaW.PrintMore
attribute [local go_sem] max2_int min2_int max_two min_two max_three min_three max_four min_four
set_option linter.unusedVariables false
set_option linter.unusedSimpArgs false
theorem less_cmp : ∀ a b : List UInt8, Op.bytesLess a b = decide (Lib.compareBytes a b < 0)
  | [], [] => rfl
  | [], _ :: _ => rfl
  | _ :: _, [] => rfl
  | x :: a, y :: b => by
    have ih := less_cmp a b
    unfold Op.bytesLess Lib.compareBytes
    by_cases h : x < y
    · simp [h]
    · by_cases h2 : y < x
      · have : ¬ x = y := fun e => by subst e; exact h h2
        simp [h, h2, this]
      · have : x = y := UInt8.le_antisymm (UInt8.not_lt.1 h2) (UInt8.not_lt.1 h)
        subst this
        simp [ih, UInt8.lt_irrefl]
theorem cmp_neg : ∀ a b : List UInt8, Lib.compareBytes b a = - Lib.compareBytes a b
  | [], [] => rfl
  | [], _ :: _ => rfl
  | _ :: _, [] => rfl
  | x :: a, y :: b => by
    have ih := cmp_neg a b
    unfold Lib.compareBytes
    by_cases h : x < y
    · have : ¬ y < x := fun h2 => UInt8.lt_irrefl _ (UInt8.lt_trans h h2)
      simp [h, this]
    · by_cases h2 : y < x
      · simp [h, h2]
      · simp [h, h2, ih]
theorem cmp_trans : ∀ a b c : List UInt8, Lib.compareBytes a b ≤ 0 → Lib.compareBytes b c ≤ 0 → Lib.compareBytes a c ≤ 0
  | [], b, [], _, _ => by simp [Lib.compareBytes]
  | [], b, _ :: _, _, _ => by simp [Lib.compareBytes]
  | x :: a, [], c, h, _ => by simp [Lib.compareBytes] at h
  | x :: a, y :: b, [], _, h => by simp [Lib.compareBytes] at h
  | x :: a, y :: b, z :: c, h1, h2 => by
    unfold Lib.compareBytes at h1 h2 ⊢
    by_cases hxy : x < y
    · by_cases hyz : y < z
      · simp [UInt8.lt_trans hxy hyz]
      · by_cases hzy : z < y
        · simp [hzy, hyz] at h2
        · have : y = z := UInt8.le_antisymm (UInt8.not_lt.1 hzy) (UInt8.not_lt.1 hyz)
          subst this
          simp [hxy]
    · by_cases hyx : y < x
      · simp [hxy, hyx] at h1
      · have : x = y := UInt8.le_antisymm (UInt8.not_lt.1 hyx) (UInt8.not_lt.1 hxy)
        subst this
        by_cases hyz : x < z
        · simp [hyz]
        · by_cases hzy : z < x
          · simp [hzy, hyz] at h2
          · simp [hyz, hzy, UInt8.lt_irrefl] at h1 h2 ⊢
            exact cmp_trans a b c h1 h2
theorem cmp_self : ∀ a : List UInt8, Lib.compareBytes a a = 0
  | [] => rfl
  | x :: a => by unfold Lib.compareBytes; simp [UInt8.lt_irrefl, cmp_self a]
theorem cmp_zero : ∀ a b : List UInt8, Lib.compareBytes a b = 0 → a = b
  | [], [], _ => rfl
  | [], _ :: _, h => by simp [Lib.compareBytes] at h
  | _ :: _, [], h => by simp [Lib.compareBytes] at h
  | x :: a, y :: b, h => by
    unfold Lib.compareBytes at h
    by_cases h1 : x < y
    · simp [h1] at h
    · by_cases h2 : y < x
      · simp [h1, h2] at h
      · have : x = y := UInt8.le_antisymm (UInt8.not_lt.1 h2) (UInt8.not_lt.1 h1)
        subst this
        simp [h1] at h
        rw [cmp_zero a b h]
theorem cmp_lt_trans {a b c : List UInt8} (h1 : Lib.compareBytes a b < 0) (h2 : Lib.compareBytes b c < 0) : Lib.compareBytes a c < 0 := by
  have h3 := cmp_trans a b c (by omega) (by omega)
  rcases Int.lt_or_eq_of_le h3 with h | h
  · exact h
  · have := cmp_zero a c h
    subst this
    have := cmp_neg a b
    omega
end Go.Proofs.Ytbjeaalbdaedpaa.P
namespace Go.Proofs.Ytbjeaalbdaedpaa.P
open Go.RowKit Go.Proofs.YtbjeaalbdaedpaaW.PrintWords Go.Proofs.YtbjeaalbdaedpaaW.PrintLast Go.Proofs.YtbjeaalbdaedpaaW.PrintMore
attribute [local go_sem] max2_int min2_int max_two min_two max_three min_three max_four min_four
set_option linter.unusedVariables false
set_option linter.unusedSimpArgs false
theorem run_copy_seg {P : Program} (w : World) (dT sT ty elem : TypeId) (g o n dCap m sz : Nat) (ad : Addr) (sCap : Nat) (cur : List Value) (t : TypeId) (cs : List Value)
    (hu : P.underlying dT = some (.slice elem)) (hs : (P.info? elem).map (·.size) = some sz) (hg : w.heap[g]? = some (.cells cur.toArray t (0, 0))) (hn : cs.length = Nat.min m n * sz)
    (hsrc : ∀ j v, cs[j]? = some v → w.cell? (ad.add j) = some v) (hfit : o + cs.length ≤ cur.length) (h1 : ∀ v ∈ cs, v.oneCell' = true) :
    (Builtin.copy_ #[dT, sT] ty #[.slice (some ⟨g, o, none⟩) n dCap, .slice (some ad) m sCap]).run P w = .ok (goInt (Nat.min m n)) (w.setRow g (cur.take o ++ cs ++ cur.drop (o + cs.length)).toArray) := by
  have hl := run_loadCells_list (P := P) w ad cs hsrc
  have hst := run_storeCells_at P g o t cs 0 cur.toArray w hg (by simpa using hfit) h1
  cases hq : P.info? elem with
  | none => simp [hq] at hs
  | some i =>
    have hi : i.size = sz := by simpa [hq] using hs
    simp [Builtin.copy_, run_underlying hu, Builtin.lenOf, Builtin.firstCells, sizeOf, typeInfo, hq, hi, ← hn, hl, hst]
theorem chunk2_eq {L M : List Value} {j k : Nat} (h0 : L[j * 2]? = M[k * 2]?) (h1 : L[j * 2 + 1]? = M[k * 2 + 1]?) : (L.drop (j * 2)).take 2 = (M.drop (k * 2)).take 2 := by
  apply List.ext_getElem?
  intro t
  by_cases ht : t < 2
  · rw [List.getElem?_take_of_lt ht, List.getElem?_take_of_lt ht, List.getElem?_drop, List.getElem?_drop]
    rcases Nat.lt_or_ge t 1 with h | h
    · obtain rfl : t = 0 := by omega
      exact h0
    · obtain rfl : t = 1 := by omega
      exact h1
  · rw [List.getElem?_take_eq_none (by omega), List.getElem?_take_eq_none (by omega)]
def InsL (L : List Value) (i n : Nat) (c0 c1 : Value) (L' : List Value) : Prop := ∀ t, t < (n + 1) * 2 → L'[t]? = if t < i * 2 then L[t]? else if t < i * 2 + 2 then [c0, c1][t - i * 2]? else L[t - 2]?
theorem ins_shut {W W1 : World} {base : Nat} {ok : Nat → Prop} {B g cap1 i : Nat} {cur L' : List Value} {c0 c1 : Value} {x : S53} {xs : List S53} (hi : i ≤ xs.length)
    (hE : ∀ j y, xs[j]? = some y → Kd.FK k53 W (fun k => ok k ∧ k ≠ B) y ((cur.drop (j * 2)).take 2)) (hx : Kd.FK k53 W (fun k => ok k ∧ k ≠ B) x [c0, c1])
    (hL : InsL cur i xs.length c0 c1 L') (hkeep : ∀ k, ok k ∧ k ≠ B → k < W.heap.size → W1.heap[k]? = W.heap[k]?) (hgB : g = B ∨ g = W.heap.size)
    (hb : base ≤ g) (hok : ok g) (hg : W1.heap[g]? = some (.cells L'.toArray 53 (0, 0))) (hc : xs.length + 1 ≤ cap1) (hcm : cap1 ≤ maxLen) (hs : L'.length = cap1 * 2) :
    Kd.N k53 53 W1 base ok (.slice (some ⟨g, 0, none⟩) (xs.length + 1) cap1) (xs.take i ++ x :: xs.drop i) := by
  have hlen : (xs.take i ++ x :: xs.drop i).length = xs.length + 1 := by rw [List.length_append, List.length_cons, List.length_take, List.length_drop]; omega
  have mv : ∀ y c, Kd.FK k53 W (fun k => ok k ∧ k ≠ B) y c → Kd.FK k53 W1 (fun k => ok k ∧ k ≠ g) y c := by
    intro y c h
    refine Kd.FK_mono (Kd.FK_step (Kd.FK_bound h) (fun k hk hlt => hkeep k hk.1 hlt)) (fun k hk => ⟨hk.1.1, ?_⟩)
    rcases hgB with e | e
    · rw [e]; exact hk.1.2
    · rw [e]; exact Nat.ne_of_lt hk.2
  have := N_shut (d := k53) (e := 53) (base := base) (ok := ok) (W := W1) (xs := xs.take i ++ x :: xs.drop i) (g := g) (cap := cap1) (cur := L') hb hok hg (by omega) hcm hs (fun j y hy => ?_)
  · rw [hlen] at this
    exact this
  · show Kd.FK k53 W1 _ y ((L'.drop (j * 2)).take 2)
    have hjl : j < xs.length + 1 := by have := (List.getElem?_eq_some_iff.1 hy).1; omega
    rcases Nat.lt_trichotomy j i with h | h | h
    · rw [List.getElem?_append_left (by rw [List.length_take]; omega), List.getElem?_take_of_lt h] at hy
      have e : (L'.drop (j * 2)).take 2 = (cur.drop (j * 2)).take 2 := chunk2_eq (by rw [hL _ (by omega), if_pos (by omega)]) (by rw [hL _ (by omega), if_pos (by omega)])
      rw [e]
      exact mv _ _ (hE j y hy)
    · subst h
      rw [List.getElem?_append_right (by rw [List.length_take]; omega), List.length_take, Nat.min_eq_left hi, Nat.sub_self, List.getElem?_cons_zero] at hy
      obtain rfl := Option.some.inj hy
      have e : (L'.drop (j * 2)).take 2 = ([c0, c1].drop (0 * 2)).take 2 := chunk2_eq (by rw [hL _ (by omega), if_neg (by omega), if_pos (by omega), Nat.sub_self]) (by rw [hL _ (by omega), if_neg (by omega), if_pos (by omega), show j * 2 + 1 - j * 2 = 1 by omega])
      rw [e]
      exact mv _ _ hx
    · rw [List.getElem?_append_right (by rw [List.length_take]; omega), List.length_take, Nat.min_eq_left hi, show j - i = (j - i - 1) + 1 by omega, List.getElem?_cons_succ, List.getElem?_drop, show i + (j - i - 1) = j - 1 by omega] at hy
      have e : (L'.drop (j * 2)).take 2 = (cur.drop ((j - 1) * 2)).take 2 := chunk2_eq (by rw [hL _ (by omega), if_neg (by omega), if_neg (by omega), show j * 2 - 2 = (j - 1) * 2 by omega]) (by rw [hL _ (by omega), if_neg (by omega), if_neg (by omega), show j * 2 + 1 - 2 = (j - 1) * 2 + 1 by omega])
      rw [e]
      exact mv _ _ (hE (j - 1) y hy)
theorem getElem?_splice (L cs : List Value) (o t : Nat) (h : o + cs.length ≤ L.length) : (L.take o ++ cs ++ L.drop (o + cs.length))[t]? = if t < o then L[t]? else if t < o + cs.length then cs[t - o]? else L[t]? := by
  rw [List.append_assoc]
  by_cases h1 : t < o
  · rw [if_pos h1, List.getElem?_append_left (by rw [List.length_take]; omega), List.getElem?_take_of_lt h1]
  · rw [if_neg h1, List.getElem?_append_right (by rw [List.length_take]; omega), List.length_take, Nat.min_eq_left (by omega)]
    by_cases h2 : t < o + cs.length
    · rw [if_pos h2, List.getElem?_append_left (by omega)]
    · rw [if_neg h2, List.getElem?_append_right (by omega), List.getElem?_drop]
      congr 1
      omega
theorem length_splice2 (L cs : List Value) (o : Nat) (h : o + cs.length ≤ L.length) : (L.take o ++ cs ++ L.drop (o + cs.length)).length = L.length := by
  simp only [List.length_append, List.length_take, List.length_drop]; omega
theorem cur_one {W : World} {ok : Nat → Prop} {B cap : Nat} {cur : List Value} {xs : List S53} (hcs : cur.length = cap * 2) (hcl : xs.length ≤ cap) (hE : ∀ j y, xs[j]? = some y → Kd.FK k53 W (fun k => ok k ∧ k ≠ B) y ((cur.drop (j * 2)).take 2)) : ∀ (t : Nat) (v : Value), t < xs.length * 2 → cur[t]? = some v → v.oneCell' = true := by
  intro t v ht hv
  have hj : t / 2 < xs.length := by omega
  have h := Kd.FK_now (hE (t / 2) _ (List.getElem?_eq_getElem hj))
  refine k53.K_one h v ?_
  refine List.mem_iff_getElem?.2 ⟨t - t / 2 * 2, ?_⟩
  rw [List.getElem?_take_of_lt (by omega), List.getElem?_drop, ← hv]
  congr 1
  omega
set_option maxHeartbeats 4000000 in
set_option maxRecDepth 100000 in
theorem ins_room (base : Nat) (ok : Nat → Prop) (B cap i gv : Nat) (c0 c1 : Value) (x : S53) (xs : List S53) (w : World) (hN : Kd.N k53 53 w base ok (.slice (some ⟨B, 0, none⟩) xs.length cap) xs) (hi : i < xs.length) (hcap : xs.length + 1 ≤ cap)
    (hgv : w.heap[gv]? = some (.cells #[c0, c1] 53 (0, 0))) (hvB : gv ≠ B) (h0 : c0.oneCell' = true) (h1 : c1.oneCell' = true) (hx : Kd.FK k53 w (fun k => ok k ∧ k ≠ B) x [c0, c1]) :
    Calls Try.prog 51 #[.slice (some ⟨B, 0, none⟩) xs.length cap, .int .i64 i, .slice (some ⟨gv, 0, none⟩) 1 1] w fun e w' => ∃ v', e = .returned v' ∧ Kd.N k53 53 w' base ok v' (xs.take i ++ x :: xs.drop i) ∧ w.grownBy w' (some B) ∧ (v'.ownBlock = some B ∨ ∃ b, v'.ownBlock = some b ∧ w.heap.size ≤ b) := by
  rcases N_open hN with ⟨hv, _⟩ | ⟨B', cap', cur, hv, hbB, hokB, hgB, hcl, hcm, hcs, hE⟩
  · cases hv
  injection hv with e1 _ e3
  injection e1 with e1
  injection e1 with e1
  subst e1 e3
  have hcs' : cur.length = cap * 2 := hcs
  have hcm' : cap ≤ 9223372036854775807 := hcm
  have hone := cur_one hcs' hcl hE
  obtain ⟨i0, hi0, hz0, hsz, hby⟩ := info_parts info53
  have hinf : (Try.prog.info? 53).map (·.size) = some 2 := by rw [hi0]; exact congrArg some hsz
  obtain ⟨n, hn⟩ : ∃ n, n = xs.length := ⟨_, rfl⟩
  rw [← hn] at hi hcap hcl hN ⊢
  have HNN := Aside0.mk hn
  clear hn
  obtain ⟨cs, hcsd⟩ : ∃ cs, cs = (cur.drop (i * 2)).take ((n - i) * 2) := ⟨_, rfl⟩
  have hcl2 : cs.length = (n - i) * 2 := by rw [hcsd, List.length_take, List.length_drop]; omega
  have hcg : ∀ t, t < (n - i) * 2 → cs[t]? = cur[i * 2 + t]? := by intro t ht; rw [hcsd, List.getElem?_take_of_lt ht, List.getElem?_drop]
  have hcone : ∀ v ∈ cs, v.oneCell' = true := by
    intro v hv
    obtain ⟨t, ht⟩ := List.mem_iff_getElem?.1 hv
    have htl : t < (n - i) * 2 := by have := (List.getElem?_eq_some_iff.1 ht).1; omega
    rw [hcg t htl] at ht
    exact hone _ _ (by have := HNN.out; omega) ht
  have hw1 : IntKind.i64.wrap ((i : Int) + 1) = (i : Int) + 1 := by rw [IntKind.wrap_i64]; omega
  have hw2 : IntKind.i64.wrap ((n : Int) + 1) = (n : Int) + 1 := by rw [IntKind.wrap_i64]; omega
  have hv1 : ∀ v ∈ [c0, c1], v.oneCell' = true := by intro v hv; simp at hv; rcases hv with rfl | rfl <;> assumption
  have cutF : ∀ (len lo : Nat), lo ≤ len → lo < cap → ∀ W : World, (Instr.slice 40 (.slice (some ⟨B, 0, none⟩) len cap) (some (.int .i64 (lo : Int))) none none).run Try.prog W = .ok (.slice (some ⟨B, lo * 2, none⟩) (len - lo) (cap - lo)) W := by
    intro len lo h2 h3 W
    rw [cut_from (P := Try.prog) 40 53 .i64 Try.underlying40 hi0 2 hsz (some ⟨B, 0, none⟩) len cap (lo : Int) (by omega) (by omega) W, Int.toNat_natCast, if_neg (by omega)]
    simp [add_plain]
  have hk1 := cutF n i (by omega) (by omega)
  have hk2 : ∀ W : World, (Instr.slice 40 (.slice (some ⟨B, 0, none⟩) n cap) none (some (.int .i64 ((n : Int) + 1))) none).run Try.prog W = .ok (.slice (some ⟨B, 0, none⟩) (n + 1) cap) W := by
    intro W
    have h := cut_to (P := Try.prog) 40 53 .i64 Try.underlying40 hi0 (some ⟨B, 0, none⟩) cap cap ((n : Int) + 1) (by omega) (by omega) (Nat.le_refl _) W
    have hel : Try.prog.elem 40 = 53 := by simp [Program.elem, Try.underlying40]
    have hu : Try.prog.underlying 40 = some (.slice (Try.prog.elem 40)) := by rw [hel]; exact Try.underlying40
    rw [run_slice_h W 40 (some ⟨B, 0, none⟩) cap cap hu .i64 ((n : Int) + 1) (by omega) (by omega)] at h
    rw [run_slice_h W 40 (some ⟨B, 0, none⟩) n cap hu .i64 ((n : Int) + 1) (by omega) (by omega), h, show ((n : Int) + 1).toNat = n + 1 by omega]
  have hk3 : ∀ W : World, (Instr.slice 40 (.slice (some ⟨B, 0, none⟩) (n + 1) cap) (some (.int .i64 ((i : Int) + 1))) none none).run Try.prog W = .ok (.slice (some ⟨B, (i + 1) * 2, none⟩) (n - i) (cap - (i + 1))) W := fun W => (cutF (n + 1) (i + 1) (by omega) (by omega) W).trans (by rw [Nat.add_sub_add_right])
  have hk4 := cutF (n + 1) i (by omega) (by omega)
  have hov : ∀ lb cb, (callFunc 64 #[.slice (some ⟨gv, 0, none⟩) 1 1, .slice (some ⟨B, (i + 1) * 2, none⟩) lb cb]).run Try.prog w = .ok (.value (.bool false)) w := fun lb cb => by
    rw [run_callFunc_extern Try.func64 (by kernel_rfl) (by kernel_rfl) (by kernel_rfl) (e := Extern.SlicesOverlaps.overlaps #[40, 40] #[4]) (by kernel_rfl),
      Lib.run_overlaps_apart w 40 4 53 Try.underlying40 2 Try.sizeOf53 ⟨gv, 0, none⟩ ⟨B, (i + 1) * 2, none⟩ 1 1 lb cb hvB 53 53 2 cur.length (by simp [World.shape?, hgv]) (by simp [World.shape?, hgB]) (by omega) (blk_frozen hgv 0) (blk_frozen hgv 2)]
    rfl
  obtain ⟨cur1, hcur1⟩ : ∃ cur1, cur1 = cur.take ((i + 1) * 2) ++ cs ++ cur.drop ((i + 1) * 2 + cs.length) := ⟨_, rfl⟩
  have hl1 : cur1.length = cap * 2 := by rw [hcur1, length_splice2 _ _ _ (by omega), hcs']
  have hcp1 : ∀ ty dc sc, (Builtin.copy_ #[40, 40] ty #[.slice (some ⟨B, (i + 1) * 2, none⟩) (n - i) dc, .slice (some ⟨B, i * 2, none⟩) (n + 1 - i) sc]).run Try.prog w.drew = .ok (goInt (Nat.min (n + 1 - i) (n - i))) (w.drew.setRow B cur1.toArray) := fun ty dc sc => by
    rw [hcur1]
    refine run_copy_seg w.drew 40 40 ty 53 B ((i + 1) * 2) (n - i) dc (n + 1 - i) 2 ⟨B, i * 2, none⟩ sc cur 53 cs Try.underlying40 hinf hgB (by rw [hcl2, show Nat.min (n + 1 - i) (n - i) = n - i by show min _ _ = _; omega]) (fun j v hj => ?_) (by omega) hcone
    have hjl : j < (n - i) * 2 := by have := (List.getElem?_eq_some_iff.1 hj).1; omega
    rw [Addr.add_lit]
    show w.cell? _ = _
    rw [blk_cell hgB]
    simpa [hcg j hjl] using hj
  have hgB1 : (w.drew.setRow B cur1.toArray).heap[B]? = some (.cells cur1.toArray 53 (0, 0)) := setRow_heap w.drew B cur.toArray _ 53 _ hgB
  have hgv1 : (w.drew.setRow B cur1.toArray).heap[gv]? = some (.cells #[c0, c1] 53 (0, 0)) := (setRow_other w.drew B gv cur1.toArray hvB).trans hgv
  obtain ⟨W1, hW1⟩ : ∃ W1, W1 = w.drew.setRow B cur1.toArray := ⟨_, rfl⟩
  rw [← hW1] at hcp1 hgB1 hgv1
  obtain ⟨cur2, hcur2⟩ : ∃ cur2, cur2 = cur1.take (i * 2) ++ [c0, c1] ++ cur1.drop (i * 2 + [c0, c1].length) := ⟨_, rfl⟩
  have hl2 : cur2.length = cap * 2 := by rw [hcur2, length_splice2 _ _ _ (by rw [hl1]; simp; omega), hl1]
  have hcp2 : ∀ ty dc, (Builtin.copy_ #[40, 40] ty #[.slice (some ⟨B, i * 2, none⟩) (n + 1 - i) dc, .slice (some ⟨gv, 0, none⟩) 1 1]).run Try.prog W1 = .ok (goInt (Nat.min 1 (n + 1 - i))) (W1.setRow B cur2.toArray) := fun ty dc => by
    rw [hcur2]
    refine run_copy_seg W1 40 40 ty 53 B (i * 2) (n + 1 - i) dc 1 2 ⟨gv, 0, none⟩ 1 cur1 53 [c0, c1] Try.underlying40 hinf hgB1 (by rw [show Nat.min 1 (n + 1 - i) = 1 by show min _ _ = _; omega]; rfl) (fun j v hj => ?_) (by rw [hl1]; simp; omega) hv1
    rw [add_plain, blk_cell hgv1]
    simpa using hj
  have hL : InsL cur i xs.length c0 c1 cur2 := by
    intro t ht
    rw [← HNN.out] at ht
    have hm : i * 2 + [c0, c1].length = i * 2 + 2 := rfl
    rw [hcur2, getElem?_splice _ _ _ _ (by rw [hl1]; simp; omega), hm, hcur1]
    by_cases a1 : t < i * 2
    · rw [if_pos a1, if_pos a1, getElem?_splice _ _ _ _ (by omega), if_pos (by omega)]
    · rw [if_neg a1, if_neg a1]
      by_cases a2 : t < i * 2 + 2
      · rw [if_pos a2, if_pos a2]
      · rw [if_neg a2, if_neg a2, getElem?_splice _ _ _ _ (by omega), if_neg (by omega), if_pos (by omega), hcg _ (by omega), show i * 2 + (t - (i + 1) * 2) = t - 2 by omega]
  have HFIN := Aside0.mk (show Kd.N k53 53 (W1.setRow B cur2.toArray) base ok (.slice (some ⟨B, 0, none⟩) (n + 1) cap) (xs.take i ++ x :: xs.drop i) ∧ w.grownBy (W1.setRow B cur2.toArray) (some B) by
    have hk : ∀ k, k ≠ B → (W1.setRow B cur2.toArray).heap[k]? = w.heap[k]? := fun k hk => (setRow_other W1 B k _ hk).trans (by rw [hW1]; exact setRow_other w.drew B k _ hk)
    refine ⟨?_, ⟨by rw [hW1]; rfl, by rw [hW1]; rfl, by rw [hW1]; rfl, by rw [hW1]; simp [World.setRow], fun k _ hne => hk k (fun e => hne (by rw [e]))⟩⟩
    rw [HNN.out]
    exact ins_shut (by have := HNN.out; omega) hE hx hL (fun k hk2 _ => hk k hk2.2) (.inl rfl) hbB hokB (setRow_heap W1 B cur1.toArray _ 53 _ hgB1) (by have := HNN.out; omega) hcm hl2)
  have hne1 : ¬ ((i : Int) = (n : Int)) := by omega
  have hne2 : ¬ ((cap : Int) < (n : Int) + 1) := by omega
  have hq1 : (0 : Int) ≤ (i : Int) + 1 := by omega
  have hq2 : i ≤ n := by omega
  have hq3 : (i : Int) ≤ (n : Int) + 1 := by omega
  have hq4 : ¬ (cap = i + 1) := by omega
  have hq5 : ¬ (cap = i) := by omega
  have htn : ((i : Int) + 1).toNat = i + 1 := by omega
  clear cutF hL hcg hcone hone hE hx hN hcur1 hcur2 hcsd hcl2 hl1 hl2 hgB1 hgv1 hgv hgB hcs hcs' hbB hokB hv1 hW1
  go_enter Try.func51, Try.ntmps51
  go_wp2_with (simp only [hov])
  refine start_ (n := 9) (S := fun _ => True) (ds := []) #[false, false, false, false, false, false, false, false, false] (by kernel_rfl) rfl rfl trivial (fun hHeld => ?_)
  refine pure_ (i := 0) (N := some 69) (v := ?_) (a' := ?_) #[true, false, false, false, false, false, false, false, false] rfl rfl (by kernel_rfl) (fun _ _ _ h => h) (Or.inl ⟨by rfl, ?_⟩) ?_ ?_
  rotate_left
  · intro w'
    go_simp
    with_reducible rfl
  rotate_left
  · simp only [Act.put, List.setIfInBounds_toArray, List.set_cons_zero, List.set_cons_succ]
    rfl
  refine pure_ (i := 1) (N := some 70) (v := ?_) (a' := ?_) #[true, true, false, false, false, false, false, false, false] rfl rfl (by kernel_rfl) (fun _ _ _ h => h) (Or.inl ⟨by rfl, ?_⟩) ?_ ?_
  rotate_left
  · intro w'
    go_simp
    with_reducible rfl
  rotate_left
  · simp only [Act.put, List.setIfInBounds_toArray, List.set_cons_zero, List.set_cons_succ]
    rfl
  refine pure_ (i := 2) (N := some 71) (v := ?_) (a' := ?_) #[true, true, true, false, false, false, false, false, false] rfl rfl (by kernel_rfl) (fun _ _ _ h => h) (Or.inl ⟨by rfl, ?_⟩) ?_ ?_
  rotate_left
  · intro w'
    go_simp
    with_reducible rfl
  rotate_left
  · simp only [Act.put, List.setIfInBounds_toArray, List.set_cons_zero, List.set_cons_succ]
    rfl
  refine pure_ (i := 3) (N := some 72) (v := ?_) (a' := ?_) #[true, true, true, true, false, false, false, false, false] rfl rfl (by kernel_rfl) (fun _ _ _ h => h) (Or.inl ⟨by rfl, ?_⟩) ?_ ?_
  rotate_left
  · intro w'
    go_simp
    with_reducible rfl
  rotate_left
  · simp only [Act.put, List.setIfInBounds_toArray, List.set_cons_zero, List.set_cons_succ]
    rfl
  refine pure_ (i := 4) (N := some 73) (v := ?_) (a' := ?_) #[true, true, true, true, true, false, false, false, false] rfl rfl (by kernel_rfl) (fun _ _ _ h => h) (Or.inl ⟨by rfl, ?_⟩) ?_ ?_
  rotate_left
  · intro w'
    go_simp
    with_reducible rfl
  rotate_left
  · simp only [Act.put, List.setIfInBounds_toArray, List.set_cons_zero, List.set_cons_succ]
    rfl
  refine pure_ (i := 5) (N := some 74) (v := ?_) (a' := ?_) #[true, true, true, true, true, true, false, false, false] rfl rfl (by kernel_rfl) (fun _ _ _ h => h) (Or.inl ⟨by rfl, ?_⟩) ?_ ?_
  rotate_left
  · intro w'
    go_simp
    with_reducible rfl
  rotate_left
  · simp only [Act.put, List.setIfInBounds_toArray, List.set_cons_zero, List.set_cons_succ]
    rfl
  refine pure_ (i := 6) (N := some 75) (v := ?_) (a' := ?_) #[true, true, true, true, true, true, true, false, false] rfl rfl (by kernel_rfl) (fun _ _ _ h => h) (Or.inl ⟨by rfl, ?_⟩) ?_ ?_
  rotate_left
  · intro w'
    go_simp
    with_reducible rfl
  rotate_left
  · simp only [Act.put, List.setIfInBounds_toArray, List.set_cons_zero, List.set_cons_succ]
    rfl
  refine pure_ (i := 7) (N := some 76) (v := ?_) (a' := ?_) #[true, true, true, true, true, true, true, true, false] rfl rfl (by kernel_rfl) (fun _ _ _ h => h) (Or.inl ⟨by rfl, ?_⟩) ?_ ?_
  rotate_left
  · intro w'
    go_simp
    with_reducible rfl
  rotate_left
  · simp only [Act.put, List.setIfInBounds_toArray, List.set_cons_zero, List.set_cons_succ]
    rfl
  refine one_ (i := 8) (N := some 77) #[true, true, true, true, true, true, true, true, true] rfl rfl (by kernel_rfl) (by simp) (fun K hK => ?_)
  refine step_copy_runI rfl _ _ 40 40 rfl _ _ (by rfl) (by rfl) (hcp1 _ _ _) ?_
  refine hK.out _ _ trivial (fun hHeld => ?_)
  clear hK K hcp1
  refine done_ (by kernel_rfl) ?_
  go_wp2_with (at_builtin; refine wpList_copy_runI _ rfl _ _ 40 40 rfl _ _ rfl rfl (hcp2 _ _) ?_)
  go_ret
  exact ⟨_, rfl, HFIN.out.1, HFIN.out.2, .inl rfl⟩
set_option maxHeartbeats 4000000 in
set_option maxRecDepth 100000 in
theorem ins_grow (base : Nat) (ok : Nat → Prop) (B cap i gv : Nat) (c0 c1 : Value) (x : S53) (xs : List S53) (w : World) (hN : Kd.N k53 53 w base ok (.slice (some ⟨B, 0, none⟩) xs.length cap) xs) (hi : i < xs.length) (hcap : cap < xs.length + 1) (hbig : (xs.length + 1) * 48 ≤ 140737488355328) (hfresh : ∀ q, w.heap.size ≤ q → ok q) (hbase : base ≤ w.heap.size)
    (hgv : w.heap[gv]? = some (.cells #[c0, c1] 53 (0, 0))) (hvB : gv ≠ B) (h0 : c0.oneCell' = true) (h1 : c1.oneCell' = true) (hx : Kd.FK k53 w (fun k => ok k ∧ k ≠ B) x [c0, c1]) :
    Calls Try.prog 51 #[.slice (some ⟨B, 0, none⟩) xs.length cap, .int .i64 i, .slice (some ⟨gv, 0, none⟩) 1 1] w fun e w' => ∃ v', e = .returned v' ∧ Kd.N k53 53 w' base ok v' (xs.take i ++ x :: xs.drop i) ∧ w.grownBy w' (some B) ∧ (v'.ownBlock = some B ∨ ∃ b, v'.ownBlock = some b ∧ w.heap.size ≤ b) := by
  rcases N_open hN with ⟨hv, _⟩ | ⟨B', cap', cur, hv, hbB, hokB, hgB, hcl, hcm, hcs, hE⟩
  · cases hv
  injection hv with e1 _ e3
  injection e1 with e1
  injection e1 with e1
  subst e1 e3
  have hcs' : cur.length = cap * 2 := hcs
  have hcm' : cap ≤ 9223372036854775807 := hcm
  have hone := cur_one hcs' hcl hE
  obtain ⟨i0, hi0, hz0, hsz, hby⟩ := info_parts info53
  have hinf : (Try.prog.info? 53).map (·.size) = some 2 := by rw [hi0]; exact congrArg some hsz
  obtain ⟨n, hn⟩ : ∃ n, n = xs.length := ⟨_, rfl⟩
  rw [← hn] at hi hcap hbig hcl hN ⊢
  have HNN := Aside0.mk hn
  clear hn
  obtain ⟨cs, hcsd⟩ : ∃ cs, cs = (cur.drop (i * 2)).take ((n - i) * 2) := ⟨_, rfl⟩
  have hcl2 : cs.length = (n - i) * 2 := by rw [hcsd, List.length_take, List.length_drop]; omega
  have hcg : ∀ t, t < (n - i) * 2 → cs[t]? = cur[i * 2 + t]? := by intro t ht; rw [hcsd, List.getElem?_take_of_lt ht, List.getElem?_drop]
  have hcone : ∀ v ∈ cs, v.oneCell' = true := by
    intro v hv
    obtain ⟨t, ht⟩ := List.mem_iff_getElem?.1 hv
    have htl : t < (n - i) * 2 := by have := (List.getElem?_eq_some_iff.1 ht).1; omega
    rw [hcg t htl] at ht
    exact hone _ _ (by have := HNN.out; omega) ht
  have hw1 : IntKind.i64.wrap ((i : Int) + 1) = (i : Int) + 1 := by rw [IntKind.wrap_i64]; omega
  have hw2 : IntKind.i64.wrap ((n : Int) + 1) = (n : Int) + 1 := by rw [IntKind.wrap_i64]; omega
  have hv1 : ∀ v ∈ [c0, c1], v.oneCell' = true := by intro v hv; simp at hv; rcases hv with rfl | rfl <;> assumption
  have cutF : ∀ (len lo : Nat), lo ≤ len → lo < cap → ∀ W : World, (Instr.slice 40 (.slice (some ⟨B, 0, none⟩) len cap) (some (.int .i64 (lo : Int))) none none).run Try.prog W = .ok (.slice (some ⟨B, lo * 2, none⟩) (len - lo) (cap - lo)) W := by
    intro len lo h2 h3 W
    rw [cut_from (P := Try.prog) 40 53 .i64 Try.underlying40 hi0 2 hsz (some ⟨B, 0, none⟩) len cap (lo : Int) (by omega) (by omega) W, Int.toNat_natCast, if_neg (by omega)]
    simp [add_plain]
  have hk1 := cutF n i (by omega) (by omega)
  have hk2 : ∀ W : World, (Instr.slice 40 (.slice (some ⟨B, 0, none⟩) n cap) none (some (.int .i64 (i : Int))) none).run Try.prog W = .ok (.slice (some ⟨B, 0, none⟩) i cap) W := fun W => (cut_to (P := Try.prog) 40 53 .i64 Try.underlying40 hi0 (some ⟨B, 0, none⟩) n cap (i : Int) (by omega) (by omega) (by omega) W).trans (by rw [Int.toNat_natCast])
  have hgBs := blk_lt hgB
  have hold : (Builtin.firstCells i0.size i (.slice (some ⟨B, 0, none⟩) i cap)).run Try.prog w.drew = .ok (cur.take (i * 2)).toArray w.drew := by
    rw [hsz]
    refine run_firstCells_some w.drew 2 i ⟨B, 0, none⟩ i cap (cur.take (i * 2)) (by rw [List.length_take]; omega) (fun j v hj => ?_)
    have hjl : j < i * 2 := by have := (List.getElem?_eq_some_iff.1 hj).1; rw [List.length_take] at this; omega
    rw [add_plain]
    show w.cell? _ = _
    rw [blk_cell hgB]
    rw [List.getElem?_take_of_lt hjl] at hj
    simpa using hj
  obtain ⟨G, hG⟩ : ∃ G, G = grownCap w (n + 1) cap 53 := ⟨_, rfl⟩
  have hGn : n + 1 ≤ G := by rw [hG]; exact grownCap_ge w _ _ _
  have hGm : G ≤ maxLen := by rw [hG]; exact grownCap_le_maxLen w (n + 1) cap 53 (by unfold maxLen; omega)
  have hGm' : G ≤ 9223372036854775807 := hGm
  obtain ⟨row, hrow⟩ : ∃ row : List Value, row = cur.take (i * 2) ++ ((Builtin.zeroCells (Value.agg #[(.slice none 0 0), (.slice none 0 0)]).cells (n + 1 - i)).toList ++ (Builtin.zeroCells (Value.agg #[(.slice none 0 0), (.slice none 0 0)]).cells (G - (n + 1))).toList) := ⟨_, rfl⟩
  have hrl : row.length = G * 2 := by
    rw [hrow]
    simp only [List.length_append, List.length_take, Array.length_toList, size_zeroCells]
    show min (i * 2) cur.length + ((n + 1 - i) * 2 + (G - (n + 1)) * 2) = _
    omega
  have hkk : (n : Int) + 1 - (i : Int) = ((n + 1 - i : Nat) : Int) := by omega
  have hrz : ∀ ty, (Builtin.append_ #[40, 3] ty #[.slice (some ⟨B, 0, none⟩) i cap, .int .i64 ((n : Int) + 1 - (i : Int))]).run Try.prog w = .ok (.slice (some ⟨w.heap.size, 0, none⟩) (n + 1) G) (w.drew.alloc (.cells row.toArray 53 (0, 0))) := fun ty => by
    have hik : i + (n + 1 - i) = n + 1 := by omega
    have h := Lib.run_append_grow_zeros w 40 3 ty 53 i0 _ .i64 .i64 Try.underlying40 Try.underlying3 hi0 hz0 (some ⟨B, 0, none⟩) i cap (cur.take (i * 2)) hold (n + 1 - i) (by omega) (by omega) (by omega) (by omega) (by rw [hby]; omega) (by rw [hby, hik]; exact growslice_fits (by omega) hbig)
    rw [hik, ← hG] at h
    rw [hkk, hrow]
    refine h.trans ?_
    congr 4
    simp
  obtain ⟨W1, hW1⟩ : ∃ W1, W1 = w.drew.alloc (.cells row.toArray 53 (0, 0)) := ⟨_, rfl⟩
  obtain ⟨g, hg⟩ : ∃ g, g = w.heap.size := ⟨_, rfl⟩
  have hg1 : W1.heap[g]? = some (.cells row.toArray 53 (0, 0)) := by rw [hW1, hg]; exact heap_alloc_new w.drew _
  have hk1w : ∀ k, k < w.heap.size → W1.heap[k]? = w.heap[k]? := by intro k hk; rw [hW1]; exact Below.heap_alloc w.drew _ _ hk
  have hsz1 : w.heap.size ≤ W1.heap.size := by rw [hW1, World.size_alloc]; exact Nat.le_succ _
  have hgvl := blk_lt hgv
  rw [← hW1, ← hg] at hrz
  obtain ⟨r1, hr1⟩ : ∃ r1, r1 = row.take (i * 2) ++ [c0, c1] ++ row.drop (i * 2 + [c0, c1].length) := ⟨_, rfl⟩
  have hl1 : r1.length = G * 2 := by rw [hr1, length_splice2 _ _ _ (by rw [hrl]; simp; omega), hrl]
  have hcpA : ∀ ty dc, (Builtin.copy_ #[40, 40] ty #[.slice (some ⟨g, i * 2, none⟩) (n + 1 - i) dc, .slice (some ⟨gv, 0, none⟩) 1 1]).run Try.prog W1 = .ok (goInt (Nat.min 1 (n + 1 - i))) (W1.setRow g r1.toArray) := fun ty dc => by
    rw [hr1]
    refine run_copy_seg W1 40 40 ty 53 g (i * 2) (n + 1 - i) dc 1 2 ⟨gv, 0, none⟩ 1 row 53 [c0, c1] Try.underlying40 hinf hg1 (by rw [show Nat.min 1 (n + 1 - i) = 1 by show min _ _ = _; omega]; rfl) (fun j v hj => ?_) (by rw [hrl]; simp; omega) hv1
    rw [add_plain, blk_cell ((hk1w gv hgvl).trans hgv)]
    simpa using hj
  obtain ⟨W2, hW2⟩ : ∃ W2, W2 = (W1.setRow g r1.toArray).drew := ⟨_, rfl⟩
  have hg2 : W2.heap[g]? = some (.cells r1.toArray 53 (0, 0)) := by rw [hW2]; exact setRow_heap W1 g row.toArray _ 53 _ hg1
  have hB2 : W2.heap[B]? = some (.cells cur.toArray 53 (0, 0)) := by rw [hW2]; exact (setRow_other W1 g B _ (by omega)).trans ((hk1w B hgBs).trans hgB)
  obtain ⟨r2, hr2⟩ : ∃ r2, r2 = r1.take ((i + 1) * 2) ++ cs ++ r1.drop ((i + 1) * 2 + cs.length) := ⟨_, rfl⟩
  have hl2 : r2.length = G * 2 := by rw [hr2, length_splice2 _ _ _ (by omega), hl1]
  have hcpB : ∀ ty dc sc, (Builtin.copy_ #[40, 40] ty #[.slice (some ⟨g, (i + 1) * 2, none⟩) (n - i) dc, .slice (some ⟨B, i * 2, none⟩) (n - i) sc]).run Try.prog W2 = .ok (goInt (Nat.min (n - i) (n - i))) (W2.setRow g r2.toArray) := fun ty dc sc => by
    rw [hr2]
    refine run_copy_seg W2 40 40 ty 53 g ((i + 1) * 2) (n - i) dc (n - i) 2 ⟨B, i * 2, none⟩ sc r1 53 cs Try.underlying40 hinf hg2 (by rw [hcl2, show Nat.min (n - i) (n - i) = n - i by show min _ _ = _; omega]) (fun j v hj => ?_) (by omega) hcone
    have hjl : j < (n - i) * 2 := by have := (List.getElem?_eq_some_iff.1 hj).1; omega
    rw [Addr.add_lit, blk_cell hB2]
    simpa [hcg j hjl] using hj
  have hL : InsL cur i xs.length c0 c1 r2 := by
    intro t ht
    rw [← HNN.out] at ht
    have hm : i * 2 + [c0, c1].length = i * 2 + 2 := rfl
    rw [hr2, getElem?_splice _ _ _ _ (by omega), hr1]
    by_cases a1 : t < i * 2
    · rw [if_pos (by omega), if_pos a1, getElem?_splice _ _ _ _ (by rw [hrl]; simp; omega), if_pos a1, hrow, List.getElem?_append_left (by rw [List.length_take]; omega), List.getElem?_take_of_lt a1]
    · rw [if_neg a1]
      by_cases a2 : t < i * 2 + 2
      · rw [if_pos (by omega), if_pos a2, getElem?_splice _ _ _ _ (by rw [hrl]; simp; omega), if_neg a1, hm, if_pos a2]
      · rw [if_neg (by omega), if_pos (by omega), if_neg a2, hcg _ (by omega), show i * 2 + (t - (i + 1) * 2) = t - 2 by omega]
  have HFIN := Aside0.mk (show Kd.N k53 53 (W2.setRow g r2.toArray) base ok (.slice (some ⟨g, 0, none⟩) (n + 1) G) (xs.take i ++ x :: xs.drop i) ∧ w.grownBy (W2.setRow g r2.toArray) (some B) by
    have hk : ∀ k, k < w.heap.size → (W2.setRow g r2.toArray).heap[k]? = w.heap[k]? := fun k hk => (setRow_other W2 g k _ (by omega)).trans (by rw [hW2]; exact (setRow_other W1 g k _ (by omega)).trans (hk1w k hk))
    refine ⟨?_, ⟨by rw [hW2, hW1]; rfl, by rw [hW2, hW1]; rfl, by rw [hW2, hW1]; rfl, by rw [hW2]; simpa [World.setRow] using hsz1, fun k hlt _ => hk k hlt⟩⟩
    rw [HNN.out]
    exact ins_shut (by have := HNN.out; omega) hE hx hL (fun k _ hlt => hk k hlt) (.inr hg) (by omega) (hfresh g (by omega)) (setRow_heap W2 g r1.toArray _ 53 _ hg2) (by have := HNN.out; omega) hGm hl2)
  have hg2' : ∀ (lo : Nat), lo ≤ n + 1 → lo < G → ∀ W : World, (Instr.slice 40 (.slice (some ⟨g, 0, none⟩) (n + 1) G) (some (.int .i64 (lo : Int))) none none).run Try.prog W = .ok (.slice (some ⟨g, lo * 2, none⟩) (n + 1 - lo) (G - lo)) W := by
    intro lo h2 h3 W
    rw [cut_from (P := Try.prog) 40 53 .i64 Try.underlying40 hi0 2 hsz (some ⟨g, 0, none⟩) (n + 1) G (lo : Int) (by omega) (by omega) W, Int.toNat_natCast, if_neg (by omega)]
    simp [add_plain]
  have hk3 := hg2' i (by omega) (by omega)
  have hk4 : ∀ W : World, (Instr.slice 40 (.slice (some ⟨g, 0, none⟩) (n + 1) G) (some (.int .i64 ((i : Int) + 1))) none none).run Try.prog W = .ok (.slice (some ⟨g, (i + 1) * 2, none⟩) (n - i) (G - (i + 1))) W := fun W => (hg2' (i + 1) (by omega) (by omega) W).trans (by rw [Nat.add_sub_add_right])
  have hne1 : ¬ ((i : Int) = (n : Int)) := by omega
  have hne2 : ((cap : Int) < (n : Int) + 1) := by omega
  have hw3 : wrap64 ((n : Int) + 1 - (i : Int)) = (n : Int) + 1 - (i : Int) := by unfold wrap64; omega
  have hq1 : (0 : Int) ≤ (i : Int) + 1 := by omega
  have hq2 : i ≤ n := by omega
  have hq3 : (i : Int) ≤ (n : Int) + 1 := by omega
  have hq4 : ¬ (G = i + 1) := by omega
  have hq5 : ¬ (G = i) := by omega
  have hq6 : ¬ (cap = i) := by omega
  have hq7 : (i : Int) ≤ (n : Int) := by omega
  have htn : ((i : Int) + 1).toNat = i + 1 := by omega
  clear cutF hg2' hL hcg hcone hone hE hx hN hr1 hr2 hrow hrl hcsd hcl2 hl1 hl2 hg1 hg2 hB2 hgv hgB hcs hcs' hbB hokB hv1 hold hkk hk1w hsz1 hgvl hgBs hG hbig hfresh hbase hGn hGm hGm'
  have HW2 := Aside0.mk hW2
  clear hW2
  go_enter Try.func51, Try.ntmps51
  go_wp2_with ((with_reducible refine gate_dst (N := 40) rfl ?_); (suffices hsuf : Aside0 _ from hsuf.out))
  refine ⟨?_⟩
  refine Lib.wpList_append_run _ rfl _ _ _ _ rfl (.slice (some ⟨B, 0, none⟩) i cap) (.int .i64 ((n : Int) + 1 - (i : Int))) rfl rfl _ _ (hrz _) ?_
  clear hrz
  have HW1 := Aside0.mk hW1
  have HGW := Aside0.mk hg
  clear hW1 hg
  go_wp2_with ((with_reducible refine gate_dst (N := 45) rfl ?_); (suffices hsuf : Aside0 _ from hsuf.out))
  refine ⟨?_⟩
  refine wpList_copy_runI _ rfl _ _ 40 40 rfl (.slice (some ⟨g, i * 2, none⟩) (n + 1 - i) (G - i)) (.slice (some ⟨gv, 0, none⟩) 1 1) rfl rfl (hcpA _ _) ?_
  clear hcpA
  go_wp2_with (fail)
  refine start_ (n := 9) (S := fun _ => True) (ds := []) #[false, false, false, false, false, false, false, false, false] (by kernel_rfl) rfl rfl trivial (fun hHeld => ?_)
  rw [← HW2.out]
  refine pure_ (i := 0) (N := some 46) (v := ?_) (a' := ?_) #[true, false, false, false, false, false, false, false, false] rfl rfl (by kernel_rfl) (fun _ _ _ h => h) (Or.inl ⟨by rfl, ?_⟩) ?_ ?_
  rotate_left
  · intro w'
    go_simp
    with_reducible rfl
  rotate_left
  · simp only [Act.put, List.setIfInBounds_toArray, List.set_cons_zero, List.set_cons_succ]
    rfl
  refine pure_ (i := 1) (N := some 47) (v := ?_) (a' := ?_) #[true, true, false, false, false, false, false, false, false] rfl rfl (by kernel_rfl) (fun _ _ _ h => h) (Or.inl ⟨by rfl, ?_⟩) ?_ ?_
  rotate_left
  · intro w'
    go_simp
    with_reducible rfl
  rotate_left
  · simp only [Act.put, List.setIfInBounds_toArray, List.set_cons_zero, List.set_cons_succ]
    rfl
  refine pure_ (i := 2) (N := some 48) (v := ?_) (a' := ?_) #[true, true, true, false, false, false, false, false, false] rfl rfl (by kernel_rfl) (fun _ _ _ h => h) (Or.inl ⟨by rfl, ?_⟩) ?_ ?_
  rotate_left
  · intro w'
    go_simp
    with_reducible rfl
  rotate_left
  · simp only [Act.put, List.setIfInBounds_toArray, List.set_cons_zero, List.set_cons_succ]
    rfl
  refine pure_ (i := 3) (N := some 49) (v := ?_) (a' := ?_) #[true, true, true, true, false, false, false, false, false] rfl rfl (by kernel_rfl) (fun _ _ _ h => h) (Or.inl ⟨by rfl, ?_⟩) ?_ ?_
  rotate_left
  · intro w'
    go_simp
    with_reducible rfl
  rotate_left
  · simp only [Act.put, List.setIfInBounds_toArray, List.set_cons_zero, List.set_cons_succ]
    rfl
  refine pure_ (i := 4) (N := some 50) (v := ?_) (a' := ?_) #[true, true, true, true, true, false, false, false, false] rfl rfl (by kernel_rfl) (fun _ _ _ h => h) (Or.inl ⟨by rfl, ?_⟩) ?_ ?_
  rotate_left
  · intro w'
    go_simp
    with_reducible rfl
  rotate_left
  · simp only [Act.put, List.setIfInBounds_toArray, List.set_cons_zero, List.set_cons_succ]
    rfl
  refine pure_ (i := 5) (N := some 51) (v := ?_) (a' := ?_) #[true, true, true, true, true, true, false, false, false] rfl rfl (by kernel_rfl) (fun _ _ _ h => h) (Or.inl ⟨by rfl, ?_⟩) ?_ ?_
  rotate_left
  · intro w'
    go_simp
    with_reducible rfl
  rotate_left
  · simp only [Act.put, List.setIfInBounds_toArray, List.set_cons_zero, List.set_cons_succ]
    rfl
  refine pure_ (i := 6) (N := some 52) (v := ?_) (a' := ?_) #[true, true, true, true, true, true, true, false, false] rfl rfl (by kernel_rfl) (fun _ _ _ h => h) (Or.inl ⟨by rfl, ?_⟩) ?_ ?_
  rotate_left
  · intro w'
    go_simp
    with_reducible rfl
  rotate_left
  · simp only [Act.put, List.setIfInBounds_toArray, List.set_cons_zero, List.set_cons_succ]
    rfl
  refine pure_ (i := 7) (N := some 53) (v := ?_) (a' := ?_) #[true, true, true, true, true, true, true, true, false] rfl rfl (by kernel_rfl) (fun _ _ _ h => h) (Or.inl ⟨by rfl, ?_⟩) ?_ ?_
  rotate_left
  · intro w'
    go_simp
    with_reducible rfl
  rotate_left
  · simp only [Act.put, List.setIfInBounds_toArray, List.set_cons_zero, List.set_cons_succ]
    rfl
  refine one_ (i := 8) (N := some 54) #[true, true, true, true, true, true, true, true, true] rfl rfl (by kernel_rfl) (by simp) (fun K hK => ?_)
  refine step_copy_runI rfl _ _ 40 40 rfl _ _ (by rfl) (by rfl) (hcpB _ _ _) ?_
  refine hK.out _ _ trivial (fun hHeld => ?_)
  clear hK K hcpB
  refine done_ (by kernel_rfl) ?_
  go_wp2
  go_ret
  exact ⟨_, rfl, HFIN.out.1, HFIN.out.2, .inr ⟨_, rfl, Nat.le_of_eq HGW.out.symm⟩⟩
set_option maxHeartbeats 2000000 in
set_option maxRecDepth 100000 in
theorem ins_end (base : Nat) (ok : Nat → Prop) (A : Option Addr) (cap gv : Nat) (c0 c1 : Value) (x : S53) (xs : List S53) (w : World) (hN : Kd.N k53 53 w base ok (.slice A xs.length cap) xs) (hcap : xs.length ≤ cap) (hcm : cap ≤ maxLen) (hbig : (xs.length + 1) * 48 ≤ 140737488355328)
    (hfresh : ∀ q, w.heap.size ≤ q → ok q) (hbase : base ≤ w.heap.size) (hgv : w.heap[gv]? = some (.cells #[c0, c1] 53 (0, 0))) (hokv : ok gv ∧ some gv ≠ (Value.slice A xs.length cap).ownBlock) (hx : Kd.FK k53 w (fun k => ok k ∧ some k ≠ (Value.slice A xs.length cap).ownBlock) x [c0, c1]) :
    Calls Try.prog 51 #[.slice A xs.length cap, .int .i64 (xs.length : Int), .slice (some ⟨gv, 0, none⟩) 1 1] w fun e w' => ∃ v', e = .returned v' ∧ Kd.N k53 53 w' base ok v' (xs ++ [x]) ∧ w.grownBy w' (Value.slice A xs.length cap).ownBlock ∧ (v'.ownBlock = (Value.slice A xs.length cap).ownBlock ∨ ∃ b, v'.ownBlock = some b ∧ w.heap.size ≤ b) := by
  obtain ⟨i0, hi0, hz0, hsz, hby⟩ := info_parts info53
  obtain ⟨A', hk1⟩ : ∃ A', ∀ W : World, (Instr.slice 40 (.slice A xs.length cap) (some (.int .i64 (xs.length : Int))) none none).run Try.prog W = .ok (.slice A' 0 (cap - xs.length)) W := ⟨_, fun W => by
    rw [cut_from (P := Try.prog) 40 53 .i64 Try.underlying40 hi0 2 hsz A xs.length cap (xs.length : Int) (by omega) (by omega) W, Int.toNat_natCast, Nat.sub_self]⟩
  have HF := Aside0.mk (show Kd.F k53 w (fun k => k = gv ∨ (ok k ∧ some k ≠ (Value.slice A xs.length cap).ownBlock)) (some ⟨gv, 0, none⟩) 1 [x] from fun W' hW => C_of_block (cur := [c0, c1]) (l := [x]) (by simp) ((hW gv (.inl rfl) (blk_lt hgv)).trans hgv) (by show 1 * 2 ≤ 2; omega) (fun j p hj => by
    match j, hj with
    | 0, hj =>
      simp only [List.getElem?_cons_zero, Option.some.injEq] at hj
      subst hj
      exact hx W' (fun k hk hlt => hW k (.inr hk) hlt)
    | j + 1, hj => simp at hj))
  have HN := Aside0.mk hN
  have HOV := Aside0.mk hokv
  obtain ⟨n, hn⟩ : ∃ n, n = xs.length := ⟨_, rfl⟩
  have HNN := Aside0.mk hn
  rw [← hn] at hk1 HF HN HOV ⊢
  rw [← hn] at hbig hcap
  clear hn hN hx hokv hgv
  go_enter Try.func51, Try.ntmps51
  go_wp2_with ((with_reducible refine gate_dst (N := 25) rfl ?_); (suffices hsuf : Aside0 _ from hsuf.out))
  refine ⟨?_⟩
  refine Kd.N_append_rows k53 (w0 := w) base rfl _ _ 40 53 (.agg #[(.slice none 0 0), (.slice none 0 0)]) 48 rfl Try.underlying40 info53 rfl (by decide) (by decide) (.slice A n cap) xs [x] (some ⟨gv, 0, none⟩) 1 1 ok _ rfl rfl HN.out HF.out (fun k hk => hk.elim (fun e => by rw [e]; exact HOV.out) (fun h => h)) hfresh (Below.refl _ _) hbase (by have := HNN.out; omega) ?_
  intro v1 w1 hN1 _ hg1 hat1
  have HN1 := Aside0.mk hN1
  have HG1 := Aside0.mk hg1
  have HA1 := Aside0.mk hat1
  clear hN1 hg1 hat1
  go_wp2
  go_ret
  exact ⟨_, rfl, HN1.out, HG1.out, HA1.out⟩
theorem ins_Pair (base : Nat) (ok : Nat → Prop) (v0 : Value) (i gv : Nat) (c0 c1 : Value) (x : S53) (xs : List S53) (w : World) (hN : Kd.N k53 53 w base ok v0 xs) (hi : i ≤ xs.length) (hbig : (xs.length + 1) * 48 ≤ 140737488355328)
    (hfresh : ∀ q, w.heap.size ≤ q → ok q) (hbase : base ≤ w.heap.size) (hgv : w.heap[gv]? = some (.cells #[c0, c1] 53 (0, 0))) (h0 : c0.oneCell' = true) (h1 : c1.oneCell' = true) (hokv : ok gv ∧ some gv ≠ v0.ownBlock) (hx : Kd.FK k53 w (fun k => ok k ∧ some k ≠ v0.ownBlock) x [c0, c1]) :
    Calls Try.prog 51 #[v0, .int .i64 (i : Int), .slice (some ⟨gv, 0, none⟩) 1 1] w fun e w' => ∃ v', e = .returned v' ∧ Kd.N k53 53 w' base ok v' (xs.take i ++ x :: xs.drop i) ∧ w.grownBy w' v0.ownBlock ∧ (v'.ownBlock = v0.ownBlock ∨ ∃ b, v'.ownBlock = some b ∧ w.heap.size ≤ b) := by
  by_cases hie : i = xs.length
  · subst hie
    rw [List.take_of_length_le (Nat.le_refl _), List.drop_of_length_le (Nat.le_refl _)]
    rcases N_open hN with ⟨rfl, rfl⟩ | ⟨B, cap, cur, rfl, _, _, _, hcl, hcm, _, _⟩
    · exact ins_end base ok none 0 gv c0 c1 x [] w hN (Nat.le_refl _) (by unfold maxLen; omega) hbig hfresh hbase hgv hokv hx
    · exact ins_end base ok _ cap gv c0 c1 x xs w hN hcl hcm hbig hfresh hbase hgv hokv hx
  · rcases N_open hN with ⟨rfl, rfl⟩ | ⟨B, cap, cur, rfl, _, _, _, hcl, hcm, _, _⟩
    · exact absurd (Nat.le_zero.1 hi) hie
    · have hx' : Kd.FK k53 w (fun k => ok k ∧ k ≠ B) x [c0, c1] := Kd.FK_mono hx (fun k hk => ⟨hk.1, fun e => hk.2 (by rw [e]; rfl)⟩)
      have hvB : gv ≠ B := fun e => hokv.2 (by rw [e]; rfl)
      by_cases hc : xs.length + 1 ≤ cap
      · exact ins_room base ok B cap i gv c0 c1 x xs w hN (by omega) hc hgv hvB h0 h1 hx'
      · exact ins_grow base ok B cap i gv c0 c1 x xs w hN (by omega) (by omega) hbig hfresh hbase hgv hvB h0 h1 hx' 
end Go.Proofs.Ytbjeaalbdaedpaa.P
namespace Go.Proofs.Ytbjeaalbdaedpaa.P
open Go.RowKit Go.Proofs.YtbjeaalbdaedpaaW.PrintWords Go.Proofs.YtbjeaalbdaedpaaW.PrintLast Go.Proofs.YtbjeaalbdaedpaaW.PrintMore
attribute [local go_sem] max2_int min2_int max_two min_two max_three min_three max_four min_four
set_option linter.unusedVariables false
set_option linter.unusedSimpArgs false
def cmp_isNaN_int.f (a0 : Int) : Option (Bool) := some (a0 != a0)
set_option maxHeartbeats 8000000 in
set_option maxRecDepth 100000 in
theorem cmp_isNaN_int.calls (a0 : Int) (r : Bool) (w : World) (h : cmp_isNaN_int.f a0 = some r) :
    Calls Try.prog 66 #[.int .i64 a0] w fun e w' => e = .returned (.bool r) ∧ Drawn0 w w' := by
  have H : (some (a0 != a0)) = some r := h
  clear h
  obtain rfl := Option.some.inj H
  go_enter Try.func66, Try.ntmps66
  go_wp2
  go_ret
  exact ⟨by first | rfl | (simp; done) | (simp [*]; done), by repeat (first | exact Drawn0.refl _ | apply Drawn0.step)⟩
end Go.Proofs.Ytbjeaalbdaedpaa.P
namespace Go.Proofs.Ytbjeaalbdaedpaa.P
open Go.RowKit Go.Proofs.YtbjeaalbdaedpaaW.PrintWords Go.Proofs.YtbjeaalbdaedpaaW.PrintLast Go.Proofs.YtbjeaalbdaedpaaW.PrintMore
attribute [local go_sem] max2_int min2_int max_two min_two max_three min_three max_four min_four
set_option linter.unusedVariables false
set_option linter.unusedSimpArgs false
def cmp_Compare_int.f (a0 : Int) (a1 : Int) : Option (Int) := (cmp_isNaN_int.f a0).bind fun t101 => ((cmp_isNaN_int.f a1).bind fun t102 => (if t101 = true then (if t102 = true then (some 0) else (some (-1))) else (if t102 = true then (some 1) else (if a0 < a1 then (some (-1)) else (if a0 > a1 then (some 1) else (some 0))))))
set_option maxHeartbeats 8000000 in
set_option maxRecDepth 100000 in
theorem cmp_Compare_int.calls (a0 : Int) (a1 : Int) (r : Int) (w : World) (h : cmp_Compare_int.f a0 a1 = some r) :
    Calls Try.prog 61 #[.int .i64 a0, .int .i64 a1] w fun e w' => e = .returned (.int .i64 r) ∧ Drawn0 w w' := by
  have H : ((cmp_isNaN_int.f a0).bind fun t101 => ((cmp_isNaN_int.f a1).bind fun t102 => (if t101 = true then (if t102 = true then (some 0) else (some (-1))) else (if t102 = true then (some 1) else (if a0 < a1 then (some (-1)) else (if a0 > a1 then (some 1) else (some 0))))))) = some r := h
  clear h
  replace H := Option.bind_eq_some_iff.mp H
  obtain ⟨t101, A30, H⟩ := H
  replace H : ((cmp_isNaN_int.f a1).bind fun t102 => (if t101 = true then (if t102 = true then (some 0) else (some (-1))) else (if t102 = true then (some 1) else (if a0 < a1 then (some (-1)) else (if a0 > a1 then (some 1) else (some 0)))))) = some r := H
  have A3 := Aside0.mk A30
  clear A30
  replace H := Option.bind_eq_some_iff.mp H
  obtain ⟨t102, A40, H⟩ := H
  replace H : (if t101 = true then (if t102 = true then (some 0) else (some (-1))) else (if t102 = true then (some 1) else (if a0 < a1 then (some (-1)) else (if a0 > a1 then (some 1) else (some 0))))) = some r := H
  have A4 := Aside0.mk A40
  clear A40
  by_cases c5 : t101 = true
  · subst c5
    have H1 : (if t102 = true then (some 0) else (some (-1))) = some r := by rw [if_pos rfl] at H; exact H
    clear H
    have H := H1
    clear H1
    by_cases c6 : t102 = true
    · subst c6
      have H1 : (some 0) = some r := by rw [if_pos rfl] at H; exact H
      clear H
      have H := H1
      clear H1
      obtain rfl := Option.some.inj H
      go_enter Try.func61, Try.ntmps61
      go_wp2_with (first | ((with_reducible refine gate_callee (f := 66) rfl ?_); refine goesL_ (some 8) rfl rfl Try.func66 (by kernel_rfl) rfl #[.int .i64 a0] rfl (by (try simp only [List.map_toArray, List.map_cons, List.map_nil]); first | done | rfl | (simp only [List.length_drop, List.length_take]; rfl)) ?_; (with_reducible refine (cmp_isNaN_int.calls a0 true _ A3.out).mono ?_); rintro e w' ⟨rfl, ⟨nd, rfl⟩⟩; refine ⟨_, rfl, ?_⟩) | ((with_reducible refine gate_callee (f := 66) rfl ?_); refine goesL_ (some 10) rfl rfl Try.func66 (by kernel_rfl) rfl #[.int .i64 a1] rfl (by (try simp only [List.map_toArray, List.map_cons, List.map_nil]); first | done | rfl | (simp only [List.length_drop, List.length_take]; rfl)) ?_; (with_reducible refine (cmp_isNaN_int.calls a1 true _ A4.out).mono ?_); rintro e w' ⟨rfl, ⟨nd, rfl⟩⟩; refine ⟨_, rfl, ?_⟩))
      go_ret
      exact ⟨by first | rfl | (simp; done) | (simp [*]; done), by repeat (first | exact Drawn0.refl _ | apply Drawn0.step)⟩
    · replace c6 := Bool.eq_false_iff.mpr c6
      subst c6
      have H1 : (some (-1)) = some r := by rw [if_neg (show ¬ (false = true) by decide)] at H; exact H
      clear H
      have H := H1
      clear H1
      obtain rfl := Option.some.inj H
      go_enter Try.func61, Try.ntmps61
      go_wp2_with (first | ((with_reducible refine gate_callee (f := 66) rfl ?_); refine goesL_ (some 8) rfl rfl Try.func66 (by kernel_rfl) rfl #[.int .i64 a0] rfl (by (try simp only [List.map_toArray, List.map_cons, List.map_nil]); first | done | rfl | (simp only [List.length_drop, List.length_take]; rfl)) ?_; (with_reducible refine (cmp_isNaN_int.calls a0 true _ A3.out).mono ?_); rintro e w' ⟨rfl, ⟨nd, rfl⟩⟩; refine ⟨_, rfl, ?_⟩) | ((with_reducible refine gate_callee (f := 66) rfl ?_); refine goesL_ (some 10) rfl rfl Try.func66 (by kernel_rfl) rfl #[.int .i64 a1] rfl (by (try simp only [List.map_toArray, List.map_cons, List.map_nil]); first | done | rfl | (simp only [List.length_drop, List.length_take]; rfl)) ?_; (with_reducible refine (cmp_isNaN_int.calls a1 false _ A4.out).mono ?_); rintro e w' ⟨rfl, ⟨nd, rfl⟩⟩; refine ⟨_, rfl, ?_⟩))
      go_ret
      exact ⟨by first | rfl | (simp; done) | (simp [*]; done), by repeat (first | exact Drawn0.refl _ | apply Drawn0.step)⟩
  · replace c5 := Bool.eq_false_iff.mpr c5
    subst c5
    have H1 : (if t102 = true then (some 1) else (if a0 < a1 then (some (-1)) else (if a0 > a1 then (some 1) else (some 0)))) = some r := by rw [if_neg (show ¬ (false = true) by decide)] at H; exact H
    clear H
    have H := H1
    clear H1
    by_cases c7 : t102 = true
    · subst c7
      have H1 : (some 1) = some r := by rw [if_pos rfl] at H; exact H
      clear H
      have H := H1
      clear H1
      obtain rfl := Option.some.inj H
      go_enter Try.func61, Try.ntmps61
      go_wp2_with (first | ((with_reducible refine gate_callee (f := 66) rfl ?_); refine goesL_ (some 8) rfl rfl Try.func66 (by kernel_rfl) rfl #[.int .i64 a0] rfl (by (try simp only [List.map_toArray, List.map_cons, List.map_nil]); first | done | rfl | (simp only [List.length_drop, List.length_take]; rfl)) ?_; (with_reducible refine (cmp_isNaN_int.calls a0 false _ A3.out).mono ?_); rintro e w' ⟨rfl, ⟨nd, rfl⟩⟩; refine ⟨_, rfl, ?_⟩) | ((with_reducible refine gate_callee (f := 66) rfl ?_); refine goesL_ (some 10) rfl rfl Try.func66 (by kernel_rfl) rfl #[.int .i64 a1] rfl (by (try simp only [List.map_toArray, List.map_cons, List.map_nil]); first | done | rfl | (simp only [List.length_drop, List.length_take]; rfl)) ?_; (with_reducible refine (cmp_isNaN_int.calls a1 true _ A4.out).mono ?_); rintro e w' ⟨rfl, ⟨nd, rfl⟩⟩; refine ⟨_, rfl, ?_⟩))
      go_ret
      exact ⟨by first | rfl | (simp; done) | (simp [*]; done), by repeat (first | exact Drawn0.refl _ | apply Drawn0.step)⟩
    · replace c7 := Bool.eq_false_iff.mpr c7
      subst c7
      have H1 : (if a0 < a1 then (some (-1)) else (if a0 > a1 then (some 1) else (some 0))) = some r := by rw [if_neg (show ¬ (false = true) by decide)] at H; exact H
      clear H
      have H := H1
      clear H1
      by_cases c8 : a0 < a1
      · rw [if_pos c8] at H
        have c8b0 : decide (a0 < a1) = true := decide_eq_true c8
        clear c8
        obtain rfl := Option.some.inj H
        go_enter Try.func61, Try.ntmps61
        go_wp2_with (first | ((with_reducible refine gate_callee (f := 66) rfl ?_); refine goesL_ (some 8) rfl rfl Try.func66 (by kernel_rfl) rfl #[.int .i64 a0] rfl (by (try simp only [List.map_toArray, List.map_cons, List.map_nil]); first | done | rfl | (simp only [List.length_drop, List.length_take]; rfl)) ?_; (with_reducible refine (cmp_isNaN_int.calls a0 false _ A3.out).mono ?_); rintro e w' ⟨rfl, ⟨nd, rfl⟩⟩; refine ⟨_, rfl, ?_⟩) | ((with_reducible refine gate_callee (f := 66) rfl ?_); refine goesL_ (some 10) rfl rfl Try.func66 (by kernel_rfl) rfl #[.int .i64 a1] rfl (by (try simp only [List.map_toArray, List.map_cons, List.map_nil]); first | done | rfl | (simp only [List.length_drop, List.length_take]; rfl)) ?_; (with_reducible refine (cmp_isNaN_int.calls a1 false _ A4.out).mono ?_); rintro e w' ⟨rfl, ⟨nd, rfl⟩⟩; refine ⟨_, rfl, ?_⟩))
        go_ret
        exact ⟨by first | rfl | (simp; done) | (simp [*]; done), by repeat (first | exact Drawn0.refl _ | apply Drawn0.step)⟩
      · rw [if_neg c8] at H
        have c8b0 : decide (a0 < a1) = false := decide_eq_false c8
        clear c8
        by_cases c9 : a0 > a1
        · rw [if_pos c9] at H
          have c9b0 : decide (a1 < a0) = true := decide_eq_true c9
          clear c9
          obtain rfl := Option.some.inj H
          go_enter Try.func61, Try.ntmps61
          go_wp2_with (first | ((with_reducible refine gate_callee (f := 66) rfl ?_); refine goesL_ (some 8) rfl rfl Try.func66 (by kernel_rfl) rfl #[.int .i64 a0] rfl (by (try simp only [List.map_toArray, List.map_cons, List.map_nil]); first | done | rfl | (simp only [List.length_drop, List.length_take]; rfl)) ?_; (with_reducible refine (cmp_isNaN_int.calls a0 false _ A3.out).mono ?_); rintro e w' ⟨rfl, ⟨nd, rfl⟩⟩; refine ⟨_, rfl, ?_⟩) | ((with_reducible refine gate_callee (f := 66) rfl ?_); refine goesL_ (some 10) rfl rfl Try.func66 (by kernel_rfl) rfl #[.int .i64 a1] rfl (by (try simp only [List.map_toArray, List.map_cons, List.map_nil]); first | done | rfl | (simp only [List.length_drop, List.length_take]; rfl)) ?_; (with_reducible refine (cmp_isNaN_int.calls a1 false _ A4.out).mono ?_); rintro e w' ⟨rfl, ⟨nd, rfl⟩⟩; refine ⟨_, rfl, ?_⟩))
          go_ret
          exact ⟨by first | rfl | (simp; done) | (simp [*]; done), by repeat (first | exact Drawn0.refl _ | apply Drawn0.step)⟩
        · rw [if_neg c9] at H
          have c9b0 : decide (a1 < a0) = false := decide_eq_false c9
          clear c9
          obtain rfl := Option.some.inj H
          go_enter Try.func61, Try.ntmps61
          go_wp2_with (first | ((with_reducible refine gate_callee (f := 66) rfl ?_); refine goesL_ (some 8) rfl rfl Try.func66 (by kernel_rfl) rfl #[.int .i64 a0] rfl (by (try simp only [List.map_toArray, List.map_cons, List.map_nil]); first | done | rfl | (simp only [List.length_drop, List.length_take]; rfl)) ?_; (with_reducible refine (cmp_isNaN_int.calls a0 false _ A3.out).mono ?_); rintro e w' ⟨rfl, ⟨nd, rfl⟩⟩; refine ⟨_, rfl, ?_⟩) | ((with_reducible refine gate_callee (f := 66) rfl ?_); refine goesL_ (some 10) rfl rfl Try.func66 (by kernel_rfl) rfl #[.int .i64 a1] rfl (by (try simp only [List.map_toArray, List.map_cons, List.map_nil]); first | done | rfl | (simp only [List.length_drop, List.length_take]; rfl)) ?_; (with_reducible refine (cmp_isNaN_int.calls a1 false _ A4.out).mono ?_); rintro e w' ⟨rfl, ⟨nd, rfl⟩⟩; refine ⟨_, rfl, ?_⟩))
          go_ret
          exact ⟨by first | rfl | (simp; done) | (simp [*]; done), by repeat (first | exact Drawn0.refl _ | apply Drawn0.step)⟩
end Go.Proofs.Ytbjeaalbdaedpaa.P
namespace Go.Proofs.Ytbjeaalbdaedpaa.P
open Go.RowKit Go.Proofs.YtbjeaalbdaedpaaW.PrintWords Go.Proofs.YtbjeaalbdaedpaaW.PrintLast Go.Proofs.YtbjeaalbdaedpaaW.PrintMore
attribute [local go_sem] max2_int min2_int max_two min_two max_three min_three max_four min_four
set_option linter.unusedVariables false
set_option linter.unusedSimpArgs false
def cmp_isNaN_string.f (a0 : ByteArray) : Option (Bool) := some (a0.toList != a0.toList)
set_option maxHeartbeats 8000000 in
set_option maxRecDepth 100000 in
theorem cmp_isNaN_string.calls (a0 : ByteArray) (r : Bool) (w : World) (h : cmp_isNaN_string.f a0 = some r) :
    Calls Try.prog 77 #[.string a0] w fun e w' => e = .returned (.bool r) ∧ Drawn0 w w' := by
  have H : (some (a0.toList != a0.toList)) = some r := h
  clear h
  obtain rfl := Option.some.inj H
  go_enter Try.func77, Try.ntmps77
  go_wp2
  go_ret
  exact ⟨by first | rfl | (simp; done) | (simp [*]; done), by repeat (first | exact Drawn0.refl _ | apply Drawn0.step)⟩
end Go.Proofs.Ytbjeaalbdaedpaa.P
namespace Go.Proofs.Ytbjeaalbdaedpaa.P
open Go.RowKit Go.Proofs.YtbjeaalbdaedpaaW.PrintWords Go.Proofs.YtbjeaalbdaedpaaW.PrintLast Go.Proofs.YtbjeaalbdaedpaaW.PrintMore
attribute [local go_sem] max2_int min2_int max_two min_two max_three min_three max_four min_four
set_option linter.unusedVariables false
set_option linter.unusedSimpArgs false
def cmpS (a b : ByteArray) : Int := if Op.bytesLess a.toList b.toList = true then -1 else if (a.toList == b.toList) = true then 0 else 1
theorem isNaN_s (a : ByteArray) : cmp_isNaN_string.f a = some false := by unfold cmp_isNaN_string.f; simp
def cmp_Compare_string.f (a0 : ByteArray) (a1 : ByteArray) : Option (Int) := some (cmpS a0 a1)
set_option maxHeartbeats 1000000 in
set_option maxRecDepth 100000 in
theorem cmp_Compare_string.calls (a0 : ByteArray) (a1 : ByteArray) (r : Int) (w : World) (h : cmp_Compare_string.f a0 a1 = some r) :
    Calls Try.prog 62 #[.string a0, .string a1] w fun e w' => e = .returned (.int .i64 r) ∧ Drawn0 w w' := by
  unfold cmp_Compare_string.f at h
  obtain rfl := Option.some.inj h
  clear h
  have hus := Try.underlying9
  have H0 := fun W => Aside0.mk (cmp_isNaN_string.calls a0 false W (isNaN_s a0))
  have H1 := fun W => Aside0.mk (cmp_isNaN_string.calls a1 false W (isNaN_s a1))
  cases hl : Op.bytesLess a0.toList a1.toList with
  | true =>
    have HL := Aside0.mk (show cmpS a0 a1 = -1 by unfold cmpS; rw [if_pos hl])
    go_enter Try.func62, Try.ntmps62
    go_wp2_with (first | (go_at_call 77; (with_reducible refine (H0 _).out.mono ?_); rintro e w1 ⟨rfl, n1, rfl⟩) | (go_at_call 77; (with_reducible refine (H1 _).out.mono ?_); rintro e w1 ⟨rfl, n2, rfl⟩))
    go_ret
    exact ⟨by rw [HL.out]; rfl, by first | exact ⟨_, rfl⟩ | exact ⟨_, World.drewN_drewN _ _ _⟩⟩
  | false =>
  cases he : (a0.toList == a1.toList) with
  | true =>
    have HL := Aside0.mk (show cmpS a0 a1 = 0 by unfold cmpS; rw [if_neg (by rw [hl]; decide), if_pos he])
    have hn : (!a0.toList == a1.toList) = false := by rw [he]; rfl
    go_enter Try.func62, Try.ntmps62
    go_wp2_with (first | (go_at_call 77; (with_reducible refine (H0 _).out.mono ?_); rintro e w1 ⟨rfl, n1, rfl⟩) | (go_at_call 77; (with_reducible refine (H1 _).out.mono ?_); rintro e w1 ⟨rfl, n2, rfl⟩))
    go_ret
    exact ⟨by rw [HL.out]; rfl, by first | exact ⟨_, rfl⟩ | exact ⟨_, World.drewN_drewN _ _ _⟩⟩
  | false =>
    have HL := Aside0.mk (show cmpS a0 a1 = 1 by unfold cmpS; rw [if_neg (by rw [hl]; decide), if_neg (by rw [he]; decide)])
    have hn : (!a0.toList == a1.toList) = true := by rw [he]; rfl
    go_enter Try.func62, Try.ntmps62
    go_wp2_with (first | (go_at_call 77; (with_reducible refine (H0 _).out.mono ?_); rintro e w1 ⟨rfl, n1, rfl⟩) | (go_at_call 77; (with_reducible refine (H1 _).out.mono ?_); rintro e w1 ⟨rfl, n2, rfl⟩))
    go_ret
    exact ⟨by rw [HL.out]; rfl, by first | exact ⟨_, rfl⟩ | exact ⟨_, World.drewN_drewN _ _ _⟩⟩
end Go.Proofs.Ytbjeaalbdaedpaa.P
namespace Go.Proofs.Ytbjeaalbdaedpaa.P
open Go.RowKit Go.Proofs.YtbjeaalbdaedpaaW.PrintWords Go.Proofs.YtbjeaalbdaedpaaW.PrintLast Go.Proofs.YtbjeaalbdaedpaaW.PrintMore
attribute [local go_sem] max2_int min2_int max_two min_two max_three min_three max_four min_four
set_option linter.unusedVariables false
set_option linter.unusedSimpArgs false
def cmp_Or_int.l0 : Nat → Int → List Int → Int → Int → Option (Int)
  | 0, _, _, _, _ => none
  | k + 1, x3, x6, x7, x8 => if x8 < x7 then (if 0 ≤ x8 then (if x8 < (x6.length : Int) then (if (rd x6 x8) = x3 then (cmp_Or_int.l0 k x3 x6 x7 (wrap64 (x8 + 1))) else (some (rd x6 x8))) else (none)) else (none)) else (some x3)
def cmp_Or_int.f (k : Nat) (l0 : List Int) : Option (Int) := cmp_Or_int.l0 k 0 l0 (l0.length : Int) 0
set_option maxHeartbeats 8000000 in
set_option maxRecDepth 100000 in
theorem cmp_Or_int.calls (k : Nat) (A0 : Option Addr) (c0 : Nat) (l0 : List Int) (r : Int) (w : World) (hr0 : Kd.C (Kd.int .i64) w A0 l0.length l0) (hc0 : l0.length ≤ c0) (h : cmp_Or_int.f k l0 = some r) :
    Calls Try.prog 60 #[.slice A0 l0.length c0] w fun e w' => e = .returned (.int .i64 r) ∧ Drawn0 w w' := by
  have HR0 := Aside0.mk hr0
  have HC0 := Aside0.mk hc0
  clear hr0 hc0
  have H : (cmp_Or_int.l0 k 0 l0 (l0.length : Int) 0) = some r := h
  clear h
  have H' := Aside0.mk H
  clear H
  go_enter Try.func60, Try.ntmps60
  go_wp2
  go_loopg [8] k (fun kq v8 w' => ∃ (x8_1 : Int), v8 = .int .i64 x8_1 ∧ Aside0 (cmp_Or_int.l0 kq 0 l0 (l0.length : Int) x8_1 = some r) ∧ Aside0 (kq ≤ k) ∧ Drawn0 w w')
  case atStart => exact ⟨(0), (by first | rfl | (simp; done) | (simp [*]; done)), H', ⟨Nat.le_refl _⟩, by repeat (first | exact Drawn0.refl _ | apply Drawn0.step)⟩
  case round =>
    clear H'
    obtain ⟨x8_1, rfl, HA, HK1, ⟨m1, rfl⟩⟩ := hrel
    cases gk with
    | zero => exact absurd HA.out (by simp [cmp_Or_int.l0])
    | succ k1 =>
      have H := HA.out
      clear HA
      simp only [cmp_Or_int.l0] at H
      by_cases c2 : x8_1 < (l0.length : Int)
      · rw [if_pos c2] at H
        have c2b0 : decide (x8_1 < (l0.length : Int)) = true := decide_eq_true c2
        clear c2
        by_cases c3 : 0 ≤ x8_1
        · rw [if_pos c3] at H
          have c3b0 : decide (0 ≤ x8_1) = true := decide_eq_true c3
          clear c3
          by_cases c4 : x8_1 < (l0.length : Int)
          · rw [if_pos c4] at H
            have c4b0 : decide (x8_1 < (l0.length : Int)) = true := decide_eq_true c4
            clear c4
            by_cases c5 : (rd l0 x8_1) = 0
            · rw [if_pos c5] at H
              have c5b0 : ((rd l0 x8_1) == 0) = true := beq_iff_eq.mpr c5
              have c5b1 : ((rd l0 x8_1) != 0) = false := bne_eq_false_iff_eq.mpr c5
              clear c5
              have H' := Aside0.mk H
              clear H
              have p103 : 0 ≤ (x8_1 : Int) := of_decide_eq_true (by first | (with_reducible assumption) | assumption)
              have q103 : x8_1 < (l0.length : Int) := of_decide_eq_true (by first | (with_reducible assumption) | assumption)
              obtain ⟨ad103, e103, hx103_0⟩ := Kd.at_int HR0.out x8_1 p103 q103
              cases e103
              replace p103 := eq_true p103
              replace q103 := eq_true q103
              go_wp2
              go_roundg k1
              case measure => have := HK1.out; omega
              case rel => exact ⟨(wrap64 (x8_1 + 1)), (by first | rfl | (simp; done) | (simp [*]; done)), H', ⟨by have := HK1.out; omega⟩, by repeat (first | exact Drawn0.refl _ | apply Drawn0.step)⟩
            · rw [if_neg c5] at H
              have c5b0 : ((rd l0 x8_1) == 0) = false := beq_eq_false_iff_ne.mpr c5
              have c5b1 : ((rd l0 x8_1) != 0) = true := bne_iff_ne.mpr c5
              obtain rfl := Option.some.inj H
              have p103 : 0 ≤ (x8_1 : Int) := of_decide_eq_true (by first | (with_reducible assumption) | assumption)
              have q103 : x8_1 < (l0.length : Int) := of_decide_eq_true (by first | (with_reducible assumption) | assumption)
              obtain ⟨ad103, e103, hx103_0⟩ := Kd.at_int HR0.out x8_1 p103 q103
              cases e103
              replace p103 := eq_true p103
              replace q103 := eq_true q103
              go_wp2
              go_ret
              exact ⟨by first | rfl | (simp; done) | (simp [*]; done), by repeat (first | exact Drawn0.refl _ | apply Drawn0.step)⟩
          · rw [if_neg c4] at H
            exact absurd H (by simp)
        · rw [if_neg c3] at H
          exact absurd H (by simp)
      · rw [if_neg c2] at H
        have c2b0 : decide (x8_1 < (l0.length : Int)) = false := decide_eq_false c2
        clear c2
        obtain rfl := Option.some.inj H
        go_wp2
        go_ret
        exact ⟨by first | rfl | (simp; done) | (simp [*]; done), by repeat (first | exact Drawn0.refl _ | apply Drawn0.step)⟩
end Go.Proofs.Ytbjeaalbdaedpaa.P
namespace Go.Proofs.Ytbjeaalbdaedpaa.P
open Go.RowKit Go.Proofs.YtbjeaalbdaedpaaW.PrintWords Go.Proofs.YtbjeaalbdaedpaaW.PrintLast Go.Proofs.YtbjeaalbdaedpaaW.PrintMore
attribute [local go_sem] max2_int min2_int max_two min_two max_three min_three max_four min_four
set_option linter.unusedVariables false
set_option linter.unusedSimpArgs false
def Grown (w W : World) : Prop := ∃ q os, W = Go.Sort.grow (w.drewN q) os
theorem Grown.refl (w : World) : Grown w w := ⟨0, #[], by rw [World.drewN_zero, Go.Sort.grow_empty]⟩
theorem Grown.alloc {w W : World} (h : Grown w W) (o : Obj) : Grown w (W.alloc o) := by
  obtain ⟨q, os, rfl⟩ := h
  exact ⟨q, os ++ #[o], by rw [Go.Sort.alloc_eq_grow, Go.Sort.grow_grow]⟩
theorem Grown.drew {w W : World} (h : Grown w W) : Grown w W.drew := by
  obtain ⟨q, os, rfl⟩ := h
  exact ⟨q + 1, os, by rw [Go.Sort.drew_grow]; congr 1⟩
theorem Grown.drewN {w W : World} (h : Grown w W) (n : Nat) : Grown w (W.drewN n) := by
  obtain ⟨q, os, rfl⟩ := h
  refine ⟨q + n, os, ?_⟩
  rw [← World.drewN_drewN]
  rfl
theorem Grown.below {w W : World} (h : Grown w W) : Below w.heap.size w W := by
  obtain ⟨q, os, rfl⟩ := h
  exact ⟨rfl, rfl, rfl, by rw [Go.Sort.size_grow]; exact Nat.le_add_right _ _, fun k hk => by
    show (w.heap ++ os)[k]? = w.heap[k]?
    exact Array.getElem?_append_left hk⟩
def cmpI (a b : Int) : Int := if a < b then -1 else if a > b then 1 else 0
theorem cmpI_f (a b : Int) : cmp_Compare_int.f a b = some (cmpI a b) := by
  unfold cmp_Compare_int.f cmp_isNaN_int.f cmpI
  have h : ∀ x : Int, (x != x) = false := fun x => by simp
  simp only [h, Option.bind_some, if_neg (by decide : ¬ (false = true))]
  split
  · rfl
  · split <;> rfl
def cmpP (a b : Int × ByteArray) : Int := if cmpI a.1 b.1 = 0 then cmpS a.2 b.2 else cmpI a.1 b.1
theorem or_f (x y : Int) : cmp_Or_int.f 3 [x, y] = some (if x = 0 then y else x) := by
  unfold cmp_Or_int.f
  have e0 : rd ([x, y] : List Int) 0 = x := rfl
  have e1 : rd ([x, y] : List Int) 1 = y := rfl
  have w0 : wrap64 (0 + 1) = 1 := by unfold wrap64; omega
  have w1 : wrap64 (1 + 1) = 2 := by unfold wrap64; omega
  rw [cmp_Or_int.l0, if_pos (by simp), if_pos (by omega), if_pos (by simp), e0]
  by_cases hx : x = 0
  · rw [if_pos hx, if_pos hx, w0, cmp_Or_int.l0, if_pos (by simp), if_pos (by omega), if_pos (by simp), e1]
    by_cases hy : y = 0
    · rw [if_pos hy, w1, cmp_Or_int.l0, if_neg (by simp), hy]
    · rw [if_neg hy]
  · rw [if_neg hx, if_neg hx]
set_option maxHeartbeats 2000000 in
set_option maxRecDepth 100000 in
theorem place_cmp (a b : Int × ByteArray) (w : World) : Calls Try.prog 43 #[.agg #[.int .i64 a.1, .string a.2], .agg #[.int .i64 b.1, .string b.2]] w fun e w' => e = .returned (.int .i64 (cmpP a b)) ∧ Grown w w' := by
  have hup := Try.underlying68
  have HCI := Aside0.mk (cmpI_f a.1 b.1)
  have HCS := Aside0.mk (show cmp_Compare_string.f a.2 b.2 = some (cmpS a.2 b.2) from rfl)
  have HOR := Aside0.mk (or_f (cmpI a.1 b.1) (cmpS a.2 b.2))
  have HP := Aside0.mk (show cmpP a b = if cmpI a.1 b.1 = 0 then cmpS a.2 b.2 else cmpI a.1 b.1 from rfl)
  generalize cmpP a b = res at *
  generalize cmpI a.1 b.1 = ci at *
  generalize cmpS a.2 b.2 = cs at *
  obtain ⟨a0, a1⟩ := a
  obtain ⟨b0, b1⟩ := b
  simp only [] at *
  obtain ⟨s, hs⟩ : ∃ s, s = w.heap.size := ⟨_, rfl⟩
  obtain ⟨w2, hw2⟩ : ∃ w2, w2 = (w.alloc (.cells #[.int .i64 a0, .string a1] 68 (0, 0))).alloc (.cells #[.int .i64 b0, .string b1] 68 (0, 0)) := ⟨_, rfl⟩
  have hA := (show w2.heap[s]? = some (.cells #[.int .i64 a0, .string a1] 68 (0, 0)) by rw [hw2, hs]; exact blk_alloc (heap_alloc_new w _) _)
  have hB := (show w2.heap[s + 1]? = some (.cells #[.int .i64 b0, .string b1] 68 (0, 0)) by rw [hw2, hs]; have := heap_alloc_new (w.alloc (.cells #[.int .i64 a0, .string a1] 68 (0, 0))) (.cells #[.int .i64 b0, .string b1] 68 (0, 0)); rwa [World.size_alloc] at this)
  have hG := (show Grown w w2 by rw [hw2]; exact ((Grown.refl w).alloc _).alloc _)
  go_enter Try.func43, Try.ntmps43
  go_wp2_with (fail)
  rw [← hs, ← hw2]
  clear hw2 hs
  refine start_ (n := 13) (S := fun w' => w'.cell? ⟨s, 0, none⟩ = some (.int .i64 a0) ∧ w'.cell? ⟨s, 1, none⟩ = some (.string a1) ∧ w'.cell? ⟨s + 1, 0, none⟩ = some (.int .i64 b0) ∧ w'.cell? ⟨s + 1, 1, none⟩ = some (.string b1)) (ds := []) #[false, false, false, false, false, false, false, false, false, false, false, false, false] (by kernel_rfl) rfl rfl ⟨(blk_cell hA 0).trans rfl, (blk_cell hA 1).trans rfl, (blk_cell hB 0).trans rfl, (blk_cell hB 1).trans rfl⟩ (fun hHeld => ?_)
  have hA1 := show w2.drew.heap[s]? = _ from hA
  have hB1 := show w2.drew.heap[s + 1]? = _ from hB
  have hG1 := hG.drew
  clear hA hB hG
  generalize w2.drew = wa at hA1 hB1 hG1 hHeld ⊢
  refine pure_ (i := 0) (N := some 5) (v := ?_) (a' := ?_) #[true, false, false, false, false, false, false, false, false, false, false, false, false] rfl rfl (by kernel_rfl) (fun _ _ _ h => h) (Or.inl ⟨by rfl, ?_⟩) ?_ ?_
  rotate_left
  · intro w'
    go_simp
    with_reducible rfl
  rotate_left
  · simp only [Act.put, List.setIfInBounds_toArray, List.set_cons_zero, List.set_cons_succ]
    rfl
  refine pure_ (i := 2) (N := some 7) (v := ?_) (a' := ?_) #[true, false, true, false, false, false, false, false, false, false, false, false, false] rfl rfl (by kernel_rfl) (fun _ _ _ h => h) (Or.inl ⟨by rfl, ?_⟩) ?_ ?_
  rotate_left
  · intro w'
    go_simp
    with_reducible rfl
  rotate_left
  · simp only [Act.put, List.setIfInBounds_toArray, List.set_cons_zero, List.set_cons_succ]
    rfl
  refine pure_ (i := 5) (N := some 10) (v := ?_) (a' := ?_) #[true, false, true, false, false, true, false, false, false, false, false, false, false] rfl rfl (by kernel_rfl) (fun _ _ _ h => h) (Or.inl ⟨by rfl, ?_⟩) ?_ ?_
  rotate_left
  · intro w'
    go_simp
    with_reducible rfl
  rotate_left
  · simp only [Act.put, List.setIfInBounds_toArray, List.set_cons_zero, List.set_cons_succ]
    rfl
  refine pure_ (i := 7) (N := some 12) (v := ?_) (a' := ?_) #[true, false, true, false, false, true, false, true, false, false, false, false, false] rfl rfl (by kernel_rfl) (fun _ _ _ h => h) (Or.inl ⟨by rfl, ?_⟩) ?_ ?_
  rotate_left
  · intro w'
    go_simp
    with_reducible rfl
  rotate_left
  · simp only [Act.put, List.setIfInBounds_toArray, List.set_cons_zero, List.set_cons_succ]
    rfl
  refine take_ (i := 1) (N := some 6) (v := ?_) (a' := ?_) #[true, true, true, false, false, true, false, true, false, false, false, false, false] rfl rfl (by kernel_rfl) (fun _ _ _ h => h) (Or.inl ⟨by rfl, ?_⟩) hHeld ?_ ?_
  rotate_left
  · rintro w' ⟨s0, s1, s2, s3⟩
    go_simp
    with_reducible rfl
  rotate_left
  · simp only [Act.put, List.setIfInBounds_toArray, List.set_cons_zero, List.set_cons_succ]
    rfl
  refine take_ (i := 3) (N := some 8) (v := ?_) (a' := ?_) #[true, true, true, true, false, true, false, true, false, false, false, false, false] rfl rfl (by kernel_rfl) (fun _ _ _ h => h) (Or.inl ⟨by rfl, ?_⟩) hHeld ?_ ?_
  rotate_left
  · rintro w' ⟨s0, s1, s2, s3⟩
    go_simp
    with_reducible rfl
  rotate_left
  · simp only [Act.put, List.setIfInBounds_toArray, List.set_cons_zero, List.set_cons_succ]
    rfl
  refine take_ (i := 6) (N := some 11) (v := ?_) (a' := ?_) #[true, true, true, true, false, true, true, true, false, false, false, false, false] rfl rfl (by kernel_rfl) (fun _ _ _ h => h) (Or.inl ⟨by rfl, ?_⟩) hHeld ?_ ?_
  rotate_left
  · rintro w' ⟨s0, s1, s2, s3⟩
    go_simp
    with_reducible rfl
  rotate_left
  · simp only [Act.put, List.setIfInBounds_toArray, List.set_cons_zero, List.set_cons_succ]
    rfl
  refine take_ (i := 8) (N := some 13) (v := ?_) (a' := ?_) #[true, true, true, true, false, true, true, true, true, false, false, false, false] rfl rfl (by kernel_rfl) (fun _ _ _ h => h) (Or.inl ⟨by rfl, ?_⟩) hHeld ?_ ?_
  rotate_left
  · rintro w' ⟨s0, s1, s2, s3⟩
    go_simp
    with_reducible rfl
  rotate_left
  · simp only [Act.put, List.setIfInBounds_toArray, List.set_cons_zero, List.set_cons_succ]
    rfl
  refine one_ (i := 4) (N := some 9) #[true, true, true, true, true, true, true, true, true, false, false, false, false] rfl rfl (by kernel_rfl) (by decide) (fun K hK => ?_)
  refine goes_ Try.func61 (by kernel_rfl) rfl #[.int .i64 a0, .int .i64 b0] (by rfl) rfl rfl (by (try simp only [List.map_toArray, List.map_cons, List.map_nil]); first | done | rfl) ?_
  refine (cmp_Compare_int.calls a0 b0 ci wa HCI.out).mono ?_
  rintro e wb ⟨rfl, nd, rfl⟩
  have hA2 := show (wa.drewN nd).heap[s]? = _ from hA1
  have hB2 := show (wa.drewN nd).heap[s + 1]? = _ from hB1
  have hG2 := hG1.drewN nd
  refine ⟨_, rfl, ?_⟩
  refine hK.out _ _ ⟨(blk_cell hA2 0).trans rfl, (blk_cell hA2 1).trans rfl, (blk_cell hB2 0).trans rfl, (blk_cell hB2 1).trans rfl⟩ (fun hHeld => ?_)
  clear hK K
  refine norm_ (a' := ?_) ?_ ?_
  rotate_left
  · show Act.put _ (some 9) _ = _
    simp only [Act.put, List.setIfInBounds_toArray, List.set_cons_zero, List.set_cons_succ]
    rfl
  clear hA1 hB1 hG1
  generalize wa.drewN nd = wb at hA2 hB2 hG2 hHeld ⊢
  refine one_ (i := 9) (N := some 14) #[true, true, true, true, true, true, true, true, true, true, false, false, false] rfl rfl (by kernel_rfl) (by decide) (fun K hK => ?_)
  refine goes_ Try.func62 (by kernel_rfl) rfl #[.string a1, .string b1] (by rfl) rfl rfl (by (try simp only [List.map_toArray, List.map_cons, List.map_nil]); first | done | rfl) ?_
  refine (cmp_Compare_string.calls a1 b1 cs wb HCS.out).mono ?_
  rintro e wc ⟨rfl, nd, rfl⟩
  have hA3 := show (wb.drewN nd).heap[s]? = _ from hA2
  have hB3 := show (wb.drewN nd).heap[s + 1]? = _ from hB2
  have hG3 := hG2.drewN nd
  refine ⟨_, rfl, ?_⟩
  refine hK.out _ _ ⟨(blk_cell hA3 0).trans rfl, (blk_cell hA3 1).trans rfl, (blk_cell hB3 0).trans rfl, (blk_cell hB3 1).trans rfl⟩ (fun hHeld => ?_)
  clear hK K
  refine norm_ (a' := ?_) ?_ ?_
  rotate_left
  · show Act.put _ (some 14) _ = _
    simp only [Act.put, List.setIfInBounds_toArray, List.set_cons_zero, List.set_cons_succ]
    rfl
  clear hA2 hB2 hG2
  generalize wb.drewN nd = wc at hA3 hB3 hG3 hHeld ⊢
  have hA4 := blk_alloc hA3 (.cells #[.int .i64 ci, .int .i64 cs] 3 (0, 0))
  have hB4 := blk_alloc hB3 (.cells #[.int .i64 ci, .int .i64 cs] 3 (0, 0))
  have hG4 := hG3.alloc (.cells #[.int .i64 ci, .int .i64 cs] 3 (0, 0))
  have hN4 := heap_alloc_new wc (.cells #[.int .i64 ci, .int .i64 cs] 3 (0, 0))
  refine one_ (i := 10) (N := some 15) #[true, true, true, true, true, true, true, true, true, true, true, false, false] rfl rfl (by kernel_rfl) (by decide) (fun K hK => ?_)
  refine value_ (v := .slice (some ⟨wc.heap.size, 0, none⟩) 2 2) (w1 := wc.alloc (.cells #[.int .i64 ci, .int .i64 cs] 3 (0, 0))) (by rfl) rfl ?_ ?_
  · go_simp
  refine hK.out _ _ ⟨(blk_cell hA4 0).trans rfl, (blk_cell hA4 1).trans rfl, (blk_cell hB4 0).trans rfl, (blk_cell hB4 1).trans rfl⟩ (fun hHeld => ?_)
  clear hK K
  refine norm_ (a' := ?_) ?_ ?_
  rotate_left
  · show Act.put _ (some 15) _ = _
    simp only [Act.put, List.setIfInBounds_toArray, List.set_cons_zero, List.set_cons_succ]
    rfl
  clear hA3 hB3 hG3
  generalize wc.heap.size = gl at hN4 ⊢
  generalize wc.alloc (.cells #[.int .i64 ci, .int .i64 cs] 3 (0, 0)) = wd at hA4 hB4 hG4 hN4 hHeld ⊢
  have hR4 : (Kd.int .i64).C wd (some ⟨gl, 0, none⟩) 2 [ci, cs] := C_of_block (cur := [.int .i64 ci, .int .i64 cs]) (by simp) hN4 (show 2 * 1 ≤ 2 by decide) (fun j x hj => ?_)
  rotate_left
  · match j, hj with
    | 0, hj => simp at hj; subst hj; rfl
    | 1, hj => simp at hj; subst hj; rfl
    | j + 2, hj => simp at hj
  refine one_ (i := 11) (N := some 16) #[true, true, true, true, true, true, true, true, true, true, true, true, false] rfl rfl (by kernel_rfl) (by decide) (fun K hK => ?_)
  refine goes_ Try.func60 (by kernel_rfl) rfl #[.slice (some ⟨gl, 0, none⟩) 2 2] (by rfl) rfl rfl (by (try simp only [List.map_toArray, List.map_cons, List.map_nil]); first | done | rfl) ?_
  refine (cmp_Or_int.calls 3 (some ⟨gl, 0, none⟩) 2 [ci, cs] res wd hR4 (by simp) (by rw [HP.out]; exact HOR.out)).mono ?_
  rintro e we ⟨rfl, nd, rfl⟩
  have hA5 := show (wd.drewN nd).heap[s]? = _ from hA4
  have hB5 := show (wd.drewN nd).heap[s + 1]? = _ from hB4
  have hG5 := hG4.drewN nd
  refine ⟨_, rfl, ?_⟩
  refine hK.out _ _ ⟨(blk_cell hA5 0).trans rfl, (blk_cell hA5 1).trans rfl, (blk_cell hB5 0).trans rfl, (blk_cell hB5 1).trans rfl⟩ (fun hHeld => ?_)
  clear hK K
  refine norm_ (a' := ?_) ?_ ?_
  rotate_left
  · show Act.put _ (some 16) _ = _
    simp only [Act.put, List.setIfInBounds_toArray, List.set_cons_zero, List.set_cons_succ]
    rfl
  refine pure_ (i := 12) (N := some 4) (v := ?_) (a' := ?_) #[true, true, true, true, true, true, true, true, true, true, true, true, true] rfl rfl (by kernel_rfl) (fun _ _ _ h => h) (Or.inl ⟨by rfl, ?_⟩) ?_ ?_
  rotate_left
  · intro w'
    go_simp
    with_reducible rfl
  rotate_left
  · simp only [Act.put, List.setIfInBounds_toArray, List.set_cons_zero, List.set_cons_succ]
    rfl
  refine done_ (by kernel_rfl) ?_
  go_wp2
  go_ret
  exact ⟨rfl, hG5⟩
def sortPl_ren : Go.Shelf.Ren := ⟨fun | 6 => 42 | 15 => 59 | 14 => 58 | 28 => 75 | 29 => 76 | 20 => 67 | 21 => 68 | 22 => 69 | 23 => 70 | 24 => 71 | 25 => 72 | 26 => 73 | 27 => 74 | 46 => 79 | 47 => 80 | 48 => 81 | 49 => 82 | 50 => 83 | 57 => 85 | n => n, fun | 22 => 71 | 24 => 68 | 25 => 73 | 3 => 3 | 39 => 50 | 0 => 0 | 53 => 49 | 55 => 105 | 4 => 4 | 46 => 98 | 45 => 97 | 50 => 80 | 5 => 5 | 9 => 9 | 66 => 107 | 70 => 111 | 76 => 114 | 77 => 115 | n => n, fun | n => n⟩
theorem sortPl : Go.Proofs.SlLaysF0.n6 Try.prog sortPl_ren := {
  mixed := by kernel_rfl
  f6 := ⟨ "slices.SortFunc[[]banksman/delta.place,banksman/delta.place]", by decide, Try.func42.trans (congrArg some (by kernel_rfl))⟩
  f14 := ⟨ "slices.pdqsortCmpFunc[banksman/delta.place]", by decide, Try.func58.trans (congrArg some (by kernel_rfl))⟩
  f15 := Try.func59.trans (congrArg some (by kernel_rfl))
  f20 := ⟨ "slices.insertionSortCmpFunc[banksman/delta.place]", by decide, Try.func67.trans (congrArg some (by kernel_rfl))⟩
  f21 := ⟨ "slices.heapSortCmpFunc[banksman/delta.place]", by decide, Try.func68.trans (congrArg some (by kernel_rfl))⟩
  f22 := ⟨ "slices.breakPatternsCmpFunc[banksman/delta.place]", by decide, Try.func69.trans (congrArg some (by kernel_rfl))⟩
  f23 := ⟨ "slices.choosePivotCmpFunc[banksman/delta.place]", by decide, Try.func70.trans (congrArg some (by kernel_rfl))⟩
  f24 := ⟨ "slices.reverseRangeCmpFunc[banksman/delta.place]", by decide, Try.func71.trans (congrArg some (by kernel_rfl))⟩
  f25 := ⟨ "slices.partialInsertionSortCmpFunc[banksman/delta.place]", by decide, Try.func72.trans (congrArg some (by kernel_rfl))⟩
  f26 := ⟨ "slices.partitionEqualCmpFunc[banksman/delta.place]", by decide, Try.func73.trans (congrArg some (by kernel_rfl))⟩
  f27 := ⟨ "slices.partitionCmpFunc[banksman/delta.place]", by decide, Try.func74.trans (congrArg some (by kernel_rfl))⟩
  f28 := Try.func75.trans (congrArg some (by kernel_rfl))
  f29 := Try.func76.trans (congrArg some (by kernel_rfl))
  f46 := ⟨ "slices.siftDownCmpFunc[banksman/delta.place]", by decide, Try.func79.trans (congrArg some (by kernel_rfl))⟩
  f47 := Try.func80.trans (congrArg some (by kernel_rfl))
  f48 := Try.func81.trans (congrArg some (by kernel_rfl))
  f49 := ⟨ "slices.medianAdjacentCmpFunc[banksman/delta.place]", by decide, Try.func82.trans (congrArg some (by kernel_rfl))⟩
  f50 := ⟨ "slices.medianCmpFunc[banksman/delta.place]", by decide, Try.func83.trans (congrArg some (by kernel_rfl))⟩
  f57 := ⟨ "slices.order2CmpFunc[banksman/delta.place]", by decide, Try.func85.trans (congrArg some (by kernel_rfl))⟩
  t0 := Try.underlying0
  a0 := Try.isAgg0
  z0 := Try.sizeOf0
  v0 := Try.zeroValue0
  t3 := Try.underlying3
  a3 := Try.isAgg3
  z3 := Try.sizeOf3
  v3 := Try.zeroValue3
  t4 := Try.underlying4
  a4 := Try.isAgg4
  z4 := Try.sizeOf4
  v4 := Try.zeroValue4
  t5 := Try.underlying5
  a5 := Try.isAgg5
  z5 := Try.sizeOf5
  v5 := Try.zeroValue5
  t9 := Try.underlying9
  a9 := Try.isAgg9
  z9 := Try.sizeOf9
  v9 := Try.zeroValue9
  t22 := Try.underlying71
  a22 := Try.isAgg71
  z22 := Try.sizeOf71
  v22 := Try.zeroValue71
  t25 := Try.underlying73
  a25 := Try.isAgg73
  z25 := Try.sizeOf73
  v25 := Try.zeroValue73
  t39 := Try.underlying50
  a39 := Try.isAgg50
  z39 := Try.sizeOf50
  v39 := Try.zeroValue50
  t45 := Try.underlying97
  a45 := Try.isAgg97
  z45 := Try.sizeOf97
  v45 := Try.zeroValue97
  t46 := Try.underlying98
  a46 := Try.isAgg98
  z46 := Try.sizeOf98
  v46 := Try.zeroValue98
  t50 := Try.underlying80
  a50 := Try.isAgg80
  z50 := Try.sizeOf80
  v50 := Try.zeroValue80
  t53 := Try.underlying49
  a53 := Try.isAgg49
  z53 := Try.sizeOf49
  v53 := Try.zeroValue49
  t55 := Try.underlying105
  a55 := Try.isAgg105
  z55 := Try.sizeOf105
  v55 := Try.zeroValue105
  t66 := Try.underlying107
  a66 := Try.isAgg107
  z66 := Try.sizeOf107
  v66 := Try.zeroValue107
  t70 := Try.underlying111
  a70 := Try.isAgg111
  z70 := Try.sizeOf111
  v70 := Try.zeroValue111
  t76 := Try.underlying114
  a76 := Try.isAgg114
  z76 := Try.sizeOf114
  v76 := Try.zeroValue114
  t77 := Try.underlying115
  a77 := Try.isAgg115
  z77 := Try.sizeOf115
  v77 := Try.zeroValue115 }
theorem ltP_eq (x y : Int × ByteArray) : ltOf cmpP x y = (decide (x.1 < y.1) || (decide (x.1 = y.1) && decide (Lib.compareBytes x.2.toList y.2.toList < 0))) := by
  obtain ⟨x1, x2⟩ := x
  obtain ⟨y1, y2⟩ := y
  show decide ((if cmpI x1 y1 = 0 then cmpS x2 y2 else cmpI x1 y1) < 0) = (decide (x1 < y1) || (decide (x1 = y1) && decide (Lib.compareBytes x2.toList y2.toList < 0)))
  unfold cmpI
  by_cases h1 : x1 < y1
  · simp [h1]
  · by_cases h2 : x1 > y1
    · have h3 : ¬ x1 = y1 := by omega
      simp [h1, h2, h3]
    · have h3 : x1 = y1 := by omega
      subst h3
      have e : cmpS x2 y2 < 0 ↔ Lib.compareBytes x2.toList y2.toList < 0 := by
        unfold cmpS
        rw [less_cmp]
        by_cases h4 : Lib.compareBytes x2.toList y2.toList < 0
        · simp [h4]
        · simp only [h4, decide_false, Bool.false_eq_true, if_false, iff_false]
          split <;> decide
      simp [e]
theorem swoP : Go.Sort.SWO (ltOf cmpP) where
  irrefl x := by rw [ltP_eq]; simp [cmp_self]
  trans x y z h1 h2 := by
    rw [ltP_eq] at *
    simp only [Bool.or_eq_true, Bool.and_eq_true, decide_eq_true_eq] at *
    rcases h1 with h1 | ⟨h1, h3⟩ <;> rcases h2 with h2 | ⟨h2, h4⟩
    · exact .inl (by omega)
    · exact .inl (by omega)
    · exact .inl (by omega)
    · exact .inr ⟨by omega, cmp_lt_trans h3 h4⟩
  ntrans x y z h1 h2 := by
    rw [ltP_eq] at *
    simp only [Bool.or_eq_false_iff, Bool.and_eq_false_iff, decide_eq_false_iff_not] at *
    obtain ⟨h1, h3⟩ := h1
    obtain ⟨h2, h4⟩ := h2
    refine ⟨by omega, ?_⟩
    by_cases hxz : x.1 = z.1
    · right
      have h5 : x.1 = y.1 := by omega
      have h6 : y.1 = z.1 := by omega
      have h3 := h3.resolve_left (fun h => h h5)
      have h4 := h4.resolve_left (fun h => h h6)
      have n1 := cmp_neg x.2.toList y.2.toList
      have n2 := cmp_neg y.2.toList z.2.toList
      have n3 := cmp_neg x.2.toList z.2.toList
      have := cmp_trans z.2.toList y.2.toList x.2.toList (by omega) (by omega)
      omega
    · exact .inl hxz
def encP (x : Int × ByteArray) : List Value := [.int .i64 x.1, .string x.2]
theorem sort_place (blk off cap : Nat) (d : Array (Int × ByteArray)) (w : World) (hH : Go.Sort.HoldsK encP 2 w blk off d) (hblk : blk < w.heap.size) (hsz : d.size < 4611686018427387904) :
    Calls Try.prog 42 #[.slice (some ⟨blk, off, none⟩) d.size cap, .func (.func 43) #[] #[]] w fun e w' =>
      e = .returned (.tuple #[]) ∧ ∃ d' n os, Go.Sort.PermIn 0 d.size d d' ∧ Go.Sort.SortedIn (ltOf cmpP) 0 d.size d' ∧ w' = sortWorldK encP 2 w blk off n d' os := by
  have eg : ∀ args w, (callFunc 43 args).run Try.prog w = .ok (.enter 43 args) w := enters_of Try.func43 (by kernel_rfl) rfl
  have hcon := AnyQ.slices_SortFunc sortPl 2 Try.isAgg68 Try.sizeOf68 encP (fun _ => rfl) (fun x v hv => by simp [encP] at hv; rcases hv with rfl | rfl <;> rfl) cmpP swoP 43 #[] blk off cap d w eg (fun _ _ _ _ x y => place_cmp x y _) hH hblk hsz
  exact hcon
end Go.Proofs.Ytbjeaalbdaedpaa.P
namespace Go.Proofs.Ytbjeaalbdaedpaa.P
open Go.RowKit Go.Proofs.YtbjeaalbdaedpaaW.PrintWords Go.Proofs.YtbjeaalbdaedpaaW.PrintLast Go.Proofs.YtbjeaalbdaedpaaW.PrintMore
attribute [local go_sem] max2_int min2_int max_two min_two max_three min_three max_four min_four
set_option linter.unusedVariables false
set_option linter.unusedSimpArgs false
end Go.Proofs.Ytbjeaalbdaedpaa.P
namespace Go.Proofs.Ytbjeaalbdaedpaa.P
open Go.RowKit Go.Proofs.YtbjeaalbdaedpaaW.PrintWords Go.Proofs.YtbjeaalbdaedpaaW.PrintLast Go.Proofs.YtbjeaalbdaedpaaW.PrintMore
attribute [local go_sem] max2_int min2_int max_two min_two max_three min_three max_four min_four
set_option linter.unusedVariables false
set_option linter.unusedSimpArgs false
end Go.Proofs.Ytbjeaalbdaedpaa.P
namespace Go.Proofs.Ytbjeaalbdaedpaa.P
open Go.RowKit Go.Proofs.YtbjeaalbdaedpaaW.PrintWords Go.Proofs.YtbjeaalbdaedpaaW.PrintLast Go.Proofs.YtbjeaalbdaedpaaW.PrintMore
attribute [local go_sem] max2_int min2_int max_two min_two max_three min_three max_four min_four
set_option linter.unusedVariables false
set_option linter.unusedSimpArgs false
end Go.Proofs.Ytbjeaalbdaedpaa.P
namespace Go.Proofs.Ytbjeaalbdaedpaa.P
open Go.RowKit Go.Proofs.YtbjeaalbdaedpaaW.PrintWords Go.Proofs.YtbjeaalbdaedpaaW.PrintLast Go.Proofs.YtbjeaalbdaedpaaW.PrintMore
attribute [local go_sem] max2_int min2_int max_two min_two max_three min_three max_four min_four
set_option linter.unusedVariables false
set_option linter.unusedSimpArgs false
end Go.Proofs.Ytbjeaalbdaedpaa.P
namespace Go.Proofs.Ytbjeaalbdaedpaa.P
open Go.RowKit Go.Proofs.YtbjeaalbdaedpaaW.PrintWords Go.Proofs.YtbjeaalbdaedpaaW.PrintLast Go.Proofs.YtbjeaalbdaedpaaW.PrintMore
attribute [local go_sem] max2_int min2_int max_two min_two max_three min_three max_four min_four
set_option linter.unusedVariables false
set_option linter.unusedSimpArgs false
def cmp_Less_int.f (a0 : Int) (a1 : Int) : Option (Bool) := (cmp_isNaN_int.f a0).bind fun t104 => (if t104 = true then ((cmp_isNaN_int.f a1).bind fun t105 => (if t105 = true then (some (decide (a0 < a1))) else (some true))) else (some (decide (a0 < a1))))
set_option maxHeartbeats 8000000 in
set_option maxRecDepth 100000 in
theorem cmp_Less_int.calls (a0 : Int) (a1 : Int) (r : Bool) (w : World) (h : cmp_Less_int.f a0 a1 = some r) :
    Calls Try.prog 56 #[.int .i64 a0, .int .i64 a1] w fun e w' => e = .returned (.bool r) ∧ Drawn0 w w' := by
  have H : ((cmp_isNaN_int.f a0).bind fun t104 => (if t104 = true then ((cmp_isNaN_int.f a1).bind fun t105 => (if t105 = true then (some (decide (a0 < a1))) else (some true))) else (some (decide (a0 < a1))))) = some r := h
  clear h
  replace H := Option.bind_eq_some_iff.mp H
  obtain ⟨t104, A30, H⟩ := H
  replace H : (if t104 = true then ((cmp_isNaN_int.f a1).bind fun t105 => (if t105 = true then (some (decide (a0 < a1))) else (some true))) else (some (decide (a0 < a1)))) = some r := H
  have A3 := Aside0.mk A30
  clear A30
  by_cases c4 : t104 = true
  · subst c4
    have H1 : ((cmp_isNaN_int.f a1).bind fun t105 => (if t105 = true then (some (decide (a0 < a1))) else (some true))) = some r := by rw [if_pos rfl] at H; exact H
    clear H
    have H := H1
    clear H1
    replace H := Option.bind_eq_some_iff.mp H
    obtain ⟨t105, A50, H⟩ := H
    replace H : (if t105 = true then (some (decide (a0 < a1))) else (some true)) = some r := H
    have A5 := Aside0.mk A50
    clear A50
    by_cases c6 : t105 = true
    · subst c6
      have H1 : (some (decide (a0 < a1))) = some r := by rw [if_pos rfl] at H; exact H
      clear H
      have H := H1
      clear H1
      obtain rfl := Option.some.inj H
      go_enter Try.func56, Try.ntmps56
      go_wp2_with (first | ((with_reducible refine gate_callee (f := 66) rfl ?_); refine goesL_ (some 6) rfl rfl Try.func66 (by kernel_rfl) rfl #[.int .i64 a0] rfl (by (try simp only [List.map_toArray, List.map_cons, List.map_nil]); first | done | rfl | (simp only [List.length_drop, List.length_take]; rfl)) ?_; (with_reducible refine (cmp_isNaN_int.calls a0 true _ A3.out).mono ?_); rintro e w' ⟨rfl, ⟨nd, rfl⟩⟩; refine ⟨_, rfl, ?_⟩) | (go_at_call 66; (with_reducible refine (cmp_isNaN_int.calls a1 true _ A5.out).mono ?_); rintro e w' ⟨rfl, ⟨nd, rfl⟩⟩))
      go_ret
      exact ⟨by first | rfl | (simp; done) | (simp [*]; done), by repeat (first | exact Drawn0.refl _ | apply Drawn0.step)⟩
    · replace c6 := Bool.eq_false_iff.mpr c6
      subst c6
      have H1 : (some true) = some r := by rw [if_neg (show ¬ (false = true) by decide)] at H; exact H
      clear H
      have H := H1
      clear H1
      obtain rfl := Option.some.inj H
      go_enter Try.func56, Try.ntmps56
      go_wp2_with (first | ((with_reducible refine gate_callee (f := 66) rfl ?_); refine goesL_ (some 6) rfl rfl Try.func66 (by kernel_rfl) rfl #[.int .i64 a0] rfl (by (try simp only [List.map_toArray, List.map_cons, List.map_nil]); first | done | rfl | (simp only [List.length_drop, List.length_take]; rfl)) ?_; (with_reducible refine (cmp_isNaN_int.calls a0 true _ A3.out).mono ?_); rintro e w' ⟨rfl, ⟨nd, rfl⟩⟩; refine ⟨_, rfl, ?_⟩) | (go_at_call 66; (with_reducible refine (cmp_isNaN_int.calls a1 false _ A5.out).mono ?_); rintro e w' ⟨rfl, ⟨nd, rfl⟩⟩))
      go_ret
      exact ⟨by first | rfl | (simp; done) | (simp [*]; done), by repeat (first | exact Drawn0.refl _ | apply Drawn0.step)⟩
  · replace c4 := Bool.eq_false_iff.mpr c4
    subst c4
    have H1 : (some (decide (a0 < a1))) = some r := by rw [if_neg (show ¬ (false = true) by decide)] at H; exact H
    clear H
    have H := H1
    clear H1
    obtain rfl := Option.some.inj H
    go_enter Try.func56, Try.ntmps56
    go_wp2_with (first | ((with_reducible refine gate_callee (f := 66) rfl ?_); refine goesL_ (some 6) rfl rfl Try.func66 (by kernel_rfl) rfl #[.int .i64 a0] rfl (by (try simp only [List.map_toArray, List.map_cons, List.map_nil]); first | done | rfl | (simp only [List.length_drop, List.length_take]; rfl)) ?_; (with_reducible refine (cmp_isNaN_int.calls a0 false _ A3.out).mono ?_); rintro e w' ⟨rfl, ⟨nd, rfl⟩⟩; refine ⟨_, rfl, ?_⟩))
    go_ret
    exact ⟨by first | rfl | (simp; done) | (simp [*]; done), by repeat (first | exact Drawn0.refl _ | apply Drawn0.step)⟩
end Go.Proofs.Ytbjeaalbdaedpaa.P
namespace Go.Proofs.Ytbjeaalbdaedpaa.P
open Go.RowKit Go.Proofs.YtbjeaalbdaedpaaW.PrintWords Go.Proofs.YtbjeaalbdaedpaaW.PrintLast Go.Proofs.YtbjeaalbdaedpaaW.PrintMore
attribute [local go_sem] max2_int min2_int max_two min_two max_three min_three max_four min_four
set_option linter.unusedVariables false
set_option linter.unusedSimpArgs false
def slices_IsSorted_int_int.l0 : Nat → List Int → Int → Option (Bool)
  | 0, _, _ => none
  | k + 1, x0, x3 => if x3 > 0 then (if 0 ≤ x3 then (if x3 < (x0.length : Int) then (if 0 ≤ (wrap64 (x3 - 1)) then (if (wrap64 (x3 - 1)) < (x0.length : Int) then ((cmp_Less_int.f (rd x0 x3) (rd x0 (wrap64 (x3 - 1)))).bind fun t108 => (if t108 = true then (some false) else (slices_IsSorted_int_int.l0 k x0 (wrap64 (x3 - 1))))) else (none)) else (none)) else (none)) else (none)) else (some true)
def slices_IsSorted_int_int.f (k : Nat) (l0 : List Int) : Option (Bool) := slices_IsSorted_int_int.l0 k l0 (wrap64 ((l0.length : Int) - 1))
set_option maxHeartbeats 8000000 in
set_option maxRecDepth 100000 in
theorem slices_IsSorted_int_int.calls (k : Nat) (A0 : Option Addr) (c0 : Nat) (l0 : List Int) (r : Bool) (w : World) (hr0 : Kd.C (Kd.int .i64) w A0 l0.length l0) (hc0 : l0.length ≤ c0) (h : slices_IsSorted_int_int.f k l0 = some r) :
    Calls Try.prog 39 #[.slice A0 l0.length c0] w fun e w' => e = .returned (.bool r) ∧ Drawn0 w w' := by
  have HR0 := Aside0.mk hr0
  have HC0 := Aside0.mk hc0
  clear hr0 hc0
  have H : (slices_IsSorted_int_int.l0 k l0 (wrap64 ((l0.length : Int) - 1))) = some r := h
  clear h
  have H' := Aside0.mk H
  clear H
  go_enter Try.func39, Try.ntmps39
  go_wp2
  repeat (go_quiet (fail); try go_wp2)
  go_loopg [3] k (fun kq v3 w' => ∃ (x3_1 : Int), v3 = .int .i64 x3_1 ∧ Aside0 (slices_IsSorted_int_int.l0 kq l0 x3_1 = some r) ∧ Aside0 (kq ≤ k) ∧ Drawn0 w w')
  case atStart => exact ⟨(wrap64 ((l0.length : Int) - 1)), (by first | rfl | (simp; done) | (simp [*]; done)), H', ⟨Nat.le_refl _⟩, by repeat (first | exact Drawn0.refl _ | apply Drawn0.step)⟩
  case round =>
    clear H'
    obtain ⟨x3_1, rfl, HA, HK1, ⟨m1, rfl⟩⟩ := hrel
    cases gk with
    | zero => exact absurd HA.out (by simp [slices_IsSorted_int_int.l0])
    | succ k1 =>
      have H := HA.out
      clear HA
      simp only [slices_IsSorted_int_int.l0] at H
      by_cases c2 : x3_1 > 0
      · rw [if_pos c2] at H
        have c2b0 : decide (0 < x3_1) = true := decide_eq_true c2
        clear c2
        by_cases c3 : 0 ≤ x3_1
        · rw [if_pos c3] at H
          have c3b0 : decide (0 ≤ x3_1) = true := decide_eq_true c3
          clear c3
          by_cases c4 : x3_1 < (l0.length : Int)
          · rw [if_pos c4] at H
            have c4b0 : decide (x3_1 < (l0.length : Int)) = true := decide_eq_true c4
            clear c4
            obtain ⟨ji5, hji5⟩ : ∃ j_ : Int, (wrap64 (x3_1 - 1)) = j_ := ⟨_, rfl⟩
            replace H : (if 0 ≤ (ji5) then (if (ji5) < (l0.length : Int) then ((cmp_Less_int.f (rd l0 x3_1) (rd l0 (ji5))).bind fun t108 => (if t108 = true then (some false) else (slices_IsSorted_int_int.l0 k1 l0 ji5))) else (none)) else (none)) = some r := by first | (rw [hji5] at H; exact H) | (simp only [hji5] at H ⊢; exact H)
            have hji5w : (IntKind.i64.wrap (x3_1 - 1)) = ji5 := (i64_w _).trans hji5
            by_cases c6 : 0 ≤ (ji5)
            · rw [if_pos c6] at H
              have c6b0 : decide (0 ≤ (ji5)) = true := decide_eq_true c6
              clear c6
              by_cases c7 : (ji5) < (l0.length : Int)
              · rw [if_pos c7] at H
                have c7b0 : decide ((ji5) < (l0.length : Int)) = true := decide_eq_true c7
                clear c7
                replace H := Option.bind_eq_some_iff.mp H
                obtain ⟨t108, A80, H⟩ := H
                replace H : (if t108 = true then (some false) else (slices_IsSorted_int_int.l0 k1 l0 ji5)) = some r := H
                have A8 := Aside0.mk A80
                clear A80
                by_cases c9 : t108 = true
                · subst c9
                  have H1 : (some false) = some r := by rw [if_pos rfl] at H; exact H
                  clear H
                  have H := H1
                  clear H1
                  obtain rfl := Option.some.inj H
                  have p106 : 0 ≤ (x3_1 : Int) := of_decide_eq_true (by first | (with_reducible assumption) | assumption)
                  have q106 : x3_1 < (l0.length : Int) := of_decide_eq_true (by first | (with_reducible assumption) | assumption)
                  obtain ⟨ad106, e106, hx106_0⟩ := Kd.at_int HR0.out x3_1 p106 q106
                  cases e106
                  replace p106 := eq_true p106
                  replace q106 := eq_true q106
                  have p107 : 0 ≤ ((ji5) : Int) := of_decide_eq_true (by first | (with_reducible assumption) | assumption)
                  have q107 : (ji5) < (l0.length : Int) := of_decide_eq_true (by first | (with_reducible assumption) | assumption)
                  obtain ⟨ad107, e107, hx107_0⟩ := Kd.at_int HR0.out (ji5) p107 q107
                  obtain rfl : ad106 = ad107 := (by injection e107)
                  replace p107 := eq_true p107
                  replace q107 := eq_true q107
                  go_wp2_with (first | (go_at_call 56; (with_reducible refine (cmp_Less_int.calls (rd l0 x3_1) (rd l0 (ji5)) true _ A8.out).mono ?_); rintro e w' ⟨rfl, ⟨nd, rfl⟩⟩; (try first | exact ⟨rfl, _, World.drewN_drewN _ _ _⟩ | exact ⟨rfl, _, Eq.trans (World.drewN_drewN _ _ _) (congrArg (World.drewN _) (Nat.add_assoc _ _ _))⟩)))
                  repeat (go_quiet (first | (go_at_call 56; (with_reducible refine (cmp_Less_int.calls (rd l0 x3_1) (rd l0 (ji5)) true _ A8.out).mono ?_); rintro e w' ⟨rfl, ⟨nd, rfl⟩⟩; (try first | exact ⟨rfl, _, World.drewN_drewN _ _ _⟩ | exact ⟨rfl, _, Eq.trans (World.drewN_drewN _ _ _) (congrArg (World.drewN _) (Nat.add_assoc _ _ _))⟩))); try go_wp2_with (first | (go_at_call 56; (with_reducible refine (cmp_Less_int.calls (rd l0 x3_1) (rd l0 (ji5)) true _ A8.out).mono ?_); rintro e w' ⟨rfl, ⟨nd, rfl⟩⟩; (try first | exact ⟨rfl, _, World.drewN_drewN _ _ _⟩ | exact ⟨rfl, _, Eq.trans (World.drewN_drewN _ _ _) (congrArg (World.drewN _) (Nat.add_assoc _ _ _))⟩))))
                  go_ret
                  exact ⟨by first | rfl | (simp; done) | (simp only [← hji5] <;> (first | rfl | simp)) | (simp [*]; done), by repeat (first | exact Drawn0.refl _ | apply Drawn0.step)⟩
                · replace c9 := Bool.eq_false_iff.mpr c9
                  subst c9
                  have H1 : (slices_IsSorted_int_int.l0 k1 l0 ji5) = some r := by rw [if_neg (show ¬ (false = true) by decide)] at H; exact H
                  clear H
                  have H := H1
                  clear H1
                  have H' := Aside0.mk H
                  clear H
                  have p106 : 0 ≤ (x3_1 : Int) := of_decide_eq_true (by first | (with_reducible assumption) | assumption)
                  have q106 : x3_1 < (l0.length : Int) := of_decide_eq_true (by first | (with_reducible assumption) | assumption)
                  obtain ⟨ad106, e106, hx106_0⟩ := Kd.at_int HR0.out x3_1 p106 q106
                  cases e106
                  replace p106 := eq_true p106
                  replace q106 := eq_true q106
                  have p107 : 0 ≤ ((ji5) : Int) := of_decide_eq_true (by first | (with_reducible assumption) | assumption)
                  have q107 : (ji5) < (l0.length : Int) := of_decide_eq_true (by first | (with_reducible assumption) | assumption)
                  obtain ⟨ad107, e107, hx107_0⟩ := Kd.at_int HR0.out (ji5) p107 q107
                  obtain rfl : ad106 = ad107 := (by injection e107)
                  replace p107 := eq_true p107
                  replace q107 := eq_true q107
                  go_wp2_with (first | (go_at_call 56; (with_reducible refine (cmp_Less_int.calls (rd l0 x3_1) (rd l0 (ji5)) false _ A8.out).mono ?_); rintro e w' ⟨rfl, ⟨nd, rfl⟩⟩; (try first | exact ⟨rfl, _, World.drewN_drewN _ _ _⟩ | exact ⟨rfl, _, Eq.trans (World.drewN_drewN _ _ _) (congrArg (World.drewN _) (Nat.add_assoc _ _ _))⟩)))
                  repeat (go_quiet (first | (go_at_call 56; (with_reducible refine (cmp_Less_int.calls (rd l0 x3_1) (rd l0 (ji5)) false _ A8.out).mono ?_); rintro e w' ⟨rfl, ⟨nd, rfl⟩⟩; (try first | exact ⟨rfl, _, World.drewN_drewN _ _ _⟩ | exact ⟨rfl, _, Eq.trans (World.drewN_drewN _ _ _) (congrArg (World.drewN _) (Nat.add_assoc _ _ _))⟩))); try go_wp2_with (first | (go_at_call 56; (with_reducible refine (cmp_Less_int.calls (rd l0 x3_1) (rd l0 (ji5)) false _ A8.out).mono ?_); rintro e w' ⟨rfl, ⟨nd, rfl⟩⟩; (try first | exact ⟨rfl, _, World.drewN_drewN _ _ _⟩ | exact ⟨rfl, _, Eq.trans (World.drewN_drewN _ _ _) (congrArg (World.drewN _) (Nat.add_assoc _ _ _))⟩))))
                  go_roundg k1
                  case measure => have := HK1.out; omega
                  case rel => exact ⟨(ji5), (by first | rfl | (simp; done) | (simp only [← hji5] <;> (first | rfl | simp)) | (simp [*]; done)), H', ⟨by have := HK1.out; omega⟩, by repeat (first | exact Drawn0.refl _ | apply Drawn0.step)⟩
              · rw [if_neg c7] at H
                exact absurd H (by simp)
            · rw [if_neg c6] at H
              exact absurd H (by simp)
          · rw [if_neg c4] at H
            exact absurd H (by simp)
        · rw [if_neg c3] at H
          exact absurd H (by simp)
      · rw [if_neg c2] at H
        have c2b0 : decide (0 < x3_1) = false := decide_eq_false c2
        clear c2
        obtain rfl := Option.some.inj H
        go_wp2
        repeat (go_quiet (fail); try go_wp2)
        go_ret
        exact ⟨by first | rfl | (simp; done) | (simp [*]; done), by repeat (first | exact Drawn0.refl _ | apply Drawn0.step)⟩
end Go.Proofs.Ytbjeaalbdaedpaa.P
namespace Go.Proofs.Ytbjeaalbdaedpaa.P
open Go.RowKit Go.Proofs.YtbjeaalbdaedpaaW.PrintWords Go.Proofs.YtbjeaalbdaedpaaW.PrintLast Go.Proofs.YtbjeaalbdaedpaaW.PrintMore
attribute [local go_sem] max2_int min2_int max_two min_two max_three min_three max_four min_four
set_option linter.unusedVariables false
set_option linter.unusedSimpArgs false
def bytes_Clone.f (l0 : List Int) : Option (List Int) := if l0.length < 140737488355328 then some l0 else none
set_option maxHeartbeats 1000000 in
set_option maxRecDepth 100000 in
theorem bytes_Clone.calls (A0 : Option Addr) (c0 : Nat) (l0 : List Int) (r : List Int) (w : World) (hr0 : Kd.C (Kd.int .u8) w A0 l0.length l0) (hc0 : l0.length ≤ c0) (h : bytes_Clone.f l0 = some r) :
    Calls Try.prog 46 #[.slice A0 l0.length c0] w fun e w' => ∃ v0_ : Value, e = .returned (v0_) ∧ Kd.R (Kd.int .u8) 5 w' w.heap.size (fun _ => True) v0_ r ∧ Below w.heap.size w w' := by
  unfold bytes_Clone.f at h
  have hlt : l0.length < 140737488355328 := Classical.byContradiction fun hn => by rw [if_neg hn] at h; cases h
  rw [if_pos hlt] at h
  obtain rfl := Option.some.inj h
  clear h
  cases A0 with
  | none =>
    have hl : l0.length = 0 := Classical.byContradiction fun hn => by
      obtain ⟨ad, he, _⟩ := hr0.2.2 (by omega)
      cases he
    obtain rfl : l0 = [] := List.length_eq_zero_iff.mp hl
    have ke : ∀ w, (binOp .eql 26 (.slice none 0 c0) (.slice none 0 0)).run Try.prog w = .ok (.bool true) w := fun w => Lib.run_eql_slice_nil w _ _ none 0 c0 0 0 Try.underlying26
    clear hr0 hl
    go_enter Try.func46, Try.ntmps46
    go_wp2
    go_ret
    exact ⟨_, rfl, Kd.R_nil _ _ _ _ _, Below.refl _ _⟩
  | some a =>
    have ke : ∀ w, (binOp .eql 26 (.slice (some a) l0.length c0) (.slice none 0 0)).run Try.prog w = .ok (.bool false) w := fun w => Lib.run_eql_slice_nil w _ _ (some a) l0.length c0 0 0 Try.underlying26
    have HR := Aside0.mk hr0
    clear hr0
    go_enter Try.func46, Try.ntmps46
    go_wp2_with (first | ((with_reducible refine gate_dst (N := 5) rfl ?_); refine Kd.R_lit (Kd.int .u8) w.heap.size 5 ?hg (N := 5) ?hd (xs := ([] : List Int)) (inner := []) (ok := fun _ => True) (okp := fun _ => True) ?hr ?hp (fun _ hk => hk) trivial (Below.refl _ _) (Nat.le_refl _) (by simp) ?_; (case hd => rfl); (case hg => rfl); (case hr => first | (go_simp; done) | (go_simp; rfl)); (case hp => exact (Reps.none _ _)); intro v5 w5 ho5 hb5 hg5 hn5; have HO5 := Aside0.mk ho5; have HB5 := Aside0.mk hb5; clear ho5 hb5 hg5 hn5) | ((with_reducible refine gate_builtin (b := .append) (xs := #[.tmp 5, .tmp 6]) rfl ?_); at_builtin; refine Kd.R_append_rows (Kd.int .u8) (w0 := w) w.heap.size rfl (.tmp 5) (.tmp 6) 26 5 (.int .u8 0) 1 rfl Try.underlying26 info5 rfl (by decide) (by omega) _ [] l0 _ _ _ (fun _ => True) (fun _ => False) rfl rfl HO5.out (Kd.C_below HR.out HB5.out) (fun _ _ h => h) (fun _ h => h.elim) (fun _ _ => trivial) HB5.out (below_size HB5.out) (by simp; omega) ?_; intro v7 w7 ho7 hb7 hg7 ha7; have HO7 := Aside0.mk ho7; have HB7 := Aside0.mk hb7; clear ho7 hb7 hg7 ha7))
    go_ret
    exact ⟨_, rfl, HO7.out, HB7.out⟩
end Go.Proofs.Ytbjeaalbdaedpaa.P
namespace Go.Proofs.Ytbjeaalbdaedpaa.P
open Go.RowKit Go.Proofs.YtbjeaalbdaedpaaW.PrintWords Go.Proofs.YtbjeaalbdaedpaaW.PrintLast Go.Proofs.YtbjeaalbdaedpaaW.PrintMore
attribute [local go_sem] max2_int min2_int max_two min_two max_three min_three max_four min_four
set_option linter.unusedVariables false
set_option linter.unusedSimpArgs false
def delta_write.f (a0_0 : Int) (l0_1 : List Int) (a0_2 : Bool) (l0_3 : List Int) : Option (Int × List Int × Bool × List Int) := (bytes_Clone.f l0_1).bind fun t111 => ((bytes_Clone.f l0_3).bind fun t114 => (some (a0_0, t111, a0_2, t114)))
def delta_write.T1 : Bool × List (List Nat × List Nat) := (true, [([], []), ([0], [0]), ([1], [1]), ([], []), ([3], [3]), ([4, 2], [4]), ([0, 1, 2, 3, 4], []), ([6, 2, 5, 0, 1, 2, 3, 4], [2, 6]), ([0, 1, 2, 3, 4, 5, 6, 7], []), ([8, 5, 7, 0, 1, 2, 3, 4, 5, 6, 7], [5, 8])])
def delta_write.B1 : List Nat := [0, 1, 3, 0, 8, 31, 31, 127, 255, 511]
theorem delta_write.tab1 : rtab .any (opsOf Try.f31 1) = delta_write.T1 := by kernel_rfl
theorem delta_write.bits1 : waitsOk delta_write.T1.2 delta_write.B1 = true := by kernel_rfl
set_option maxHeartbeats 8000000 in
set_option maxRecDepth 100000 in
theorem delta_write.calls (a0_0 : Int) (A0_1 : Option Addr) (c0_1 : Nat) (l0_1 : List Int) (a0_2 : Bool) (A0_3 : Option Addr) (c0_3 : Nat) (l0_3 : List Int) (r1 : Int) (r2 : List Int) (r3 : Bool) (r4 : List Int) (w : World) (hr0_1 : Kd.C (Kd.int .u8) w A0_1 l0_1.length l0_1) (hc0_1 : l0_1.length ≤ c0_1) (hr0_3 : Kd.C (Kd.int .u8) w A0_3 l0_3.length l0_3) (hc0_3 : l0_3.length ≤ c0_3) (h : delta_write.f a0_0 l0_1 a0_2 l0_3 = some (r1, r2, r3, r4)) :
    Calls Try.prog 31 #[.agg #[.int .i64 a0_0, .slice A0_1 l0_1.length c0_1, .bool a0_2, .slice A0_3 l0_3.length c0_3]] w fun e w' => ∃ v1_ v3_ : Value, e = .returned (.agg #[.int .i64 r1, v1_, .bool r3, v3_]) ∧ Kd.R (Kd.int .u8) 5 w' w.heap.size (fun k_ => some k_ ≠ (v3_ : Value).ownBlock) v1_ r2 ∧ Kd.R (Kd.int .u8) 5 w' w.heap.size (fun k_ => some k_ ≠ (v1_ : Value).ownBlock) v3_ r4 ∧ Below w.heap.size w w' := by
  have hu28 := Try.underlying28
  have HR0_1 := Aside0.mk hr0_1
  have HC0_1 := Aside0.mk hc0_1
  clear hr0_1 hc0_1
  have HR0_3 := Aside0.mk hr0_3
  have HC0_3 := Aside0.mk hc0_3
  clear hr0_3 hc0_3
  have HB := Aside0.mk (Below.refl w.heap.size w)
  have H : ((bytes_Clone.f l0_1).bind fun t111 => ((bytes_Clone.f l0_3).bind fun t114 => (some (a0_0, t111, a0_2, t114)))) = some (r1, r2, r3, r4) := h
  clear h
  replace H := Option.bind_eq_some_iff.mp H
  obtain ⟨t111, A20, H⟩ := H
  replace H : ((bytes_Clone.f l0_3).bind fun t114 => (some (a0_0, t111, a0_2, t114))) = some (r1, r2, r3, r4) := H
  have A2 := Aside0.mk A20
  clear A20
  replace H := Option.bind_eq_some_iff.mp H
  obtain ⟨t114, A30, H⟩ := H
  replace H : (some (a0_0, t111, a0_2, t114)) = some (r1, r2, r3, r4) := H
  have A3 := Aside0.mk A30
  clear A30
  simp only [Option.some.injEq, Prod.mk.injEq] at H
  obtain ⟨rfl, rfl, rfl, rfl⟩ := H
  go_enter Try.func31, Try.ntmps31
  try go_wp2_with (first | ((with_reducible refine gate_dst (N := 1) rfl ?_); refine box_event ?hg (N := 1) ?hd (cs := #[.int .i64 a0_0, .slice A0_1 l0_1.length c0_1, .bool a0_2, .slice A0_3 l0_3.length c0_3]) (t := 28) ?hr ?_; (case hd => rfl); (case hg => rfl); (case hr => first | (go_simp; done) | (go_simp; rfl)); intro gb109 hg w4 hbox hb; have n0_ := Aside0.mk (below_step (by repeat (first | (with_reducible first | exact HB.out | apply below_alloc | apply pw_below_drewN | apply below_drew1) | exact HB.out)) hb); have n1_ := Aside0.mk (hbox); have n2_ := Aside0.mk ((by rw [hg]; exact (below_size (by repeat (first | (with_reducible first | exact HB.out | apply below_alloc | apply pw_below_drewN | apply below_drew1) | exact HB.out))) : w.heap.size ≤ gb109)); have n3_ := Aside0.mk ((by rw [hg]; exact (below_size (by repeat (first | (with_reducible first | exact HB.out | apply below_alloc | apply pw_below_drewN | apply below_drew1) | exact HB.out))) : w.heap.size ≤ gb109)); clear HB; have HB := n0_; have BK109 := n1_; have GW109 := n2_; have GE109 := n3_; clear n0_ n1_ n2_ n3_; clear hb hbox hg) | ((with_reducible refine gate_dst (N := 2) rfl ?_); refine box_event ?hg (N := 2) ?hd (cs := #[.int .i64 0, .slice none 0 0, .bool false, .slice none 0 0]) (t := 28) ?hr ?_; (case hd => rfl); (case hg => rfl); (case hr => first | (go_simp; done) | (go_simp; rfl)); intro gb110 hg w5 hbox hb; have n0_ := Aside0.mk (blk_below (g := gb109) (o := .cells #[.int .i64 a0_0, .slice A0_1 l0_1.length c0_1, .bool a0_2, .slice A0_3 l0_3.length c0_3] 28 (0, 0)) (by (with_reducible repeat (first | refine blk_drewN ?_ _ | refine blk_drew ?_ | refine blk_alloc ?_ _)); exact BK109.out) hb); have n1_ := Aside0.mk (below_step (by repeat (first | (with_reducible first | exact HB.out | apply below_alloc | apply pw_below_drewN | apply below_drew1 | refine below_set ?_ GE109.out) | exact HB.out)) hb); have n2_ := Aside0.mk (hbox); have n3_ := Aside0.mk ((by rw [hg]; exact (below_size (by repeat (first | (with_reducible first | exact HB.out | apply below_alloc | apply pw_below_drewN | apply below_drew1 | refine below_set ?_ GE109.out) | exact HB.out))) : w.heap.size ≤ gb110)); have n4_ := Aside0.mk ((by rw [hg]; exact (below_size (by repeat (first | (with_reducible first | exact HB.out | apply below_alloc | apply pw_below_drewN | apply below_drew1 | refine below_set ?_ GE109.out) | exact HB.out))) : w.heap.size ≤ gb110)); have n5_ := Aside0.mk ((by rw [hg]; exact Nat.ne_of_lt (blk_lt (g := gb109) (o := .cells #[.int .i64 a0_0, .slice A0_1 l0_1.length c0_1, .bool a0_2, .slice A0_3 l0_3.length c0_3] 28 (0, 0)) (by (with_reducible repeat (first | refine blk_drewN ?_ _ | refine blk_drew ?_ | refine blk_alloc ?_ _)); exact BK109.out)) : gb109 ≠ gb110)); have n6_ := Aside0.mk ((by rw [hg]; exact Nat.ne_of_gt (blk_lt (g := gb109) (o := .cells #[.int .i64 a0_0, .slice A0_1 l0_1.length c0_1, .bool a0_2, .slice A0_3 l0_3.length c0_3] 28 (0, 0)) (by (with_reducible repeat (first | refine blk_drewN ?_ _ | refine blk_drew ?_ | refine blk_alloc ?_ _)); exact BK109.out)) : gb110 ≠ gb109)); clear BK109; clear HB; have BK109 := n0_; have HB := n1_; have BK110 := n2_; have GW110 := n3_; have GE110 := n4_; have NB109_110 := n5_; have NB110_109 := n6_; clear n0_ n1_ n2_ n3_ n4_ n5_ n6_; clear hb hbox hg))
  have n0_ := Aside0.mk (blk_drew BK109.out)
  have n1_ := Aside0.mk (blk_drew BK110.out)
  have n2_ := Aside0.mk (below_drew1 HB.out)
  clear BK109
  clear BK110
  clear HB
  have BK109 := n0_
  have BK110 := n1_
  have HB := n2_
  clear n0_ n1_ n2_
  refine start_ (n := 10) (S := fun w' => w'.cell? ⟨gb109, 0, none⟩ = some (.int .i64 a0_0) ∧ w'.cell? ⟨gb109, 1, none⟩ = some (.slice A0_1 l0_1.length c0_1) ∧ w'.cell? ⟨gb109, 2, none⟩ = some (.bool a0_2) ∧ w'.cell? ⟨gb109, 3, none⟩ = some (.slice A0_3 l0_3.length c0_3)) (ds := [7, 9]) #[false, false, false, false, false, false, false, false, false, false] (by kernel_rfl) rfl rfl ⟨(blk_cell BK109.out 0).trans rfl, (blk_cell BK109.out 1).trans rfl, (blk_cell BK109.out 2).trans rfl, (blk_cell BK109.out 3).trans rfl⟩ (fun hHeld => ?_); refine with_tabW delta_write.tab1 delta_write.bits1 (fun HT_ HW_ => ?_)
  generalize w5.drew = w6 at BK109 BK110 HB hHeld ⊢
  refine pure_ (i := 0) (N := some 3) (v := ?_) (a' := ?_) #[true, false, false, false, false, false, false, false, false, false] rfl rfl (any_of HT_.out (by kernel_rfl)) (fun _ _ _ h => h) (Or.inl ⟨by rfl, ?_⟩) ?_ ?_
  rotate_left
  · intro w'
    go_simp
    with_reducible rfl
  rotate_left
  · simp only [Act.put, List.setIfInBounds_toArray, List.set_cons_zero, List.set_cons_succ, i64_w, i32_w]
    rfl
  refine pure_ (i := 3) (N := some 6) (v := ?_) (a' := ?_) #[true, false, false, true, false, false, false, false, false, false] rfl rfl (any_of HT_.out (by kernel_rfl)) (fun _ _ _ h => h) (Or.inl ⟨by rfl, ?_⟩) ?_ ?_
  rotate_left
  · intro w'
    go_simp
    with_reducible rfl
  rotate_left
  · simp only [Act.put, List.setIfInBounds_toArray, List.set_cons_zero, List.set_cons_succ, i64_w, i32_w]
    rfl
  refine take_ (i := 1) (N := some 4) (v := ?_) (a' := ?_) #[true, true, false, true, false, false, false, false, false, false] rfl rfl (take_ofW HT_.out HW_.out (by kernel_rfl)) (fun _ _ _ h => h) (Or.inl ⟨by rfl, ?_⟩) hHeld ?_ ?_
  rotate_left
  · rintro w' ⟨s0, s1, s2, s3⟩
    go_simp
    with_reducible rfl
  rotate_left
  · simp only [Act.put, List.setIfInBounds_toArray, List.set_cons_zero, List.set_cons_succ, i64_w, i32_w]
    rfl
  refine take_ (i := 4) (N := some 7) (v := ?_) (a' := ?_) #[true, true, false, true, true, false, false, false, false, false] rfl rfl (take_ofW HT_.out HW_.out (by kernel_rfl)) (fun _ _ _ h => h) (Or.inl ⟨by rfl, ?_⟩) hHeld ?_ ?_
  rotate_left
  · rintro w' ⟨s0, s1, s2, s3⟩
    go_simp
    with_reducible rfl
  rotate_left
  · simp only [Act.put, List.setIfInBounds_toArray, List.set_cons_zero, List.set_cons_succ, i64_w, i32_w]
    rfl
  refine one_ (i := 2) (N := some 5) #[true, true, true, true, true, false, false, false, false, false] rfl rfl (one_of HT_.out (by kernel_rfl)) (by decide) (fun K hK => ?_)
  refine goes_ Try.func46 (by kernel_rfl) rfl #[.slice A0_1 l0_1.length c0_1] (by rfl) rfl rfl (by (try simp only [List.map_toArray, List.map_cons, List.map_nil]); first | done | rfl | (simp only [List.length_drop, List.length_take]; rfl)) ?_
  with_reducible refine (bytes_Clone.calls _ _ l0_1 t111 _ ?side1 ?side2 A2.out).mono ?_
  (case side1 => repeat (first | exact (Kd.C_below HR0_1.out HB.out) | (with_reducible refine Kd.C_alloc ?_ _) | (with_reducible refine Kd.C_drewN ?_ _) | (with_reducible refine Kd.C_drew ?_)))
  (case side2 => exact HC0_1.out)
  rintro e w7 ⟨v112, rfl, ho0, hb⟩
  refine ⟨_, rfl, ?_⟩
  have n0_ := Aside0.mk (Kd.R_lower ho0 (below_size (by repeat (first | (with_reducible first | exact HB.out | apply below_alloc | apply pw_below_drewN | apply below_drew1 | refine below_set ?_ GE109.out | refine below_set ?_ GE110.out) | exact HB.out))))
  have n1_ := Aside0.mk (blk_below (g := gb109) (o := .cells #[.int .i64 a0_0, .slice A0_1 l0_1.length c0_1, .bool a0_2, .slice A0_3 l0_3.length c0_3] 28 (0, 0)) (by (with_reducible repeat (first | refine blk_drewN ?_ _ | refine blk_drew ?_ | refine blk_alloc ?_ _)); exact BK109.out) hb)
  have n2_ := Aside0.mk (blk_below (g := gb110) (o := .cells #[.int .i64 0, .slice none 0 0, .bool false, .slice none 0 0] 28 (0, 0)) (by (with_reducible repeat (first | refine blk_drewN ?_ _ | refine blk_drew ?_ | refine blk_alloc ?_ _)); exact BK110.out) hb)
  have n3_ := Aside0.mk (below_step (by repeat (first | (with_reducible first | exact HB.out | apply below_alloc | apply pw_below_drewN | apply below_drew1 | refine below_set ?_ GE109.out | refine below_set ?_ GE110.out) | exact HB.out)) hb)
  clear BK109
  clear BK110
  clear HB
  have HO113 := n0_
  have BK109 := n1_
  have BK110 := n2_
  have HB := n3_
  clear n0_ n1_ n2_ n3_
  (try clear hb)
  (try clear hb2)
  (try clear hk)
  (try clear hi)
  (try clear ho0)
  refine hK.out _ _ ⟨(blk_cell BK109.out 0).trans rfl, (blk_cell BK109.out 1).trans rfl, (blk_cell BK109.out 2).trans rfl, (blk_cell BK109.out 3).trans rfl⟩ (fun hHeld => ?_)
  clear hK K
  refine norm_ (a' := ?_) ?_ ?_
  rotate_left
  · show Act.put _ (some 5) _ = _
    simp only [Act.put, List.setIfInBounds_toArray, List.set_cons_zero, List.set_cons_succ, i64_w, i32_w]
    rfl
  refine pure_ (i := 6) (N := some 9) (v := ?_) (a' := ?_) #[true, true, true, true, true, false, true, false, false, false] rfl rfl (any_of HT_.out (by kernel_rfl)) (fun _ _ _ h => h) (Or.inl ⟨by rfl, ?_⟩) ?_ ?_
  rotate_left
  · intro w'
    go_simp
    with_reducible rfl
  rotate_left
  · simp only [Act.put, List.setIfInBounds_toArray, List.set_cons_zero, List.set_cons_succ, i64_w, i32_w]
    rfl
  refine one_ (i := 5) (N := some 8) #[true, true, true, true, true, true, true, false, false, false] rfl rfl (one_of HT_.out (by kernel_rfl)) (by decide) (fun K hK => ?_)
  refine goes_ Try.func46 (by kernel_rfl) rfl #[.slice A0_3 l0_3.length c0_3] (by rfl) rfl rfl (by (try simp only [List.map_toArray, List.map_cons, List.map_nil]); first | done | rfl | (simp only [List.length_drop, List.length_take]; rfl)) ?_
  with_reducible refine (bytes_Clone.calls _ _ l0_3 t114 _ ?side1 ?side2 A3.out).mono ?_
  (case side1 => repeat (first | exact (Kd.C_below HR0_3.out HB.out) | (with_reducible refine Kd.C_alloc ?_ _) | (with_reducible refine Kd.C_drewN ?_ _) | (with_reducible refine Kd.C_drew ?_)))
  (case side2 => exact HC0_3.out)
  rintro e w8 ⟨v115, rfl, ho0, hb⟩
  refine ⟨_, rfl, ?_⟩
  have n0_ := Aside0.mk (Kd.R_elder' (by (with_reducible repeat (first | apply Kd.R_alloc | apply Kd.R_drewN | apply Kd.R_drew)); exact HO113.out) (Kd.R_base ho0) hb)
  have n1_ := Aside0.mk (Kd.R_lower (Kd.R_new' ho0 (Kd.R_lt (by (with_reducible repeat (first | apply Kd.R_alloc | apply Kd.R_drewN | apply Kd.R_drew)); exact HO113.out))) (below_size (by repeat (first | (with_reducible first | exact HB.out | apply below_alloc | apply pw_below_drewN | apply below_drew1 | refine below_set ?_ GE109.out | refine below_set ?_ GE110.out) | exact HB.out))))
  have n2_ := Aside0.mk (blk_below (g := gb109) (o := .cells #[.int .i64 a0_0, .slice A0_1 l0_1.length c0_1, .bool a0_2, .slice A0_3 l0_3.length c0_3] 28 (0, 0)) (by (with_reducible repeat (first | refine blk_drewN ?_ _ | refine blk_drew ?_ | refine blk_alloc ?_ _)); exact BK109.out) hb)
  have n3_ := Aside0.mk (blk_below (g := gb110) (o := .cells #[.int .i64 0, .slice none 0 0, .bool false, .slice none 0 0] 28 (0, 0)) (by (with_reducible repeat (first | refine blk_drewN ?_ _ | refine blk_drew ?_ | refine blk_alloc ?_ _)); exact BK110.out) hb)
  have n4_ := Aside0.mk (below_step (by repeat (first | (with_reducible first | exact HB.out | apply below_alloc | apply pw_below_drewN | apply below_drew1 | refine below_set ?_ GE109.out | refine below_set ?_ GE110.out) | exact HB.out)) hb)
  clear HO113
  clear BK109
  clear BK110
  clear HB
  have HO113 := n0_
  have HO116 := n1_
  have BK109 := n2_
  have BK110 := n3_
  have HB := n4_
  clear n0_ n1_ n2_ n3_ n4_
  (try clear hb)
  (try clear hb2)
  (try clear hk)
  (try clear hi)
  (try clear ho0)
  obtain ⟨Ao9, co9, eo9⟩ := Kd.R_slice HO113.out
  (first | subst eo9 | (injection eo9 with f1_ f2_ f3_; have f4_ := f1_.symm; have f5_ := f3_.symm; clear f1_ f2_ f3_; subst f4_; subst f5_))
  obtain ⟨Ao11, co11, eo11⟩ := Kd.R_slice HO116.out
  (first | subst eo11 | (injection eo11 with f1_ f2_ f3_; have f4_ := f1_.symm; have f5_ := f3_.symm; clear f1_ f2_ f3_; subst f4_; subst f5_))
  refine hK.out _ _ ⟨(blk_cell BK109.out 0).trans rfl, (blk_cell BK109.out 1).trans rfl, (blk_cell BK109.out 2).trans rfl, (blk_cell BK109.out 3).trans rfl⟩ (fun hHeld => ?_)
  clear hK K
  refine norm_ (a' := ?_) ?_ ?_
  rotate_left
  · show Act.put _ (some 8) _ = _
    simp only [Act.put, List.setIfInBounds_toArray, List.set_cons_zero, List.set_cons_succ, i64_w, i32_w]
    rfl
  refine last_ (i := 7) (N := none) #[true, true, true, true, true, true, true, true, false, false] rfl rfl (one_of HT_.out (by kernel_rfl)) (by decide) (fun K hK => ?_)
  have hs10 : w8.cell? ⟨gb109, 1, none⟩ = some (.slice A0_1 l0_1.length c0_1) := (blk_cell BK109.out 1).trans rfl
  have hfs10 := blk_frozen BK109.out 1
  have hns10_1 := NB110_109.out
  have hms10_1 := NB109_110.out
  refine skip_ (w1 := ?_) (by rfl) rfl ?_ ?_
  rotate_left
  · go_simp
    rfl
  refine hK.out _ _ ?_
  clear hK K
  refine pure_ (i := 8) (N := some 10) (v := ?_) (a' := ?_) #[true, true, true, true, true, true, true, true, true, false] rfl rfl (any_of HT_.out (by kernel_rfl)) (fun _ _ _ h => h) (Or.inl ⟨by rfl, ?_⟩) ?_ ?_
  rotate_left
  · intro w'
    go_simp
    with_reducible rfl
  rotate_left
  · simp only [Act.put, List.setIfInBounds_toArray, List.set_cons_zero, List.set_cons_succ, i64_w, i32_w]
    rfl
  refine last_ (i := 9) (N := none) #[true, true, true, true, true, true, true, true, true, true] rfl rfl (one_of HT_.out (by kernel_rfl)) (by decide) (fun K hK => ?_)
  have hs12 : w8.cell? ⟨gb109, 3, none⟩ = some (.slice A0_3 l0_3.length c0_3) := (blk_cell BK109.out 3).trans rfl
  have hfs12 := blk_frozen BK109.out 3
  have hns12_1 := NB110_109.out
  have hms12_1 := NB109_110.out
  refine skip_ (w1 := ?_) (by rfl) rfl ?_ ?_
  rotate_left
  · go_simp
    rfl
  refine hK.out _ _ ?_
  clear hK K
  refine done_ (done_of HT_.out (by kernel_rfl)) ?_
  have hnb13 := NB109_110.out
  have hnc13 := NB110_109.out
  have hcz14_0 : w8.cell? ⟨gb109, 0, none⟩ = some (.int .i64 a0_0) := (blk_cell BK109.out 0).trans rfl
  have hcz14_1 : w8.cell? ⟨gb109, 1, none⟩ = some (.slice A0_1 l0_1.length c0_1) := (blk_cell BK109.out 1).trans rfl
  have hcz14_2 : w8.cell? ⟨gb109, 2, none⟩ = some (.bool a0_2) := (blk_cell BK109.out 2).trans rfl
  have hcz14_3 : w8.cell? ⟨gb109, 3, none⟩ = some (.slice A0_3 l0_3.length c0_3) := (blk_cell BK109.out 3).trans rfl
  have hfz14_0 := blk_frozen BK109.out 0
  have hfz14_1 := blk_frozen BK109.out 1
  have hfz14_2 := blk_frozen BK109.out 2
  have hfz14_3 := blk_frozen BK109.out 3
  have hcz15_0 : w8.cell? ⟨gb110, 0, none⟩ = some (.int .i64 0) := (blk_cell BK110.out 0).trans rfl
  have hcz15_1 : w8.cell? ⟨gb110, 1, none⟩ = some (.slice none 0 0) := (blk_cell BK110.out 1).trans rfl
  have hcz15_2 : w8.cell? ⟨gb110, 2, none⟩ = some (.bool false) := (blk_cell BK110.out 2).trans rfl
  have hcz15_3 : w8.cell? ⟨gb110, 3, none⟩ = some (.slice none 0 0) := (blk_cell BK110.out 3).trans rfl
  have hfz15_0 := blk_frozen BK110.out 0
  have hfz15_1 := blk_frozen BK110.out 1
  have hfz15_2 := blk_frozen BK110.out 2
  have hfz15_3 := blk_frozen BK110.out 3
  try go_wp2
  refine bodyPost_ret (results_cell_row rfl _ _ gb110 28 #[.int .i64 a0_0, .slice Ao9 t111.length co9, .bool a0_2, .slice Ao11 t114.length co11] (0, 0) _ rfl (by (with_reducible repeat (first | refine blk_drewN ?_ _ | refine blk_drew ?_ | refine blk_alloc ?_ _)); refine blk_put (cs := #[.int .i64 a0_0, .slice Ao9 t111.length co9, .bool a0_2, .slice none 0 0]) ?_ 3 _ rfl; (with_reducible repeat (first | refine blk_drewN ?_ _ | refine blk_drew ?_ | refine blk_alloc ?_ _)); refine blk_put (cs := #[.int .i64 a0_0, .slice Ao9 t111.length co9, .bool false, .slice none 0 0]) ?_ 2 _ rfl; (with_reducible repeat (first | refine blk_drewN ?_ _ | refine blk_drew ?_ | refine blk_alloc ?_ _)); refine blk_put (cs := #[.int .i64 a0_0, .slice none 0 0, .bool false, .slice none 0 0]) ?_ 1 _ rfl; (with_reducible repeat (first | refine blk_drewN ?_ _ | refine blk_drew ?_ | refine blk_alloc ?_ _)); refine blk_put (cs := #[.int .i64 0, .slice none 0 0, .bool false, .slice none 0 0]) ?_ 0 _ rfl; (with_reducible repeat (first | refine blk_drewN ?_ _ | refine blk_drew ?_ | refine blk_alloc ?_ _)); refine blk_far ?_ NB110_109.out _; (with_reducible repeat (first | refine blk_drewN ?_ _ | refine blk_drew ?_ | refine blk_alloc ?_ _)); refine blk_far ?_ NB110_109.out _; (with_reducible repeat (first | refine blk_drewN ?_ _ | refine blk_drew ?_ | refine blk_alloc ?_ _)); exact BK110.out) Try.underlying28 rfl (by kernel_rfl)) rfl ?_
  exact ⟨_, _, by first | rfl | (simp [errW_none, errW_some] <;> rfl) | (simp [*, errW_none, errW_some] <;> rfl), by (with_reducible repeat (first | apply Kd.R_alloc | apply Kd.R_drewN | apply Kd.R_drew)); exact Kd.R_mono (Kd.R_far (p := ⟨gb110, 3, none⟩) (Kd.R_far (p := ⟨gb110, 2, none⟩) (Kd.R_far (p := ⟨gb110, 1, none⟩) (Kd.R_far (p := ⟨gb110, 0, none⟩) (Kd.R_far (p := ⟨gb109, 3, none⟩) (Kd.R_far (p := ⟨gb109, 1, none⟩) (Kd.R_types (Kd.R_types HO113.out BK109.out (by decide)) BK110.out (by decide)) (fun _ hk => hk.1.2) (.slice Ao9 t111.length co9)) (fun _ hk => hk.1.2) (.slice Ao11 t114.length co11)) (fun _ hk => hk.2) (.int .i64 a0_0)) (fun _ hk => hk.2) (.slice Ao9 t111.length co9)) (fun _ hk => hk.2) (.bool a0_2)) (fun _ hk => hk.2) (.slice Ao11 t114.length co11)) (fun _ hk => hk.1.1.2), by (with_reducible repeat (first | apply Kd.R_alloc | apply Kd.R_drewN | apply Kd.R_drew)); exact Kd.R_mono (Kd.R_far (p := ⟨gb110, 3, none⟩) (Kd.R_far (p := ⟨gb110, 2, none⟩) (Kd.R_far (p := ⟨gb110, 1, none⟩) (Kd.R_far (p := ⟨gb110, 0, none⟩) (Kd.R_far (p := ⟨gb109, 3, none⟩) (Kd.R_far (p := ⟨gb109, 1, none⟩) (Kd.R_types (Kd.R_types HO116.out BK109.out (by decide)) BK110.out (by decide)) (fun _ hk => hk.1.2) (.slice Ao9 t111.length co9)) (fun _ hk => hk.1.2) (.slice Ao11 t114.length co11)) (fun _ hk => hk.2) (.int .i64 a0_0)) (fun _ hk => hk.2) (.slice Ao9 t111.length co9)) (fun _ hk => hk.2) (.bool a0_2)) (fun _ hk => hk.2) (.slice Ao11 t114.length co11)) (fun _ hk => hk.1.1.2), by repeat (first | (with_reducible first | exact HB.out | apply below_alloc | apply pw_below_drewN | apply below_drew1 | refine below_set ?_ GE109.out | refine below_set ?_ GE110.out) | exact HB.out)⟩
end Go.Proofs.Ytbjeaalbdaedpaa.P
namespace Go.Proofs.Ytbjeaalbdaedpaa.P
open Go.RowKit Go.Proofs.YtbjeaalbdaedpaaW.PrintWords Go.Proofs.YtbjeaalbdaedpaaW.PrintLast Go.Proofs.YtbjeaalbdaedpaaW.PrintMore
attribute [local go_sem] max2_int min2_int max_two min_two max_three min_three max_four min_four
set_option linter.unusedVariables false
set_option linter.unusedSimpArgs false
def slices_Clone_Write.f (l0 : List (S28)) : Option ((List (S28))) := if l0.length < 2199023255552 then some l0 else none
set_option maxHeartbeats 1000000 in
set_option maxRecDepth 100000 in
theorem slices_Clone_Write.calls (P0_ : Nat → Prop) (A0 : Option Addr) (c0 : Nat) (l0 : List (S28)) (r : List (S28)) (w : World) (hs0 : Kd.V k28 28 w w.heap.size (fun k_ => P0_ k_) (.slice A0 l0.length c0) l0) (h : slices_Clone_Write.f l0 = some r) :
    Calls Try.prog 52 #[.slice A0 l0.length c0] w fun e w' => ∃ v0_ : Value, e = .returned (v0_) ∧ Kd.N k28 28 w' w.heap.size (fun k_ => (P0_ k_ ∨ w.heap.size ≤ k_)) v0_ r ∧ Below w.heap.size w w' := by
  unfold slices_Clone_Write.f at h
  have hlt : l0.length < 2199023255552 := Classical.byContradiction fun hn => by rw [if_neg hn] at h; cases h
  rw [if_pos hlt] at h
  obtain rfl := Option.some.inj h
  clear h
  have hF := Kd.V_F hs0
  cases A0 with
  | none =>
    have hl : l0.length = 0 := Classical.byContradiction fun hn => by
      obtain ⟨ad, he, _⟩ := (Kd.F_now hF).2.2 (by omega)
      cases he
    obtain rfl : l0 = [] := List.length_eq_zero_iff.mp hl
    have ke : ∀ w, (binOp .eql 22 (.slice none 0 c0) (.slice none 0 0)).run Try.prog w = .ok (.bool true) w := fun w => Lib.run_eql_slice_nil w _ _ none 0 c0 0 0 Try.underlying22
    clear hs0 hl hF
    go_enter Try.func52, Try.ntmps52
    go_wp2
    go_ret
    exact ⟨_, rfl, Kd.N_nil _ _ _ _ _, Below.refl _ _⟩
  | some a =>
    have ke : ∀ w, (binOp .eql 22 (.slice (some a) l0.length c0) (.slice none 0 0)).run Try.prog w = .ok (.bool false) w := fun w => Lib.run_eql_slice_nil w _ _ (some a) l0.length c0 0 0 Try.underlying22
    have HF := Aside0.mk hF
    clear hs0 hF
    go_enter Try.func52, Try.ntmps52
    go_wp2_with (first | ((with_reducible refine gate_dst (N := 5) rfl ?_); refine Kd.R_lit k28 w.heap.size 28 ?hg (N := 5) ?hd (xs := ([] : List S28)) (inner := []) (ok := fun k => w.heap.size ≤ k) (okp := fun k => w.heap.size ≤ k) ?hr ?hp (fun _ hk => hk) (Nat.le_refl _) (Below.refl _ _) (Nat.le_refl _) (by simp) ?_; (case hd => rfl); (case hg => rfl); (case hr => first | (go_simp; done) | (go_simp; rfl)); (case hp => exact (Reps.none _ _)); intro v5 w5 ho5 hb5 hg5 hn5; have HO5 := Aside0.mk (Kd.R_N ho5); have HB5 := Aside0.mk hb5; clear ho5 hb5 hg5 hn5) | ((with_reducible refine gate_builtin (b := .append) (xs := #[.tmp 5, .tmp 6]) rfl ?_); at_builtin; refine Kd.N_append_rows k28 (w0 := w) w.heap.size rfl (.tmp 5) (.tmp 6) 22 28 _ _ rfl Try.underlying22 info28 rfl (by decide) (by omega) _ [] l0 _ _ _ (fun k => P0_ k ∨ w.heap.size ≤ k) (fun k => P0_ k ∧ k < w.heap.size) rfl rfl (Kd.N_mono HO5.out (fun k hk => .inr hk)) (Kd.F_below (Kd.F_bound HF.out) HB5.out) (fun k hk => ⟨.inl hk.1, fun he => by have := Kd.N_base HO5.out k he.symm; have := hk.2; omega⟩) (fun k hk => .inr (Nat.le_trans (below_size HB5.out) hk)) HB5.out (below_size HB5.out) (by simp; omega) ?_; intro v7 w7 ho7 hb7 hg7 ha7; have HO7 := Aside0.mk ho7; have HB7 := Aside0.mk hb7; clear ho7 hb7 hg7 ha7))
    go_ret
    exact ⟨_, rfl, HO7.out, HB7.out⟩
end Go.Proofs.Ytbjeaalbdaedpaa.P
namespace Go.Proofs.Ytbjeaalbdaedpaa.P
open Go.RowKit Go.Proofs.YtbjeaalbdaedpaaW.PrintWords Go.Proofs.YtbjeaalbdaedpaaW.PrintLast Go.Proofs.YtbjeaalbdaedpaaW.PrintMore
attribute [local go_sem] max2_int min2_int max_two min_two max_three min_three max_four min_four
set_option linter.unusedVariables false
set_option linter.unusedSimpArgs false
def slices_Clone_int.f (l0 : List Int) : Option (List Int) := if l0.length < 17592186044416 then some l0 else none
set_option maxHeartbeats 1000000 in
set_option maxRecDepth 100000 in
theorem slices_Clone_int.calls (A0 : Option Addr) (c0 : Nat) (l0 : List Int) (r : List Int) (w : World) (hr0 : Kd.C (Kd.int .i64) w A0 l0.length l0) (hc0 : l0.length ≤ c0) (h : slices_Clone_int.f l0 = some r) :
    Calls Try.prog 53 #[.slice A0 l0.length c0] w fun e w' => ∃ v0_ : Value, e = .returned (v0_) ∧ Kd.R (Kd.int .i64) 3 w' w.heap.size (fun _ => True) v0_ r ∧ Below w.heap.size w w' := by
  unfold slices_Clone_int.f at h
  have hlt : l0.length < 17592186044416 := Classical.byContradiction fun hn => by rw [if_neg hn] at h; cases h
  rw [if_pos hlt] at h
  obtain rfl := Option.some.inj h
  clear h
  cases A0 with
  | none =>
    have hl : l0.length = 0 := Classical.byContradiction fun hn => by
      obtain ⟨ad, he, _⟩ := hr0.2.2 (by omega)
      cases he
    obtain rfl : l0 = [] := List.length_eq_zero_iff.mp hl
    have ke : ∀ w, (binOp .eql 23 (.slice none 0 c0) (.slice none 0 0)).run Try.prog w = .ok (.bool true) w := fun w => Lib.run_eql_slice_nil w _ _ none 0 c0 0 0 Try.underlying23
    clear hr0 hl
    go_enter Try.func53, Try.ntmps53
    go_wp2
    go_ret
    exact ⟨_, rfl, Kd.R_nil _ _ _ _ _, Below.refl _ _⟩
  | some a =>
    have ke : ∀ w, (binOp .eql 23 (.slice (some a) l0.length c0) (.slice none 0 0)).run Try.prog w = .ok (.bool false) w := fun w => Lib.run_eql_slice_nil w _ _ (some a) l0.length c0 0 0 Try.underlying23
    have HR := Aside0.mk hr0
    clear hr0
    go_enter Try.func53, Try.ntmps53
    go_wp2_with (first | ((with_reducible refine gate_dst (N := 5) rfl ?_); refine Kd.R_lit (Kd.int .i64) w.heap.size 3 ?hg (N := 5) ?hd (xs := ([] : List Int)) (inner := []) (ok := fun _ => True) (okp := fun _ => True) ?hr ?hp (fun _ hk => hk) trivial (Below.refl _ _) (Nat.le_refl _) (by simp) ?_; (case hd => rfl); (case hg => rfl); (case hr => first | (go_simp; done) | (go_simp; rfl)); (case hp => exact (Reps.none _ _)); intro v5 w5 ho5 hb5 hg5 hn5; have HO5 := Aside0.mk ho5; have HB5 := Aside0.mk hb5; clear ho5 hb5 hg5 hn5) | ((with_reducible refine gate_builtin (b := .append) (xs := #[.tmp 5, .tmp 6]) rfl ?_); at_builtin; refine Kd.R_append_rows (Kd.int .i64) (w0 := w) w.heap.size rfl (.tmp 5) (.tmp 6) 23 3 (.int .i64 0) 8 rfl Try.underlying23 info3 rfl (by decide) (by omega) _ [] l0 _ _ _ (fun _ => True) (fun _ => False) rfl rfl HO5.out (Kd.C_below HR.out HB5.out) (fun _ _ h => h) (fun _ h => h.elim) (fun _ _ => trivial) HB5.out (below_size HB5.out) (by simp; omega) ?_; intro v7 w7 ho7 hb7 hg7 ha7; have HO7 := Aside0.mk ho7; have HB7 := Aside0.mk hb7; clear ho7 hb7 hg7 ha7))
    go_ret
    exact ⟨_, rfl, HO7.out, HB7.out⟩
end Go.Proofs.Ytbjeaalbdaedpaa.P
namespace Go.Proofs.Ytbjeaalbdaedpaa.P
open Go.RowKit Go.Proofs.YtbjeaalbdaedpaaW.PrintWords Go.Proofs.YtbjeaalbdaedpaaW.PrintLast Go.Proofs.YtbjeaalbdaedpaaW.PrintMore
attribute [local go_sem] max2_int min2_int max_two min_two max_three min_three max_four min_four
set_option linter.unusedVariables false
set_option linter.unusedSimpArgs false
def okDw (l : List S28) (m : List Int) : Bool := (decide (l.length < 2199023255552) && l.all fun x => decide (x.f1.length < 140737488355328) && decide (x.f3.length < 140737488355328)) && decide (m.length < 17592186044416)
def OwnD (P : Nat → Prop) (w : World) (s : Nat) (Aw : Option Addr) (cw : Nat) (Am : Option Addr) (cm : Nat) (l : List S28) (m : List Int) (W : World) : Prop :=
  W.heap[s]? = some (.cells #[.slice Aw l.length cw, .slice Am m.length cm] 25 (0, 0)) ∧ W.heap[s + 1]? = some (.cells #[.slice none 0 0, .slice none 0 0] 25 (0, 0)) ∧
  Kd.N k28 28 W (s + 2) (fun q => ((P q ∧ q < s) ∨ s + 2 ≤ q) ∧ some q ≠ (Value.slice Am m.length cm).ownBlock) (.slice Aw l.length cw) l ∧
  Kd.R (Kd.int .i64) 3 W (s + 2) (fun q => s + 2 ≤ q) (.slice Am m.length cm) m ∧ Below w.heap.size w W
def delta_own.f (l0_0 : List (S28)) (l0_1 : List Int) : Option ((List (S28)) × List Int) := if okDw l0_0 l0_1 = true then some (l0_0, l0_1) else none
set_option maxHeartbeats 4000000 in
set_option maxRecDepth 100000 in
theorem delta_own.calls (P0_0_ : Nat → Prop) (A0_0 : Option Addr) (c0_0 : Nat) (l0_0 : List (S28)) (A0_1 : Option Addr) (c0_1 : Nat) (l0_1 : List Int) (r1 : List (S28)) (r2 : List Int) (w : World) (hs0_0 : Kd.V k28 28 w w.heap.size (fun k_ => P0_0_ k_) (.slice A0_0 l0_0.length c0_0) l0_0) (hr0_1 : Kd.C (Kd.int .i64) w A0_1 l0_1.length l0_1) (hc0_1 : l0_1.length ≤ c0_1) (h : delta_own.f l0_0 l0_1 = some (r1, r2)) :
    Calls Try.prog 29 #[.agg #[.slice A0_0 l0_0.length c0_0, .slice A0_1 l0_1.length c0_1]] w fun e w' => ∃ v0_ v1_ : Value, e = .returned (.agg #[v0_, v1_]) ∧ Kd.N k28 28 w' w.heap.size (fun k_ => (P0_0_ k_ ∨ w.heap.size ≤ k_) ∧ some k_ ≠ (v1_ : Value).ownBlock) v0_ r1 ∧ Kd.R (Kd.int .i64) 3 w' w.heap.size (fun k_ => (w.heap.size ≤ k_)) v1_ r2 ∧ Below w.heap.size w w' := by
  unfold delta_own.f at h
  have hok : okDw l0_0 l0_1 = true := Classical.byContradiction fun hn => by rw [if_neg hn] at h; cases h
  rw [if_pos hok] at h
  have hfin := Option.some.inj h
  simp only [Prod.mk.injEq] at hfin
  obtain ⟨rfl, rfl⟩ := hfin
  clear h
  unfold okDw at hok
  simp only [Bool.and_eq_true, decide_eq_true_eq, List.all_eq_true] at hok
  obtain ⟨⟨hln, hsm⟩, hlm⟩ := hok
  have HSM := Aside0.mk hsm
  have HS := Aside0.mk (show Kd.V k28 28 w w.heap.size (fun k_ => P0_0_ k_ ∧ k_ < w.heap.size) (.slice A0_0 l0_0.length c0_0) l0_0 from Kd.V_mk (Kd.V_at hs0_0).2.1 (Kd.F_bound (Kd.V_F hs0_0)))
  have HR1 := Aside0.mk hr0_1
  have HC1 := Aside0.mk (show slices_Clone_Write.f l0_0 = some l0_0 by unfold slices_Clone_Write.f; rw [if_pos hln])
  have HC2 := Aside0.mk (show slices_Clone_int.f l0_1 = some l0_1 by unfold slices_Clone_int.f; rw [if_pos hlm])
  have hu := Try.underlying25
  have huw := Try.underlying28
  clear hsm hs0_0 hr0_1
  obtain ⟨s, hs⟩ : ∃ s, s = w.heap.size := ⟨_, rfl⟩
  have HSE := Aside0.mk hs
  obtain ⟨w2, hw2⟩ : ∃ w2, w2 = (w.alloc (.cells #[.slice A0_0 l0_0.length c0_0, .slice A0_1 l0_1.length c0_1] 25 (0, 0))).alloc (.cells #[.slice none 0 0, .slice none 0 0] 25 (0, 0)) := ⟨_, rfl⟩
  have hB0 : w2.heap[s]? = some (.cells #[.slice A0_0 l0_0.length c0_0, .slice A0_1 l0_1.length c0_1] 25 (0, 0)) := by rw [hw2, hs]; exact blk_alloc (heap_alloc_new w _) _
  have hB1 : w2.heap[s + 1]? = some (.cells #[.slice none 0 0, .slice none 0 0] 25 (0, 0)) := by
    rw [hw2, hs]; have := heap_alloc_new (w.alloc (.cells #[.slice A0_0 l0_0.length c0_0, .slice A0_1 l0_1.length c0_1] 25 (0, 0))) (.cells #[.slice none 0 0, .slice none 0 0] 25 (0, 0)); rwa [World.size_alloc] at this
  have hBB : Below w.heap.size w w2 := by rw [hw2]; exact below_alloc (below_alloc (Below.refl _ _) _) _
  have hsz0 : w2.heap.size = s + 2 := by rw [hw2, hs, World.size_alloc, World.size_alloc]
  go_enter Try.func29, Try.ntmps29
  go_wp2_with (fail)
  rw [← hs]
  rw [← hw2]
  clear hw2 hs
  have HB0 := Aside0.mk hB0
  have HB1 := Aside0.mk hB1
  have HBB := Aside0.mk hBB
  clear hB0 hB1 hBB
  have hq0 : w2.cell? ⟨s, 0, none⟩ = some (.slice A0_0 l0_0.length c0_0) := (blk_cell HB0.out 0).trans rfl
  have hq1 : w2.cell? ⟨s, 1, none⟩ = some (.slice A0_1 l0_1.length c0_1) := (blk_cell HB0.out 1).trans rfl
  refine start_ (n := 10) (S := fun w' => w'.cell? ⟨s, 0, none⟩ = some (.slice A0_0 l0_0.length c0_0) ∧ w'.cell? ⟨s, 1, none⟩ = some (.slice A0_1 l0_1.length c0_1)) (ds := [7, 9]) #[false, false, false, false, false, false, false, false, false, false] (by kernel_rfl) rfl rfl ⟨hq0, hq1⟩ (fun hHeld => ?_)
  clear hq0 hq1
  have HX1 := Aside0.mk (show w2.drew.heap[s]? = _ from HB0.out)
  have HX2 := Aside0.mk (show w2.drew.heap[s + 1]? = _ from HB1.out)
  have HX3 := Aside0.mk (below_drew1 HBB.out)
  have hsz1 : w2.drew.heap.size = s + 2 := hsz0
  clear HB0 HB1 HBB hsz0
  generalize w2.drew = wa at HX1 HX2 HX3 hsz1 hHeld ⊢
  refine pure_ (i := 0) (N := some 5) (v := ?_) (a' := ?_) #[true, false, false, false, false, false, false, false, false, false] rfl rfl (by kernel_rfl) (fun _ _ _ h => h) (Or.inl ⟨by rfl, ?_⟩) ?_ ?_
  rotate_left
  · intro w'
    go_simp
    with_reducible rfl
  rotate_left
  · simp only [Act.put, List.setIfInBounds_toArray, List.set_cons_zero, List.set_cons_succ]
    rfl
  refine take_ (i := 1) (N := some 6) (v := ?_) (a' := ?_) #[true, true, false, false, false, false, false, false, false, false] rfl rfl (by kernel_rfl) (fun _ _ _ h => h) (Or.inl ⟨by rfl, ?_⟩) hHeld ?_ ?_
  rotate_left
  · rintro w' ⟨s0, s1⟩
    go_simp
    with_reducible rfl
  rotate_left
  · simp only [Act.put, List.setIfInBounds_toArray, List.set_cons_zero, List.set_cons_succ]
    rfl
  refine pure_ (i := 3) (N := some 8) (v := ?_) (a' := ?_) #[true, true, false, true, false, false, false, false, false, false] rfl rfl (by kernel_rfl) (fun _ _ _ h => h) (Or.inl ⟨by rfl, ?_⟩) ?_ ?_
  rotate_left
  · intro w'
    go_simp
    with_reducible rfl
  rotate_left
  · simp only [Act.put, List.setIfInBounds_toArray, List.set_cons_zero, List.set_cons_succ]
    rfl
  refine take_ (i := 4) (N := some 9) (v := ?_) (a' := ?_) #[true, true, false, true, true, false, false, false, false, false] rfl rfl (by kernel_rfl) (fun _ _ _ h => h) (Or.inl ⟨by rfl, ?_⟩) hHeld ?_ ?_
  rotate_left
  · rintro w' ⟨s0, s1⟩
    go_simp
    with_reducible rfl
  rotate_left
  · simp only [Act.put, List.setIfInBounds_toArray, List.set_cons_zero, List.set_cons_succ]
    rfl
  refine one_ (i := 2) (N := some 7) #[true, true, true, true, true, false, false, false, false, false] rfl rfl (by kernel_rfl) (by decide) (fun K hK => ?_)
  refine goes_ Try.func52 (by kernel_rfl) rfl #[.slice A0_0 l0_0.length c0_0] (by rfl) rfl rfl (by (try simp only [List.map_toArray, List.map_cons, List.map_nil]); first | done | rfl) ?_
  refine (slices_Clone_Write.calls (fun k_ => P0_0_ k_ ∧ k_ < w.heap.size) A0_0 c0_0 l0_0 l0_0 wa (Kd.V_below HS.out HX3.out) HC1.out).mono ?_
  rintro e wb ⟨v, rfl, hN, hb⟩
  have HY1 := Aside0.mk ((hb.block _ (blk_lt HX1.out)).trans HX1.out)
  have HY2 := Aside0.mk ((hb.block _ (blk_lt HX2.out)).trans HX2.out)
  have HY3 := Aside0.mk (below_step HX3.out hb)
  have hszb : s + 2 ≤ wb.heap.size := by have := hb.size; omega
  refine ⟨_, rfl, ?_⟩
  refine hK.out _ _ ⟨(blk_cell HY1.out 0).trans rfl, (blk_cell HY1.out 1).trans rfl⟩ (fun hHeld => ?_)
  clear hK K
  refine norm_ (a' := ?_) ?_ ?_
  rotate_left
  · show Act.put _ (some 7) _ = _
    simp only [Act.put, List.setIfInBounds_toArray, List.set_cons_zero, List.set_cons_succ]
    rfl
  obtain ⟨Aw, cw, rfl⟩ := Kd.N_slice hN
  have HN := Aside0.mk (Kd.N_mono (Kd.N_bound hN) (ok' := fun q => ((P0_0_ q ∧ q < s) ∨ s + 2 ≤ q) ∧ q < wb.heap.size) (fun q hq => ⟨hq.1.imp (fun h => ⟨h.1, by rw [HSE.out]; exact h.2⟩) (fun h => by omega), hq.2⟩))
  clear hN hb
  refine pure_ (i := 6) (N := some 11) (v := ?_) (a' := ?_) #[true, true, true, true, true, false, true, false, false, false] rfl rfl (by kernel_rfl) (fun _ _ _ h => h) (Or.inl ⟨by rfl, ?_⟩) ?_ ?_
  rotate_left
  · intro w'
    go_simp
    with_reducible rfl
  rotate_left
  · simp only [Act.put, List.setIfInBounds_toArray, List.set_cons_zero, List.set_cons_succ]
    rfl
  refine one_ (i := 5) (N := some 10) #[true, true, true, true, true, true, true, false, false, false] rfl rfl (by kernel_rfl) (by decide) (fun K hK => ?_)
  refine goes_ Try.func53 (by kernel_rfl) rfl #[.slice A0_1 l0_1.length c0_1] (by rfl) rfl rfl (by (try simp only [List.map_toArray, List.map_cons, List.map_nil]); first | done | rfl) ?_
  refine (slices_Clone_int.calls A0_1 c0_1 l0_1 l0_1 wb (Kd.C_below HR1.out HY3.out) hc0_1 HC2.out).mono ?_
  rintro e wc ⟨v, rfl, hM, hb⟩
  have HZ1 := Aside0.mk ((hb.block _ (blk_lt HY1.out)).trans HY1.out)
  have HZ2 := Aside0.mk ((hb.block _ (blk_lt HY2.out)).trans HY2.out)
  have HZ3 := Aside0.mk (below_step HY3.out hb)
  have hszc : wb.heap.size ≤ wc.heap.size := hb.size
  refine ⟨_, rfl, ?_⟩
  refine hK.out _ _ ⟨(blk_cell HZ1.out 0).trans rfl, (blk_cell HZ1.out 1).trans rfl⟩ (fun hHeld => ?_)
  clear hK K
  refine norm_ (a' := ?_) ?_ ?_
  rotate_left
  · show Act.put _ (some 10) _ = _
    simp only [Act.put, List.setIfInBounds_toArray, List.set_cons_zero, List.set_cons_succ]
    rfl
  have HN2 := Aside0.mk (Kd.N_below HN.out hb)
  obtain ⟨Am, cm, rfl⟩ := Kd.R_slice hM
  have HM := Aside0.mk hM
  clear hM hb HN
  have hfz := blk_frozen HZ1.out 0
  have hk0 := (blk_cell HZ1.out 0).trans rfl
  have hk1 := (blk_cell HZ1.out 1).trans rfl
  refine last_ (i := 7) (N := none) #[true, true, true, true, true, true, true, true, false, false] rfl rfl (by kernel_rfl) (by decide) (fun K hK => ?_)
  refine skip_ (w1 := ?_) (by rfl) rfl ?_ ?_
  rotate_left
  · go_simp
    rfl
  refine hK.out _ _ ?_
  clear hK K
  have HG4 := Aside0.mk (blk_set HZ1.out 0 (.slice Aw l0_0.length cw))
  have hfz4 := blk_frozen HG4.out 1
  refine pure_ (i := 8) (N := some 12) (v := ?_) (a' := ?_) #[true, true, true, true, true, true, true, true, true, false] rfl rfl (by kernel_rfl) (fun _ _ _ h => h) (Or.inl ⟨by rfl, ?_⟩) ?_ ?_
  rotate_left
  · intro w'
    go_simp
    with_reducible rfl
  rotate_left
  · simp only [Act.put, List.setIfInBounds_toArray, List.set_cons_zero, List.set_cons_succ]
    rfl
  refine last_ (i := 9) (N := none) #[true, true, true, true, true, true, true, true, true, true] rfl rfl (by kernel_rfl) (by decide) (fun K hK => ?_)
  refine skip_ (w1 := ?_) (by rfl) rfl ?_ ?_
  rotate_left
  · go_simp
    rfl
  refine hK.out _ _ ?_
  clear hK K
  refine done_ (by kernel_rfl) ?_
  have hO5 : OwnD P0_0_ w s Aw cw Am cm l0_0 l0_1 ((wc.setCell ⟨s, 0, none⟩ (.slice Aw l0_0.length cw)).setCell ⟨s, 1, none⟩ (.slice Am l0_1.length cm)) := by
    have hsE := HSE.out
    have hMne : ∀ q, (Value.slice Am l0_1.length cm).ownBlock = some q → wb.heap.size ≤ q := fun q hq => ((Kd.R_bound HM.out).1 q hq).2.1
    refine ⟨(blk_set HG4.out 1 (.slice Am l0_1.length cm)).trans (by simp), ?_, ?_, ?_, ?_⟩
    · rw [Below.heap_setCell _ _ _ _ (by show s + 1 ≠ s; omega), Below.heap_setCell _ _ _ _ (by show s + 1 ≠ s; omega)]; exact HZ2.out
    · refine Kd.N_mono (Kd.N_far (Kd.N_far (Kd.N_lower HN2.out (show s + 2 ≤ wa.heap.size by omega)) (p := ⟨s, 0, none⟩) (fun q hq => by show q ≠ s; omega) _) (p := ⟨s, 1, none⟩) (fun q hq => by show q ≠ s; omega) _) (fun q hq => ⟨hq.1, fun he => by have := hMne q he.symm; omega⟩)
    · have hR := Kd.R_bound HM.out
      exact Kd.R_mono (Kd.R_lower (Kd.R_far (Kd.R_far hR (p := ⟨s, 0, none⟩) (fun q hq => by show q ≠ s; omega) _) (p := ⟨s, 1, none⟩) (fun q hq => by show q ≠ s; omega) _) (show s + 2 ≤ wb.heap.size by omega)) (fun q hq => by omega)
    · exact (HZ3.out.setCell (p := ⟨s, 0, none⟩) (by show w.heap.size ≤ s; omega) _).setCell (p := ⟨s, 1, none⟩) (by show w.heap.size ≤ s; omega) _
  have HO5 := Aside0.mk hO5
  clear hO5 hfz hfz4 hk0 hk1 HG4 HZ1 HZ2 HZ3 HN2 HM HY1 HY2 HY3 HX1 HX2 HX3 hHeld
  generalize (wc.setCell ⟨s, 0, none⟩ (.slice Aw l0_0.length cw)).setCell ⟨s, 1, none⟩ (.slice Am l0_1.length cm) = w5 at *
  have hc0 := (blk_cell HO5.out.1 0).trans rfl
  have hmx : l0_0.length ≤ 9223372036854775807 := by omega
  go_wp2_with (fail)
  clear hc0
  go_loopw [16] (fun s16 wr => ∃ k : Nat, s16 = .int .i64 k ∧ k ≤ l0_0.length ∧ Aside0 (OwnD P0_0_ w s Aw cw Am cm l0_0 l0_1 wr)) (fun s16 _ => l0_0.length - (intOf s16).toNat)
  case atStart => exact ⟨0, rfl, Nat.zero_le _, HO5⟩
  case round =>
    obtain ⟨k, rfl, hk, HO⟩ := hrel
    by_cases hlt : k < l0_0.length
    · rcases N_open HO.out.2.2.1 with ⟨_, hx⟩ | ⟨g, cap, cur, hv, hbg, hokg, hgb, hcap, hcm, hcl, hfk⟩
      · rw [hx] at hlt; exact absurd hlt (Nat.not_lt_zero _)
      injection hv with hA _ hc
      subst hA hc
      have hlt1 : (k : Int) < (l0_0.length : Int) := by omega
      obtain ⟨ad, A1, c1, A3, c3, e, hx0, hx1, hx2, hx3, hl1, hi1, hl3, hi3⟩ := at_T28 (Kd.N_reads' HO.out.2.2.1).2.2 k (by omega) (by omega)
      cases e
      rw [Int.toNat_natCast] at hx0 hx1 hx2 hx3
      obtain ⟨p, hp⟩ : ∃ p, l0_0[k]? = some p := ⟨_, List.getElem?_eq_getElem hlt⟩
      have hrd : rd_T28 l0_0 (k : Int) = p := by unfold rd_T28; rw [Int.toNat_natCast, List.getD_eq_getElem?_getD, hp]; rfl
      rw [hrd] at hx0 hx1 hx2 hx3 hl1 hi1 hl3 hi3
      have hy0 : wr.cell? ⟨g, k * 4, none⟩ = some (.int .i64 p.f0) := by simpa [add_plain] using hx0
      have hy1 : wr.cell? ⟨g, k * 4 + 1, none⟩ = some (.slice A1 p.f1.length c1) := by simpa [add_plain] using hx1
      have hy2 : wr.cell? ⟨g, k * 4 + 2, none⟩ = some (.bool p.f2) := by simpa [add_plain] using hx2
      have hy3 : wr.cell? ⟨g, k * 4 + 3, none⟩ = some (.slice A3 p.f3.length c3) := by simpa [add_plain] using hx3
      have HP := Aside0.mk hp
      have HSZ := Aside0.mk (HSM.out p (List.mem_of_getElem? hp))
      have HI := Aside0.mk (And.intro hi1 (And.intro hl1 (And.intro hi3 hl3)))
      have HGL := Aside0.mk (blk_lt hgb)
      have HGG := Aside0.mk hbg
      have HGM := Aside0.mk (show ¬ (some g = (Value.slice Am l0_1.length cm).ownBlock) from hokg.2)
      clear hp hrd hi1 hl1 hi3 hl3 hfk hgb hx0 hx1 hx2 hx3
      go_wp2_with (fail)
      obtain ⟨gw, hgw⟩ : ∃ gw, gw = wr.heap.size := ⟨_, rfl⟩
      obtain ⟨wx, hwx⟩ : ∃ wx, wx = wr.alloc (.cells #[.int .i64 p.f0, .slice A1 p.f1.length c1, .bool p.f2, .slice A3 p.f3.length c3] 28 (0, 0)) := ⟨_, rfl⟩
      have hgwb : wx.heap[gw]? = some (.cells #[.int .i64 p.f0, .slice A1 p.f1.length c1, .bool p.f2, .slice A3 p.f3.length c3] 28 (0, 0)) := by rw [hwx, hgw]; exact heap_alloc_new _ _
      have hbx : Below wr.heap.size wr wx := by rw [hwx]; exact below_alloc (Below.refl _ _) _
      rw [← hwx, ← hgw]
      have HGW := Aside0.mk (And.intro hgw hgwb)
      have HBX := Aside0.mk hbx
      clear hwx hgw hgwb hbx
      have HYC := Aside0.mk (And.intro hy0 (And.intro hy1 (And.intro hy2 hy3)))
      clear hy0 hy1 hy2 hy3
      have HCE := Aside0.mk (show ∀ W, Below wr.heap.size wr W → Below wx.heap.size wx W → W.cell? ⟨s, 0, none⟩ = some (.slice (some ⟨g, 0, none⟩) l0_0.length cw) ∧ W.cell? ⟨gw, 0, none⟩ = some (.int .i64 p.f0) ∧ W.cell? ⟨gw, 1, none⟩ = some (.slice A1 p.f1.length c1) ∧ W.cell? ⟨gw, 2, none⟩ = some (.bool p.f2) ∧ W.cell? ⟨gw, 3, none⟩ = some (.slice A3 p.f3.length c3) from fun W hb hb2 =>
        have e := (hb2.block _ (blk_lt HGW.out.2)).trans HGW.out.2
        ⟨(blk_cell ((hb.block _ (blk_lt HO.out.1)).trans HO.out.1) 0).trans rfl, (blk_cell e 0).trans rfl, (blk_cell e 1).trans rfl, (blk_cell e 2).trans rfl, (blk_cell e 3).trans rfl⟩)
      have HD := Aside0.mk (below_drew1 HBX.out)
      have HD0 := Aside0.mk (below_drew1 (Below.refl wx.heap.size wx))
      refine start_ (n := 7) (S := fun w' => w'.cell? ⟨s, 0, none⟩ = some (.slice (some ⟨g, 0, none⟩) l0_0.length cw) ∧ w'.cell? ⟨gw, 0, none⟩ = some (.int .i64 p.f0) ∧ w'.cell? ⟨gw, 1, none⟩ = some (.slice A1 p.f1.length c1) ∧ w'.cell? ⟨gw, 2, none⟩ = some (.bool p.f2) ∧ w'.cell? ⟨gw, 3, none⟩ = some (.slice A3 p.f3.length c3)) (ds := [6]) #[false, false, false, false, false, false, false] (by kernel_rfl) rfl rfl (HCE.out _ HD.out HD0.out) (fun hHeld => ?_)
      generalize wx.drew = wa at HD HD0 hHeld ⊢
      refine pure_ (i := 0) (N := some 21) (v := ?_) (a' := ?_) #[true, false, false, false, false, false, false] rfl rfl (by kernel_rfl) (fun _ _ _ h => h) (Or.inl ⟨by rfl, ?_⟩) ?_ ?_
      rotate_left
      · intro w'
        go_simp
        with_reducible rfl
      rotate_left
      · simp only [Act.put, List.setIfInBounds_toArray, List.set_cons_zero, List.set_cons_succ]
        rfl
      refine take_ (i := 1) (N := some 22) (v := ?_) (a' := ?_) #[true, true, false, false, false, false, false] rfl rfl (by kernel_rfl) (fun _ _ _ h => h) (Or.inl ⟨by rfl, ?_⟩) hHeld ?_ ?_
      rotate_left
      · rintro w' ⟨s0, s1, s2, s3, s4⟩
        go_simp
        with_reducible rfl
      rotate_left
      · simp only [Act.put, List.setIfInBounds_toArray, List.set_cons_zero, List.set_cons_succ]
        rfl
      refine pure_ (i := 2) (N := some 23) (v := ?_) (a' := ?_) #[true, true, true, false, false, false, false] rfl rfl (by kernel_rfl) (fun _ _ _ h => h) (Or.inl ⟨by rfl, ?_⟩) ?_ ?_
      rotate_left
      · intro w'
        go_simp
        with_reducible rfl
      rotate_left
      · simp only [Act.put, List.setIfInBounds_toArray, List.set_cons_zero, List.set_cons_succ]
        rfl
      refine take_ (i := 3) (N := some 24) (v := ?_) (a' := ?_) #[true, true, true, true, false, false, false] rfl rfl (by kernel_rfl) (fun _ _ _ h => h) (Or.inl ⟨by rfl, ?_⟩) hHeld ?_ ?_
      rotate_left
      · rintro w' ⟨s0, s1, s2, s3, s4⟩
        go_simp
        with_reducible rfl
      rotate_left
      · simp only [Act.put, List.setIfInBounds_toArray, List.set_cons_zero, List.set_cons_succ]
        rfl
      refine one_ (i := 4) (N := some 25) #[true, true, true, true, true, false, false] rfl rfl (by kernel_rfl) (by decide) (fun K hK => ?_)
      refine goes_ Try.func31 (by kernel_rfl) rfl #[.agg #[.int .i64 p.f0, .slice A1 p.f1.length c1, .bool p.f2, .slice A3 p.f3.length c3]] (by rfl) rfl rfl (by (try simp only [List.map_toArray, List.map_cons, List.map_nil]); first | done | rfl) ?_
      refine (delta_write.calls p.f0 A1 c1 p.f1 p.f2 A3 c3 p.f3 p.f0 p.f1 p.f2 p.f3 wa (Kd.C_below HI.out.1 HD.out) HI.out.2.1 (Kd.C_below HI.out.2.2.1 HD.out) HI.out.2.2.2 (by unfold delta_write.f bytes_Clone.f; rw [if_pos HSZ.out.1, if_pos HSZ.out.2]; rfl)).mono ?_
      rintro e wb ⟨v1_, v3_, rfl, hRa, hRb, hb⟩
      obtain ⟨A5, c5, rfl⟩ := Kd.R_slice hRa
      obtain ⟨A6, c6, rfl⟩ := Kd.R_slice hRb
      have HRA := Aside0.mk hRa
      have HRB := Aside0.mk hRb
      have HDb := Aside0.mk (below_step HD.out hb)
      have HDb0 := Aside0.mk (below_step HD0.out hb)
      have HSW := Aside0.mk hb.size
      clear hRa hRb hb
      refine ⟨_, rfl, ?_⟩
      refine hK.out _ _ (HCE.out _ HDb.out HDb0.out) (fun hHeld => ?_)
      clear hK K
      refine norm_ (a' := ?_) ?_ ?_
      rotate_left
      · show Act.put _ (some 25) _ = _
        simp only [Act.put, List.setIfInBounds_toArray, List.set_cons_zero, List.set_cons_succ]
        rfl
      refine pure_ (i := 5) (N := some 26) (v := ?_) (a' := ?_) #[true, true, true, true, true, true, false] rfl rfl (by kernel_rfl) (fun _ _ _ h => h) (Or.inl ⟨by rfl, ?_⟩) ?_ ?_
      rotate_left
      · intro w'
        go_simp
        with_reducible rfl
      rotate_left
      · simp only [Act.put, List.setIfInBounds_toArray, List.set_cons_zero, List.set_cons_succ]
        rfl
      have hgl : g < wr.heap.size := HGL.out
      have hsW := HSW.out
      have hwa : wr.heap.size + 1 ≤ wa.heap.size := by have h1 := HD0.out.size; have h2 := blk_lt HGW.out.2; have h3 := HGW.out.1; omega
      have hMb : ∀ q, some q = (Value.slice Am l0_1.length cm).ownBlock → q < wr.heap.size := fun q hq => ((Kd.R_bound HO.out.2.2.2.1).1 q hq.symm).2.2.1
      have hFa := Kd.F_mono (Kd.R_F (Kd.R_bound HRA.out)) (ok' := fun q => wa.heap.size ≤ q) (fun q hq => hq.2.1)
      have hFb := Kd.F_mono (Kd.R_F (Kd.R_bound HRB.out)) (ok' := fun q => wa.heap.size ≤ q) (fun q hq => hq.2.1)
      refine last_ (i := 6) (N := none) #[true, true, true, true, true, true, true] rfl rfl (by kernel_rfl) (by decide) (fun K hK => ?_)
      refine N_store_step k28 (s + 2) (by rfl) rfl 28 (.tmp 26) (.tmp 25) rfl 28 (k : Int) 0 l0_0 p (.agg #[.int .i64 p.f0, .slice A5 p.f1.length c5, .bool p.f2, .slice A6 p.f3.length c6]) [.int .i64 p.f0, .slice A5 p.f1.length c5, .bool p.f2, .slice A6 p.f3.length c6] [.int .i64 p.f0, .slice A1 p.f1.length c1, .bool p.f2, .slice A3 p.f3.length c3] (fun q => ((P0_0_ q ∧ q < s) ∨ s + 2 ≤ q) ∧ some q ≠ (Value.slice Am l0_1.length cm).ownBlock) (fun q => wa.heap.size ≤ q) rfl (by rw [Int.toNat_natCast]; rfl) rfl rfl (by kernel_rfl) (by simp [Value.oneCell']) (Kd.N_below HO.out.2.2.1 HDb.out) (by omega) (by omega) rfl ?hcc (Nat.le_refl 4) ?hM (fun q hq => ⟨⟨.inr (by omega), fun he => by have := hMb q he; omega⟩, by omega⟩) ?_
      case hcc =>
        intro j u hj
        rw [Int.toNat_natCast]
        have hup : ∀ {q : Addr} {u : Value}, wr.cell? q = some u → wb.cell? q = some u := fun {q u} h => (HDb.out.cell (World.block_lt_of_cell? wr _ h)).trans h
        rcases j with _ | _ | _ | _ | j
        · cases hj; exact hup HYC.out.1
        · cases hj; exact hup HYC.out.2.1
        · cases hj; exact hup HYC.out.2.2.1
        · cases hj; exact hup HYC.out.2.2.2
        · simp at hj
      case hM => exact k28_mkF wb _ p (Kd.R_reads' HRA.out).2.1 hFa (Kd.R_reads' HRB.out).2.1 hFb
      intro w9 hN9 hg9
      refine hK.out _ _ ?_
      clear hK K hFa hFb
      refine done_ (by kernel_rfl) ?_
      have hset : l0_0.set (k : Int).toNat p = l0_0 := by
        rw [Int.toNat_natCast]; refine List.ext_getElem? (fun j => ?_)
        by_cases hj : k = j
        · subst hj; rw [List.getElem?_set_self hlt]; exact HP.out.symm
        · rw [List.getElem?_set_ne hj]
      rw [hset] at hN9
      have hsg : s + 2 ≤ g := HGG.out
      have HO9 : Aside0 (OwnD P0_0_ w s (some ⟨g, 0, none⟩) cw Am cm l0_0 l0_1 w9) := ⟨?hO9⟩
      case hO9 =>
        have hb9 := HDb.out
        refine ⟨?_, ?_, hN9, ?_, ?_⟩
        · exact (hg9.block _ (Nat.lt_of_lt_of_le (blk_lt HO.out.1) hb9.size) (by intro he; injection he; omega)).trans ((hb9.block _ (blk_lt HO.out.1)).trans HO.out.1)
        · exact (hg9.block _ (Nat.lt_of_lt_of_le (blk_lt HO.out.2.1) hb9.size) (by intro he; injection he; omega)).trans ((hb9.block _ (blk_lt HO.out.2.1)).trans HO.out.2.1)
        · exact Kd.R_grown1 (Kd.R_below HO.out.2.2.2.1 hb9) rfl hg9 (fun he => HGM.out he)
        · exact (below_step HO.out.2.2.2.2 hb9).grown hg9 (below_step HO.out.2.2.2.2 hb9).size (fun q he => by cases he; have := HSE.out; omega)
      clear hN9 hg9 hset hMb
      go_wp2
      go_roundw
      case rel => exact ⟨k + 1, by go_num, by omega, HO9⟩
      case measure => simp [intOf]; omega
    · obtain rfl : k = l0_0.length := by omega
      have hlt1 : ¬ ((l0_0.length : Int) < (l0_0.length : Int)) := by omega
      have hc0 := (blk_cell HO.out.1 0).trans rfl
      have hc1 := (blk_cell HO.out.1 1).trans rfl
      go_wp2_with ((with_reducible refine gate_store (t := 25) (p := 2) rfl ?_); (suffices hsuf : Aside0 _ from hsuf.out))
      refine ⟨?_⟩
      refine storeL_row_ 25 (.tmp 2) (.tmp 28) rfl rfl rfl (s + 1) #[.slice Aw l0_0.length cw, .slice Am l0_1.length cm] rfl rfl 25 _ HO.out.2.1 (by kernel_rfl) rfl (by simp [Value.oneCell']) ?_
      have hO11 := setRow_heap wr (s + 1) _ #[.slice Aw l0_0.length cw, .slice Am l0_1.length cm] 25 (0, 0) HO.out.2.1
      have hB11 := below_setRow HO.out.2.2.2.2 (show w.heap.size ≤ s + 1 by have := HSE.out; omega) #[.slice Aw l0_0.length cw, .slice Am l0_1.length cm]
      have hN11 := Kd.N_step (w1 := wr.setRow (s + 1) #[.slice Aw l0_0.length cw, .slice Am l0_1.length cm]) HO.out.2.2.1 (fun q hq _ => setRow_other wr (s + 1) q _ (by omega))
      have hR11 := Kd.R_step (w1 := wr.setRow (s + 1) #[.slice Aw l0_0.length cw, .slice Am l0_1.length cm]) HO.out.2.2.2.1 (fun q hq _ => setRow_other wr (s + 1) q _ (by omega))
      generalize wr.setRow (s + 1) #[.slice Aw l0_0.length cw, .slice Am l0_1.length cm] = w11 at *
      have hsE := HSE.out
      (try go_wp2)
      refine bodyPost_ret (results_cell_row rfl _ _ (s + 1) 25 #[.slice Aw l0_0.length cw, .slice Am l0_1.length cm] (0, 0) _ rfl hO11 Try.underlying25 rfl (by kernel_rfl)) rfl ?_
      exact ⟨_, _, rfl, Kd.N_lower (Kd.N_mono hN11 (fun q hq => ⟨hq.1.imp (fun h => h.1) (fun h => by omega), hq.2⟩)) (by omega), Kd.R_lower (Kd.R_mono hR11 (fun q hq => by omega)) (by omega), hB11⟩
end Go.Proofs.Ytbjeaalbdaedpaa.P
namespace Go.Proofs.Ytbjeaalbdaedpaa.P
open Go.RowKit Go.Proofs.YtbjeaalbdaedpaaW.PrintWords Go.Proofs.YtbjeaalbdaedpaaW.PrintLast Go.Proofs.YtbjeaalbdaedpaaW.PrintMore
attribute [local go_sem] max2_int min2_int max_two min_two max_three min_three max_four min_four
set_option linter.unusedVariables false
set_option linter.unusedSimpArgs false
def delta_may.f (a0_0 : Int) (l0_1 : List Int) (a0_2 : Bool) (l0_3 : List Int) : Option (Bool) := if a0_0 ≥ 0 then (if a0_0 < 4 then (if (l0_1.length : Int) ≤ 16 then (if (l0_3.length : Int) ≤ 32 then (if a0_2 = true then (some ((l0_3.length : Int) == 0)) else (some true)) else (some false)) else (some false)) else (some false)) else (some false)
set_option maxHeartbeats 8000000 in
set_option maxRecDepth 100000 in
theorem delta_may.calls (a0_0 : Int) (A0_1 : Option Addr) (c0_1 : Nat) (l0_1 : List Int) (a0_2 : Bool) (A0_3 : Option Addr) (c0_3 : Nat) (l0_3 : List Int) (r : Bool) (w : World) (hr0_1 : Kd.C (Kd.int .u8) w A0_1 l0_1.length l0_1) (hc0_1 : l0_1.length ≤ c0_1) (hr0_3 : Kd.C (Kd.int .u8) w A0_3 l0_3.length l0_3) (hc0_3 : l0_3.length ≤ c0_3) (h : delta_may.f a0_0 l0_1 a0_2 l0_3 = some r) :
    Calls Try.prog 30 #[.agg #[.int .i64 a0_0, .slice A0_1 l0_1.length c0_1, .bool a0_2, .slice A0_3 l0_3.length c0_3]] w fun e w' => e = .returned (.bool r) ∧ Below w.heap.size w w' := by
  have hu28 := Try.underlying28
  have HR0_1 := Aside0.mk hr0_1
  have HC0_1 := Aside0.mk hc0_1
  clear hr0_1 hc0_1
  have HR0_3 := Aside0.mk hr0_3
  have HC0_3 := Aside0.mk hc0_3
  clear hr0_3 hc0_3
  have HB := Aside0.mk (Below.refl w.heap.size w)
  have H : (if a0_0 ≥ 0 then (if a0_0 < 4 then (if (l0_1.length : Int) ≤ 16 then (if (l0_3.length : Int) ≤ 32 then (if a0_2 = true then (some ((l0_3.length : Int) == 0)) else (some true)) else (some false)) else (some false)) else (some false)) else (some false)) = some r := h
  clear h
  by_cases c2 : a0_0 ≥ 0
  · rw [if_pos c2] at H
    have c2b0 : decide (0 ≤ a0_0) = true := decide_eq_true c2
    clear c2
    by_cases c3 : a0_0 < 4
    · rw [if_pos c3] at H
      have c3b0 : decide (a0_0 < 4) = true := decide_eq_true c3
      clear c3
      by_cases c4 : (l0_1.length : Int) ≤ 16
      · rw [if_pos c4] at H
        have c4b0 : decide ((l0_1.length : Int) ≤ 16) = true := decide_eq_true c4
        have c4b1 : decide (l0_1.length ≤ 16) = true := decide_eq_true (by omega)
        clear c4
        by_cases c5 : (l0_3.length : Int) ≤ 32
        · rw [if_pos c5] at H
          have c5b0 : decide ((l0_3.length : Int) ≤ 32) = true := decide_eq_true c5
          have c5b1 : decide (l0_3.length ≤ 32) = true := decide_eq_true (by omega)
          clear c5
          by_cases c6 : a0_2 = true
          · subst c6
            have H1 : (some ((l0_3.length : Int) == 0)) = some r := by rw [if_pos rfl] at H; exact H
            clear H
            have H := H1
            clear H1
            obtain rfl := Option.some.inj H
            go_enter Try.func30, Try.ntmps30
            go_wp2_with (first | ((with_reducible refine gate_dst (N := 1) rfl ?_); (try (refine gate_guard (by rfl) ?_; dsimp only)); refine box_event ?hg (N := 1) ?hd (cs := #[.int .i64 a0_0, .slice A0_1 l0_1.length c0_1, .bool true, .slice A0_3 l0_3.length c0_3]) (t := 28) ?hr ?_; (case hd => rfl); (case hg => rfl); (case hr => first | (go_simp; done) | (go_simp; rfl)); intro gb117 hg w7 hbox hb; have n0_ := Aside0.mk (below_step (by repeat (first | (with_reducible first | exact HB.out | apply below_alloc | apply pw_below_drewN | apply below_drew1) | exact HB.out)) hb); have n1_ := Aside0.mk (hbox); have n2_ := Aside0.mk ((by rw [hg]; exact (below_size (by repeat (first | (with_reducible first | exact HB.out | apply below_alloc | apply pw_below_drewN | apply below_drew1) | exact HB.out))) : w.heap.size ≤ gb117)); have n3_ := Aside0.mk ((by rw [hg]; exact (below_size (by repeat (first | (with_reducible first | exact HB.out | apply below_alloc | apply pw_below_drewN | apply below_drew1) | exact HB.out))) : w.heap.size ≤ gb117)); clear HB; have HB := n0_; have BK117 := n1_; have GW117 := n2_; have GE117 := n3_; clear n0_ n1_ n2_ n3_; clear hb hbox hg; have hcz8_0 : w7.cell? ⟨gb117, 0, none⟩ = some (.int .i64 a0_0) := (blk_cell BK117.out 0).trans rfl; have hcz8_1 : w7.cell? ⟨gb117, 1, none⟩ = some (.slice A0_1 l0_1.length c0_1) := (blk_cell BK117.out 1).trans rfl; have hcz8_2 : w7.cell? ⟨gb117, 2, none⟩ = some (.bool true) := (blk_cell BK117.out 2).trans rfl; have hcz8_3 : w7.cell? ⟨gb117, 3, none⟩ = some (.slice A0_3 l0_3.length c0_3) := (blk_cell BK117.out 3).trans rfl; have hfz8_0 := blk_frozen BK117.out 0; have hfz8_1 := blk_frozen BK117.out 1; have hfz8_2 := blk_frozen BK117.out 2; have hfz8_3 := blk_frozen BK117.out 3))
            go_ret
            exact ⟨by first | rfl | (simp [errW_none, errW_some] <;> rfl) | (simp [*, errW_none, errW_some] <;> rfl), by repeat (first | (with_reducible first | exact HB.out | apply below_alloc | apply pw_below_drewN | apply below_drew1 | refine below_set ?_ GE117.out) | exact HB.out)⟩
          · replace c6 := Bool.eq_false_iff.mpr c6
            subst c6
            have H1 : (some true) = some r := by rw [if_neg (show ¬ (false = true) by decide)] at H; exact H
            clear H
            have H := H1
            clear H1
            obtain rfl := Option.some.inj H
            go_enter Try.func30, Try.ntmps30
            go_wp2_with (first | ((with_reducible refine gate_dst (N := 1) rfl ?_); (try (refine gate_guard (by rfl) ?_; dsimp only)); refine box_event ?hg (N := 1) ?hd (cs := #[.int .i64 a0_0, .slice A0_1 l0_1.length c0_1, .bool false, .slice A0_3 l0_3.length c0_3]) (t := 28) ?hr ?_; (case hd => rfl); (case hg => rfl); (case hr => first | (go_simp; done) | (go_simp; rfl)); intro gb117 hg w9 hbox hb; have n0_ := Aside0.mk (below_step (by repeat (first | (with_reducible first | exact HB.out | apply below_alloc | apply pw_below_drewN | apply below_drew1) | exact HB.out)) hb); have n1_ := Aside0.mk (hbox); have n2_ := Aside0.mk ((by rw [hg]; exact (below_size (by repeat (first | (with_reducible first | exact HB.out | apply below_alloc | apply pw_below_drewN | apply below_drew1) | exact HB.out))) : w.heap.size ≤ gb117)); have n3_ := Aside0.mk ((by rw [hg]; exact (below_size (by repeat (first | (with_reducible first | exact HB.out | apply below_alloc | apply pw_below_drewN | apply below_drew1) | exact HB.out))) : w.heap.size ≤ gb117)); clear HB; have HB := n0_; have BK117 := n1_; have GW117 := n2_; have GE117 := n3_; clear n0_ n1_ n2_ n3_; clear hb hbox hg; have hcz10_0 : w9.cell? ⟨gb117, 0, none⟩ = some (.int .i64 a0_0) := (blk_cell BK117.out 0).trans rfl; have hcz10_1 : w9.cell? ⟨gb117, 1, none⟩ = some (.slice A0_1 l0_1.length c0_1) := (blk_cell BK117.out 1).trans rfl; have hcz10_2 : w9.cell? ⟨gb117, 2, none⟩ = some (.bool false) := (blk_cell BK117.out 2).trans rfl; have hcz10_3 : w9.cell? ⟨gb117, 3, none⟩ = some (.slice A0_3 l0_3.length c0_3) := (blk_cell BK117.out 3).trans rfl; have hfz10_0 := blk_frozen BK117.out 0; have hfz10_1 := blk_frozen BK117.out 1; have hfz10_2 := blk_frozen BK117.out 2; have hfz10_3 := blk_frozen BK117.out 3))
            go_ret
            exact ⟨by first | rfl | (simp [errW_none, errW_some] <;> rfl) | (simp [*, errW_none, errW_some] <;> rfl), by repeat (first | (with_reducible first | exact HB.out | apply below_alloc | apply pw_below_drewN | apply below_drew1 | refine below_set ?_ GE117.out) | exact HB.out)⟩
        · rw [if_neg c5] at H
          have c5b0 : decide ((l0_3.length : Int) ≤ 32) = false := decide_eq_false c5
          have c5b1 : decide (l0_3.length ≤ 32) = false := decide_eq_false (by omega)
          clear c5
          obtain rfl := Option.some.inj H
          go_enter Try.func30, Try.ntmps30
          go_wp2_with (first | ((with_reducible refine gate_dst (N := 1) rfl ?_); (try (refine gate_guard (by rfl) ?_; dsimp only)); refine box_event ?hg (N := 1) ?hd (cs := #[.int .i64 a0_0, .slice A0_1 l0_1.length c0_1, .bool a0_2, .slice A0_3 l0_3.length c0_3]) (t := 28) ?hr ?_; (case hd => rfl); (case hg => rfl); (case hr => first | (go_simp; done) | (go_simp; rfl)); intro gb117 hg w11 hbox hb; have n0_ := Aside0.mk (below_step (by repeat (first | (with_reducible first | exact HB.out | apply below_alloc | apply pw_below_drewN | apply below_drew1) | exact HB.out)) hb); have n1_ := Aside0.mk (hbox); have n2_ := Aside0.mk ((by rw [hg]; exact (below_size (by repeat (first | (with_reducible first | exact HB.out | apply below_alloc | apply pw_below_drewN | apply below_drew1) | exact HB.out))) : w.heap.size ≤ gb117)); have n3_ := Aside0.mk ((by rw [hg]; exact (below_size (by repeat (first | (with_reducible first | exact HB.out | apply below_alloc | apply pw_below_drewN | apply below_drew1) | exact HB.out))) : w.heap.size ≤ gb117)); clear HB; have HB := n0_; have BK117 := n1_; have GW117 := n2_; have GE117 := n3_; clear n0_ n1_ n2_ n3_; clear hb hbox hg; have hcz12_0 : w11.cell? ⟨gb117, 0, none⟩ = some (.int .i64 a0_0) := (blk_cell BK117.out 0).trans rfl; have hcz12_1 : w11.cell? ⟨gb117, 1, none⟩ = some (.slice A0_1 l0_1.length c0_1) := (blk_cell BK117.out 1).trans rfl; have hcz12_2 : w11.cell? ⟨gb117, 2, none⟩ = some (.bool a0_2) := (blk_cell BK117.out 2).trans rfl; have hcz12_3 : w11.cell? ⟨gb117, 3, none⟩ = some (.slice A0_3 l0_3.length c0_3) := (blk_cell BK117.out 3).trans rfl; have hfz12_0 := blk_frozen BK117.out 0; have hfz12_1 := blk_frozen BK117.out 1; have hfz12_2 := blk_frozen BK117.out 2; have hfz12_3 := blk_frozen BK117.out 3))
          go_ret
          exact ⟨by first | rfl | (simp [errW_none, errW_some] <;> rfl) | (simp [*, errW_none, errW_some] <;> rfl), by repeat (first | (with_reducible first | exact HB.out | apply below_alloc | apply pw_below_drewN | apply below_drew1 | refine below_set ?_ GE117.out) | exact HB.out)⟩
      · rw [if_neg c4] at H
        have c4b0 : decide ((l0_1.length : Int) ≤ 16) = false := decide_eq_false c4
        have c4b1 : decide (l0_1.length ≤ 16) = false := decide_eq_false (by omega)
        clear c4
        obtain rfl := Option.some.inj H
        go_enter Try.func30, Try.ntmps30
        go_wp2_with (first | ((with_reducible refine gate_dst (N := 1) rfl ?_); (try (refine gate_guard (by rfl) ?_; dsimp only)); refine box_event ?hg (N := 1) ?hd (cs := #[.int .i64 a0_0, .slice A0_1 l0_1.length c0_1, .bool a0_2, .slice A0_3 l0_3.length c0_3]) (t := 28) ?hr ?_; (case hd => rfl); (case hg => rfl); (case hr => first | (go_simp; done) | (go_simp; rfl)); intro gb117 hg w13 hbox hb; have n0_ := Aside0.mk (below_step (by repeat (first | (with_reducible first | exact HB.out | apply below_alloc | apply pw_below_drewN | apply below_drew1) | exact HB.out)) hb); have n1_ := Aside0.mk (hbox); have n2_ := Aside0.mk ((by rw [hg]; exact (below_size (by repeat (first | (with_reducible first | exact HB.out | apply below_alloc | apply pw_below_drewN | apply below_drew1) | exact HB.out))) : w.heap.size ≤ gb117)); have n3_ := Aside0.mk ((by rw [hg]; exact (below_size (by repeat (first | (with_reducible first | exact HB.out | apply below_alloc | apply pw_below_drewN | apply below_drew1) | exact HB.out))) : w.heap.size ≤ gb117)); clear HB; have HB := n0_; have BK117 := n1_; have GW117 := n2_; have GE117 := n3_; clear n0_ n1_ n2_ n3_; clear hb hbox hg; have hcz14_0 : w13.cell? ⟨gb117, 0, none⟩ = some (.int .i64 a0_0) := (blk_cell BK117.out 0).trans rfl; have hcz14_1 : w13.cell? ⟨gb117, 1, none⟩ = some (.slice A0_1 l0_1.length c0_1) := (blk_cell BK117.out 1).trans rfl; have hcz14_2 : w13.cell? ⟨gb117, 2, none⟩ = some (.bool a0_2) := (blk_cell BK117.out 2).trans rfl; have hcz14_3 : w13.cell? ⟨gb117, 3, none⟩ = some (.slice A0_3 l0_3.length c0_3) := (blk_cell BK117.out 3).trans rfl; have hfz14_0 := blk_frozen BK117.out 0; have hfz14_1 := blk_frozen BK117.out 1; have hfz14_2 := blk_frozen BK117.out 2; have hfz14_3 := blk_frozen BK117.out 3))
        go_ret
        exact ⟨by first | rfl | (simp [errW_none, errW_some] <;> rfl) | (simp [*, errW_none, errW_some] <;> rfl), by repeat (first | (with_reducible first | exact HB.out | apply below_alloc | apply pw_below_drewN | apply below_drew1 | refine below_set ?_ GE117.out) | exact HB.out)⟩
    · rw [if_neg c3] at H
      have c3b0 : decide (a0_0 < 4) = false := decide_eq_false c3
      clear c3
      obtain rfl := Option.some.inj H
      go_enter Try.func30, Try.ntmps30
      go_wp2_with (first | ((with_reducible refine gate_dst (N := 1) rfl ?_); (try (refine gate_guard (by rfl) ?_; dsimp only)); refine box_event ?hg (N := 1) ?hd (cs := #[.int .i64 a0_0, .slice A0_1 l0_1.length c0_1, .bool a0_2, .slice A0_3 l0_3.length c0_3]) (t := 28) ?hr ?_; (case hd => rfl); (case hg => rfl); (case hr => first | (go_simp; done) | (go_simp; rfl)); intro gb117 hg w15 hbox hb; have n0_ := Aside0.mk (below_step (by repeat (first | (with_reducible first | exact HB.out | apply below_alloc | apply pw_below_drewN | apply below_drew1) | exact HB.out)) hb); have n1_ := Aside0.mk (hbox); have n2_ := Aside0.mk ((by rw [hg]; exact (below_size (by repeat (first | (with_reducible first | exact HB.out | apply below_alloc | apply pw_below_drewN | apply below_drew1) | exact HB.out))) : w.heap.size ≤ gb117)); have n3_ := Aside0.mk ((by rw [hg]; exact (below_size (by repeat (first | (with_reducible first | exact HB.out | apply below_alloc | apply pw_below_drewN | apply below_drew1) | exact HB.out))) : w.heap.size ≤ gb117)); clear HB; have HB := n0_; have BK117 := n1_; have GW117 := n2_; have GE117 := n3_; clear n0_ n1_ n2_ n3_; clear hb hbox hg; have hcz16_0 : w15.cell? ⟨gb117, 0, none⟩ = some (.int .i64 a0_0) := (blk_cell BK117.out 0).trans rfl; have hcz16_1 : w15.cell? ⟨gb117, 1, none⟩ = some (.slice A0_1 l0_1.length c0_1) := (blk_cell BK117.out 1).trans rfl; have hcz16_2 : w15.cell? ⟨gb117, 2, none⟩ = some (.bool a0_2) := (blk_cell BK117.out 2).trans rfl; have hcz16_3 : w15.cell? ⟨gb117, 3, none⟩ = some (.slice A0_3 l0_3.length c0_3) := (blk_cell BK117.out 3).trans rfl; have hfz16_0 := blk_frozen BK117.out 0; have hfz16_1 := blk_frozen BK117.out 1; have hfz16_2 := blk_frozen BK117.out 2; have hfz16_3 := blk_frozen BK117.out 3))
      go_ret
      exact ⟨by first | rfl | (simp [errW_none, errW_some] <;> rfl) | (simp [*, errW_none, errW_some] <;> rfl), by repeat (first | (with_reducible first | exact HB.out | apply below_alloc | apply pw_below_drewN | apply below_drew1 | refine below_set ?_ GE117.out) | exact HB.out)⟩
  · rw [if_neg c2] at H
    have c2b0 : decide (0 ≤ a0_0) = false := decide_eq_false c2
    clear c2
    obtain rfl := Option.some.inj H
    go_enter Try.func30, Try.ntmps30
    go_wp2_with (first | ((with_reducible refine gate_dst (N := 1) rfl ?_); (try (refine gate_guard (by rfl) ?_; dsimp only)); refine box_event ?hg (N := 1) ?hd (cs := #[.int .i64 a0_0, .slice A0_1 l0_1.length c0_1, .bool a0_2, .slice A0_3 l0_3.length c0_3]) (t := 28) ?hr ?_; (case hd => rfl); (case hg => rfl); (case hr => first | (go_simp; done) | (go_simp; rfl)); intro gb117 hg w17 hbox hb; have n0_ := Aside0.mk (below_step (by repeat (first | (with_reducible first | exact HB.out | apply below_alloc | apply pw_below_drewN | apply below_drew1) | exact HB.out)) hb); have n1_ := Aside0.mk (hbox); have n2_ := Aside0.mk ((by rw [hg]; exact (below_size (by repeat (first | (with_reducible first | exact HB.out | apply below_alloc | apply pw_below_drewN | apply below_drew1) | exact HB.out))) : w.heap.size ≤ gb117)); have n3_ := Aside0.mk ((by rw [hg]; exact (below_size (by repeat (first | (with_reducible first | exact HB.out | apply below_alloc | apply pw_below_drewN | apply below_drew1) | exact HB.out))) : w.heap.size ≤ gb117)); clear HB; have HB := n0_; have BK117 := n1_; have GW117 := n2_; have GE117 := n3_; clear n0_ n1_ n2_ n3_; clear hb hbox hg; have hcz18_0 : w17.cell? ⟨gb117, 0, none⟩ = some (.int .i64 a0_0) := (blk_cell BK117.out 0).trans rfl; have hcz18_1 : w17.cell? ⟨gb117, 1, none⟩ = some (.slice A0_1 l0_1.length c0_1) := (blk_cell BK117.out 1).trans rfl; have hcz18_2 : w17.cell? ⟨gb117, 2, none⟩ = some (.bool a0_2) := (blk_cell BK117.out 2).trans rfl; have hcz18_3 : w17.cell? ⟨gb117, 3, none⟩ = some (.slice A0_3 l0_3.length c0_3) := (blk_cell BK117.out 3).trans rfl; have hfz18_0 := blk_frozen BK117.out 0; have hfz18_1 := blk_frozen BK117.out 1; have hfz18_2 := blk_frozen BK117.out 2; have hfz18_3 := blk_frozen BK117.out 3))
    go_ret
    exact ⟨by first | rfl | (simp [errW_none, errW_some] <;> rfl) | (simp [*, errW_none, errW_some] <;> rfl), by repeat (first | (with_reducible first | exact HB.out | apply below_alloc | apply pw_below_drewN | apply below_drew1 | refine below_set ?_ GE117.out) | exact HB.out)⟩
end Go.Proofs.Ytbjeaalbdaedpaa.P
namespace Go.Proofs.Ytbjeaalbdaedpaa.P
open Go.RowKit Go.Proofs.YtbjeaalbdaedpaaW.PrintWords Go.Proofs.YtbjeaalbdaedpaaW.PrintLast Go.Proofs.YtbjeaalbdaedpaaW.PrintMore
attribute [local go_sem] max2_int min2_int max_two min_two max_three min_three max_four min_four
set_option linter.unusedVariables false
set_option linter.unusedSimpArgs false
end Go.Proofs.Ytbjeaalbdaedpaa.P
namespace Go.Proofs.Ytbjeaalbdaedpaa.P
open Go.RowKit Go.Proofs.YtbjeaalbdaedpaaW.PrintWords Go.Proofs.YtbjeaalbdaedpaaW.PrintLast Go.Proofs.YtbjeaalbdaedpaaW.PrintMore
attribute [local go_sem] max2_int min2_int max_two min_two max_three min_three max_four min_four
set_option linter.unusedVariables false
set_option linter.unusedSimpArgs false
end Go.Proofs.Ytbjeaalbdaedpaa.P
namespace Go.Proofs.Ytbjeaalbdaedpaa.P
open Go.RowKit Go.Proofs.YtbjeaalbdaedpaaW.PrintWords Go.Proofs.YtbjeaalbdaedpaaW.PrintLast Go.Proofs.YtbjeaalbdaedpaaW.PrintMore
attribute [local go_sem] max2_int min2_int max_two min_two max_three min_three max_four min_four
set_option linter.unusedVariables false
set_option linter.unusedSimpArgs false
end Go.Proofs.Ytbjeaalbdaedpaa.P
namespace Go.Proofs.Ytbjeaalbdaedpaa.P
open Go.RowKit Go.Proofs.YtbjeaalbdaedpaaW.PrintWords Go.Proofs.YtbjeaalbdaedpaaW.PrintLast Go.Proofs.YtbjeaalbdaedpaaW.PrintMore
attribute [local go_sem] max2_int min2_int max_two min_two max_three min_three max_four min_four
set_option linter.unusedVariables false
set_option linter.unusedSimpArgs false
end Go.Proofs.Ytbjeaalbdaedpaa.P
namespace Go.Proofs.Ytbjeaalbdaedpaa.P
open Go.RowKit Go.Proofs.YtbjeaalbdaedpaaW.PrintWords Go.Proofs.YtbjeaalbdaedpaaW.PrintLast Go.Proofs.YtbjeaalbdaedpaaW.PrintMore
attribute [local go_sem] max2_int min2_int max_two min_two max_three min_three max_four min_four
set_option linter.unusedVariables false
set_option linter.unusedSimpArgs false
end Go.Proofs.Ytbjeaalbdaedpaa.P
namespace Go.Proofs.Ytbjeaalbdaedpaa.P
open Go.RowKit Go.Proofs.YtbjeaalbdaedpaaW.PrintWords Go.Proofs.YtbjeaalbdaedpaaW.PrintLast Go.Proofs.YtbjeaalbdaedpaaW.PrintMore
attribute [local go_sem] max2_int min2_int max_two min_two max_three min_three max_four min_four
set_option linter.unusedVariables false
set_option linter.unusedSimpArgs false
end Go.Proofs.Ytbjeaalbdaedpaa.P
namespace Go.Proofs.Ytbjeaalbdaedpaa.P
open Go.RowKit Go.Proofs.YtbjeaalbdaedpaaW.PrintWords Go.Proofs.YtbjeaalbdaedpaaW.PrintLast Go.Proofs.YtbjeaalbdaedpaaW.PrintMore
attribute [local go_sem] max2_int min2_int max_two min_two max_three min_three max_four min_four
set_option linter.unusedVariables false
set_option linter.unusedSimpArgs false
end Go.Proofs.Ytbjeaalbdaedpaa.P
namespace Go.Proofs.Ytbjeaalbdaedpaa.P
open Go.RowKit Go.Proofs.YtbjeaalbdaedpaaW.PrintWords Go.Proofs.YtbjeaalbdaedpaaW.PrintLast Go.Proofs.YtbjeaalbdaedpaaW.PrintMore
attribute [local go_sem] max2_int min2_int max_two min_two max_three min_three max_four min_four
set_option linter.unusedVariables false
set_option linter.unusedSimpArgs false
end Go.Proofs.Ytbjeaalbdaedpaa.P
namespace Go.Proofs.Ytbjeaalbdaedpaa.P
open Go.RowKit Go.Proofs.YtbjeaalbdaedpaaW.PrintWords Go.Proofs.YtbjeaalbdaedpaaW.PrintLast Go.Proofs.YtbjeaalbdaedpaaW.PrintMore
attribute [local go_sem] max2_int min2_int max_two min_two max_three min_three max_four min_four
set_option linter.unusedVariables false
set_option linter.unusedSimpArgs false
end Go.Proofs.Ytbjeaalbdaedpaa.P
