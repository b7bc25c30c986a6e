import Derived.Test.YtpoaleejhdeclaaPx0
import Derived.Laws.CopyOwn
import Derived.Lib.SlBytesConst
import Derived.ControlIn
import Derived.LoopIn
import Derived.LoopNIn
import Derived.Maps.AppendAt
import Derived.Maps.OwnIn
import Derived.OwnWalkIn
import Derived.RangeFuncBound
import Derived.RangeFuncBox
import Derived.RangeFuncCalls
import Derived.RangeFuncLeaves
import Derived.RangeFuncNested
import Derived.RegionIn
import Derived.Scope
import Derived.Shelf.Abstract
import Derived.Sort.BigQuietIn
import Derived.TacticsInMore
import Derived.CallsIn
import Derived.OrdersIn
import Derived.Laws.AppendOwn
import Derived.Lib.ConvBytes
import Derived.Lib.Bytealg
import Derived.Lib.Bytes
import Derived.Laws.Externs
import Derived.Lib.BytesEntry
import Derived.Lib.SliceRun
import Derived.Laws.EntriesVeiled
import Derived.Laws.Cover1
namespace Go.Proofs.Ytpoaleejhdeclaa.P
open Go.RowKit Go.Proofs.YtpoaleejhdeclaaW.PrintWords Go.Proofs.YtpoaleejhdeclaaW.PrintLast Go.Proofs.YtpoaleejhdeclaaW.PrintMore
attribute [local go_sem] max2_int min2_int max_two min_two max_three min_three max_four min_four
set_option linter.unusedVariables false
set_option linter.unusedSimpArgs false
theorem ret_int {k : IntKind} {a b : Int} (h : a = b) : Ending.returned (.int k a) = .returned (.int k b) := by rw [h]
theorem chunk_set {α : Type} (cur : List α) (sz k j f : Nat) (v : α) (hf : f < sz) : ((cur.set (k * sz + f) v).drop (j * sz)).take sz = if j = k then ((cur.drop (j * sz)).take sz).set f v else (cur.drop (j * sz)).take sz := by
 apply List.ext_getElem?
 intro i
 by_cases hjk : j = k
 · subst hjk
   rw [if_pos rfl]
   by_cases hi : i < sz
   · rw [List.getElem?_take, if_pos hi, List.getElem?_drop, List.getElem?_set, List.getElem?_set, List.getElem?_take, if_pos hi, List.getElem?_drop]
     by_cases he : f = i
     · subst he
       simp only [if_true]
       by_cases hl : j * sz + f < cur.length
       · rw [if_pos hl, if_pos (by simp; omega)]
       · rw [if_neg hl, if_neg (by simp; omega)]
     · rw [if_neg (by omega), if_neg he]
   · rw [List.getElem?_eq_none (by simp; omega), List.getElem?_eq_none (by simp; omega)]
 · rw [if_neg hjk]
   by_cases hi : i < sz
   · rw [List.getElem?_take, if_pos hi, List.getElem?_drop, List.getElem?_set, if_neg, List.getElem?_take, if_pos hi, List.getElem?_drop]
     intro he
     rcases Nat.lt_or_gt_of_ne hjk with h | h
     · have : j * sz + sz ≤ k * sz := by rw [← Nat.succ_mul]; exact Nat.mul_le_mul_right _ h
       omega
     · have : k * sz + sz ≤ j * sz := by rw [← Nat.succ_mul]; exact Nat.mul_le_mul_right _ h
       omega
   · rw [List.getElem?_eq_none (by simp; omega), List.getElem?_eq_none (by simp; omega)]
theorem chunk_at {α : Type} {cur : List α} {sz k i : Nat} (hi : i < sz) : cur[k * sz + i]? = ((cur.drop (k * sz)).take sz)[i]? := by
 rw [List.getElem?_take, if_pos hi, List.getElem?_drop]
theorem V_of_block {α : Type} {d : Kd α} {e : Nat} {w w' : World} {g cap : Nat} {cur : List Value} {l : List α} {t : Nat} (hgb : w.heap.size ≤ g) (hg : w'.heap[g]? = some (.cells cur.toArray t (0, 0))) (hm : l.length ≤ 9223372036854775807) (hc : l.length ≤ cap)
   (hl : cur.length = l.length * d.sz) (hE : ∀ j p, l[j]? = some p → Kd.FK d w' (fun k_ => w.heap.size ≤ k_) p ((cur.drop (j * d.sz)).take d.sz)) :
   Kd.V d e w' w.heap.size (fun k_ => w.heap.size ≤ k_) (.slice (some ⟨g, 0, none⟩) l.length cap) l := by
 refine ⟨some ⟨g, 0, none⟩, cap, rfl, hc, fun W' hW => ⟨rfl, hm, fun _ => ⟨⟨g, 0, none⟩, rfl, fun j p hj => ⟨(cur.drop (j * d.sz)).take d.sz, ?_, hE j p hj W' hW, fun i u hu => ?_⟩⟩⟩⟩
 · have hjl : j < l.length := (List.getElem?_eq_some_iff.1 hj).1
   have : j * d.sz + d.sz ≤ l.length * d.sz := by rw [← Nat.succ_mul]; exact Nat.mul_le_mul_right _ hjl
   rw [lT_, lD_]; omega
 · have hg' : W'.heap[g]? = some (.cells cur.toArray t (0, 0)) := (hW g hgb (blk_lt hg)).trans hg
   have hi : i < d.sz := by
    have := (List.getElem?_eq_some_iff.1 hu).1
    rw [lT_] at this; omega
   rw [add_plain, blk_cell hg']
   rw [← hu, ← chunk_at hi]
   simp
section
variable {P : Program} {F : Fence} {n : Nat} {b : Frame} {a : Act} {k : List Item} {cs : List Frame} {w : World} {Q : Exit → Act → World → Prop}
end
def idxBy {α : Type} (p : α → Bool) : List α → Int
 | [] => -1
 | x :: l => if p x then 0 else (if idxBy p l < 0 then -1 else idxBy p l + 1)
theorem idxBy_lo {α : Type} (p : α → Bool) (l : List α) : -1 ≤ idxBy p l := by
 induction l with
 | nil => simp [idxBy]
 | cons x l ih => rw [idxBy]; split <;> (try split) <;> omega
theorem idxBy_any {α : Type} (p : α → Bool) (l : List α) : decide (0 ≤ idxBy p l) = l.any p := by
 induction l with
 | nil => simp [idxBy]
 | cons x l ih =>
  rw [idxBy, List.any_cons, ← ih]
  have := idxBy_lo p l
  cases h : p x with
  | true => simp
  | false =>
   rw [if_neg (by decide), Bool.false_or]
   by_cases h2 : idxBy p l < 0
   · rw [if_pos h2, decide_eq_false (by omega), decide_eq_false (by omega)]
   · rw [if_neg h2, decide_eq_true (by omega), decide_eq_true (by omega)]
theorem idxBy_none {α : Type} (p : α → Bool) (l : List α) (h : ∀ x ∈ l, p x = false) : idxBy p l = -1 := by
 induction l with
 | nil => rfl
 | cons x l ih => rw [idxBy, h x (by simp), ih (fun y hy => h y (by simp [hy]))]; rfl
theorem idxBy_at {α : Type} (p : α → Bool) : ∀ (l : List α) (k : Nat), (∀ j, j < k → ∀ x, l[j]? = some x → p x = false) → ∀ (h : k < l.length), p l[k] = true → idxBy p l = k := by
 intro l
 induction l with
 | nil => intro k _ h; simp at h
 | cons x l ih =>
  intro k hk h hp
  cases k with
  | zero =>
   have hp' : p x = true := hp
   rw [idxBy, if_pos hp']
   rfl
  | succ k =>
   have h0 := hk 0 (by omega) x rfl
   have h1 := ih k (fun j hj y hy => hk (j + 1) (by omega) y (by simpa using hy)) (by simpa using h) (by simpa using hp)
   rw [idxBy, h0, h1, if_neg (by decide), if_neg (by omega)]
   omega
theorem idxBy_at_Live (p : S24 → Bool) (l : List S24) (k : Nat) (hk : ∀ j, j < k → ∀ x, l[j]? = some x → p x = false) (hlt : k < l.length) (hp : p (rd_T24 l (k : Int)) = true) : idxBy p l = k := by
 have e : rd_T24 l (k : Int) = l[k] := by unfold rd_T24; simp [List.getD_eq_getElem?_getD, hlt]
 rw [e] at hp
 exact idxBy_at p l k hk hlt hp
set_option maxHeartbeats 1000000 in
set_option maxRecDepth 100000 in
theorem idx_Live (g : FuncId) (lb : Array Value) (p : S24 → Bool) (A0 : Option Addr) (c0 : Nat) (l0 : List S24) (w : World) (hr0 : Kd.C k24 w A0 l0.length l0) (he : ∀ args W, (callFunc g args).run Try.prog W = .ok (.enter g args) W)
  (hp : ∀ (W : World) (x : S24) (A1 : Option Addr) (c1 : Nat), x ∈ l0 → Below w.heap.size w W → x.f1.length ≤ c1 → k57.C W A1 x.f1.length x.f1 → Calls Try.prog g (#[.agg #[.int .i64 x.f0, .slice A1 x.f1.length c1]] ++ lb) W fun e w' => e = .returned (.bool (p x)) ∧ Below W.heap.size W w') :
  Calls Try.prog 46 #[.slice A0 l0.length c0, .func (.func g) #[] lb] w fun e w' => e = .returned (.int .i64 (idxBy p l0)) ∧ Below w.heap.size w w' := by
 have hm : l0.length ≤ 9223372036854775807 := Kd.C_max hr0
 have HR := m0_ hr0
 have hu := Try.underlying24
 clear hr0
 go_enter Try.func46, Try.ntmps46
 go_wp2
 go_loopw [8] (fun i wr => ∃ k : Nat, k ≤ l0.length ∧ i = .int .i64 k ∧ Aside0 (∀ j, j < k → ∀ x, l0[j]? = some x → p x = false) ∧ Aside0 (Below w.heap.size w wr)) (fun i _ => l0.length - (intOf i).toNat)
 case atStart => exact ⟨0, Nat.zero_le _, rfl, ⟨fun j hj => absurd hj (Nat.not_lt_zero _)⟩, ⟨Below.refl _ _⟩⟩
 case round =>
  obtain ⟨k, hk, rfl, HN, HB⟩ := hrel
  by_cases hlt : k < l0.length
  · obtain ⟨ad, A1, c1, e, hx0, hx1, hl1, hi1⟩ := at_T24 (kB_ HR.out HB.out) k (by omega) (by omega)
    cases e
    rw [Int.toNat_natCast] at hx0 hx1
    have hat := idxBy_at_Live p l0 k HN.out hlt
    have hmem : rd_T24 l0 (k : Int) ∈ l0 := by
     have e : rd_T24 l0 (k : Int) = l0[k] := by unfold rd_T24; simp [List.getD_eq_getElem?_getD, hlt]
     rw [e]
     exact List.getElem_mem hlt
    have hnx : p (rd_T24 l0 (k : Int)) = false → ∀ j, j < k + 1 → ∀ x, l0[j]? = some x → p x = false := by
     intro hv j hj x hx
     rcases Nat.lt_or_ge j k with h | h
     · exact HN.out j h x hx
     · obtain rfl : j = k := by omega
       have e : rd_T24 l0 (j : Int) = x := by unfold rd_T24; rw [Int.toNat_natCast, List.getD_eq_getElem?_getD, hx]; rfl
       rw [← e]
       exact hv
    have HMEM := m0_ hmem
    generalize hv : rd_T24 l0 (k : Int) = v at *
    have hcall := (hp _ v A1 c1 hmem HB.out hl1 hi1)
    have HCALL := m0_ hcall
    clear hcall hmem hv HMEM
    cases hq : p v with
    | true =>
     have HE := m0_ (hat hq)
     rw [hq] at HCALL
     clear hat hnx hq
     go_wp2
     refine HCALL.out.mono ?_
     rintro e w1 ⟨rfl, hb⟩
     have HB1 := m0_ (below_step HB.out hb)
     clear hb
     go_wp2
     go_ret
     exact ⟨ret_int HE.out.symm, HB1.out⟩
    | false =>
     have HE := m0_ (hnx hq)
     rw [hq] at HCALL
     clear hat hnx hq
     go_wp2
     refine HCALL.out.mono ?_
     rintro e w1 ⟨rfl, hb⟩
     have HB1 := m0_ (below_step HB.out hb)
     clear hb
     go_wp2
     go_roundw
     case rel => exact ⟨k + 1, by omega, by go_num, HE, HB1⟩
     case measure => simp [intOf]; omega
  · obtain rfl : k = l0.length := by omega
    have HE := m0_ (idxBy_none p l0 (fun x hx => by
     obtain ⟨j, hj, e⟩ := List.getElem_of_mem hx
     exact HN.out j hj x (by rw [List.getElem?_eq_getElem hj, e])))
    go_wp2
    go_ret
    exact ⟨ret_int HE.out.symm, HB.out⟩
set_option maxHeartbeats 1000000 in
set_option maxRecDepth 100000 in
theorem has_Live (g : FuncId) (lb : Array Value) (p : S24 → Bool) (A0 : Option Addr) (c0 : Nat) (l0 : List S24) (w : World) (hr0 : Kd.C k24 w A0 l0.length l0) (he : ∀ args W, (callFunc g args).run Try.prog W = .ok (.enter g args) W)
  (hp : ∀ (W : World) (x : S24) (A1 : Option Addr) (c1 : Nat), x ∈ l0 → Below w.heap.size w W → x.f1.length ≤ c1 → k57.C W A1 x.f1.length x.f1 → Calls Try.prog g (#[.agg #[.int .i64 x.f0, .slice A1 x.f1.length c1]] ++ lb) W fun e w' => e = .returned (.bool (p x)) ∧ Below W.heap.size W w') :
  Calls Try.prog 29 #[.slice A0 l0.length c0, .func (.func g) #[] lb] w fun e w' => e = .returned (.bool (l0.any p)) ∧ Below w.heap.size w w' := by
 have HI := m0_ (idx_Live g lb p A0 c0 l0 w hr0 he hp)
 have HE := m0_ (idxBy_any p l0)
 clear hr0 he hp
 go_enter Try.func29, Try.ntmps29
 go_wp2_with (go_at_call 46; refine HI.out.mono ?_; rintro e w1 ⟨rfl, hb⟩; have HB1 := m0_ hb; clear hb)
 go_ret
 exact ⟨by rw [← HE.out]; rfl, HB1.out⟩
theorem idxBy_at_Past (p : S50 → Bool) (l : List S50) (k : Nat) (hk : ∀ j, j < k → ∀ x, l[j]? = some x → p x = false) (hlt : k < l.length) (hp : p (rd_T50 l (k : Int)) = true) : idxBy p l = k := by
 have e : rd_T50 l (k : Int) = l[k] := by unfold rd_T50; simp [List.getD_eq_getElem?_getD, hlt]
 rw [e] at hp
 exact idxBy_at p l k hk hlt hp
set_option maxHeartbeats 1000000 in
set_option maxRecDepth 100000 in
theorem idx_Past (g : FuncId) (lb : Array Value) (p : S50 → Bool) (A0 : Option Addr) (c0 : Nat) (l0 : List S50) (w : World) (hr0 : Kd.C k50 w A0 l0.length l0) (he : ∀ args W, (callFunc g args).run Try.prog W = .ok (.enter g args) W)
  (hp : ∀ (W : World) (x : S50) (A3 : Option Addr) (c3 : Nat) (A4 : Option Addr) (c4 : Nat), x ∈ l0 → Below w.heap.size w W → x.f3.length ≤ c3 → k57.C W A3 x.f3.length x.f3 → x.f4.length ≤ c4 → k59.C W A4 x.f4.length x.f4 → Calls Try.prog g (#[.agg #[.int .i64 x.f0, .int .i64 x.f1, .bool x.f2, .slice A3 x.f3.length c3, .slice A4 x.f4.length c4, .bool x.f5]] ++ lb) W fun e w' => e = .returned (.bool (p x)) ∧ Below W.heap.size W w') :
  Calls Try.prog 42 #[.slice A0 l0.length c0, .func (.func g) #[] lb] w fun e w' => e = .returned (.int .i64 (idxBy p l0)) ∧ Below w.heap.size w w' := by
 have hm : l0.length ≤ 9223372036854775807 := Kd.C_max hr0
 have HR := m0_ hr0
 have hu := Try.underlying50
 clear hr0
 go_enter Try.func42, Try.ntmps42
 go_wp2
 go_loopw [8] (fun i wr => ∃ k : Nat, k ≤ l0.length ∧ i = .int .i64 k ∧ Aside0 (∀ j, j < k → ∀ x, l0[j]? = some x → p x = false) ∧ Aside0 (Below w.heap.size w wr)) (fun i _ => l0.length - (intOf i).toNat)
 case atStart => exact ⟨0, Nat.zero_le _, rfl, ⟨fun j hj => absurd hj (Nat.not_lt_zero _)⟩, ⟨Below.refl _ _⟩⟩
 case round =>
  obtain ⟨k, hk, rfl, HN, HB⟩ := hrel
  by_cases hlt : k < l0.length
  · obtain ⟨ad, A3, c3, A4, c4, e, hx0, hx1, hx2, hx3, hx4, hx5, hl3, hi3, hl4, hi4⟩ := at_T50 (kB_ HR.out HB.out) k (by omega) (by omega)
    cases e
    rw [Int.toNat_natCast] at hx0 hx1 hx2 hx3 hx4 hx5
    have hat := idxBy_at_Past p l0 k HN.out hlt
    have hmem : rd_T50 l0 (k : Int) ∈ l0 := by
     have e : rd_T50 l0 (k : Int) = l0[k] := by unfold rd_T50; simp [List.getD_eq_getElem?_getD, hlt]
     rw [e]
     exact List.getElem_mem hlt
    have hnx : p (rd_T50 l0 (k : Int)) = false → ∀ j, j < k + 1 → ∀ x, l0[j]? = some x → p x = false := by
     intro hv j hj x hx
     rcases Nat.lt_or_ge j k with h | h
     · exact HN.out j h x hx
     · obtain rfl : j = k := by omega
       have e : rd_T50 l0 (j : Int) = x := by unfold rd_T50; rw [Int.toNat_natCast, List.getD_eq_getElem?_getD, hx]; rfl
       rw [← e]
       exact hv
    have HMEM := m0_ hmem
    generalize hv : rd_T50 l0 (k : Int) = v at *
    have hcall := (hp _ v A3 c3 A4 c4 hmem HB.out hl3 hi3 hl4 hi4)
    have HCALL := m0_ hcall
    clear hcall hmem hv HMEM
    cases hq : p v with
    | true =>
     have HE := m0_ (hat hq)
     rw [hq] at HCALL
     clear hat hnx hq
     go_wp2
     refine HCALL.out.mono ?_
     rintro e w1 ⟨rfl, hb⟩
     have HB1 := m0_ (below_step HB.out hb)
     clear hb
     go_wp2
     go_ret
     exact ⟨ret_int HE.out.symm, HB1.out⟩
    | false =>
     have HE := m0_ (hnx hq)
     rw [hq] at HCALL
     clear hat hnx hq
     go_wp2
     refine HCALL.out.mono ?_
     rintro e w1 ⟨rfl, hb⟩
     have HB1 := m0_ (below_step HB.out hb)
     clear hb
     go_wp2
     go_roundw
     case rel => exact ⟨k + 1, by omega, by go_num, HE, HB1⟩
     case measure => simp [intOf]; omega
  · obtain rfl : k = l0.length := by omega
    have HE := m0_ (idxBy_none p l0 (fun x hx => by
     obtain ⟨j, hj, e⟩ := List.getElem_of_mem hx
     exact HN.out j hj x (by rw [List.getElem?_eq_getElem hj, e])))
    go_wp2
    go_ret
    exact ⟨ret_int HE.out.symm, HB.out⟩
set_option maxHeartbeats 1000000 in
set_option maxRecDepth 100000 in
theorem has_Past (g : FuncId) (lb : Array Value) (p : S50 → Bool) (A0 : Option Addr) (c0 : Nat) (l0 : List S50) (w : World) (hr0 : Kd.C k50 w A0 l0.length l0) (he : ∀ args W, (callFunc g args).run Try.prog W = .ok (.enter g args) W)
  (hp : ∀ (W : World) (x : S50) (A3 : Option Addr) (c3 : Nat) (A4 : Option Addr) (c4 : Nat), x ∈ l0 → Below w.heap.size w W → x.f3.length ≤ c3 → k57.C W A3 x.f3.length x.f3 → x.f4.length ≤ c4 → k59.C W A4 x.f4.length x.f4 → Calls Try.prog g (#[.agg #[.int .i64 x.f0, .int .i64 x.f1, .bool x.f2, .slice A3 x.f3.length c3, .slice A4 x.f4.length c4, .bool x.f5]] ++ lb) W fun e w' => e = .returned (.bool (p x)) ∧ Below W.heap.size W w') :
  Calls Try.prog 25 #[.slice A0 l0.length c0, .func (.func g) #[] lb] w fun e w' => e = .returned (.bool (l0.any p)) ∧ Below w.heap.size w w' := by
 have HI := m0_ (idx_Past g lb p A0 c0 l0 w hr0 he hp)
 have HE := m0_ (idxBy_any p l0)
 clear hr0 he hp
 go_enter Try.func25, Try.ntmps25
 go_wp2_with (go_at_call 42; refine HI.out.mono ?_; rintro e w1 ⟨rfl, hb⟩; have HB1 := m0_ hb; clear hb)
 go_ret
 exact ⟨by rw [← HE.out]; rfl, HB1.out⟩
theorem idxBy_at_Span (p : S57 → Bool) (l : List S57) (k : Nat) (hk : ∀ j, j < k → ∀ x, l[j]? = some x → p x = false) (hlt : k < l.length) (hp : p (rd_T57 l (k : Int)) = true) : idxBy p l = k := by
 have e : rd_T57 l (k : Int) = l[k] := by unfold rd_T57; simp [List.getD_eq_getElem?_getD, hlt]
 rw [e] at hp
 exact idxBy_at p l k hk hlt hp
set_option maxHeartbeats 1000000 in
set_option maxRecDepth 100000 in
theorem idx_Span (g : FuncId) (lb : Array Value) (p : S57 → Bool) (A0 : Option Addr) (c0 : Nat) (l0 : List S57) (w : World) (hr0 : Kd.C k57 w A0 l0.length l0) (he : ∀ args W, (callFunc g args).run Try.prog W = .ok (.enter g args) W)
  (hp : ∀ (W : World) (x : S57) (A1 : Option Addr) (c1 : Nat) (A2 : Option Addr) (c2 : Nat), x ∈ l0 → Below w.heap.size w W → x.f1.length ≤ c1 → (Kd.int .u8).C W A1 x.f1.length x.f1 → x.f2.length ≤ c2 → (Kd.int .u8).C W A2 x.f2.length x.f2 → Calls Try.prog g (#[.agg #[.int .i64 x.f0, .slice A1 x.f1.length c1, .slice A2 x.f2.length c2, .bool x.f3]] ++ lb) W fun e w' => e = .returned (.bool (p x)) ∧ Below W.heap.size W w') :
  Calls Try.prog 55 #[.slice A0 l0.length c0, .func (.func g) #[] lb] w fun e w' => e = .returned (.int .i64 (idxBy p l0)) ∧ Below w.heap.size w w' := by
 have hm : l0.length ≤ 9223372036854775807 := Kd.C_max hr0
 have HR := m0_ hr0
 have hu := Try.underlying57
 clear hr0
 go_enter Try.func55, Try.ntmps55
 go_wp2
 go_loopw [8] (fun i wr => ∃ k : Nat, k ≤ l0.length ∧ i = .int .i64 k ∧ Aside0 (∀ j, j < k → ∀ x, l0[j]? = some x → p x = false) ∧ Aside0 (Below w.heap.size w wr)) (fun i _ => l0.length - (intOf i).toNat)
 case atStart => exact ⟨0, Nat.zero_le _, rfl, ⟨fun j hj => absurd hj (Nat.not_lt_zero _)⟩, ⟨Below.refl _ _⟩⟩
 case round =>
  obtain ⟨k, hk, rfl, HN, HB⟩ := hrel
  by_cases hlt : k < l0.length
  · obtain ⟨ad, A1, c1, A2, c2, e, hx0, hx1, hx2, hx3, hl1, hi1, hl2, hi2⟩ := at_T57 (kB_ HR.out HB.out) k (by omega) (by omega)
    cases e
    rw [Int.toNat_natCast] at hx0 hx1 hx2 hx3
    have hat := idxBy_at_Span p l0 k HN.out hlt
    have hmem : rd_T57 l0 (k : Int) ∈ l0 := by
     have e : rd_T57 l0 (k : Int) = l0[k] := by unfold rd_T57; simp [List.getD_eq_getElem?_getD, hlt]
     rw [e]
     exact List.getElem_mem hlt
    have hnx : p (rd_T57 l0 (k : Int)) = false → ∀ j, j < k + 1 → ∀ x, l0[j]? = some x → p x = false := by
     intro hv j hj x hx
     rcases Nat.lt_or_ge j k with h | h
     · exact HN.out j h x hx
     · obtain rfl : j = k := by omega
       have e : rd_T57 l0 (j : Int) = x := by unfold rd_T57; rw [Int.toNat_natCast, List.getD_eq_getElem?_getD, hx]; rfl
       rw [← e]
       exact hv
    have HMEM := m0_ hmem
    generalize hv : rd_T57 l0 (k : Int) = v at *
    have hcall := (hp _ v A1 c1 A2 c2 hmem HB.out hl1 hi1 hl2 hi2)
    have HCALL := m0_ hcall
    clear hcall hmem hv HMEM
    cases hq : p v with
    | true =>
     have HE := m0_ (hat hq)
     rw [hq] at HCALL
     clear hat hnx hq
     go_wp2
     refine HCALL.out.mono ?_
     rintro e w1 ⟨rfl, hb⟩
     have HB1 := m0_ (below_step HB.out hb)
     clear hb
     go_wp2
     go_ret
     exact ⟨ret_int HE.out.symm, HB1.out⟩
    | false =>
     have HE := m0_ (hnx hq)
     rw [hq] at HCALL
     clear hat hnx hq
     go_wp2
     refine HCALL.out.mono ?_
     rintro e w1 ⟨rfl, hb⟩
     have HB1 := m0_ (below_step HB.out hb)
     clear hb
     go_wp2
     go_roundw
     case rel => exact ⟨k + 1, by omega, by go_num, HE, HB1⟩
     case measure => simp [intOf]; omega
  · obtain rfl : k = l0.length := by omega
    have HE := m0_ (idxBy_none p l0 (fun x hx => by
     obtain ⟨j, hj, e⟩ := List.getElem_of_mem hx
     exact HN.out j hj x (by rw [List.getElem?_eq_getElem hj, e])))
    go_wp2
    go_ret
    exact ⟨ret_int HE.out.symm, HB.out⟩
set_option maxHeartbeats 1000000 in
set_option maxRecDepth 100000 in
theorem has_Span (g : FuncId) (lb : Array Value) (p : S57 → Bool) (A0 : Option Addr) (c0 : Nat) (l0 : List S57) (w : World) (hr0 : Kd.C k57 w A0 l0.length l0) (he : ∀ args W, (callFunc g args).run Try.prog W = .ok (.enter g args) W)
  (hp : ∀ (W : World) (x : S57) (A1 : Option Addr) (c1 : Nat) (A2 : Option Addr) (c2 : Nat), x ∈ l0 → Below w.heap.size w W → x.f1.length ≤ c1 → (Kd.int .u8).C W A1 x.f1.length x.f1 → x.f2.length ≤ c2 → (Kd.int .u8).C W A2 x.f2.length x.f2 → Calls Try.prog g (#[.agg #[.int .i64 x.f0, .slice A1 x.f1.length c1, .slice A2 x.f2.length c2, .bool x.f3]] ++ lb) W fun e w' => e = .returned (.bool (p x)) ∧ Below W.heap.size W w') :
  Calls Try.prog 39 #[.slice A0 l0.length c0, .func (.func g) #[] lb] w fun e w' => e = .returned (.bool (l0.any p)) ∧ Below w.heap.size w w' := by
 have HI := m0_ (idx_Span g lb p A0 c0 l0 w hr0 he hp)
 have HE := m0_ (idxBy_any p l0)
 clear hr0 he hp
 go_enter Try.func39, Try.ntmps39
 go_wp2_with (go_at_call 55; refine HI.out.mono ?_; rintro e w1 ⟨rfl, hb⟩; have HB1 := m0_ hb; clear hb)
 go_ret
 exact ⟨by rw [← HE.out]; rfl, HB1.out⟩
theorem idxBy_at_Write (p : S59 → Bool) (l : List S59) (k : Nat) (hk : ∀ j, j < k → ∀ x, l[j]? = some x → p x = false) (hlt : k < l.length) (hp : p (rd_T59 l (k : Int)) = true) : idxBy p l = k := by
 have e : rd_T59 l (k : Int) = l[k] := by unfold rd_T59; simp [List.getD_eq_getElem?_getD, hlt]
 rw [e] at hp
 exact idxBy_at p l k hk hlt hp
set_option maxHeartbeats 1000000 in
set_option maxRecDepth 100000 in
theorem idx_Write (g : FuncId) (lb : Array Value) (p : S59 → Bool) (A0 : Option Addr) (c0 : Nat) (l0 : List S59) (w : World) (hr0 : Kd.C k59 w A0 l0.length l0) (he : ∀ args W, (callFunc g args).run Try.prog W = .ok (.enter g args) W)
  (hp : ∀ (W : World) (x : S59) (A1 : Option Addr) (c1 : Nat) (A3 : Option Addr) (c3 : Nat), x ∈ l0 → Below w.heap.size w W → x.f1.length ≤ c1 → (Kd.int .u8).C W A1 x.f1.length x.f1 → x.f3.length ≤ c3 → (Kd.int .u8).C W A3 x.f3.length x.f3 → Calls Try.prog g (#[.agg #[.int .i64 x.f0, .slice A1 x.f1.length c1, .bool x.f2, .slice A3 x.f3.length c3]] ++ lb) W fun e w' => e = .returned (.bool (p x)) ∧ Below W.heap.size W w') :
  Calls Try.prog 54 #[.slice A0 l0.length c0, .func (.func g) #[] lb] w fun e w' => e = .returned (.int .i64 (idxBy p l0)) ∧ Below w.heap.size w w' := by
 have hm : l0.length ≤ 9223372036854775807 := Kd.C_max hr0
 have HR := m0_ hr0
 have hu := Try.underlying59
 clear hr0
 go_enter Try.func54, Try.ntmps54
 go_wp2
 go_loopw [8] (fun i wr => ∃ k : Nat, k ≤ l0.length ∧ i = .int .i64 k ∧ Aside0 (∀ j, j < k → ∀ x, l0[j]? = some x → p x = false) ∧ Aside0 (Below w.heap.size w wr)) (fun i _ => l0.length - (intOf i).toNat)
 case atStart => exact ⟨0, Nat.zero_le _, rfl, ⟨fun j hj => absurd hj (Nat.not_lt_zero _)⟩, ⟨Below.refl _ _⟩⟩
 case round =>
  obtain ⟨k, hk, rfl, HN, HB⟩ := hrel
  by_cases hlt : k < l0.length
  · obtain ⟨ad, A1, c1, A3, c3, e, hx0, hx1, hx2, hx3, hl1, hi1, hl3, hi3⟩ := at_T59 (kB_ HR.out HB.out) k (by omega) (by omega)
    cases e
    rw [Int.toNat_natCast] at hx0 hx1 hx2 hx3
    have hat := idxBy_at_Write p l0 k HN.out hlt
    have hmem : rd_T59 l0 (k : Int) ∈ l0 := by
     have e : rd_T59 l0 (k : Int) = l0[k] := by unfold rd_T59; simp [List.getD_eq_getElem?_getD, hlt]
     rw [e]
     exact List.getElem_mem hlt
    have hnx : p (rd_T59 l0 (k : Int)) = false → ∀ j, j < k + 1 → ∀ x, l0[j]? = some x → p x = false := by
     intro hv j hj x hx
     rcases Nat.lt_or_ge j k with h | h
     · exact HN.out j h x hx
     · obtain rfl : j = k := by omega
       have e : rd_T59 l0 (j : Int) = x := by unfold rd_T59; rw [Int.toNat_natCast, List.getD_eq_getElem?_getD, hx]; rfl
       rw [← e]
       exact hv
    have HMEM := m0_ hmem
    generalize hv : rd_T59 l0 (k : Int) = v at *
    have hcall := (hp _ v A1 c1 A3 c3 hmem HB.out hl1 hi1 hl3 hi3)
    have HCALL := m0_ hcall
    clear hcall hmem hv HMEM
    cases hq : p v with
    | true =>
     have HE := m0_ (hat hq)
     rw [hq] at HCALL
     clear hat hnx hq
     go_wp2
     refine HCALL.out.mono ?_
     rintro e w1 ⟨rfl, hb⟩
     have HB1 := m0_ (below_step HB.out hb)
     clear hb
     go_wp2
     go_ret
     exact ⟨ret_int HE.out.symm, HB1.out⟩
    | false =>
     have HE := m0_ (hnx hq)
     rw [hq] at HCALL
     clear hat hnx hq
     go_wp2
     refine HCALL.out.mono ?_
     rintro e w1 ⟨rfl, hb⟩
     have HB1 := m0_ (below_step HB.out hb)
     clear hb
     go_wp2
     go_roundw
     case rel => exact ⟨k + 1, by omega, by go_num, HE, HB1⟩
     case measure => simp [intOf]; omega
  · obtain rfl : k = l0.length := by omega
    have HE := m0_ (idxBy_none p l0 (fun x hx => by
     obtain ⟨j, hj, e⟩ := List.getElem_of_mem hx
     exact HN.out j hj x (by rw [List.getElem?_eq_getElem hj, e])))
    go_wp2
    go_ret
    exact ⟨ret_int HE.out.symm, HB.out⟩
set_option maxHeartbeats 1000000 in
set_option maxRecDepth 100000 in
theorem has_Write (g : FuncId) (lb : Array Value) (p : S59 → Bool) (A0 : Option Addr) (c0 : Nat) (l0 : List S59) (w : World) (hr0 : Kd.C k59 w A0 l0.length l0) (he : ∀ args W, (callFunc g args).run Try.prog W = .ok (.enter g args) W)
  (hp : ∀ (W : World) (x : S59) (A1 : Option Addr) (c1 : Nat) (A3 : Option Addr) (c3 : Nat), x ∈ l0 → Below w.heap.size w W → x.f1.length ≤ c1 → (Kd.int .u8).C W A1 x.f1.length x.f1 → x.f3.length ≤ c3 → (Kd.int .u8).C W A3 x.f3.length x.f3 → Calls Try.prog g (#[.agg #[.int .i64 x.f0, .slice A1 x.f1.length c1, .bool x.f2, .slice A3 x.f3.length c3]] ++ lb) W fun e w' => e = .returned (.bool (p x)) ∧ Below W.heap.size W w') :
  Calls Try.prog 37 #[.slice A0 l0.length c0, .func (.func g) #[] lb] w fun e w' => e = .returned (.bool (l0.any p)) ∧ Below w.heap.size w w' := by
 have HI := m0_ (idx_Write g lb p A0 c0 l0 w hr0 he hp)
 have HE := m0_ (idxBy_any p l0)
 clear hr0 he hp
 go_enter Try.func37, Try.ntmps37
 go_wp2_with (go_at_call 54; refine HI.out.mono ?_; rintro e w1 ⟨rfl, hb⟩; have HB1 := m0_ hb; clear hb)
 go_ret
 exact ⟨by rw [← HE.out]; rfl, HB1.out⟩
class Ups (w W : World) : Prop where
 up : ∀ (g : Nat) (o : Obj), w.heap[g]? = some o → W.heap[g]? = some o
instance Ups.same (w : World) : Ups w w := ⟨fun _ _ h => h⟩
instance Ups.alloc (w W : World) (o : Obj) [h : Ups w W] : Ups w (W.alloc o) := ⟨fun g x hx => blk_alloc (h.up g x hx) o⟩
instance Ups.drewN (w W : World) (n : Nat) [h : Ups w W] : Ups w (W.drewN n) := ⟨fun g x hx => h.up g x hx⟩
instance Ups.drew (w W : World) [h : Ups w W] : Ups w W.drew := ⟨fun g x hx => h.up g x hx⟩
theorem Ups.at {w W : World} (h : Ups w W) (k : Nat) (hk : k < w.heap.size) : W.heap[k]? = w.heap[k]? := by
 rw [Array.getElem?_eq_getElem hk]
 exact h.up k _ (Array.getElem?_eq_getElem hk)
theorem bU {w W : World} [h : Ups w W] {g : Nat} {o : Obj} (x : w.heap[g]? = some o) : W.heap[g]? = some o := h.up g o x
theorem rU {α : Type} {d : Kd α} {e base : Nat} {w W : World} {ok : Nat → Prop} {v : Value} {xs : List α} [h : Ups w W] (x : Kd.R d e w base ok v xs) : Kd.R d e W base ok v xs := Kd.R_step x (fun k _ hk => h.at k hk)
theorem bA {w W : World} (h : Below w.heap.size w W) (o : Obj) : Below w.heap.size w (W.alloc o) := bA_ h o
theorem bN {B : Nat} {w W : World} (h : Below B w W) (n : Nat) : Below B w (W.drewN n) := dN_ h n
theorem bD {base : Nat} {w W : World} (h : Below base w W) : Below base w W.drew := b1_ h
theorem bS {w W : World} {g j : Nat} {v : Value} (h : Below w.heap.size w W) (hg : w.heap.size ≤ g) : Below w.heap.size w (W.setCell ⟨g, j, none⟩ v) := below_set h hg
theorem aM {p : Prop} (h : p) : Aside0 p := ⟨h⟩
abbrev T_ := true
abbrev F_ := false
theorem kB {w w1 : World} {g : Nat} {o : Obj} (h : w.heap[g]? = some o) (hb : Below w.heap.size w w1) : w1.heap[g]? = some o := blk_below h hb
theorem kF {w : World} {g : Nat} {t : TypeId} {cs : Array Value} (h : w.heap[g]? = some (.cells cs t (0, 0))) (i : Nat) : w.frozen? ⟨g, i, none⟩ = false := bf_ h i
theorem kC {w : World} {g : Nat} {t : TypeId} {cs : Array Value} (h : w.heap[g]? = some (.cells cs t (0, 0))) (i : Nat) : w.cell? ⟨g, i, none⟩ = cs[i]? := blk_cell h i
theorem uE {x : Option Value} {A A' : Option Addr} {n n' c c' : Nat} (h : x = some (.slice A n c)) (h' : x = some (.slice A' n' c')) : A = A' ∧ c = c' := by
 have e := sO_ (h.symm.trans h')
 injection e with e1 e2 e3
 exact ⟨e1, e3⟩
class UpB (w W : World) : Prop where
 up : Below w.heap.size w W
instance UpB.same (w : World) : UpB w w := ⟨Below.refl _ _⟩
instance UpB.alloc (w W : World) (o : Obj) [h : UpB w W] : UpB w (W.alloc o) := ⟨bA_ h.up o⟩
instance UpB.drewN (w W : World) (n : Nat) [h : UpB w W] : UpB w (W.drewN n) := ⟨dN_ h.up n⟩
instance UpB.drew (w W : World) [h : UpB w W] : UpB w W.drew := ⟨b1_ h.up⟩
theorem cU {α : Type} {d : Kd α} {w W : World} {A : Option Addr} {n : Nat} {xs : List α} [h : UpB w W] (x : Kd.C d w A n xs) : Kd.C d W A n xs := kB_ x h.up
def calmOps (ops : Array Oper) : Bool := ops.all fun o => match o.op with | .defer _ => false | _ => true
theorem Oper.wpIn_round {P : Program} {o : Oper} {a : Act} {w : World} {l n : Nat} {K : Act → World → Prop} {Q : Exit → Act → World → Prop} (ho : ∀ c, o.op ≠ .defer c) (hQ : ¬ LetsOut Q) (h : o.wp P a w K Q) : o.wpIn (Fence.wide.inRound l) n P a w K Q := by
 refine ⟨fun _ _ => trivial, ?_⟩
 rw [Oper.semAt_eq _ _ _ ho]
 unfold Oper.wp at h
 generalize hr : (execOp a.eval o).run P w = r at h
 cases r with
 | ok x w' =>
  cases x with
  | value v => exact h
  | skip => exact h
  | defer d => exact h
  | enter f args =>
   refine ⟨fun e => Bool.noConfusion (show false = true from e), CallsIn.inRound l (callsIn_wide.2 (Calls.mono h ?_))⟩
   intro e w'' he
   cases e <;> exact he
  | row row args => exact ⟨fun e => Bool.noConfusion (show false = true from e), fun c cs _ => let ⟨v, w2, r, s⟩ := h c cs; ⟨v, w2, r, stepsIn_wide.2 s⟩⟩
  | _ => exact h.elim
 | halt x w' =>
  cases x <;> first | exact h | exact h.elim
theorem wpAnyIn_round {P : Program} {md : Region.Mode} {ops : Array Oper} {l n : Nat} {Q : Exit → Act → World → Prop} (ho : calmOps ops = true) (hQ : ¬ LetsOut Q) :
  ∀ (fuel : Nat) (listed : Array Bool) (a : Act) (w : World), wpAny P md ops Q fuel listed a w → wpAnyIn (Fence.wide.inRound l) n P md ops Q fuel listed a w := by
 intro fuel
 induction fuel with
 | zero => exact fun _ _ _ h => h
 | succ fuel ih =>
  intro listed a w h
  refine ⟨h.1, fun i hi => ?_⟩
  have h2 := h.2 i hi
  unfold wpOp at h2
  unfold wpOpIn
  cases hoi : ops[i]? with
  | none => rw [hoi] at h2; exact ih _ _ _ h2
  | some o =>
   rw [hoi] at h2
   simp only at h2 ⊢
   have hmem : o ∈ ops := Array.mem_of_getElem? hoi
   have hnd : ∀ c, o.op ≠ .defer c := by
     intro c hc
     have := Array.all_eq_true_iff_forall_mem.mp ho o hmem
     simp [hc] at this
   split
   · rename_i hw
     rw [if_pos hw] at h2
     rcases h2 with h2 | h2
     · exact Oper.wpIn_round hnd hQ (Oper.wp_mono (fun a w hk => ih _ _ _ hk) h2)
     · exact absurd h2.2 hQ
   · rename_i hw
     rw [if_neg hw] at h2
     exact ⟨fun _ _ => trivial, ih _ _ _ h2⟩
theorem startIn_ {P : Program} {ops : Array Oper} {S : World → Prop} {ds : List Nat} {l m : Nat} {Q : Exit → Act → World → Prop} {id n : Nat} {a : Act} {w : World} (li : Array Bool) (hc : calmOps ops = true) (hQ : ¬ LetsOut Q) (hm : P.follows .mixedOrders = true) (hn : ops.size = n) (hl : Array.replicate n false = li) (hS : S w.drew)
  (h : S w.drew → wpAnyLast P .any ops Q S ds n li a w.drew) : (Code.region id ops true).wpIn (Fence.wide.inRound l) m P Q a w := by
 subst hn
 subst hl
 exact wpIn_region_any hm (wpAnyIn_round hc hQ _ _ _ _ (wpAny_of_last _ _ _ _ (h hS)))
theorem putObj_alloc (W : World) (o : Obj) {l : Nat} (b : Obj) (h : l < W.heap.size) : (W.alloc o).putObj l b = (W.putObj l b).alloc o := by
 show ({ W with heap := (W.heap.push o).setIfInBounds l b } : World) = { W with heap := (W.heap.setIfInBounds l b).push o }
 congr 1
 apply Array.ext_getElem?
 intro i
 have hne : ¬ W.heap.size = l := by omega
 by_cases e : l = i
 · subst e
   have h2 : l < (W.heap.push o).size := by simp; omega
   rw [Array.getElem?_setIfInBounds_self_of_lt h2, Array.getElem?_push, Array.size_setIfInBounds, if_neg (by omega), Array.getElem?_setIfInBounds_self_of_lt h]
 · rw [Array.getElem?_setIfInBounds_ne e, Array.getElem?_push, Array.getElem?_push, Array.size_setIfInBounds, Array.getElem?_setIfInBounds_ne e]
theorem range_boxed {F : Fence} {n : Nat} {P : Program} {α : Type} {g : Operand} {ps : Array Tmp} {assign body : Code} {Q : Exit → Act → World → Prop} {a : Act} {w : World}
   (hro : F.round = none) (h1 : 1 ≤ n) {gf : Nat} {lb : Array Value} (hg : a.eval g = .func (.func gf) #[] lb) (hFg : F.fn gf) (eg : ∀ args w, (callFunc gf args).run P w = .ok (.enter gf args) w)
   (encs : α → Array Value) (hps : ∀ x, (encs x).size = ps.size) (S : List α → Prop) (N : Nat) (I : List α → World → Prop) (G : α → World → Prop)
   (hIb : ∀ pre W l o', (l = w.heap.size ∨ l = w.heap.size + 1) → I pre W → I pre (W.putObj l o'))
   (hGb : ∀ x W l o', (l = w.heap.size ∨ l = w.heap.size + 1) → G x W → G x (W.putObj l o'))
   (h0 : ∀ r : Loop, I [] ((w.alloc (.deferred (some []))).alloc (.loop r))) (a₁ : α → Nat → Act) (ob : α → Obj)
   (hassign : ∀ (l : Nat) (x : α) (W : World) (K : Act → World → Prop), K (a₁ x W.heap.size) (W.alloc (ob x)) →
     assign.wpIn (F.inRound l) (n - 1 - 1) P (Exit.then K (fun _ _ _ => False)) { tmps := (ps.zip (encs x)).foldl (fun t (p, v) => t.setIfInBounds p v) a.tmps, defers := [] } W)
   (hbody : ∀ (l : Nat) (pre : List α) (x : α) (W : World), I pre W → G x W → pre.length < N → body.wpIn (F.inRound l) (n - 1 - 1) P (fun e _ W' => e = .normal ∧ KeepsOthers W W' ∧ I (pre ++ [x]) W') (a₁ x W.heap.size) (W.alloc (ob x)))
   (hit : ∀ (l : Nat) (J : List α → World → Prop) (W : World), (∀ pre W, J pre W → I pre W) → (∀ pre pre' W W', J pre W → KeepsOthers W W' → I pre' W' → J pre' W') →
     (∀ pre x W1, J pre W1 → G x W1 → pre.length < N → YieldAt F (n - 1 - 1) P l (encs x) W1 fun e W' => e = .returned (.bool true) ∧ J (pre ++ [x]) W') → J [] W →
     CallsIn F (n - 1) P gf (#[.func (.yield l) #[] #[]] ++ lb) W fun e W' => (∃ v, e = .returned v) ∧ ∃ xs, S xs ∧ J xs W')
   (hdone : ∀ (D : Nat) (xs : List α) (W : World), D = w.heap.size → S xs → I xs W → W.heap[D]? = some (.deferred (some [])) → Q .normal { a with defers := { target := .collected D, args := #[] } :: a.defers } W) :
   (Code.rangeFunc g ps assign body).wpIn F n P Q a w := by
 refine wpIn_rangeFunc fun fn hfn => ?_
 rw [hro]
 let R : LoopState → Option Code → Loop := fun st pe => { state := st, pending := pe, fn := fn, tmps := a.tmps, params := ps, assign := assign, body := body, defers := w.heap.size }
 let W1 := (w.alloc (.deferred (some []))).alloc (.loop (R .ready none))
 have hL1 : W1.heap[w.heap.size + 1]? = some (.loop (R .ready none)) := by
   have := World.alloc_heap_new (w.alloc (.deferred (some []))) (.loop (R .ready none)); rwa [World.size_alloc] at this
 have hK1 : W1.heap[w.heap.size]? = some (.deferred (some [])) := (Below.heap_alloc _ _ _ (by simp)).trans (World.alloc_heap_new w _)
 refine ⟨w.heap.size + 1, _, W1, { target := .fn (.func gf) lb, args := #[.func (.yield (w.heap.size + 1)) #[] #[]] }, W1, gf, #[.func (.yield (w.heap.size + 1)) #[] #[]] ++ lb, W1,
   run_enterLoop_outer _ _ _ _ _, ?_, ?_, ?_, fun _ => h1, ?_⟩
 · simp only [resolve, hg]
   simp [go_sem]
 · intro f' hf'; simp [Target.leads] at hf'; subst hf'; exact hFg
 · simp [invoke, go_sem, eg]
 · refine (hit (w.heap.size + 1) (fun pre W => I pre W ∧ W.heap[w.heap.size + 1]? = some (.loop (R .ready none)) ∧ W.heap[w.heap.size]? = some (.deferred (some []))) W1
     (fun _ _ h => h.1) (fun _ _ _ _ h hk hi => ⟨hi, hk.same _ _ h.2.1 rfl, hk.same _ _ h.2.2 rfl⟩) ?_ ⟨h0 _, hL1, hK1⟩).mono ?_
   · rintro pre x W ⟨hi, hl, hk⟩ hG hN
     have hlt : w.heap.size + 1 < W.heap.size := (Array.getElem?_eq_some_iff.1 hl).1
     have hlA : (W.alloc (ob x)).heap[w.heap.size + 1]? = some (.loop { R .ready none with state := .ready }) := (Below.heap_alloc _ _ _ hlt).trans hl
     refine ⟨fn, _, assign, body, run_yield (P := P) (args := encs x) hl (hps x), roundIn_of_wpIn hfn (hassign _ x W _ ⟨_, run_beginRound hlA rfl, ?_⟩)⟩
     rw [putObj_alloc W (ob x) _ hlt]
     have hl2 := World.putObj_heap_same (o := .loop { R .ready none with state := .busy }) hlt
     have hk2 : (W.putObj (w.heap.size + 1) (.loop { R .ready none with state := .busy })).heap[w.heap.size]? = some (.deferred (some [])) := (World.putObj_heap_other (by omega)).trans hk
     have hbd := hbody (w.heap.size + 1) pre x _ (hIb pre W (w.heap.size + 1) (.loop { R .ready none with state := .busy }) (by omega) hi) (hGb x W (w.heap.size + 1) (.loop { R .ready none with state := .busy }) (by omega) hG) hN
     rw [World.putObj_size] at hbd
     refine wpIn_mono hbd ?_
     rintro e a3 W3 ⟨rfl, hk3, hi3⟩
     have hl3 := hk3.same _ _ hl2 rfl
     refine ⟨_, _, run_endRound none hl3, rfl, hIb _ _ _ _ (by omega) hi3, World.putObj_heap_same (Array.getElem?_eq_some_iff.1 hl3).1, (World.putObj_heap_other (by omega)).trans (hk3.same _ _ hk2 rfl)⟩
   · rintro e W2 ⟨⟨v, rfl⟩, xs, hS, hi, hl, hk⟩
     exact ⟨none, _, run_endLoop (P := P) hl (by simp [R]), hdone _ xs _ rfl hS (hIb _ _ _ _ (by omega) hi) ((World.putObj_heap_other (by omega)).trans hk)⟩
theorem N_pushS {α : Type} {d : Kd α} {e base : Nat} {ok : Nat → Prop} {W : World} {v : Value} {xs : List α} (h : Kd.N d e W base ok v xs) (hfresh : ∀ k, W.heap.size ≤ k → ok k) :
  ∃ inner, W.ownsRow base e d.sz v xs.length inner ∧ ∀ (o : Obj) (t : α) (u : List Value) (okp : Nat → Prop) (v1 : Value) (w1 : World), Kd.FK d W okp t u → (∀ k, okp k → ok k ∧ some k ≠ v.ownBlock) → w1.ownsRow base e d.sz v1 (xs.length + 1) (inner ++ u) → (W.alloc o).grownBy w1 v.ownBlock → (v1.ownBlock = v.ownBlock ∨ v1.ownBlock = some (W.alloc o).heap.size) → Kd.N d e w1 base ok v1 (xs ++ [t]) := by
 have hal := fun o => Kd.N_alloc h o
 obtain ⟨h0, rows, hl, ⟨h0', inner, hown, hr⟩, hf⟩ := h
 have hsz' : (Kd.raw d.sz).sz = d.sz := rfl
 rw [hsz', hl] at hown
 refine ⟨inner, hown, fun o t u okp v1 w1 hc hokp hown1 hg hat => ?_⟩
 have hat' : v1.ownBlock = v.ownBlock ∨ ∃ b, v1.ownBlock = some b ∧ (W.alloc o).heap.size ≤ b := hat.imp id (fun e => ⟨_, e, Nat.le_refl _⟩)
 have hR : (Kd.raw d.sz).R e w1 base (fun _ => True) v1 (rows ++ [u]) := Kd.R_appended (W := W.alloc o) (okp := fun _ => False) (fun _ _ => trivial) hr (Kd.FK_raw hc) (fun _ hk => hk.elim) (fun _ _ => trivial) (by rw [hsz', hl]; exact hown1) hg hat'
 refine Kd.N_appended (W := W.alloc o) (news := [u]) (ys := [t]) (okp := okp) h0 hl (fun j x c hx hc2 => Kd.FK_below (hf j x c hx hc2) (bA_ (Below.refl _ _) o)) rfl ?_ hokp (fun k hk => hfresh k (by rw [World.size_alloc] at hk; omega)) hR hg hat'
 intro j x c hx hc2
 cases j with
 | zero =>
  simp at hx hc2
  subst hx; subst hc2
  exact Kd.FK_below hc (bA_ (Below.refl _ _) o)
 | succ j => simp at hx
def bytesI (s : ByteArray) : List Int := s.data.toList.map fun b => (b.toNat : Int)
theorem bytesI_length (s : ByteArray) : (bytesI s).length = s.size := by
 unfold bytesI
 rw [List.length_map, Array.length_toList]
 rfl
theorem conv_str_op {P : Program} {ops : Array Oper} {rest : List Oper} {o : Oper} {a : Act} {Q : Exit → Act → World → Prop} {W : World} (s t e : TypeId) {u : TypeDesc} (hs : P.underlying s = some u) (ht : P.underlying t = some (.slice e)) (he : P.underlying e = some (.int .u8)) (hg : o.guard = none) (N : Tmp) (hd : o.dst = some N) (x : Operand) (ho : o.op = .convert s t x)
   (str : ByteArray) (hx : a.eval x = .string str) (hm : str.size ≤ 9223372036854775807)
   (h : ∀ A c w1, (bytesI str).length ≤ c → Kd.V (Kd.int .u8) e w1 W.heap.size (fun k_ => W.heap.size ≤ k_) (.slice A (bytesI str).length c) (bytesI str) → Below W.heap.size W w1 → wpList P ops Q rest (a.put (some N) (.slice A (bytesI str).length c)) w1) : wpList P ops Q (o :: rest) a W := by
 have hc := Lib.run_convert_string_bytes (P := P) W s t e str hs ht he
 have hrun : (execOp a.eval o).run P W = .ok (.value (.slice (some ⟨W.heap.size, 0, none⟩) str.size (grownCap W str.size 0 e))) (Lib.bytesWorld W e str) := by
   unfold execOp
   rw [ho]
   show (do let v ← convert s t (a.eval x); pure (Next.value v) : Sem Next).run P W = _
   rw [hx]
   simp only [Sem.run_bind, hc, Result.andThen, Sem.run_pure]
 refine Kd.event_run hg hrun ?_
 rw [hd]
 have hcap : str.size ≤ grownCap W str.size 0 e := grownCap_ge W _ _ _
 have hB : Below W.heap.size W (Lib.bytesWorld W e str) := ⟨rfl, rfl, rfl, by rw [Lib.bytesWorld_size]; omega, fun k hk => Lib.bytesWorld_at_old W e str k hk⟩
 have hnew := Lib.bytesWorld_at_new W e str
 have hl := bytesI_length str
 have hh := h (some ⟨W.heap.size, 0, none⟩) (grownCap W str.size 0 e) (Lib.bytesWorld W e str) (by omega) ?_ hB
 · rw [hl] at hh; exact hh
 refine ⟨some ⟨W.heap.size, 0, none⟩, grownCap W str.size 0 e, rfl, by omega, fun W' hW => ⟨rfl, by omega, fun _ => ⟨⟨W.heap.size, 0, none⟩, rfl, fun j p hj => ⟨[.int .u8 p], rfl, rfl, fun i u hu => ?_⟩⟩⟩⟩
 have hlt : W.heap.size < (Lib.bytesWorld W e str).heap.size := by rw [Lib.bytesWorld_size]; omega
 have hg' := (hW W.heap.size (Nat.le_refl _) hlt).trans hnew
 cases i with
 | succ i => simp at hu
 | zero =>
   have hu' : Value.int .u8 p = u := by simpa using hu
   subst hu'
   have hjl : j < str.size := by have := (List.getElem?_eq_some_iff.1 hj).1; omega
   have h1 := Lib.bytesWorld_cell W e str j hjl
   rw [cell_of_row _ W.heap.size _ _ e _ hnew] at h1
   rw [add_plain, cell_of_row W' W.heap.size _ _ e _ hg']
   have hs1 : (Kd.int .u8).sz = 1 := rfl
   rw [hs1, Nat.mul_one, Nat.add_zero, h1]
   unfold bytesI at hj
   simp only [List.getElem?_map] at hj
   have hjl2 : j < str.data.toList.length := by rw [Array.length_toList]; exact hjl
   rw [List.getElem?_eq_getElem hjl2] at hj
   have hp : ((str.data.toList[j]).toNat : Int) = p := by simpa using hj
   rw [List.getD_eq_getElem?_getD, List.getElem?_eq_getElem hjl2, ← hp]
   rfl
def okSp (x : S57) : Bool := decide (x.f1.length < 140737488355328) && decide (x.f2.length < 140737488355328)
theorem N_block {α : Type} {d : Kd α} {e base : Nat} {ok : Nat → Prop} {W : World} {v : Value} {xs : List α} (h : Kd.N d e W base ok v xs) :
   ∃ A c, v = .slice A xs.length c ∧ xs.length ≤ c ∧ (0 < xs.length → ∃ (g : Nat) (cur : List Value), A = some ⟨g, 0, none⟩ ∧ base ≤ g ∧ W.heap[g]? = some (.cells cur.toArray e (0, 0)) ∧ xs.length * d.sz ≤ cur.length ∧
     ∀ j x, xs[j]? = some x → Kd.FK d W (fun k => ok k ∧ k ≠ g) x ((cur.drop (j * d.sz)).take d.sz)) := by
 obtain ⟨h0, rows, hl, ⟨_, inner, ⟨hlen, hown⟩, hr⟩, hf⟩ := h
 rcases hown with ⟨rfl, h1⟩ | ⟨g, cap, cur, rfl, hb, hg, hc, hcm, hcs, hi⟩
 · exact ⟨none, 0, by rw [← hl, h1], by omega, fun h => by omega⟩
 · refine ⟨_, cap, by rw [hl], by omega, fun hn => ⟨g, cur.toList, rfl, hb, hg, ?_, fun j x hx => ?_⟩⟩
   · have e1 : cur.toList.length = cap * d.sz := (Array.length_toList).trans hcs
     rw [e1, ← hl]
     exact Nat.mul_le_mul_right _ hc
   · have hjx : j < xs.length := (List.getElem?_eq_some_iff.1 hx).1
     obtain ⟨c, hc1⟩ : ∃ c, rows[j]? = some c := ⟨_, List.getElem?_eq_getElem (by omega)⟩
     have h2 := hr.2 j c hc1
     have h3 : (inner.drop (j * d.sz)).take d.sz = c := h2.1
     have h4 : (cur.toList.drop (j * d.sz)).take d.sz = c := by
      rw [← h3, ← hi, List.drop_take, List.take_take]
      congr 1
      have : j * d.sz + d.sz ≤ rows.length * d.sz := by rw [← Nat.succ_mul]; exact Nat.mul_le_mul_right _ (by omega)
      have e1 : (Kd.raw d.sz).sz = d.sz := rfl
      rw [e1]
      omega
     rw [h4]
     refine Kd.FK_mono (hf j x c hx hc1) (fun k hk => ⟨hk.1, fun he => hk.2 ?_⟩)
     subst he
     rfl
theorem F_of_block {α : Type} {d : Kd α} {W : World} {A : Option Addr} {t : Nat} {ok : Nat → Prop} {l : List α} (hm : l.length ≤ 9223372036854775807)
   (h : 0 < l.length → ∃ (g : Nat) (cur : List Value), A = some ⟨g, 0, none⟩ ∧ W.heap[g]? = some (.cells cur.toArray t (0, 0)) ∧ ok g ∧ l.length * d.sz ≤ cur.length ∧ ∀ j p, l[j]? = some p → Kd.FK d W ok p ((cur.drop (j * d.sz)).take d.sz)) :
   Kd.F d W ok A l.length l := by
 refine fun W' hW => ⟨rfl, hm, fun hn => ?_⟩
 obtain ⟨g, cur, rfl, hg, hok, hl, hE⟩ := h hn
 refine ⟨⟨g, 0, none⟩, rfl, fun j p hj => ⟨(cur.drop (j * d.sz)).take d.sz, ?_, hE j p hj W' hW, fun i u hu => ?_⟩⟩
 · have hjl : j < l.length := (List.getElem?_eq_some_iff.1 hj).1
   have : j * d.sz + d.sz ≤ l.length * d.sz := by rw [← Nat.succ_mul]; exact Nat.mul_le_mul_right _ hjl
   rw [lT_, lD_]; omega
 · have hg' : W'.heap[g]? = some (.cells cur.toArray t (0, 0)) := (hW g hok (blk_lt hg)).trans hg
   have hi : i < d.sz := by
    have := (List.getElem?_eq_some_iff.1 hu).1
    rw [lT_] at this; omega
   rw [add_plain, blk_cell hg']
   rw [← hu, ← chunk_at hi]
   simp
theorem meas_stepK (n k : Nat) (h : k < n) : n - (intOf (.int .i64 ((k : Int) + 1))).toNat < n - (intOf (.int .i64 (k : Int))).toNat := by
 simp only [intOf]
 omega
def RowSt {α : Type} (d : Kd α) (t : Nat) (wr : World) (A : Option Addr) (l : List α) (k B : Nat) (D U : Nat → Prop) : Prop :=
 0 < l.length → A = some ⟨B, 0, none⟩ ∧ B < wr.heap.size ∧ ∃ cur : List Value, wr.heap[B]? = some (.cells cur.toArray t (0, 0)) ∧ l.length * d.sz ≤ cur.length ∧
  ∀ j p, l[j]? = some p → (j < k → Kd.FK d wr D p ((cur.drop (j * d.sz)).take d.sz)) ∧ (k ≤ j → Kd.FK d wr U p ((cur.drop (j * d.sz)).take d.sz))
theorem RowSt.step {α : Type} {d : Kd α} {t : Nat} {wr wr1 : World} {A : Option Addr} {l : List α} {k B : Nat} {D U : Nat → Prop} (h : RowSt d t wr A l k B D U) (hs : wr.heap.size ≤ wr1.heap.size)
  (hB : 0 < l.length → B < wr.heap.size → wr1.heap[B]? = wr.heap[B]?) (hD : ∀ q, 0 < k → D q → q < wr.heap.size → wr1.heap[q]? = wr.heap[q]?) (hU : ∀ q, 0 < l.length → U q → q < wr.heap.size → wr1.heap[q]? = wr.heap[q]?) : RowSt d t wr1 A l k B D U := by
 intro hn
 obtain ⟨h1, h2, cur, h3, h4, h5⟩ := h hn
 exact ⟨h1, by omega, cur, (hB hn h2).trans h3, h4, fun j p hj => ⟨fun hk => Kd.FK_step ((h5 j p hj).1 hk) (fun q hq hl => hD q (by omega) hq hl), fun hk => Kd.FK_step ((h5 j p hj).2 hk) (fun q hq hl => hU q hn hq hl)⟩⟩
theorem RowSt.below {α : Type} {d : Kd α} {t : Nat} {wr wr1 : World} {A : Option Addr} {l : List α} {k B : Nat} {D U : Nat → Prop} (h : RowSt d t wr A l k B D U) (hb : Below wr.heap.size wr wr1) : RowSt d t wr1 A l k B D U :=
 h.step hb.size (fun _ hl => hb.block _ hl) (fun _ _ _ hl => hb.block _ hl) (fun _ _ _ hl => hb.block _ hl)
theorem RowSt.of_block {α : Type} {d : Kd α} {t base : Nat} {wr : World} {A : Option Addr} {l : List α} {ok : Nat → Prop} (hw : 0 < wr.heap.size) (h : 0 < l.length → ∃ (g : Nat) (cur : List Value), A = some ⟨g, 0, none⟩ ∧ base ≤ g ∧ wr.heap[g]? = some (.cells cur.toArray t (0, 0)) ∧ l.length * d.sz ≤ cur.length ∧
    ∀ j x, l[j]? = some x → Kd.FK d wr (fun k => ok k ∧ k ≠ g) x ((cur.drop (j * d.sz)).take d.sz)) :
   ∃ B, (0 < l.length → base ≤ B) ∧ B < wr.heap.size ∧ (base ≤ B ∨ B = 0) ∧ ∀ D, RowSt d t wr A l 0 B D (fun q => ok q ∧ q ≠ B) := by
 by_cases hn : 0 < l.length
 · obtain ⟨g, cur, h1, h2, h3, h4, h5⟩ := h hn
   exact ⟨g, fun _ => h2, blk_lt h3, .inl h2, fun D _ => ⟨h1, blk_lt h3, cur, h3, h4, fun j p hj => ⟨fun hk => absurd hk (Nat.not_lt_zero _), fun _ => h5 j p hj⟩⟩⟩
 · exact ⟨0, fun h => absurd h hn, hw, .inr rfl, fun D h => absurd h hn⟩
def inB (x : S57) (t : Int) (k : List Int) : Bool := decide (x.f0 = t) && (decide (Lib.compareBytes (Lib.bytesOf x.f1) (Lib.bytesOf k) ≤ 0) && (x.f3 || decide (Lib.compareBytes (Lib.bytesOf k) (Lib.bytesOf x.f2) < 0)))
theorem C_u8_cell {w : World} {ad : Addr} {n : Nat} {l : List Int} (h : Kd.C (Kd.int .u8) w (some ad) n l) : ∀ j x, l[j]? = some x → w.cell? (ad.add j) = some (.int .u8 x) := by
 intro j x hj
 have hn : 0 < n := by
  have := (List.getElem?_eq_some_iff.1 hj).1
  have h1 := h.1
  omega
 obtain ⟨ad', e, hc⟩ := h.2.2 hn
 cases e
 obtain ⟨c, hl, hk, hcell⟩ := hc j x hj
 have hk' : c = [.int .u8 x] := hk
 subst hk'
 have := hcell 0 _ rfl
 rw [Nat.add_zero, show (Kd.int .u8).sz = 1 from rfl, Nat.mul_one] at this
 exact this
theorem run_bytesOf_C {P : Program} {w : World} {A : Option Addr} {c : Nat} {l : List Int} (h : Kd.C (Kd.int .u8) w A l.length l) : (Extern.Bytes.bytesOf (.slice A l.length c)).run P w = .ok (strOfNums l) w := by
 cases A with
 | none =>
  have hl : l.length = 0 := Classical.byContradiction fun hn => by
   obtain ⟨ad, he, _⟩ := h.2.2 (by omega)
   cases he
  obtain rfl : l = [] := List.length_eq_zero_iff.mp hl
  rfl
 | some ad =>
  show (Extern.Bytes.loadBytes ad l.length .empty).run P w = _
  rw [Lib.run_loadBytesX w l ad .empty (C_u8_cell h)]
  congr 1
  apply ByteArray.ext
  simp [Lib.bytesOf, strOfNums]
theorem run_compare_C {P : Program} {w : World} {A B : Option Addr} {c d : Nat} {l m : List Int} (h : Kd.C (Kd.int .u8) w A l.length l) (h2 : Kd.C (Kd.int .u8) w B m.length m) : (Extern.BytealgCompare.compare #[.slice A l.length c, .slice B m.length d]).run P w = .ok (.int .i64 (Lib.compareBytes (strOfNums l).data.toList (strOfNums m).data.toList)) w := by
 change Sem.run P (do pure (goInt (Extern.BytealgCompare.cmp (← Extern.Bytes.bytesOf (.slice A l.length c)) (← Extern.Bytes.bytesOf (.slice B m.length d))))) w = _
 simp only [Sem.run_bind, run_bytesOf_C h, run_bytesOf_C h2, Sem.run_pure, Result.andThen]
 rw [Lib.cmp_eq]
 rfl
def bytes_Compare.f (l0 : List Int) (l1 : List Int) : Option (Int) := some (Lib.compareBytes (Lib.bytesOf l0) (Lib.bytesOf l1))
set_option maxHeartbeats 1000000 in
set_option maxRecDepth 100000 in
theorem bytes_Compare.calls (A0 : Option Addr) (c0 : Nat) (l0 : List Int) (A1 : Option Addr) (c1 : Nat) (l1 : List Int) (r : Int) (w : World) (hr0 : Kd.C (Kd.int .u8) w A0 l0.length l0) (hc0 : l0.length ≤ c0) (hr1 : Kd.C (Kd.int .u8) w A1 l1.length l1) (hc1 : l1.length ≤ c1) (h : bytes_Compare.f l0 l1 = some r) :
  Calls Try.prog 56 #[.slice A0 l0.length c0, .slice A1 l1.length c1] w fun e w' => e = .returned (.int .i64 r) ∧ Drawn0 w w' := by
 unfold bytes_Compare.f at h
 obtain rfl := sO_ h
 have hrun := run_compare_C (P := Try.prog) (c := c0) (d := c1) hr0 hr1
 have e0 : (strOfNums l0).data.toList = Lib.bytesOf l0 := strOfNums_data l0
 have e1 : (strOfNums l1).data.toList = Lib.bytesOf l1 := strOfNums_data l1
 rw [e0, e1] at hrun
 have HRUN := m0_ hrun
 clear hrun e0 e1 h hr0 hr1
 go_enter Try.func56, Try.ntmps56
 go_wp2
 rw [run_callFunc_extern Try.func62 (by kernel_rfl) (by kernel_rfl) (by kernel_rfl) (e := Extern.BytealgCompare.compare) (by kernel_rfl), HRUN.out]
 simp only [Result.andThen]
 rw [Oper.upon_value]
 go_wp2
 go_ret
 exact ⟨rfl, Drawn0.refl _⟩
def span_In.f (a0_0 : Int) (l0_1 : List Int) (l0_2 : List Int) (a0_3 : Bool) (a1 : Int) (l2 : List Int) : Option (Bool) := if a0_0 = a1 then ((bytes_Compare.f l0_1 l2).bind fun t102 => (if t102 ≤ 0 then (if a0_3 = true then (some true) else ((bytes_Compare.f l2 l0_2).bind fun t103 => (some (decide (t103 < 0))))) else (some false))) else (some false)
set_option maxHeartbeats 8000000 in
set_option maxRecDepth 100000 in
theorem span_In.calls (a0_0 : Int) (A0_1 : Option Addr) (c0_1 : Nat) (l0_1 : List Int) (A0_2 : Option Addr) (c0_2 : Nat) (l0_2 : List Int) (a0_3 : Bool) (a1 : Int) (A2 : Option Addr) (c2 : Nat) (l2 : List Int) (r : Bool) (w : World) (hr0_1 : Kd.C (Kd.int .u8) w A0_1 l0_1.length l0_1) (hc0_1 : l0_1.length ≤ c0_1) (hr0_2 : Kd.C (Kd.int .u8) w A0_2 l0_2.length l0_2) (hc0_2 : l0_2.length ≤ c0_2) (hr2 : Kd.C (Kd.int .u8) w A2 l2.length l2) (hc2 : l2.length ≤ c2) (h : span_In.f a0_0 l0_1 l0_2 a0_3 a1 l2 = some r) :
   Calls Try.prog 41 #[.agg #[.int .i64 a0_0, .slice A0_1 l0_1.length c0_1, .slice A0_2 l0_2.length c0_2, .bool a0_3], .int .i64 a1, .slice A2 l2.length c2] w fun e w' => e = .returned (.bool r) ∧ Below w.heap.size w w' := by
 have hu57 := Try.underlying57
 have HR0_1 := m0_ hr0_1
 have HC0_1 := m0_ hc0_1
 clear hr0_1 hc0_1
 have HR0_2 := m0_ hr0_2
 have HC0_2 := m0_ hc0_2
 clear hr0_2 hc0_2
 have HR2 := m0_ hr2
 have HC2 := m0_ hc2
 clear hr2 hc2
 have HB := m0_ (Below.refl w.heap.size w)
 have H : (if a0_0 = a1 then ((bytes_Compare.f l0_1 l2).bind fun t102 => (if t102 ≤ 0 then (if a0_3 = true then (some true) else ((bytes_Compare.f l2 l0_2).bind fun t103 => (some (decide (t103 < 0))))) else (some false))) else (some false)) = some r := h
 clear h
 by_cases c4 : a0_0 = a1
 · rw [if_pos c4] at H
   have c4b0 : (a0_0 == a1) = true := beq_iff_eq.mpr c4
   have c4b1 : (a0_0 != a1) = false := bne_eq_false_iff_eq.mpr c4
   clear c4
   replace H := Option.bind_eq_some_iff.mp H
   obtain ⟨t102, A50, H⟩ := H
   replace H : (if t102 ≤ 0 then (if a0_3 = true then (some true) else ((bytes_Compare.f l2 l0_2).bind fun t103 => (some (decide (t103 < 0))))) else (some false)) = some r := H
   have A5 := m0_ A50
   clear A50
   by_cases c6 : t102 ≤ 0
   · rw [if_pos c6] at H
     have c6b0 : decide (t102 ≤ 0) = true := decide_eq_true c6
     clear c6
     by_cases c7 : a0_3 = true
     · subst c7
       have H1 : (some true) = some r := by rw [if_pos rfl] at H; exact H
       clear H
       have H := H1
       clear H1
       obtain rfl := sO_ H
       go_enter Try.func41, Try.ntmps41
       go_wp2_with (first | ((with_reducible refine gate_dst (N := 3) rfl ?_); refine box_event ?hg (N := 3) ?hd (cs := #[.int .i64 a0_0, .slice A0_1 l0_1.length c0_1, .slice A0_2 l0_2.length c0_2, .bool true]) (t := 57) ?hr ?_; (case hd => rfl); (case hg => rfl); (case hr => first | (go_simp; done) | (go_simp; rfl)); intro gb101 hg w8 hbox hb; have n0_ := m0_ (below_step (by repeat (first | (with_reducible first | exact HB.out | apply bA_ | apply dN_ | apply b1_) | exact HB.out)) hb); have n1_ := m0_ (hbox); have n2_ := m0_ ((by rw [hg]; exact (below_size (by repeat (first | (with_reducible first | exact HB.out | apply bA_ | apply dN_ | apply b1_) | exact HB.out))) : w.heap.size ≤ gb101)); have n3_ := m0_ ((by rw [hg]; exact (below_size (by repeat (first | (with_reducible first | exact HB.out | apply bA_ | apply dN_ | apply b1_) | exact HB.out))) : w.heap.size ≤ gb101)); clear HB; have HB := n0_; have BK101 := n1_; have GW101 := n2_; have GE101 := n3_; clear n0_ n1_ n2_ n3_; clear hb hbox hg; have hcz9_0 : w8.cell? ⟨gb101, 0, none⟩ = some (.int .i64 a0_0) := (blk_cell BK101.out 0).trans rfl; have hcz9_1 : w8.cell? ⟨gb101, 1, none⟩ = some (.slice A0_1 l0_1.length c0_1) := (blk_cell BK101.out 1).trans rfl; have hcz9_2 : w8.cell? ⟨gb101, 2, none⟩ = some (.slice A0_2 l0_2.length c0_2) := (blk_cell BK101.out 2).trans rfl; have hcz9_3 : w8.cell? ⟨gb101, 3, none⟩ = some (.bool true) := (blk_cell BK101.out 3).trans rfl; have hfz9_0 := bf_ BK101.out 0; have hfz9_1 := bf_ BK101.out 1; have hfz9_2 := bf_ BK101.out 2; have hfz9_3 := bf_ BK101.out 3) | (go_at_call 56; (with_reducible refine (bytes_Compare.calls _ _ l0_1 _ _ l2 t102 _ ?side1 ?side2 ?side3 ?side4 A5.out).mono ?_); (case side1 => repeat (first | exact (kB_ HR0_1.out HB.out) | (with_reducible first | refine kA_ ?_ _ | refine kN_ ?_ _ | refine kD_ ?_))); (case side2 => exact HC0_1.out); (case side3 => repeat (first | exact (kB_ HR2.out HB.out) | (with_reducible first | refine kA_ ?_ _ | refine kN_ ?_ _ | refine kD_ ?_))); (case side4 => exact HC2.out); rintro e w' ⟨rfl, ⟨nd, rfl⟩⟩))
       go_ret
       exact ⟨by first | rfl | (simp [errW_none, errW_some] <;> rfl) | (simp [*, errW_none, errW_some] <;> rfl), by repeat (first | (with_reducible first | exact HB.out | apply bA_ | apply dN_ | apply b1_ | refine below_set ?_ GE101.out) | exact HB.out)⟩
     · replace c7 := Bool.eq_false_iff.mpr c7
       subst c7
       have H1 : ((bytes_Compare.f l2 l0_2).bind fun t103 => (some (decide (t103 < 0)))) = some r := by rw [if_neg (show ¬ (false = true) by decide)] at H; exact H
       clear H
       have H := H1
       clear H1
       replace H := Option.bind_eq_some_iff.mp H
       obtain ⟨t103, A100, H⟩ := H
       replace H : (some (decide (t103 < 0))) = some r := H
       have A10 := m0_ A100
       clear A100
       obtain rfl := sO_ H
       go_enter Try.func41, Try.ntmps41
       go_wp2_with (first | ((with_reducible refine gate_dst (N := 3) rfl ?_); refine box_event ?hg (N := 3) ?hd (cs := #[.int .i64 a0_0, .slice A0_1 l0_1.length c0_1, .slice A0_2 l0_2.length c0_2, .bool false]) (t := 57) ?hr ?_; (case hd => rfl); (case hg => rfl); (case hr => first | (go_simp; done) | (go_simp; rfl)); intro gb101 hg w11 hbox hb; have n0_ := m0_ (below_step (by repeat (first | (with_reducible first | exact HB.out | apply bA_ | apply dN_ | apply b1_) | exact HB.out)) hb); have n1_ := m0_ (hbox); have n2_ := m0_ ((by rw [hg]; exact (below_size (by repeat (first | (with_reducible first | exact HB.out | apply bA_ | apply dN_ | apply b1_) | exact HB.out))) : w.heap.size ≤ gb101)); have n3_ := m0_ ((by rw [hg]; exact (below_size (by repeat (first | (with_reducible first | exact HB.out | apply bA_ | apply dN_ | apply b1_) | exact HB.out))) : w.heap.size ≤ gb101)); clear HB; have HB := n0_; have BK101 := n1_; have GW101 := n2_; have GE101 := n3_; clear n0_ n1_ n2_ n3_; clear hb hbox hg; have hcz12_0 : w11.cell? ⟨gb101, 0, none⟩ = some (.int .i64 a0_0) := (blk_cell BK101.out 0).trans rfl; have hcz12_1 : w11.cell? ⟨gb101, 1, none⟩ = some (.slice A0_1 l0_1.length c0_1) := (blk_cell BK101.out 1).trans rfl; have hcz12_2 : w11.cell? ⟨gb101, 2, none⟩ = some (.slice A0_2 l0_2.length c0_2) := (blk_cell BK101.out 2).trans rfl; have hcz12_3 : w11.cell? ⟨gb101, 3, none⟩ = some (.bool false) := (blk_cell BK101.out 3).trans rfl; have hfz12_0 := bf_ BK101.out 0; have hfz12_1 := bf_ BK101.out 1; have hfz12_2 := bf_ BK101.out 2; have hfz12_3 := bf_ BK101.out 3) | (go_at_call 56; (with_reducible refine (bytes_Compare.calls _ _ l0_1 _ _ l2 t102 _ ?side1 ?side2 ?side3 ?side4 A5.out).mono ?_); (case side1 => repeat (first | exact (kB_ HR0_1.out HB.out) | (with_reducible first | refine kA_ ?_ _ | refine kN_ ?_ _ | refine kD_ ?_))); (case side2 => exact HC0_1.out); (case side3 => repeat (first | exact (kB_ HR2.out HB.out) | (with_reducible first | refine kA_ ?_ _ | refine kN_ ?_ _ | refine kD_ ?_))); (case side4 => exact HC2.out); rintro e w' ⟨rfl, ⟨nd, rfl⟩⟩) | (go_at_call 56; (with_reducible refine (bytes_Compare.calls _ _ l2 _ _ l0_2 t103 _ ?side1 ?side2 ?side3 ?side4 A10.out).mono ?_); (case side1 => repeat (first | exact (kB_ HR2.out (by repeat (first | (with_reducible first | exact HB.out | apply bA_ | apply dN_ | apply b1_ | refine below_set ?_ GE101.out) | exact HB.out))) | (with_reducible first | refine kA_ ?_ _ | refine kN_ ?_ _ | refine kD_ ?_))); (case side2 => exact HC2.out); (case side3 => repeat (first | exact (kB_ HR0_2.out (by repeat (first | (with_reducible first | exact HB.out | apply bA_ | apply dN_ | apply b1_ | refine below_set ?_ GE101.out) | exact HB.out))) | (with_reducible first | refine kA_ ?_ _ | refine kN_ ?_ _ | refine kD_ ?_))); (case side4 => exact HC0_2.out); rintro e w' ⟨rfl, ⟨nd, rfl⟩⟩))
       go_ret
       exact ⟨by first | rfl | (simp [errW_none, errW_some] <;> rfl) | (simp [*, errW_none, errW_some] <;> rfl), by repeat (first | (with_reducible first | exact HB.out | apply bA_ | apply dN_ | apply b1_ | refine below_set ?_ GE101.out) | exact HB.out)⟩
   · rw [if_neg c6] at H
     have c6b0 : decide (t102 ≤ 0) = false := decide_eq_false c6
     clear c6
     obtain rfl := sO_ H
     go_enter Try.func41, Try.ntmps41
     go_wp2_with (first | ((with_reducible refine gate_dst (N := 3) rfl ?_); refine box_event ?hg (N := 3) ?hd (cs := #[.int .i64 a0_0, .slice A0_1 l0_1.length c0_1, .slice A0_2 l0_2.length c0_2, .bool a0_3]) (t := 57) ?hr ?_; (case hd => rfl); (case hg => rfl); (case hr => first | (go_simp; done) | (go_simp; rfl)); intro gb101 hg w13 hbox hb; have n0_ := m0_ (below_step (by repeat (first | (with_reducible first | exact HB.out | apply bA_ | apply dN_ | apply b1_) | exact HB.out)) hb); have n1_ := m0_ (hbox); have n2_ := m0_ ((by rw [hg]; exact (below_size (by repeat (first | (with_reducible first | exact HB.out | apply bA_ | apply dN_ | apply b1_) | exact HB.out))) : w.heap.size ≤ gb101)); have n3_ := m0_ ((by rw [hg]; exact (below_size (by repeat (first | (with_reducible first | exact HB.out | apply bA_ | apply dN_ | apply b1_) | exact HB.out))) : w.heap.size ≤ gb101)); clear HB; have HB := n0_; have BK101 := n1_; have GW101 := n2_; have GE101 := n3_; clear n0_ n1_ n2_ n3_; clear hb hbox hg; have hcz14_0 : w13.cell? ⟨gb101, 0, none⟩ = some (.int .i64 a0_0) := (blk_cell BK101.out 0).trans rfl; have hcz14_1 : w13.cell? ⟨gb101, 1, none⟩ = some (.slice A0_1 l0_1.length c0_1) := (blk_cell BK101.out 1).trans rfl; have hcz14_2 : w13.cell? ⟨gb101, 2, none⟩ = some (.slice A0_2 l0_2.length c0_2) := (blk_cell BK101.out 2).trans rfl; have hcz14_3 : w13.cell? ⟨gb101, 3, none⟩ = some (.bool a0_3) := (blk_cell BK101.out 3).trans rfl; have hfz14_0 := bf_ BK101.out 0; have hfz14_1 := bf_ BK101.out 1; have hfz14_2 := bf_ BK101.out 2; have hfz14_3 := bf_ BK101.out 3) | (go_at_call 56; (with_reducible refine (bytes_Compare.calls _ _ l0_1 _ _ l2 t102 _ ?side1 ?side2 ?side3 ?side4 A5.out).mono ?_); (case side1 => repeat (first | exact (kB_ HR0_1.out HB.out) | (with_reducible first | refine kA_ ?_ _ | refine kN_ ?_ _ | refine kD_ ?_))); (case side2 => exact HC0_1.out); (case side3 => repeat (first | exact (kB_ HR2.out HB.out) | (with_reducible first | refine kA_ ?_ _ | refine kN_ ?_ _ | refine kD_ ?_))); (case side4 => exact HC2.out); rintro e w' ⟨rfl, ⟨nd, rfl⟩⟩))
     go_ret
     exact ⟨by first | rfl | (simp [errW_none, errW_some] <;> rfl) | (simp [*, errW_none, errW_some] <;> rfl), by repeat (first | (with_reducible first | exact HB.out | apply bA_ | apply dN_ | apply b1_ | refine below_set ?_ GE101.out) | exact HB.out)⟩
 · rw [if_neg c4] at H
   have c4b0 : (a0_0 == a1) = false := beq_eq_false_iff_ne.mpr c4
   have c4b1 : (a0_0 != a1) = true := bne_iff_ne.mpr c4
   obtain rfl := sO_ H
   go_enter Try.func41, Try.ntmps41
   go_wp2_with (first | ((with_reducible refine gate_dst (N := 3) rfl ?_); refine box_event ?hg (N := 3) ?hd (cs := #[.int .i64 a0_0, .slice A0_1 l0_1.length c0_1, .slice A0_2 l0_2.length c0_2, .bool a0_3]) (t := 57) ?hr ?_; (case hd => rfl); (case hg => rfl); (case hr => first | (go_simp; done) | (go_simp; rfl)); intro gb101 hg w15 hbox hb; have n0_ := m0_ (below_step (by repeat (first | (with_reducible first | exact HB.out | apply bA_ | apply dN_ | apply b1_) | exact HB.out)) hb); have n1_ := m0_ (hbox); have n2_ := m0_ ((by rw [hg]; exact (below_size (by repeat (first | (with_reducible first | exact HB.out | apply bA_ | apply dN_ | apply b1_) | exact HB.out))) : w.heap.size ≤ gb101)); have n3_ := m0_ ((by rw [hg]; exact (below_size (by repeat (first | (with_reducible first | exact HB.out | apply bA_ | apply dN_ | apply b1_) | exact HB.out))) : w.heap.size ≤ gb101)); clear HB; have HB := n0_; have BK101 := n1_; have GW101 := n2_; have GE101 := n3_; clear n0_ n1_ n2_ n3_; clear hb hbox hg; have hcz16_0 : w15.cell? ⟨gb101, 0, none⟩ = some (.int .i64 a0_0) := (blk_cell BK101.out 0).trans rfl; have hcz16_1 : w15.cell? ⟨gb101, 1, none⟩ = some (.slice A0_1 l0_1.length c0_1) := (blk_cell BK101.out 1).trans rfl; have hcz16_2 : w15.cell? ⟨gb101, 2, none⟩ = some (.slice A0_2 l0_2.length c0_2) := (blk_cell BK101.out 2).trans rfl; have hcz16_3 : w15.cell? ⟨gb101, 3, none⟩ = some (.bool a0_3) := (blk_cell BK101.out 3).trans rfl; have hfz16_0 := bf_ BK101.out 0; have hfz16_1 := bf_ BK101.out 1; have hfz16_2 := bf_ BK101.out 2; have hfz16_3 := bf_ BK101.out 3))
   go_ret
   exact ⟨by first | rfl | (simp [errW_none, errW_some] <;> rfl) | (simp [*, errW_none, errW_some] <;> rfl), by repeat (first | (with_reducible first | exact HB.out | apply bA_ | apply dN_ | apply b1_ | refine below_set ?_ GE101.out) | exact HB.out)⟩
def bytes_Equal.f (l0 : List Int) (l1 : List Int) : Option (Bool) := some ((strOfNums l0).toList == (strOfNums l1).toList)
set_option maxHeartbeats 8000000 in
set_option maxRecDepth 100000 in
theorem bytes_Equal.calls (A0 : Option Addr) (c0 : Nat) (l0 : List Int) (A1 : Option Addr) (c1 : Nat) (l1 : List Int) (r : Bool) (w : World) (hr0 : Kd.C (Kd.int .u8) w A0 l0.length l0) (hc0 : l0.length ≤ c0) (hr1 : Kd.C (Kd.int .u8) w A1 l1.length l1) (hc1 : l1.length ≤ c1) (h : bytes_Equal.f l0 l1 = some r) :
  Calls Try.prog 45 #[.slice A0 l0.length c0, .slice A1 l1.length c1] w fun e w' => e = .returned (.bool r) ∧ Drawn0 w w' := by
 have HR0 := m0_ hr0
 have HC0 := m0_ hc0
 clear hr0 hc0
 have HR1 := m0_ hr1
 have HC1 := m0_ hc1
 clear hr1 hc1
 have H : (some ((strOfNums l0).toList == (strOfNums l1).toList)) = some r := h
 clear h
 obtain rfl := sO_ H
 have hcv3 := Kd.C_string (P := Try.prog) (A := A0) (c := c0) Try.underlying55 Try.underlying5 Try.underlying9 HR0.out
 have hcv4 := Kd.C_string (P := Try.prog) (A := A1) (c := c1) Try.underlying55 Try.underlying5 Try.underlying9 HR1.out
 go_enter Try.func45, Try.ntmps45
 go_wp2
 go_ret
 exact ⟨by first | rfl | (simp; done) | (simp [*]; done), by repeat (first | exact Drawn0.refl _ | apply Drawn0.step)⟩
theorem span_In_f (x : S57) (t : Int) (k : List Int) : span_In.f x.f0 x.f1 x.f2 x.f3 t k = some (inB x t k) := by
 unfold span_In.f inB
 simp only [bytes_Compare.f, Option.bind_some]
 by_cases h : x.f0 = t
 · rw [if_pos h, decide_eq_true h, Bool.true_and]
   by_cases h2 : Lib.compareBytes (Lib.bytesOf x.f1) (Lib.bytesOf k) ≤ 0
   · rw [if_pos h2, decide_eq_true h2, Bool.true_and]
     cases x.f3 <;> rfl
   · rw [if_neg h2, decide_eq_false h2]; rfl
 · rw [if_neg h, decide_eq_false h]; rfl
set_option maxHeartbeats 1000000 in
set_option maxRecDepth 100000 in
theorem hit_in (g t : Nat) (ty : Int) (Ak : Option Addr) (key : List Int) (ck : Nat) (gone : Bool) (v3 : Value) (W : World) (x : S57) (A1 : Option Addr) (c1 : Nat) (A2 : Option Addr) (c2 : Nat)
  (hg : W.heap[g]? = some (.cells #[.int .i64 ty, .slice Ak key.length ck, .bool gone, v3] t (0, 0))) (hk : Kd.C (Kd.int .u8) W Ak key.length key) (hck : key.length ≤ ck)
  (h1 : x.f1.length ≤ c1) (i1 : Kd.C (Kd.int .u8) W A1 x.f1.length x.f1) (h2 : x.f2.length ≤ c2) (i2 : Kd.C (Kd.int .u8) W A2 x.f2.length x.f2) :
  Calls Try.prog 40 #[.agg #[.int .i64 x.f0, .slice A1 x.f1.length c1, .slice A2 x.f2.length c2, .bool x.f3], .pointer (some ⟨g, 0, none⟩)] W fun e w' => e = .returned (.bool (inB x ty key)) ∧ Below W.heap.size W w' := by
 have e0 : ∀ o, (W.alloc o).cell? ⟨g, 0, none⟩ = some (.int .i64 ty) := fun o => (World.cell?_alloc_lt W o _ (blk_lt hg)).trans ((blk_cell hg 0).trans rfl)
 have e1 : ∀ o, (W.alloc o).cell? ⟨g, 1, none⟩ = some (.slice Ak key.length ck) := fun o => (World.cell?_alloc_lt W o _ (blk_lt hg)).trans ((blk_cell hg 1).trans rfl)
 have HIN := fun o => m0_ (span_In.calls x.f0 A1 c1 x.f1 A2 c2 x.f2 x.f3 ty Ak ck key (inB x ty key) (W.alloc o) (kA_ i1 o) h1 (kA_ i2 o) h2 (kA_ hk o) hck (span_In_f x ty key))
 have hu := Try.underlying57
 have hu2 := Try.underlying59
 clear hg hk hck h1 i1 h2 i2
 go_enter Try.func40, Try.ntmps40
 go_wp2_with (go_at_call 41; refine (HIN _).out.mono ?_; rintro e w1 ⟨rfl, hb⟩; have HB1 := m0_ (below_step (bA_ (Below.refl W.heap.size W) _) hb); clear hb)
 go_ret
 exact ⟨rfl, HB1.out⟩
set_option maxHeartbeats 1000000 in
set_option maxRecDepth 100000 in
theorem hit_one (g : Nat) (A0 : Option Addr) (c0 : Nat) (l0 : List S57) (W : World) (y : S59) (A1 : Option Addr) (c1 : Nat) (A3 : Option Addr) (c3 : Nat)
  (hg : W.heap[g]? = some (.cells #[.slice A0 l0.length c0] 22 (0, 0))) (hr0 : Kd.C k57 W A0 l0.length l0)
  (h1 : y.f1.length ≤ c1) (i1 : Kd.C (Kd.int .u8) W A1 y.f1.length y.f1) :
  Calls Try.prog 38 #[.agg #[.int .i64 y.f0, .slice A1 y.f1.length c1, .bool y.f2, .slice A3 y.f3.length c3], .pointer (some ⟨g, 0, none⟩)] W fun e w' => e = .returned (.bool (l0.any fun x => inB x y.f0 y.f1)) ∧ Below W.heap.size W w' := by
 have e0 : ∀ o, (W.alloc o).cell? ⟨g, 0, none⟩ = some (.slice A0 l0.length c0) := fun o => (World.cell?_alloc_lt W o _ (blk_lt hg)).trans ((blk_cell hg 0).trans rfl)
 have HIN := m0_ (has_Span 40 #[.pointer (some ⟨W.heap.size, 0, none⟩)] (fun x => inB x y.f0 y.f1) A0 c0 l0 (W.alloc (.cells #[.int .i64 y.f0, .slice A1 y.f1.length c1, .bool y.f2, .slice A3 y.f3.length c3] 59)) (kA_ hr0 _) (enters_of Try.func40 (by kernel_rfl) rfl)
  (fun W1 x B1 d1 B2 d2 _ hb j1 k1 j2 k2 => hit_in W.heap.size 59 y.f0 A1 y.f1 c1 y.f2 _ W1 x B1 d1 B2 d2 ((hb.block _ (by simp)).trans (heap_alloc_new _ _)) (kB_ (kA_ i1 _) hb) h1 j1 k1 j2 k2))
 have hmf : ∀ (fn : Fn) (first cap : Array Value) (w : World), (Instr.makeFunc fn first cap).run Try.prog w = .ok (.func fn first cap) w := fun _ _ _ _ => rfl
 have hu2 := Try.underlying59
 clear hg hr0 h1 i1
 go_enter Try.func38, Try.ntmps38
 go_wp2_with (go_at_call 39; refine HIN.out.mono ?_; rintro e w1 ⟨rfl, hb⟩; have HB1 := m0_ (below_step (bA_ (Below.refl W.heap.size W) _) hb); clear hb)
 go_ret
 exact ⟨rfl, HB1.out⟩
def reads_Hit.f (l0 : List (S57)) (l1 : List (S59)) : Option (Bool) := some (l1.any fun y => l0.any fun x => inB x y.f0 y.f1)
set_option maxHeartbeats 1000000 in
set_option maxRecDepth 100000 in
theorem reads_Hit.calls (A0 : Option Addr) (c0 : Nat) (l0 : List (S57)) (A1 : Option Addr) (c1 : Nat) (l1 : List (S59)) (r : Bool) (w : World) (hr0 : Kd.C k57 w A0 l0.length l0) (hc0 : l0.length ≤ c0) (hr1 : Kd.C k59 w A1 l1.length l1) (hc1 : l1.length ≤ c1) (h : reads_Hit.f l0 l1 = some r) :
  Calls Try.prog 24 #[.slice A0 l0.length c0, .slice A1 l1.length c1] w fun e w' => e = .returned (.bool r) ∧ Below w.heap.size w w' := by
 unfold reads_Hit.f at h
 obtain rfl := sO_ h
 clear h
 have HIN := m0_ (has_Write 38 #[.pointer (some ⟨w.heap.size, 0, none⟩)] (fun y => l0.any fun x => inB x y.f0 y.f1) A1 c1 l1 (w.alloc (.cells #[.slice A0 l0.length c0] 22)) (kA_ hr1 _) (enters_of Try.func38 (by kernel_rfl) rfl)
  (fun W1 y B1 d1 B3 d3 _ hb j1 k1 j3 k3 => hit_one w.heap.size A0 c0 l0 W1 y B1 d1 B3 d3 ((hb.block _ (by simp)).trans (heap_alloc_new _ _)) (kB_ (kA_ hr0 _) hb) j1 k1))
 have hmf : ∀ (fn : Fn) (first cap : Array Value) (w : World), (Instr.makeFunc fn first cap).run Try.prog w = .ok (.func fn first cap) w := fun _ _ _ _ => rfl
 clear hr0 hr1 hc0 hc1
 go_enter Try.func24, Try.ntmps24
 go_wp2_with (go_at_call 37; refine HIN.out.mono ?_; rintro e w1 ⟨rfl, hb⟩; have HB1 := m0_ (below_step (bA_ (Below.refl w.heap.size w) _) hb); clear hb)
 go_ret
 exact ⟨rfl, HB1.out⟩
def sameB (x y : S59) : Bool := decide (x.f0 = y.f0) && ((strOfNums x.f1).toList == (strOfNums y.f1).toList)
set_option maxHeartbeats 1000000 in
set_option maxRecDepth 100000 in
theorem same_in (g : Nat) (x : S59) (Ak : Option Addr) (ck : Nat) (v3 : Value) (W : World) (y : S59) (A1 : Option Addr) (c1 : Nat) (A3 : Option Addr) (c3 : Nat)
   (hg : W.heap[g]? = some (.cells #[.int .i64 x.f0, .slice Ak x.f1.length ck, .bool x.f2, v3] 59 (0, 0))) (hk : Kd.C (Kd.int .u8) W Ak x.f1.length x.f1) (hck : x.f1.length ≤ ck)
   (h1 : y.f1.length ≤ c1) (i1 : Kd.C (Kd.int .u8) W A1 y.f1.length y.f1) :
   Calls Try.prog 44 #[.agg #[.int .i64 y.f0, .slice A1 y.f1.length c1, .bool y.f2, .slice A3 y.f3.length c3], .pointer (some ⟨g, 0, none⟩)] W fun e w' => e = .returned (.bool (sameB x y)) ∧ Below W.heap.size W w' := by
 have e0 : ∀ o, (W.alloc o).cell? ⟨g, 0, none⟩ = some (.int .i64 x.f0) := fun o => (World.cell?_alloc_lt W o _ (blk_lt hg)).trans ((blk_cell hg 0).trans rfl)
 have e1 : ∀ o, (W.alloc o).cell? ⟨g, 1, none⟩ = some (.slice Ak x.f1.length ck) := fun o => (World.cell?_alloc_lt W o _ (blk_lt hg)).trans ((blk_cell hg 1).trans rfl)
 have HIN := fun o => m0_ (bytes_Equal.calls Ak ck x.f1 A1 c1 y.f1 _ (W.alloc o) (kA_ hk o) hck (kA_ i1 o) h1 rfl)
 have hu2 := Try.underlying59
 unfold sameB
 clear hg hk hck h1 i1
 generalize ((strOfNums x.f1).toList == (strOfNums y.f1).toList) = b at HIN ⊢
 go_enter Try.func44, Try.ntmps44
 by_cases hq : x.f0 = y.f0
 · have hd : decide (x.f0 = y.f0) = true := decide_eq_true hq
   have hb1 : (x.f0 == y.f0) = true := beq_iff_eq.mpr hq
   rw [hd]
   clear hq
   go_wp2_with (go_at_call 45; refine (HIN _).out.mono ?_; rintro e w1 ⟨rfl, ⟨nd, rfl⟩⟩)
   go_ret
   exact ⟨by simp, dN_ (bA_ (Below.refl W.heap.size W) _) nd⟩
 · have hd : decide (x.f0 = y.f0) = false := decide_eq_false hq
   have hb1 : (x.f0 == y.f0) = false := beq_eq_false_iff_ne.mpr hq
   rw [hd]
   clear hq
   go_wp2
   go_ret
   exact ⟨by simp, bA_ (Below.refl W.heap.size W) _⟩
set_option maxHeartbeats 1000000 in
set_option maxRecDepth 100000 in
theorem same_one (g : Nat) (A0 : Option Addr) (c0 : Nat) (l0 : List S59) (W : World) (x : S59) (A1 : Option Addr) (c1 : Nat) (A3 : Option Addr) (c3 : Nat)
  (hg : W.heap[g]? = some (.cells #[.slice A0 l0.length c0] 25 (0, 0))) (hr0 : Kd.C k59 W A0 l0.length l0)
  (h1 : x.f1.length ≤ c1) (i1 : Kd.C (Kd.int .u8) W A1 x.f1.length x.f1) :
  Calls Try.prog 43 #[.agg #[.int .i64 x.f0, .slice A1 x.f1.length c1, .bool x.f2, .slice A3 x.f3.length c3], .pointer (some ⟨g, 0, none⟩)] W fun e w' => e = .returned (.bool (l0.any fun y => sameB x y)) ∧ Below W.heap.size W w' := by
 have e0 : ∀ o, (W.alloc o).cell? ⟨g, 0, none⟩ = some (.slice A0 l0.length c0) := fun o => (World.cell?_alloc_lt W o _ (blk_lt hg)).trans ((blk_cell hg 0).trans rfl)
 have HIN := m0_ (has_Write 44 #[.pointer (some ⟨W.heap.size, 0, none⟩)] (fun y => sameB x y) A0 c0 l0 (W.alloc (.cells #[.int .i64 x.f0, .slice A1 x.f1.length c1, .bool x.f2, .slice A3 x.f3.length c3] 59)) (kA_ hr0 _) (enters_of Try.func44 (by kernel_rfl) rfl)
  (fun W1 y B1 d1 B3 d3 _ hb j1 k1 j3 k3 => same_in W.heap.size x A1 c1 _ W1 y B1 d1 B3 d3 ((hb.block _ (by simp)).trans (heap_alloc_new _ _)) (kB_ (kA_ i1 _) hb) h1 j1 k1))
 have hmf : ∀ (fn : Fn) (first cap : Array Value) (w : World), (Instr.makeFunc fn first cap).run Try.prog w = .ok (.func fn first cap) w := fun _ _ _ _ => rfl
 have hu2 := Try.underlying59
 clear hg hr0 h1 i1
 go_enter Try.func43, Try.ntmps43
 go_wp2_with (go_at_call 37; refine HIN.out.mono ?_; rintro e w1 ⟨rfl, hb⟩; have HB1 := m0_ (below_step (bA_ (Below.refl W.heap.size W) _) hb); clear hb)
 go_ret
 exact ⟨rfl, HB1.out⟩
def reads_Same.f (l0 : List (S59)) (l1 : List (S59)) : Option (Bool) := some (l0.any fun x => l1.any fun y => sameB x y)
set_option maxHeartbeats 1000000 in
set_option maxRecDepth 100000 in
theorem reads_Same.calls (A0 : Option Addr) (c0 : Nat) (l0 : List (S59)) (A1 : Option Addr) (c1 : Nat) (l1 : List (S59)) (r : Bool) (w : World) (hr0 : Kd.C k59 w A0 l0.length l0) (hc0 : l0.length ≤ c0) (hr1 : Kd.C k59 w A1 l1.length l1) (hc1 : l1.length ≤ c1) (h : reads_Same.f l0 l1 = some r) :
  Calls Try.prog 27 #[.slice A0 l0.length c0, .slice A1 l1.length c1] w fun e w' => e = .returned (.bool r) ∧ Below w.heap.size w w' := by
 unfold reads_Same.f at h
 obtain rfl := sO_ h
 clear h
 have HIN := m0_ (has_Write 43 #[.pointer (some ⟨w.heap.size, 0, none⟩)] (fun x => l1.any fun y => sameB x y) A0 c0 l0 (w.alloc (.cells #[.slice A1 l1.length c1] 25)) (kA_ hr0 _) (enters_of Try.func43 (by kernel_rfl) rfl)
  (fun W1 y B1 d1 B3 d3 _ hb j1 k1 j3 k3 => same_one w.heap.size A1 c1 l1 W1 y B1 d1 B3 d3 ((hb.block _ (by simp)).trans (heap_alloc_new _ _)) (kB_ (kA_ hr1 _) hb) j1 k1))
 have hmf : ∀ (fn : Fn) (first cap : Array Value) (w : World), (Instr.makeFunc fn first cap).run Try.prog w = .ok (.func fn first cap) w := fun _ _ _ _ => rfl
 clear hr0 hr1 hc0 hc1
 go_enter Try.func27, Try.ntmps27
 go_wp2_with (go_at_call 37; refine HIN.out.mono ?_; rintro e w1 ⟨rfl, hb⟩; have HB1 := m0_ (below_step (bA_ (Below.refl w.heap.size w) _) hb); clear hb)
 go_ret
 exact ⟨rfl, HB1.out⟩
def slices_Clone_Span.f (l0 : List (S57)) : Option ((List (S57))) := if l0.length < 2199023255552 then some l0 else none
set_option maxHeartbeats 1000000 in
set_option maxRecDepth 100000 in
theorem slices_Clone_Span.calls (P0_ : Nat → Prop) (A0 : Option Addr) (c0 : Nat) (l0 : List (S57)) (r : List (S57)) (w : World) (hs0 : Kd.V k57 57 w w.heap.size (fun k_ => P0_ k_) (.slice A0 l0.length c0) l0) (h : slices_Clone_Span.f l0 = some r) :
  Calls Try.prog 50 #[.slice A0 l0.length c0] w fun e w' => ∃ v0_ : Value, e = .returned (v0_) ∧ Kd.N k57 57 w' w.heap.size (fun k_ => (P0_ k_ ∨ w.heap.size ≤ k_)) v0_ r ∧ Below w.heap.size w w' := by
 unfold slices_Clone_Span.f at h
 have hlt : l0.length < 2199023255552 := Classical.byContradiction fun hn => by rw [if_neg hn] at h; cases h
 rw [if_pos hlt] at h
 obtain rfl := sO_ h
 clear h
 have hF := Kd.V_F hs0
 cases A0 with
 | none =>
  have hl : l0.length = 0 := Classical.byContradiction fun hn => by
   obtain ⟨ad, he, _⟩ := (Kd.F_now hF).2.2 (by omega)
   cases he
  obtain rfl : l0 = [] := List.length_eq_zero_iff.mp hl
  have ke : ∀ w, (binOp .eql 22 (.slice none 0 c0) (.slice none 0 0)).run Try.prog w = .ok (.bool true) w := fun w => Lib.run_eql_slice_nil w _ _ none 0 c0 0 0 Try.underlying22
  clear hs0 hl hF
  go_enter Try.func50, Try.ntmps50
  go_wp2
  go_ret
  exact ⟨_, rfl, Kd.N_nil _ _ _ _ _, Below.refl _ _⟩
 | some a =>
  have ke : ∀ w, (binOp .eql 22 (.slice (some a) l0.length c0) (.slice none 0 0)).run Try.prog w = .ok (.bool false) w := fun w => Lib.run_eql_slice_nil w _ _ (some a) l0.length c0 0 0 Try.underlying22
  have HF := m0_ hF
  clear hs0 hF
  go_enter Try.func50, Try.ntmps50
  go_wp2_with (first | ((with_reducible refine gate_dst (N := 5) rfl ?_); refine Kd.R_lit k57 w.heap.size 57 ?hg (N := 5) ?hd (xs := ([] : List S57)) (inner := []) (ok := fun k => w.heap.size ≤ k) (okp := fun k => w.heap.size ≤ k) ?hr ?hp (fun _ hk => hk) (Nat.le_refl _) (Below.refl _ _) (Nat.le_refl _) (by simp) ?_; (case hd => rfl); (case hg => rfl); (case hr => first | (go_simp; done) | (go_simp; rfl)); (case hp => exact (Reps.none _ _)); intro v5 w5 ho5 hb5 hg5 hn5; have HO5 := m0_ (Kd.R_N ho5); have HB5 := m0_ hb5; clear ho5 hb5 hg5 hn5) | ((with_reducible refine gate_builtin (b := .append) (xs := #[.tmp 5, .tmp 6]) rfl ?_); at_builtin; refine Kd.N_append_rows k57 (w0 := w) w.heap.size rfl (.tmp 5) (.tmp 6) 22 57 _ _ rfl Try.underlying22 info57 rfl (by decide) (by omega) _ [] l0 _ _ _ (fun k => P0_ k ∨ w.heap.size ≤ k) (fun k => P0_ k ∧ k < w.heap.size) rfl rfl (Kd.N_mono HO5.out (fun k hk => .inr hk)) (Kd.F_below (Kd.F_bound HF.out) HB5.out) (fun k hk => ⟨.inl hk.1, fun he => by have := Kd.N_base HO5.out k he.symm; have := hk.2; omega⟩) (fun k hk => .inr (Nat.le_trans (below_size HB5.out) hk)) HB5.out (below_size HB5.out) (by simp; omega) ?_; intro v7 w7 ho7 hb7 hg7 ha7; have HO7 := m0_ ho7; have HB7 := m0_ hb7; clear ho7 hb7 hg7 ha7))
  go_ret
  exact ⟨_, rfl, HO7.out, HB7.out⟩
def slices_Clone_Write.f (l0 : List (S59)) : Option ((List (S59))) := if l0.length < 2199023255552 then some l0 else none
set_option maxHeartbeats 1000000 in
set_option maxRecDepth 100000 in
theorem slices_Clone_Write.calls (P0_ : Nat → Prop) (A0 : Option Addr) (c0 : Nat) (l0 : List (S59)) (r : List (S59)) (w : World) (hs0 : Kd.V k59 59 w w.heap.size (fun k_ => P0_ k_) (.slice A0 l0.length c0) l0) (h : slices_Clone_Write.f l0 = some r) :
  Calls Try.prog 51 #[.slice A0 l0.length c0] w fun e w' => ∃ v0_ : Value, e = .returned (v0_) ∧ Kd.N k59 59 w' w.heap.size (fun k_ => (P0_ k_ ∨ w.heap.size ≤ k_)) v0_ r ∧ Below w.heap.size w w' := by
 unfold slices_Clone_Write.f at h
 have hlt : l0.length < 2199023255552 := Classical.byContradiction fun hn => by rw [if_neg hn] at h; cases h
 rw [if_pos hlt] at h
 obtain rfl := sO_ h
 clear h
 have hF := Kd.V_F hs0
 cases A0 with
 | none =>
  have hl : l0.length = 0 := Classical.byContradiction fun hn => by
   obtain ⟨ad, he, _⟩ := (Kd.F_now hF).2.2 (by omega)
   cases he
  obtain rfl : l0 = [] := List.length_eq_zero_iff.mp hl
  have ke : ∀ w, (binOp .eql 25 (.slice none 0 c0) (.slice none 0 0)).run Try.prog w = .ok (.bool true) w := fun w => Lib.run_eql_slice_nil w _ _ none 0 c0 0 0 Try.underlying25
  clear hs0 hl hF
  go_enter Try.func51, Try.ntmps51
  go_wp2
  go_ret
  exact ⟨_, rfl, Kd.N_nil _ _ _ _ _, Below.refl _ _⟩
 | some a =>
  have ke : ∀ w, (binOp .eql 25 (.slice (some a) l0.length c0) (.slice none 0 0)).run Try.prog w = .ok (.bool false) w := fun w => Lib.run_eql_slice_nil w _ _ (some a) l0.length c0 0 0 Try.underlying25
  have HF := m0_ hF
  clear hs0 hF
  go_enter Try.func51, Try.ntmps51
  go_wp2_with (first | ((with_reducible refine gate_dst (N := 5) rfl ?_); refine Kd.R_lit k59 w.heap.size 59 ?hg (N := 5) ?hd (xs := ([] : List S59)) (inner := []) (ok := fun k => w.heap.size ≤ k) (okp := fun k => w.heap.size ≤ k) ?hr ?hp (fun _ hk => hk) (Nat.le_refl _) (Below.refl _ _) (Nat.le_refl _) (by simp) ?_; (case hd => rfl); (case hg => rfl); (case hr => first | (go_simp; done) | (go_simp; rfl)); (case hp => exact (Reps.none _ _)); intro v5 w5 ho5 hb5 hg5 hn5; have HO5 := m0_ (Kd.R_N ho5); have HB5 := m0_ hb5; clear ho5 hb5 hg5 hn5) | ((with_reducible refine gate_builtin (b := .append) (xs := #[.tmp 5, .tmp 6]) rfl ?_); at_builtin; refine Kd.N_append_rows k59 (w0 := w) w.heap.size rfl (.tmp 5) (.tmp 6) 25 59 _ _ rfl Try.underlying25 info59 rfl (by decide) (by omega) _ [] l0 _ _ _ (fun k => P0_ k ∨ w.heap.size ≤ k) (fun k => P0_ k ∧ k < w.heap.size) rfl rfl (Kd.N_mono HO5.out (fun k hk => .inr hk)) (Kd.F_below (Kd.F_bound HF.out) HB5.out) (fun k hk => ⟨.inl hk.1, fun he => by have := Kd.N_base HO5.out k he.symm; have := hk.2; omega⟩) (fun k hk => .inr (Nat.le_trans (below_size HB5.out) hk)) HB5.out (below_size HB5.out) (by simp; omega) ?_; intro v7 w7 ho7 hb7 hg7 ha7; have HO7 := m0_ ho7; have HB7 := m0_ hb7; clear ho7 hb7 hg7 ha7))
  go_ret
  exact ⟨_, rfl, HO7.out, HB7.out⟩
def bytes_Clone.f (l0 : List Int) : Option (List Int) := if l0.length < 140737488355328 then some l0 else none
set_option maxHeartbeats 1000000 in
set_option maxRecDepth 100000 in
theorem bytes_Clone.calls (A0 : Option Addr) (c0 : Nat) (l0 : List Int) (r : List Int) (w : World) (hr0 : Kd.C (Kd.int .u8) w A0 l0.length l0) (hc0 : l0.length ≤ c0) (h : bytes_Clone.f l0 = some r) :
  Calls Try.prog 52 #[.slice A0 l0.length c0] w fun e w' => ∃ v0_ : Value, e = .returned (v0_) ∧ Kd.R (Kd.int .u8) 5 w' w.heap.size (fun _ => True) v0_ r ∧ Below w.heap.size w w' := by
 unfold bytes_Clone.f at h
 have hlt : l0.length < 140737488355328 := Classical.byContradiction fun hn => by rw [if_neg hn] at h; cases h
 rw [if_pos hlt] at h
 obtain rfl := sO_ h
 clear h
 cases A0 with
 | none =>
  have hl : l0.length = 0 := Classical.byContradiction fun hn => by
   obtain ⟨ad, he, _⟩ := hr0.2.2 (by omega)
   cases he
  obtain rfl : l0 = [] := List.length_eq_zero_iff.mp hl
  have ke : ∀ w, (binOp .eql 55 (.slice none 0 c0) (.slice none 0 0)).run Try.prog w = .ok (.bool true) w := fun w => Lib.run_eql_slice_nil w _ _ none 0 c0 0 0 Try.underlying55
  clear hr0 hl
  go_enter Try.func52, Try.ntmps52
  go_wp2
  go_ret
  exact ⟨_, rfl, Kd.R_nil _ _ _ _ _, Below.refl _ _⟩
 | some a =>
  have ke : ∀ w, (binOp .eql 55 (.slice (some a) l0.length c0) (.slice none 0 0)).run Try.prog w = .ok (.bool false) w := fun w => Lib.run_eql_slice_nil w _ _ (some a) l0.length c0 0 0 Try.underlying55
  have HR := m0_ hr0
  clear hr0
  go_enter Try.func52, Try.ntmps52
  go_wp2_with (first | ((with_reducible refine gate_dst (N := 5) rfl ?_); refine Kd.R_lit (Kd.int .u8) w.heap.size 5 ?hg (N := 5) ?hd (xs := ([] : List Int)) (inner := []) (ok := fun _ => True) (okp := fun _ => True) ?hr ?hp (fun _ hk => hk) trivial (Below.refl _ _) (Nat.le_refl _) (by simp) ?_; (case hd => rfl); (case hg => rfl); (case hr => first | (go_simp; done) | (go_simp; rfl)); (case hp => exact (Reps.none _ _)); intro v5 w5 ho5 hb5 hg5 hn5; have HO5 := m0_ ho5; have HB5 := m0_ hb5; clear ho5 hb5 hg5 hn5) | ((with_reducible refine gate_builtin (b := .append) (xs := #[.tmp 5, .tmp 6]) rfl ?_); at_builtin; refine Kd.R_append_rows (Kd.int .u8) (w0 := w) w.heap.size rfl (.tmp 5) (.tmp 6) 55 5 (.int .u8 0) 1 rfl Try.underlying55 info5 rfl (by decide) (by omega) _ [] l0 _ _ _ (fun _ => True) (fun _ => False) rfl rfl HO5.out (kB_ HR.out HB5.out) (fun _ _ h => h) (fun _ h => h.elim) (fun _ _ => trivial) HB5.out (below_size HB5.out) (by simp; omega) ?_; intro v7 w7 ho7 hb7 hg7 ha7; have HO7 := m0_ ho7; have HB7 := m0_ hb7; clear ho7 hb7 hg7 ha7))
  go_ret
  exact ⟨_, rfl, HO7.out, HB7.out⟩
section
attribute [local go_sem] Oper.semAt_some
def metB (l1 : List S24) (p : S50) : Bool := l1.any fun v => decide (v.f0 < p.f1)
abbrev HandedP := S50 × (Option Addr × Nat) × (Option Addr × Nat)
def encP (x : HandedP) : Array Value := #[.agg #[.int .i64 x.1.f0, .int .i64 x.1.f1, .bool x.1.f2, .slice x.2.1.1 x.1.f3.length x.2.1.2, .slice x.2.2.1 x.1.f4.length x.2.2.2, .bool x.1.f5]]
def HandP (w0 : World) (l0 : List S50) (x : HandedP) : Prop := x.1 ∈ l0 ∧ x.1.f3.length ≤ x.2.1.2 ∧ Kd.C k57 w0 x.2.1.1 x.1.f3.length x.1.f3 ∧ x.1.f4.length ≤ x.2.2.2 ∧ Kd.C k59 w0 x.2.2.1 x.1.f4.length x.1.f4
set_option maxHeartbeats 1000000 in
set_option maxRecDepth 100000 in
theorem met_in (F : Fence) (n : Nat) (hF : F.fn 49) (hro : F.round = none) (A0 : Option Addr) (n0 c0 : Nat) (A1 : Option Addr) (n1 c1 : Nat) (w : World) :
  CallsIn F n Try.prog 49 #[.slice A0 n0 c0, .slice A1 n1 c1] w fun e w' => e = .returned (.func (.func 58) #[] #[.pointer (some ⟨w.heap.size, 0, none⟩), .pointer (some ⟨w.heap.size + 1, 0, none⟩)]) ∧ w' = (w.alloc (.cells #[.slice A0 n0 c0] 26)).alloc (.cells #[.slice A1 n1 c1] 27) := by
 have hmf : ∀ (fn : Fn) (first cap : Array Value) (w : World), (Instr.makeFunc fn first cap).run Try.prog w = .ok (.func fn first cap) w := fun _ _ _ _ => rfl
 refine callsIn_of_wp Try.func49 rfl hF ?_ hro
 simp only [Try.ntmps49, List.size_toArray, List.length_cons, List.length_nil, Nat.reduceAdd, Nat.reduceSub, Array.replicate_succ, Array.replicate_zero, List.push_toArray, List.append_toArray, List.nil_append, List.cons_append]
 gi_wp2
 go_ret
 exact ⟨rfl, rfl⟩
set_option maxHeartbeats 1000000 in
set_option maxRecDepth 100000 in
theorem met_one (g : Nat) (p : S50) (v3 v4 : Value) (W : World) (v : S24) (A1 : Option Addr) (c1 : Nat)
  (hg : W.heap[g]? = some (.cells #[.int .i64 p.f0, .int .i64 p.f1, .bool p.f2, v3, v4, .bool p.f5] 50 (0, 0))) :
  Calls Try.prog 59 #[.agg #[.int .i64 v.f0, .slice A1 v.f1.length c1], .pointer (some ⟨g, 0, none⟩)] W fun e w' => e = .returned (.bool (decide (v.f0 < p.f1))) ∧ Below W.heap.size W w' := by
 have e1 : ∀ o, (W.alloc o).cell? ⟨g, 1, none⟩ = some (.int .i64 p.f1) := fun o => (World.cell?_alloc_lt W o _ (blk_lt hg)).trans ((blk_cell hg 1).trans rfl)
 have hu2 := Try.underlying24
 clear hg
 go_enter Try.func59, Try.ntmps59
 go_wp2
 go_ret
 exact ⟨rfl, bA_ (Below.refl W.heap.size W) _⟩
set_option maxHeartbeats 2000000 in
set_option maxRecDepth 100000 in
theorem met1_in (lp g1 g2 : Nat) (A0 : Option Addr) (c0 : Nat) (l0 : List S50) (A1 : Option Addr) (c1 : Nat) (l1 : List S24) (w0 : World) (hr0 : Kd.C k50 w0 A0 l0.length l0) (hr1 : Kd.C k24 w0 A1 l1.length l1) (J : List HandedP → World → Prop)
  (hJg : ∀ pre W, J pre W → Boxed W g1 26 (.slice A0 l0.length c0) ∧ Boxed W g2 27 (.slice A1 l1.length c1) ∧ Below w0.heap.size w0 W)
  (hJb : ∀ pre W W', J pre W → Below W.heap.size W W' → J pre W')
  (hY : ∀ pre x W, J pre W → HandP w0 l0 x → pre.length < l0.length + 1 → YieldAt Fence.wide 4 Try.prog lp (encP x) W fun e W' => e = .returned (.bool true) ∧ J (pre ++ [x]) W')
  (W : World) (h0 : J [] W) :
  CallsIn Fence.wide 5 Try.prog 58 #[.func (.yield lp) #[] #[], .pointer (some ⟨g1, 0, none⟩), .pointer (some ⟨g2, 0, none⟩)] W fun e W' => (∃ v, e = .returned v) ∧ ∃ xs, xs.map (fun x => x.1) = l0.filter (metB l1) ∧ J xs W' := by
 have hm : l0.length ≤ 9223372036854775807 := Kd.C_max hr0
 have hmf : ∀ (fn : Fn) (first cap : Array Value) (w : World), (Instr.makeFunc fn first cap).run Try.prog w = .ok (.func fn first cap) w := fun _ _ _ _ => rfl
 have hu2 := Try.underlying50
 have hb1 := (hJg _ _ h0).1.cell
 refine callsIn_of_wp Try.func58 rfl trivial ?_ rfl
 simp only [Try.ntmps58, List.size_toArray, List.length_cons, List.length_nil, Nat.reduceAdd, Nat.reduceSub, Array.replicate_succ, Array.replicate_zero, List.push_toArray, List.append_toArray, List.nil_append, List.cons_append]
 gi_wp2
 gi_loopw [8] (fun v8 wr => ∃ (k : Nat) (pre : List HandedP), v8 = .int .i64 k ∧ k ≤ l0.length ∧ J pre wr ∧ pre.map (fun x => x.1) = (l0.take k).filter (metB l1) ∧ pre.length ≤ k)
  (fun v8 wr => l0.length - (intOf v8).toNat)
 case atStart => exact ⟨0, [], rfl, Nat.zero_le _, h0, by simp, by simp⟩
 case round =>
  obtain ⟨k, pre, rfl, hk, hJ, hE, hpl⟩ := hrel
  have HE := m0_ hE
  clear hE
  have hc2 := (hJg _ _ hJ).2.1.cell
  have hf2 := (hJg _ _ hJ).2.1.frozen
  have HB := m0_ (hJg _ _ hJ).2.2
  by_cases hlt : k < l0.length
  · obtain ⟨ad, A3, c3, A4, c4, e, hx0, hx1, hx2, hx3, hx4, hx5, hl3, hi3, hl4, hi4⟩ := at_T50 hr0 k (by omega) (by omega)
    cases e
    rw [Int.toNat_natCast] at hx0 hx1 hx2 hx3 hx4 hx5
    have hup : ∀ {q : Addr} {u : Value}, w0.cell? q = some u → wr.cell? q = some u := fun {q u} h => (HB.out.cell (bL_ w0 _ h)).trans h
    replace hx0 := hup hx0
    replace hx1 := hup hx1
    replace hx2 := hup hx2
    replace hx3 := hup hx3
    replace hx4 := hup hx4
    replace hx5 := hup hx5
    have hv0 : rd_T50 l0 (k : Int) = l0[k] := by unfold rd_T50; simp [List.getD_eq_getElem?_getD, hlt]
    have hmem : rd_T50 l0 (k : Int) ∈ l0 := by rw [hv0]; exact List.getElem_mem hlt
    have htk : (l0.take (k + 1)).filter (metB l1) = (l0.take k).filter (metB l1) ++ (if metB l1 (rd_T50 l0 (k : Int)) = true then [rd_T50 l0 (k : Int)] else []) := by
     rw [List.take_succ_eq_append_getElem hlt, List.filter_append, ← hv0]
     congr 1
     simp only [List.filter_cons, List.filter_nil]
    clear hv0 hup
    generalize rd_T50 l0 (k : Int) = p at *
    have HMEM := m0_ hmem
    have HTK := m0_ htk
    have HI3 := m0_ hi3
    have HI4 := m0_ hi4
    have HHAS := fun (o : Obj) (hg : (wr.alloc o).heap[wr.heap.size]? = some (.cells #[.int .i64 p.f0, .int .i64 p.f1, .bool p.f2, .slice A3 p.f3.length c3, .slice A4 p.f4.length c4, .bool p.f5] 50 (0, 0))) => m0_ (has_Live 59 #[.pointer (some ⟨wr.heap.size, 0, none⟩)] (fun v => decide (v.f0 < p.f1)) A1 c1 l1 (wr.alloc o) (kA_ (kB_ hr1 HB.out) _) (enters_of Try.func59 (by kernel_rfl) rfl)
     (fun W1 v B1 d1 _ hb j1 q1 => met_one wr.heap.size p _ _ W1 v B1 d1 ((hb.block _ (by simp)).trans hg)))
    clear hmem htk hi3 hi4
    have HMB := m0_ (show metB l1 p = l1.any (fun v => decide (v.f0 < p.f1)) from rfl)
    generalize hmb : (l1.any fun v => decide (v.f0 < p.f1)) = b at *
    have hJ1 := hJb pre wr (wr.alloc (.cells #[.int .i64 p.f0, .int .i64 p.f1, .bool p.f2, .slice A3 p.f3.length c3, .slice A4 p.f4.length c4, .bool p.f5] 50)) hJ (bA_ (Below.refl _ _) _)
    have hc2' : ∀ o, (wr.alloc o).cell? ⟨g2, 0, none⟩ = some (.slice A1 l1.length c1) := fun o => (World.cell?_alloc_lt wr o _ (hJg _ _ hJ).2.1.lt).trans hc2
    have hxx := hY pre (p, (A3, c3), (A4, c4))
    simp only [encP] at hxx
    have HY := m0_ hxx
    clear hxx
    cases b with
    | true =>
     gi_wp2_with (refine ⟨trivial, ?_⟩; gi_at_call 29; refine (callsIn_wide.2 (HHAS _ (heap_alloc_new _ _)).out).mono ?_; rintro e1 w1 ⟨rfl, hbw⟩; have hq := (hbw.block _ (by simp)).trans (heap_alloc_new wr _); have hd0 := (blk_cell hq 0).trans rfl; have hd1 := (blk_cell hq 1).trans rfl; have hd2 := (blk_cell hq 2).trans rfl; have hd3 := (blk_cell hq 3).trans rfl; have hd4 := (blk_cell hq 4).trans rfl; have hd5 := (blk_cell hq 5).trans rfl; have hJ2 := hJb _ _ _ hJ1 hbw; obtain ⟨fn, tmps, assign, body, hy, hR⟩ := HY.out w1 hJ2 ⟨HMEM.out, hl3, HI3.out, hl4, HI4.out⟩ (by omega))
     refine hR.mono ?_
     rintro e3 W3 ⟨rfl, hJ3⟩
     gi_wp2
     go_roundw
     case rel => exact ⟨k + 1, pre ++ [(p, (A3, c3), (A4, c4))], by go_num, by omega, hJ3, by rw [HTK.out, HMB.out, if_pos rfl, List.map_append, HE.out]; rfl, by simp; omega⟩
     case measure => simp [intOf]; omega
    | false =>
     gi_wp2_with (refine ⟨trivial, ?_⟩; gi_at_call 29; refine (callsIn_wide.2 (HHAS _ (heap_alloc_new _ _)).out).mono ?_; rintro e1 w1 ⟨rfl, hbw⟩; have hJ2 := hJb _ _ _ hJ1 hbw)
     refine ⟨fun _ hf_ => (by cases hf_), ?_⟩
     gi_wp2
     go_roundw
     case rel => exact ⟨k + 1, pre, by go_num, by omega, hJ2, by rw [HTK.out, HMB.out, if_neg (by decide), List.append_nil, HE.out], by omega⟩
     case measure => simp [intOf]; omega
  · obtain rfl : k = l0.length := by omega
    gi_wp2
    trace_state
    refine bodyPost_end (results_none rfl _ _ _) rfl ?_
    exact ⟨⟨_, rfl⟩, pre, by rw [HE.out, List.take_length], hJ⟩
def okWr (x : S59) : Bool := decide (x.f1.length < 140737488355328) && decide (x.f3.length < 140737488355328)
def okPa (p : S50) : Bool := (decide (p.f3.length < 2199023255552) && p.f3.all okSp) && (decide (p.f4.length < 2199023255552) && p.f4.all okWr)
def KpI (s : Nat) (w : World) (b1 b2 : Value) (pre : List HandedP) (W : World) : Prop :=
 (∃ v, Boxed W s 26 v ∧ Kd.N k50 50 W s (fun k => s + 5 ≤ k) v (pre.map fun x => x.1)) ∧ Boxed W (s + 1) 26 b1 ∧ Boxed W (s + 2) 27 b2 ∧ Below s w W ∧ s + 5 ≤ W.heap.size
theorem KpI.below {s : Nat} {w : World} {b1 b2 : Value} {pre : List HandedP} {W W' : World} (h : KpI s w b1 b2 pre W) (hb : Below W.heap.size W W') : KpI s w b1 b2 pre W' := by
 obtain ⟨⟨v, h1, h2⟩, h3, h4, h6, h7⟩ := h
 have kp : ∀ {B : Nat} {t : TypeId} {u : Value}, Boxed W B t u → Boxed W' B t u := fun h => (hb.block _ h.lt).trans h
 exact ⟨⟨v, kp h1, Kd.N_below h2 hb⟩, kp h3, kp h4, h6.trans (hb.mono (by omega)), Nat.le_trans h7 hb.size⟩
theorem KpI.put {s : Nat} {w : World} {b1 b2 : Value} {pre : List HandedP} {W : World} {l : Nat} (o' : Obj) (hl : l = s + 3 ∨ l = s + 4) (h : KpI s w b1 b2 pre W) : KpI s w b1 b2 pre (W.putObj l o') := by
 obtain ⟨⟨v, h1, h2⟩, h3, h4, h6, h7⟩ := h
 have kp : ∀ {B : Nat} {t : TypeId} {u : Value}, B < s + 3 → Boxed W B t u → Boxed (W.putObj l o') B t u := fun hB h => h.kept (grownBy_putObj' W l o') (fun e => by cases e; omega)
 refine ⟨⟨v, kp (by omega) h1, Kd.N_step h2 (fun k hk _ => World.putObj_heap_other (by omega))⟩, kp (by omega) h3, kp (by omega) h4, h6.trans ((Below.refl _ W).grown (grownBy_putObj' W l o') (by omega) (fun k e => by cases e; omega)), ?_⟩
 have := (grownBy_putObj' W l o').size
 omega
theorem keepsOthers_of_below {W W' : World} (hb : Below W.heap.size W W') : KeepsOthers W W' := ⟨hb.size, fun k o hk _ => (hb.block k (Array.getElem?_eq_some_iff.1 hk).1).trans hk⟩
theorem results_cell1 {P : Program} {fn : Func} {p : Tmp} {ty e : TypeId} (h : fn.results = #[.cell p ty]) (tmps : Array Value) (w : World) (g : Nat) (t : TypeId) (v : Value)
  (hp : tmps.getD p undef = .pointer (some ⟨g, 0, none⟩)) (hg : Boxed w g t v) (hu : P.underlying ty = some (.slice e)) :
  (results fn tmps).run P w = .ok v w := by
 have h1 : tmps[p]?.getD undef = .pointer (some ⟨g, 0, none⟩) := by simpa using hp
 have c1 := hg.cell
 simp [results, h, h1, asAddr, loadVar, isAgg, run_underlying hu, go_sem, c1]
def reads_Keep.f (l0 : List (S50)) (l1 : List (S24)) : Option ((List (S50))) := if (decide (l0.length < 1000000000000) && l0.all okPa) = true then some (l0.filter (metB l1)) else none
set_option maxHeartbeats 4000000 in
set_option maxRecDepth 100000 in
theorem reads_Keep.calls (A0 : Option Addr) (c0 : Nat) (l0 : List (S50)) (A1 : Option Addr) (c1 : Nat) (l1 : List (S24)) (r : List (S50)) (w : World) (hr0 : Kd.C k50 w A0 l0.length l0) (hc0 : l0.length ≤ c0) (hr1 : Kd.C k24 w A1 l1.length l1) (hc1 : l1.length ≤ c1) (h : reads_Keep.f l0 l1 = some r) :
  Calls Try.prog 32 #[.slice A0 l0.length c0, .slice A1 l1.length c1] w fun e w' => ∃ v0_ : Value, e = .returned (v0_) ∧ Kd.V k50 50 w' w.heap.size (fun k_ => (w.heap.size ≤ k_)) v0_ r ∧ Below w.heap.size w w' := by
 unfold reads_Keep.f at h
 have hok : (decide (l0.length < 1000000000000) && l0.all okPa) = true := Classical.byContradiction fun hn => by rw [if_neg hn] at h; cases h
 rw [if_pos hok] at h
 obtain rfl := sO_ h
 clear h
 simp only [Bool.and_eq_true, decide_eq_true_eq, List.all_eq_true] at hok
 obtain ⟨hln, hsm⟩ := hok
 have HSM := m0_ hsm
 clear hsm
 refine (callsIn_wide (n := 6)).1 ?_
 refine callsIn_of_wp_marks Try.func32 rfl trivial ?_ rfl
 simp only [Try.ntmps32, List.size_toArray, List.length_cons, List.length_nil, Nat.reduceAdd, Nat.reduceSub, Array.replicate_succ, Array.replicate_zero, List.push_toArray, List.append_toArray, List.nil_append, List.cons_append]
 gi_wp2_with (refine ⟨trivial, ?_⟩; gi_at_call 49; refine (met_in Fence.wide 5 trivial rfl A0 l0.length c0 A1 l1.length c1 _).mono ?_; rintro e w2 ⟨rfl, rfl⟩)
 have b0 := Boxed.new w 26 (.slice none 0 0)
 have b1 := Boxed.new (w.alloc (.cells #[.slice none 0 0] 26)) 26 (.slice A0 l0.length c0)
 have b2 := Boxed.new ((w.alloc (.cells #[.slice none 0 0] 26)).alloc (.cells #[.slice A0 l0.length c0] 26)) 27 (.slice A1 l1.length c1)
 simp only [World.size_alloc] at b1 b2
 obtain ⟨i0, hi, hz0, hz1, hz2⟩ := info_parts info50
 refine range_boxed (F := Fence.wide) (n := 6) rfl (by decide) (gf := 58) (lb := #[.pointer (some ⟨w.heap.size + 1, 0, none⟩), .pointer (some ⟨w.heap.size + 1 + 1, 0, none⟩)]) ?hg trivial (enters_of Try.func58 (by kernel_rfl) rfl)
  encP (fun _ => rfl) (fun xs => xs.map (fun x => x.1) = l0.filter (metB l1)) (l0.length + 1)
  (KpI w.heap.size w (.slice A0 l0.length c0) (.slice A1 l1.length c1)) (fun x _ => HandP w l0 x)
  ?hIb ?hGb ?h0
  (fun x g => { tmps := #[.slice A0 l0.length c0, .slice A1 l1.length c1, undef, undef, .pointer (some ⟨w.heap.size, 0, none⟩), .pointer (some ⟨g, 0, none⟩), undef, undef, undef, undef, .slice A0 l0.length c0, .slice A1 l1.length c1, .func (.func 58) #[] #[.pointer (some ⟨w.heap.size + 1, 0, none⟩), .pointer (some ⟨w.heap.size + 1 + 1, 0, none⟩)], .agg #[.int .i64 x.1.f0, .int .i64 x.1.f1, .bool x.1.f2, .slice x.2.1.1 x.1.f3.length x.2.1.2, .slice x.2.2.1 x.1.f4.length x.2.2.2, .bool x.1.f5], undef, undef, undef, undef, undef, undef, undef, undef, undef, undef, undef, undef, undef, undef, undef, undef, undef, undef, undef, undef, undef, undef, undef, undef, undef, undef, undef, undef, undef, undef, undef, undef, undef, undef, undef, undef, undef, undef, undef, undef, undef, undef, undef, undef, undef, undef, undef, undef, undef, undef, undef, undef, undef, undef, undef, undef, undef, undef, undef, undef, undef, undef, undef], defers := [] })
  (fun x => .cells #[.int .i64 x.1.f0, .int .i64 x.1.f1, .bool x.1.f2, .slice x.2.1.1 x.1.f3.length x.2.1.2, .slice x.2.2.1 x.1.f4.length x.2.2.2, .bool x.1.f5] 50 (0, 0)) ?assign ?body ?hit ?done
 case hg => simp [Act.eval]
 case hIb =>
  intro pre W l o' hl2 h
  simp only [World.size_alloc] at hl2
  exact h.put o' (by omega)
 case hGb => exact fun _ _ _ _ _ h => h
 case h0 =>
  intro r
  refine ⟨⟨_, (((b0.alloc _).alloc _).alloc _).alloc _, Kd.N_nil _ _ _ _ _⟩, ((b1.alloc _).alloc _).alloc _, (b2.alloc _).alloc _, ?_, by simp only [World.size_alloc]; omega⟩
  exact (((((Below.refl _ w).alloc (by omega) _).alloc (by simp only [World.size_alloc]; omega) _).alloc (by simp only [World.size_alloc]; omega) _).alloc (by simp only [World.size_alloc]; omega) _).alloc (by simp only [World.size_alloc]; omega) _
 case assign =>
  intro l x W K hK
  simp only [encP]
  gi_wp2
  exact hK
 case hit =>
  intro l J W hJI hJ2 hY h0
  refine met1_in l (w.heap.size + 1) (w.heap.size + 1 + 1) A0 c0 l0 A1 c1 l1 w hr0 hr1 J (fun pre W h => ⟨(hJI pre W h).2.1, (hJI pre W h).2.2.1, (hJI pre W h).2.2.2.1⟩) ?_ hY W h0
  intro pre W W' h hb
  exact hJ2 _ _ _ _ h (keepsOthers_of_below hb) ((hJI pre W h).below hb)
 case body =>
  rintro l pre ⟨x, ⟨A3, c3⟩, ⟨A4, c4⟩⟩ W hI ⟨hmem, hl3, hi3, hl4, hi4⟩ hpl
  simp only at hmem hl3 hi3 hl4 hi4 hI hpl ⊢
  have hokp := HSM.out x hmem
  unfold okPa at hokp
  simp only [Bool.and_eq_true, decide_eq_true_eq, List.all_eq_true] at hokp
  obtain ⟨⟨hn3, hs3⟩, hn4, hs4⟩ := hokp
  have HS3 := m0_ hs3
  have HS4 := m0_ hs4
  have HI := m0_ hI
  have HBW := m0_ hI.2.2.2.1
  have hsW : w.heap.size + 5 ≤ W.heap.size := hI.2.2.2.2
  have hm3 : x.f3.length ≤ 9223372036854775807 := by omega
  have hm4 : x.f4.length ≤ 9223372036854775807 := by omega
  have HV3 := m0_ (show Kd.V k57 57 w w.heap.size (fun k_ => k_ < w.heap.size) (.slice A3 x.f3.length c3) x.f3 from Kd.V_mk hl3 (Kd.C_F (by repeat (first | exact Kd.heap_int _ | exact Kd.heap_bool | exact Kd.heap_string | apply Kd.heap_slice | apply Kd.heap_iso | apply Kd.heap_pair)) hi3))
  have HV4 := m0_ (show Kd.V k59 59 w w.heap.size (fun k_ => k_ < w.heap.size) (.slice A4 x.f4.length c4) x.f4 from Kd.V_mk hl4 (Kd.C_F (by repeat (first | exact Kd.heap_int _ | exact Kd.heap_bool | exact Kd.heap_string | apply Kd.heap_slice | apply Kd.heap_iso | apply Kd.heap_pair)) hi4))
  have HC3 := m0_ (show slices_Clone_Span.f x.f3 = some x.f3 by unfold slices_Clone_Span.f; rw [if_pos hn3])
  have HC4 := m0_ (show slices_Clone_Write.f x.f4 = some x.f4 by unfold slices_Clone_Write.f; rw [if_pos hn4])
  clear hs3 hs4 hI hi3 hi4 hl3 hl4
  obtain ⟨gp, hgpe⟩ : ∃ gp, gp = W.heap.size := ⟨_, rfl⟩
  obtain ⟨Wx, hWx⟩ : ∃ Wx, Wx = W.alloc (.cells #[.int .i64 x.f0, .int .i64 x.f1, .bool x.f2, .slice A3 x.f3.length c3, .slice A4 x.f4.length c4, .bool x.f5] 50 (0, 0)) := ⟨_, rfl⟩
  have hG0 : Wx.heap[gp]? = some (.cells #[.int .i64 x.f0, .int .i64 x.f1, .bool x.f2, .slice A3 x.f3.length c3, .slice A4 x.f4.length c4, .bool x.f5] 50 (0, 0)) := by rw [hWx, hgpe]; exact heap_alloc_new W _
  have HBx := m0_ (show Below W.heap.size W Wx by rw [hWx]; exact bA_ (Below.refl _ _) _)
  have hszx : gp < Wx.heap.size := blk_lt hG0
  have HGPE := m0_ hgpe
  have hsg : w.heap.size + 5 ≤ gp := by omega
  rw [← hWx, ← hgpe]
  clear hWx hgpe
  gi_wp2_with fail
  have HG0 := m0_ hG0
  have hq3 : Wx.cell? ⟨gp, 3, none⟩ = some (.slice A3 x.f3.length c3) := blk_cell hG0 3
  have hq4 : Wx.cell? ⟨gp, 4, none⟩ = some (.slice A4 x.f4.length c4) := blk_cell hG0 4
  clear hG0
  refine startIn_ (n := 10) (S := fun w' => w'.cell? ⟨gp, 3, none⟩ = some (.slice A3 x.f3.length c3) ∧ w'.cell? ⟨gp, 4, none⟩ = some (.slice A4 x.f4.length c4)) (ds := [7, 9]) #[false, false, false, false, false, false, false, false, false, false] (by kernel_rfl) (by rintro ⟨a_, w_, h_⟩; exact nomatch h_.1) (by kernel_rfl) rfl rfl ⟨hq3, hq4⟩ (fun hHeld => ?_)
  clear hq3 hq4
  have HG1 := m0_ (show Wx.drew.heap[gp]? = some (.cells #[.int .i64 x.f0, .int .i64 x.f1, .bool x.f2, .slice A3 x.f3.length c3, .slice A4 x.f4.length c4, .bool x.f5] 50 (0, 0)) from HG0.out)
  have HB1 := m0_ (b1_ HBx.out)
  have hsz1 : gp < Wx.drew.heap.size := hszx
  clear HG0 HBx hszx
  generalize Wx.drew = wa at HG1 HB1 hsz1 hHeld ⊢
  refine pure_ (i := 0) (N := some 14) (v := ?_) (a' := ?_) #[true, false, false, false, false, false, false, false, false, false] rfl rfl (by kernel_rfl) (fun _ _ _ h => h) (Or.inl ⟨by rfl, ?_⟩) ?_ ?_
  rotate_left
  · intro w'
    go_simp
    with_reducible rfl
  rotate_left
  · simp only [Act.put, sI_, sZ_, sS_, i64_w, i32_w]
    rfl
  refine take_ (i := 1) (N := some 15) (v := ?_) (a' := ?_) #[true, true, false, false, false, false, false, false, false, false] rfl rfl (by kernel_rfl) (fun _ _ _ h => h) (Or.inl ⟨by rfl, ?_⟩) hHeld ?_ ?_
  rotate_left
  · rintro w' ⟨s0, s1⟩
    go_simp
    with_reducible rfl
  rotate_left
  · simp only [Act.put, sI_, sZ_, sS_, i64_w, i32_w]
    rfl
  refine pure_ (i := 3) (N := some 17) (v := ?_) (a' := ?_) #[true, true, false, true, false, false, false, false, false, false] rfl rfl (by kernel_rfl) (fun _ _ _ h => h) (Or.inl ⟨by rfl, ?_⟩) ?_ ?_
  rotate_left
  · intro w'
    go_simp
    with_reducible rfl
  rotate_left
  · simp only [Act.put, sI_, sZ_, sS_, i64_w, i32_w]
    rfl
  refine take_ (i := 4) (N := some 18) (v := ?_) (a' := ?_) #[true, true, false, true, true, false, false, false, false, false] rfl rfl (by kernel_rfl) (fun _ _ _ h => h) (Or.inl ⟨by rfl, ?_⟩) hHeld ?_ ?_
  rotate_left
  · rintro w' ⟨s0, s1⟩
    go_simp
    with_reducible rfl
  rotate_left
  · simp only [Act.put, sI_, sZ_, sS_, i64_w, i32_w]
    rfl
  refine one_ (i := 2) (N := some 16) #[true, true, true, true, true, false, false, false, false, false] rfl rfl (by kernel_rfl) (by decide) (fun K hK => ?_)
  refine goes_ Try.func50 (by kernel_rfl) rfl #[.slice A3 x.f3.length c3] (by rfl) rfl rfl (by (try simp only [mT_, mC_, mN_]); first | done | rfl) ?_
  refine (slices_Clone_Span.calls (fun k_ => k_ < w.heap.size) A3 c3 x.f3 x.f3 wa (Kd.V_below (Kd.V_below HV3.out HBW.out) (HB1.out)) HC3.out).mono ?_
  rintro e wb ⟨v, rfl, hN3, hb3⟩
  have HG2 := m0_ ((hb3.block _ hsz1).trans HG1.out)
  refine ⟨_, rfl, ?_⟩
  refine hK.out _ _ ⟨(blk_cell HG2.out 3).trans rfl, (blk_cell HG2.out 4).trans rfl⟩ (fun hHeld => ?_)
  clear hK K
  refine norm_ (a' := ?_) ?_ ?_
  rotate_left
  · show Act.put _ (some 16) _ = _
    simp only [Act.put, sI_, sZ_, sS_, i64_w, i32_w]
    rfl
  obtain ⟨Ar, cr, rfl, hcr, hrow3⟩ := N_block hN3
  have HB2 := m0_ (below_step HB1.out hb3)
  have HROW3 := m0_ hrow3
  have hsz2 : wa.heap.size ≤ wb.heap.size := hb3.size
  have hbr : ∀ B, wb.heap[B]? ≠ none → B < wb.heap.size := fun B h => Classical.byContradiction fun hn => h (by simp; omega)
  clear hN3 hb3 hrow3
  refine pure_ (i := 6) (N := some 20) (v := ?_) (a' := ?_) #[true, true, true, true, true, false, true, false, false, false] rfl rfl (by kernel_rfl) (fun _ _ _ h => h) (Or.inl ⟨by rfl, ?_⟩) ?_ ?_
  rotate_left
  · intro w'
    go_simp
    with_reducible rfl
  rotate_left
  · simp only [Act.put, sI_, sZ_, sS_, i64_w, i32_w]
    rfl
  refine one_ (i := 5) (N := some 19) #[true, true, true, true, true, true, true, false, false, false] rfl rfl (by kernel_rfl) (by decide) (fun K hK => ?_)
  refine goes_ Try.func51 (by kernel_rfl) rfl #[.slice A4 x.f4.length c4] (by rfl) rfl rfl (by (try simp only [mT_, mC_, mN_]); first | done | rfl) ?_
  refine (slices_Clone_Write.calls (fun k_ => k_ < w.heap.size) A4 c4 x.f4 x.f4 wb (Kd.V_below (Kd.V_below HV4.out HBW.out) (HB2.out)) HC4.out).mono ?_
  rintro e wc ⟨v, rfl, hN4, hb4⟩
  have HG3 := m0_ ((hb4.block _ (Nat.lt_of_lt_of_le hsz1 hsz2)).trans HG2.out)
  refine ⟨_, rfl, ?_⟩
  refine hK.out _ _ ⟨(blk_cell HG3.out 3).trans rfl, (blk_cell HG3.out 4).trans rfl⟩ (fun hHeld => ?_)
  clear hK K
  refine norm_ (a' := ?_) ?_ ?_
  rotate_left
  · show Act.put _ (some 19) _ = _
    simp only [Act.put, sI_, sZ_, sS_, i64_w, i32_w]
    rfl
  obtain ⟨Aw, cw, rfl, hcw, hrow4⟩ := N_block hN4
  have HB3 := m0_ (below_step HB2.out hb4)
  have HB34 := m0_ hb4
  have HROW4 := m0_ hrow4
  have hsz3 : wb.heap.size ≤ wc.heap.size := hb4.size
  have hfz3 := bf_ HG3.out 3
  have hk3 := (blk_cell HG3.out 3).trans rfl
  have hk4 := (blk_cell HG3.out 4).trans rfl
  clear hN4 hb4 hrow4
  refine last_ (i := 7) (N := none) #[true, true, true, true, true, true, true, true, false, false] rfl rfl (by kernel_rfl) (by decide) (fun K hK => ?_)
  refine skip_ (w1 := ?_) (by rfl) rfl ?_ ?_
  rotate_left
  · go_simp
    rfl
  refine hK.out _ _ ?_
  clear hK K
  have HG4 := m0_ (blk_set HG3.out 3 (.slice Ar x.f3.length cr))
  have hfz4 := bf_ HG4.out 4
  refine pure_ (i := 8) (N := some 21) (v := ?_) (a' := ?_) #[true, true, true, true, true, true, true, true, true, false] rfl rfl (by kernel_rfl) (fun _ _ _ h => h) (Or.inl ⟨by rfl, ?_⟩) ?_ ?_
  rotate_left
  · intro w'
    go_simp
    with_reducible rfl
  rotate_left
  · simp only [Act.put, sI_, sZ_, sS_, i64_w, i32_w]
    rfl
  refine last_ (i := 9) (N := none) #[true, true, true, true, true, true, true, true, true, true] rfl rfl (by kernel_rfl) (by decide) (fun K hK => ?_)
  refine skip_ (w1 := ?_) (by rfl) rfl ?_ ?_
  rotate_left
  · go_simp
    rfl
  refine hK.out _ _ ?_
  clear hK K
  refine done_ (by kernel_rfl) ?_
  have hG5 : ((wc.setCell ⟨gp, 3, none⟩ (.slice Ar x.f3.length cr)).setCell ⟨gp, 4, none⟩ (.slice Aw x.f4.length cw)).heap[gp]? = some (.cells #[.int .i64 x.f0, .int .i64 x.f1, .bool x.f2, .slice Ar x.f3.length cr, .slice Aw x.f4.length cw, .bool x.f5] 50 (0, 0)) := blk_set HG4.out 4 (.slice Aw x.f4.length cw)
  obtain ⟨B1, hB1, hB1b, hB1c, hS1⟩ := RowSt.of_block (by omega) HROW3.out
  obtain ⟨B2, hB2, hB2b, hB2c, hS2⟩ := RowSt.of_block (by omega) HROW4.out
  have HB5 := m0_ (show Below W.heap.size W ((wc.setCell ⟨gp, 3, none⟩ (.slice Ar x.f3.length cr)).setCell ⟨gp, 4, none⟩ (.slice Aw x.f4.length cw)) from (HB3.out.setCell (p := ⟨gp, 3, none⟩) (by have := HGPE.out; show W.heap.size ≤ gp; omega) _).setCell (p := ⟨gp, 4, none⟩) (by have := HGPE.out; show W.heap.size ≤ gp; omega) _)
  have hoth : ∀ q, q ≠ gp → ((wc.setCell ⟨gp, 3, none⟩ (.slice Ar x.f3.length cr)).setCell ⟨gp, 4, none⟩ (.slice Aw x.f4.length cw)).heap[q]? = wc.heap[q]? := fun q hq => (Below.heap_setCell _ _ _ _ hq).trans (Below.heap_setCell _ _ _ _ hq)
  have hsz5 : ((wc.setCell ⟨gp, 3, none⟩ (.slice Ar x.f3.length cr)).setCell ⟨gp, 4, none⟩ (.slice Aw x.f4.length cw)).heap.size = wc.heap.size := by simp [World.setCell]
  have HS1 := m0_ (show RowSt k57 57 ((wc.setCell ⟨gp, 3, none⟩ (.slice Ar x.f3.length cr)).setCell ⟨gp, 4, none⟩ (.slice Aw x.f4.length cw)) Ar x.f3 0 B1 (fun q => gp < q ∧ q ≠ B1 ∧ q ≠ B2) (fun q => (q < w.heap.size ∨ wa.heap.size ≤ q) ∧ q ≠ B1) from ((hS1 _).below HB34.out).step (by omega) (fun hn _ => hoth _ (by have := hB1 hn; omega)) (fun q hq => absurd hq (Nat.not_lt_zero _)) (fun q _ hq _ => hoth q (by have := hq.1; omega)))
  have HS2 := m0_ (show RowSt k59 59 ((wc.setCell ⟨gp, 3, none⟩ (.slice Ar x.f3.length cr)).setCell ⟨gp, 4, none⟩ (.slice Aw x.f4.length cw)) Aw x.f4 0 B2 (fun q => gp < q ∧ q ≠ B2) (fun q => (q < w.heap.size ∨ wb.heap.size ≤ q) ∧ q ≠ B2) from (hS2 _).step (by omega) (fun hn _ => hoth _ (by have := hB2 hn; omega)) (fun q hq => absurd hq (Nat.not_lt_zero _)) (fun q _ hq _ => hoth q (by have := hq.1; omega)))
  have HG5 := m0_ hG5
  generalize ((wc.setCell ⟨gp, 3, none⟩ (.slice Ar x.f3.length cr)).setCell ⟨gp, 4, none⟩ (.slice Aw x.f4.length cw)) = wd at HG5 HB5 HS1 HS2 hsz5 ⊢
  clear hG5 hoth hS1 hS2 HROW3 HROW4 HG4 HG3 HG2 HG1 hfz3 hfz4 hk3 hk4 HB34
  have hc3 : wd.cell? ⟨gp, 3, none⟩ = some (.slice Ar x.f3.length cr) := (blk_cell HG5.out 3).trans rfl
  gi_wp2_with fail
  gi_loopw [25] (fun v_ wr => ∃ k : Nat, k ≤ x.f3.length ∧ v_ = .int .i64 k ∧ Aside0 (wr.heap[gp]? = some (.cells #[.int .i64 x.f0, .int .i64 x.f1, .bool x.f2, .slice Ar x.f3.length cr, .slice Aw x.f4.length cw, .bool x.f5] 50 (0, 0))) ∧ Aside0 (Below W.heap.size W wr) ∧ Aside0 (RowSt k57 57 wr Ar x.f3 k B1 (fun q => gp < q ∧ q ≠ B1 ∧ q ≠ B2) (fun q => (q < w.heap.size ∨ wa.heap.size ≤ q) ∧ q ≠ B1)) ∧ Aside0 (RowSt k59 59 wr Aw x.f4 0 B2 (fun q => gp < q ∧ q ≠ B2) (fun q => (q < w.heap.size ∨ wb.heap.size ≤ q) ∧ q ≠ B2)) ∧ Aside0 (wc.heap.size ≤ wr.heap.size)) (fun v_ _ => x.f3.length - (intOf v_).toNat)
  case atStart => exact ⟨0, Nat.zero_le _, rfl, HG5, HB5, HS1, HS2, ⟨by omega⟩⟩
  case round =>
    obtain ⟨k, hk, rfl, HG, HBr, HRr, HO, HZ⟩ := hrel
    have hz : wc.heap.size ≤ wr.heap.size := HZ.out
    by_cases hlt : k < x.f3.length
    · obtain ⟨hAr, hBl, cur, hcur, hcl, hE⟩ := HRr.out (by omega)
      subst hAr
      have hBB := hB1 (by omega)
      obtain ⟨p, hp⟩ : ∃ p, x.f3[k]? = some p := ⟨_, List.getElem?_eq_getElem hlt⟩
      obtain ⟨Aa, ca, Ab, cb, hch, hla, hFa, hlb, hFb⟩ := k57_openF ((hE k p hp).2 (Nat.le_refl _))
      have hch' : (cur.drop (k * 4)).take 4 = [.int .i64 p.f0, .slice Aa p.f1.length ca, .slice Ab p.f2.length cb, .bool p.f3] := hch
      have hcl' : x.f3.length * 4 ≤ cur.length := hcl
      have hx0 : wr.cell? ⟨B1, k * 4, none⟩ = some (.int .i64 p.f0) := by
        rw [blk_cell hcur]; have := chunk_at (cur := cur) (k := k) (show 0 < 4 by decide); rw [hch'] at this; simpa using this
      have hx1 : wr.cell? ⟨B1, k * 4 + 1, none⟩ = some (.slice Aa p.f1.length ca) := by
        rw [blk_cell hcur]; have := chunk_at (cur := cur) (k := k) (show 1 < 4 by decide); rw [hch'] at this; simpa using this
      have hx2 : wr.cell? ⟨B1, k * 4 + 2, none⟩ = some (.slice Ab p.f2.length cb) := by
        rw [blk_cell hcur]; have := chunk_at (cur := cur) (k := k) (show 2 < 4 by decide); rw [hch'] at this; simpa using this
      have hx3 : wr.cell? ⟨B1, k * 4 + 3, none⟩ = some (.bool p.f3) := by
        rw [blk_cell hcur]; have := chunk_at (cur := cur) (k := k) (show 3 < 4 by decide); rw [hch'] at this; simpa using this
      have hsmall := HS3.out p (List.mem_of_getElem? hp)
      unfold okSp at hsmall
      simp only [Bool.and_eq_true, decide_eq_true_eq] at hsmall
      have HCa := m0_ (show bytes_Clone.f p.f1 = some p.f1 by unfold bytes_Clone.f; rw [if_pos hsmall.1])
      have HCb := m0_ (show bytes_Clone.f p.f2 = some p.f2 by unfold bytes_Clone.f; rw [if_pos hsmall.2])
      have HP := m0_ hp
      have HCH := m0_ hch'
      have HE := m0_ hE
      have HCUR := m0_ hcur
      have HCL := m0_ hcl'
      have HRa := m0_ (Kd.F_now hFa)
      have HRb := m0_ (Kd.F_now hFb)
      have HLa := m0_ hla
      have HLb := m0_ hlb
      have hgl : gp < wr.heap.size := by omega
      clear hp hch hch' hE hcl hcl' hFa hFb hla hlb hsmall
      gi_wp2_with fail
      obtain ⟨gx, hgx⟩ : ∃ gx, gx = wr.heap.size := ⟨_, rfl⟩
      obtain ⟨Wy, hWy⟩ : ∃ Wy, Wy = wr.alloc (.cells #[.int .i64 p.f0, .slice Aa p.f1.length ca, .slice Ab p.f2.length cb, .bool p.f3] 57 (0, 0)) := ⟨_, rfl⟩
      have HBy := m0_ (show Below wr.heap.size wr Wy by rw [hWy]; exact bA_ (Below.refl _ _) _)
      have hX : Wy.heap[gx]? = some (.cells #[.int .i64 p.f0, .slice Aa p.f1.length ca, .slice Ab p.f2.length cb, .bool p.f3] 57 (0, 0)) := by rw [hWy, hgx]; exact heap_alloc_new wr _
      have HGY := m0_ ((HBy.out.block _ hgl).trans HG.out)
      have HCY := m0_ ((HBy.out.block _ hBl).trans HCUR.out)
      have hszy : gx < Wy.heap.size := blk_lt hX
      have HGX := m0_ hgx
      have hgxl : wr.heap.size ≤ gx := by omega
      rw [← hWy, ← hgx]
      clear hWy hgx hx0 hx1 hx2 hx3 hcur
      have HX := m0_ hX
      have hq0 : Wy.cell? ⟨gp, 3, none⟩ = some (.slice (some ⟨B1, 0, none⟩) x.f3.length cr) := (blk_cell HGY.out 3).trans rfl
      have hq1 : Wy.cell? ⟨gx, 1, none⟩ = some (.slice Aa p.f1.length ca) := (blk_cell hX 1).trans rfl
      have hq2 : Wy.cell? ⟨gx, 2, none⟩ = some (.slice Ab p.f2.length cb) := (blk_cell hX 2).trans rfl
      clear hX
      have hp1 : (0 ≤ (k : Int)) = True := eq_true (by omega)
      have hp2 : ((k : Int) < (x.f3.length : Int)) = True := eq_true (by omega)
      refine startIn_ (n := 18) (S := fun w' => w'.cell? ⟨gp, 3, none⟩ = some (.slice (some ⟨B1, 0, none⟩) x.f3.length cr) ∧ w'.cell? ⟨gx, 1, none⟩ = some (.slice Aa p.f1.length ca) ∧ w'.cell? ⟨gx, 2, none⟩ = some (.slice Ab p.f2.length cb)) (ds := [17]) #[false, false, false, false, false, false, false, false, false, false, false, false, false, false, false, false, false, false] (by kernel_rfl) (by rintro ⟨a_, w_, h_⟩; exact nomatch h_.1) (by kernel_rfl) rfl rfl ⟨hq0, hq1, hq2⟩ (fun hHeld => ?_)
      clear hq0 hq1 hq2
      have HGa := m0_ (show Wy.drew.heap[gp]? = some (.cells #[.int .i64 x.f0, .int .i64 x.f1, .bool x.f2, .slice (some ⟨B1, 0, none⟩) x.f3.length cr, .slice Aw x.f4.length cw, .bool x.f5] 50 (0, 0)) from HGY.out)
      have HCa0 := m0_ (show Wy.drew.heap[B1]? = some (.cells cur.toArray 57 (0, 0)) from HCY.out)
      have HXa := m0_ (show Wy.drew.heap[gx]? = some (.cells #[.int .i64 p.f0, .slice Aa p.f1.length ca, .slice Ab p.f2.length cb, .bool p.f3] 57 (0, 0)) from HX.out)
      have HBa := m0_ (b1_ HBy.out)
      have hsza : gx < Wy.drew.heap.size := hszy
      clear HGY HCY HX HBy hszy
      generalize Wy.drew = ya at HGa HCa0 HXa HBa hsza hHeld ⊢
      refine pure_ (i := 0) (N := some 30) (v := ?_) (a' := ?_) #[true, false, false, false, false, false, false, false, false, false, false, false, false, false, false, false, false, false] rfl rfl (by kernel_rfl) (fun _ _ _ h => h) (Or.inl ⟨by rfl, ?_⟩) ?_ ?_
      rotate_left
      · intro w'
        go_simp
        with_reducible rfl
      rotate_left
      · simp only [Act.put, sI_, sZ_, sS_, i64_w, i32_w]
        rfl
      refine take_ (i := 1) (N := some 31) (v := ?_) (a' := ?_) #[true, true, false, false, false, false, false, false, false, false, false, false, false, false, false, false, false, false] rfl rfl (by kernel_rfl) (fun _ _ _ h => h) (Or.inl ⟨by rfl, ?_⟩) hHeld ?_ ?_
      rotate_left
      · rintro w' ⟨s0, s1, s2⟩
        go_simp
        with_reducible rfl
      rotate_left
      · simp only [Act.put, sI_, sZ_, sS_, i64_w, i32_w]
        rfl
      refine pure_ (i := 2) (N := some 32) (v := ?_) (a' := ?_) #[true, true, true, false, false, false, false, false, false, false, false, false, false, false, false, false, false, false] rfl rfl (by kernel_rfl) (fun _ _ _ h => h) (Or.inl ⟨by rfl, ?_⟩) ?_ ?_
      rotate_left
      · intro w'
        go_simp
        with_reducible rfl
      rotate_left
      · simp only [Act.put, sI_, sZ_, sS_, i64_w, i32_w]
        rfl
      refine pure_ (i := 3) (N := some 33) (v := ?_) (a' := ?_) #[true, true, true, true, false, false, false, false, false, false, false, false, false, false, false, false, false, false] rfl rfl (by kernel_rfl) (fun _ _ _ h => h) (Or.inl ⟨by rfl, ?_⟩) ?_ ?_
      rotate_left
      · intro w'
        go_simp
        with_reducible rfl
      rotate_left
      · simp only [Act.put, sI_, sZ_, sS_, i64_w, i32_w]
        rfl
      refine take_ (i := 4) (N := some 34) (v := ?_) (a' := ?_) #[true, true, true, true, true, false, false, false, false, false, false, false, false, false, false, false, false, false] rfl rfl (by kernel_rfl) (fun _ _ _ h => h) (Or.inl ⟨by rfl, ?_⟩) hHeld ?_ ?_
      rotate_left
      · rintro w' ⟨s0, s1, s2⟩
        go_simp
        with_reducible rfl
      rotate_left
      · simp only [Act.put, sI_, sZ_, sS_, i64_w, i32_w]
        rfl
      refine pure_ (i := 5) (N := some 35) (v := ?_) (a' := ?_) #[true, true, true, true, true, true, false, false, false, false, false, false, false, false, false, false, false, false] rfl rfl (by kernel_rfl) (fun _ _ _ h => h) (Or.inl ⟨by rfl, ?_⟩) ?_ ?_
      rotate_left
      · intro w'
        go_simp
        with_reducible rfl
      rotate_left
      · simp only [Act.put, sI_, sZ_, sS_, i64_w, i32_w]
        rfl
      refine pure_ (i := 6) (N := some 36) (v := ?_) (a' := ?_) #[true, true, true, true, true, true, true, false, false, false, false, false, false, false, false, false, false, false] rfl rfl (by kernel_rfl) (fun _ _ _ h => h) (Or.inl ⟨by rfl, ?_⟩) ?_ ?_
      rotate_left
      · intro w'
        go_simp
        with_reducible rfl
      rotate_left
      · simp only [Act.put, sI_, sZ_, sS_, i64_w, i32_w]
        rfl
      refine take_ (i := 7) (N := some 37) (v := ?_) (a' := ?_) #[true, true, true, true, true, true, true, true, false, false, false, false, false, false, false, false, false, false] rfl rfl (by kernel_rfl) (fun _ _ _ h => h) (Or.inl ⟨by rfl, ?_⟩) hHeld ?_ ?_
      rotate_left
      · rintro w' ⟨s0, s1, s2⟩
        go_simp
        with_reducible rfl
      rotate_left
      · simp only [Act.put, sI_, sZ_, sS_, i64_w, i32_w]
        rfl
      refine pure_ (i := 9) (N := some 39) (v := ?_) (a' := ?_) #[true, true, true, true, true, true, true, true, false, true, false, false, false, false, false, false, false, false] rfl rfl (by kernel_rfl) (fun _ _ _ h => h) (Or.inl ⟨by rfl, ?_⟩) ?_ ?_
      rotate_left
      · intro w'
        go_simp
        with_reducible rfl
      rotate_left
      · simp only [Act.put, sI_, sZ_, sS_, i64_w, i32_w]
        rfl
      refine take_ (i := 10) (N := some 40) (v := ?_) (a' := ?_) #[true, true, true, true, true, true, true, true, false, true, true, false, false, false, false, false, false, false] rfl rfl (by kernel_rfl) (fun _ _ _ h => h) (Or.inl ⟨by rfl, ?_⟩) hHeld ?_ ?_
      rotate_left
      · rintro w' ⟨s0, s1, s2⟩
        go_simp
        with_reducible rfl
      rotate_left
      · simp only [Act.put, sI_, sZ_, sS_, i64_w, i32_w]
        rfl
      refine one_ (i := 8) (N := some 38) #[true, true, true, true, true, true, true, true, true, true, true, false, false, false, false, false, false, false] rfl rfl (by kernel_rfl) (by decide) (fun K hK => ?_)
      refine goes_ Try.func52 (by kernel_rfl) rfl #[.slice Aa p.f1.length ca] (by rfl) rfl rfl (by (try simp only [mT_, mC_, mN_]); first | done | rfl) ?_
      refine (bytes_Clone.calls Aa ca p.f1 p.f1 ya (kB_ HRa.out HBa.out) HLa.out HCa.out).mono ?_
      rintro e yb ⟨v, rfl, hva, hba⟩
      have HGb := m0_ ((hba.block _ (by omega)).trans HGa.out)
      have HCb0 := m0_ ((hba.block _ (by omega)).trans HCa0.out)
      have HXb := m0_ ((hba.block _ (by omega)).trans HXa.out)
      refine ⟨_, rfl, ?_⟩
      refine hK.out _ _ ⟨(blk_cell HGb.out 3).trans rfl, (blk_cell HXb.out 1).trans rfl, (blk_cell HXb.out 2).trans rfl⟩ (fun hHeld => ?_)
      clear hK K
      refine norm_ (a' := ?_) ?_ ?_
      rotate_left
      · show Act.put _ (some 38) _ = _
        simp only [Act.put, sI_, sZ_, sS_, i64_w, i32_w]
        rfl
      obtain ⟨Ac, cc, rfl⟩ := Kd.R_slice hva
      have HVa := m0_ hva
      have HBb := m0_ (below_step HBa.out hba)
      have hszb : ya.heap.size ≤ yb.heap.size := hba.size
      clear hva hba
      refine one_ (i := 11) (N := some 41) #[true, true, true, true, true, true, true, true, true, true, true, true, false, false, false, false, false, false] rfl rfl (by kernel_rfl) (by decide) (fun K hK => ?_)
      refine goes_ Try.func52 (by kernel_rfl) rfl #[.slice Ab p.f2.length cb] (by rfl) rfl rfl (by (try simp only [mT_, mC_, mN_]); first | done | rfl) ?_
      refine (bytes_Clone.calls Ab cb p.f2 p.f2 yb (kB_ HRb.out HBb.out) HLb.out HCb.out).mono ?_
      rintro e yc ⟨v, rfl, hvb, hbb⟩
      have HGc := m0_ ((hbb.block _ (by omega)).trans HGb.out)
      have HCc0 := m0_ ((hbb.block _ (by omega)).trans HCb0.out)
      have HXc := m0_ ((hbb.block _ (by omega)).trans HXb.out)
      refine ⟨_, rfl, ?_⟩
      refine hK.out _ _ ⟨(blk_cell HGc.out 3).trans rfl, (blk_cell HXc.out 1).trans rfl, (blk_cell HXc.out 2).trans rfl⟩ (fun hHeld => ?_)
      clear hK K
      refine norm_ (a' := ?_) ?_ ?_
      rotate_left
      · show Act.put _ (some 41) _ = _
        simp only [Act.put, sI_, sZ_, sS_, i64_w, i32_w]
        rfl
      obtain ⟨Ae, ce, rfl⟩ := Kd.R_slice hvb
      have HVb := m0_ hvb
      have HBc := m0_ (below_step HBb.out hbb)
      have HVa2 := m0_ (Kd.R_below HVa.out hbb)
      have hszc : yb.heap.size ≤ yc.heap.size := hbb.size
      clear hvb hbb
      have hlen4 : k * 4 + 4 ≤ cur.length := by have := HCL.out; omega
      have hga : yc.cell? ⟨B1, k * 4 + 1, none⟩ = some (.slice Aa p.f1.length ca) := by
        rw [blk_cell HCc0.out]; have := chunk_at (cur := cur) (k := k) (show 1 < 4 by decide); rw [HCH.out] at this; simpa using this
      have hgb : yc.cell? ⟨B1, k * 4 + 2, none⟩ = some (.slice Ab p.f2.length cb) := by
        rw [blk_cell HCc0.out]; have := chunk_at (cur := cur) (k := k) (show 2 < 4 by decide); rw [HCH.out] at this; simpa using this
      have hfa := bf_ HCc0.out (k * 4 + 1)
      have hfb := bf_ HCc0.out (k * 4 + 2)
      have hne1 : gp ≠ B1 := by omega
      have hne2 : gx ≠ B1 := by omega
      refine pure_ (i := 12) (N := some 42) (v := ?_) (a' := ?_) #[true, true, true, true, true, true, true, true, true, true, true, true, true, false, false, false, false, false] rfl rfl (by kernel_rfl) (fun _ _ _ h => h) (Or.inl ⟨by rfl, ?_⟩) ?_ ?_
      rotate_left
      · intro w'
        go_simp
        with_reducible rfl
      rotate_left
      · simp only [Act.put, sI_, sZ_, sS_, i64_w, i32_w]
        rfl
      refine pure_ (i := 13) (N := some 43) (v := ?_) (a' := ?_) #[true, true, true, true, true, true, true, true, true, true, true, true, true, true, false, false, false, false] rfl rfl (by kernel_rfl) (fun _ _ _ h => h) (Or.inl ⟨by rfl, ?_⟩) ?_ ?_
      rotate_left
      · intro w'
        go_simp
        with_reducible rfl
      rotate_left
      · simp only [Act.put, sI_, sZ_, sS_, i64_w, i32_w]
        rfl
      refine one_ (i := 14) (N := none) #[true, true, true, true, true, true, true, true, true, true, true, true, true, true, true, false, false, false] rfl rfl (by kernel_rfl) (by decide) (fun K hK => ?_)
      refine skip_ (w1 := ?_) (by rfl) rfl ?_ ?_
      rotate_left
      · go_simp
        rfl
      refine hK.out _ _ ⟨(blk_cell (blk_far HGc.out (p := ⟨B1, k * 4 + 1, none⟩) hne1 _) 3).trans rfl, (blk_cell (blk_far HXc.out (p := ⟨B1, k * 4 + 1, none⟩) hne2 _) 1).trans rfl, (blk_cell (blk_far HXc.out (p := ⟨B1, k * 4 + 1, none⟩) hne2 _) 2).trans rfl⟩ (fun hHeld => ?_)
      clear hK K
      have HCd := m0_ (blk_set HCc0.out (k * 4 + 1) (.slice Ac p.f1.length cc))
      have hfb2 := bf_ HCd.out (k * 4 + 2)
      have hgb2 : (yc.setCell ⟨B1, k * 4 + 1, none⟩ (.slice Ac p.f1.length cc)).cell? ⟨B1, k * 4 + 2, none⟩ = some (.slice Ab p.f2.length cb) := by
        rw [blk_cell HCd.out, Array.getElem?_setIfInBounds_ne (by omega), ← blk_cell HCc0.out]; exact hgb
      refine pure_ (i := 15) (N := some 44) (v := ?_) (a' := ?_) #[true, true, true, true, true, true, true, true, true, true, true, true, true, true, true, true, false, false] rfl rfl (by kernel_rfl) (fun _ _ _ h => h) (Or.inl ⟨by rfl, ?_⟩) ?_ ?_
      rotate_left
      · intro w'
        go_simp
        with_reducible rfl
      rotate_left
      · simp only [Act.put, sI_, sZ_, sS_, i64_w, i32_w]
        rfl
      refine pure_ (i := 16) (N := some 45) (v := ?_) (a' := ?_) #[true, true, true, true, true, true, true, true, true, true, true, true, true, true, true, true, true, false] rfl rfl (by kernel_rfl) (fun _ _ _ h => h) (Or.inl ⟨by rfl, ?_⟩) ?_ ?_
      rotate_left
      · intro w'
        go_simp
        with_reducible rfl
      rotate_left
      · simp only [Act.put, sI_, sZ_, sS_, i64_w, i32_w]
        rfl
      refine last_ (i := 17) (N := none) #[true, true, true, true, true, true, true, true, true, true, true, true, true, true, true, true, true, true] rfl rfl (by kernel_rfl) (by decide) (fun K hK => ?_)
      refine skip_ (w1 := ?_) (by rfl) rfl ?_ ?_
      rotate_left
      · go_simp
        rfl
      refine hK.out _ _ ?_
      clear hK K
      refine done_ (by kernel_rfl) ?_
      have HCe := m0_ (blk_set HCd.out (k * 4 + 2) (.slice Ae p.f2.length ce))
      have HGe := m0_ (blk_far (blk_far HGc.out (p := ⟨B1, k * 4 + 1, none⟩) hne1 (.slice Ac p.f1.length cc)) (p := ⟨B1, k * 4 + 2, none⟩) hne1 (.slice Ae p.f2.length ce))
      have hoth : ∀ q, q ≠ B1 → ((yc.setCell ⟨B1, k * 4 + 1, none⟩ (.slice Ac p.f1.length cc)).setCell ⟨B1, k * 4 + 2, none⟩ (.slice Ae p.f2.length ce)).heap[q]? = yc.heap[q]? := fun q hq => (Below.heap_setCell _ _ _ _ hq).trans (Below.heap_setCell _ _ _ _ hq)
      have hszz : ((yc.setCell ⟨B1, k * 4 + 1, none⟩ (.slice Ac p.f1.length cc)).setCell ⟨B1, k * 4 + 2, none⟩ (.slice Ae p.f2.length ce)).heap.size = yc.heap.size := by simp [World.setCell]
      have hszr : wr.heap.size ≤ yc.heap.size := by omega
      have hgpe := HGPE.out
      have HBz := m0_ (show Below W.heap.size W ((yc.setCell ⟨B1, k * 4 + 1, none⟩ (.slice Ac p.f1.length cc)).setCell ⟨B1, k * 4 + 2, none⟩ (.slice Ae p.f2.length ce)) from ((below_step HBr.out HBc.out).setCell (p := ⟨B1, k * 4 + 1, none⟩) (by show W.heap.size ≤ B1; omega) _).setCell (p := ⟨B1, k * 4 + 2, none⟩) (by show W.heap.size ≤ B1; omega) _)
      have hoth2 : ∀ q, q ≠ B1 → q < wr.heap.size → ((yc.setCell ⟨B1, k * 4 + 1, none⟩ (.slice Ac p.f1.length cc)).setCell ⟨B1, k * 4 + 2, none⟩ (.slice Ae p.f2.length ce)).heap[q]? = wr.heap[q]? := fun q hq hl => (hoth q hq).trans (HBc.out.block q hl)
      have HFa := m0_ (Kd.F_step (W1 := ((yc.setCell ⟨B1, k * 4 + 1, none⟩ (.slice Ac p.f1.length cc)).setCell ⟨B1, k * 4 + 2, none⟩ (.slice Ae p.f2.length ce))) (Kd.R_F (Kd.R_mono (ok' := fun q => ya.heap.size ≤ q) (Kd.R_bound HVa2.out) (fun q hq => hq.2.1))) (fun q hq _ => hoth q (by omega)))
      have HFb := m0_ (Kd.F_step (W1 := ((yc.setCell ⟨B1, k * 4 + 1, none⟩ (.slice Ac p.f1.length cc)).setCell ⟨B1, k * 4 + 2, none⟩ (.slice Ae p.f2.length ce))) (Kd.R_F (Kd.R_mono (ok' := fun q => yb.heap.size ≤ q) (Kd.R_bound HVb.out) (fun q hq => hq.2.1))) (fun q hq _ => hoth q (by omega)))
      have HLa2 := m0_ (Kd.R_reads' HVa.out).2.1
      have HLb2 := m0_ (Kd.R_reads' HVb.out).2.1
      have HNEW := m0_ (show RowSt k57 57 ((yc.setCell ⟨B1, k * 4 + 1, none⟩ (.slice Ac p.f1.length cc)).setCell ⟨B1, k * 4 + 2, none⟩ (.slice Ae p.f2.length ce)) (some ⟨B1, 0, none⟩) x.f3 (k + 1) B1 (fun q => gp < q ∧ q ≠ B1 ∧ q ≠ B2) (fun q => (q < w.heap.size ∨ wa.heap.size ≤ q) ∧ q ≠ B1) from fun _ => by
        refine ⟨rfl, by omega, (cur.set (k * 4 + 1) (.slice Ac p.f1.length cc)).set (k * 4 + 2) (.slice Ae p.f2.length ce), ?_, ?_, fun j q hj => ?_⟩
        · have := HCe.out; simpa using this
        · show x.f3.length * 4 ≤ _; rw [List.length_set, List.length_set]; exact HCL.out
        · have hold := HE.out j q hj
          have hck : ((((cur.set (k * 4 + 1) (.slice Ac p.f1.length cc)).set (k * 4 + 2) (.slice Ae p.f2.length ce)).drop (j * 4)).take 4) = if j = k then [.int .i64 p.f0, .slice Ac p.f1.length cc, .slice Ae p.f2.length ce, .bool p.f3] else (cur.drop (j * 4)).take 4 := by
            rw [chunk_set _ 4 k j 2 _ (by decide), chunk_set cur 4 k j 1 _ (by decide)]
            by_cases e : j = k
            · subst e; rw [if_pos rfl, if_pos rfl, if_pos rfl, HCH.out]; rfl
            · rw [if_neg e, if_neg e, if_neg e]
          refine ⟨fun hjk => ?_, fun hjk => ?_⟩
          · show Kd.FK _ _ _ _ ((((cur.set (k * 4 + 1) (.slice Ac p.f1.length cc)).set (k * 4 + 2) (.slice Ae p.f2.length ce)).drop (j * 4)).take 4)
            rw [hck]
            by_cases e : j = k
            · subst e
              have hqp : q = p := sO_ (hj.symm.trans HP.out)
              subst hqp
              rw [if_pos rfl]
              exact k57_mkF _ _ _ HLa2.out (Kd.F_mono HFa.out (fun z hz => by omega)) HLb2.out (Kd.F_mono HFb.out (fun z hz => by omega))
            · rw [if_neg e]
              exact Kd.FK_step (hold.1 (by omega)) (fun z hz hl => hoth2 z (by omega) hl)
          · show Kd.FK _ _ _ _ ((((cur.set (k * 4 + 1) (.slice Ac p.f1.length cc)).set (k * 4 + 2) (.slice Ae p.f2.length ce)).drop (j * 4)).take 4)
            rw [hck, if_neg (by omega)]
            exact Kd.FK_step (hold.2 (by omega)) (fun z hz hl => hoth2 z (by have := hz.2; omega) hl))
      have HOT := m0_ (show RowSt k59 59 ((yc.setCell ⟨B1, k * 4 + 1, none⟩ (.slice Ac p.f1.length cc)).setCell ⟨B1, k * 4 + 2, none⟩ (.slice Ae p.f2.length ce)) Aw x.f4 0 B2 (fun q => gp < q ∧ q ≠ B2) (fun q => (q < w.heap.size ∨ wb.heap.size ≤ q) ∧ q ≠ B2) from HO.out.step (by omega) (fun hn hl => hoth2 B2 (by have := hB2 hn; omega) hl) (fun q hq => absurd hq (Nat.not_lt_zero _)) (fun q hn hq hl => hoth2 q (by have := hB2 hn; omega) hl))
      have HZ2 := m0_ (show wc.heap.size ≤ ((yc.setCell ⟨B1, k * 4 + 1, none⟩ (.slice Ac p.f1.length cc)).setCell ⟨B1, k * 4 + 2, none⟩ (.slice Ae p.f2.length ce)).heap.size by omega)
      have hmeas := meas_stepK x.f3.length k hlt
      gi_wp2
      go_roundw
      case rel => exact ⟨k + 1, hlt, by go_num, HGe, HBz, HNEW, HOT, HZ2⟩
      case measure => exact hmeas
    · obtain rfl : k = x.f3.length := by omega
      have HF3 := m0_ (show Kd.F k57 wr (fun q => gp < q ∧ q ≠ B2) Ar x.f3.length x.f3 from F_of_block hm3 (fun hn => by
        obtain ⟨hA, hBl, cur, h1, h2, h3⟩ := HRr.out hn
        have hb1 := hB1 hn
        exact ⟨B1, cur, hA, h1, ⟨by omega, by omega⟩, h2, fun j q hj => Kd.FK_mono ((h3 j q hj).1 (List.getElem?_eq_some_iff.1 hj).1) (fun z hz => ⟨hz.1, hz.2.2⟩)⟩))
      obtain ⟨wf, rfl⟩ : ∃ wf : World, wf = wr := ⟨_, rfl⟩
      have HGf := HG
      have HBf := HBr
      have HS2f := HO
      have hc4 : wf.cell? ⟨gp, 4, none⟩ = some (.slice Aw x.f4.length cw) := (blk_cell HGf.out 4).trans rfl
      clear HG HBr HO HRr hk hc3
      gi_wp2_with fail
      gi_loopw [50] (fun v_ wr => ∃ k : Nat, k ≤ x.f4.length ∧ v_ = .int .i64 k ∧ Aside0 (wr.heap[gp]? = some (.cells #[.int .i64 x.f0, .int .i64 x.f1, .bool x.f2, .slice Ar x.f3.length cr, .slice Aw x.f4.length cw, .bool x.f5] 50 (0, 0))) ∧ Aside0 (Below W.heap.size W wr) ∧ Aside0 (RowSt k59 59 wr Aw x.f4 k B2 (fun q => gp < q ∧ q ≠ B2) (fun q => (q < w.heap.size ∨ wb.heap.size ≤ q) ∧ q ≠ B2)) ∧ Aside0 (Kd.F k57 wr (fun q => gp < q ∧ q ≠ B2) Ar x.f3.length x.f3) ∧ Aside0 (wc.heap.size ≤ wr.heap.size)) (fun v_ _ => x.f4.length - (intOf v_).toNat)
      case atStart => exact ⟨0, Nat.zero_le _, rfl, HGf, HBf, HS2f, HF3, ⟨by omega⟩⟩
      case round =>
        obtain ⟨k, hk, rfl, HG, HBr, HRr, HO, HZ⟩ := hrel
        have hz : wc.heap.size ≤ wr.heap.size := HZ.out
        by_cases hlt : k < x.f4.length
        · obtain ⟨hAr, hBl, cur, hcur, hcl, hE⟩ := HRr.out (by omega)
          subst hAr
          have hBB := hB2 (by omega)
          obtain ⟨p, hp⟩ : ∃ p, x.f4[k]? = some p := ⟨_, List.getElem?_eq_getElem hlt⟩
          obtain ⟨Aa, ca, Ab, cb, hch, hla, hFa, hlb, hFb⟩ := k59_openF ((hE k p hp).2 (Nat.le_refl _))
          have hch' : (cur.drop (k * 4)).take 4 = [.int .i64 p.f0, .slice Aa p.f1.length ca, .bool p.f2, .slice Ab p.f3.length cb] := hch
          have hcl' : x.f4.length * 4 ≤ cur.length := hcl
          have hx0 : wr.cell? ⟨B2, k * 4, none⟩ = some (.int .i64 p.f0) := by
            rw [blk_cell hcur]; have := chunk_at (cur := cur) (k := k) (show 0 < 4 by decide); rw [hch'] at this; simpa using this
          have hx1 : wr.cell? ⟨B2, k * 4 + 1, none⟩ = some (.slice Aa p.f1.length ca) := by
            rw [blk_cell hcur]; have := chunk_at (cur := cur) (k := k) (show 1 < 4 by decide); rw [hch'] at this; simpa using this
          have hx2 : wr.cell? ⟨B2, k * 4 + 2, none⟩ = some (.bool p.f2) := by
            rw [blk_cell hcur]; have := chunk_at (cur := cur) (k := k) (show 2 < 4 by decide); rw [hch'] at this; simpa using this
          have hx3 : wr.cell? ⟨B2, k * 4 + 3, none⟩ = some (.slice Ab p.f3.length cb) := by
            rw [blk_cell hcur]; have := chunk_at (cur := cur) (k := k) (show 3 < 4 by decide); rw [hch'] at this; simpa using this
          have hsmall := HS4.out p (List.mem_of_getElem? hp)
          unfold okWr at hsmall
          simp only [Bool.and_eq_true, decide_eq_true_eq] at hsmall
          have HCa := m0_ (show bytes_Clone.f p.f1 = some p.f1 by unfold bytes_Clone.f; rw [if_pos hsmall.1])
          have HCb := m0_ (show bytes_Clone.f p.f3 = some p.f3 by unfold bytes_Clone.f; rw [if_pos hsmall.2])
          have HP := m0_ hp
          have HCH := m0_ hch'
          have HE := m0_ hE
          have HCUR := m0_ hcur
          have HCL := m0_ hcl'
          have HRa := m0_ (Kd.F_now hFa)
          have HRb := m0_ (Kd.F_now hFb)
          have HLa := m0_ hla
          have HLb := m0_ hlb
          have hgl : gp < wr.heap.size := by omega
          clear hp hch hch' hE hcl hcl' hFa hFb hla hlb hsmall
          gi_wp2_with fail
          obtain ⟨gx, hgx⟩ : ∃ gx, gx = wr.heap.size := ⟨_, rfl⟩
          obtain ⟨Wy, hWy⟩ : ∃ Wy, Wy = wr.alloc (.cells #[.int .i64 p.f0, .slice Aa p.f1.length ca, .bool p.f2, .slice Ab p.f3.length cb] 59 (0, 0)) := ⟨_, rfl⟩
          have HBy := m0_ (show Below wr.heap.size wr Wy by rw [hWy]; exact bA_ (Below.refl _ _) _)
          have hX : Wy.heap[gx]? = some (.cells #[.int .i64 p.f0, .slice Aa p.f1.length ca, .bool p.f2, .slice Ab p.f3.length cb] 59 (0, 0)) := by rw [hWy, hgx]; exact heap_alloc_new wr _
          have HGY := m0_ ((HBy.out.block _ hgl).trans HG.out)
          have HCY := m0_ ((HBy.out.block _ hBl).trans HCUR.out)
          have hszy : gx < Wy.heap.size := blk_lt hX
          have HGX := m0_ hgx
          have hgxl : wr.heap.size ≤ gx := by omega
          rw [← hWy, ← hgx]
          clear hWy hgx hx0 hx1 hx2 hx3 hcur
          have HX := m0_ hX
          have hq0 : Wy.cell? ⟨gp, 4, none⟩ = some (.slice (some ⟨B2, 0, none⟩) x.f4.length cw) := (blk_cell HGY.out 4).trans rfl
          have hq1 : Wy.cell? ⟨gx, 1, none⟩ = some (.slice Aa p.f1.length ca) := (blk_cell hX 1).trans rfl
          have hq2 : Wy.cell? ⟨gx, 3, none⟩ = some (.slice Ab p.f3.length cb) := (blk_cell hX 3).trans rfl
          clear hX
          have hp1 : (0 ≤ (k : Int)) = True := eq_true (by omega)
          have hp2 : ((k : Int) < (x.f4.length : Int)) = True := eq_true (by omega)
          refine startIn_ (n := 18) (S := fun w' => w'.cell? ⟨gp, 4, none⟩ = some (.slice (some ⟨B2, 0, none⟩) x.f4.length cw) ∧ w'.cell? ⟨gx, 1, none⟩ = some (.slice Aa p.f1.length ca) ∧ w'.cell? ⟨gx, 3, none⟩ = some (.slice Ab p.f3.length cb)) (ds := [17]) #[false, false, false, false, false, false, false, false, false, false, false, false, false, false, false, false, false, false] (by kernel_rfl) (by rintro ⟨a_, w_, h_⟩; exact nomatch h_.1) (by kernel_rfl) rfl rfl ⟨hq0, hq1, hq2⟩ (fun hHeld => ?_)
          clear hq0 hq1 hq2
          have HGa := m0_ (show Wy.drew.heap[gp]? = some (.cells #[.int .i64 x.f0, .int .i64 x.f1, .bool x.f2, .slice Ar x.f3.length cr, .slice (some ⟨B2, 0, none⟩) x.f4.length cw, .bool x.f5] 50 (0, 0)) from HGY.out)
          have HCa0 := m0_ (show Wy.drew.heap[B2]? = some (.cells cur.toArray 59 (0, 0)) from HCY.out)
          have HXa := m0_ (show Wy.drew.heap[gx]? = some (.cells #[.int .i64 p.f0, .slice Aa p.f1.length ca, .bool p.f2, .slice Ab p.f3.length cb] 59 (0, 0)) from HX.out)
          have HBa := m0_ (b1_ HBy.out)
          have hsza : gx < Wy.drew.heap.size := hszy
          clear HGY HCY HX HBy hszy
          generalize Wy.drew = ya at HGa HCa0 HXa HBa hsza hHeld ⊢
          refine pure_ (i := 0) (N := some 55) (v := ?_) (a' := ?_) #[true, false, false, false, false, false, false, false, false, false, false, false, false, false, false, false, false, false] rfl rfl (by kernel_rfl) (fun _ _ _ h => h) (Or.inl ⟨by rfl, ?_⟩) ?_ ?_
          rotate_left
          · intro w'
            go_simp
            with_reducible rfl
          rotate_left
          · simp only [Act.put, sI_, sZ_, sS_, i64_w, i32_w]
            rfl
          refine take_ (i := 1) (N := some 56) (v := ?_) (a' := ?_) #[true, true, false, false, false, false, false, false, false, false, false, false, false, false, false, false, false, false] rfl rfl (by kernel_rfl) (fun _ _ _ h => h) (Or.inl ⟨by rfl, ?_⟩) hHeld ?_ ?_
          rotate_left
          · rintro w' ⟨s0, s1, s2⟩
            go_simp
            with_reducible rfl
          rotate_left
          · simp only [Act.put, sI_, sZ_, sS_, i64_w, i32_w]
            rfl
          refine pure_ (i := 2) (N := some 57) (v := ?_) (a' := ?_) #[true, true, true, false, false, false, false, false, false, false, false, false, false, false, false, false, false, false] rfl rfl (by kernel_rfl) (fun _ _ _ h => h) (Or.inl ⟨by rfl, ?_⟩) ?_ ?_
          rotate_left
          · intro w'
            go_simp
            with_reducible rfl
          rotate_left
          · simp only [Act.put, sI_, sZ_, sS_, i64_w, i32_w]
            rfl
          refine pure_ (i := 3) (N := some 58) (v := ?_) (a' := ?_) #[true, true, true, true, false, false, false, false, false, false, false, false, false, false, false, false, false, false] rfl rfl (by kernel_rfl) (fun _ _ _ h => h) (Or.inl ⟨by rfl, ?_⟩) ?_ ?_
          rotate_left
          · intro w'
            go_simp
            with_reducible rfl
          rotate_left
          · simp only [Act.put, sI_, sZ_, sS_, i64_w, i32_w]
            rfl
          refine take_ (i := 4) (N := some 59) (v := ?_) (a' := ?_) #[true, true, true, true, true, false, false, false, false, false, false, false, false, false, false, false, false, false] rfl rfl (by kernel_rfl) (fun _ _ _ h => h) (Or.inl ⟨by rfl, ?_⟩) hHeld ?_ ?_
          rotate_left
          · rintro w' ⟨s0, s1, s2⟩
            go_simp
            with_reducible rfl
          rotate_left
          · simp only [Act.put, sI_, sZ_, sS_, i64_w, i32_w]
            rfl
          refine pure_ (i := 5) (N := some 60) (v := ?_) (a' := ?_) #[true, true, true, true, true, true, false, false, false, false, false, false, false, false, false, false, false, false] rfl rfl (by kernel_rfl) (fun _ _ _ h => h) (Or.inl ⟨by rfl, ?_⟩) ?_ ?_
          rotate_left
          · intro w'
            go_simp
            with_reducible rfl
          rotate_left
          · simp only [Act.put, sI_, sZ_, sS_, i64_w, i32_w]
            rfl
          refine pure_ (i := 6) (N := some 61) (v := ?_) (a' := ?_) #[true, true, true, true, true, true, true, false, false, false, false, false, false, false, false, false, false, false] rfl rfl (by kernel_rfl) (fun _ _ _ h => h) (Or.inl ⟨by rfl, ?_⟩) ?_ ?_
          rotate_left
          · intro w'
            go_simp
            with_reducible rfl
          rotate_left
          · simp only [Act.put, sI_, sZ_, sS_, i64_w, i32_w]
            rfl
          refine take_ (i := 7) (N := some 62) (v := ?_) (a' := ?_) #[true, true, true, true, true, true, true, true, false, false, false, false, false, false, false, false, false, false] rfl rfl (by kernel_rfl) (fun _ _ _ h => h) (Or.inl ⟨by rfl, ?_⟩) hHeld ?_ ?_
          rotate_left
          · rintro w' ⟨s0, s1, s2⟩
            go_simp
            with_reducible rfl
          rotate_left
          · simp only [Act.put, sI_, sZ_, sS_, i64_w, i32_w]
            rfl
          refine pure_ (i := 9) (N := some 64) (v := ?_) (a' := ?_) #[true, true, true, true, true, true, true, true, false, true, false, false, false, false, false, false, false, false] rfl rfl (by kernel_rfl) (fun _ _ _ h => h) (Or.inl ⟨by rfl, ?_⟩) ?_ ?_
          rotate_left
          · intro w'
            go_simp
            with_reducible rfl
          rotate_left
          · simp only [Act.put, sI_, sZ_, sS_, i64_w, i32_w]
            rfl
          refine take_ (i := 10) (N := some 65) (v := ?_) (a' := ?_) #[true, true, true, true, true, true, true, true, false, true, true, false, false, false, false, false, false, false] rfl rfl (by kernel_rfl) (fun _ _ _ h => h) (Or.inl ⟨by rfl, ?_⟩) hHeld ?_ ?_
          rotate_left
          · rintro w' ⟨s0, s1, s2⟩
            go_simp
            with_reducible rfl
          rotate_left
          · simp only [Act.put, sI_, sZ_, sS_, i64_w, i32_w]
            rfl
          refine one_ (i := 8) (N := some 63) #[true, true, true, true, true, true, true, true, true, true, true, false, false, false, false, false, false, false] rfl rfl (by kernel_rfl) (by decide) (fun K hK => ?_)
          refine goes_ Try.func52 (by kernel_rfl) rfl #[.slice Aa p.f1.length ca] (by rfl) rfl rfl (by (try simp only [mT_, mC_, mN_]); first | done | rfl) ?_
          refine (bytes_Clone.calls Aa ca p.f1 p.f1 ya (kB_ HRa.out HBa.out) HLa.out HCa.out).mono ?_
          rintro e yb ⟨v, rfl, hva, hba⟩
          have HGb := m0_ ((hba.block _ (by omega)).trans HGa.out)
          have HCb0 := m0_ ((hba.block _ (by omega)).trans HCa0.out)
          have HXb := m0_ ((hba.block _ (by omega)).trans HXa.out)
          refine ⟨_, rfl, ?_⟩
          refine hK.out _ _ ⟨(blk_cell HGb.out 4).trans rfl, (blk_cell HXb.out 1).trans rfl, (blk_cell HXb.out 3).trans rfl⟩ (fun hHeld => ?_)
          clear hK K
          refine norm_ (a' := ?_) ?_ ?_
          rotate_left
          · show Act.put _ (some 63) _ = _
            simp only [Act.put, sI_, sZ_, sS_, i64_w, i32_w]
            rfl
          obtain ⟨Ac, cc, rfl⟩ := Kd.R_slice hva
          have HVa := m0_ hva
          have HBb := m0_ (below_step HBa.out hba)
          have hszb : ya.heap.size ≤ yb.heap.size := hba.size
          clear hva hba
          refine one_ (i := 11) (N := some 66) #[true, true, true, true, true, true, true, true, true, true, true, true, false, false, false, false, false, false] rfl rfl (by kernel_rfl) (by decide) (fun K hK => ?_)
          refine goes_ Try.func52 (by kernel_rfl) rfl #[.slice Ab p.f3.length cb] (by rfl) rfl rfl (by (try simp only [mT_, mC_, mN_]); first | done | rfl) ?_
          refine (bytes_Clone.calls Ab cb p.f3 p.f3 yb (kB_ HRb.out HBb.out) HLb.out HCb.out).mono ?_
          rintro e yc ⟨v, rfl, hvb, hbb⟩
          have HGc := m0_ ((hbb.block _ (by omega)).trans HGb.out)
          have HCc0 := m0_ ((hbb.block _ (by omega)).trans HCb0.out)
          have HXc := m0_ ((hbb.block _ (by omega)).trans HXb.out)
          refine ⟨_, rfl, ?_⟩
          refine hK.out _ _ ⟨(blk_cell HGc.out 4).trans rfl, (blk_cell HXc.out 1).trans rfl, (blk_cell HXc.out 3).trans rfl⟩ (fun hHeld => ?_)
          clear hK K
          refine norm_ (a' := ?_) ?_ ?_
          rotate_left
          · show Act.put _ (some 66) _ = _
            simp only [Act.put, sI_, sZ_, sS_, i64_w, i32_w]
            rfl
          obtain ⟨Ae, ce, rfl⟩ := Kd.R_slice hvb
          have HVb := m0_ hvb
          have HBc := m0_ (below_step HBb.out hbb)
          have HVa2 := m0_ (Kd.R_below HVa.out hbb)
          have hszc : yb.heap.size ≤ yc.heap.size := hbb.size
          clear hvb hbb
          have hlen4 : k * 4 + 4 ≤ cur.length := by have := HCL.out; omega
          have hga : yc.cell? ⟨B2, k * 4 + 1, none⟩ = some (.slice Aa p.f1.length ca) := by
            rw [blk_cell HCc0.out]; have := chunk_at (cur := cur) (k := k) (show 1 < 4 by decide); rw [HCH.out] at this; simpa using this
          have hgb : yc.cell? ⟨B2, k * 4 + 3, none⟩ = some (.slice Ab p.f3.length cb) := by
            rw [blk_cell HCc0.out]; have := chunk_at (cur := cur) (k := k) (show 3 < 4 by decide); rw [HCH.out] at this; simpa using this
          have hfa := bf_ HCc0.out (k * 4 + 1)
          have hfb := bf_ HCc0.out (k * 4 + 3)
          have hne1 : gp ≠ B2 := by omega
          have hne2 : gx ≠ B2 := by omega
          refine pure_ (i := 12) (N := some 67) (v := ?_) (a' := ?_) #[true, true, true, true, true, true, true, true, true, true, true, true, true, false, false, false, false, false] rfl rfl (by kernel_rfl) (fun _ _ _ h => h) (Or.inl ⟨by rfl, ?_⟩) ?_ ?_
          rotate_left
          · intro w'
            go_simp
            with_reducible rfl
          rotate_left
          · simp only [Act.put, sI_, sZ_, sS_, i64_w, i32_w]
            rfl
          refine pure_ (i := 13) (N := some 68) (v := ?_) (a' := ?_) #[true, true, true, true, true, true, true, true, true, true, true, true, true, true, false, false, false, false] rfl rfl (by kernel_rfl) (fun _ _ _ h => h) (Or.inl ⟨by rfl, ?_⟩) ?_ ?_
          rotate_left
          · intro w'
            go_simp
            with_reducible rfl
          rotate_left
          · simp only [Act.put, sI_, sZ_, sS_, i64_w, i32_w]
            rfl
          refine one_ (i := 14) (N := none) #[true, true, true, true, true, true, true, true, true, true, true, true, true, true, true, false, false, false] rfl rfl (by kernel_rfl) (by decide) (fun K hK => ?_)
          refine skip_ (w1 := ?_) (by rfl) rfl ?_ ?_
          rotate_left
          · go_simp
            rfl
          refine hK.out _ _ ⟨(blk_cell (blk_far HGc.out (p := ⟨B2, k * 4 + 1, none⟩) hne1 _) 4).trans rfl, (blk_cell (blk_far HXc.out (p := ⟨B2, k * 4 + 1, none⟩) hne2 _) 1).trans rfl, (blk_cell (blk_far HXc.out (p := ⟨B2, k * 4 + 1, none⟩) hne2 _) 3).trans rfl⟩ (fun hHeld => ?_)
          clear hK K
          have HCd := m0_ (blk_set HCc0.out (k * 4 + 1) (.slice Ac p.f1.length cc))
          have hfb2 := bf_ HCd.out (k * 4 + 3)
          have hgb2 : (yc.setCell ⟨B2, k * 4 + 1, none⟩ (.slice Ac p.f1.length cc)).cell? ⟨B2, k * 4 + 3, none⟩ = some (.slice Ab p.f3.length cb) := by
            rw [blk_cell HCd.out, Array.getElem?_setIfInBounds_ne (by omega), ← blk_cell HCc0.out]; exact hgb
          refine pure_ (i := 15) (N := some 69) (v := ?_) (a' := ?_) #[true, true, true, true, true, true, true, true, true, true, true, true, true, true, true, true, false, false] rfl rfl (by kernel_rfl) (fun _ _ _ h => h) (Or.inl ⟨by rfl, ?_⟩) ?_ ?_
          rotate_left
          · intro w'
            go_simp
            with_reducible rfl
          rotate_left
          · simp only [Act.put, sI_, sZ_, sS_, i64_w, i32_w]
            rfl
          refine pure_ (i := 16) (N := some 70) (v := ?_) (a' := ?_) #[true, true, true, true, true, true, true, true, true, true, true, true, true, true, true, true, true, false] rfl rfl (by kernel_rfl) (fun _ _ _ h => h) (Or.inl ⟨by rfl, ?_⟩) ?_ ?_
          rotate_left
          · intro w'
            go_simp
            with_reducible rfl
          rotate_left
          · simp only [Act.put, sI_, sZ_, sS_, i64_w, i32_w]
            rfl
          refine last_ (i := 17) (N := none) #[true, true, true, true, true, true, true, true, true, true, true, true, true, true, true, true, true, true] rfl rfl (by kernel_rfl) (by decide) (fun K hK => ?_)
          refine skip_ (w1 := ?_) (by rfl) rfl ?_ ?_
          rotate_left
          · go_simp
            rfl
          refine hK.out _ _ ?_
          clear hK K
          refine done_ (by kernel_rfl) ?_
          have HCe := m0_ (blk_set HCd.out (k * 4 + 3) (.slice Ae p.f3.length ce))
          have HGe := m0_ (blk_far (blk_far HGc.out (p := ⟨B2, k * 4 + 1, none⟩) hne1 (.slice Ac p.f1.length cc)) (p := ⟨B2, k * 4 + 3, none⟩) hne1 (.slice Ae p.f3.length ce))
          have hoth : ∀ q, q ≠ B2 → ((yc.setCell ⟨B2, k * 4 + 1, none⟩ (.slice Ac p.f1.length cc)).setCell ⟨B2, k * 4 + 3, none⟩ (.slice Ae p.f3.length ce)).heap[q]? = yc.heap[q]? := fun q hq => (Below.heap_setCell _ _ _ _ hq).trans (Below.heap_setCell _ _ _ _ hq)
          have hszz : ((yc.setCell ⟨B2, k * 4 + 1, none⟩ (.slice Ac p.f1.length cc)).setCell ⟨B2, k * 4 + 3, none⟩ (.slice Ae p.f3.length ce)).heap.size = yc.heap.size := by simp [World.setCell]
          have hszr : wr.heap.size ≤ yc.heap.size := by omega
          have hgpe := HGPE.out
          have HBz := m0_ (show Below W.heap.size W ((yc.setCell ⟨B2, k * 4 + 1, none⟩ (.slice Ac p.f1.length cc)).setCell ⟨B2, k * 4 + 3, none⟩ (.slice Ae p.f3.length ce)) from ((below_step HBr.out HBc.out).setCell (p := ⟨B2, k * 4 + 1, none⟩) (by show W.heap.size ≤ B2; omega) _).setCell (p := ⟨B2, k * 4 + 3, none⟩) (by show W.heap.size ≤ B2; omega) _)
          have hoth2 : ∀ q, q ≠ B2 → q < wr.heap.size → ((yc.setCell ⟨B2, k * 4 + 1, none⟩ (.slice Ac p.f1.length cc)).setCell ⟨B2, k * 4 + 3, none⟩ (.slice Ae p.f3.length ce)).heap[q]? = wr.heap[q]? := fun q hq hl => (hoth q hq).trans (HBc.out.block q hl)
          have HFa := m0_ (Kd.F_step (W1 := ((yc.setCell ⟨B2, k * 4 + 1, none⟩ (.slice Ac p.f1.length cc)).setCell ⟨B2, k * 4 + 3, none⟩ (.slice Ae p.f3.length ce))) (Kd.R_F (Kd.R_mono (ok' := fun q => ya.heap.size ≤ q) (Kd.R_bound HVa2.out) (fun q hq => hq.2.1))) (fun q hq _ => hoth q (by omega)))
          have HFb := m0_ (Kd.F_step (W1 := ((yc.setCell ⟨B2, k * 4 + 1, none⟩ (.slice Ac p.f1.length cc)).setCell ⟨B2, k * 4 + 3, none⟩ (.slice Ae p.f3.length ce))) (Kd.R_F (Kd.R_mono (ok' := fun q => yb.heap.size ≤ q) (Kd.R_bound HVb.out) (fun q hq => hq.2.1))) (fun q hq _ => hoth q (by omega)))
          have HLa2 := m0_ (Kd.R_reads' HVa.out).2.1
          have HLb2 := m0_ (Kd.R_reads' HVb.out).2.1
          have HNEW := m0_ (show RowSt k59 59 ((yc.setCell ⟨B2, k * 4 + 1, none⟩ (.slice Ac p.f1.length cc)).setCell ⟨B2, k * 4 + 3, none⟩ (.slice Ae p.f3.length ce)) (some ⟨B2, 0, none⟩) x.f4 (k + 1) B2 (fun q => gp < q ∧ q ≠ B2) (fun q => (q < w.heap.size ∨ wb.heap.size ≤ q) ∧ q ≠ B2) from fun _ => by
            refine ⟨rfl, by omega, (cur.set (k * 4 + 1) (.slice Ac p.f1.length cc)).set (k * 4 + 3) (.slice Ae p.f3.length ce), ?_, ?_, fun j q hj => ?_⟩
            · have := HCe.out; simpa using this
            · show x.f4.length * 4 ≤ _; rw [List.length_set, List.length_set]; exact HCL.out
            · have hold := HE.out j q hj
              have hck : ((((cur.set (k * 4 + 1) (.slice Ac p.f1.length cc)).set (k * 4 + 3) (.slice Ae p.f3.length ce)).drop (j * 4)).take 4) = if j = k then [.int .i64 p.f0, .slice Ac p.f1.length cc, .bool p.f2, .slice Ae p.f3.length ce] else (cur.drop (j * 4)).take 4 := by
                rw [chunk_set _ 4 k j 3 _ (by decide), chunk_set cur 4 k j 1 _ (by decide)]
                by_cases e : j = k
                · subst e; rw [if_pos rfl, if_pos rfl, if_pos rfl, HCH.out]; rfl
                · rw [if_neg e, if_neg e, if_neg e]
              refine ⟨fun hjk => ?_, fun hjk => ?_⟩
              · show Kd.FK _ _ _ _ ((((cur.set (k * 4 + 1) (.slice Ac p.f1.length cc)).set (k * 4 + 3) (.slice Ae p.f3.length ce)).drop (j * 4)).take 4)
                rw [hck]
                by_cases e : j = k
                · subst e
                  have hqp : q = p := sO_ (hj.symm.trans HP.out)
                  subst hqp
                  rw [if_pos rfl]
                  exact k59_mkF _ _ _ HLa2.out (Kd.F_mono HFa.out (fun z hz => by omega)) HLb2.out (Kd.F_mono HFb.out (fun z hz => by omega))
                · rw [if_neg e]
                  exact Kd.FK_step (hold.1 (by omega)) (fun z hz hl => hoth2 z (by omega) hl)
              · show Kd.FK _ _ _ _ ((((cur.set (k * 4 + 1) (.slice Ac p.f1.length cc)).set (k * 4 + 3) (.slice Ae p.f3.length ce)).drop (j * 4)).take 4)
                rw [hck, if_neg (by omega)]
                exact Kd.FK_step (hold.2 (by omega)) (fun z hz hl => hoth2 z (by have := hz.2; omega) hl))
          have HOT := m0_ (show Kd.F k57 ((yc.setCell ⟨B2, k * 4 + 1, none⟩ (.slice Ac p.f1.length cc)).setCell ⟨B2, k * 4 + 3, none⟩ (.slice Ae p.f3.length ce)) (fun q => gp < q ∧ q ≠ B2) Ar x.f3.length x.f3 from Kd.F_step HO.out (fun q hq hl => hoth2 q hq.2 hl))
          have HZ2 := m0_ (show wc.heap.size ≤ ((yc.setCell ⟨B2, k * 4 + 1, none⟩ (.slice Ac p.f1.length cc)).setCell ⟨B2, k * 4 + 3, none⟩ (.slice Ae p.f3.length ce)).heap.size by omega)
          have hmeas := meas_stepK x.f4.length k hlt
          gi_wp2
          go_roundw
          case rel => exact ⟨k + 1, hlt, by go_num, HGe, HBz, HNEW, HOT, HZ2⟩
          case measure => exact hmeas
        · obtain rfl : k = x.f4.length := by omega
          have HF4 := m0_ (show Kd.F k59 wr (fun q => gp < q) Aw x.f4.length x.f4 from F_of_block hm4 (fun hn => by
            obtain ⟨hA, hBl, cur, h1, h2, h3⟩ := HRr.out hn
            have hb1 := hB2 hn
            exact ⟨B2, cur, hA, h1, (by omega), h2, fun j q hj => Kd.FK_mono ((h3 j q hj).1 (List.getElem?_eq_some_iff.1 hj).1) (fun z hz => hz.1)⟩))
          clear hc4
          obtain ⟨⟨v, hv, hN⟩, hb1_, hb2_, hB_, hs5_⟩ := HI.out
          have hown0 := fun k hk => Kd.N_lt hN k hk
          have hv' := (HBr.out.block _ hv.lt).trans hv
          have hN' := Kd.N_below hN HBr.out
          obtain ⟨Av, cv, rfl⟩ := Kd.N_slice hN'
          obtain ⟨inner, hrow, hpush⟩ := N_pushS hN' (fun k hk => by have := HBr.out.size; omega)
          rw [List.length_map] at hrow hpush
          have HPU := m0_ hpush
          have HFK := m0_ (show Kd.FK k50 wr (fun q => gp < q) x [.int .i64 x.f0, .int .i64 x.f1, .bool x.f2, .slice Ar x.f3.length cr, .slice Aw x.f4.length cw, .bool x.f5] from k50_mkF _ _ x hcr (Kd.F_mono HO.out (fun q hq => hq.1)) hcw HF4.out)
          have hcb : wr.cell? ⟨w.heap.size, 0, none⟩ = some (.slice Av (pre.map fun x => x.1).length cv) := blk_cell hv' 0
          have hfb : wr.frozen? ⟨w.heap.size, 0, none⟩ = false := bf_ hv' 0
          rw [List.length_map] at hcb
          have hd0 : wr.cell? ⟨gp, 0, none⟩ = some (.int .i64 x.f0) := (blk_cell HG.out 0).trans rfl
          have hd1 : wr.cell? ⟨gp, 1, none⟩ = some (.int .i64 x.f1) := (blk_cell HG.out 1).trans rfl
          have hd2 : wr.cell? ⟨gp, 2, none⟩ = some (.bool x.f2) := (blk_cell HG.out 2).trans rfl
          have hd3 : wr.cell? ⟨gp, 3, none⟩ = some (.slice Ar x.f3.length cr) := (blk_cell HG.out 3).trans rfl
          have hd4 : wr.cell? ⟨gp, 4, none⟩ = some (.slice Aw x.f4.length cw) := (blk_cell HG.out 4).trans rfl
          have hd5 : wr.cell? ⟨gp, 5, none⟩ = some (.bool x.f5) := (blk_cell HG.out 5).trans rfl
          have HBs := m0_ (show Below w.heap.size w wr from HBW.out.trans (HBr.out.mono (by omega)))
          have hsB : w.heap.size ≤ wr.heap.size := HBs.out.size
          have HBr2 := m0_ (keepsOthers_of_below HBr.out)
          have hne : 26 ≠ 50 := by decide
          have hsN : ∀ j u, ([.int .i64 x.f0, .int .i64 x.f1, .bool x.f2, .slice Ar x.f3.length cr, .slice Aw x.f4.length cw, .bool x.f5] : List Value)[j]? = some u → (wr.alloc (.cells #[.int .i64 x.f0, .int .i64 x.f1, .bool x.f2, .slice Ar x.f3.length cr, .slice Aw x.f4.length cw, .bool x.f5] 50)).cell? ((⟨wr.heap.size, 0, none⟩ : Addr).add j) = some u := fun j u hj => by rw [add_plain, blk_cell (heap_alloc_new _ _)]; simpa using hj
          have HSN := m0_ hsN
          have HROW := m0_ (show wr.ownsRow w.heap.size 50 6 (.slice Av pre.length cv) pre.length inner from hrow)
          have HV := m0_ (show Boxed wr w.heap.size 26 (.slice Av pre.length cv) by rw [List.length_map] at hv'; exact hv')
          clear hpush hN' hsN hrow hv'
          gi_wp2_with ((gi_at_builtin; refine wpListIn_append_own_at _ rfl _ _ 26 rfl w.heap.size 50 i0 _ 6 80 Try.underlying26 hi hz0 hz1 hz2 rfl (by decide) (.slice Av pre.length cv) pre.length inner rfl (HROW.out.alloc _) ⟨wr.heap.size, 0, none⟩ 1 1 [.int .i64 x.f0, .int .i64 x.f1, .bool x.f2, .slice Ar x.f3.length cr, .slice Aw x.f4.length cw, .bool x.f5] rfl rfl HSN.out (by simp [Value.oneCell']) (by simp only [maxLen]; omega) (by omega) (by simp only [World.size_alloc]; omega) ?_; intro v' w5 hown' hgrow _ hat; obtain ⟨g', cap', rfl⟩ := ownsRow_succ hown'; obtain ⟨hv1, hv2, hr2, hk2, hb2⟩ := Boxed.appended HV.out hne HROW.out hsB (Nat.le_refl _) hown' hgrow; have hc1 := hv1.cell; have hf1 := hv1.frozen))
          have hgpe := HGPE.out
          have hkN : ∀ {B : Nat} {ty : TypeId} {u : Value}, B < w.heap.size + 5 → B ≠ w.heap.size → Boxed W B ty u → Boxed (w5.setCell ⟨w.heap.size, 0, none⟩ (.slice (some ⟨g', 0, none⟩) (pre.length + 1) cap')) B ty u := fun hB h1 h => (((show Boxed wr _ _ _ from (HBr.out.block _ h.lt).trans h).alloc _).kept hgrow (fun e => by have := hN.1 _ (show (Value.slice Av (pre.map fun x => x.1).length cv).ownBlock = _ from (by rw [List.length_map]; exact e.symm)); omega)).other h1 _
          have hNN := HPU.out (.cells #[.int .i64 x.f0, .int .i64 x.f1, .bool x.f2, .slice Ar x.f3.length cr, .slice Aw x.f4.length cw, .bool x.f5] 50) x _ _ _ w5 HFK.out (fun k hk => ⟨by omega, fun e => by have := hown0 k (show (Value.slice Av (pre.map fun x => x.1).length cv).ownBlock = _ from (by rw [List.length_map]; exact e.symm)); omega⟩) hown' hgrow hat
          have hsz9 := (HBr2.out.trans hk2).size
          refine ⟨HBr2.out.trans hk2, ⟨_, hv2, ?_⟩, hkN (by omega) (by omega) hb1_, hkN (by omega) (by omega) hb2_, HBs.out.trans hb2, by omega⟩
          rw [List.map_append]
          exact Kd.N_far hNN (p := ⟨w.heap.size, 0, none⟩) (fun k hk => by show k ≠ w.heap.size; omega) _
 case done =>
  rintro D xs W hD hS ⟨⟨v, hv, hN⟩, hB1, hB2, hB, hs6⟩ hK
  have hc := hv.cell
  have hf := hv.frozen
  obtain ⟨Av, cv, rfl⟩ := Kd.N_slice hN
  have hD2 : D = w.heap.size + 3 := by rw [hD]; simp only [World.size_alloc]
  have HN := m0_ hN
  have HV := m0_ hv
  rw [List.length_map] at hc
  clear hN hv
  gi_wp2
  have hK2 : (W.setCell ⟨w.heap.size, 0, none⟩ (.slice Av xs.length cv)).heap[D]? = some (.deferred (some [])) := (Below.heap_setCell _ _ _ _ (by show D ≠ w.heap.size; omega)).trans hK
  refine ⟨by simp, .inl ⟨_, _, rfl, run_takeDeferred hK2, ?_⟩⟩
  have hv2 := (HV.out.set (.slice Av xs.length cv)).kept (grownBy_putObj' _ D (.deferred none)) (fun e => by cases e; omega)
  have hB2' := (hB.setCell (p := ⟨w.heap.size, 0, none⟩) (by show w.heap.size ≤ w.heap.size; omega) (.slice Av xs.length cv))
  refine ⟨_, results_cell1 rfl _ _ w.heap.size _ _ rfl ((HV.out.set (.slice Av xs.length cv)).kept (grownBy_putObj' _ D _) (fun e => by cases e; omega)) Try.underlying26, _, rfl, ?_, hB2'.trans ((Below.refl _ _).grown (grownBy_putObj' _ D _) hB2'.size (fun k e => by cases e; omega))⟩
  have hN2 := Kd.N_far HN.out (p := ⟨w.heap.size, 0, none⟩) (fun k hk => by show k ≠ w.heap.size; omega) (.slice Av xs.length cv)
  have hNV := Kd.N_V (base' := w.heap.size) hN2
  rw [List.length_map] at hNV
  rw [← hS]
  exact Kd.V_mono (Kd.V_step hNV (fun k hk _ => World.putObj_heap_other (show k ≠ D by omega))) (fun k hk => by omega)
end
def rival_Meets.f (a0 : Int) (l1 : List (S50)) : Option ((List (S50))) := (reads_Keep.f l1 (([(⟨a0, ([] : List (S57))⟩ : S24)] : List (S24)))).bind fun t107 => (some t107)
set_option maxHeartbeats 8000000 in
set_option maxRecDepth 100000 in
theorem rival_Meets.calls (a0 : Int) (A1 : Option Addr) (c1 : Nat) (l1 : List (S50)) (r : List (S50)) (w : World) (hr1 : Kd.C k50 w A1 l1.length l1) (hc1 : l1.length ≤ c1) (h : rival_Meets.f a0 l1 = some r) :
  Calls Try.prog 15 #[.int .i64 a0, .slice A1 l1.length c1] w fun e w' => ∃ v0_ : Value, e = .returned (v0_) ∧ Kd.V k50 50 w' w.heap.size (fun k_ => (w.heap.size ≤ k_)) v0_ r ∧ Below w.heap.size w w' := by
 have hu24 := Try.underlying24
 have HR1 := m0_ hr1
 have HC1 := m0_ hc1
 clear hr1 hc1
 have HB := m0_ (Below.refl w.heap.size w)
 have H : ((reads_Keep.f l1 (([(⟨a0, ([] : List (S57))⟩ : S24)] : List (S24)))).bind fun t107 => (some t107)) = some r := h
 clear h
 obtain ⟨y104, hy104⟩ : ∃ y_ : List (S24), y_ = (([(⟨a0, ([] : List (S57))⟩ : S24)] : List (S24))) := ⟨_, rfl⟩
 replace H : ((reads_Keep.f l1 y104).bind fun t107 => (some t107)) = some r := by first | (rw [hy104]; with_reducible exact H) | (have H2_ := (Option.bind_some _ _).symm.trans H; rw [hy104]; with_reducible exact H2_) | (have H2_ := (Option.bind_some _ _).symm.trans H; with_reducible exact H2_) | with_reducible exact H | (rw [hy104]; exact H) | exact H
 have Ny104 := m0_ hy104
 clear hy104
 replace H := Option.bind_eq_some_iff.mp H
 obtain ⟨t107, A30, H⟩ := H
 replace H : (some t107) = some r := H
 have A3 := m0_ A30
 clear A30
 obtain rfl := sO_ H
 go_enter Try.func15, Try.ntmps15
 go_wp2_with (first | ((with_reducible refine gate_dst (N := 8) rfl ?_); refine Kd.R_lit k24 _ 24 ?hg (N := 8) ?hd (xs := ([(⟨a0, ([] : List (S57))⟩ : S24)] : List (S24))) (inner := [.int .i64 a0, .slice none 0 0]) (ok := fun _ => True) (okp := fun _ => True) ?hr ?hp (fun _ hk => hk) trivial (Below.refl _ _) (Nat.le_refl _) (by simp) ?_; (case hd => rfl); (case hg => rfl); (case hr => first | (go_simp; done) | (go_simp; rfl)); (case hp => exact (Reps.c2 (show Kd.M k24 _ _ _ (⟨a0, ([] : List (S57))⟩ : S24) [.int .i64 a0, .slice none 0 0] from (k24_mkM _ _ _ (⟨a0, ([] : List (S57))⟩ : S24) (Kd.R_nil _ _ _ _ _))) (Reps.none _ _))); intro v105 w4 ho5 hb hg_ hnew_; clear hg_ hnew_; (first | rw [← Ny104.out] at ho5 | (simp only [Int.reduceToNat] at ho5; rw [← Ny104.out] at ho5)); have n0_ := m0_ (Kd.R_lower (Kd.R_newM (M := fun k_ => (w.heap.size ≤ k_)) ho5 (below_size (by repeat (first | (with_reducible first | exact HB.out | apply bA_ | apply dN_ | apply b1_) | exact HB.out))) (fun k_ h_ => h_)) (below_size (by repeat (first | (with_reducible first | exact HB.out | apply bA_ | apply dN_ | apply b1_) | exact HB.out)))); have n1_ := m0_ (below_step (by repeat (first | (with_reducible first | exact HB.out | apply bA_ | apply dN_ | apply b1_) | exact HB.out)) hb); clear HB; have HO106 := n0_; have HB := n1_; clear n0_ n1_; clear hb ho5; obtain ⟨Ao6, co6, eo6⟩ := Kd.R_slice HO106.out; subst eo6) | ((with_reducible refine gate_callee (f := 32) rfl ?_); refine goesL_ (some 9) rfl rfl Try.func32 (by kernel_rfl) rfl #[.slice A1 l1.length c1, .slice Ao6 y104.length co6] rfl (by (try simp only [mT_, mC_, mN_]); first | done | rfl | (simp only [lD_, lT_]; rfl)) ?_; (with_reducible refine (reads_Keep.calls _ _ l1 _ _ y104 t107 _ ?side1 ?side2 ?side3 ?side4 A3.out).mono ?_); (case side1 => repeat (first | exact (kB_ HR1.out HB.out) | (with_reducible first | refine kA_ ?_ _ | refine kN_ ?_ _ | refine kD_ ?_))); (case side2 => exact HC1.out); (case side3 => repeat (first | exact (Kd.R_reads' HO106.out).2.2 | (with_reducible first | refine kA_ ?_ _ | refine kN_ ?_ _ | refine kD_ ?_))); (case side4 => exact (Kd.R_reads' HO106.out).2.1); rintro e w7 ⟨v108, rfl, ho0, hb⟩; refine ⟨_, rfl, ?_⟩; have n0_ := m0_ (Kd.R_below (by (with_reducible repeat (first | apply Kd.R_alloc | apply Kd.R_drewN | apply Kd.R_drew)); exact HO106.out) hb); have n1_ := m0_ (Kd.V_lower (Kd.V_mono (ok' := fun k_ => (w.heap.size ≤ k_) ∧ some k_ ≠ (.slice Ao6 y104.length co6 : Value).ownBlock) ho0 (fun k_ hk_ => ⟨(Nat.le_trans (below_size (by repeat (first | (with_reducible first | exact HB.out | apply bA_ | apply dN_ | apply b1_) | exact HB.out))) hk_), (Kd.fresh' (Kd.R_lt (by (with_reducible repeat (first | apply Kd.R_alloc | apply Kd.R_drewN | apply Kd.R_drew)); exact HO106.out)) k_ hk_)⟩)) (below_size (by repeat (first | (with_reducible first | exact HB.out | apply bA_ | apply dN_ | apply b1_) | exact HB.out)))); have n2_ := m0_ (below_step (by repeat (first | (with_reducible first | exact HB.out | apply bA_ | apply dN_ | apply b1_) | exact HB.out)) hb); clear HO106; clear HB; have HO106 := n0_; have HO109 := n1_; have HB := n2_; clear n0_ n1_ n2_; (try clear hb); (try clear hb2); (try clear hk); (try clear hi); (try clear ho0)))
 go_ret
 exact ⟨_, by first | rfl | (simp [errW_none, errW_some] <;> rfl) | (simp [*, errW_none, errW_some] <;> rfl), by (with_reducible repeat (first | apply vA_ | apply vN_ | apply vD_)); exact Kd.V_mono HO109.out (fun _ hk => hk.1), by repeat (first | (with_reducible first | exact HB.out | apply bA_ | apply dN_ | apply b1_) | exact HB.out)⟩
def hitB (l : List S57) (w : List S59) : Bool := w.any fun y => l.any fun x => inB x y.f0 y.f1
theorem reads_Hit_f (l : List S57) (w : List S59) : reads_Hit.f l w = some (hitB l w) := rfl
def saB (a b : List S59) : Bool := a.any fun x => b.any fun y => sameB x y
theorem reads_Same_f (a b : List S59) : reads_Same.f a b = some (saB a b) := rfl
def badB (rd : List S57) (wr : List S59) (p : S50) : Bool := saB p.f4 wr || (p.f5 && hitB rd p.f4)
def judgeB (rd : List S57) (wr : List S59) (m : List S50) (live : List S24) : Bool × Int :=
 if m.any (badB rd wr) = true then (false, 140) else if (m.any fun p => hitB rd p.f4) = true then (if (m.any fun p => hitB p.f3 wr) = true then (false, 140) else if (live.any fun v => hitB v.f1 wr) = true then (false, 140) else (true, 0)) else (false, 0)
set_option maxHeartbeats 2000000 in
set_option maxRecDepth 100000 in
theorem judge1 (gm : Nat) (sn : Int) (Ar : Option Addr) (cr : Nat) (rd : List S57) (W : World) (p : S50) (A3 : Option Addr) (c3 : Nat) (A4 : Option Addr) (c4 : Nat)
  (hg : W.heap[gm]? = some (.cells #[.int .i64 sn, .slice Ar rd.length cr] 24 (0, 0))) (hr : Kd.C k57 W Ar rd.length rd) (hrc : rd.length ≤ cr) (h3 : p.f3.length ≤ c3) (i3 : Kd.C k57 W A3 p.f3.length p.f3) (h4 : p.f4.length ≤ c4) (i4 : Kd.C k59 W A4 p.f4.length p.f4) :
  Calls Try.prog 23 #[.agg #[.int .i64 p.f0, .int .i64 p.f1, .bool p.f2, .slice A3 p.f3.length c3, .slice A4 p.f4.length c4, .bool p.f5], .pointer (some ⟨gm, 0, none⟩)] W fun e w' => e = .returned (.bool (hitB rd p.f4)) ∧ Below W.heap.size W w' := by
 have e1 : ∀ o, (W.alloc o).cell? ⟨gm, 1, none⟩ = some (.slice Ar rd.length cr) := fun o => (World.cell?_alloc_lt W o _ (blk_lt hg)).trans ((blk_cell hg 1).trans rfl)
 have HIN := fun o => m0_ (reads_Hit.calls Ar cr rd A4 c4 p.f4 _ (W.alloc o) (kA_ hr o) hrc (kA_ i4 o) h4 (reads_Hit_f rd p.f4))
 have hu := Try.underlying50
 have hu2 := Try.underlying24
 clear hg hr hrc h3 i3 h4 i4
 generalize hitB rd p.f4 = b at HIN ⊢
 go_enter Try.func23, Try.ntmps23
 go_wp2_with (go_at_call 24; refine (HIN _).out.mono ?_; rintro e w1 ⟨rfl, hb⟩; have HB1 := m0_ (below_step (bA_ (Below.refl W.heap.size W) _) hb); clear hb)
 go_ret
 exact ⟨rfl, HB1.out⟩
set_option maxHeartbeats 2000000 in
set_option maxRecDepth 100000 in
theorem judge2 (gm gw go : Nat) (sn : Int) (Ar : Option Addr) (cr : Nat) (rd : List S57) (Aw : Option Addr) (cw : Nat) (wr : List S59) (W : World) (p : S50) (A3 : Option Addr) (c3 : Nat) (A4 : Option Addr) (c4 : Nat)
  (hg : W.heap[gm]? = some (.cells #[.int .i64 sn, .slice Ar rd.length cr] 24 (0, 0))) (hr : Kd.C k57 W Ar rd.length rd) (hrc : rd.length ≤ cr)
  (hw : W.heap[gw]? = some (.cells #[.slice Aw wr.length cw] 25 (0, 0))) (hwr : Kd.C k59 W Aw wr.length wr) (hwc : wr.length ≤ cw)
  (ho : W.heap[go]? = some (.cells #[.func (.func 23) #[] #[.pointer (some ⟨gm, 0, none⟩)]] 60 (0, 0))) (h3 : p.f3.length ≤ c3) (i3 : Kd.C k57 W A3 p.f3.length p.f3) (h4 : p.f4.length ≤ c4) (i4 : Kd.C k59 W A4 p.f4.length p.f4) :
  Calls Try.prog 26 #[.agg #[.int .i64 p.f0, .int .i64 p.f1, .bool p.f2, .slice A3 p.f3.length c3, .slice A4 p.f4.length c4, .bool p.f5], .pointer (some ⟨gw, 0, none⟩), .pointer (some ⟨go, 0, none⟩)] W fun e w' => e = .returned (.bool (badB rd wr p)) ∧ Below W.heap.size W w' := by
 have e1 : ∀ o, (W.alloc o).cell? ⟨gw, 0, none⟩ = some (.slice Aw wr.length cw) := fun o => (World.cell?_alloc_lt W o _ (blk_lt hw)).trans ((blk_cell hw 0).trans rfl)
 obtain ⟨Wx, hWx⟩ : ∃ Wx, Wx = W.alloc (.cells #[.int .i64 p.f0, .int .i64 p.f1, .bool p.f2, .slice A3 p.f3.length c3, .slice A4 p.f4.length c4, .bool p.f5] 50 (0, 0)) := ⟨_, rfl⟩
 have HIN := m0_ (show Calls Try.prog 27 #[.slice A4 p.f4.length c4, .slice Aw wr.length cw] (W.alloc (.cells #[.int .i64 p.f0, .int .i64 p.f1, .bool p.f2, .slice A3 p.f3.length c3, .slice A4 p.f4.length c4, .bool p.f5] 50 (0, 0))) _ from reads_Same.calls A4 c4 p.f4 Aw cw wr _ _ (kA_ i4 _) h4 (kA_ hwr _) hwc (reads_Same_f p.f4 wr))
 have hbx : Below W.heap.size W (W.alloc (.cells #[.int .i64 p.f0, .int .i64 p.f1, .bool p.f2, .slice A3 p.f3.length c3, .slice A4 p.f4.length c4, .bool p.f5] 50 (0, 0))) := bA_ (Below.refl _ _) _
 have hpx : (W.alloc (.cells #[.int .i64 p.f0, .int .i64 p.f1, .bool p.f2, .slice A3 p.f3.length c3, .slice A4 p.f4.length c4, .bool p.f5] 50 (0, 0))).heap[W.heap.size]? = some (.cells #[.int .i64 p.f0, .int .i64 p.f1, .bool p.f2, .slice A3 p.f3.length c3, .slice A4 p.f4.length c4, .bool p.f5] 50 (0, 0)) := heap_alloc_new W _
 have HPX := m0_ hpx
 have HBX := m0_ hbx
 have HJ1 := fun (w1 : World) (hb : Below W.heap.size W w1) => m0_ (judge1 gm sn Ar cr rd w1 p A3 c3 A4 c4 ((hb.block _ (blk_lt hg)).trans hg) (kB_ hr hb) hrc h3 (kB_ i3 hb) h4 (kB_ i4 hb))
 have HO := m0_ ho
 have hol := blk_lt ho
 have he1 := enters_of (P := Try.prog) Try.func23 (by kernel_rfl) rfl
 have hu := Try.underlying50
 clear hg hr hrc hw hwr hwc ho h3 i3 h4 i4 hpx hbx hWx Wx
 unfold badB
 generalize hs : saB p.f4 wr = sb at HIN ⊢
 generalize ht : hitB rd p.f4 = hb at HJ1 ⊢
 clear hs ht
 go_enter Try.func26, Try.ntmps26
 cases sb with
 | true =>
  go_wp2_with (go_at_call 27; refine HIN.out.mono ?_; rintro e w1 ⟨rfl, hb⟩; have HB1 := m0_ (below_step HBX.out hb); clear hb)
  go_ret
  exact ⟨rfl, HB1.out⟩
 | false =>
  cases hf : p.f5 with
  | false =>
   rw [hf] at HIN HPX HBX
   go_wp2_with (go_at_call 27; refine HIN.out.mono ?_; rintro e w1 ⟨rfl, hb⟩; have HB1 := m0_ (below_step HBX.out hb); have hk := (hb.block _ (blk_lt HPX.out)).trans HPX.out; have hc5 := (blk_cell hk 5).trans rfl; clear hb)
   go_ret
   exact ⟨rfl, HB1.out⟩
  | true =>
   rw [hf] at HIN HPX HBX HJ1
   go_wp2_with (go_at_call 27; refine HIN.out.mono ?_; rintro e w1 ⟨rfl, hb⟩; have HB1 := m0_ (below_step HBX.out hb); have hk := (hb.block _ (blk_lt HPX.out)).trans HPX.out; have hc0 := (blk_cell hk 0).trans rfl; have hc1 := (blk_cell hk 1).trans rfl; have hc2 := (blk_cell hk 2).trans rfl; have hc3 := (blk_cell hk 3).trans rfl; have hc4 := (blk_cell hk 4).trans rfl; have hc5 := (blk_cell hk 5).trans rfl; have hco := (blk_cell ((HB1.out.block _ hol).trans HO.out) 0).trans rfl; clear hb)
   refine (HJ1 _ HB1.out).out.mono ?_
   rintro e w2 ⟨rfl, hb2⟩
   have HB2 := m0_ (below_step HB1.out hb2)
   clear hb2
   go_wp2
   go_ret
   exact ⟨by cases hb <;> rfl, HB2.out⟩
set_option maxHeartbeats 2000000 in
set_option maxRecDepth 100000 in
theorem judge3 (gw : Nat) (Aw : Option Addr) (cw : Nat) (wr : List S59) (W : World) (p : S50) (A3 : Option Addr) (c3 : Nat) (A4 : Option Addr) (c4 : Nat)
  (hw : W.heap[gw]? = some (.cells #[.slice Aw wr.length cw] 25 (0, 0))) (hwr : Kd.C k59 W Aw wr.length wr) (hwc : wr.length ≤ cw) (h3 : p.f3.length ≤ c3) (i3 : Kd.C k57 W A3 p.f3.length p.f3) (h4 : p.f4.length ≤ c4) (i4 : Kd.C k59 W A4 p.f4.length p.f4) :
  Calls Try.prog 28 #[.agg #[.int .i64 p.f0, .int .i64 p.f1, .bool p.f2, .slice A3 p.f3.length c3, .slice A4 p.f4.length c4, .bool p.f5], .pointer (some ⟨gw, 0, none⟩)] W fun e w' => e = .returned (.bool (hitB p.f3 wr)) ∧ Below W.heap.size W w' := by
 have e1 : ∀ o, (W.alloc o).cell? ⟨gw, 0, none⟩ = some (.slice Aw wr.length cw) := fun o => (World.cell?_alloc_lt W o _ (blk_lt hw)).trans ((blk_cell hw 0).trans rfl)
 have HIN := fun o => m0_ (reads_Hit.calls A3 c3 p.f3 Aw cw wr _ (W.alloc o) (kA_ i3 o) h3 (kA_ hwr o) hwc (reads_Hit_f p.f3 wr))
 have hu := Try.underlying50
 clear hw hwr hwc h3 i3 h4 i4
 generalize hitB p.f3 wr = b at HIN ⊢
 go_enter Try.func28, Try.ntmps28
 go_wp2_with (go_at_call 24; refine (HIN _).out.mono ?_; rintro e w1 ⟨rfl, hb⟩; have HB1 := m0_ (below_step (bA_ (Below.refl W.heap.size W) _) hb); clear hb)
 go_ret
 exact ⟨rfl, HB1.out⟩
set_option maxHeartbeats 2000000 in
set_option maxRecDepth 100000 in
theorem judge4 (gw : Nat) (Aw : Option Addr) (cw : Nat) (wr : List S59) (W : World) (v : S24) (A1 : Option Addr) (c1 : Nat)
  (hw : W.heap[gw]? = some (.cells #[.slice Aw wr.length cw] 25 (0, 0))) (hwr : Kd.C k59 W Aw wr.length wr) (hwc : wr.length ≤ cw) (h1 : v.f1.length ≤ c1) (i1 : Kd.C k57 W A1 v.f1.length v.f1) :
  Calls Try.prog 30 #[.agg #[.int .i64 v.f0, .slice A1 v.f1.length c1], .pointer (some ⟨gw, 0, none⟩)] W fun e w' => e = .returned (.bool (hitB v.f1 wr)) ∧ Below W.heap.size W w' := by
 have e1 : ∀ o, (W.alloc o).cell? ⟨gw, 0, none⟩ = some (.slice Aw wr.length cw) := fun o => (World.cell?_alloc_lt W o _ (blk_lt hw)).trans ((blk_cell hw 0).trans rfl)
 have HIN := fun o => m0_ (reads_Hit.calls A1 c1 v.f1 Aw cw wr _ (W.alloc o) (kA_ i1 o) h1 (kA_ hwr o) hwc (reads_Hit_f v.f1 wr))
 have hu := Try.underlying24
 clear hw hwr hwc h1 i1
 generalize hitB v.f1 wr = b at HIN ⊢
 go_enter Try.func30, Try.ntmps30
 go_wp2_with (go_at_call 24; refine (HIN _).out.mono ?_; rintro e w1 ⟨rfl, hb⟩; have HB1 := m0_ (below_step (bA_ (Below.refl W.heap.size W) _) hb); clear hb)
 go_ret
 exact ⟨rfl, HB1.out⟩
def JudgeJ (w : World) (H : Prop) (a' : Act) (w' : World) : Prop := H ∧ (∃ t0 t1 t2 t3 t4 t5 t6 t7 t8 t9 t10 t11 t12 t13 t14 t15 t16 t17 t18 t19 t20 t21 t22 t23 t24 t25 t26 t27 t28 t29 t30 t31 : Value, a' = { tmps := #[t0, t1, t2, t3, t4, t5, t6, t7, t8, t9, t10, t11, t12, t13, t14, t15, t16, t17, t18, t19, t20, t21, t22, t23, t24, t25, t26, t27, t28, t29, t30, t31], defers := [] }) ∧ Below w.heap.size w w'
def rival_Judge.f (a0_0 : Int) (l0_1 : List (S57)) (l1 : List (S59)) (l2 : List (S50)) (l3 : List (S24)) : Option (Bool × Int) := (rival_Meets.f a0_0 l2).bind fun m => some (judgeB l0_1 l1 m l3)
set_option maxHeartbeats 2000000 in
set_option maxRecDepth 100000 in
theorem rival_Judge.calls (a0_0 : Int) (A0_1 : Option Addr) (c0_1 : Nat) (l0_1 : List (S57)) (A1 : Option Addr) (c1 : Nat) (l1 : List (S59)) (A2 : Option Addr) (c2 : Nat) (l2 : List (S50)) (A3 : Option Addr) (c3 : Nat) (l3 : List (S24)) (r1 : Bool) (r2 : Int) (w : World) (hr0_1 : Kd.C k57 w A0_1 l0_1.length l0_1) (hc0_1 : l0_1.length ≤ c0_1) (hr1 : Kd.C k59 w A1 l1.length l1) (hc1 : l1.length ≤ c1) (hr2 : Kd.C k50 w A2 l2.length l2) (hc2 : l2.length ≤ c2) (hr3 : Kd.C k24 w A3 l3.length l3) (hc3 : l3.length ≤ c3) (h : rival_Judge.f a0_0 l0_1 l1 l2 l3 = some (r1, r2)) :
  Calls Try.prog 12 #[.agg #[.int .i64 a0_0, .slice A0_1 l0_1.length c0_1], .slice A1 l1.length c1, .slice A2 l2.length c2, .slice A3 l3.length c3] w fun e w' => e = .returned (.tuple #[.bool r1, .int .i64 r2]) ∧ Below w.heap.size w w' := by
 unfold rival_Judge.f at h
 obtain ⟨m, hm, h⟩ := Option.bind_eq_some_iff.mp h
 have hJ := sO_ h
 have HM := m0_ hm
 have HR := m0_ hr0_1
 have HRC := m0_ hc0_1
 have HW := m0_ hr1
 have HWC := m0_ hc1
 have HP := m0_ hr2
 have HPC := m0_ hc2
 have HL := m0_ hr3
 have HLC := m0_ hc3
 have HJ := m0_ hJ
 have hmf : ∀ (fn : Fn) (first cap : Array Value) (w : World), (Instr.makeFunc fn first cap).run Try.prog w = .ok (.func fn first cap) w := fun _ _ _ _ => rfl
 have hu := Try.underlying24
 clear hm h hJ hr0_1 hc0_1 hr1 hc1 hr2 hc2 hr3 hc3
 obtain ⟨W0, hW0⟩ : ∃ W0, W0 = (w.alloc (.cells #[.int .i64 a0_0, .slice A0_1 l0_1.length c0_1] 24 (0, 0))).alloc (.cells #[.slice A1 l1.length c1] 25 (0, 0)) := ⟨_, rfl⟩
 have HB0 := m0_ (show Below w.heap.size w W0 from hW0 ▸ bA_ (bA_ (Below.refl _ _) _) _)
 have hs0 : W0.heap.size = w.heap.size + 2 := by rw [hW0]; simp only [World.size_alloc]
 have hgm : W0.heap[w.heap.size]? = some (.cells #[.int .i64 a0_0, .slice A0_1 l0_1.length c0_1] 24 (0, 0)) := by rw [hW0]; exact (Below.heap_alloc _ _ _ (by simp)).trans (heap_alloc_new w _)
 have hgw : W0.heap[w.heap.size + 1]? = some (.cells #[.slice A1 l1.length c1] 25 (0, 0)) := by
  have := heap_alloc_new (w.alloc (.cells #[.int .i64 a0_0, .slice A0_1 l0_1.length c0_1] 24 (0, 0))) (.cells #[.slice A1 l1.length c1] 25 (0, 0))
  rw [World.size_alloc, ← hW0] at this
  exact this
 have HGM := m0_ hgm
 have HGW := m0_ hgw
 have hMC := m0_ (rival_Meets.calls a0_0 A2 c2 l2 m W0 (kB_ HP.out HB0.out) HPC.out HM.out)
 clear hgm hgw
 go_enter Try.func12, Try.ntmps12
 go_wp2
 refine wp_scope_jumps 0 (JudgeJ w (Aside0 ((r1, r2) = (false, 140)))) (fun _ _ => 0) rfl ?first ?pass
 case pass =>
  rintro a' w' ⟨hH, ⟨t0, t1, t2, t3, t4, t5, t6, t7, t8, t9, t10, t11, t12, t13, t14, t15, t16, t17, t18, t19, t20, t21, t22, t23, t24, t25, t26, t27, t28, t29, t30, t31, rfl⟩, hB⟩
  obtain ⟨rfl, rfl⟩ := Prod.mk.inj hH.out
  clear hH
  have HBz := m0_ hB
  clear hB
  go_wp2
  simp only [Exit.jump]
  refine bodyPost_ret (results_tmp2 rfl _ _ _) rfl ?_
  exact ⟨rfl, HBz.out⟩
 case first =>
  go_wp2_with (go_at_call 15; rw [← hW0]; refine hMC.out.mono ?_; rintro e w1 ⟨v, rfl, hV, hb⟩; obtain ⟨Am, cm, rfl⟩ := Kd.V_slice hV; have HMr := m0_ (Kd.V_reads' hV).2.2; have HB1 := m0_ (HB0.out.trans (hb.mono (by omega))); have HB01 := m0_ hb; clear hV hb)
  obtain ⟨W2, hW2⟩ : ∃ W2, W2 = w1.alloc (.cells #[.func (.func 23) #[] #[.pointer (some ⟨w.heap.size, 0, none⟩)]] 60 (0, 0)) := ⟨_, rfl⟩
  have hall : ∀ W, Below W2.heap.size W2 W → Below w.heap.size w W ∧ W.heap[w.heap.size]? = some (.cells #[.int .i64 a0_0, .slice A0_1 l0_1.length c0_1] 24 (0, 0)) ∧ W.heap[w.heap.size + 1]? = some (.cells #[.slice A1 l1.length c1] 25 (0, 0)) ∧ W.heap[w1.heap.size]? = some (.cells #[.func (.func 23) #[] #[.pointer (some ⟨w.heap.size, 0, none⟩)]] 60 (0, 0)) ∧ Kd.C k57 W A0_1 l0_1.length l0_1 ∧ Kd.C k59 W A1 l1.length l1 ∧ Kd.C k50 W Am m.length m ∧ Kd.C k24 W A3 l3.length l3 := by
   intro W hb
   have h12 : Below w1.heap.size w1 W2 := hW2 ▸ bA_ (Below.refl _ _) _
   have h1W : Below w1.heap.size w1 W := below_step h12 hb
   have h0W : Below W0.heap.size W0 W := below_step HB01.out h1W
   have hbw : Below w.heap.size w W := HB0.out.trans (h0W.mono (by omega))
   have hg2 : W2.heap[w1.heap.size]? = some (.cells #[.func (.func 23) #[] #[.pointer (some ⟨w.heap.size, 0, none⟩)]] 60 (0, 0)) := hW2 ▸ heap_alloc_new w1 _
   exact ⟨hbw, (h0W.block _ (blk_lt HGM.out)).trans HGM.out, (h0W.block _ (blk_lt HGW.out)).trans HGW.out, (hb.block _ (blk_lt hg2)).trans hg2, kB_ HR.out hbw, kB_ HW.out hbw, kB_ HMr.out h1W, kB_ HL.out hbw⟩
  have HALL := m0_ hall
  have HA := fun W hb => m0_ (has_Past 23 #[.pointer (some ⟨w.heap.size, 0, none⟩)] (fun p => hitB l0_1 p.f4) Am cm m W (hall W hb).2.2.2.2.2.2.1 (enters_of Try.func23 (by kernel_rfl) rfl)
   (fun W' p A3 c3 A4 c4 _ hb' h3 i3 h4 i4 => by obtain ⟨_, q1, q2, q3, q4, q5, _⟩ := hall W' (below_step hb hb'); exact judge1 _ a0_0 A0_1 c0_1 l0_1 W' p A3 c3 A4 c4 q1 q4 HRC.out h3 i3 h4 i4))
  have HBb := fun W hb => m0_ (has_Past 26 #[.pointer (some ⟨w.heap.size + 1, 0, none⟩), .pointer (some ⟨w1.heap.size, 0, none⟩)] (badB l0_1 l1) Am cm m W (hall W hb).2.2.2.2.2.2.1 (enters_of Try.func26 (by kernel_rfl) rfl)
   (fun W' p A3 c3 A4 c4 _ hb' h3 i3 h4 i4 => by obtain ⟨_, q1, q2, q3, q4, q5, _⟩ := hall W' (below_step hb hb'); exact judge2 w.heap.size _ _ a0_0 A0_1 c0_1 l0_1 A1 c1 l1 W' p A3 c3 A4 c4 q1 q4 HRC.out q2 q5 HWC.out q3 h3 i3 h4 i4))
  have HCc := fun W hb => m0_ (has_Past 28 #[.pointer (some ⟨w.heap.size + 1, 0, none⟩)] (fun p => hitB p.f3 l1) Am cm m W (hall W hb).2.2.2.2.2.2.1 (enters_of Try.func28 (by kernel_rfl) rfl)
   (fun W' p A3 c3 A4 c4 _ hb' h3 i3 h4 i4 => by obtain ⟨_, q1, q2, q3, q4, q5, _⟩ := hall W' (below_step hb hb'); exact judge3 _ A1 c1 l1 W' p A3 c3 A4 c4 q2 q5 HWC.out h3 i3 h4 i4))
  have HDd := fun W hb => m0_ (has_Live 30 #[.pointer (some ⟨w.heap.size + 1, 0, none⟩)] (fun v => hitB v.f1 l1) A3 c3 l3 W (hall W hb).2.2.2.2.2.2.2 (enters_of Try.func30 (by kernel_rfl) rfl)
   (fun W' v A9 c9 _ hb' h3 i3 => by obtain ⟨_, q1, q2, q3, q4, q5, _⟩ := hall W' (below_step hb hb'); exact judge4 _ A1 c1 l1 W' v A9 c9 q2 q5 HWC.out h3 i3))
  have HJ2 := m0_ (show judgeB l0_1 l1 m l3 = if m.any (badB l0_1 l1) = true then (false, 140) else if (m.any fun p => hitB l0_1 p.f4) = true then (if (m.any fun p => hitB p.f3 l1) = true then (false, 140) else if (l3.any fun v => hitB v.f1 l1) = true then (false, 140) else (true, 0)) else (false, 0) from rfl)
  generalize (m.any fun p => hitB l0_1 p.f4) = b1 at HA HJ2
  generalize m.any (badB l0_1 l1) = b2 at HBb HJ2
  generalize (m.any fun p => hitB p.f3 l1) = b3 at HCc HJ2
  generalize (l3.any fun v => hitB v.f1 l1) = b4 at HDd HJ2
  rw [HJ2.out] at HJ
  have HB2 := m0_ (Below.refl W2.heap.size W2)
  clear hall HJ2
  rw [← hW2]
  clear hW2
  refine (HA W2 HB2.out).out.mono ?_
  rintro e wA ⟨rfl, hbA⟩
  have hBA := below_step HB2.out hbA
  clear hbA HA
  cases b2 with
  | true =>
   have HH := m0_ (show (r1, r2) = (false, 140) by have := HJ.out; rw [if_pos rfl] at this; exact this.symm)
   go_wp2_with (first | (go_at_call 25; refine (HBb _ (by assumption)).out.mono ?_; rintro e wB ⟨rfl, hbB⟩; have hBB := below_step (by assumption) hbB; clear hbB) | (go_at_call 25; refine (HCc _ (by assumption)).out.mono ?_; rintro e wC ⟨rfl, hbC⟩; have hBC := below_step (by assumption) hbC; clear hbC) | (go_at_call 29; refine (HDd _ (by assumption)).out.mono ?_; rintro e wD ⟨rfl, hbD⟩; have hBD := below_step (by assumption) hbD; clear hbD))
   go_step3
   exact ⟨rfl, HH, ⟨_, _, _, _, _, _, _, _, _, _, _, _, _, _, _, _, _, _, _, _, _, _, _, _, _, _, _, _, _, _, _, _, rfl⟩, (HALL.out _ hBB).1⟩
  | false =>
   cases b1 with
   | false =>
    obtain ⟨rfl, rfl⟩ := Prod.mk.inj (show (r1, r2) = (false, 0) by have := HJ.out; rw [if_neg (by decide), if_neg (by decide)] at this; exact this.symm)
    go_wp2_with (first | (go_at_call 25; refine (HBb _ (by assumption)).out.mono ?_; rintro e wB ⟨rfl, hbB⟩; have hBB := below_step (by assumption) hbB; clear hbB) | (go_at_call 25; refine (HCc _ (by assumption)).out.mono ?_; rintro e wC ⟨rfl, hbC⟩; have hBC := below_step (by assumption) hbC; clear hbC) | (go_at_call 29; refine (HDd _ (by assumption)).out.mono ?_; rintro e wD ⟨rfl, hbD⟩; have hBD := below_step (by assumption) hbD; clear hbD))
    simp only [Exit.jump]
    refine bodyPost_ret (results_tmp2 rfl _ _ _) rfl ?_
    exact ⟨rfl, (HALL.out _ hBB).1⟩
   | true =>
    cases b3 with
    | true =>
     have HH := m0_ (show (r1, r2) = (false, 140) by have := HJ.out; rw [if_neg (by decide), if_pos rfl, if_pos rfl] at this; exact this.symm)
     go_wp2_with (first | (go_at_call 25; refine (HBb _ (by assumption)).out.mono ?_; rintro e wB ⟨rfl, hbB⟩; have hBB := below_step (by assumption) hbB; clear hbB) | (go_at_call 25; refine (HCc _ (by assumption)).out.mono ?_; rintro e wC ⟨rfl, hbC⟩; have hBC := below_step (by assumption) hbC; clear hbC) | (go_at_call 29; refine (HDd _ (by assumption)).out.mono ?_; rintro e wD ⟨rfl, hbD⟩; have hBD := below_step (by assumption) hbD; clear hbD))
     go_step3
     exact ⟨rfl, HH, ⟨_, _, _, _, _, _, _, _, _, _, _, _, _, _, _, _, _, _, _, _, _, _, _, _, _, _, _, _, _, _, _, _, rfl⟩, (HALL.out _ hBC).1⟩
    | false =>
     cases b4 with
     | true =>
      have HH := m0_ (show (r1, r2) = (false, 140) by have := HJ.out; rw [if_neg (by decide), if_pos rfl, if_neg (by decide), if_pos rfl] at this; exact this.symm)
      go_wp2_with (first | (go_at_call 25; refine (HBb _ (by assumption)).out.mono ?_; rintro e wB ⟨rfl, hbB⟩; have hBB := below_step (by assumption) hbB; clear hbB) | (go_at_call 25; refine (HCc _ (by assumption)).out.mono ?_; rintro e wC ⟨rfl, hbC⟩; have hBC := below_step (by assumption) hbC; clear hbC) | (go_at_call 29; refine (HDd _ (by assumption)).out.mono ?_; rintro e wD ⟨rfl, hbD⟩; have hBD := below_step (by assumption) hbD; clear hbD))
      go_step3
      exact ⟨rfl, HH, ⟨_, _, _, _, _, _, _, _, _, _, _, _, _, _, _, _, _, _, _, _, _, _, _, _, _, _, _, _, _, _, _, _, rfl⟩, (HALL.out _ hBD).1⟩
     | false =>
      obtain ⟨rfl, rfl⟩ := Prod.mk.inj (show (r1, r2) = (true, 0) by have := HJ.out; rw [if_neg (by decide), if_pos rfl, if_neg (by decide), if_neg (by decide)] at this; exact this.symm)
      go_wp2_with (first | (go_at_call 25; refine (HBb _ (by assumption)).out.mono ?_; rintro e wB ⟨rfl, hbB⟩; have hBB := below_step (by assumption) hbB; clear hbB) | (go_at_call 25; refine (HCc _ (by assumption)).out.mono ?_; rintro e wC ⟨rfl, hbC⟩; have hBC := below_step (by assumption) hbC; clear hbC) | (go_at_call 29; refine (HDd _ (by assumption)).out.mono ?_; rintro e wD ⟨rfl, hbD⟩; have hBD := below_step (by assumption) hbD; clear hbD))
      simp only [Exit.jump]
      refine bodyPost_ret (results_tmp2 rfl _ _ _) rfl ?_
      exact ⟨rfl, (HALL.out _ hBD).1⟩
def span_Point.f (a0 : Int) (l1 : List Int) : Option (Int × List Int × List Int × Bool) := (bytes_Clone.f l1).bind fun t111 => ((bytes_Clone.f l1).bind fun t114 => (if t114.length < 140737488355328 then (some (a0, t111, (t114 ++ [0]), false)) else (none)))
set_option maxHeartbeats 8000000 in
set_option maxRecDepth 100000 in
theorem span_Point.calls (a0 : Int) (A1 : Option Addr) (c1 : Nat) (l1 : List Int) (r1 : Int) (r2 : List Int) (r3 : List Int) (r4 : Bool) (w : World) (hr1 : Kd.C (Kd.int .u8) w A1 l1.length l1) (hc1 : l1.length ≤ c1) (h : span_Point.f a0 l1 = some (r1, r2, r3, r4)) :
   Calls Try.prog 36 #[.int .i64 a0, .slice A1 l1.length c1] w fun e w' => ∃ v1_ v2_ : Value, e = .returned (.agg #[.int .i64 r1, v1_, v2_, .bool r4]) ∧ Kd.R (Kd.int .u8) 5 w' w.heap.size (fun k_ => some k_ ≠ (v2_ : Value).ownBlock) v1_ r2 ∧ Kd.R (Kd.int .u8) 5 w' w.heap.size (fun k_ => some k_ ≠ (v1_ : Value).ownBlock) v2_ r3 ∧ Below w.heap.size w w' := by
 have hu57 := Try.underlying57
 have HR1 := m0_ hr1
 have HC1 := m0_ hc1
 clear hr1 hc1
 have HB := m0_ (Below.refl w.heap.size w)
 have H : ((bytes_Clone.f l1).bind fun t111 => ((bytes_Clone.f l1).bind fun t114 => (if t114.length < 140737488355328 then (some (a0, t111, (t114 ++ [0]), false)) else (none)))) = some (r1, r2, r3, r4) := h
 clear h
 replace H := Option.bind_eq_some_iff.mp H
 obtain ⟨t111, A30, H⟩ := H
 replace H : ((bytes_Clone.f l1).bind fun t114 => (if t114.length < 140737488355328 then (some (a0, t111, (t114 ++ [0]), false)) else (none))) = some (r1, r2, r3, r4) := H
 have A3 := m0_ A30
 clear A30
 replace H := Option.bind_eq_some_iff.mp H
 obtain ⟨t114, A40, H⟩ := H
 replace H : (if t114.length < 140737488355328 then (some (a0, t111, (t114 ++ [0]), false)) else (none)) = some (r1, r2, r3, r4) := H
 have A4 := m0_ A40
 clear A40
 by_cases c5 : t114.length < 140737488355328
 · rw [if_pos c5] at H
   have LMc5 := m0_ c5
   clear c5
   obtain ⟨y117, hy117⟩ : ∃ y_ : List Int, y_ = (t114 ++ [0]) := ⟨_, rfl⟩
   replace H : (some (a0, t111, y117, false)) = some (r1, r2, r3, r4) := by first | (rw [hy117]; with_reducible exact H) | (have H2_ := (Option.bind_some _ _).symm.trans H; rw [hy117]; with_reducible exact H2_) | (have H2_ := (Option.bind_some _ _).symm.trans H; with_reducible exact H2_) | with_reducible exact H | (rw [hy117]; exact H) | exact H
   have Ny117 := m0_ hy117
   clear hy117
   simp only [Option.some.injEq, Prod.mk.injEq] at H
   obtain ⟨rfl, rfl, rfl, rfl⟩ := H
   go_enter Try.func36, Try.ntmps36
   go_wp2_with (first | ((with_reducible refine gate_dst (N := 4) rfl ?_); refine box_event ?hg (N := 4) ?hd (cs := #[.int .i64 0, .slice none 0 0, .slice none 0 0, .bool false]) (t := 57) ?hr ?_; (case hd => rfl); (case hg => rfl); (case hr => first | (go_simp; done) | (go_simp; rfl)); intro gb110 hg w6 hbox hb; have n0_ := m0_ (below_step (by repeat (first | (with_reducible first | exact HB.out | apply bA_ | apply dN_ | apply b1_) | exact HB.out)) hb); have n1_ := m0_ (hbox); have n2_ := m0_ ((by rw [hg]; exact (below_size (by repeat (first | (with_reducible first | exact HB.out | apply bA_ | apply dN_ | apply b1_) | exact HB.out))) : w.heap.size ≤ gb110)); have n3_ := m0_ ((by rw [hg]; exact (below_size (by repeat (first | (with_reducible first | exact HB.out | apply bA_ | apply dN_ | apply b1_) | exact HB.out))) : w.heap.size ≤ gb110)); clear HB; have HB := n0_; have BK110 := n1_; have GW110 := n2_; have GE110 := n3_; clear n0_ n1_ n2_ n3_; clear hb hbox hg) | ((with_reducible refine gate_callee (f := 52) rfl ?_); refine goesL_ (some 7) rfl rfl Try.func52 (by kernel_rfl) rfl #[.slice A1 l1.length c1] rfl (by (try simp only [mT_, mC_, mN_]); first | done | rfl | (simp only [lD_, lT_]; rfl)) ?_; (with_reducible refine (bytes_Clone.calls _ _ l1 t111 _ ?side1 ?side2 A3.out).mono ?_); (case side1 => repeat (first | exact (kB_ HR1.out HB.out) | (with_reducible first | refine kA_ ?_ _ | refine kN_ ?_ _ | refine kD_ ?_))); (case side2 => exact HC1.out); rintro e w7 ⟨v112, rfl, ho0, hb⟩; refine ⟨_, rfl, ?_⟩; have n0_ := m0_ (Kd.R_lower ho0 (below_size (by repeat (first | (with_reducible first | exact HB.out | apply bA_ | apply dN_ | apply b1_ | refine below_set ?_ GE110.out) | exact HB.out)))); have n1_ := m0_ (blk_below (g := gb110) (o := .cells #[.int .i64 0, .slice none 0 0, .slice none 0 0, .bool false] 57 (0, 0)) (by (with_reducible repeat (first | refine blk_drewN ?_ _ | refine blk_drew ?_ | refine blk_alloc ?_ _)); exact BK110.out) hb); have n2_ := m0_ (below_step (by repeat (first | (with_reducible first | exact HB.out | apply bA_ | apply dN_ | apply b1_ | refine below_set ?_ GE110.out) | exact HB.out)) hb); clear BK110; clear HB; have HO113 := n0_; have BK110 := n1_; have HB := n2_; clear n0_ n1_ n2_; (try clear hb); (try clear hb2); (try clear hk); (try clear hi); (try clear ho0)) | ((with_reducible refine gate_callee (f := 52) rfl ?_); refine goesL_ (some 9) rfl rfl Try.func52 (by kernel_rfl) rfl #[.slice A1 l1.length c1] rfl (by (try simp only [mT_, mC_, mN_]); first | done | rfl | (simp only [lD_, lT_]; rfl)) ?_; (with_reducible refine (bytes_Clone.calls _ _ l1 t114 _ ?side1 ?side2 A4.out).mono ?_); (case side1 => repeat (first | exact (kB_ HR1.out HB.out) | (with_reducible first | refine kA_ ?_ _ | refine kN_ ?_ _ | refine kD_ ?_))); (case side2 => exact HC1.out); rintro e w8 ⟨v115, rfl, ho0, hb⟩; refine ⟨_, rfl, ?_⟩; have n0_ := m0_ (Kd.R_elder' (by (with_reducible repeat (first | apply Kd.R_alloc | apply Kd.R_drewN | apply Kd.R_drew)); exact HO113.out) (Kd.R_base ho0) hb); have n1_ := m0_ (Kd.R_lower (Kd.R_new' ho0 (Kd.R_lt (by (with_reducible repeat (first | apply Kd.R_alloc | apply Kd.R_drewN | apply Kd.R_drew)); exact HO113.out))) (below_size (by repeat (first | (with_reducible first | exact HB.out | apply bA_ | apply dN_ | apply b1_ | refine below_set ?_ GE110.out) | exact HB.out)))); have n2_ := m0_ (blk_below (g := gb110) (o := .cells #[.int .i64 0, .slice none 0 0, .slice none 0 0, .bool false] 57 (0, 0)) (by (with_reducible repeat (first | refine blk_drewN ?_ _ | refine blk_drew ?_ | refine blk_alloc ?_ _)); exact BK110.out) hb); have n3_ := m0_ (below_step (by repeat (first | (with_reducible first | exact HB.out | apply bA_ | apply dN_ | apply b1_ | refine below_set ?_ GE110.out) | exact HB.out)) hb); clear HO113; clear BK110; clear HB; have HO113 := n0_; have HO116 := n1_; have BK110 := n2_; have HB := n3_; clear n0_ n1_ n2_ n3_; (try clear hb); (try clear hb2); (try clear hk); (try clear hi); (try clear ho0)) | ((with_reducible refine gate_builtin (b := .append) (xs := #[.tmp 9, .tmp 10]) rfl ?_); at_builtin; refine Kd.R_append (Kd.int .u8) (w0 := w) w.heap.size rfl (.tmp 9) (.tmp 10) 55 5 (.int .u8 0) 1 rfl Try.underlying55 info5 rfl (by decide) (by omega) v115 t114 0 [.int .u8 0] (fun k_ => some k_ ≠ (v112 : Value).ownBlock) (fun _ => False) rfl rfl ?aP (fun _ hk => hk.elim) ?aF ?aO ?aB ?aS ?aL ?_; (case aP => exact rfl); (case aB => exact (by repeat (first | (with_reducible first | exact HB.out | apply bA_ | apply dN_ | apply b1_ | refine below_set ?_ GE110.out) | exact HB.out))); (case aF => exact (fun k_ hk => Kd.fresh' (Kd.R_lt (by (with_reducible repeat (first | apply Kd.R_alloc | apply Kd.R_drewN | apply Kd.R_drew)); exact HO113.out)) k_ hk)); (case aO => exact (by (with_reducible repeat (first | apply Kd.R_alloc | apply Kd.R_drewN | apply Kd.R_drew)); exact Kd.R_mono HO116.out (fun _ hk => hk.2))); (case aS => exact (below_size (by repeat (first | (with_reducible first | exact HB.out | apply bA_ | apply dN_ | apply b1_ | refine below_set ?_ GE110.out) | exact HB.out)))); (case aL => have := LMc5.out; omega); intro v118 w9 ho hb hg hat; rw [← Ny117.out] at ho; have n0_ := m0_ (blk_grown (g := gb110) (o := .cells #[.int .i64 0, .slice none 0 0, .slice none 0 0, .bool false] 57 (0, 0)) (by (with_reducible repeat (first | refine blk_drewN ?_ _ | refine blk_drew ?_ | refine blk_alloc ?_ _)); exact BK110.out) hg (Kd.R_ne HO116.out BK110.out (by decide))); have n1_ := m0_ (Kd.R_after (ok := (fun _ => True)) (by (with_reducible repeat (first | apply Kd.R_alloc | apply Kd.R_drewN | apply Kd.R_drew)); exact HO113.out) hg hat); have n2_ := m0_ (hb); have n3_ := m0_ (ho); clear BK110; clear HO113; clear HB; clear HO116; have BK110 := n0_; have HO113 := n1_; have HB := n2_; have HO119 := n3_; clear n0_ n1_ n2_ n3_; clear ho hb hg hat; obtain ⟨Ao10, co10, eo10⟩ := Kd.R_slice HO119.out; subst eo10; obtain ⟨Ao11, co11, eo11⟩ := Kd.R_slice HO113.out; subst eo11; have hcz12_0 : w9.cell? ⟨gb110, 0, none⟩ = some (.int .i64 0) := (blk_cell BK110.out 0).trans rfl; have hcz12_1 : w9.cell? ⟨gb110, 1, none⟩ = some (.slice none 0 0) := (blk_cell BK110.out 1).trans rfl; have hcz12_2 : w9.cell? ⟨gb110, 2, none⟩ = some (.slice none 0 0) := (blk_cell BK110.out 2).trans rfl; have hcz12_3 : w9.cell? ⟨gb110, 3, none⟩ = some (.bool false) := (blk_cell BK110.out 3).trans rfl; have hfz12_0 := bf_ BK110.out 0; have hfz12_1 := bf_ BK110.out 1; have hfz12_2 := bf_ BK110.out 2; have hfz12_3 := bf_ BK110.out 3))
   refine bodyPost_ret (results_cell_row rfl _ _ gb110 57 #[.int .i64 a0, .slice Ao11 t111.length co11, .slice Ao10 y117.length co10, .bool false] (0, 0) _ rfl (by (with_reducible repeat (first | refine blk_drewN ?_ _ | refine blk_drew ?_ | refine blk_alloc ?_ _)); refine blk_put (cs := #[.int .i64 a0, .slice Ao11 t111.length co11, .slice Ao10 y117.length co10, .bool false]) ?_ 3 _ rfl; (with_reducible repeat (first | refine blk_drewN ?_ _ | refine blk_drew ?_ | refine blk_alloc ?_ _)); refine blk_put (cs := #[.int .i64 a0, .slice Ao11 t111.length co11, .slice none 0 0, .bool false]) ?_ 2 _ rfl; (with_reducible repeat (first | refine blk_drewN ?_ _ | refine blk_drew ?_ | refine blk_alloc ?_ _)); refine blk_put (cs := #[.int .i64 a0, .slice none 0 0, .slice none 0 0, .bool false]) ?_ 1 _ rfl; (with_reducible repeat (first | refine blk_drewN ?_ _ | refine blk_drew ?_ | refine blk_alloc ?_ _)); refine blk_put (cs := #[.int .i64 0, .slice none 0 0, .slice none 0 0, .bool false]) ?_ 0 _ rfl; (with_reducible repeat (first | refine blk_drewN ?_ _ | refine blk_drew ?_ | refine blk_alloc ?_ _)); exact BK110.out) Try.underlying57 rfl (by kernel_rfl)) rfl ?_
   exact ⟨_, _, by first | rfl | (simp [errW_none, errW_some] <;> rfl) | (simp [*, errW_none, errW_some] <;> rfl), by (with_reducible repeat (first | apply Kd.R_alloc | apply Kd.R_drewN | apply Kd.R_drew)); exact Kd.R_mono (Kd.R_far (p := ⟨gb110, 3, none⟩) (Kd.R_far (p := ⟨gb110, 2, none⟩) (Kd.R_far (p := ⟨gb110, 1, none⟩) (Kd.R_far (p := ⟨gb110, 0, none⟩) (Kd.R_types HO113.out BK110.out (by decide)) (fun _ hk => hk.2) (.int .i64 a0)) (fun _ hk => hk.2) (.slice Ao11 t111.length co11)) (fun _ hk => hk.2) (.slice Ao10 y117.length co10)) (fun _ hk => hk.2) (.bool false)) (fun _ hk => hk.1.2), by (with_reducible repeat (first | apply Kd.R_alloc | apply Kd.R_drewN | apply Kd.R_drew)); exact Kd.R_mono (Kd.R_far (p := ⟨gb110, 3, none⟩) (Kd.R_far (p := ⟨gb110, 2, none⟩) (Kd.R_far (p := ⟨gb110, 1, none⟩) (Kd.R_far (p := ⟨gb110, 0, none⟩) (Kd.R_types HO119.out BK110.out (by decide)) (fun _ hk => hk.2) (.int .i64 a0)) (fun _ hk => hk.2) (.slice Ao11 t111.length co11)) (fun _ hk => hk.2) (.slice Ao10 y117.length co10)) (fun _ hk => hk.2) (.bool false)) (fun _ hk => hk.1), by repeat (first | (with_reducible first | exact HB.out | apply bA_ | apply dN_ | apply b1_ | refine below_set ?_ GE110.out) | exact HB.out)⟩
 · rw [if_neg c5] at H
   exact absurd H (by simp)
def banksmanlaw14_of.f (a0 : ByteArray) : Option ((List (S57))) := if a0.size < 1000000 then some [⟨0, bytesI a0, bytesI a0 ++ [0], false⟩] else none
set_option maxHeartbeats 1000000 in
set_option maxRecDepth 100000 in
theorem banksmanlaw14_of.calls (a0 : ByteArray) (r : List (S57)) (w : World) (h : banksmanlaw14_of.f a0 = some r) :
  Calls Try.prog 21 #[.string a0] w fun e w' => ∃ v0_ : Value, e = .returned (v0_) ∧ Kd.V k57 57 w' w.heap.size (fun k_ => (w.heap.size ≤ k_)) v0_ r ∧ Below w.heap.size w w' := by
 unfold banksmanlaw14_of.f at h
 have hl : a0.size < 1000000 := Classical.byContradiction fun hn => by rw [if_neg hn] at h; cases h
 rw [if_pos hl] at h
 obtain rfl := sO_ h
 clear h
 have hbl := bytesI_length a0
 have HP := m0_ (show span_Point.f 0 (bytesI a0) = some (0, bytesI a0, bytesI a0 ++ [0], false) by
  unfold span_Point.f bytes_Clone.f
  rw [if_pos (by omega), Option.bind_some, Option.bind_some, if_pos (by omega)])
 have HBL := m0_ hbl
 generalize hbx : bytesI a0 = bs at *
 clear hbl
 go_enter Try.func21, Try.ntmps21
 go_wp2_with (first | ((with_reducible refine gate_dst (N := 4) rfl ?_); refine conv_str_op 9 55 5 Try.underlying9 Try.underlying55 Try.underlying5 rfl 4 rfl _ rfl a0 rfl (by omega) ?_; intro A c w1 hc hV hb; rw [hbx] at hc hV ⊢; have HC := m0_ hc; have HV := m0_ hV; have HB := m0_ hb; clear hc hV hb) | (go_at_call 36; refine (span_Point.calls 0 _ _ bs 0 bs (bs ++ [0]) false _ (Kd.V_reads' HV.out).2.2 HC.out HP.out).mono ?_; rintro e w2 ⟨v1, v2, rfl, hR1, hR2, hb2⟩; obtain ⟨A1, c1, rfl⟩ := Kd.R_slice hR1; obtain ⟨A2, c2, rfl⟩ := Kd.R_slice hR2; have HR1 := m0_ hR1; have HR2 := m0_ hR2; have HB2 := m0_ (below_step HB.out hb2); have hz := below_size HB.out; clear hR1 hR2 hb2))
 go_ret
 refine ⟨_, rfl, ?_, bA_ HB2.out _⟩
 have e2 : (bs ++ [0]).length = bs.length + 1 := by simp
 have hE : ∀ j q, [(⟨0, bs, bs ++ [0], false⟩ : S57)][j]? = some q → Kd.FK k57 (w2.alloc (.cells #[.int .i64 0, .slice A1 bs.length c1, .slice A2 (bs.length + 1) c2, .bool false] 57 (0, 0))) (fun k_ => w.heap.size ≤ k_) q ((([.int .i64 0, .slice A1 bs.length c1, .slice A2 (bs.length + 1) c2, .bool false] : List Value).drop (j * 4)).take 4) := by
  intro j q hj
  cases j with
  | succ j => simp at hj
  | zero =>
   have hq : (⟨0, bs, bs ++ [0], false⟩ : S57) = q := sO_ hj
   subst hq
   show Kd.FK _ _ _ _ [.int .i64 0, .slice A1 bs.length c1, .slice A2 (bs.length + 1) c2, .bool false]
   rw [← e2]
   refine k57_mkF _ _ ⟨0, bs, bs ++ [0], false⟩ (Kd.R_reads' HR1.out).2.1 ?_ (Kd.R_reads' HR2.out).2.1 ?_
   · exact Kd.F_below (Kd.R_F (Kd.R_mono (ok' := fun k_ => w.heap.size ≤ k_) (Kd.R_bound HR1.out) (fun k hk => by have := hk.2.1; omega))) (bA_ (Below.refl _ _) _)
   · exact Kd.F_below (Kd.R_F (Kd.R_mono (ok' := fun k_ => w.heap.size ≤ k_) (Kd.R_bound HR2.out) (fun k hk => by have := hk.2.1; omega))) (bA_ (Below.refl _ _) _)
 exact V_of_block (d := k57) (e := 57) (w := w) (g := w2.heap.size) (cap := 1) (t := 57) (l := [(⟨0, bs, bs ++ [0], false⟩ : S57)]) (cur := [.int .i64 0, .slice A1 bs.length c1, .slice A2 (bs.length + 1) c2, .bool false]) (below_size HB2.out) (heap_alloc_new w2 _) (show 1 ≤ 9223372036854775807 by decide) (Nat.le_refl _) rfl hE
def banksmanlaw14_put.f (a0 : ByteArray) : Option ((List (S59))) := if a0.size < 1000000 then some [⟨0, bytesI a0, false, []⟩] else none
set_option maxHeartbeats 1000000 in
set_option maxRecDepth 100000 in
theorem banksmanlaw14_put.calls (a0 : ByteArray) (r : List (S59)) (w : World) (h : banksmanlaw14_put.f a0 = some r) :
  Calls Try.prog 22 #[.string a0] w fun e w' => ∃ v0_ : Value, e = .returned (v0_) ∧ Kd.V k59 59 w' w.heap.size (fun k_ => (w.heap.size ≤ k_)) v0_ r ∧ Below w.heap.size w w' := by
 unfold banksmanlaw14_put.f at h
 have hl : a0.size < 1000000 := Classical.byContradiction fun hn => by rw [if_neg hn] at h; cases h
 rw [if_pos hl] at h
 obtain rfl := sO_ h
 clear h
 have hbl := bytesI_length a0
 have HBL := m0_ hbl
 generalize hbx : bytesI a0 = bs at *
 clear hbl
 go_enter Try.func22, Try.ntmps22
 go_wp2_with ((with_reducible refine gate_dst (N := 4) rfl ?_); refine conv_str_op 9 55 5 Try.underlying9 Try.underlying55 Try.underlying5 rfl 4 rfl _ rfl a0 rfl (by omega) ?_; intro A c w1 hc hV hb; rw [hbx] at hc hV ⊢; have HC := m0_ hc; have HV := m0_ hV; have HB := m0_ hb; clear hc hV hb)
 go_ret
 refine ⟨_, rfl, ?_, bA_ HB.out _⟩
 have hE : ∀ j q, [(⟨0, bs, false, []⟩ : S59)][j]? = some q → Kd.FK k59 (w1.alloc (.cells #[.int .i64 0, .slice A bs.length c, .bool false, .slice none 0 0] 59 (0, 0))) (fun k_ => w.heap.size ≤ k_) q ((([.int .i64 0, .slice A bs.length c, .bool false, .slice none 0 0] : List Value).drop (j * 4)).take 4) := by
  intro j q hj
  cases j with
  | succ j => simp at hj
  | zero =>
   have hq : (⟨0, bs, false, []⟩ : S59) = q := sO_ hj
   subst hq
   exact k59_mkF _ _ ⟨0, bs, false, []⟩ HC.out (Kd.F_below (Kd.V_at HV.out).2.2 (bA_ (Below.refl _ _) _)) (Nat.le_refl _) (Kd.F_nil _ _ _)
 exact V_of_block (d := k59) (e := 59) (w := w) (g := w1.heap.size) (cap := 1) (t := 59) (l := [(⟨0, bs, false, []⟩ : S59)]) (cur := [.int .i64 0, .slice A bs.length c, .bool false, .slice none 0 0]) (below_size HB.out) (heap_alloc_new w1 _) (show 1 ≤ 9223372036854775807 by decide) (Nat.le_refl _) rfl hE
def banksmanref10_Few.l0 : Nat → List (S57) → Int → Option (Bool)
 | 0, _, _ => none
 | k + 1, x0, x3 => if x3 < (x0.length : Int) then (if 0 ≤ x3 then (if (((rd_T57 x0 x3).f1).length : Int) > 100 then (some false) else (if (((rd_T57 x0 x3).f2).length : Int) > 100 then (some false) else (banksmanref10_Few.l0 k x0 (wrap64 (x3 + 1))))) else (none)) else (some true)
def banksmanref10_Few.f (k : Nat) (l0 : List (S57)) : Option (Bool) := if (l0.length : Int) > 100 then (some false) else (banksmanref10_Few.l0 k l0 0)
set_option maxHeartbeats 8000000 in
set_option maxRecDepth 100000 in
theorem banksmanref10_Few.calls (k : Nat) (A0 : Option Addr) (c0 : Nat) (l0 : List (S57)) (r : Bool) (w : World) (hr0 : Kd.C k57 w A0 l0.length l0) (hc0 : l0.length ≤ c0) (h : banksmanref10_Few.f k l0 = some r) :
   Calls Try.prog 9 #[.slice A0 l0.length c0] w fun e w' => e = .returned (.bool r) ∧ Drawn0 w w' := by
 have HR0 := m0_ hr0
 have HC0 := m0_ hc0
 clear hr0 hc0
 have H : (if (l0.length : Int) > 100 then (some false) else (banksmanref10_Few.l0 k l0 0)) = some r := h
 clear h
 by_cases c2 : (l0.length : Int) > 100
 · rw [if_pos c2] at H
   have c2b0 : decide (100 < (l0.length : Int)) = true := decide_eq_true c2
   have c2b1 : decide (100 < l0.length) = true := decide_eq_true (by omega)
   clear c2
   obtain rfl := sO_ H
   go_enter Try.func9, Try.ntmps9
   go_wp2
   go_ret
   exact ⟨by first | rfl | (simp; done) | (simp [*]; done), by repeat (first | exact Drawn0.refl _ | apply Drawn0.step)⟩
 · rw [if_neg c2] at H
   have c2b0 : decide (100 < (l0.length : Int)) = false := decide_eq_false c2
   have c2b1 : decide (100 < l0.length) = false := decide_eq_false (by omega)
   clear c2
   have H' := m0_ H
   clear H
   go_enter Try.func9, Try.ntmps9
   go_wp2
   go_loopg [3] k (fun kq v3 w' => ∃ (x3_1 : Int), v3 = .int .i64 x3_1 ∧ Aside0 (banksmanref10_Few.l0 kq l0 x3_1 = some r) ∧ Aside0 (kq ≤ k) ∧ Drawn0 w w')
   case atStart => exact ⟨(0), (by first | rfl | (simp; done) | (simp [*]; done)), H', ⟨Nat.le_refl _⟩, by repeat (first | exact Drawn0.refl _ | apply Drawn0.step)⟩
   case round =>
    clear H'
    try clear c2
    try clear c2b0
    try clear c2b1
    try clear p2
    obtain ⟨x3_1, rfl, HA, HK1, ⟨m1, rfl⟩⟩ := hrel
    cases gk with
    | zero => exact absurd HA.out (by simp [banksmanref10_Few.l0])
    | succ k1 =>
     have H := HA.out
     clear HA
     simp only [banksmanref10_Few.l0] at H
     by_cases c3 : x3_1 < (l0.length : Int)
     · rw [if_pos c3] at H
       have c3b0 : decide (x3_1 < (l0.length : Int)) = true := decide_eq_true c3
       clear c3
       by_cases c4 : 0 ≤ x3_1
       · rw [if_pos c4] at H
         have c4b0 : decide (0 ≤ x3_1) = true := decide_eq_true c4
         clear c4
         by_cases c5 : (((rd_T57 l0 x3_1).f1).length : Int) > 100
         · rw [if_pos c5] at H
           have c5b0 : decide (100 < (((rd_T57 l0 x3_1).f1).length : Int)) = true := decide_eq_true c5
           have c5b1 : decide (100 < ((rd_T57 l0 x3_1).f1).length) = true := decide_eq_true (by omega)
           clear c5
           obtain rfl := sO_ H
           have p187 : 0 ≤ (x3_1 : Int) := dT_
           have q187 : x3_1 < (l0.length : Int) := dT_
           obtain ⟨ad187, A187_1, c187_1, A187_2, c187_2, e187, hx187_0, hx187_1, hx187_2, hx187_3, hl187_1, hi187_1, hl187_2, hi187_2⟩ := at_T57 HR0.out x3_1 p187 q187
           cases e187
           have HR187_1 := m0_ hi187_1
           have HC187_1 := m0_ hl187_1
           clear hi187_1 hl187_1
           have HR187_2 := m0_ hi187_2
           have HC187_2 := m0_ hl187_2
           clear hi187_2 hl187_2
           replace p187 := eq_true p187
           replace q187 := eq_true q187
           go_wp2
           go_ret
           exact ⟨by first | rfl | (simp; done) | (simp [*]; done), by repeat (first | exact Drawn0.refl _ | apply Drawn0.step)⟩
         · rw [if_neg c5] at H
           have c5b0 : decide (100 < (((rd_T57 l0 x3_1).f1).length : Int)) = false := decide_eq_false c5
           have c5b1 : decide (100 < ((rd_T57 l0 x3_1).f1).length) = false := decide_eq_false (by omega)
           clear c5
           by_cases c6 : (((rd_T57 l0 x3_1).f2).length : Int) > 100
           · rw [if_pos c6] at H
             have c6b0 : decide (100 < (((rd_T57 l0 x3_1).f2).length : Int)) = true := decide_eq_true c6
             have c6b1 : decide (100 < ((rd_T57 l0 x3_1).f2).length) = true := decide_eq_true (by omega)
             clear c6
             obtain rfl := sO_ H
             have p187 : 0 ≤ (x3_1 : Int) := dT_
             have q187 : x3_1 < (l0.length : Int) := dT_
             obtain ⟨ad187, A187_1, c187_1, A187_2, c187_2, e187, hx187_0, hx187_1, hx187_2, hx187_3, hl187_1, hi187_1, hl187_2, hi187_2⟩ := at_T57 HR0.out x3_1 p187 q187
             cases e187
             have HR187_1 := m0_ hi187_1
             have HC187_1 := m0_ hl187_1
             clear hi187_1 hl187_1
             have HR187_2 := m0_ hi187_2
             have HC187_2 := m0_ hl187_2
             clear hi187_2 hl187_2
             replace p187 := eq_true p187
             replace q187 := eq_true q187
             have p188 : 0 ≤ (x3_1 : Int) := dT_
             have q188 : x3_1 < (l0.length : Int) := dT_
             obtain ⟨ad188, A188_1, c188_1, A188_2, c188_2, e188, hx188_0, hx188_1, hx188_2, hx188_3, hl188_1, hi188_1, hl188_2, hi188_2⟩ := at_T57 HR0.out x3_1 p188 q188
             obtain rfl : ad187 = ad188 := (by injection e188)
             have HR188_1 := m0_ hi188_1
             have HC188_1 := m0_ hl188_1
             clear hi188_1 hl188_1
             have HR188_2 := m0_ hi188_2
             have HC188_2 := m0_ hl188_2
             clear hi188_2 hl188_2
             replace p188 := eq_true p188
             replace q188 := eq_true q188
             have ea_ := sO_ (hx187_1.symm.trans hx188_1)
             injection ea_ with ea_ en_ ec_
             subst ea_
             subst ec_
             clear en_
             have ea_ := sO_ (hx187_2.symm.trans hx188_2)
             injection ea_ with ea_ en_ ec_
             subst ea_
             subst ec_
             clear en_
             go_wp2
             go_ret
             exact ⟨by first | rfl | (simp; done) | (simp [*]; done), by repeat (first | exact Drawn0.refl _ | apply Drawn0.step)⟩
           · rw [if_neg c6] at H
             have c6b0 : decide (100 < (((rd_T57 l0 x3_1).f2).length : Int)) = false := decide_eq_false c6
             have c6b1 : decide (100 < ((rd_T57 l0 x3_1).f2).length) = false := decide_eq_false (by omega)
             clear c6
             have H' := m0_ H
             clear H
             have p187 : 0 ≤ (x3_1 : Int) := dT_
             have q187 : x3_1 < (l0.length : Int) := dT_
             obtain ⟨ad187, A187_1, c187_1, A187_2, c187_2, e187, hx187_0, hx187_1, hx187_2, hx187_3, hl187_1, hi187_1, hl187_2, hi187_2⟩ := at_T57 HR0.out x3_1 p187 q187
             cases e187
             have HR187_1 := m0_ hi187_1
             have HC187_1 := m0_ hl187_1
             clear hi187_1 hl187_1
             have HR187_2 := m0_ hi187_2
             have HC187_2 := m0_ hl187_2
             clear hi187_2 hl187_2
             replace p187 := eq_true p187
             replace q187 := eq_true q187
             have p188 : 0 ≤ (x3_1 : Int) := dT_
             have q188 : x3_1 < (l0.length : Int) := dT_
             obtain ⟨ad188, A188_1, c188_1, A188_2, c188_2, e188, hx188_0, hx188_1, hx188_2, hx188_3, hl188_1, hi188_1, hl188_2, hi188_2⟩ := at_T57 HR0.out x3_1 p188 q188
             obtain rfl : ad187 = ad188 := (by injection e188)
             have HR188_1 := m0_ hi188_1
             have HC188_1 := m0_ hl188_1
             clear hi188_1 hl188_1
             have HR188_2 := m0_ hi188_2
             have HC188_2 := m0_ hl188_2
             clear hi188_2 hl188_2
             replace p188 := eq_true p188
             replace q188 := eq_true q188
             have ea_ := sO_ (hx187_1.symm.trans hx188_1)
             injection ea_ with ea_ en_ ec_
             subst ea_
             subst ec_
             clear en_
             have ea_ := sO_ (hx187_2.symm.trans hx188_2)
             injection ea_ with ea_ en_ ec_
             subst ea_
             subst ec_
             clear en_
             go_wp2
             go_roundg k1
             case measure => have := HK1.out; omega
             case rel => exact ⟨(wrap64 (x3_1 + 1)), (by first | rfl | (simp; done) | (simp [*]; done)), H', ⟨by have := HK1.out; omega⟩, by repeat (first | exact Drawn0.refl _ | apply Drawn0.step)⟩
       · rw [if_neg c4] at H
         exact absurd H (by simp)
     · rw [if_neg c3] at H
       have c3b0 : decide (x3_1 < (l0.length : Int)) = false := decide_eq_false c3
       clear c3
       obtain rfl := sO_ H
       go_wp2
       go_ret
       exact ⟨by first | rfl | (simp; done) | (simp [*]; done), by repeat (first | exact Drawn0.refl _ | apply Drawn0.step)⟩
def banksmanref10_In.f (a0_0 : Int) (l0_1 : List Int) (l0_2 : List Int) (a0_3 : Bool) (a1 : Int) (l2 : List Int) : Option (Bool) := if a0_0 = a1 then (if ((Op.bytesLess ((strOfNums l2).toList) ((strOfNums l0_1).toList)) = true) then (some false) else (if a0_3 = true then (some true) else (some (Op.bytesLess ((strOfNums l2).toList) ((strOfNums l0_2).toList))))) else (some false)
set_option maxHeartbeats 8000000 in
set_option maxRecDepth 100000 in
theorem banksmanref10_In.calls (a0_0 : Int) (A0_1 : Option Addr) (c0_1 : Nat) (l0_1 : List Int) (A0_2 : Option Addr) (c0_2 : Nat) (l0_2 : List Int) (a0_3 : Bool) (a1 : Int) (A2 : Option Addr) (c2 : Nat) (l2 : List Int) (r : Bool) (w : World) (hr0_1 : Kd.C (Kd.int .u8) w A0_1 l0_1.length l0_1) (hc0_1 : l0_1.length ≤ c0_1) (hr0_2 : Kd.C (Kd.int .u8) w A0_2 l0_2.length l0_2) (hc0_2 : l0_2.length ≤ c0_2) (hr2 : Kd.C (Kd.int .u8) w A2 l2.length l2) (hc2 : l2.length ≤ c2) (h : banksmanref10_In.f a0_0 l0_1 l0_2 a0_3 a1 l2 = some r) :
   Calls Try.prog 35 #[.agg #[.int .i64 a0_0, .slice A0_1 l0_1.length c0_1, .slice A0_2 l0_2.length c0_2, .bool a0_3], .int .i64 a1, .slice A2 l2.length c2] w fun e w' => e = .returned (.bool r) ∧ Below w.heap.size w w' := by
 have hu57 := Try.underlying57
 have HR0_1 := m0_ hr0_1
 have HC0_1 := m0_ hc0_1
 clear hr0_1 hc0_1
 have HR0_2 := m0_ hr0_2
 have HC0_2 := m0_ hc0_2
 clear hr0_2 hc0_2
 have HR2 := m0_ hr2
 have HC2 := m0_ hc2
 clear hr2 hc2
 have HB := m0_ (Below.refl w.heap.size w)
 have H : (if a0_0 = a1 then (if ((Op.bytesLess ((strOfNums l2).toList) ((strOfNums l0_1).toList)) = true) then (some false) else (if a0_3 = true then (some true) else (some (Op.bytesLess ((strOfNums l2).toList) ((strOfNums l0_2).toList))))) else (some false)) = some r := h
 clear h
 by_cases c4 : a0_0 = a1
 · rw [if_pos c4] at H
   have c4b0 : (a0_0 == a1) = true := beq_iff_eq.mpr c4
   have c4b1 : (a0_0 != a1) = false := bne_eq_false_iff_eq.mpr c4
   clear c4
   by_cases c5 : ((Op.bytesLess ((strOfNums l2).toList) ((strOfNums l0_1).toList)) = true)
   · rw [if_pos c5] at H
     have c5b0 : (Op.bytesLess ((strOfNums l2).toList) ((strOfNums l0_1).toList)) = true := c5
     clear c5
     obtain rfl := sO_ H
     go_enter Try.func35, Try.ntmps35
     go_wp2_with (first | ((with_reducible refine gate_dst (N := 3) rfl ?_); refine box_event ?hg (N := 3) ?hd (cs := #[.int .i64 a0_0, .slice A0_1 l0_1.length c0_1, .slice A0_2 l0_2.length c0_2, .bool a0_3]) (t := 57) ?hr ?_; (case hd => rfl); (case hg => rfl); (case hr => first | (go_simp; done) | (go_simp; rfl)); intro gb288 hg w6 hbox hb; have n0_ := m0_ (below_step (by repeat (first | (with_reducible first | exact HB.out | apply bA_ | apply dN_ | apply b1_) | exact HB.out)) hb); have n1_ := m0_ (hbox); have n2_ := m0_ ((by rw [hg]; exact (below_size (by repeat (first | (with_reducible first | exact HB.out | apply bA_ | apply dN_ | apply b1_) | exact HB.out))) : w.heap.size ≤ gb288)); have n3_ := m0_ ((by rw [hg]; exact (below_size (by repeat (first | (with_reducible first | exact HB.out | apply bA_ | apply dN_ | apply b1_) | exact HB.out))) : w.heap.size ≤ gb288)); clear HB; have HB := n0_; have BK288 := n1_; have GW288 := n2_; have GE288 := n3_; clear n0_ n1_ n2_ n3_; clear hb hbox hg; have hcz7_0 : w6.cell? ⟨gb288, 0, none⟩ = some (.int .i64 a0_0) := (blk_cell BK288.out 0).trans rfl; have hcz7_1 : w6.cell? ⟨gb288, 1, none⟩ = some (.slice A0_1 l0_1.length c0_1) := (blk_cell BK288.out 1).trans rfl; have hcz7_2 : w6.cell? ⟨gb288, 2, none⟩ = some (.slice A0_2 l0_2.length c0_2) := (blk_cell BK288.out 2).trans rfl; have hcz7_3 : w6.cell? ⟨gb288, 3, none⟩ = some (.bool a0_3) := (blk_cell BK288.out 3).trans rfl; have hfz7_0 := bf_ BK288.out 0; have hfz7_1 := bf_ BK288.out 1; have hfz7_2 := bf_ BK288.out 2; have hfz7_3 := bf_ BK288.out 3; have hcv8 := Kd.C_string (P := Try.prog) (A := A2) (c := c2) Try.underlying55 Try.underlying5 Try.underlying9 (kB_ HR2.out HB.out); have hcv8q := fun n_ => Kd.C_string (P := Try.prog) (A := A2) (c := c2) Try.underlying55 Try.underlying5 Try.underlying9 (kN_ (kB_ HR2.out HB.out) n_); have hcv9 := Kd.C_string (P := Try.prog) (A := A0_1) (c := c0_1) Try.underlying55 Try.underlying5 Try.underlying9 (kB_ HR0_1.out HB.out); have hcv9q := fun n_ => Kd.C_string (P := Try.prog) (A := A0_1) (c := c0_1) Try.underlying55 Try.underlying5 Try.underlying9 (kN_ (kB_ HR0_1.out HB.out) n_)))
     go_ret
     exact ⟨by first | rfl | (simp [errW_none, errW_some] <;> rfl) | (simp [*, errW_none, errW_some] <;> rfl), by repeat (first | (with_reducible first | exact HB.out | apply bA_ | apply dN_ | apply b1_ | refine below_set ?_ GE288.out) | exact HB.out)⟩
   · rw [if_neg c5] at H
     have c5b0 : (Op.bytesLess ((strOfNums l2).toList) ((strOfNums l0_1).toList)) = false := by simpa using c5
     clear c5
     by_cases c10 : a0_3 = true
     · subst c10
       have H1 : (some true) = some r := by rw [if_pos rfl] at H; exact H
       clear H
       have H := H1
       clear H1
       obtain rfl := sO_ H
       go_enter Try.func35, Try.ntmps35
       go_wp2_with (first | ((with_reducible refine gate_dst (N := 3) rfl ?_); refine box_event ?hg (N := 3) ?hd (cs := #[.int .i64 a0_0, .slice A0_1 l0_1.length c0_1, .slice A0_2 l0_2.length c0_2, .bool true]) (t := 57) ?hr ?_; (case hd => rfl); (case hg => rfl); (case hr => first | (go_simp; done) | (go_simp; rfl)); intro gb288 hg w11 hbox hb; have n0_ := m0_ (below_step (by repeat (first | (with_reducible first | exact HB.out | apply bA_ | apply dN_ | apply b1_) | exact HB.out)) hb); have n1_ := m0_ (hbox); have n2_ := m0_ ((by rw [hg]; exact (below_size (by repeat (first | (with_reducible first | exact HB.out | apply bA_ | apply dN_ | apply b1_) | exact HB.out))) : w.heap.size ≤ gb288)); have n3_ := m0_ ((by rw [hg]; exact (below_size (by repeat (first | (with_reducible first | exact HB.out | apply bA_ | apply dN_ | apply b1_) | exact HB.out))) : w.heap.size ≤ gb288)); clear HB; have HB := n0_; have BK288 := n1_; have GW288 := n2_; have GE288 := n3_; clear n0_ n1_ n2_ n3_; clear hb hbox hg; have hcz12_0 : w11.cell? ⟨gb288, 0, none⟩ = some (.int .i64 a0_0) := (blk_cell BK288.out 0).trans rfl; have hcz12_1 : w11.cell? ⟨gb288, 1, none⟩ = some (.slice A0_1 l0_1.length c0_1) := (blk_cell BK288.out 1).trans rfl; have hcz12_2 : w11.cell? ⟨gb288, 2, none⟩ = some (.slice A0_2 l0_2.length c0_2) := (blk_cell BK288.out 2).trans rfl; have hcz12_3 : w11.cell? ⟨gb288, 3, none⟩ = some (.bool true) := (blk_cell BK288.out 3).trans rfl; have hfz12_0 := bf_ BK288.out 0; have hfz12_1 := bf_ BK288.out 1; have hfz12_2 := bf_ BK288.out 2; have hfz12_3 := bf_ BK288.out 3; have hcv13 := Kd.C_string (P := Try.prog) (A := A2) (c := c2) Try.underlying55 Try.underlying5 Try.underlying9 (kB_ HR2.out HB.out); have hcv13q := fun n_ => Kd.C_string (P := Try.prog) (A := A2) (c := c2) Try.underlying55 Try.underlying5 Try.underlying9 (kN_ (kB_ HR2.out HB.out) n_); have hcv14 := Kd.C_string (P := Try.prog) (A := A0_1) (c := c0_1) Try.underlying55 Try.underlying5 Try.underlying9 (kB_ HR0_1.out HB.out); have hcv14q := fun n_ => Kd.C_string (P := Try.prog) (A := A0_1) (c := c0_1) Try.underlying55 Try.underlying5 Try.underlying9 (kN_ (kB_ HR0_1.out HB.out) n_)))
       go_ret
       exact ⟨by first | rfl | (simp [errW_none, errW_some] <;> rfl) | (simp [*, errW_none, errW_some] <;> rfl), by repeat (first | (with_reducible first | exact HB.out | apply bA_ | apply dN_ | apply b1_ | refine below_set ?_ GE288.out) | exact HB.out)⟩
     · replace c10 := Bool.eq_false_iff.mpr c10
       subst c10
       have H1 : (some (Op.bytesLess ((strOfNums l2).toList) ((strOfNums l0_2).toList))) = some r := by rw [if_neg (show ¬ (false = true) by decide)] at H; exact H
       clear H
       have H := H1
       clear H1
       obtain rfl := sO_ H
       go_enter Try.func35, Try.ntmps35
       go_wp2_with (first | ((with_reducible refine gate_dst (N := 3) rfl ?_); refine box_event ?hg (N := 3) ?hd (cs := #[.int .i64 a0_0, .slice A0_1 l0_1.length c0_1, .slice A0_2 l0_2.length c0_2, .bool false]) (t := 57) ?hr ?_; (case hd => rfl); (case hg => rfl); (case hr => first | (go_simp; done) | (go_simp; rfl)); intro gb288 hg w15 hbox hb; have n0_ := m0_ (below_step (by repeat (first | (with_reducible first | exact HB.out | apply bA_ | apply dN_ | apply b1_) | exact HB.out)) hb); have n1_ := m0_ (hbox); have n2_ := m0_ ((by rw [hg]; exact (below_size (by repeat (first | (with_reducible first | exact HB.out | apply bA_ | apply dN_ | apply b1_) | exact HB.out))) : w.heap.size ≤ gb288)); have n3_ := m0_ ((by rw [hg]; exact (below_size (by repeat (first | (with_reducible first | exact HB.out | apply bA_ | apply dN_ | apply b1_) | exact HB.out))) : w.heap.size ≤ gb288)); clear HB; have HB := n0_; have BK288 := n1_; have GW288 := n2_; have GE288 := n3_; clear n0_ n1_ n2_ n3_; clear hb hbox hg; have hcz16_0 : w15.cell? ⟨gb288, 0, none⟩ = some (.int .i64 a0_0) := (blk_cell BK288.out 0).trans rfl; have hcz16_1 : w15.cell? ⟨gb288, 1, none⟩ = some (.slice A0_1 l0_1.length c0_1) := (blk_cell BK288.out 1).trans rfl; have hcz16_2 : w15.cell? ⟨gb288, 2, none⟩ = some (.slice A0_2 l0_2.length c0_2) := (blk_cell BK288.out 2).trans rfl; have hcz16_3 : w15.cell? ⟨gb288, 3, none⟩ = some (.bool false) := (blk_cell BK288.out 3).trans rfl; have hfz16_0 := bf_ BK288.out 0; have hfz16_1 := bf_ BK288.out 1; have hfz16_2 := bf_ BK288.out 2; have hfz16_3 := bf_ BK288.out 3; have hcv17 := Kd.C_string (P := Try.prog) (A := A2) (c := c2) Try.underlying55 Try.underlying5 Try.underlying9 (kB_ HR2.out HB.out); have hcv17q := fun n_ => Kd.C_string (P := Try.prog) (A := A2) (c := c2) Try.underlying55 Try.underlying5 Try.underlying9 (kN_ (kB_ HR2.out HB.out) n_); have hcv18 := Kd.C_string (P := Try.prog) (A := A0_1) (c := c0_1) Try.underlying55 Try.underlying5 Try.underlying9 (kB_ HR0_1.out HB.out); have hcv18q := fun n_ => Kd.C_string (P := Try.prog) (A := A0_1) (c := c0_1) Try.underlying55 Try.underlying5 Try.underlying9 (kN_ (kB_ HR0_1.out HB.out) n_); have hcv19 := Kd.C_string (P := Try.prog) (A := A2) (c := c2) Try.underlying55 Try.underlying5 Try.underlying9 (kB_ HR2.out HB.out); have hcv19q := fun n_ => Kd.C_string (P := Try.prog) (A := A2) (c := c2) Try.underlying55 Try.underlying5 Try.underlying9 (kN_ (kB_ HR2.out HB.out) n_); have hcv20 := Kd.C_string (P := Try.prog) (A := A0_2) (c := c0_2) Try.underlying55 Try.underlying5 Try.underlying9 (kB_ HR0_2.out HB.out); have hcv20q := fun n_ => Kd.C_string (P := Try.prog) (A := A0_2) (c := c0_2) Try.underlying55 Try.underlying5 Try.underlying9 (kN_ (kB_ HR0_2.out HB.out) n_)))
       go_ret
       exact ⟨by first | rfl | (simp [errW_none, errW_some] <;> rfl) | (simp [*, errW_none, errW_some] <;> rfl), by repeat (first | (with_reducible first | exact HB.out | apply bA_ | apply dN_ | apply b1_ | refine below_set ?_ GE288.out) | exact HB.out)⟩
 · rw [if_neg c4] at H
   have c4b0 : (a0_0 == a1) = false := beq_eq_false_iff_ne.mpr c4
   have c4b1 : (a0_0 != a1) = true := bne_iff_ne.mpr c4
   obtain rfl := sO_ H
   go_enter Try.func35, Try.ntmps35
   go_wp2_with (first | ((with_reducible refine gate_dst (N := 3) rfl ?_); refine box_event ?hg (N := 3) ?hd (cs := #[.int .i64 a0_0, .slice A0_1 l0_1.length c0_1, .slice A0_2 l0_2.length c0_2, .bool a0_3]) (t := 57) ?hr ?_; (case hd => rfl); (case hg => rfl); (case hr => first | (go_simp; done) | (go_simp; rfl)); intro gb288 hg w21 hbox hb; have n0_ := m0_ (below_step (by repeat (first | (with_reducible first | exact HB.out | apply bA_ | apply dN_ | apply b1_) | exact HB.out)) hb); have n1_ := m0_ (hbox); have n2_ := m0_ ((by rw [hg]; exact (below_size (by repeat (first | (with_reducible first | exact HB.out | apply bA_ | apply dN_ | apply b1_) | exact HB.out))) : w.heap.size ≤ gb288)); have n3_ := m0_ ((by rw [hg]; exact (below_size (by repeat (first | (with_reducible first | exact HB.out | apply bA_ | apply dN_ | apply b1_) | exact HB.out))) : w.heap.size ≤ gb288)); clear HB; have HB := n0_; have BK288 := n1_; have GW288 := n2_; have GE288 := n3_; clear n0_ n1_ n2_ n3_; clear hb hbox hg; have hcz22_0 : w21.cell? ⟨gb288, 0, none⟩ = some (.int .i64 a0_0) := (blk_cell BK288.out 0).trans rfl; have hcz22_1 : w21.cell? ⟨gb288, 1, none⟩ = some (.slice A0_1 l0_1.length c0_1) := (blk_cell BK288.out 1).trans rfl; have hcz22_2 : w21.cell? ⟨gb288, 2, none⟩ = some (.slice A0_2 l0_2.length c0_2) := (blk_cell BK288.out 2).trans rfl; have hcz22_3 : w21.cell? ⟨gb288, 3, none⟩ = some (.bool a0_3) := (blk_cell BK288.out 3).trans rfl; have hfz22_0 := bf_ BK288.out 0; have hfz22_1 := bf_ BK288.out 1; have hfz22_2 := bf_ BK288.out 2; have hfz22_3 := bf_ BK288.out 3))
   go_ret
   exact ⟨by first | rfl | (simp [errW_none, errW_some] <;> rfl) | (simp [*, errW_none, errW_some] <;> rfl), by repeat (first | (with_reducible first | exact HB.out | apply bA_ | apply dN_ | apply b1_ | refine below_set ?_ GE288.out) | exact HB.out)⟩
end Go.Proofs.Ytpoaleejhdeclaa.P
