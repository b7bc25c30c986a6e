import Derived.Test.YtbjeaalbdaedpaaPx0
import Derived.Test.YtbjeaalbdaedpaaPx1
import Derived.Test.YtbjeaalbdaedpaaPx37
import Derived.Test.YtbjeaalbdaedpaaPx48
import Derived.BigQuiet
import Derived.Laws.StructEq
import Derived.OrdersIn
import Derived.RangeFuncBox
namespace Go.Proofs.Ytbjeaalbdaedpaa.P
open Go.RowKit Go.Proofs.YtbjeaalbdaedpaaW.PrintWords Go.Proofs.YtbjeaalbdaedpaaW.PrintLast Go.Proofs.YtbjeaalbdaedpaaW.PrintMore
attribute [local go_sem] max2_int min2_int max_two min_two max_three min_three max_four min_four
set_option linter.unusedVariables false
set_option linter.unusedSimpArgs false
def hitW (t : Int) (key : List Int) (x : S28) : Bool := (x.f0 == t) && ((strOfNums x.f1).toList == (strOfNums key).toList)
theorem eqPlace (d : Nat) (w : World) (x0 y0 : Int) (x1 y1 : ByteArray) :
    (Op.equalIn (d + 2) 68 (.agg #[.int .i64 x0, .string x1]) (.agg #[.int .i64 y0, .string y1])).run Try.prog w = .ok (x0 == y0 && (x1.toList == y1.toList)) w := by
  refine eqA_of Try.underlying68 (by kernel_rfl) ?_
  refine eqf_cons (by rfl) (by go_simp; rfl) (by go_simp; rfl) (by go_simp) ?_
  exact eqf_last (by rfl) (by go_simp; rfl) (by go_simp; rfl) (by go_simp)
theorem results_rb {P : Program} {fn : Func} {p p' : Tmp} {ty ty' : TypeId} (h : fn.results = #[.cell p ty, .cell p' ty']) (tmps : Array Value) (w : World) (g g' t t' : Nat) (cs : Array Value) (fr : Nat × Nat) (d : TypeDesc) (b : Bool)
    (hp : tmps.getD p undef = .pointer (some ⟨g, 0, none⟩)) (hg : w.heap[g]? = some (.cells cs t fr)) (hu : P.underlying ty = some d) (hd : (match d with | .struct _ | .array _ _ => true | _ => false) = true) (hi : (P.info? ty).map (·.size) = some cs.size)
    (hp' : tmps.getD p' undef = .pointer (some ⟨g', 0, none⟩)) (hg' : Boxed w g' t' (.bool b)) (hu' : P.underlying ty' = some .bool) :
    (results fn tmps).run P w = .ok (.tuple #[.agg cs, .bool b]) w := by
  have h1 : tmps[p]?.getD undef = .pointer (some ⟨g, 0, none⟩) := by simpa using hp
  have h2 : tmps[p']?.getD undef = .pointer (some ⟨g', 0, none⟩) := by simpa using hp'
  have c2 := hg'.cell
  have r1 := run_loadVar_row w g t ty cs fr d hg hu hd hi
  have r2 : (loadVar ty' ⟨g', 0, none⟩).run P w = .ok (.bool b) w := by simp [loadVar, isAgg, run_underlying hu', go_sem, c2]
  simp [results, h, h1, h2, asAddr, r1, r2, Result.andThen]
def FindB (w : World) (oD : Obj) (a1 : Int) (vk : Value) (W : World) : Prop := Below w.heap.size w W ∧ W.heap[w.heap.size]? = some oD ∧ W.heap[w.heap.size + 1]? = some (.cells #[.int .i64 a1] 3 (0, 0)) ∧ W.heap[w.heap.size + 2]? = some (.cells #[vk] 26 (0, 0))
def FindZ (w W : World) : Prop := W.heap[w.heap.size + 3]? = some (.cells #[.int .i64 0, .slice none 0 0, .bool false, .slice none 0 0] 28 (0, 0)) ∧ W.heap[w.heap.size + 4]? = some (.cells #[.bool false] 4 (0, 0))
theorem FindB.far {w : World} {oD : Obj} {a1 : Int} {vk : Value} {W W1 : World} (h : FindB w oD a1 vk W) (hb : Below w.heap.size W W1) (hk : ∀ k, k < w.heap.size + 3 → W1.heap[k]? = W.heap[k]?) : FindB w oD a1 vk W1 :=
  ⟨h.1.trans hb, (hk _ (by omega)).trans h.2.1, (hk _ (by omega)).trans h.2.2.1, (hk _ (by omega)).trans h.2.2.2⟩
theorem FindB.step {w : World} {oD : Obj} {a1 : Int} {vk : Value} {W W1 : World} (h : FindB w oD a1 vk W) (hb : Below W.heap.size W W1) : FindB w oD a1 vk W1 :=
  ⟨below_step h.1 hb, (hb.block _ (blk_lt h.2.1)).trans h.2.1, (hb.block _ (blk_lt h.2.2.1)).trans h.2.2.1, (hb.block _ (blk_lt h.2.2.2)).trans h.2.2.2⟩
theorem FindZ.step {w W W1 : World} (h : FindZ w W) (hb : Below W.heap.size W W1) : FindZ w W1 := ⟨(hb.block _ (blk_lt h.1)).trans h.1, (hb.block _ (blk_lt h.2)).trans h.2⟩
theorem keeps_of_below {W W1 : World} (h : Below W.heap.size W W1) : KeepsOthers W W1 := ⟨h.size, fun k _ hk _ => (h.block k (Array.getElem?_eq_some_iff.1 hk).1).trans hk⟩
theorem rd_rev (xs : List S28) (j : Nat) (hj : j < xs.length) : xs.reverse[j]? = some (rd_T28 xs ((xs.length - 1 - j : Nat) : Int)) := by
  rw [List.getElem?_reverse hj]
  unfold rd_T28
  rw [Int.toNat_natCast, List.getD_eq_getElem?_getD, List.getElem?_eq_getElem (by omega)]
  rfl
theorem find_rev_none (p : S28 → Bool) (xs : List S28) (h : ∀ j, j < xs.length → p (rd_T28 xs ((xs.length - 1 - j : Nat) : Int)) = false) : xs.reverse.find? p = none := by
  rw [List.find?_eq_none]
  intro x hx
  obtain ⟨j, hj⟩ := List.mem_iff_getElem?.1 hx
  have hjl : j < xs.length := by have := (List.getElem?_eq_some_iff.1 hj).1; simpa using this
  rw [rd_rev xs j hjl] at hj
  obtain rfl := Option.some.inj hj
  rw [h j hjl]
  decide
theorem find_at {α : Type} (p : α → Bool) : ∀ (l : List α) (k : Nat) (x : α), l[k]? = some x → p x = true → (∀ j y, j < k → l[j]? = some y → p y = false) → l.find? p = some x
  | [], k, x, h, _, _ => by simp at h
  | a :: l, 0, x, h, hp, _ => by
    simp at h
    subst h
    simp [hp]
  | a :: l, k + 1, x, h, hp, hn => by
    have h0 := hn 0 a (by omega) rfl
    rw [List.find?_cons_of_neg (by simp [h0])]
    exact find_at p l k x (by simpa using h) hp (fun j y hj hy => hn (j + 1) y (by omega) (by simpa using hy))
theorem find_rev_some {p : S28 → Bool} (xs : List S28) (k : Nat) (hk : k < xs.length) (hn : ∀ j, j < k → p (rd_T28 xs ((xs.length - 1 - j : Nat) : Int)) = false) (hy : p (rd_T28 xs ((xs.length - 1 - k : Nat) : Int)) = true) :
    xs.reverse.find? p = some (rd_T28 xs ((xs.length - 1 - k : Nat) : Int)) := by
  refine find_at p _ k _ (rd_rev xs k hk) hy (fun j y hj hy2 => ?_)
  rw [rd_rev xs j (by omega)] at hy2
  obtain rfl := Option.some.inj hy2
  exact hn j hj
theorem find_start (w : World) (cs : Array Value) (t : TypeId) (a1 : Int) (vk : Value) (W : World) (hW : W = ((((w.alloc (.cells cs t (0, 0))).alloc (.cells #[.int .i64 a1] 3 (0, 0))).alloc (.cells #[vk] 26 (0, 0))).alloc (.cells #[.int .i64 0, .slice none 0 0, .bool false, .slice none 0 0] 28 (0, 0))).alloc (.cells #[.bool false] 4 (0, 0))) :
    FindB w (.cells cs t (0, 0)) a1 vk W ∧ FindZ w W ∧ W.heap.size = w.heap.size + 5 := by
  have e0 := heap_alloc_new w (.cells cs t (0, 0))
  have e1 := heap_alloc_new (w.alloc (.cells cs t (0, 0))) (.cells #[.int .i64 a1] 3 (0, 0))
  have e2 := heap_alloc_new ((w.alloc (.cells cs t (0, 0))).alloc (.cells #[.int .i64 a1] 3 (0, 0))) (.cells #[vk] 26 (0, 0))
  have e3 := heap_alloc_new (((w.alloc (.cells cs t (0, 0))).alloc (.cells #[.int .i64 a1] 3 (0, 0))).alloc (.cells #[vk] 26 (0, 0))) (.cells #[.int .i64 0, .slice none 0 0, .bool false, .slice none 0 0] 28 (0, 0))
  have e4 := heap_alloc_new ((((w.alloc (.cells cs t (0, 0))).alloc (.cells #[.int .i64 a1] 3 (0, 0))).alloc (.cells #[vk] 26 (0, 0))).alloc (.cells #[.int .i64 0, .slice none 0 0, .bool false, .slice none 0 0] 28 (0, 0))) (.cells #[.bool false] 4 (0, 0))
  simp only [World.size_alloc, Nat.add_assoc, Nat.reduceAdd] at e1 e2 e3 e4
  subst hW
  refine ⟨⟨below_alloc (below_alloc (below_alloc (below_alloc (below_alloc (Below.refl _ _) _) _) _) _) _, blk_alloc (blk_alloc (blk_alloc (blk_alloc e0 _) _) _) _, blk_alloc (blk_alloc (blk_alloc e1 _) _) _, blk_alloc (blk_alloc e2 _) _⟩, ⟨blk_alloc e3 _, e4⟩, by simp only [World.size_alloc, Nat.add_assoc, Nat.reduceAdd]⟩
theorem find_stored {w : World} {oD : Obj} {a1 : Int} {vk : Value} {W : World} {p0 p1 p2 p3 p4 : Value} (hB : FindB w oD a1 vk W) (h3 : W.heap[w.heap.size + 3]? = some (.cells #[p0, p1, p2, p3] 28 (0, 0))) (h4 : W.heap[w.heap.size + 4]? = some (.cells #[p4] 4 (0, 0))) (a b c d e : Value) (W1 : World)
    (hW1 : W1 = ((((W.setCell ⟨w.heap.size + 1 + 1 + 1, 0, none⟩ a).setCell ⟨w.heap.size + 1 + 1 + 1, 1, none⟩ b).setCell ⟨w.heap.size + 1 + 1 + 1, 2, none⟩ c).setCell ⟨w.heap.size + 1 + 1 + 1, 3, none⟩ d).setCell ⟨w.heap.size + 1 + 1 + 1 + 1, 0, none⟩ e) :
    FindB w oD a1 vk W1 ∧ W1.heap[w.heap.size + 3]? = some (.cells #[a, b, c, d] 28 (0, 0)) ∧ W1.heap[w.heap.size + 4]? = some (.cells #[e] 4 (0, 0)) ∧ KeepsOthers W W1 ∧ W1.heap.size = W.heap.size ∧ ∀ k, k ≠ w.heap.size + 3 → k ≠ w.heap.size + 4 → W1.heap[k]? = W.heap[k]? := by
  have hk : ∀ k, k ≠ w.heap.size + 3 → k ≠ w.heap.size + 4 → W1.heap[k]? = W.heap[k]? := by
    intro k n3 n4
    subst hW1
    exact (Below.heap_setCell _ _ _ _ n4).trans ((Below.heap_setCell _ _ _ _ n3).trans ((Below.heap_setCell _ _ _ _ n3).trans ((Below.heap_setCell _ _ _ _ n3).trans (Below.heap_setCell _ _ _ _ n3))))
  have hKO : KeepsOthers W W1 := by
    subst hW1
    exact ((((KeepsOthers.setCell _ _ _).trans (KeepsOthers.setCell _ _ _)).trans (KeepsOthers.setCell _ _ _)).trans (KeepsOthers.setCell _ _ _)).trans (KeepsOthers.setCell _ _ _)
  have hS : W1.heap.size = W.heap.size := by subst hW1; simp
  have hBW : Below w.heap.size W W1 := by
    subst hW1
    exact (((((Below.refl w.heap.size W).setCell (by show w.heap.size ≤ w.heap.size + 1 + 1 + 1; omega) _).setCell (by show w.heap.size ≤ w.heap.size + 1 + 1 + 1; omega) _).setCell (by show w.heap.size ≤ w.heap.size + 1 + 1 + 1; omega) _).setCell (by show w.heap.size ≤ w.heap.size + 1 + 1 + 1; omega) _).setCell (by show w.heap.size ≤ w.heap.size + 1 + 1 + 1 + 1; omega) _
  refine ⟨hB.far hBW (fun k h => hk k (by omega) (by omega)), ?_, ?_, hKO, hS, hk⟩
  · subst hW1
    refine (Below.heap_setCell _ _ _ _ (by show w.heap.size + 3 ≠ w.heap.size + 1 + 1 + 1 + 1; omega)).trans ?_
    exact blk_put (cs := #[a, b, c, p3]) (blk_put (cs := #[a, b, p2, p3]) (blk_put (cs := #[a, p1, p2, p3]) (blk_put (cs := #[p0, p1, p2, p3]) h3 0 _ rfl) 1 _ rfl) 2 _ rfl) 3 _ rfl
  · subst hW1
    refine blk_put (cs := #[p4]) ?_ 0 _ rfl
    exact (Below.heap_setCell _ _ _ _ (by show w.heap.size + 4 ≠ w.heap.size + 1 + 1 + 1; omega)).trans ((Below.heap_setCell _ _ _ _ (by show w.heap.size + 4 ≠ w.heap.size + 1 + 1 + 1; omega)).trans ((Below.heap_setCell _ _ _ _ (by show w.heap.size + 4 ≠ w.heap.size + 1 + 1 + 1; omega)).trans ((Below.heap_setCell _ _ _ _ (by show w.heap.size + 4 ≠ w.heap.size + 1 + 1 + 1; omega)).trans h4)))
def FI (w : World) (oD : Obj) (a1 : Int) (vk : Value) (key : List Int) (xs : List S28) (gb : Nat) (oB : Obj) (k : Nat) (W : World) : Prop :=
  FindB w oD a1 vk W ∧ FindZ w W ∧ W.heap[gb]? = some oB ∧ gb + 3 ≤ W.heap.size ∧ ∀ j, j < k → hitW a1 key (rd_T28 xs ((xs.length - 1 - j : Nat) : Int)) = false
def FX (w : World) (oD : Obj) (a1 : Int) (vk : Value) (key : List Int) (xs : List S28) (gb : Nat) (k : Nat) (W : World) : Prop :=
  FindB w oD a1 vk W ∧ (∀ j, j < k → hitW a1 key (rd_T28 xs ((xs.length - 1 - j : Nat) : Int)) = false) ∧ hitW a1 key (rd_T28 xs ((xs.length - 1 - k : Nat) : Int)) = true ∧ gb + 3 ≤ W.heap.size ∧
  ∃ v1 v3 : Value, W.heap[w.heap.size + 3]? = some (.cells #[.int .i64 (rd_T28 xs ((xs.length - 1 - k : Nat) : Int)).f0, v1, .bool (rd_T28 xs ((xs.length - 1 - k : Nat) : Int)).f2, v3] 28 (0, 0)) ∧ W.heap[w.heap.size + 4]? = some (.cells #[.bool true] 4 (0, 0)) ∧
    Kd.R (Kd.int .u8) 5 W (gb + 3) (fun q => gb + 3 ≤ q ∧ some q ≠ v3.ownBlock) v1 (rd_T28 xs ((xs.length - 1 - k : Nat) : Int)).f1 ∧ Kd.R (Kd.int .u8) 5 W (gb + 3) (fun q => gb + 3 ≤ q ∧ some q ≠ v1.ownBlock) v3 (rd_T28 xs ((xs.length - 1 - k : Nat) : Int)).f3
theorem below_putObj {w W : World} {l : Nat} (o : Obj) (h : w.heap.size ≤ l) (hb : w.heap.size ≤ W.heap.size) : Below w.heap.size W (W.putObj l o) := (Below.refl _ W).grown (grownBy_putObj' W l o) hb (fun k e => by cases e; exact h)
theorem FI.put {w : World} {oD : Obj} {a1 : Int} {vk : Value} {key : List Int} {xs : List S28} {gb : Nat} {oB : Obj} {k : Nat} {W : World} {l : Nat} (o : Obj) (hgb : w.heap.size + 5 ≤ gb) (hl : gb < l) (h : FI w oD a1 vk key xs gb oB k W) : FI w oD a1 vk key xs gb oB k (W.putObj l o) := by
  obtain ⟨h1, h2, h3, h4, h5⟩ := h
  have hk : ∀ q, q < l → (W.putObj l o).heap[q]? = W.heap[q]? := fun q hq => World.putObj_heap_other (by omega)
  exact ⟨h1.far (below_putObj o (by omega) h1.1.size) (fun q hq => hk q (by omega)), ⟨(hk _ (by omega)).trans h2.1, (hk _ (by omega)).trans h2.2⟩, (hk _ hl).trans h3, by rw [World.putObj_size]; exact h4, h5⟩
theorem FX.put {w : World} {oD : Obj} {a1 : Int} {vk : Value} {key : List Int} {xs : List S28} {gb k : Nat} {W : World} {l : Nat} (o : Obj) (hgb : w.heap.size + 5 ≤ gb) (hl : gb < l) (hl2 : l < gb + 3) (h : FX w oD a1 vk key xs gb k W) : FX w oD a1 vk key xs gb k (W.putObj l o) := by
  obtain ⟨h1, h2, h3, h4, v1, v3, h5, h6, h7, h8⟩ := h
  have hk : ∀ q, q < l → (W.putObj l o).heap[q]? = W.heap[q]? := fun q hq => World.putObj_heap_other (by omega)
  exact ⟨h1.far (below_putObj o (by omega) h1.1.size) (fun q hq => hk q (by omega)), h2, h3, by rw [World.putObj_size]; exact h4, v1, v3, (hk _ (by omega)).trans h5, (hk _ (by omega)).trans h6,
    Kd.R_step h7 (fun q hq _ => World.putObj_heap_other (by omega)), Kd.R_step h8 (fun q hq _ => World.putObj_heap_other (by omega))⟩
section
attribute [local go_sem] Oper.semAt_some
def delta_Find.f (l0_0 : List (S28)) (l0_1 : List Int) (a1 : Int) (l2 : List Int) : Option (Int × List Int × Bool × List Int × Bool) := some (if checkD l0_0 l0_1 = true then match l0_0.reverse.find? (hitW a1 l2) with
  | some x => (x.f0, x.f1, x.f2, x.f3, true)
  | none => (0, [], false, [], false) else (0, [], false, [], false))
set_option maxHeartbeats 2000000 in
set_option maxRecDepth 100000 in
theorem delta_Find.calls (A0_0 : Option Addr) (c0_0 : Nat) (l0_0 : List (S28)) (A0_1 : Option Addr) (c0_1 : Nat) (l0_1 : List Int) (a1 : Int) (A2 : Option Addr) (c2 : Nat) (l2 : List Int) (r1 : Int) (r2 : List Int) (r3 : Bool) (r4 : List Int) (r5 : Bool) (w : World) (hr0_0 : Kd.C k28 w A0_0 l0_0.length l0_0) (hc0_0 : l0_0.length ≤ c0_0) (hr0_1 : Kd.C (Kd.int .i64) w A0_1 l0_1.length l0_1) (hc0_1 : l0_1.length ≤ c0_1) (hr2 : Kd.C (Kd.int .u8) w A2 l2.length l2) (hc2 : l2.length ≤ c2) (h : delta_Find.f l0_0 l0_1 a1 l2 = some (r1, r2, r3, r4, r5)) :
    Calls Try.prog 20 #[.agg #[.slice A0_0 l0_0.length c0_0, .slice A0_1 l0_1.length c0_1], .int .i64 a1, .slice A2 l2.length c2] w fun e w' => ∃ v1_ v3_ : Value, e = .returned (.tuple #[.agg #[.int .i64 r1, v1_, .bool r3, v3_], .bool r5]) ∧ Kd.R (Kd.int .u8) 5 w' w.heap.size (fun k_ => some k_ ≠ (v3_ : Value).ownBlock) v1_ r2 ∧ Kd.R (Kd.int .u8) 5 w' w.heap.size (fun k_ => some k_ ≠ (v1_ : Value).ownBlock) v3_ r4 ∧ Below w.heap.size w w' := by
  unfold delta_Find.f at h
  have h := Option.some.inj h
  have hu := Try.underlying25
  have huw := Try.underlying28
  have HR0 := Aside0.mk hr0_0
  have HR1 := Aside0.mk hr0_1
  have HR2 := Aside0.mk hr2
  cases hck : checkD l0_0 l0_1 with
  | false =>
    rw [hck, if_neg (by decide)] at h
    simp only [Prod.mk.injEq] at h
    obtain ⟨rfl, rfl, rfl, rfl, rfl⟩ := h
    have HC := Aside0.mk (fun W (hb : Below w.heap.size w W) => delta_Check.calls A0_0 c0_0 l0_0 A0_1 c0_1 l0_1 false W (Kd.C_below hr0_0 hb) hc0_0 (Kd.C_below hr0_1 hb) hc0_1 (by unfold delta_Check.f; rw [hck]))
    clear hr0_0 hr0_1 hr2 hck
    go_enter Try.func20, Try.ntmps20
    go_wp2_with (go_at_call 17; (suffices hsuf : Aside0 _ from hsuf.out))
    refine ⟨?_⟩
    obtain ⟨W, hW⟩ : ∃ W, W = ((((w.alloc (.cells #[.slice A0_0 l0_0.length c0_0, .slice A0_1 l0_1.length c0_1] 25 (0, 0))).alloc (.cells #[.int .i64 a1] 3 (0, 0))).alloc (.cells #[.slice A2 l2.length c2] 26 (0, 0))).alloc (.cells #[.int .i64 0, .slice none 0 0, .bool false, .slice none 0 0] 28 (0, 0))).alloc (.cells #[.bool false] 4 (0, 0)) := ⟨_, rfl⟩
    obtain ⟨hB, hZ, hsz⟩ := find_start w _ _ a1 _ W hW
    rw [← hW]
    clear hW
    refine (HC.out W hB.1).mono ?_
    rintro e W1 ⟨rfl, hb⟩
    have HB := Aside0.mk (hB.step hb)
    have HZ := Aside0.mk (hZ.step hb)
    clear hB hZ hb
    have z0 := (blk_cell HZ.out.1 0).trans rfl
    have z1 := (blk_cell HZ.out.1 1).trans rfl
    have z2 := (blk_cell HZ.out.1 2).trans rfl
    have z3 := (blk_cell HZ.out.1 3).trans rfl
    have z4 := (blk_cell HZ.out.2 0).trans rfl
    have y0 := blk_frozen HZ.out.1 0
    have y1 := blk_frozen HZ.out.1 1
    have y2 := blk_frozen HZ.out.1 2
    have y3 := blk_frozen HZ.out.1 3
    have y4 := blk_frozen HZ.out.2 0
    go_wp2
    obtain ⟨Wf, hWf⟩ : ∃ Wf, Wf = ((((W1.setCell ⟨w.heap.size + 1 + 1 + 1, 0, none⟩ (.int .i64 0)).setCell ⟨w.heap.size + 1 + 1 + 1, 1, none⟩ (.slice none 0 0)).setCell ⟨w.heap.size + 1 + 1 + 1, 2, none⟩ (.bool false)).setCell ⟨w.heap.size + 1 + 1 + 1, 3, none⟩ (.slice none 0 0)).setCell ⟨w.heap.size + 1 + 1 + 1 + 1, 0, none⟩ (.bool false) := ⟨_, rfl⟩
    rw [← hWf]
    obtain ⟨f1, f2, f3, _⟩ := find_stored HB.out HZ.out.1 HZ.out.2 _ _ _ _ _ Wf hWf
    refine bodyPost_ret (results_rb rfl _ _ (w.heap.size + 3) (w.heap.size + 4) _ _ _ (0, 0) _ false rfl f2 Try.underlying28 rfl (by kernel_rfl) rfl f3 Try.underlying4) rfl ?_
    exact ⟨_, _, rfl, Kd.R_nil _ _ _ _ _, Kd.R_nil _ _ _ _ _, f1.1⟩
  | true =>
    rw [hck, if_pos rfl] at h
    have hck0 := hck
    unfold checkD at hck0
    simp only [Bool.and_eq_true, decide_eq_true_eq, Bool.not_eq_true'] at hck0
    obtain ⟨hn20, _, hmay, _⟩ := hck0
    have hlen : ∀ x ∈ l0_0, x.f1.length ≤ 16 ∧ x.f3.length ≤ 32 := by
      intro x hx
      have h1 := List.any_eq_false.1 hmay x hx
      simp only [Bool.not_eq_true', Bool.not_eq_false] at h1
      unfold mayB at h1
      simp only [Bool.and_eq_true, decide_eq_true_eq] at h1
      exact ⟨h1.2.2.1, h1.2.2.2.1⟩
    have HC := Aside0.mk (fun W (hb : Below w.heap.size w W) => delta_Check.calls A0_0 c0_0 l0_0 A0_1 c0_1 l0_1 true W (Kd.C_below hr0_0 hb) hc0_0 (Kd.C_below hr0_1 hb) hc0_1 (by unfold delta_Check.f; rw [hck]))
    obtain ⟨vs, hvs⟩ := liesW hr0_0
    have HLIE := Aside0.mk hvs
    have HLEN := Aside0.mk hlen
    have HRES := Aside0.mk h
    clear hr0_0 hr0_1 hr2 hck hmay hvs hlen h
    refine (callsIn_wide (n := 6)).1 ?_
    refine callsIn_of_wp_marks Try.func20 rfl trivial ?_ rfl
    simp only [Try.ntmps20, List.size_toArray, List.length_cons, List.length_nil, Nat.reduceAdd, Nat.reduceSub, Array.replicate_succ, Array.replicate_zero, List.push_toArray, List.append_toArray, List.nil_append, List.cons_append]
    refine (wpIn_wide (n := 6)).2 ?_
    go_wp2_with (go_at_call 17; (suffices hsuf : Aside0 _ from hsuf.out))
    refine ⟨?_⟩
    obtain ⟨W, hW⟩ : ∃ W, W = ((((w.alloc (.cells #[.slice A0_0 l0_0.length c0_0, .slice A0_1 l0_1.length c0_1] 25 (0, 0))).alloc (.cells #[.int .i64 a1] 3 (0, 0))).alloc (.cells #[.slice A2 l2.length c2] 26 (0, 0))).alloc (.cells #[.int .i64 0, .slice none 0 0, .bool false, .slice none 0 0] 28 (0, 0))).alloc (.cells #[.bool false] 4 (0, 0)) := ⟨_, rfl⟩
    obtain ⟨hB, hZ, hsz⟩ := find_start w _ _ a1 _ W hW
    rw [← hW]
    clear hW
    refine (HC.out W hB.1).mono ?_
    rintro e W1 ⟨rfl, hb⟩
    have HB := Aside0.mk (hB.step hb)
    have HZ := Aside0.mk (hZ.step hb)
    have HS1 := Aside0.mk (show w.heap.size + 5 ≤ W1.heap.size by have := hb.size; omega)
    clear hB hZ hb hsz
    have z0 := (blk_cell HB.out.2.1 0).trans rfl
    go_wp2_with (go_at_call 40; refine (backW_call _ _ _ _).mono ?_; rintro e W2 ⟨rfl, rfl⟩)
    obtain ⟨gb, hgb⟩ : ∃ gb, gb = W1.heap.size := ⟨_, rfl⟩
    have HGB := Aside0.mk hgb
    have HD := Aside0.mk (show (W1.alloc (.cells #[.slice A0_0 l0_0.length c0_0] 22 (0, 0))).heap.size = gb + 1 by rw [World.size_alloc, hgb])
    have HGS := Aside0.mk (show w.heap.size + 5 ≤ gb by rw [hgb]; exact HS1.out)
    have HBOX := Aside0.mk (show (W1.alloc (.cells #[.slice A0_0 l0_0.length c0_0] 22 (0, 0))).heap[gb]? = some (.cells #[.slice A0_0 l0_0.length c0_0] 22 (0, 0)) by rw [hgb]; exact heap_alloc_new _ _)
    have HB2 := Aside0.mk (HB.out.step (below_alloc (Below.refl _ W1) (.cells #[.slice A0_0 l0_0.length c0_0] 22 (0, 0))))
    have HZ2 := Aside0.mk (HZ.out.step (below_alloc (Below.refl _ W1) (.cells #[.slice A0_0 l0_0.length c0_0] 22 (0, 0))))
    rw [← hgb]
    clear hgb z0
    refine (wpIn_wide (n := 6)).1 ?_
    apply range_count (F := Fence.wide) (n := 6) rfl (by decide) (gf := 57) (lb := #[.pointer (some ⟨gb, 0, none⟩)]) (hFg := trivial) (eg := enters_of Try.func57 (by kernel_rfl) rfl) (encs := fun k => #[.int .i64 ((l0_0.length - 1 - k : Nat) : Int), .agg (cellsW l0_0 vs (l0_0.length - 1 - k))]) (hps := fun _ => rfl) (N := l0_0.length)
      (I := FI w (.cells #[.slice A0_0 l0_0.length c0_0, .slice A0_1 l0_1.length c0_1] 25 (0, 0)) a1 (.slice A2 l2.length c2) l2 l0_0 gb (.cells #[.slice A0_0 l0_0.length c0_0] 22 (0, 0)))
      (Ix := FX w (.cells #[.slice A0_0 l0_0.length c0_0, .slice A0_1 l0_1.length c0_1] 25 (0, 0)) a1 (.slice A2 l2.length c2) l2 l0_0 gb) (ob := fun k => .cells (cellsW l0_0 vs (l0_0.length - 1 - k)) 28 (0, 0))
      (a₁ := fun k B => { tmps := #[.agg #[.slice A0_0 l0_0.length c0_0, .slice A0_1 l0_1.length c0_1], .int .i64 a1, .slice A2 l2.length c2, .pointer (some ⟨w.heap.size, 0, none⟩), .pointer (some ⟨w.heap.size + 1, 0, none⟩), .pointer (some ⟨w.heap.size + 1 + 1, 0, none⟩), .pointer (some ⟨w.heap.size + 1 + 1 + 1, 0, none⟩), .pointer (some ⟨w.heap.size + 1 + 1 + 1 + 1, 0, none⟩), undef, .pointer (some ⟨B, 0, none⟩), .agg #[.slice A0_0 l0_0.length c0_0, .slice A0_1 l0_1.length c0_1], .bool true, .bool false, undef, .pointer (some ⟨w.heap.size, 0, none⟩), .slice A0_0 l0_0.length c0_0, .func (.func 57) #[] #[.pointer (some ⟨gb, 0, none⟩)], .int .i64 ((l0_0.length - 1 - k : Nat) : Int), .agg (cellsW l0_0 vs (l0_0.length - 1 - k)), undef, undef, undef, undef, undef, undef, undef, undef, undef, undef], defers := [] })
    case hassign =>
      intro l k W K hk hK
      unfold cellsW at hK ⊢
      gi_wp2
      exact hK
    case hg => simp [Act.eval]
    case hIb =>
      intro k W l o' hl h
      rw [HD.out] at hl
      exact h.put o' HGS.out (by omega)
    case hIxb =>
      intro k W l o' hl h
      rw [HD.out] at hl
      exact h.put o' HGS.out (by omega) (by omega)
    case h0 =>
      intro r
      have hb3 := below_alloc (below_alloc (Below.refl _ (W1.alloc (.cells #[.slice A0_0 l0_0.length c0_0] 22 (0, 0)))) (.deferred (some []))) (.loop r)
      exact ⟨HB2.out.step hb3, HZ2.out.step hb3, blk_alloc (blk_alloc HBOX.out _) _, by simp only [World.size_alloc]; have := HGB.out; omega, fun j hj => absurd hj (Nat.not_lt_zero _)⟩
    case hit =>
      intro l J Jx W hJI hY h0
      refine backW1_in l gb A0_0 c0_0 l0_0 vs J Jx (fun k W h => ⟨(hJI k W h).2.2.1, HLIE.out W (hJI k W h).1.1⟩) hY (by omega) W h0
    case hdone =>
      rintro D W hD ⟨hB, hZ, hbox, hsz, hno⟩ hK
      rw [HD.out] at hD
      have hres : l0_0.reverse.find? (hitW a1 l2) = none := find_rev_none _ _ hno
      have hR := HRES.out
      rw [hres] at hR
      simp only [Prod.mk.injEq] at hR
      obtain ⟨rfl, rfl, rfl, rfl, rfl⟩ := hR
      have HFB := Aside0.mk hB
      have HFZ := Aside0.mk hZ
      have HKK := Aside0.mk hK
      have HDD := Aside0.mk hD
      have z0 := (blk_cell hZ.1 0).trans rfl
      have z1 := (blk_cell hZ.1 1).trans rfl
      have z2 := (blk_cell hZ.1 2).trans rfl
      have z3 := (blk_cell hZ.1 3).trans rfl
      have z4 := (blk_cell hZ.2 0).trans rfl
      have y0 := blk_frozen hZ.1 0
      have y1 := blk_frozen hZ.1 1
      have y2 := blk_frozen hZ.1 2
      have y3 := blk_frozen hZ.1 3
      have y4 := blk_frozen hZ.2 0
      clear hB hZ hbox hno hK hD hres HRES
      go_wp2
      obtain ⟨Wf, hWf⟩ : ∃ Wf, Wf = ((((W.setCell ⟨w.heap.size + 1 + 1 + 1, 0, none⟩ (.int .i64 0)).setCell ⟨w.heap.size + 1 + 1 + 1, 1, none⟩ (.slice none 0 0)).setCell ⟨w.heap.size + 1 + 1 + 1, 2, none⟩ (.bool false)).setCell ⟨w.heap.size + 1 + 1 + 1, 3, none⟩ (.slice none 0 0)).setCell ⟨w.heap.size + 1 + 1 + 1 + 1, 0, none⟩ (.bool false) := ⟨_, rfl⟩
      rw [← hWf]
      obtain ⟨f1, f2, f3, f4, f5, f6⟩ := find_stored HFB.out HFZ.out.1 HFZ.out.2 _ _ _ _ _ Wf hWf
      have hgs := HGS.out
      have hdd := HDD.out
      have hk2 := (f6 D (by omega) (by omega)).trans HKK.out
      refine ⟨by simp, .inl ⟨_, _, rfl, run_takeDeferred hk2, ?_⟩⟩
      refine ⟨_, results_rb rfl _ _ (w.heap.size + 3) (w.heap.size + 4) _ _ _ (0, 0) _ false rfl ((World.putObj_heap_other (by omega)).trans f2) Try.underlying28 rfl (by kernel_rfl) rfl ((World.putObj_heap_other (by omega)).trans f3) Try.underlying4, ?_⟩
      exact ⟨_, _, rfl, Kd.R_nil _ _ _ _ _, Kd.R_nil _ _ _ _ _, f1.1.trans (below_putObj _ (by omega) f1.1.size)⟩
    case hstop =>
      rintro D k W hD hkN ⟨hB, hno, hyes, hsz, v1, v3, h3, h4, hR1, hR3⟩ hK
      rw [HD.out] at hD
      have hres := find_rev_some (p := hitW a1 l2) l0_0 k hkN hno hyes
      have hR := HRES.out
      rw [hres] at hR
      simp only [Prod.mk.injEq] at hR
      obtain ⟨rfl, rfl, rfl, rfl, rfl⟩ := hR
      have hgs := HGS.out
      refine (wpIn_wide (n := 6)).2 ?_
      go_wp2
      refine ⟨by simp, .inl ⟨_, _, rfl, run_takeDeferred hK, ?_⟩⟩
      refine ⟨_, results_rb rfl _ _ (w.heap.size + 3) (w.heap.size + 4) _ _ _ (0, 0) _ true rfl ((World.putObj_heap_other (by omega)).trans h3) Try.underlying28 rfl (by kernel_rfl) rfl ((World.putObj_heap_other (by omega)).trans h4) Try.underlying4, ?_⟩
      have hp := below_putObj (w := w) (W := W) (l := D) (.deferred none) (by omega) hB.1.size
      refine ⟨v1, v3, rfl, ?_, ?_, hB.1.trans hp⟩
      · exact Kd.R_mono (Kd.R_lower (Kd.R_step hR1 (fun q hq _ => World.putObj_heap_other (by omega))) (by omega)) (fun q hq => hq.2)
      · exact Kd.R_mono (Kd.R_lower (Kd.R_step hR3 (fun q hq _ => World.putObj_heap_other (by omega))) (by omega)) (fun q hq => hq.2)
    case hbody =>
      rintro l k W hkN ⟨hB, hZ, hbox, hsz, hno⟩
      obtain ⟨ad, hA, hx0, hx1, hx2, hx3, hl1, hi1, hl3, hi3⟩ := HLIE.out W hB.1 (l0_0.length - 1 - k) (by omega)
      have hlx := HLEN.out (rd_T28 l0_0 ((l0_0.length - 1 - k : Nat) : Int)) (by
        have e : rd_T28 l0_0 ((l0_0.length - 1 - k : Nat) : Int) = l0_0[l0_0.length - 1 - k] := by unfold rd_T28; rw [Int.toNat_natCast]; simp [List.getD_eq_getElem?_getD, show l0_0.length - 1 - k < l0_0.length by omega]
        rw [e]
        exact List.getElem_mem _)
      unfold cellsW
      obtain ⟨x, hx⟩ : ∃ x, x = rd_T28 l0_0 ((l0_0.length - 1 - k : Nat) : Int) := ⟨_, rfl⟩
      obtain ⟨Ak, ck, Av, cv, hv⟩ : ∃ Ak ck Av cv, vs (l0_0.length - 1 - k) = (Ak, ck, Av, cv) := ⟨_, _, _, _, rfl⟩
      rw [hv] at hl1 hi1 hl3 hi3 ⊢
      simp only [] at hl1 hi1 hl3 hi3 ⊢
      rw [← hx] at hlx hl1 hi1 hl3 hi3 hx0 hx1 hx2 hx3 ⊢
      have HX := Aside0.mk hx
      have HFB := Aside0.mk hB
      have HFZ := Aside0.mk hZ
      have HBX := Aside0.mk hbox
      have HSZ := Aside0.mk hsz
      have HNO := Aside0.mk hno
      have HLX := Aside0.mk hlx
      obtain ⟨gx, hgx⟩ : ∃ gx, gx = W.heap.size := ⟨_, rfl⟩
      have HGX := Aside0.mk hgx
      obtain ⟨Wx, hWx⟩ : ∃ Wx, Wx = W.alloc (.cells #[.int .i64 x.f0, .slice Ak x.f1.length ck, .bool x.f2, .slice Av x.f3.length cv] 28 (0, 0)) := ⟨_, rfl⟩
      have hWg : Wx.drew.heap[gx]? = some (.cells #[.int .i64 x.f0, .slice Ak x.f1.length ck, .bool x.f2, .slice Av x.f3.length cv] 28 (0, 0)) := by rw [hWx, hgx]; exact heap_alloc_new W _
      have hWb : Below W.heap.size W Wx.drew := by rw [hWx]; exact below_drew1 (below_alloc (Below.refl _ _) _)
      rw [← hgx, ← hWx]
      clear hgx hWx hB hZ hbox hsz hno hlx hx hx0 hx1 hx2 hx3 hv hA
      gi_wp2_with (fail)
      refine startIn_ (n := 7) (S := fun _ => True) (ds := []) #[false, false, false, false, false, false, false] (by kernel_rfl) (by rintro ⟨a_, w_, h_⟩; rcases h_ with h_ | h_ <;> exact nomatch h_.1) (by kernel_rfl) rfl rfl trivial (fun _ => ?_)
      generalize Wx.drew = Wd at hWg hWb ⊢
      have HWB := Aside0.mk hWb
      have hFd := HFB.out.step hWb
      have px0 := fun r : Past Wd => past_cell r hWg (show _ = some _ from rfl) (i := 0)
      have px1 := fun r : Past Wd => past_cell r hWg (show _ = some _ from rfl) (i := 1)
      have px2 := fun r : Past Wd => past_cell r hWg (show _ = some _ from rfl) (i := 2)
      have px3 := fun r : Past Wd => past_cell r hWg (show _ = some _ from rfl) (i := 3)
      have pt := fun r : Past Wd => past_cell r hFd.2.2.1 (show _ = some _ from rfl) (i := 0)
      have pk := fun r : Past Wd => past_cell r hFd.2.2.2 (show _ = some _ from rfl) (i := 0)
      have hcv := fun r : Past Wd => Kd.C_string (P := Try.prog) (A := A2) (c := c2) Try.underlying26 Try.underlying5 Try.underlying9 (Kd.C_below HR2.out (below_step hFd.1 r.h))
      have HOF := Aside0.mk (fun r : Past Wd => delta_of.calls x.f0 Ak ck x.f1 x.f2 Av cv x.f3 x.f0 (strOfNums x.f1) r.W (Kd.C_below hi1 (below_step hWb r.h)) hl1 (Kd.C_below hi3 (below_step hWb r.h)) hl3 rfl)
      have hup := Try.underlying68
      have HI1 := Aside0.mk hi1
      have HI3 := Aside0.mk hi3
      clear hWb hi1 hi3
      have heq0 := fun d W => eqPlace d W x.f0 a1 (strOfNums x.f1) (strOfNums l2)
      cases hb : (x.f0 == a1 && ((strOfNums x.f1).toList == (strOfNums l2).toList)) with
      | false =>
        rw [hb] at heq0
        have HH := Aside0.mk (show hitW a1 l2 x = false from hb)
        clear hb
        refine rest_past Wd 0 7 (Below.refl _ _) (by kernel_rfl) rfl (by kernel_rfl) ?_
        simp only [List.drop_zero]
        repeat (go_big_quiet_step (with_reducible exact Calls.past_of rfl (HOF.out _)))
        refine wpQuiet_nil ?_
        rintro _ ⟨q, rfl⟩
        gi_wp2
        have hq := below_step HWB.out q.h
        refine ⟨keeps_of_below hq, HFB.out.step hq, HFZ.out.step hq, (hq.block _ (blk_lt HBX.out)).trans HBX.out, Nat.le_trans HSZ.out hq.size, fun j hj => ?_⟩
        rcases Nat.lt_or_ge j k with h | h
        · exact HNO.out j h
        · obtain rfl : j = k := by omega
          rw [← HX.out]
          exact HH.out
      | true =>
        rw [hb] at heq0
        have HH := Aside0.mk (show hitW a1 l2 x = true from hb)
        clear hb
        refine rest_past Wd 0 7 (Below.refl _ _) (by kernel_rfl) rfl (by kernel_rfl) ?_
        simp only [List.drop_zero]
        repeat (go_big_quiet_step (with_reducible exact Calls.past_of rfl (HOF.out _)))
        refine wpQuiet_nil ?_
        rintro _ ⟨q, rfl⟩
        have HQ := Aside0.mk (below_step HWB.out q.h)
        have HWR := Aside0.mk (delta_write.calls x.f0 Ak ck x.f1 x.f2 Av cv x.f3 x.f0 x.f1 x.f2 x.f3 q.W (Kd.C_below HI1.out HQ.out) hl1 (Kd.C_below HI3.out HQ.out) hl3 (by unfold delta_write.f bytes_Clone.f; rw [if_pos (by have := HLX.out; omega), if_pos (by have := HLX.out; omega)]; rfl))
        clear heq0 hcv pt pk
        gi_wp2_with (refine ⟨trivial, ?_⟩; gi_at_call 31; refine (CallsIn.inRound l (callsIn_wide.2 HWR.out)).mono ?_; rintro e W3 ⟨v1, v3, rfl, hR1, hR3, hb3⟩; obtain ⟨Ay, cy, rfl⟩ := Kd.R_slice hR1; obtain ⟨Az, cz, rfl⟩ := Kd.R_slice hR3; have HQ3 := Aside0.mk (below_step HQ.out hb3); have HF3 := Aside0.mk (HFB.out.step HQ3.out); have HZ3 := Aside0.mk (HFZ.out.step HQ3.out); have HRa := Aside0.mk hR1; have HRb := Aside0.mk hR3; have HS3 := Aside0.mk hb3; clear hR1 hR3 hb3; have z0 := (blk_cell HZ3.out.1 0).trans rfl; have z1 := (blk_cell HZ3.out.1 1).trans rfl; have z2 := (blk_cell HZ3.out.1 2).trans rfl; have z3 := (blk_cell HZ3.out.1 3).trans rfl; have z4 := (blk_cell HZ3.out.2 0).trans rfl; have y0 := blk_frozen HZ3.out.1 0; have y1 := blk_frozen HZ3.out.1 1; have y2 := blk_frozen HZ3.out.1 2; have y3 := blk_frozen HZ3.out.1 3; have y4 := blk_frozen HZ3.out.2 0)
        obtain ⟨Wf, hWf⟩ : ∃ Wf, Wf = ((((W3.setCell ⟨w.heap.size + 1 + 1 + 1, 0, none⟩ (.int .i64 x.f0)).setCell ⟨w.heap.size + 1 + 1 + 1, 1, none⟩ (.slice Ay x.f1.length cy)).setCell ⟨w.heap.size + 1 + 1 + 1, 2, none⟩ (.bool x.f2)).setCell ⟨w.heap.size + 1 + 1 + 1, 3, none⟩ (.slice Az x.f3.length cz)).setCell ⟨w.heap.size + 1 + 1 + 1 + 1, 0, none⟩ (.bool true) := ⟨_, rfl⟩
        rw [← hWf]
        obtain ⟨f1, f2, f3, f4, f5, f6⟩ := find_stored HF3.out HZ3.out.1 HZ3.out.2 _ _ _ _ _ Wf hWf
        have hs1 := HSZ.out
        have hs2 := HQ.out.size
        have hs3 := HS3.out.size
        have hs4 := HGS.out
        refine ⟨(keeps_of_below HQ3.out).trans f4, f1, HNO.out, by rw [← HX.out]; exact HH.out, by omega, .slice Ay x.f1.length cy, .slice Az x.f3.length cz, by rw [← HX.out]; exact f2, f3, ?_, ?_⟩
        · rw [← HX.out]
          exact Kd.R_step (Kd.R_mono (Kd.R_lower (Kd.R_bound HRa.out) (by omega)) (fun p hp => ⟨by have := hp.2.1; omega, hp.1⟩)) (fun p hp _ => f6 p (by omega) (by omega))
        · rw [← HX.out]
          exact Kd.R_step (Kd.R_mono (Kd.R_lower (Kd.R_bound HRb.out) (by omega)) (fun p hp => ⟨by have := hp.2.1; omega, hp.1⟩)) (fun p hp _ => f6 p (by omega) (by omega))
end
end Go.Proofs.Ytbjeaalbdaedpaa.P
