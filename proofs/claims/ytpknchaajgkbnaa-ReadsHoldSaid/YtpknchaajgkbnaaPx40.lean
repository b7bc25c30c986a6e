-- Written by wip/gprint.py, a program of this session over the kit's print; Lean checks it.
import Derived.Test.YtpknchaajgkbnaaPx0
import Derived.Test.YtpknchaajgkbnaaPx1
import Derived.OwnWalkIn
import Derived.Shelf.Abstract
namespace Go.Proofs.Ytpknchaajgkbnaa.P
open Go.RowKit Go.Proofs.YtpknchaajgkbnaaW.PrintWords Go.Proofs.YtpknchaajgkbnaaW.PrintLast Go.Proofs.YtpknchaajgkbnaaW.PrintMore
attribute [local go_sem] max2_int min2_int max_two min_two max_three min_three max_four min_four   -- for this text's walks alone
set_option linter.unusedVariables false
set_option linter.unusedSimpArgs false

/-GIVEN span_Add-/
/-! ### span_Add: function 23 -/
def allSp (t : Int) : S38 := ⟨t, [], [], true⟩
def mergeL (t : Int) : List S38 → List S38
  | [] => []
  | y :: l => if y.f0 = t then allSp t :: l.filter (fun z => !decide (z.f0 = t)) else y :: mergeL t l
def dropC (x : S38) (l : List S38) : List S38 := l.filter fun y => !coversB x y
def placesOf (t : Int) : List S38 → Nat → List Nat
  | [], _ => []
  | y :: l, n => if y.f0 = t then n :: placesOf t l (n + 1) else placesOf t l (n + 1)
def addL (l : List S38) (x : S38) (most : Int) : List S38 × Int :=
  if (!checkB x || (l.any (fun y => !checkB y) || (decide (most < 1) || decide (100 < most)))) = true then (l, 1)
  else if (emptyB x || l.any fun y => coversB y x) = true then (l, 0)
  else if most < ((placesOf x.f0 (dropC x l ++ [x]) 0).length : Int) then (mergeL x.f0 (dropC x l ++ [x]), 0) else (dropC x l ++ [x], 0)
theorem placesOf_app (t : Int) : ∀ (a b : List S38) (n : Nat), placesOf t (a ++ b) n = placesOf t a n ++ placesOf t b (n + a.length)
  | [], b, n => by simp [placesOf]
  | y :: a, b, n => by
    rw [List.cons_append, placesOf, placesOf, placesOf_app t a b (n + 1), List.length_cons]
    have e : n + 1 + a.length = n + (a.length + 1) := by omega
    rw [e]
    split <;> rfl
theorem placesOf_len (t : Int) : ∀ (l : List S38) (n : Nat), (placesOf t l n).length ≤ l.length
  | [], n => Nat.le_refl _
  | y :: l, n => by
    rw [placesOf]
    have := placesOf_len t l (n + 1)
    split <;> simp only [List.length_cons] <;> omega
theorem placesOf_lt (t : Int) : ∀ (l : List S38) (n i p : Nat), (placesOf t l n)[i]? = some p → n ≤ p ∧ p + ((placesOf t l n).length - i) ≤ n + l.length
  | [], n, i, p, h => by simp [placesOf] at h
  | y :: l, n, i, p, h => by
    rw [placesOf] at h ⊢
    split at h
    · rename_i hy
      rw [if_pos hy]
      have hl := placesOf_len t l (n + 1)
      cases i with
      | zero =>
        simp only [List.getElem?_cons_zero, Option.some.injEq] at h
        subst h
        simp only [List.length_cons]
        omega
      | succ i =>
        have := placesOf_lt t l (n + 1) i p (by simpa using h)
        simp only [List.length_cons]
        omega
    · rename_i hy
      rw [if_neg hy]
      have := placesOf_lt t l (n + 1) i p h
      simp only [List.length_cons]
      omega
theorem del_places (t : Int) : ∀ (l p : List S38), (placesOf t l p.length).reverse.foldl (fun acc i => acc.eraseIdx i) (p ++ l) = p ++ l.filter (fun z => !decide (z.f0 = t))
  | [], p => by simp [placesOf]
  | y :: l, p => by
    have ih := del_places t l (p ++ [y])
    rw [List.length_append, List.length_singleton, List.append_assoc, List.singleton_append] at ih
    rw [placesOf]
    by_cases hy : y.f0 = t
    · rw [if_pos hy, List.reverse_cons, List.foldl_append, ih]
      simp only [List.foldl_cons, List.foldl_nil, List.append_assoc, List.singleton_append]
      rw [List.eraseIdx_append_of_length_le (Nat.le_refl _), Nat.sub_self, List.eraseIdx_cons_zero, List.filter_cons_of_neg (by simp [hy])]
    · rw [if_neg hy, ih, List.filter_cons_of_pos (by simp [hy]), List.append_assoc, List.singleton_append]
theorem merge_places (t : Int) : ∀ (l p : List S38) (p0 : Nat) (rest : List Nat), placesOf t l p.length = p0 :: rest → rest.reverse.foldl (fun acc i => acc.eraseIdx i) ((p ++ l).set p0 (allSp t)) = p ++ mergeL t l
  | [], p, p0, rest, h => by simp [placesOf] at h
  | y :: l, p, p0, rest, h => by
    rw [placesOf] at h
    rw [mergeL]
    by_cases hy : y.f0 = t
    · rw [if_pos hy] at h ⊢
      injection h with h1 h2
      subst h1 h2
      rw [List.set_append_right _ _ (Nat.le_refl _), Nat.sub_self, List.set_cons_zero]
      have := del_places t l (p ++ [allSp t])
      rw [List.length_append, List.length_singleton, List.append_assoc, List.singleton_append, List.append_assoc, List.singleton_append] at this
      exact this
    · rw [if_neg hy] at h ⊢
      have := merge_places t l (p ++ [y]) p0 rest (by rw [List.length_append, List.length_singleton]; exact h)
      rw [List.append_assoc, List.singleton_append, List.append_assoc, List.singleton_append] at this
      exact this
theorem erase_len (t : Int) : ∀ (is : List Nat) (l : List S38), l.length ≤ (is.foldl (fun acc i => acc.eraseIdx i) l).length + is.length
  | [], l => by simp
  | i :: is, l => by
    have := erase_len t is (l.eraseIdx i)
    have h2 : l.length ≤ (l.eraseIdx i).length + 1 := by rw [List.length_eraseIdx]; split <;> omega
    simp only [List.foldl_cons, List.length_cons]
    omega
theorem span_Check_f (x : S38) : span_Check.f x.f0 x.f1 x.f2 x.f3 = some (checkB x) := by
  unfold span_Check.f checkB
  by_cases h1 : 0 ≤ x.f0
  · rw [if_pos h1, decide_eq_true h1, Bool.true_and]
    by_cases h2 : x.f0 < 4
    · rw [if_pos h2, decide_eq_true h2, Bool.true_and]
      by_cases h3 : x.f1.length ≤ 17
      · rw [if_pos (by omega), decide_eq_true h3, Bool.true_and]
        by_cases h4 : x.f2.length ≤ 17
        · rw [if_pos (by omega), decide_eq_true h4, Bool.true_and]
          cases x.f3
          · rfl
          · rw [if_pos rfl]
            by_cases h5 : x.f2.length = 0
            · simp [h5]
            · have h6 : ((x.f2.length : Int) == 0) = false := beq_eq_false_iff_ne.2 (by omega)
              rw [h6, decide_eq_false h5]
              rfl
        · rw [if_neg (by omega), decide_eq_false h4]; rfl
      · rw [if_neg (by omega), decide_eq_false h3]; rfl
    · rw [if_neg h2, decide_eq_false h2]; rfl
  · rw [if_neg h1, decide_eq_false h1]; rfl
theorem span_Empty_f (x : S38) : span_Empty.f x.f0 x.f1 x.f2 x.f3 = some (emptyB x) := by
  unfold span_Empty.f emptyB
  simp only [bytes_Compare.f, Option.bind_some]
  cases x.f3 <;> simp
theorem span_Covers_f (x y : S38) : span_Covers.f x.f0 x.f1 x.f2 x.f3 y.f0 y.f1 y.f2 y.f3 = some (coversB x y) := by
  unfold span_Covers.f coversB
  rw [span_Empty_f]
  simp only [bytes_Compare.f, Option.bind_some]
  cases emptyB y
  · by_cases h : x.f0 = y.f0
    · by_cases h2 : Lib.compareBytes (Lib.bytesOf x.f1) (Lib.bytesOf y.f1) > 0
      · simp [h, h2]
        intro hh
        omega
      · cases hx : x.f3 <;> cases hy : y.f3 <;> simp [h, h2, hx, hy] <;> omega
    · simp [h]
  · rfl
set_option maxHeartbeats 1000000 in
set_option maxRecDepth 100000 in
theorem add_wrong (W : World) (y : S38) (B1 : Option Addr) (d1 : Nat) (B2 : Option Addr) (d2 : Nat) (h1 : y.f1.length ≤ d1) (i1 : Kd.C (Kd.int .u8) W B1 y.f1.length y.f1) (h2 : y.f2.length ≤ d2) (i2 : Kd.C (Kd.int .u8) W B2 y.f2.length y.f2) :
    Calls Try.prog 36 #[.agg #[.int .i64 y.f0, .slice B1 y.f1.length d1, .slice B2 y.f2.length d2, .bool y.f3]] W fun e w' => e = .returned (.bool (!checkB y)) ∧ Below W.heap.size W w' := by
  have HIN := fun o => Aside0.mk (span_Check.calls y.f0 B1 d1 y.f1 B2 d2 y.f2 y.f3 (checkB y) (W.alloc o) (Kd.C_alloc i1 o) h1 (Kd.C_alloc i2 o) h2 (span_Check_f y))
  have hu := Try.underlying38
  clear h1 i1 h2 i2
  generalize checkB y = b at HIN ⊢
  go_enter Try.func36, Try.ntmps36
  go_wp2_with (go_at_call 37; refine (HIN _).out.mono ?_; rintro e w1 ⟨rfl, hb⟩; have HB1 := Aside0.mk (below_step (below_alloc (Below.refl W.heap.size W) _) hb); clear hb)
  go_ret
  exact ⟨rfl, HB1.out⟩
set_option maxHeartbeats 1000000 in
set_option maxRecDepth 100000 in
theorem add_over (s : Nat) (a0 : Int) (A1 : Option Addr) (c1 : Nat) (l1 : List Int) (A2 : Option Addr) (c2 : Nat) (l2 : List Int) (a3 : Bool) (W : World) (y : S38) (B1 : Option Addr) (d1 : Nat) (B2 : Option Addr) (d2 : Nat)
    (hg : W.heap[s]? = some (.cells #[.int .i64 a0, .slice A1 l1.length c1, .slice A2 l2.length c2, .bool a3] 38 (0, 0))) (g1 : l1.length ≤ c1) (k1 : Kd.C (Kd.int .u8) W A1 l1.length l1) (g2 : l2.length ≤ c2) (k2 : Kd.C (Kd.int .u8) W A2 l2.length l2) (h1 : y.f1.length ≤ d1) (i1 : Kd.C (Kd.int .u8) W B1 y.f1.length y.f1) (h2 : y.f2.length ≤ d2) (i2 : Kd.C (Kd.int .u8) W B2 y.f2.length y.f2) :
    Calls Try.prog 40 #[.agg #[.int .i64 y.f0, .slice B1 y.f1.length d1, .slice B2 y.f2.length d2, .bool y.f3], .pointer (some ⟨s, 0, none⟩)] W fun e w' => e = .returned (.bool (coversB y (⟨a0, l1, l2, a3⟩ : S38))) ∧ Below W.heap.size W w' := by
  have e0 : ∀ o, (W.alloc o).cell? ⟨s, 0, none⟩ = some (.int .i64 a0) := fun o => (World.cell?_alloc_lt W o _ (blk_lt hg)).trans ((blk_cell hg 0).trans rfl)
  have e1 : ∀ o, (W.alloc o).cell? ⟨s, 1, none⟩ = some (.slice A1 l1.length c1) := fun o => (World.cell?_alloc_lt W o _ (blk_lt hg)).trans ((blk_cell hg 1).trans rfl)
  have e2 : ∀ o, (W.alloc o).cell? ⟨s, 2, none⟩ = some (.slice A2 l2.length c2) := fun o => (World.cell?_alloc_lt W o _ (blk_lt hg)).trans ((blk_cell hg 2).trans rfl)
  have e3 : ∀ o, (W.alloc o).cell? ⟨s, 3, none⟩ = some (.bool a3) := fun o => (World.cell?_alloc_lt W o _ (blk_lt hg)).trans ((blk_cell hg 3).trans rfl)
  have HIN := fun o => Aside0.mk (span_Covers.calls y.f0 B1 d1 y.f1 B2 d2 y.f2 y.f3 a0 A1 c1 l1 A2 c2 l2 a3 (coversB y ⟨a0, l1, l2, a3⟩) (W.alloc o) (Kd.C_alloc i1 o) h1 (Kd.C_alloc i2 o) h2 (Kd.C_alloc k1 o) g1 (Kd.C_alloc k2 o) g2 (span_Covers_f y ⟨a0, l1, l2, a3⟩))
  have hu := Try.underlying38
  clear hg g1 k1 g2 k2 h1 i1 h2 i2
  generalize (coversB y (⟨a0, l1, l2, a3⟩ : S38)) = b at HIN ⊢
  go_enter Try.func40, Try.ntmps40
  go_wp2_with (go_at_call 41; refine (HIN _).out.mono ?_; rintro e w1 ⟨rfl, hb⟩; have HB1 := Aside0.mk (below_step (below_alloc (Below.refl W.heap.size W) _) hb); clear hb)
  go_ret
  exact ⟨rfl, HB1.out⟩
set_option maxHeartbeats 1000000 in
set_option maxRecDepth 100000 in
theorem add_under (s : Nat) (a0 : Int) (A1 : Option Addr) (c1 : Nat) (l1 : List Int) (A2 : Option Addr) (c2 : Nat) (l2 : List Int) (a3 : Bool) (W : World) (y : S38) (B1 : Option Addr) (d1 : Nat) (B2 : Option Addr) (d2 : Nat)
    (hg : W.heap[s]? = some (.cells #[.int .i64 a0, .slice A1 l1.length c1, .slice A2 l2.length c2, .bool a3] 38 (0, 0))) (g1 : l1.length ≤ c1) (k1 : Kd.C (Kd.int .u8) W A1 l1.length l1) (g2 : l2.length ≤ c2) (k2 : Kd.C (Kd.int .u8) W A2 l2.length l2) (h1 : y.f1.length ≤ d1) (i1 : Kd.C (Kd.int .u8) W B1 y.f1.length y.f1) (h2 : y.f2.length ≤ d2) (i2 : Kd.C (Kd.int .u8) W B2 y.f2.length y.f2) :
    Calls Try.prog 43 #[.agg #[.int .i64 y.f0, .slice B1 y.f1.length d1, .slice B2 y.f2.length d2, .bool y.f3], .pointer (some ⟨s, 0, none⟩)] W fun e w' => e = .returned (.bool (coversB (⟨a0, l1, l2, a3⟩ : S38) y)) ∧ Below W.heap.size W w' := by
  have e0 : ∀ o, (W.alloc o).cell? ⟨s, 0, none⟩ = some (.int .i64 a0) := fun o => (World.cell?_alloc_lt W o _ (blk_lt hg)).trans ((blk_cell hg 0).trans rfl)
  have e1 : ∀ o, (W.alloc o).cell? ⟨s, 1, none⟩ = some (.slice A1 l1.length c1) := fun o => (World.cell?_alloc_lt W o _ (blk_lt hg)).trans ((blk_cell hg 1).trans rfl)
  have e2 : ∀ o, (W.alloc o).cell? ⟨s, 2, none⟩ = some (.slice A2 l2.length c2) := fun o => (World.cell?_alloc_lt W o _ (blk_lt hg)).trans ((blk_cell hg 2).trans rfl)
  have e3 : ∀ o, (W.alloc o).cell? ⟨s, 3, none⟩ = some (.bool a3) := fun o => (World.cell?_alloc_lt W o _ (blk_lt hg)).trans ((blk_cell hg 3).trans rfl)
  have HIN := fun o => Aside0.mk (span_Covers.calls a0 A1 c1 l1 A2 c2 l2 a3 y.f0 B1 d1 y.f1 B2 d2 y.f2 y.f3 (coversB ⟨a0, l1, l2, a3⟩ y) (W.alloc o) (Kd.C_alloc k1 o) g1 (Kd.C_alloc k2 o) g2 (Kd.C_alloc i1 o) h1 (Kd.C_alloc i2 o) h2 (span_Covers_f ⟨a0, l1, l2, a3⟩ y))
  have hu := Try.underlying38
  clear hg g1 k1 g2 k2 h1 i1 h2 i2
  generalize (coversB (⟨a0, l1, l2, a3⟩ : S38) y) = b at HIN ⊢
  go_enter Try.func43, Try.ntmps43
  go_wp2_with (go_at_call 41; refine (HIN _).out.mono ?_; rintro e w1 ⟨rfl, hb⟩; have HB1 := Aside0.mk (below_step (below_alloc (Below.refl W.heap.size W) _) hb); clear hb)
  go_ret
  exact ⟨rfl, HB1.out⟩
structure FS (s : Nat) (w : World) (xc : Array Value) (c : Option (Value × List S38)) (g q : Option Nat) (W : World) : Prop where
  hb : Below s w W
  hX : W.heap[s]? = some (.cells xc 38 (0, 0))
  hv : ∀ v l, c = some (v, l) → ∃ ok : Nat → Prop, Kd.N k38 38 W (s + 1) ok v l ∧ (∀ k, ok k → k < W.heap.size ∧ k ≠ s ∧ some k ≠ g ∧ some k ≠ q) ∧ ∀ k, k < s → ok k
  hg : ∀ b, g = some b → W.heap[b]? = some (.cells xc 38 (0, 0)) ∧ s < b
  hq : ∀ b, q = some b → W.heap[b]? = some (.cells #[.slice none 0 0] 27 (0, 0)) ∧ s < b
section
variable {s : Nat} {w W W1 : World} {xc : Array Value} {c : Option (Value × List S38)} {g q : Option Nat} {v v1 : Value} {l l' : List S38}
theorem FS.below (h : FS s w xc c g q W) (hb : Below W.heap.size W W1) : FS s w xc c g q W1 :=
  ⟨h.hb.trans (hb.mono (Nat.le_of_lt (blk_lt h.hX))), (hb.block _ (blk_lt h.hX)).trans h.hX, fun v l e => by
    obtain ⟨ok, hN, h1, h2⟩ := h.hv v l e
    exact ⟨ok, Kd.N_below hN hb, fun k hk => ⟨Nat.lt_of_lt_of_le (h1 k hk).1 hb.size, (h1 k hk).2⟩, h2⟩, fun b e => ⟨(hb.block _ (blk_lt (h.hg b e).1)).trans (h.hg b e).1, (h.hg b e).2⟩, fun b e => ⟨(hb.block _ (blk_lt (h.hq b e).1)).trans (h.hq b e).1, (h.hq b e).2⟩⟩
theorem FS.clone (h : FS s w xc none g q W) (hb : Below W.heap.size W W1) (hN : Kd.N k38 38 W1 W.heap.size (fun k => k < s ∨ W.heap.size ≤ k) v l) : FS s w xc (some (v, l)) g q W1 := by
  have h1 := h.below hb
  have hsz := blk_lt h.hX
  refine ⟨h1.hb, h1.hX, fun v' l' e => ?_, h1.hg, h1.hq⟩
  obtain ⟨rfl, rfl⟩ := Prod.mk.inj (Option.some.inj e)
  refine ⟨_, Kd.N_bound (Kd.N_lower hN hsz), fun k hk => ⟨hk.2, ?_, fun e => ?_, fun e => ?_⟩, fun k hk => ⟨.inl hk, Nat.lt_of_lt_of_le (Nat.lt_trans hk hsz) hb.size⟩⟩
  · rcases hk.1 with h3 | h3 <;> omega
  · have h4 := h.hg k e.symm
    have h5 := blk_lt h4.1
    rcases hk.1 with h3 | h3 <;> omega
  · have h4 := h.hq k e.symm
    have h5 := blk_lt h4.1
    rcases hk.1 with h3 | h3 <;> omega
theorem FS.build (h : FS s w xc c none q W) : FS s w xc c (some W.heap.size) q (W.alloc (.cells xc 38 (0, 0))) := by
  have h1 := h.below (below_alloc (Below.refl _ _) (.cells xc 38 (0, 0)))
  refine ⟨h1.hb, h1.hX, fun v l e => ?_, fun b e => ?_, h1.hq⟩
  · obtain ⟨ok, hN, h2, h3⟩ := h.hv v l e
    exact ⟨ok, Kd.N_alloc hN _, fun k hk => ⟨Nat.lt_of_lt_of_le (h2 k hk).1 (by simp), (h2 k hk).2.1, fun e => by have := (h2 k hk).1; cases e; omega, (h2 k hk).2.2.2⟩, h3⟩
  · cases e
    exact ⟨heap_alloc_new _ _, blk_lt h.hX⟩
theorem FS.made (h : FS s w xc c g none W) : FS s w xc c g (some W.heap.size) (W.alloc (.cells #[.slice none 0 0] 27 (0, 0))) := by
  have h1 := h.below (below_alloc (Below.refl _ _) (.cells #[.slice none 0 0] 27 (0, 0)))
  refine ⟨h1.hb, h1.hX, fun v l e => ?_, h1.hg, fun b e => ?_⟩
  · obtain ⟨ok, hN, h2, h3⟩ := h.hv v l e
    exact ⟨ok, Kd.N_alloc hN _, fun k hk => ⟨Nat.lt_of_lt_of_le (h2 k hk).1 (by simp), (h2 k hk).2.1, (h2 k hk).2.2.1, fun e => by have := (h2 k hk).1; cases e; omega⟩, h3⟩
  · cases e
    exact ⟨heap_alloc_new _ _, blk_lt h.hX⟩
end
section
variable {s : Nat} {w W : World} {a0 : Int} {A1 : Option Addr} {c1 : Nat} {l1 : List Int} {A2 : Option Addr} {c2 : Nat} {l2 : List Int} {a3 : Bool} {g q : Option Nat} {v : Value} {l : List S38}
theorem FS.del (hs : s = w.heap.size) (g1 : l1.length ≤ c1) (k1 : Kd.C (Kd.int .u8) w A1 l1.length l1) (g2 : l2.length ≤ c2) (k2 : Kd.C (Kd.int .u8) w A2 l2.length l2) (h : FS s w #[.int .i64 a0, .slice A1 l1.length c1, .slice A2 l2.length c2, .bool a3] (some (v, l)) g q W) :
    Calls Try.prog 42 #[v, .func (.func 43) #[] #[.pointer (some ⟨s, 0, none⟩)]] W fun e W1 => ∃ v1, e = .returned v1 ∧ FS s w #[.int .i64 a0, .slice A1 l1.length c1, .slice A2 l2.length c2, .bool a3] (some (v1, dropC (⟨a0, l1, l2, a3⟩ : S38) l)) g q W1 := by
  subst hs
  obtain ⟨ok, hN, hok, hlt⟩ := h.hv v l rfl
  have hsz := blk_lt h.hX
  refine (delf_Span 43 #[.pointer (some ⟨w.heap.size, 0, none⟩)] (fun y => coversB (⟨a0, l1, l2, a3⟩ : S38) y) (w.heap.size + 1) ok v l W hN (enters_of Try.func43 (by kernel_rfl) rfl) ?_).mono ?_
  · intro W1 y B1 d1 B2 d2 hy hg h1 i1 h2 i2
    have hne : some w.heap.size ≠ v.ownBlock := fun he => (hok _ (hN.1 _ he.symm)).2.1 rfl
    have hX1 := (hg.block _ hsz hne).trans h.hX
    have hb1 : Below w.heap.size w W1 := h.hb.grown hg (by omega) (fun k hk => by have := Kd.N_base hN k hk; omega)
    exact add_under w.heap.size a0 A1 c1 l1 A2 c2 l2 a3 W1 y B1 d1 B2 d2 hX1 g1 (Kd.C_below k1 hb1) g2 (Kd.C_below k2 hb1) h1 i1 h2 i2
  · rintro e W1 ⟨v1, rfl, hN1, hg1, ho1⟩
    have hne : ∀ k, ¬ ok k → some k ≠ v.ownBlock := fun k hk he => hk (hN.1 k he.symm)
    have hb1 : Below w.heap.size w W1 := h.hb.grown hg1 (by omega) (fun k hk => by have := Kd.N_base hN k hk; omega)
    refine ⟨v1, rfl, hb1, (hg1.block _ hsz (hne _ (fun hk => (hok _ hk).2.1 rfl))).trans h.hX, fun v' l' e => ?_, fun b e => ⟨(hg1.block _ (blk_lt (h.hg b e).1) (hne _ (fun hk => (hok _ hk).2.2.1 e.symm))).trans (h.hg b e).1, (h.hg b e).2⟩, fun b e => ⟨(hg1.block _ (blk_lt (h.hq b e).1) (hne _ (fun hk => (hok _ hk).2.2.2 e.symm))).trans (h.hq b e).1, (h.hq b e).2⟩⟩
    obtain ⟨rfl, rfl⟩ := Prod.mk.inj (Option.some.inj e)
    exact ⟨ok, hN1, fun k hk => ⟨Nat.lt_of_lt_of_le (hok k hk).1 hg1.size, (hok k hk).2⟩, hlt⟩
theorem FS.append {gb : Nat} (hs : s = w.heap.size) (g1 : l1.length ≤ c1) (k1 : Kd.C (Kd.int .u8) w A1 l1.length l1) (g2 : l2.length ≤ c2) (k2 : Kd.C (Kd.int .u8) w A2 l2.length l2) (h : FS s w #[.int .i64 a0, .slice A1 l1.length c1, .slice A2 l2.length c2, .bool a3] (some (v, l)) (some gb) q W) :
    ∃ ok2 okp : Nat → Prop, Kd.N k38 38 W (s + 1) ok2 v l ∧ Kd.F k38 W okp (some ⟨gb, 0, none⟩) 1 [(⟨a0, l1, l2, a3⟩ : S38)] ∧ (∀ k, okp k → ok2 k ∧ some k ≠ v.ownBlock) ∧ (∀ k, W.heap.size ≤ k → ok2 k) ∧ Below (s + 1) W W ∧ s + 1 ≤ W.heap.size ∧
      ∀ v1 W1, Kd.N k38 38 W1 (s + 1) ok2 v1 (l ++ [(⟨a0, l1, l2, a3⟩ : S38)]) → W.grownBy W1 v.ownBlock → FS s w #[.int .i64 a0, .slice A1 l1.length c1, .slice A2 l2.length c2, .bool a3] (some (v1, l ++ [(⟨a0, l1, l2, a3⟩ : S38)])) none q W1 := by
  subst hs
  obtain ⟨ok, hN, hok, hlt⟩ := h.hv v l rfl
  have hsz := blk_lt h.hX
  obtain ⟨hgb, hgs⟩ := h.hg gb rfl
  have hgz := blk_lt hgb
  refine ⟨fun k => ok k ∨ k = gb ∨ W.heap.size ≤ k, fun k => k < w.heap.size ∨ k = gb, Kd.N_mono hN (fun k hk => .inl hk), ?_, fun k hk => ⟨hk.elim (fun h => .inl (hlt k h)) (fun h => .inr (.inl h)), fun e => ?_⟩, fun k hk => .inr (.inr hk), Below.refl _ _, hsz, fun v1 W1 hN1 hg1 => ?_⟩
  · have hF : ∀ {A : Option Addr} {xs : List Int}, Kd.C (Kd.int .u8) w A xs.length xs → Kd.F (Kd.int .u8) W (fun k => (k < w.heap.size ∨ k = gb) ∧ k ≠ gb) A xs.length xs := fun hc =>
      Kd.F_mono (Kd.F_step (Kd.C_F (Kd.heap_int _) hc) (fun k hk hl => h.hb.block k hk)) (fun k hk => ⟨.inl hk, by omega⟩)
    refine Kd.F_mono (F_of_block (t := 38) (l := [(⟨a0, l1, l2, a3⟩ : S38)]) (ok := fun k => k < w.heap.size ∨ k = gb) (by simp) (fun _ => ⟨gb, #[.int .i64 a0, .slice A1 l1.length c1, .slice A2 l2.length c2, .bool a3].toList, rfl, hgb, .inr rfl, by show 1 * 4 ≤ 4; omega, fun j p hj => ?_⟩)) (fun k hk => hk)
    rcases j with _ | j
    · cases hj
      exact Kd.FK_mono (k38_mkF W _ (⟨a0, l1, l2, a3⟩ : S38) g1 (hF k1) g2 (hF k2)) (fun k hk => hk.1)
    · cases hj
  · have h1 := hok k (hN.1 k e.symm)
    rcases hk with hk | hk
    · have := Kd.N_base hN k e.symm
      omega
    · exact h1.2.2.1 (by rw [hk])
  · have hne : ∀ k, k < w.heap.size + 1 → some k ≠ v.ownBlock := fun k hk he => by have := Kd.N_base hN k he.symm; omega
    have hne' : ∀ k, ¬ ok k → some k ≠ v.ownBlock := fun k hk he => hk (hN.1 k he.symm)
    refine ⟨h.hb.grown hg1 (by omega) (fun k hk => by have := Kd.N_base hN k hk; omega), (hg1.block _ hsz (hne _ (by omega))).trans h.hX, fun v' l' e => ?_, fun b e => (by cases e), fun b e => ⟨(hg1.block _ (blk_lt (h.hq b e).1) (hne' _ (fun hk => (hok _ hk).2.2.2 e.symm))).trans (h.hq b e).1, (h.hq b e).2⟩⟩
    obtain ⟨rfl, rfl⟩ := Prod.mk.inj (Option.some.inj e)
    refine ⟨_, Kd.N_bound hN1, fun k hk => ⟨hk.2, ?_, fun e => (by cases e), fun e => ?_⟩, fun k hk => ⟨.inl (hlt k hk), by have := hg1.size; omega⟩⟩
    · rcases hk.1 with h3 | h3 | h3
      · exact (hok k h3).2.1
      · omega
      · omega
    · have h4 := h.hq k e.symm
      have h5 := blk_lt h4.1
      rcases hk.1 with h3 | h3 | h3
      · exact (hok k h3).2.2.2 e
      · subst h3
        have h6 := hgb.symm.trans h4.1
        simp at h6
      · omega
end
theorem FS.cloneCall {s : Nat} {w W : World} {xc : Array Value} {g q : Option Nat} {A0 : Option Addr} {c0 : Nat} {l0 : List S38} (hs : s = w.heap.size) (hl : l0.length < 2199023255552) (hV : Kd.V k38 38 w w.heap.size (fun k => k < w.heap.size) (.slice A0 l0.length c0) l0) (h : FS s w xc none g q W) :
    Calls Try.prog 18 #[.slice A0 l0.length c0] W fun e W1 => ∃ v, e = .returned v ∧ FS s w xc (some (v, l0)) g q W1 := by
  subst hs
  refine (slices_Clone_Span.calls (fun k => k < w.heap.size) A0 c0 l0 l0 W (Kd.V_lower (base := w.heap.size + W.heap.size) (Kd.V_step hV (fun k hk _ => h.hb.block k hk)) (Nat.le_add_left _ _)) (by unfold slices_Clone_Span.f; rw [if_pos hl])).mono ?_
  rintro e W1 ⟨v, rfl, hN, hb⟩
  exact ⟨v, rfl, h.clone hb hN⟩
structure AS (s M : Nat) (w : World) (xc : Array Value) (q : Nat) (v : Value) (l : List S38) (W : World) : Prop where
  hb : Below s w W
  hX : W.heap[s]? = some (.cells xc 38 (0, 0))
  hq : W.heap[q]? = some (.cells #[v] 27 (0, 0))
  hsq : s < q ∧ q < M ∧ M ≤ W.heap.size
  hv : ∃ ok : Nat → Prop, Kd.N k38 38 W (s + 1) ok v l ∧ (∀ k, ok k → k < M ∧ k ≠ s ∧ k ≠ q) ∧ ∀ k, k < s → ok k
section
variable {s M q : Nat} {w W W1 : World} {xc : Array Value} {v v1 : Value} {l l' : List S38}
theorem AS.of_FS (h : FS s w xc (some (v, l)) none (some q) W) : AS s W.heap.size w xc q v l (W.setCell ⟨q, 0, none⟩ v) := by
  obtain ⟨hq, hsq⟩ := h.hq q rfl
  have hqz := blk_lt hq
  obtain ⟨ok, hN, h1, h2⟩ := h.hv v l rfl
  exact ⟨h.hb.setCell (p := ⟨q, 0, none⟩) (by show s ≤ q; omega) _, (Below.heap_setCell _ _ _ _ (by show s ≠ q; omega)).trans h.hX, blk_set hq 0 v, ⟨hsq, hqz, by simp⟩, ok, Kd.N_far hN (p := ⟨q, 0, none⟩) (fun k hk e => (h1 k hk).2.2.2 (congrArg some e)) _, fun k hk => ⟨(h1 k hk).1, (h1 k hk).2.1, fun e => (h1 k hk).2.2.2 (congrArg some e)⟩, h2⟩
theorem AS.grown (h : AS s M w xc q v l W) {row : Option Nat} (hg : W.grownBy W1 row) (hr : ∀ k, row = some k → M ≤ k) : AS s M w xc q v l W1 := by
  have hne : ∀ k, k < M → some k ≠ row := fun k hk e => by have := hr k e.symm; omega
  obtain ⟨ok, hN, h1, h2⟩ := h.hv
  have hsz := blk_lt h.hX
  have h3 := h.hsq
  exact ⟨h.hb.grown hg (by omega) (fun k hk => by have := hr k hk; omega), (hg.block _ hsz (hne _ (by omega))).trans h.hX, (hg.block _ (blk_lt h.hq) (hne _ (by omega))).trans h.hq, ⟨h3.1, h3.2.1, Nat.le_trans h3.2.2 hg.size⟩, ok, Kd.N_grown hN hg (fun k hk => hne k (h1 k hk).1), h1, h2⟩
theorem AS.below (h : AS s M w xc q v l W) (hb : Below W.heap.size W W1) : AS s M w xc q v l W1 := h.grown (grown_of_below hb none) (fun k e => by cases e)
/-- The row is written, and laid back into its variable. -/
theorem AS.put (h : AS s M w xc q v l W) (hg : W.grownBy W1 v.ownBlock) (hN1 : ∀ ok, Kd.N k38 38 W (s + 1) ok v l → (∀ k, k < s → ok k) → Kd.N k38 38 W1 (s + 1) ok v1 l') : AS s M w xc q v1 l' (W1.setCell ⟨q, 0, none⟩ v1) := by
  obtain ⟨ok, hN, h1, h2⟩ := h.hv
  have hne : ∀ k, ¬ ok k → some k ≠ v.ownBlock := fun k hk he => hk (hN.1 k he.symm)
  have hsz := blk_lt h.hX
  have h3 := h.hsq
  have hb1 : Below s w W1 := h.hb.grown hg (by omega) (fun k hk => by have := Kd.N_base hN k hk; omega)
  have hq1 := (hg.block _ (blk_lt h.hq) (hne _ (fun hk => (h1 _ hk).2.2 rfl))).trans h.hq
  exact ⟨hb1.setCell (p := ⟨q, 0, none⟩) (by show s ≤ q; omega) _, (Below.heap_setCell _ _ _ _ (by show s ≠ q; omega)).trans ((hg.block _ hsz (hne _ (fun hk => (h1 _ hk).2.1 rfl))).trans h.hX), blk_set hq1 0 v1, ⟨h3.1, h3.2.1, by have := hg.size; simp; omega⟩, ok, Kd.N_far (hN1 ok hN h2) (p := ⟨q, 0, none⟩) (fun k hk e => (h1 k hk).2.2 e) _, h1, h2⟩
theorem AS.set (h : AS s M w xc q v l W) : ∃ ok : Nat → Prop, Kd.N k38 38 W (s + 1) ok v l ∧ (∀ k, k < s → ok k) ∧ ∀ l' W1, Kd.N k38 38 W1 (s + 1) ok v l' → W.grownBy W1 v.ownBlock → AS s M w xc q v l' W1 ∧ W.grownBy W1 (some q) = W.grownBy W1 (some q) := by
  obtain ⟨ok, hN, h1, h2⟩ := h.hv
  have hne : ∀ k, ¬ ok k → some k ≠ v.ownBlock := fun k hk he => hk (hN.1 k he.symm)
  have hsz := blk_lt h.hX
  have h3 := h.hsq
  refine ⟨ok, hN, h2, fun l' W1 hN1 hg => ⟨⟨h.hb.grown hg (by omega) (fun k hk => by have := Kd.N_base hN k hk; omega), (hg.block _ hsz (hne _ (fun hk => (h1 _ hk).2.1 rfl))).trans h.hX, (hg.block _ (blk_lt h.hq) (hne _ (fun hk => (h1 _ hk).2.2 rfl))).trans h.hq, ⟨h3.1, h3.2.1, Nat.le_trans h3.2.2 hg.size⟩, ok, hN1, h1, h2⟩, rfl⟩⟩
theorem AS.next (h : AS s M w xc q v l W) : ∃ ok : Nat → Prop, Kd.N k38 38 W (s + 1) ok v l ∧ ∀ v1 l' W1, Kd.N k38 38 W1 (s + 1) ok v1 l' → W.grownBy W1 v.ownBlock → AS s M w xc q v1 l' (W1.setCell ⟨q, 0, none⟩ v1) ∧ W1.heap[q]? = some (.cells #[v] 27 (0, 0)) := by
  obtain ⟨ok, hN, h1, h2⟩ := h.hv
  have hne : ∀ k, ¬ ok k → some k ≠ v.ownBlock := fun k hk he => hk (hN.1 k he.symm)
  have hsz := blk_lt h.hX
  have h3 := h.hsq
  refine ⟨ok, hN, fun v1 l' W1 hN1 hg => ?_⟩
  have hb1 : Below s w W1 := h.hb.grown hg (by omega) (fun k hk => by have := Kd.N_base hN k hk; omega)
  have hq1 := (hg.block _ (blk_lt h.hq) (hne _ (fun hk => (h1 _ hk).2.2 rfl))).trans h.hq
  exact ⟨⟨hb1.setCell (p := ⟨q, 0, none⟩) (by show s ≤ q; omega) _, (Below.heap_setCell _ _ _ _ (by show s ≠ q; omega)).trans ((hg.block _ hsz (hne _ (fun hk => (h1 _ hk).2.1 rfl))).trans h.hX), blk_set hq1 0 v1, ⟨h3.1, h3.2.1, by have := hg.size; simp; omega⟩, ok, Kd.N_far hN1 (p := ⟨q, 0, none⟩) (fun k hk e => (h1 k hk).2.2 e) _, h1, h2⟩, hq1⟩
theorem AS.own_lt (h : AS s M w xc q v l W) : ∀ b, v.ownBlock = some b → b < M := by
  obtain ⟨ok, hN, h1, h2⟩ := h.hv
  exact fun b hb => (h1 b (hN.1 b hb)).1
theorem AS.C' {A : Option Addr} {n c : Nat} (h : AS s M w xc q (.slice A n c) l W) : n = l.length ∧ n ≤ c ∧ Kd.C k38 W A l.length l := by
  obtain ⟨ok, hN, _⟩ := h.hv
  have hV := Kd.V_at (Kd.N_V (base' := s) hN)
  exact ⟨hV.1, hV.2.1, Kd.F_now hV.2.2⟩
theorem places_snoc {t : Int} {l : List S38} {k : Nat} {y : S38} (hy : l[k]? = some y) : placesOf t (l.take (k + 1)) 0 = placesOf t (l.take k) 0 ++ (if y.f0 = t then [k] else []) := by
  have hk := (List.getElem?_eq_some_iff.1 hy).1
  rw [take_snoc' hy, placesOf_app, List.length_take, Nat.min_eq_left (by omega), Nat.zero_add]
  rfl
theorem AS.C (h : AS s M w xc q v l W) : ∃ A c, v = .slice A l.length c ∧ l.length ≤ c ∧ Kd.C k38 W A l.length l := by
  obtain ⟨ok, hN, _⟩ := h.hv
  have hV := Kd.N_V (base' := s) hN
  obtain ⟨A, c, rfl⟩ := Kd.V_slice hV
  obtain ⟨_, h1, h2⟩ := Kd.V_at hV
  exact ⟨A, c, rfl, h1, Kd.F_now h2⟩
end
theorem mergeL_len (t : Int) : ∀ l : List S38, (mergeL t l).length ≤ l.length
  | [] => Nat.le_refl _
  | y :: l => by
    rw [mergeL]
    have := mergeL_len t l
    have h2 := List.length_filter_le (fun z => !decide (S38.f0 z = t)) l
    split <;> simp only [List.length_cons] <;> omega
theorem mergeL_ok (t : Int) : ∀ l : List S38, l.all okSp = true → (mergeL t l).all okSp = true
  | [], _ => rfl
  | y :: l, h => by
    rw [List.all_cons, Bool.and_eq_true] at h
    rw [mergeL]
    split
    · rw [List.all_cons]
      have : okSp (allSp t) = true := rfl
      rw [this, Bool.true_and, List.all_eq_true]
      exact fun z hz => List.all_eq_true.1 h.2 z (List.mem_filter.1 hz).1
    · rw [List.all_cons, h.1, mergeL_ok t l h.2]
      rfl
def delAll (l : List S38) (pre : List (Int × Int)) : List S38 := pre.foldl (fun acc x => acc.eraseIdx x.2.toNat) l
theorem delAll_snoc (l : List S38) (pre : List (Int × Int)) (x : Int × Int) : delAll l (pre ++ [x]) = (delAll l pre).eraseIdx x.2.toNat := by simp [delAll]
theorem delAll_map (l : List S38) (pre : List (Int × Int)) (is : List Nat) (h : pre.map (·.2) = is.map Int.ofNat) : delAll l pre = is.foldl (fun acc i => acc.eraseIdx i) l := by
  have e : delAll l pre = (pre.map (·.2)).foldl (fun acc z => acc.eraseIdx z.toNat) l := by rw [List.foldl_map]; rfl
  rw [e, h, List.foldl_map]
  rfl
theorem delAll_len (l : List S38) : ∀ pre : List (Int × Int), l.length ≤ (delAll l pre).length + pre.length := by
  intro pre
  have e : delAll l pre = (pre.map fun x => x.2.toNat).foldl (fun acc i => acc.eraseIdx i) l := by rw [List.foldl_map]; rfl
  have := erase_len 0 (pre.map fun x => x.2.toNat) l
  rw [List.length_map] at this
  rw [e]
  exact this
structure BS (s M N0 gb q : Nat) (w : World) (xc : Array Value) (l1 : List S38) (Ab : Option Addr) (cb : Nat) (ps : List Int) (pre : List (Int × Int)) (W : World) : Prop where
  hA : ∃ A c, AS s M w xc q (.slice A (delAll l1 pre).length c) (delAll l1 pre) W
  hB : W.heap[gb]? = some (.cells #[.slice Ab ps.length cb] 51 (0, 0))
  hF : Kd.F (Kd.int .i64) W (fun k => M ≤ k ∧ k < N0) Ab ps.length ps
  hN : M ≤ gb ∧ gb < N0 ∧ N0 + 2 ≤ W.heap.size
section
variable {s M N0 gb q : Nat} {w W W1 : World} {xc : Array Value} {l1 : List S38} {Ab : Option Addr} {cb : Nat} {ps : List Int} {pre : List (Int × Int)}
theorem BS.put (h : BS s M N0 gb q w xc l1 Ab cb ps pre W) {l : Nat} (o' : Obj) (hl : l = N0 ∨ l = N0 + 1) : BS s M N0 gb q w xc l1 Ab cb ps pre (W.putObj l o') := by
  obtain ⟨⟨A, c, hA⟩, hB, hF, hN⟩ := h
  refine ⟨⟨A, c, hA.grown (grownBy_putObj' W l o') (fun k e => by cases e; omega)⟩, (World.putObj_heap_other (by omega)).trans hB, Kd.F_step hF (fun k hk _ => World.putObj_heap_other (by omega)), hN.1, hN.2.1, ?_⟩
  have := (grownBy_putObj' W l o').size
  omega
theorem BS.good {t : Int} {l6 : List S38} {p0 : Nat} {rest : List Nat} {x : Int × Int} {pre : List (Int × Int)} (hp : placesOf t l6 0 = p0 :: rest) (hl1 : l1.length = l6.length) (h : BS s M N0 gb q w xc l1 Ab cb (rest.map Int.ofNat) pre W) (hx : (rest.map Int.ofNat).reverse[pre.length]? = some x.2) :
    0 ≤ x.2 ∧ ∀ A n c, W.heap[q]? = some (.cells #[.slice A n c] 27 (0, 0)) → x.2 < (n : Int) := by
  obtain ⟨⟨A, c, hA⟩, hB, hF, hN⟩ := h
  have hj := (List.getElem?_eq_some_iff.1 hx).1
  rw [List.length_reverse, List.length_map] at hj
  rw [List.getElem?_reverse (by rw [List.length_map]; exact hj), List.length_map, List.getElem?_map, Option.map_eq_some_iff] at hx
  obtain ⟨p, hpp, hx2⟩ := hx
  have hlt := placesOf_lt t l6 0 (rest.length - 1 - pre.length + 1) p (by rw [hp, List.getElem?_cons_succ]; exact hpp)
  rw [hp, List.length_cons] at hlt
  have hd := delAll_len l1 pre
  refine ⟨by rw [← hx2]; exact Int.natCast_nonneg p, fun A' n c' hq => ?_⟩
  have h1 := hq.symm.trans hA.hq
  have h2 : n = (delAll l1 pre).length := by
    simp at h1
    exact h1.2.1
  rw [← hx2, h2]
  show (p : Int) < _
  omega
end
section
attribute [local go_sem] Oper.semAt_some
def span_Add.f (l0 : List (S38)) (a1_0 : Int) (l1_1 : List Int) (l1_2 : List Int) (a1_3 : Bool) (a2 : Int) : Option ((List (S38)) × Int) := if (decide (l0.length < 2199023255551) && (l0.all okSp && okSp ⟨a1_0, l1_1, l1_2, a1_3⟩)) = true then some (addL l0 ⟨a1_0, l1_1, l1_2, a1_3⟩ a2) else none
set_option maxHeartbeats 8000000 in
set_option maxRecDepth 100000 in
theorem span_Add.calls (A0 : Option Addr) (c0 : Nat) (l0 : List (S38)) (a1_0 : Int) (A1_1 : Option Addr) (c1_1 : Nat) (l1_1 : List Int) (A1_2 : Option Addr) (c1_2 : Nat) (l1_2 : List Int) (a1_3 : Bool) (a2 : Int) (r1 : List (S38)) (r2 : Int) (w : World) (hr0 : Kd.C k38 w A0 l0.length l0) (hc0 : l0.length ≤ c0) (hr1_1 : Kd.C (Kd.int .u8) w A1_1 l1_1.length l1_1) (hc1_1 : l1_1.length ≤ c1_1) (hr1_2 : Kd.C (Kd.int .u8) w A1_2 l1_2.length l1_2) (hc1_2 : l1_2.length ≤ c1_2) (h : span_Add.f l0 a1_0 l1_1 l1_2 a1_3 a2 = some (r1, r2)) :
    Calls Try.prog 23 #[.slice A0 l0.length c0, .agg #[.int .i64 a1_0, .slice A1_1 l1_1.length c1_1, .slice A1_2 l1_2.length c1_2, .bool a1_3], .int .i64 a2] w fun e w' => ∃ v0_ : Value, e = .returned (.tuple #[v0_, .int .i64 r2]) ∧ Kd.V k38 38 w' w.heap.size (fun k_ => (w.heap.size ≤ k_)) v0_ r1 ∧ Below w.heap.size w w' := by
  unfold span_Add.f at h
  have hok : (decide (l0.length < 2199023255551) && (l0.all okSp && okSp ⟨a1_0, l1_1, l1_2, a1_3⟩)) = true := Classical.byContradiction fun hn => by rw [if_neg hn] at h; cases h
  rw [if_pos hok] at h
  have hadd := Option.some.inj h
  clear h
  simp only [Bool.and_eq_true, decide_eq_true_eq] at hok
  obtain ⟨hln, hall, hxok⟩ := hok
  have HOWN := fun (W : World) (hb : Below w.heap.size w W) => Aside0.mk (span_own.calls A0 c0 l0 l0 W (Kd.C_below hr0 hb) hc0 (by unfold span_own.f; rw [if_pos (by rw [hall, decide_eq_true (by omega)]; rfl)]))
  have HW1 := fun (W : World) (hb : Below w.heap.size w W) => Aside0.mk (add_wrong W (⟨a1_0, l1_1, l1_2, a1_3⟩ : S38) A1_1 c1_1 A1_2 c1_2 hc1_1 (Kd.C_below hr1_1 hb) hc1_2 (Kd.C_below hr1_2 hb))
  have HW2 := fun (W : World) (hb : Below w.heap.size w W) => Aside0.mk (has_Span 36 #[] (fun y => !checkB y) A0 c0 l0 W (Kd.C_below hr0 hb) (enters_of Try.func36 (by kernel_rfl) rfl) (fun W1 y B1 d1 B2 d2 _ _ h1 i1 h2 i2 => add_wrong W1 y B1 d1 B2 d2 h1 i1 h2 i2))
  have HEM := fun (W : World) (hb : Below w.heap.size w W) => Aside0.mk (span_Empty.calls a1_0 A1_1 c1_1 l1_1 A1_2 c1_2 l1_2 a1_3 (emptyB (⟨a1_0, l1_1, l1_2, a1_3⟩ : S38)) W (Kd.C_below hr1_1 hb) hc1_1 (Kd.C_below hr1_2 hb) hc1_2 (span_Empty_f (⟨a1_0, l1_1, l1_2, a1_3⟩ : S38)))
  have HOV := fun (W : World) (hb : Below w.heap.size w W) (hX : W.heap[w.heap.size]? = some (.cells #[.int .i64 a1_0, .slice A1_1 l1_1.length c1_1, .slice A1_2 l1_2.length c1_2, .bool a1_3] 38 (0, 0))) => Aside0.mk (has_Span 40 #[.pointer (some ⟨w.heap.size, 0, none⟩)] (fun y => coversB y (⟨a1_0, l1_1, l1_2, a1_3⟩ : S38)) A0 c0 l0 W (Kd.C_below hr0 hb) (enters_of Try.func40 (by kernel_rfl) rfl) (fun W1 y B1 d1 B2 d2 _ hb1 h1 i1 h2 i2 => add_over w.heap.size a1_0 A1_1 c1_1 l1_1 A1_2 c1_2 l1_2 a1_3 W1 y B1 d1 B2 d2 ((hb1.block _ (blk_lt hX)).trans hX) hc1_1 (Kd.C_below (Kd.C_below hr1_1 hb) hb1) hc1_2 (Kd.C_below (Kd.C_below hr1_2 hb) hb1) h1 i1 h2 i2))
  have HF0 := Aside0.mk (Kd.V_mk (d := k38) (e := 38) (base := w.heap.size) hc0 (Kd.C_F (by repeat (first | exact Kd.heap_int _ | exact Kd.heap_bool | exact Kd.heap_string | apply Kd.heap_slice | apply Kd.heap_iso | apply Kd.heap_pair)) hr0))
  have HR0 := Aside0.mk (And.intro hr0 hc0)
  have HR1 := Aside0.mk (And.intro hr1_1 hc1_1)
  have HR2 := Aside0.mk (And.intro hr1_2 hc1_2)
  have HOK := Aside0.mk (And.intro hall hxok)
  have HADD := Aside0.mk hadd
  obtain ⟨Wx, hWx⟩ : ∃ Wx, Wx = w.alloc (.cells #[.int .i64 a1_0, .slice A1_1 l1_1.length c1_1, .slice A1_2 l1_2.length c1_2, .bool a1_3] 38 (0, 0)) := ⟨_, rfl⟩
  have HBX := Aside0.mk (show Below w.heap.size w Wx by rw [hWx]; exact below_alloc (Below.refl _ _) _)
  have HXX := Aside0.mk (show Wx.heap[w.heap.size]? = some (.cells #[.int .i64 a1_0, .slice A1_1 l1_1.length c1_1, .slice A1_2 l1_2.length c1_2, .bool a1_3] 38 (0, 0)) by rw [hWx]; exact heap_alloc_new w _)
  have HWX := Aside0.mk hWx
  have HWA := HW1 Wx HBX.out
  rw [hWx] at HWA
  clear HW1
  have hu := Try.underlying38
  have hmf : ∀ (fn : Fn) (first cap : Array Value) (w : World), (Instr.makeFunc fn first cap).run Try.prog w = .ok (.func fn first cap) w := fun _ _ _ _ => rfl
  have he33 := enters_of (P := Try.prog) Try.func36 (by kernel_rfl) rfl
  clear hr0 hc0 hr1_1 hc1_1 hr1_2 hc1_2 hall hxok hadd hWx
  have hmw : a2 < 1 ∨ 1 ≤ a2 := by omega
  cases hck : checkB (⟨a1_0, l1_1, l1_2, a1_3⟩ : S38) with
  | false =>
    have hres : r1 = l0 ∧ r2 = 1 := by have h2 := HADD.out; unfold addL at h2; rw [hck] at h2; simp at h2; exact ⟨h2.1.symm, h2.2.symm⟩
    obtain ⟨rfl, rfl⟩ := hres
    rw [hck] at HWA
    clear hmw hck
    refine (callsIn_wide (n := 6)).1 ?_
    refine callsIn_of_wp_marks Try.func23 rfl trivial ?_ rfl
    simp only [Try.ntmps23, List.size_toArray, List.length_cons, List.length_nil, Nat.reduceAdd, Nat.reduceSub, Array.replicate_succ, Array.replicate_zero, List.push_toArray, List.append_toArray, List.nil_append, List.cons_append]
    refine (wpIn_wide (n := 6)).2 ?_
    go_wp2
    refine (wpIn_wide (n := 6)).1 (wpIn_scope_straight ((wpIn_wide (n := 6)).2 ?_))
    go_wp2_with fail
    refine HWA.out.mono ?_
    rintro e w1 ⟨rfl, hb⟩
    rw [← HWX.out] at hb
    have HB1 := Aside0.mk (below_step HBX.out hb)
    have HX1 := Aside0.mk ((hb.block _ (blk_lt HXX.out)).trans HXX.out)
    have x0 := (blk_cell HX1.out 0).trans rfl
    have x1 := (blk_cell HX1.out 1).trans rfl
    have x2 := (blk_cell HX1.out 2).trans rfl
    have x3 := (blk_cell HX1.out 3).trans rfl
    clear hb
    go_wp2_with ((go_at_call 38; refine (HOWN _ HB1.out).out.mono ?_; rintro e w2 ⟨vo, rfl, hV, hb⟩; have HB2 := Aside0.mk (below_step HB1.out hb); have HVO := Aside0.mk (Kd.V_lower (base' := w.heap.size) (Kd.V_mono (ok' := fun k => w.heap.size ≤ k) hV (fun k hk => Nat.le_trans HB1.out.size hk)) HB1.out.size); clear hV hb))
    rw [Exit.noGoto_ret]
    refine ⟨_, results_tmp2 rfl _ _ _, ?_⟩
    exact ⟨_, rfl, HVO.out, HB2.out⟩
  | true =>
    rw [hck] at HWA
    cases hany : l0.any (fun y => !checkB y) with
    | true =>
      have hres : r1 = l0 ∧ r2 = 1 := by have h2 := HADD.out; unfold addL at h2; rw [hck, hany] at h2; simp at h2; exact ⟨h2.1.symm, h2.2.symm⟩
      obtain ⟨rfl, rfl⟩ := hres
      rw [hany] at HW2
      clear hmw hck hany
      refine (callsIn_wide (n := 6)).1 ?_
      refine callsIn_of_wp_marks Try.func23 rfl trivial ?_ rfl
      simp only [Try.ntmps23, List.size_toArray, List.length_cons, List.length_nil, Nat.reduceAdd, Nat.reduceSub, Array.replicate_succ, Array.replicate_zero, List.push_toArray, List.append_toArray, List.nil_append, List.cons_append]
      refine (wpIn_wide (n := 6)).2 ?_
      go_wp2
      refine (wpIn_wide (n := 6)).1 (wpIn_scope_straight ((wpIn_wide (n := 6)).2 ?_))
      go_wp2_with fail
      refine HWA.out.mono ?_
      rintro e w1 ⟨rfl, hb⟩
      rw [← HWX.out] at hb
      have HB1 := Aside0.mk (below_step HBX.out hb)
      have HX1 := Aside0.mk ((hb.block _ (blk_lt HXX.out)).trans HXX.out)
      have x0 := (blk_cell HX1.out 0).trans rfl
      have x1 := (blk_cell HX1.out 1).trans rfl
      have x2 := (blk_cell HX1.out 2).trans rfl
      have x3 := (blk_cell HX1.out 3).trans rfl
      clear hb
      go_wp2_with (first | (go_at_call 26; refine (HW2 _ HB1.out).out.mono ?_; rintro e w2 ⟨rfl, hb⟩; have HB2 := Aside0.mk (below_step HB1.out hb); have HX2 := Aside0.mk ((hb.block _ (blk_lt HX1.out)).trans HX1.out); clear x0 x1 x2 x3; have x0 := (blk_cell HX2.out 0).trans rfl; have x1 := (blk_cell HX2.out 1).trans rfl; have x2 := (blk_cell HX2.out 2).trans rfl; have x3 := (blk_cell HX2.out 3).trans rfl; clear hb) | (go_at_call 38; refine (HOWN _ HB2.out).out.mono ?_; rintro e w3 ⟨vo, rfl, hV, hb⟩; have HB3 := Aside0.mk (below_step HB2.out hb); have HVO := Aside0.mk (Kd.V_lower (base' := w.heap.size) (Kd.V_mono (ok' := fun k => w.heap.size ≤ k) hV (fun k hk => Nat.le_trans HB2.out.size hk)) HB2.out.size); clear hV hb))
      rw [Exit.noGoto_ret]
      refine ⟨_, results_tmp2 rfl _ _ _, ?_⟩
      exact ⟨_, rfl, HVO.out, HB3.out⟩
    | false =>
      rw [hany] at HW2
      by_cases hm1 : a2 < 1
      · have hres : r1 = l0 ∧ r2 = 1 := by have h2 := HADD.out; unfold addL at h2; rw [hck, hany, decide_eq_true hm1] at h2; simp at h2; exact ⟨h2.1.symm, h2.2.symm⟩
        obtain ⟨rfl, rfl⟩ := hres
        clear hmw hck hany
        refine (callsIn_wide (n := 6)).1 ?_
        refine callsIn_of_wp_marks Try.func23 rfl trivial ?_ rfl
        simp only [Try.ntmps23, List.size_toArray, List.length_cons, List.length_nil, Nat.reduceAdd, Nat.reduceSub, Array.replicate_succ, Array.replicate_zero, List.push_toArray, List.append_toArray, List.nil_append, List.cons_append]
        refine (wpIn_wide (n := 6)).2 ?_
        go_wp2
        refine (wpIn_wide (n := 6)).1 (wpIn_scope_straight ((wpIn_wide (n := 6)).2 ?_))
        go_wp2_with fail
        refine HWA.out.mono ?_
        rintro e w1 ⟨rfl, hb⟩
        rw [← HWX.out] at hb
        have HB1 := Aside0.mk (below_step HBX.out hb)
        have HX1 := Aside0.mk ((hb.block _ (blk_lt HXX.out)).trans HXX.out)
        have x0 := (blk_cell HX1.out 0).trans rfl
        have x1 := (blk_cell HX1.out 1).trans rfl
        have x2 := (blk_cell HX1.out 2).trans rfl
        have x3 := (blk_cell HX1.out 3).trans rfl
        clear hb
        go_wp2_with (first | (go_at_call 26; refine (HW2 _ HB1.out).out.mono ?_; rintro e w2 ⟨rfl, hb⟩; have HB2 := Aside0.mk (below_step HB1.out hb); have HX2 := Aside0.mk ((hb.block _ (blk_lt HX1.out)).trans HX1.out); clear x0 x1 x2 x3; have x0 := (blk_cell HX2.out 0).trans rfl; have x1 := (blk_cell HX2.out 1).trans rfl; have x2 := (blk_cell HX2.out 2).trans rfl; have x3 := (blk_cell HX2.out 3).trans rfl; clear hb) | (go_at_call 38; refine (HOWN _ HB2.out).out.mono ?_; rintro e w3 ⟨vo, rfl, hV, hb⟩; have HB3 := Aside0.mk (below_step HB2.out hb); have HVO := Aside0.mk (Kd.V_lower (base' := w.heap.size) (Kd.V_mono (ok' := fun k => w.heap.size ≤ k) hV (fun k hk => Nat.le_trans HB2.out.size hk)) HB2.out.size); clear hV hb))
        rw [Exit.noGoto_ret]
        refine ⟨_, results_tmp2 rfl _ _ _, ?_⟩
        exact ⟨_, rfl, HVO.out, HB3.out⟩
      · by_cases hm2 : 100 < a2
        · have hres : r1 = l0 ∧ r2 = 1 := by have h2 := HADD.out; unfold addL at h2; rw [hck, hany, decide_eq_true hm2] at h2; simp at h2; exact ⟨h2.1.symm, h2.2.symm⟩
          obtain ⟨rfl, rfl⟩ := hres
          clear hmw hck hany
          refine (callsIn_wide (n := 6)).1 ?_
          refine callsIn_of_wp_marks Try.func23 rfl trivial ?_ rfl
          simp only [Try.ntmps23, List.size_toArray, List.length_cons, List.length_nil, Nat.reduceAdd, Nat.reduceSub, Array.replicate_succ, Array.replicate_zero, List.push_toArray, List.append_toArray, List.nil_append, List.cons_append]
          refine (wpIn_wide (n := 6)).2 ?_
          go_wp2
          refine (wpIn_wide (n := 6)).1 (wpIn_scope_straight ((wpIn_wide (n := 6)).2 ?_))
          go_wp2_with fail
          refine HWA.out.mono ?_
          rintro e w1 ⟨rfl, hb⟩
          rw [← HWX.out] at hb
          have HB1 := Aside0.mk (below_step HBX.out hb)
          have HX1 := Aside0.mk ((hb.block _ (blk_lt HXX.out)).trans HXX.out)
          have x0 := (blk_cell HX1.out 0).trans rfl
          have x1 := (blk_cell HX1.out 1).trans rfl
          have x2 := (blk_cell HX1.out 2).trans rfl
          have x3 := (blk_cell HX1.out 3).trans rfl
          clear hb
          go_wp2_with (first | (go_at_call 26; refine (HW2 _ HB1.out).out.mono ?_; rintro e w2 ⟨rfl, hb⟩; have HB2 := Aside0.mk (below_step HB1.out hb); have HX2 := Aside0.mk ((hb.block _ (blk_lt HX1.out)).trans HX1.out); clear x0 x1 x2 x3; have x0 := (blk_cell HX2.out 0).trans rfl; have x1 := (blk_cell HX2.out 1).trans rfl; have x2 := (blk_cell HX2.out 2).trans rfl; have x3 := (blk_cell HX2.out 3).trans rfl; clear hb) | (go_at_call 38; refine (HOWN _ HB2.out).out.mono ?_; rintro e w3 ⟨vo, rfl, hV, hb⟩; have HB3 := Aside0.mk (below_step HB2.out hb); have HVO := Aside0.mk (Kd.V_lower (base' := w.heap.size) (Kd.V_mono (ok' := fun k => w.heap.size ≤ k) hV (fun k hk => Nat.le_trans HB2.out.size hk)) HB2.out.size); clear hV hb))
          rw [Exit.noGoto_ret]
          refine ⟨_, results_tmp2 rfl _ _ _, ?_⟩
          exact ⟨_, rfl, HVO.out, HB3.out⟩
        · have hadd2 : (if (emptyB (⟨a1_0, l1_1, l1_2, a1_3⟩ : S38) || l0.any fun y => coversB y (⟨a1_0, l1_1, l1_2, a1_3⟩ : S38)) = true then (l0, 0) else if a2 < ((placesOf a1_0 (dropC (⟨a1_0, l1_1, l1_2, a1_3⟩ : S38) l0 ++ [(⟨a1_0, l1_1, l1_2, a1_3⟩ : S38)]) 0).length : Int) then (mergeL a1_0 (dropC (⟨a1_0, l1_1, l1_2, a1_3⟩ : S38) l0 ++ [(⟨a1_0, l1_1, l1_2, a1_3⟩ : S38)]), 0) else (dropC (⟨a1_0, l1_1, l1_2, a1_3⟩ : S38) l0 ++ [(⟨a1_0, l1_1, l1_2, a1_3⟩ : S38)], (0 : Int))) = (r1, r2) := by
            have h2 := HADD.out
            unfold addL at h2
            rw [hck, hany, decide_eq_false hm1, decide_eq_false hm2] at h2
            simpa using h2
          clear hck hany HADD hmw
          cases hem : emptyB (⟨a1_0, l1_1, l1_2, a1_3⟩ : S38) with
          | true =>
            rw [hem] at HEM hadd2
            have hres : r1 = l0 ∧ r2 = 0 := by simp at hadd2; exact ⟨hadd2.1.symm, hadd2.2.symm⟩
            obtain ⟨rfl, rfl⟩ := hres
            clear hem hadd2
            refine (callsIn_wide (n := 6)).1 ?_
            refine callsIn_of_wp_marks Try.func23 rfl trivial ?_ rfl
            simp only [Try.ntmps23, List.size_toArray, List.length_cons, List.length_nil, Nat.reduceAdd, Nat.reduceSub, Array.replicate_succ, Array.replicate_zero, List.push_toArray, List.append_toArray, List.nil_append, List.cons_append]
            refine (wpIn_wide (n := 6)).2 ?_
            go_wp2
            refine (wpIn_wide (n := 6)).1 (wpIn_scope_straight ((wpIn_wide (n := 6)).2 ?_))
            go_wp2_with fail
            refine HWA.out.mono ?_
            rintro e w1 ⟨rfl, hb⟩
            rw [← HWX.out] at hb
            have HB1 := Aside0.mk (below_step HBX.out hb)
            have HX1 := Aside0.mk ((hb.block _ (blk_lt HXX.out)).trans HXX.out)
            have x0 := (blk_cell HX1.out 0).trans rfl
            have x1 := (blk_cell HX1.out 1).trans rfl
            have x2 := (blk_cell HX1.out 2).trans rfl
            have x3 := (blk_cell HX1.out 3).trans rfl
            clear hb
            go_wp2_with fail
            refine (HW2 _ HB1.out).out.mono ?_
            rintro e w2 ⟨rfl, hb⟩
            have HB2 := Aside0.mk (below_step HB1.out hb)
            have HX2 := Aside0.mk ((hb.block _ (blk_lt HX1.out)).trans HX1.out)
            clear x0 x1 x2 x3
            have x0 := (blk_cell HX2.out 0).trans rfl
            have x1 := (blk_cell HX2.out 1).trans rfl
            have x2 := (blk_cell HX2.out 2).trans rfl
            have x3 := (blk_cell HX2.out 3).trans rfl
            clear hb
            go_wp2_with fail
            refine (HEM _ HB2.out).out.mono ?_
            rintro e w3 ⟨rfl, hb⟩
            have HB3 := Aside0.mk (below_step HB2.out hb)
            have HX3 := Aside0.mk ((hb.block _ (blk_lt HX2.out)).trans HX2.out)
            clear x0 x1 x2 x3
            have x0 := (blk_cell HX3.out 0).trans rfl
            have x1 := (blk_cell HX3.out 1).trans rfl
            have x2 := (blk_cell HX3.out 2).trans rfl
            have x3 := (blk_cell HX3.out 3).trans rfl
            clear hb
            go_wp2_with ((go_at_call 38; refine (HOWN _ HB3.out).out.mono ?_; rintro e w4 ⟨vo, rfl, hV, hb⟩; have HB4 := Aside0.mk (below_step HB3.out hb); have HVO := Aside0.mk (Kd.V_lower (base' := w.heap.size) (Kd.V_mono (ok' := fun k => w.heap.size ≤ k) hV (fun k hk => Nat.le_trans HB3.out.size hk)) HB3.out.size); clear hV hb))
            rw [Exit.noGoto_ret]
            refine ⟨_, results_tmp2 rfl _ _ _, ?_⟩
            exact ⟨_, rfl, HVO.out, HB4.out⟩
          | false =>
            rw [hem] at HEM hadd2
            cases hov : l0.any (fun y => coversB y (⟨a1_0, l1_1, l1_2, a1_3⟩ : S38)) with
            | true =>
              have hres : r1 = l0 ∧ r2 = 0 := by rw [hov] at hadd2; simp at hadd2; exact ⟨hadd2.1.symm, hadd2.2.symm⟩
              obtain ⟨rfl, rfl⟩ := hres
              rw [hov] at HOV
              clear hem hadd2 hov
              have he35 := enters_of (P := Try.prog) Try.func40 (by kernel_rfl) rfl
              refine (callsIn_wide (n := 6)).1 ?_
              refine callsIn_of_wp_marks Try.func23 rfl trivial ?_ rfl
              simp only [Try.ntmps23, List.size_toArray, List.length_cons, List.length_nil, Nat.reduceAdd, Nat.reduceSub, Array.replicate_succ, Array.replicate_zero, List.push_toArray, List.append_toArray, List.nil_append, List.cons_append]
              refine (wpIn_wide (n := 6)).2 ?_
              go_wp2
              refine (wpIn_wide (n := 6)).1 (wpIn_scope_straight ((wpIn_wide (n := 6)).2 ?_))
              go_wp2_with fail
              refine HWA.out.mono ?_
              rintro e w1 ⟨rfl, hb⟩
              rw [← HWX.out] at hb
              have HB1 := Aside0.mk (below_step HBX.out hb)
              have HX1 := Aside0.mk ((hb.block _ (blk_lt HXX.out)).trans HXX.out)
              have x0 := (blk_cell HX1.out 0).trans rfl
              have x1 := (blk_cell HX1.out 1).trans rfl
              have x2 := (blk_cell HX1.out 2).trans rfl
              have x3 := (blk_cell HX1.out 3).trans rfl
              clear hb
              go_wp2_with fail
              refine (HW2 _ HB1.out).out.mono ?_
              rintro e w2 ⟨rfl, hb⟩
              have HB2 := Aside0.mk (below_step HB1.out hb)
              have HX2 := Aside0.mk ((hb.block _ (blk_lt HX1.out)).trans HX1.out)
              clear x0 x1 x2 x3
              have x0 := (blk_cell HX2.out 0).trans rfl
              have x1 := (blk_cell HX2.out 1).trans rfl
              have x2 := (blk_cell HX2.out 2).trans rfl
              have x3 := (blk_cell HX2.out 3).trans rfl
              clear hb
              go_wp2_with fail
              refine (HEM _ HB2.out).out.mono ?_
              rintro e w3 ⟨rfl, hb⟩
              have HB3 := Aside0.mk (below_step HB2.out hb)
              have HX3 := Aside0.mk ((hb.block _ (blk_lt HX2.out)).trans HX2.out)
              clear x0 x1 x2 x3
              have x0 := (blk_cell HX3.out 0).trans rfl
              have x1 := (blk_cell HX3.out 1).trans rfl
              have x2 := (blk_cell HX3.out 2).trans rfl
              have x3 := (blk_cell HX3.out 3).trans rfl
              clear hb
              go_wp2_with fail
              refine (HOV _ HB3.out HX3.out).out.mono ?_
              rintro e w4 ⟨rfl, hb⟩
              have HB4 := Aside0.mk (below_step HB3.out hb)
              have HX4 := Aside0.mk ((hb.block _ (blk_lt HX3.out)).trans HX3.out)
              clear x0 x1 x2 x3
              have x0 := (blk_cell HX4.out 0).trans rfl
              have x1 := (blk_cell HX4.out 1).trans rfl
              have x2 := (blk_cell HX4.out 2).trans rfl
              have x3 := (blk_cell HX4.out 3).trans rfl
              clear hb
              go_wp2_with ((go_at_call 38; refine (HOWN _ HB4.out).out.mono ?_; rintro e w5 ⟨vo, rfl, hV, hb⟩; have HB5 := Aside0.mk (below_step HB4.out hb); have HVO := Aside0.mk (Kd.V_lower (base' := w.heap.size) (Kd.V_mono (ok' := fun k => w.heap.size ≤ k) hV (fun k hk => Nat.le_trans HB4.out.size hk)) HB4.out.size); clear hV hb))
              rw [Exit.noGoto_ret]
              refine ⟨_, results_tmp2 rfl _ _ _, ?_⟩
              exact ⟨_, rfl, HVO.out, HB5.out⟩
            | false =>
              have hadd3 : (if a2 < ((placesOf a1_0 (dropC (⟨a1_0, l1_1, l1_2, a1_3⟩ : S38) l0 ++ [(⟨a1_0, l1_1, l1_2, a1_3⟩ : S38)]) 0).length : Int) then (mergeL a1_0 (dropC (⟨a1_0, l1_1, l1_2, a1_3⟩ : S38) l0 ++ [(⟨a1_0, l1_1, l1_2, a1_3⟩ : S38)]), 0) else (dropC (⟨a1_0, l1_1, l1_2, a1_3⟩ : S38) l0 ++ [(⟨a1_0, l1_1, l1_2, a1_3⟩ : S38)], (0 : Int))) = (r1, r2) := by rw [hov] at hadd2; simpa using hadd2
              have HADD := Aside0.mk hadd3
              rw [hov] at HOV
              clear hem hadd2 hadd3 hov
              refine (callsIn_wide (n := 6)).1 ?_
              refine callsIn_of_wp_marks Try.func23 rfl trivial ?_ rfl
              simp only [Try.ntmps23, List.size_toArray, List.length_cons, List.length_nil, Nat.reduceAdd, Nat.reduceSub, Array.replicate_succ, Array.replicate_zero, List.push_toArray, List.append_toArray, List.nil_append, List.cons_append]
              refine (wpIn_wide (n := 6)).2 ?_
              go_wp2
              refine (wpIn_wide (n := 6)).1 (wpIn_scope_straight ((wpIn_wide (n := 6)).2 ?_))
              go_wp2_with fail
              refine HWA.out.mono ?_
              rintro e w1 ⟨rfl, hb⟩
              rw [← HWX.out] at hb
              have HB1 := Aside0.mk (below_step HBX.out hb)
              have HX1 := Aside0.mk ((hb.block _ (blk_lt HXX.out)).trans HXX.out)
              have x0 := (blk_cell HX1.out 0).trans rfl
              have x1 := (blk_cell HX1.out 1).trans rfl
              have x2 := (blk_cell HX1.out 2).trans rfl
              have x3 := (blk_cell HX1.out 3).trans rfl
              clear hb
              go_wp2_with fail
              refine (HW2 _ HB1.out).out.mono ?_
              rintro e w2 ⟨rfl, hb⟩
              have HB2 := Aside0.mk (below_step HB1.out hb)
              have HX2 := Aside0.mk ((hb.block _ (blk_lt HX1.out)).trans HX1.out)
              clear x0 x1 x2 x3
              have x0 := (blk_cell HX2.out 0).trans rfl
              have x1 := (blk_cell HX2.out 1).trans rfl
              have x2 := (blk_cell HX2.out 2).trans rfl
              have x3 := (blk_cell HX2.out 3).trans rfl
              clear hb
              go_wp2_with fail
              refine (HEM _ HB2.out).out.mono ?_
              rintro e w3 ⟨rfl, hb⟩
              have HB3 := Aside0.mk (below_step HB2.out hb)
              have HX3 := Aside0.mk ((hb.block _ (blk_lt HX2.out)).trans HX2.out)
              clear x0 x1 x2 x3
              have x0 := (blk_cell HX3.out 0).trans rfl
              have x1 := (blk_cell HX3.out 1).trans rfl
              have x2 := (blk_cell HX3.out 2).trans rfl
              have x3 := (blk_cell HX3.out 3).trans rfl
              clear hb
              go_wp2_with fail
              refine (HOV _ HB3.out HX3.out).out.mono ?_
              rintro e w4 ⟨rfl, hb⟩
              have HB4 := Aside0.mk (below_step HB3.out hb)
              have HX4 := Aside0.mk ((hb.block _ (blk_lt HX3.out)).trans HX3.out)
              clear x0 x1 x2 x3
              have x0 := (blk_cell HX4.out 0).trans rfl
              have x1 := (blk_cell HX4.out 1).trans rfl
              have x2 := (blk_cell HX4.out 2).trans rfl
              have x3 := (blk_cell HX4.out 3).trans rfl
              clear hb
              go_wp2_with fail
              have HS0 := Aside0.mk (show FS w.heap.size w #[.int .i64 a1_0, .slice A1_1 l1_1.length c1_1, .slice A1_2 l1_2.length c1_2, .bool a1_3] none none none w4.drew from (FS.mk HB4.out HX4.out (fun _ _ e => by cases e) (fun _ e => by cases e) (fun _ e => by cases e) : FS w.heap.size w #[.int .i64 a1_0, .slice A1_1 l1_1.length c1_1, .slice A1_2 l1_2.length c1_2, .bool a1_3] none none none w4).below (below_drew1 (Below.refl _ _)))
              refine wp_np ?_
              refine start_ (n := 9) (S := fun w' => w'.cell? ⟨w.heap.size, 0, none⟩ = some (.int .i64 a1_0) ∧ w'.cell? ⟨w.heap.size, 1, none⟩ = some (.slice A1_1 l1_1.length c1_1) ∧ w'.cell? ⟨w.heap.size, 2, none⟩ = some (.slice A1_2 l1_2.length c1_2) ∧ w'.cell? ⟨w.heap.size, 3, none⟩ = some (.bool a1_3)) (ds := [8]) #[false, false, false, false, false, false, false, false, false] (by kernel_rfl) rfl rfl ⟨x0, x1, x2, x3⟩ (fun hHeld => ?_)
              clear x0 x1 x2 x3
              have HLEN := Aside0.mk (show (dropC (⟨a1_0, l1_1, l1_2, a1_3⟩ : S38) l0).length < 2199023255551 from Nat.lt_of_le_of_lt (List.length_filter_le _ _) hln)
              generalize w4.drew = y0 at HS0 hHeld ⊢
              refine pure_ (i := 0) (N := some 42) (v := ?_) (a' := ?_) #[true, false, false, false, false, false, false, false, false] rfl rfl (by kernel_rfl) (fun _ _ _ h => absurd rfl (h.1 _)) (Or.inl ⟨by rfl, ?_⟩) ?_ ?_
              rotate_left
              · intro w'
                go_simp
                with_reducible rfl
              rotate_left
              · simp only [Act.put, List.setIfInBounds_toArray, List.set_cons_zero, List.set_cons_succ, i64_w, i32_w]
                rfl
              refine pure_ (i := 2) (N := some 44) (v := ?_) (a' := ?_) #[true, false, true, false, false, false, false, false, false] rfl rfl (by kernel_rfl) (fun _ _ _ h => absurd rfl (h.1 _)) (Or.inl ⟨by rfl, ?_⟩) ?_ ?_
              rotate_left
              · intro w'
                go_simp
                with_reducible rfl
              rotate_left
              · simp only [Act.put, List.setIfInBounds_toArray, List.set_cons_zero, List.set_cons_succ, i64_w, i32_w]
                rfl
              refine take_ (i := 4) (N := some 46) (v := ?_) (a' := ?_) #[true, false, true, false, true, false, false, false, false] rfl rfl (by kernel_rfl) (fun _ _ _ h => absurd rfl (h.1 _)) (Or.inl ⟨by rfl, ?_⟩) hHeld ?_ ?_
              rotate_left
              · rintro w' ⟨s0, s1, s2, s3⟩
                go_simp
                with_reducible rfl
              rotate_left
              · simp only [Act.put, List.setIfInBounds_toArray, List.set_cons_zero, List.set_cons_succ, i64_w, i32_w]
                rfl
              refine join_ (σ := Value × Value × Nat × Value × Nat) 1 #[true, true, true, true, true, true, true, true, false] (fun s_ => [(43, s_.1), (45, s_.2.1), (47, .slice (some ⟨s_.2.2.1, 0, none⟩) 1 1), (48, s_.2.2.2.1), (9, .pointer (some ⟨s_.2.2.2.2, 0, none⟩))]) (fun s_ w' => (w'.cell? ⟨w.heap.size, 0, none⟩ = some (.int .i64 a1_0) ∧ w'.cell? ⟨w.heap.size, 1, none⟩ = some (.slice A1_1 l1_1.length c1_1) ∧ w'.cell? ⟨w.heap.size, 2, none⟩ = some (.slice A1_2 l1_2.length c1_2) ∧ w'.cell? ⟨w.heap.size, 3, none⟩ = some (.bool a1_3)) ∧ FS w.heap.size w #[.int .i64 a1_0, .slice A1_1 l1_1.length c1_1, .slice A1_2 l1_2.length c1_2, .bool a1_3] (some (s_.2.2.2.1, dropC (⟨a1_0, l1_1, l1_2, a1_3⟩ : S38) l0 ++ [(⟨a1_0, l1_1, l1_2, a1_3⟩ : S38)])) none (some s_.2.2.2.2) w') ?_ ?_
              rotate_left
              · intro hCont
                refine three_ (i := 1) (j := 5) (k := 7) (Ni := some 43) (Nj := some 47) (Nk := some 9) #[true, true, true, false, true, false, false, false, false] #[true, false, true, false, true, true, false, false, false] #[true, false, true, false, true, false, false, true, false] rfl rfl rfl rfl rfl rfl (by kernel_rfl) (by decide) (by decide) (by decide) (fun K hK => ?_) (fun K hK => ?_) (fun K hK => ?_)
                · skip
                  refine goes_ Try.func18 (by kernel_rfl) rfl #[.slice A0 l0.length c0] (by rfl) rfl rfl (by (try simp only [List.map_toArray, List.map_cons, List.map_nil]); first | done | rfl) ?_
                  refine (FS.cloneCall rfl (by omega) HF0.out HS0.out).mono ?_
                  rintro e y1 ⟨u1, rfl, hS⟩
                  have HS1 := Aside0.mk hS
                  clear hS
                  refine ⟨_, rfl, ?_⟩
                  refine hK.out _ _ ⟨(blk_cell HS1.out.hX 0).trans rfl, (blk_cell HS1.out.hX 1).trans rfl, (blk_cell HS1.out.hX 2).trans rfl, (blk_cell HS1.out.hX 3).trans rfl⟩ (fun hHeld => ?_)
                  clear hK K
                  refine norm_ (a' := ?_) ?_ ?_
                  rotate_left
                  · show Act.put _ (some 43) _ = _
                    simp only [Act.put, List.setIfInBounds_toArray, List.set_cons_zero, List.set_cons_succ, i64_w, i32_w]
                    rfl
                  refine three_ (i := 3) (j := 5) (k := 7) (Ni := some 45) (Nj := some 47) (Nk := some 9) #[true, true, true, true, true, false, false, false, false] #[true, true, true, false, true, true, false, false, false] #[true, true, true, false, true, false, false, true, false] rfl rfl rfl rfl rfl rfl (by kernel_rfl) (by decide) (by decide) (by decide) (fun K hK => ?_) (fun K hK => ?_) (fun K hK => ?_)
                  · skip
                    refine goes_ Try.func42 (by kernel_rfl) rfl #[u1, .func (.func 43) #[] #[.pointer (some ⟨w.heap.size, 0, none⟩)]] (by rfl) rfl rfl (by (try simp only [List.map_toArray, List.map_cons, List.map_nil]); first | done | rfl) ?_
                    refine (FS.del rfl HR1.out.2 HR1.out.1 HR2.out.2 HR2.out.1 HS1.out).mono ?_
                    rintro e y2 ⟨u2, rfl, hS⟩
                    have HS2 := Aside0.mk hS
                    clear hS
                    refine ⟨_, rfl, ?_⟩
                    refine hK.out _ _ ⟨(blk_cell HS2.out.hX 0).trans rfl, (blk_cell HS2.out.hX 1).trans rfl, (blk_cell HS2.out.hX 2).trans rfl, (blk_cell HS2.out.hX 3).trans rfl⟩ (fun hHeld => ?_)
                    clear hK K
                    refine norm_ (a' := ?_) ?_ ?_
                    rotate_left
                    · show Act.put _ (some 45) _ = _
                      simp only [Act.put, List.setIfInBounds_toArray, List.set_cons_zero, List.set_cons_succ, i64_w, i32_w]
                      rfl
                    refine two_ (i := 5) (j := 7) (Ni := some 47) (Nj := some 9) #[true, true, true, true, true, true, false, false, false] #[true, true, true, true, true, false, false, true, false] rfl rfl rfl rfl (by kernel_rfl) (by decide) (by decide) (fun K hK => ?_) (fun K hK => ?_)
                    · skip
                      refine value_ (v := .slice (some ⟨y2.heap.size, 0, none⟩) 1 1) (w1 := y2.alloc (.cells #[.int .i64 a1_0, .slice A1_1 l1_1.length c1_1, .slice A1_2 l1_2.length c1_2, .bool a1_3] 38 (0, 0))) (by rfl) rfl (by first | (go_simp; done) | (go_simp; rfl)) ?_
                      obtain ⟨y3, hy⟩ : ∃ y_, y_ = y2.alloc (.cells #[.int .i64 a1_0, .slice A1_1 l1_1.length c1_1, .slice A1_2 l1_2.length c1_2, .bool a1_3] 38 (0, 0)) := ⟨_, rfl⟩
                      obtain ⟨b3, hbn⟩ : ∃ b_, b_ = y2.heap.size := ⟨_, rfl⟩
                      have hS := FS.build HS2.out
                      rw [← hy, ← hbn] at hS
                      rw [← hy, ← hbn]
                      have HS3 := Aside0.mk hS
                      clear hS hy hbn
                      refine hK.out _ _ ⟨(blk_cell HS3.out.hX 0).trans rfl, (blk_cell HS3.out.hX 1).trans rfl, (blk_cell HS3.out.hX 2).trans rfl, (blk_cell HS3.out.hX 3).trans rfl⟩ (fun hHeld => ?_)
                      clear hK K
                      refine norm_ (a' := ?_) ?_ ?_
                      rotate_left
                      · show Act.put _ (some 47) _ = _
                        simp only [Act.put, List.setIfInBounds_toArray, List.set_cons_zero, List.set_cons_succ, i64_w, i32_w]
                        rfl
                      refine two_ (i := 6) (j := 7) (Ni := some 48) (Nj := some 9) #[true, true, true, true, true, true, true, false, false] #[true, true, true, true, true, true, false, true, false] rfl rfl rfl rfl (by kernel_rfl) (by decide) (by decide) (fun K hK => ?_) (fun K hK => ?_)
                      · skip
                        obtain ⟨ok2, okp, hN2, hF2, hp2, hfr, hbw, hsz2, hnext⟩ := FS.append rfl HR1.out.2 HR1.out.1 HR2.out.2 HR2.out.1 HS3.out
                        refine Kd.N_append_rows_step k38 (w0 := y3) (w.heap.size + 1) (by rfl) (.tmp 45) (.tmp 47) 27 38 (.agg #[(.int .i64 0), (.slice none 0 0), (.slice none 0 0), (.bool false)]) 64 rfl Try.underlying27 info38 rfl (by decide) (by omega) u2 (dropC (⟨a1_0, l1_1, l1_2, a1_3⟩ : S38) l0) [(⟨a1_0, l1_1, l1_2, a1_3⟩ : S38)] (some ⟨b3, 0, none⟩) 1 1 ok2 okp rfl rfl hN2 hF2 hp2 hfr (Below.refl _ _) hsz2 (by have := HLEN.out; omega) ?_
                        intro u4 y4 hN3 _ hg3 _
                        have HS4 := Aside0.mk (hnext u4 y4 hN3 hg3)
                        clear hN2 hF2 hp2 hfr hbw hsz2 hnext hN3 hg3
                        refine hK.out _ _ ⟨(blk_cell HS4.out.hX 0).trans rfl, (blk_cell HS4.out.hX 1).trans rfl, (blk_cell HS4.out.hX 2).trans rfl, (blk_cell HS4.out.hX 3).trans rfl⟩ (fun hHeld => ?_)
                        clear hK K
                        refine norm_ (a' := ?_) ?_ ?_
                        rotate_left
                        · show Act.put _ (some 48) _ = _
                          simp only [Act.put, List.setIfInBounds_toArray, List.set_cons_zero, List.set_cons_succ, i64_w, i32_w]
                          rfl
                        refine one_ (i := 7) (N := some 9) #[true, true, true, true, true, true, true, true, false] rfl rfl (by kernel_rfl) (by decide) (fun K hK => ?_)
                        refine value_ (v := .pointer (some ⟨y4.heap.size, 0, none⟩)) (w1 := y4.alloc (.cells #[.slice none 0 0] 27 (0, 0))) (by rfl) rfl (by first | (go_simp; done) | (go_simp; rfl)) ?_
                        obtain ⟨y5, hy⟩ : ∃ y_, y_ = y4.alloc (.cells #[.slice none 0 0] 27 (0, 0)) := ⟨_, rfl⟩
                        obtain ⟨b5, hbn⟩ : ∃ b_, b_ = y4.heap.size := ⟨_, rfl⟩
                        have hS := FS.made HS4.out
                        rw [← hy, ← hbn] at hS
                        rw [← hy, ← hbn]
                        have HS5 := Aside0.mk hS
                        clear hS hy hbn
                        refine hK.out _ _ ⟨(blk_cell HS5.out.hX 0).trans rfl, (blk_cell HS5.out.hX 1).trans rfl, (blk_cell HS5.out.hX 2).trans rfl, (blk_cell HS5.out.hX 3).trans rfl⟩ (fun hHeld => ?_)
                        clear hK K
                        refine norm_ (a' := ?_) ?_ ?_
                        rotate_left
                        · show Act.put _ (some 9) _ = _
                          simp only [Act.put, List.setIfInBounds_toArray, List.set_cons_zero, List.set_cons_succ, i64_w, i32_w]
                          rfl
                        exact norm_ (by simp only [putAll, Act.put, List.setIfInBounds_toArray, List.set_cons_zero, List.set_cons_succ]) (hCont (u1, u2, b3, u4, b5) _ ⟨hHeld, HS5.out⟩)
                      · skip
                        refine value_ (v := .pointer (some ⟨y3.heap.size, 0, none⟩)) (w1 := y3.alloc (.cells #[.slice none 0 0] 27 (0, 0))) (by rfl) rfl (by first | (go_simp; done) | (go_simp; rfl)) ?_
                        obtain ⟨y6, hy⟩ : ∃ y_, y_ = y3.alloc (.cells #[.slice none 0 0] 27 (0, 0)) := ⟨_, rfl⟩
                        obtain ⟨b6, hbn⟩ : ∃ b_, b_ = y3.heap.size := ⟨_, rfl⟩
                        have hS := FS.made HS3.out
                        rw [← hy, ← hbn] at hS
                        rw [← hy, ← hbn]
                        have HS6 := Aside0.mk hS
                        clear hS hy hbn
                        refine hK.out _ _ ⟨(blk_cell HS6.out.hX 0).trans rfl, (blk_cell HS6.out.hX 1).trans rfl, (blk_cell HS6.out.hX 2).trans rfl, (blk_cell HS6.out.hX 3).trans rfl⟩ (fun hHeld => ?_)
                        clear hK K
                        refine norm_ (a' := ?_) ?_ ?_
                        rotate_left
                        · show Act.put _ (some 9) _ = _
                          simp only [Act.put, List.setIfInBounds_toArray, List.set_cons_zero, List.set_cons_succ, i64_w, i32_w]
                          rfl
                        refine one_ (i := 6) (N := some 48) #[true, true, true, true, true, true, true, true, false] rfl rfl (by kernel_rfl) (by decide) (fun K hK => ?_)
                        obtain ⟨ok2, okp, hN2, hF2, hp2, hfr, hbw, hsz2, hnext⟩ := FS.append rfl HR1.out.2 HR1.out.1 HR2.out.2 HR2.out.1 HS6.out
                        refine Kd.N_append_rows_step k38 (w0 := y6) (w.heap.size + 1) (by rfl) (.tmp 45) (.tmp 47) 27 38 (.agg #[(.int .i64 0), (.slice none 0 0), (.slice none 0 0), (.bool false)]) 64 rfl Try.underlying27 info38 rfl (by decide) (by omega) u2 (dropC (⟨a1_0, l1_1, l1_2, a1_3⟩ : S38) l0) [(⟨a1_0, l1_1, l1_2, a1_3⟩ : S38)] (some ⟨b3, 0, none⟩) 1 1 ok2 okp rfl rfl hN2 hF2 hp2 hfr (Below.refl _ _) hsz2 (by have := HLEN.out; omega) ?_
                        intro u7 y7 hN3 _ hg3 _
                        have HS7 := Aside0.mk (hnext u7 y7 hN3 hg3)
                        clear hN2 hF2 hp2 hfr hbw hsz2 hnext hN3 hg3
                        refine hK.out _ _ ⟨(blk_cell HS7.out.hX 0).trans rfl, (blk_cell HS7.out.hX 1).trans rfl, (blk_cell HS7.out.hX 2).trans rfl, (blk_cell HS7.out.hX 3).trans rfl⟩ (fun hHeld => ?_)
                        clear hK K
                        refine norm_ (a' := ?_) ?_ ?_
                        rotate_left
                        · show Act.put _ (some 48) _ = _
                          simp only [Act.put, List.setIfInBounds_toArray, List.set_cons_zero, List.set_cons_succ, i64_w, i32_w]
                          rfl
                        exact norm_ (by simp only [putAll, Act.put, List.setIfInBounds_toArray, List.set_cons_zero, List.set_cons_succ]) (hCont (u1, u2, b3, u7, b6) _ ⟨hHeld, HS7.out⟩)
                    · skip
                      refine value_ (v := .pointer (some ⟨y2.heap.size, 0, none⟩)) (w1 := y2.alloc (.cells #[.slice none 0 0] 27 (0, 0))) (by rfl) rfl (by first | (go_simp; done) | (go_simp; rfl)) ?_
                      obtain ⟨y8, hy⟩ : ∃ y_, y_ = y2.alloc (.cells #[.slice none 0 0] 27 (0, 0)) := ⟨_, rfl⟩
                      obtain ⟨b8, hbn⟩ : ∃ b_, b_ = y2.heap.size := ⟨_, rfl⟩
                      have hS := FS.made HS2.out
                      rw [← hy, ← hbn] at hS
                      rw [← hy, ← hbn]
                      have HS8 := Aside0.mk hS
                      clear hS hy hbn
                      refine hK.out _ _ ⟨(blk_cell HS8.out.hX 0).trans rfl, (blk_cell HS8.out.hX 1).trans rfl, (blk_cell HS8.out.hX 2).trans rfl, (blk_cell HS8.out.hX 3).trans rfl⟩ (fun hHeld => ?_)
                      clear hK K
                      refine norm_ (a' := ?_) ?_ ?_
                      rotate_left
                      · show Act.put _ (some 9) _ = _
                        simp only [Act.put, List.setIfInBounds_toArray, List.set_cons_zero, List.set_cons_succ, i64_w, i32_w]
                        rfl
                      refine one_ (i := 5) (N := some 47) #[true, true, true, true, true, true, false, true, false] rfl rfl (by kernel_rfl) (by decide) (fun K hK => ?_)
                      refine value_ (v := .slice (some ⟨y8.heap.size, 0, none⟩) 1 1) (w1 := y8.alloc (.cells #[.int .i64 a1_0, .slice A1_1 l1_1.length c1_1, .slice A1_2 l1_2.length c1_2, .bool a1_3] 38 (0, 0))) (by rfl) rfl (by first | (go_simp; done) | (go_simp; rfl)) ?_
                      obtain ⟨y9, hy⟩ : ∃ y_, y_ = y8.alloc (.cells #[.int .i64 a1_0, .slice A1_1 l1_1.length c1_1, .slice A1_2 l1_2.length c1_2, .bool a1_3] 38 (0, 0)) := ⟨_, rfl⟩
                      obtain ⟨b9, hbn⟩ : ∃ b_, b_ = y8.heap.size := ⟨_, rfl⟩
                      have hS := FS.build HS8.out
                      rw [← hy, ← hbn] at hS
                      rw [← hy, ← hbn]
                      have HS9 := Aside0.mk hS
                      clear hS hy hbn
                      refine hK.out _ _ ⟨(blk_cell HS9.out.hX 0).trans rfl, (blk_cell HS9.out.hX 1).trans rfl, (blk_cell HS9.out.hX 2).trans rfl, (blk_cell HS9.out.hX 3).trans rfl⟩ (fun hHeld => ?_)
                      clear hK K
                      refine norm_ (a' := ?_) ?_ ?_
                      rotate_left
                      · show Act.put _ (some 47) _ = _
                        simp only [Act.put, List.setIfInBounds_toArray, List.set_cons_zero, List.set_cons_succ, i64_w, i32_w]
                        rfl
                      refine one_ (i := 6) (N := some 48) #[true, true, true, true, true, true, true, true, false] rfl rfl (by kernel_rfl) (by decide) (fun K hK => ?_)
                      obtain ⟨ok2, okp, hN2, hF2, hp2, hfr, hbw, hsz2, hnext⟩ := FS.append rfl HR1.out.2 HR1.out.1 HR2.out.2 HR2.out.1 HS9.out
                      refine Kd.N_append_rows_step k38 (w0 := y9) (w.heap.size + 1) (by rfl) (.tmp 45) (.tmp 47) 27 38 (.agg #[(.int .i64 0), (.slice none 0 0), (.slice none 0 0), (.bool false)]) 64 rfl Try.underlying27 info38 rfl (by decide) (by omega) u2 (dropC (⟨a1_0, l1_1, l1_2, a1_3⟩ : S38) l0) [(⟨a1_0, l1_1, l1_2, a1_3⟩ : S38)] (some ⟨b9, 0, none⟩) 1 1 ok2 okp rfl rfl hN2 hF2 hp2 hfr (Below.refl _ _) hsz2 (by have := HLEN.out; omega) ?_
                      intro u10 y10 hN3 _ hg3 _
                      have HS10 := Aside0.mk (hnext u10 y10 hN3 hg3)
                      clear hN2 hF2 hp2 hfr hbw hsz2 hnext hN3 hg3
                      refine hK.out _ _ ⟨(blk_cell HS10.out.hX 0).trans rfl, (blk_cell HS10.out.hX 1).trans rfl, (blk_cell HS10.out.hX 2).trans rfl, (blk_cell HS10.out.hX 3).trans rfl⟩ (fun hHeld => ?_)
                      clear hK K
                      refine norm_ (a' := ?_) ?_ ?_
                      rotate_left
                      · show Act.put _ (some 48) _ = _
                        simp only [Act.put, List.setIfInBounds_toArray, List.set_cons_zero, List.set_cons_succ, i64_w, i32_w]
                        rfl
                      exact norm_ (by simp only [putAll, Act.put, List.setIfInBounds_toArray, List.set_cons_zero, List.set_cons_succ]) (hCont (u1, u2, b9, u10, b8) _ ⟨hHeld, HS10.out⟩)
                  · skip
                    refine value_ (v := .slice (some ⟨y1.heap.size, 0, none⟩) 1 1) (w1 := y1.alloc (.cells #[.int .i64 a1_0, .slice A1_1 l1_1.length c1_1, .slice A1_2 l1_2.length c1_2, .bool a1_3] 38 (0, 0))) (by rfl) rfl (by first | (go_simp; done) | (go_simp; rfl)) ?_
                    obtain ⟨y11, hy⟩ : ∃ y_, y_ = y1.alloc (.cells #[.int .i64 a1_0, .slice A1_1 l1_1.length c1_1, .slice A1_2 l1_2.length c1_2, .bool a1_3] 38 (0, 0)) := ⟨_, rfl⟩
                    obtain ⟨b11, hbn⟩ : ∃ b_, b_ = y1.heap.size := ⟨_, rfl⟩
                    have hS := FS.build HS1.out
                    rw [← hy, ← hbn] at hS
                    rw [← hy, ← hbn]
                    have HS11 := Aside0.mk hS
                    clear hS hy hbn
                    refine hK.out _ _ ⟨(blk_cell HS11.out.hX 0).trans rfl, (blk_cell HS11.out.hX 1).trans rfl, (blk_cell HS11.out.hX 2).trans rfl, (blk_cell HS11.out.hX 3).trans rfl⟩ (fun hHeld => ?_)
                    clear hK K
                    refine norm_ (a' := ?_) ?_ ?_
                    rotate_left
                    · show Act.put _ (some 47) _ = _
                      simp only [Act.put, List.setIfInBounds_toArray, List.set_cons_zero, List.set_cons_succ, i64_w, i32_w]
                      rfl
                    refine two_ (i := 3) (j := 7) (Ni := some 45) (Nj := some 9) #[true, true, true, true, true, true, false, false, false] #[true, true, true, false, true, true, false, true, false] rfl rfl rfl rfl (by kernel_rfl) (by decide) (by decide) (fun K hK => ?_) (fun K hK => ?_)
                    · skip
                      refine goes_ Try.func42 (by kernel_rfl) rfl #[u1, .func (.func 43) #[] #[.pointer (some ⟨w.heap.size, 0, none⟩)]] (by rfl) rfl rfl (by (try simp only [List.map_toArray, List.map_cons, List.map_nil]); first | done | rfl) ?_
                      refine (FS.del rfl HR1.out.2 HR1.out.1 HR2.out.2 HR2.out.1 HS11.out).mono ?_
                      rintro e y12 ⟨u12, rfl, hS⟩
                      have HS12 := Aside0.mk hS
                      clear hS
                      refine ⟨_, rfl, ?_⟩
                      refine hK.out _ _ ⟨(blk_cell HS12.out.hX 0).trans rfl, (blk_cell HS12.out.hX 1).trans rfl, (blk_cell HS12.out.hX 2).trans rfl, (blk_cell HS12.out.hX 3).trans rfl⟩ (fun hHeld => ?_)
                      clear hK K
                      refine norm_ (a' := ?_) ?_ ?_
                      rotate_left
                      · show Act.put _ (some 45) _ = _
                        simp only [Act.put, List.setIfInBounds_toArray, List.set_cons_zero, List.set_cons_succ, i64_w, i32_w]
                        rfl
                      refine two_ (i := 6) (j := 7) (Ni := some 48) (Nj := some 9) #[true, true, true, true, true, true, true, false, false] #[true, true, true, true, true, true, false, true, false] rfl rfl rfl rfl (by kernel_rfl) (by decide) (by decide) (fun K hK => ?_) (fun K hK => ?_)
                      · skip
                        obtain ⟨ok2, okp, hN2, hF2, hp2, hfr, hbw, hsz2, hnext⟩ := FS.append rfl HR1.out.2 HR1.out.1 HR2.out.2 HR2.out.1 HS12.out
                        refine Kd.N_append_rows_step k38 (w0 := y12) (w.heap.size + 1) (by rfl) (.tmp 45) (.tmp 47) 27 38 (.agg #[(.int .i64 0), (.slice none 0 0), (.slice none 0 0), (.bool false)]) 64 rfl Try.underlying27 info38 rfl (by decide) (by omega) u12 (dropC (⟨a1_0, l1_1, l1_2, a1_3⟩ : S38) l0) [(⟨a1_0, l1_1, l1_2, a1_3⟩ : S38)] (some ⟨b11, 0, none⟩) 1 1 ok2 okp rfl rfl hN2 hF2 hp2 hfr (Below.refl _ _) hsz2 (by have := HLEN.out; omega) ?_
                        intro u13 y13 hN3 _ hg3 _
                        have HS13 := Aside0.mk (hnext u13 y13 hN3 hg3)
                        clear hN2 hF2 hp2 hfr hbw hsz2 hnext hN3 hg3
                        refine hK.out _ _ ⟨(blk_cell HS13.out.hX 0).trans rfl, (blk_cell HS13.out.hX 1).trans rfl, (blk_cell HS13.out.hX 2).trans rfl, (blk_cell HS13.out.hX 3).trans rfl⟩ (fun hHeld => ?_)
                        clear hK K
                        refine norm_ (a' := ?_) ?_ ?_
                        rotate_left
                        · show Act.put _ (some 48) _ = _
                          simp only [Act.put, List.setIfInBounds_toArray, List.set_cons_zero, List.set_cons_succ, i64_w, i32_w]
                          rfl
                        refine one_ (i := 7) (N := some 9) #[true, true, true, true, true, true, true, true, false] rfl rfl (by kernel_rfl) (by decide) (fun K hK => ?_)
                        refine value_ (v := .pointer (some ⟨y13.heap.size, 0, none⟩)) (w1 := y13.alloc (.cells #[.slice none 0 0] 27 (0, 0))) (by rfl) rfl (by first | (go_simp; done) | (go_simp; rfl)) ?_
                        obtain ⟨y14, hy⟩ : ∃ y_, y_ = y13.alloc (.cells #[.slice none 0 0] 27 (0, 0)) := ⟨_, rfl⟩
                        obtain ⟨b14, hbn⟩ : ∃ b_, b_ = y13.heap.size := ⟨_, rfl⟩
                        have hS := FS.made HS13.out
                        rw [← hy, ← hbn] at hS
                        rw [← hy, ← hbn]
                        have HS14 := Aside0.mk hS
                        clear hS hy hbn
                        refine hK.out _ _ ⟨(blk_cell HS14.out.hX 0).trans rfl, (blk_cell HS14.out.hX 1).trans rfl, (blk_cell HS14.out.hX 2).trans rfl, (blk_cell HS14.out.hX 3).trans rfl⟩ (fun hHeld => ?_)
                        clear hK K
                        refine norm_ (a' := ?_) ?_ ?_
                        rotate_left
                        · show Act.put _ (some 9) _ = _
                          simp only [Act.put, List.setIfInBounds_toArray, List.set_cons_zero, List.set_cons_succ, i64_w, i32_w]
                          rfl
                        exact norm_ (by simp only [putAll, Act.put, List.setIfInBounds_toArray, List.set_cons_zero, List.set_cons_succ]) (hCont (u1, u12, b11, u13, b14) _ ⟨hHeld, HS14.out⟩)
                      · skip
                        refine value_ (v := .pointer (some ⟨y12.heap.size, 0, none⟩)) (w1 := y12.alloc (.cells #[.slice none 0 0] 27 (0, 0))) (by rfl) rfl (by first | (go_simp; done) | (go_simp; rfl)) ?_
                        obtain ⟨y15, hy⟩ : ∃ y_, y_ = y12.alloc (.cells #[.slice none 0 0] 27 (0, 0)) := ⟨_, rfl⟩
                        obtain ⟨b15, hbn⟩ : ∃ b_, b_ = y12.heap.size := ⟨_, rfl⟩
                        have hS := FS.made HS12.out
                        rw [← hy, ← hbn] at hS
                        rw [← hy, ← hbn]
                        have HS15 := Aside0.mk hS
                        clear hS hy hbn
                        refine hK.out _ _ ⟨(blk_cell HS15.out.hX 0).trans rfl, (blk_cell HS15.out.hX 1).trans rfl, (blk_cell HS15.out.hX 2).trans rfl, (blk_cell HS15.out.hX 3).trans rfl⟩ (fun hHeld => ?_)
                        clear hK K
                        refine norm_ (a' := ?_) ?_ ?_
                        rotate_left
                        · show Act.put _ (some 9) _ = _
                          simp only [Act.put, List.setIfInBounds_toArray, List.set_cons_zero, List.set_cons_succ, i64_w, i32_w]
                          rfl
                        refine one_ (i := 6) (N := some 48) #[true, true, true, true, true, true, true, true, false] rfl rfl (by kernel_rfl) (by decide) (fun K hK => ?_)
                        obtain ⟨ok2, okp, hN2, hF2, hp2, hfr, hbw, hsz2, hnext⟩ := FS.append rfl HR1.out.2 HR1.out.1 HR2.out.2 HR2.out.1 HS15.out
                        refine Kd.N_append_rows_step k38 (w0 := y15) (w.heap.size + 1) (by rfl) (.tmp 45) (.tmp 47) 27 38 (.agg #[(.int .i64 0), (.slice none 0 0), (.slice none 0 0), (.bool false)]) 64 rfl Try.underlying27 info38 rfl (by decide) (by omega) u12 (dropC (⟨a1_0, l1_1, l1_2, a1_3⟩ : S38) l0) [(⟨a1_0, l1_1, l1_2, a1_3⟩ : S38)] (some ⟨b11, 0, none⟩) 1 1 ok2 okp rfl rfl hN2 hF2 hp2 hfr (Below.refl _ _) hsz2 (by have := HLEN.out; omega) ?_
                        intro u16 y16 hN3 _ hg3 _
                        have HS16 := Aside0.mk (hnext u16 y16 hN3 hg3)
                        clear hN2 hF2 hp2 hfr hbw hsz2 hnext hN3 hg3
                        refine hK.out _ _ ⟨(blk_cell HS16.out.hX 0).trans rfl, (blk_cell HS16.out.hX 1).trans rfl, (blk_cell HS16.out.hX 2).trans rfl, (blk_cell HS16.out.hX 3).trans rfl⟩ (fun hHeld => ?_)
                        clear hK K
                        refine norm_ (a' := ?_) ?_ ?_
                        rotate_left
                        · show Act.put _ (some 48) _ = _
                          simp only [Act.put, List.setIfInBounds_toArray, List.set_cons_zero, List.set_cons_succ, i64_w, i32_w]
                          rfl
                        exact norm_ (by simp only [putAll, Act.put, List.setIfInBounds_toArray, List.set_cons_zero, List.set_cons_succ]) (hCont (u1, u12, b11, u16, b15) _ ⟨hHeld, HS16.out⟩)
                    · skip
                      refine value_ (v := .pointer (some ⟨y11.heap.size, 0, none⟩)) (w1 := y11.alloc (.cells #[.slice none 0 0] 27 (0, 0))) (by rfl) rfl (by first | (go_simp; done) | (go_simp; rfl)) ?_
                      obtain ⟨y17, hy⟩ : ∃ y_, y_ = y11.alloc (.cells #[.slice none 0 0] 27 (0, 0)) := ⟨_, rfl⟩
                      obtain ⟨b17, hbn⟩ : ∃ b_, b_ = y11.heap.size := ⟨_, rfl⟩
                      have hS := FS.made HS11.out
                      rw [← hy, ← hbn] at hS
                      rw [← hy, ← hbn]
                      have HS17 := Aside0.mk hS
                      clear hS hy hbn
                      refine hK.out _ _ ⟨(blk_cell HS17.out.hX 0).trans rfl, (blk_cell HS17.out.hX 1).trans rfl, (blk_cell HS17.out.hX 2).trans rfl, (blk_cell HS17.out.hX 3).trans rfl⟩ (fun hHeld => ?_)
                      clear hK K
                      refine norm_ (a' := ?_) ?_ ?_
                      rotate_left
                      · show Act.put _ (some 9) _ = _
                        simp only [Act.put, List.setIfInBounds_toArray, List.set_cons_zero, List.set_cons_succ, i64_w, i32_w]
                        rfl
                      refine one_ (i := 3) (N := some 45) #[true, true, true, true, true, true, false, true, false] rfl rfl (by kernel_rfl) (by decide) (fun K hK => ?_)
                      refine goes_ Try.func42 (by kernel_rfl) rfl #[u1, .func (.func 43) #[] #[.pointer (some ⟨w.heap.size, 0, none⟩)]] (by rfl) rfl rfl (by (try simp only [List.map_toArray, List.map_cons, List.map_nil]); first | done | rfl) ?_
                      refine (FS.del rfl HR1.out.2 HR1.out.1 HR2.out.2 HR2.out.1 HS17.out).mono ?_
                      rintro e y18 ⟨u18, rfl, hS⟩
                      have HS18 := Aside0.mk hS
                      clear hS
                      refine ⟨_, rfl, ?_⟩
                      refine hK.out _ _ ⟨(blk_cell HS18.out.hX 0).trans rfl, (blk_cell HS18.out.hX 1).trans rfl, (blk_cell HS18.out.hX 2).trans rfl, (blk_cell HS18.out.hX 3).trans rfl⟩ (fun hHeld => ?_)
                      clear hK K
                      refine norm_ (a' := ?_) ?_ ?_
                      rotate_left
                      · show Act.put _ (some 45) _ = _
                        simp only [Act.put, List.setIfInBounds_toArray, List.set_cons_zero, List.set_cons_succ, i64_w, i32_w]
                        rfl
                      refine one_ (i := 6) (N := some 48) #[true, true, true, true, true, true, true, true, false] rfl rfl (by kernel_rfl) (by decide) (fun K hK => ?_)
                      obtain ⟨ok2, okp, hN2, hF2, hp2, hfr, hbw, hsz2, hnext⟩ := FS.append rfl HR1.out.2 HR1.out.1 HR2.out.2 HR2.out.1 HS18.out
                      refine Kd.N_append_rows_step k38 (w0 := y18) (w.heap.size + 1) (by rfl) (.tmp 45) (.tmp 47) 27 38 (.agg #[(.int .i64 0), (.slice none 0 0), (.slice none 0 0), (.bool false)]) 64 rfl Try.underlying27 info38 rfl (by decide) (by omega) u18 (dropC (⟨a1_0, l1_1, l1_2, a1_3⟩ : S38) l0) [(⟨a1_0, l1_1, l1_2, a1_3⟩ : S38)] (some ⟨b11, 0, none⟩) 1 1 ok2 okp rfl rfl hN2 hF2 hp2 hfr (Below.refl _ _) hsz2 (by have := HLEN.out; omega) ?_
                      intro u19 y19 hN3 _ hg3 _
                      have HS19 := Aside0.mk (hnext u19 y19 hN3 hg3)
                      clear hN2 hF2 hp2 hfr hbw hsz2 hnext hN3 hg3
                      refine hK.out _ _ ⟨(blk_cell HS19.out.hX 0).trans rfl, (blk_cell HS19.out.hX 1).trans rfl, (blk_cell HS19.out.hX 2).trans rfl, (blk_cell HS19.out.hX 3).trans rfl⟩ (fun hHeld => ?_)
                      clear hK K
                      refine norm_ (a' := ?_) ?_ ?_
                      rotate_left
                      · show Act.put _ (some 48) _ = _
                        simp only [Act.put, List.setIfInBounds_toArray, List.set_cons_zero, List.set_cons_succ, i64_w, i32_w]
                        rfl
                      exact norm_ (by simp only [putAll, Act.put, List.setIfInBounds_toArray, List.set_cons_zero, List.set_cons_succ]) (hCont (u1, u18, b11, u19, b17) _ ⟨hHeld, HS19.out⟩)
                  · skip
                    refine value_ (v := .pointer (some ⟨y1.heap.size, 0, none⟩)) (w1 := y1.alloc (.cells #[.slice none 0 0] 27 (0, 0))) (by rfl) rfl (by first | (go_simp; done) | (go_simp; rfl)) ?_
                    obtain ⟨y20, hy⟩ : ∃ y_, y_ = y1.alloc (.cells #[.slice none 0 0] 27 (0, 0)) := ⟨_, rfl⟩
                    obtain ⟨b20, hbn⟩ : ∃ b_, b_ = y1.heap.size := ⟨_, rfl⟩
                    have hS := FS.made HS1.out
                    rw [← hy, ← hbn] at hS
                    rw [← hy, ← hbn]
                    have HS20 := Aside0.mk hS
                    clear hS hy hbn
                    refine hK.out _ _ ⟨(blk_cell HS20.out.hX 0).trans rfl, (blk_cell HS20.out.hX 1).trans rfl, (blk_cell HS20.out.hX 2).trans rfl, (blk_cell HS20.out.hX 3).trans rfl⟩ (fun hHeld => ?_)
                    clear hK K
                    refine norm_ (a' := ?_) ?_ ?_
                    rotate_left
                    · show Act.put _ (some 9) _ = _
                      simp only [Act.put, List.setIfInBounds_toArray, List.set_cons_zero, List.set_cons_succ, i64_w, i32_w]
                      rfl
                    refine two_ (i := 3) (j := 5) (Ni := some 45) (Nj := some 47) #[true, true, true, true, true, false, false, true, false] #[true, true, true, false, true, true, false, true, false] rfl rfl rfl rfl (by kernel_rfl) (by decide) (by decide) (fun K hK => ?_) (fun K hK => ?_)
                    · skip
                      refine goes_ Try.func42 (by kernel_rfl) rfl #[u1, .func (.func 43) #[] #[.pointer (some ⟨w.heap.size, 0, none⟩)]] (by rfl) rfl rfl (by (try simp only [List.map_toArray, List.map_cons, List.map_nil]); first | done | rfl) ?_
                      refine (FS.del rfl HR1.out.2 HR1.out.1 HR2.out.2 HR2.out.1 HS20.out).mono ?_
                      rintro e y21 ⟨u21, rfl, hS⟩
                      have HS21 := Aside0.mk hS
                      clear hS
                      refine ⟨_, rfl, ?_⟩
                      refine hK.out _ _ ⟨(blk_cell HS21.out.hX 0).trans rfl, (blk_cell HS21.out.hX 1).trans rfl, (blk_cell HS21.out.hX 2).trans rfl, (blk_cell HS21.out.hX 3).trans rfl⟩ (fun hHeld => ?_)
                      clear hK K
                      refine norm_ (a' := ?_) ?_ ?_
                      rotate_left
                      · show Act.put _ (some 45) _ = _
                        simp only [Act.put, List.setIfInBounds_toArray, List.set_cons_zero, List.set_cons_succ, i64_w, i32_w]
                        rfl
                      refine one_ (i := 5) (N := some 47) #[true, true, true, true, true, true, false, true, false] rfl rfl (by kernel_rfl) (by decide) (fun K hK => ?_)
                      refine value_ (v := .slice (some ⟨y21.heap.size, 0, none⟩) 1 1) (w1 := y21.alloc (.cells #[.int .i64 a1_0, .slice A1_1 l1_1.length c1_1, .slice A1_2 l1_2.length c1_2, .bool a1_3] 38 (0, 0))) (by rfl) rfl (by first | (go_simp; done) | (go_simp; rfl)) ?_
                      obtain ⟨y22, hy⟩ : ∃ y_, y_ = y21.alloc (.cells #[.int .i64 a1_0, .slice A1_1 l1_1.length c1_1, .slice A1_2 l1_2.length c1_2, .bool a1_3] 38 (0, 0)) := ⟨_, rfl⟩
                      obtain ⟨b22, hbn⟩ : ∃ b_, b_ = y21.heap.size := ⟨_, rfl⟩
                      have hS := FS.build HS21.out
                      rw [← hy, ← hbn] at hS
                      rw [← hy, ← hbn]
                      have HS22 := Aside0.mk hS
                      clear hS hy hbn
                      refine hK.out _ _ ⟨(blk_cell HS22.out.hX 0).trans rfl, (blk_cell HS22.out.hX 1).trans rfl, (blk_cell HS22.out.hX 2).trans rfl, (blk_cell HS22.out.hX 3).trans rfl⟩ (fun hHeld => ?_)
                      clear hK K
                      refine norm_ (a' := ?_) ?_ ?_
                      rotate_left
                      · show Act.put _ (some 47) _ = _
                        simp only [Act.put, List.setIfInBounds_toArray, List.set_cons_zero, List.set_cons_succ, i64_w, i32_w]
                        rfl
                      refine one_ (i := 6) (N := some 48) #[true, true, true, true, true, true, true, true, false] rfl rfl (by kernel_rfl) (by decide) (fun K hK => ?_)
                      obtain ⟨ok2, okp, hN2, hF2, hp2, hfr, hbw, hsz2, hnext⟩ := FS.append rfl HR1.out.2 HR1.out.1 HR2.out.2 HR2.out.1 HS22.out
                      refine Kd.N_append_rows_step k38 (w0 := y22) (w.heap.size + 1) (by rfl) (.tmp 45) (.tmp 47) 27 38 (.agg #[(.int .i64 0), (.slice none 0 0), (.slice none 0 0), (.bool false)]) 64 rfl Try.underlying27 info38 rfl (by decide) (by omega) u21 (dropC (⟨a1_0, l1_1, l1_2, a1_3⟩ : S38) l0) [(⟨a1_0, l1_1, l1_2, a1_3⟩ : S38)] (some ⟨b22, 0, none⟩) 1 1 ok2 okp rfl rfl hN2 hF2 hp2 hfr (Below.refl _ _) hsz2 (by have := HLEN.out; omega) ?_
                      intro u23 y23 hN3 _ hg3 _
                      have HS23 := Aside0.mk (hnext u23 y23 hN3 hg3)
                      clear hN2 hF2 hp2 hfr hbw hsz2 hnext hN3 hg3
                      refine hK.out _ _ ⟨(blk_cell HS23.out.hX 0).trans rfl, (blk_cell HS23.out.hX 1).trans rfl, (blk_cell HS23.out.hX 2).trans rfl, (blk_cell HS23.out.hX 3).trans rfl⟩ (fun hHeld => ?_)
                      clear hK K
                      refine norm_ (a' := ?_) ?_ ?_
                      rotate_left
                      · show Act.put _ (some 48) _ = _
                        simp only [Act.put, List.setIfInBounds_toArray, List.set_cons_zero, List.set_cons_succ, i64_w, i32_w]
                        rfl
                      exact norm_ (by simp only [putAll, Act.put, List.setIfInBounds_toArray, List.set_cons_zero, List.set_cons_succ]) (hCont (u1, u21, b22, u23, b20) _ ⟨hHeld, HS23.out⟩)
                    · skip
                      refine value_ (v := .slice (some ⟨y20.heap.size, 0, none⟩) 1 1) (w1 := y20.alloc (.cells #[.int .i64 a1_0, .slice A1_1 l1_1.length c1_1, .slice A1_2 l1_2.length c1_2, .bool a1_3] 38 (0, 0))) (by rfl) rfl (by first | (go_simp; done) | (go_simp; rfl)) ?_
                      obtain ⟨y24, hy⟩ : ∃ y_, y_ = y20.alloc (.cells #[.int .i64 a1_0, .slice A1_1 l1_1.length c1_1, .slice A1_2 l1_2.length c1_2, .bool a1_3] 38 (0, 0)) := ⟨_, rfl⟩
                      obtain ⟨b24, hbn⟩ : ∃ b_, b_ = y20.heap.size := ⟨_, rfl⟩
                      have hS := FS.build HS20.out
                      rw [← hy, ← hbn] at hS
                      rw [← hy, ← hbn]
                      have HS24 := Aside0.mk hS
                      clear hS hy hbn
                      refine hK.out _ _ ⟨(blk_cell HS24.out.hX 0).trans rfl, (blk_cell HS24.out.hX 1).trans rfl, (blk_cell HS24.out.hX 2).trans rfl, (blk_cell HS24.out.hX 3).trans rfl⟩ (fun hHeld => ?_)
                      clear hK K
                      refine norm_ (a' := ?_) ?_ ?_
                      rotate_left
                      · show Act.put _ (some 47) _ = _
                        simp only [Act.put, List.setIfInBounds_toArray, List.set_cons_zero, List.set_cons_succ, i64_w, i32_w]
                        rfl
                      refine one_ (i := 3) (N := some 45) #[true, true, true, true, true, true, false, true, false] rfl rfl (by kernel_rfl) (by decide) (fun K hK => ?_)
                      refine goes_ Try.func42 (by kernel_rfl) rfl #[u1, .func (.func 43) #[] #[.pointer (some ⟨w.heap.size, 0, none⟩)]] (by rfl) rfl rfl (by (try simp only [List.map_toArray, List.map_cons, List.map_nil]); first | done | rfl) ?_
                      refine (FS.del rfl HR1.out.2 HR1.out.1 HR2.out.2 HR2.out.1 HS24.out).mono ?_
                      rintro e y25 ⟨u25, rfl, hS⟩
                      have HS25 := Aside0.mk hS
                      clear hS
                      refine ⟨_, rfl, ?_⟩
                      refine hK.out _ _ ⟨(blk_cell HS25.out.hX 0).trans rfl, (blk_cell HS25.out.hX 1).trans rfl, (blk_cell HS25.out.hX 2).trans rfl, (blk_cell HS25.out.hX 3).trans rfl⟩ (fun hHeld => ?_)
                      clear hK K
                      refine norm_ (a' := ?_) ?_ ?_
                      rotate_left
                      · show Act.put _ (some 45) _ = _
                        simp only [Act.put, List.setIfInBounds_toArray, List.set_cons_zero, List.set_cons_succ, i64_w, i32_w]
                        rfl
                      refine one_ (i := 6) (N := some 48) #[true, true, true, true, true, true, true, true, false] rfl rfl (by kernel_rfl) (by decide) (fun K hK => ?_)
                      obtain ⟨ok2, okp, hN2, hF2, hp2, hfr, hbw, hsz2, hnext⟩ := FS.append rfl HR1.out.2 HR1.out.1 HR2.out.2 HR2.out.1 HS25.out
                      refine Kd.N_append_rows_step k38 (w0 := y25) (w.heap.size + 1) (by rfl) (.tmp 45) (.tmp 47) 27 38 (.agg #[(.int .i64 0), (.slice none 0 0), (.slice none 0 0), (.bool false)]) 64 rfl Try.underlying27 info38 rfl (by decide) (by omega) u25 (dropC (⟨a1_0, l1_1, l1_2, a1_3⟩ : S38) l0) [(⟨a1_0, l1_1, l1_2, a1_3⟩ : S38)] (some ⟨b24, 0, none⟩) 1 1 ok2 okp rfl rfl hN2 hF2 hp2 hfr (Below.refl _ _) hsz2 (by have := HLEN.out; omega) ?_
                      intro u26 y26 hN3 _ hg3 _
                      have HS26 := Aside0.mk (hnext u26 y26 hN3 hg3)
                      clear hN2 hF2 hp2 hfr hbw hsz2 hnext hN3 hg3
                      refine hK.out _ _ ⟨(blk_cell HS26.out.hX 0).trans rfl, (blk_cell HS26.out.hX 1).trans rfl, (blk_cell HS26.out.hX 2).trans rfl, (blk_cell HS26.out.hX 3).trans rfl⟩ (fun hHeld => ?_)
                      clear hK K
                      refine norm_ (a' := ?_) ?_ ?_
                      rotate_left
                      · show Act.put _ (some 48) _ = _
                        simp only [Act.put, List.setIfInBounds_toArray, List.set_cons_zero, List.set_cons_succ, i64_w, i32_w]
                        rfl
                      exact norm_ (by simp only [putAll, Act.put, List.setIfInBounds_toArray, List.set_cons_zero, List.set_cons_succ]) (hCont (u1, u25, b24, u26, b20) _ ⟨hHeld, HS26.out⟩)
                · skip
                  refine value_ (v := .slice (some ⟨y0.heap.size, 0, none⟩) 1 1) (w1 := y0.alloc (.cells #[.int .i64 a1_0, .slice A1_1 l1_1.length c1_1, .slice A1_2 l1_2.length c1_2, .bool a1_3] 38 (0, 0))) (by rfl) rfl (by first | (go_simp; done) | (go_simp; rfl)) ?_
                  obtain ⟨y27, hy⟩ : ∃ y_, y_ = y0.alloc (.cells #[.int .i64 a1_0, .slice A1_1 l1_1.length c1_1, .slice A1_2 l1_2.length c1_2, .bool a1_3] 38 (0, 0)) := ⟨_, rfl⟩
                  obtain ⟨b27, hbn⟩ : ∃ b_, b_ = y0.heap.size := ⟨_, rfl⟩
                  have hS := FS.build HS0.out
                  rw [← hy, ← hbn] at hS
                  rw [← hy, ← hbn]
                  have HS27 := Aside0.mk hS
                  clear hS hy hbn
                  refine hK.out _ _ ⟨(blk_cell HS27.out.hX 0).trans rfl, (blk_cell HS27.out.hX 1).trans rfl, (blk_cell HS27.out.hX 2).trans rfl, (blk_cell HS27.out.hX 3).trans rfl⟩ (fun hHeld => ?_)
                  clear hK K
                  refine norm_ (a' := ?_) ?_ ?_
                  rotate_left
                  · show Act.put _ (some 47) _ = _
                    simp only [Act.put, List.setIfInBounds_toArray, List.set_cons_zero, List.set_cons_succ, i64_w, i32_w]
                    rfl
                  refine two_ (i := 1) (j := 7) (Ni := some 43) (Nj := some 9) #[true, true, true, false, true, true, false, false, false] #[true, false, true, false, true, true, false, true, false] rfl rfl rfl rfl (by kernel_rfl) (by decide) (by decide) (fun K hK => ?_) (fun K hK => ?_)
                  · skip
                    refine goes_ Try.func18 (by kernel_rfl) rfl #[.slice A0 l0.length c0] (by rfl) rfl rfl (by (try simp only [List.map_toArray, List.map_cons, List.map_nil]); first | done | rfl) ?_
                    refine (FS.cloneCall rfl (by omega) HF0.out HS27.out).mono ?_
                    rintro e y28 ⟨u28, rfl, hS⟩
                    have HS28 := Aside0.mk hS
                    clear hS
                    refine ⟨_, rfl, ?_⟩
                    refine hK.out _ _ ⟨(blk_cell HS28.out.hX 0).trans rfl, (blk_cell HS28.out.hX 1).trans rfl, (blk_cell HS28.out.hX 2).trans rfl, (blk_cell HS28.out.hX 3).trans rfl⟩ (fun hHeld => ?_)
                    clear hK K
                    refine norm_ (a' := ?_) ?_ ?_
                    rotate_left
                    · show Act.put _ (some 43) _ = _
                      simp only [Act.put, List.setIfInBounds_toArray, List.set_cons_zero, List.set_cons_succ, i64_w, i32_w]
                      rfl
                    refine two_ (i := 3) (j := 7) (Ni := some 45) (Nj := some 9) #[true, true, true, true, true, true, false, false, false] #[true, true, true, false, true, true, false, true, false] rfl rfl rfl rfl (by kernel_rfl) (by decide) (by decide) (fun K hK => ?_) (fun K hK => ?_)
                    · skip
                      refine goes_ Try.func42 (by kernel_rfl) rfl #[u28, .func (.func 43) #[] #[.pointer (some ⟨w.heap.size, 0, none⟩)]] (by rfl) rfl rfl (by (try simp only [List.map_toArray, List.map_cons, List.map_nil]); first | done | rfl) ?_
                      refine (FS.del rfl HR1.out.2 HR1.out.1 HR2.out.2 HR2.out.1 HS28.out).mono ?_
                      rintro e y29 ⟨u29, rfl, hS⟩
                      have HS29 := Aside0.mk hS
                      clear hS
                      refine ⟨_, rfl, ?_⟩
                      refine hK.out _ _ ⟨(blk_cell HS29.out.hX 0).trans rfl, (blk_cell HS29.out.hX 1).trans rfl, (blk_cell HS29.out.hX 2).trans rfl, (blk_cell HS29.out.hX 3).trans rfl⟩ (fun hHeld => ?_)
                      clear hK K
                      refine norm_ (a' := ?_) ?_ ?_
                      rotate_left
                      · show Act.put _ (some 45) _ = _
                        simp only [Act.put, List.setIfInBounds_toArray, List.set_cons_zero, List.set_cons_succ, i64_w, i32_w]
                        rfl
                      refine two_ (i := 6) (j := 7) (Ni := some 48) (Nj := some 9) #[true, true, true, true, true, true, true, false, false] #[true, true, true, true, true, true, false, true, false] rfl rfl rfl rfl (by kernel_rfl) (by decide) (by decide) (fun K hK => ?_) (fun K hK => ?_)
                      · skip
                        obtain ⟨ok2, okp, hN2, hF2, hp2, hfr, hbw, hsz2, hnext⟩ := FS.append rfl HR1.out.2 HR1.out.1 HR2.out.2 HR2.out.1 HS29.out
                        refine Kd.N_append_rows_step k38 (w0 := y29) (w.heap.size + 1) (by rfl) (.tmp 45) (.tmp 47) 27 38 (.agg #[(.int .i64 0), (.slice none 0 0), (.slice none 0 0), (.bool false)]) 64 rfl Try.underlying27 info38 rfl (by decide) (by omega) u29 (dropC (⟨a1_0, l1_1, l1_2, a1_3⟩ : S38) l0) [(⟨a1_0, l1_1, l1_2, a1_3⟩ : S38)] (some ⟨b27, 0, none⟩) 1 1 ok2 okp rfl rfl hN2 hF2 hp2 hfr (Below.refl _ _) hsz2 (by have := HLEN.out; omega) ?_
                        intro u30 y30 hN3 _ hg3 _
                        have HS30 := Aside0.mk (hnext u30 y30 hN3 hg3)
                        clear hN2 hF2 hp2 hfr hbw hsz2 hnext hN3 hg3
                        refine hK.out _ _ ⟨(blk_cell HS30.out.hX 0).trans rfl, (blk_cell HS30.out.hX 1).trans rfl, (blk_cell HS30.out.hX 2).trans rfl, (blk_cell HS30.out.hX 3).trans rfl⟩ (fun hHeld => ?_)
                        clear hK K
                        refine norm_ (a' := ?_) ?_ ?_
                        rotate_left
                        · show Act.put _ (some 48) _ = _
                          simp only [Act.put, List.setIfInBounds_toArray, List.set_cons_zero, List.set_cons_succ, i64_w, i32_w]
                          rfl
                        refine one_ (i := 7) (N := some 9) #[true, true, true, true, true, true, true, true, false] rfl rfl (by kernel_rfl) (by decide) (fun K hK => ?_)
                        refine value_ (v := .pointer (some ⟨y30.heap.size, 0, none⟩)) (w1 := y30.alloc (.cells #[.slice none 0 0] 27 (0, 0))) (by rfl) rfl (by first | (go_simp; done) | (go_simp; rfl)) ?_
                        obtain ⟨y31, hy⟩ : ∃ y_, y_ = y30.alloc (.cells #[.slice none 0 0] 27 (0, 0)) := ⟨_, rfl⟩
                        obtain ⟨b31, hbn⟩ : ∃ b_, b_ = y30.heap.size := ⟨_, rfl⟩
                        have hS := FS.made HS30.out
                        rw [← hy, ← hbn] at hS
                        rw [← hy, ← hbn]
                        have HS31 := Aside0.mk hS
                        clear hS hy hbn
                        refine hK.out _ _ ⟨(blk_cell HS31.out.hX 0).trans rfl, (blk_cell HS31.out.hX 1).trans rfl, (blk_cell HS31.out.hX 2).trans rfl, (blk_cell HS31.out.hX 3).trans rfl⟩ (fun hHeld => ?_)
                        clear hK K
                        refine norm_ (a' := ?_) ?_ ?_
                        rotate_left
                        · show Act.put _ (some 9) _ = _
                          simp only [Act.put, List.setIfInBounds_toArray, List.set_cons_zero, List.set_cons_succ, i64_w, i32_w]
                          rfl
                        exact norm_ (by simp only [putAll, Act.put, List.setIfInBounds_toArray, List.set_cons_zero, List.set_cons_succ]) (hCont (u28, u29, b27, u30, b31) _ ⟨hHeld, HS31.out⟩)
                      · skip
                        refine value_ (v := .pointer (some ⟨y29.heap.size, 0, none⟩)) (w1 := y29.alloc (.cells #[.slice none 0 0] 27 (0, 0))) (by rfl) rfl (by first | (go_simp; done) | (go_simp; rfl)) ?_
                        obtain ⟨y32, hy⟩ : ∃ y_, y_ = y29.alloc (.cells #[.slice none 0 0] 27 (0, 0)) := ⟨_, rfl⟩
                        obtain ⟨b32, hbn⟩ : ∃ b_, b_ = y29.heap.size := ⟨_, rfl⟩
                        have hS := FS.made HS29.out
                        rw [← hy, ← hbn] at hS
                        rw [← hy, ← hbn]
                        have HS32 := Aside0.mk hS
                        clear hS hy hbn
                        refine hK.out _ _ ⟨(blk_cell HS32.out.hX 0).trans rfl, (blk_cell HS32.out.hX 1).trans rfl, (blk_cell HS32.out.hX 2).trans rfl, (blk_cell HS32.out.hX 3).trans rfl⟩ (fun hHeld => ?_)
                        clear hK K
                        refine norm_ (a' := ?_) ?_ ?_
                        rotate_left
                        · show Act.put _ (some 9) _ = _
                          simp only [Act.put, List.setIfInBounds_toArray, List.set_cons_zero, List.set_cons_succ, i64_w, i32_w]
                          rfl
                        refine one_ (i := 6) (N := some 48) #[true, true, true, true, true, true, true, true, false] rfl rfl (by kernel_rfl) (by decide) (fun K hK => ?_)
                        obtain ⟨ok2, okp, hN2, hF2, hp2, hfr, hbw, hsz2, hnext⟩ := FS.append rfl HR1.out.2 HR1.out.1 HR2.out.2 HR2.out.1 HS32.out
                        refine Kd.N_append_rows_step k38 (w0 := y32) (w.heap.size + 1) (by rfl) (.tmp 45) (.tmp 47) 27 38 (.agg #[(.int .i64 0), (.slice none 0 0), (.slice none 0 0), (.bool false)]) 64 rfl Try.underlying27 info38 rfl (by decide) (by omega) u29 (dropC (⟨a1_0, l1_1, l1_2, a1_3⟩ : S38) l0) [(⟨a1_0, l1_1, l1_2, a1_3⟩ : S38)] (some ⟨b27, 0, none⟩) 1 1 ok2 okp rfl rfl hN2 hF2 hp2 hfr (Below.refl _ _) hsz2 (by have := HLEN.out; omega) ?_
                        intro u33 y33 hN3 _ hg3 _
                        have HS33 := Aside0.mk (hnext u33 y33 hN3 hg3)
                        clear hN2 hF2 hp2 hfr hbw hsz2 hnext hN3 hg3
                        refine hK.out _ _ ⟨(blk_cell HS33.out.hX 0).trans rfl, (blk_cell HS33.out.hX 1).trans rfl, (blk_cell HS33.out.hX 2).trans rfl, (blk_cell HS33.out.hX 3).trans rfl⟩ (fun hHeld => ?_)
                        clear hK K
                        refine norm_ (a' := ?_) ?_ ?_
                        rotate_left
                        · show Act.put _ (some 48) _ = _
                          simp only [Act.put, List.setIfInBounds_toArray, List.set_cons_zero, List.set_cons_succ, i64_w, i32_w]
                          rfl
                        exact norm_ (by simp only [putAll, Act.put, List.setIfInBounds_toArray, List.set_cons_zero, List.set_cons_succ]) (hCont (u28, u29, b27, u33, b32) _ ⟨hHeld, HS33.out⟩)
                    · skip
                      refine value_ (v := .pointer (some ⟨y28.heap.size, 0, none⟩)) (w1 := y28.alloc (.cells #[.slice none 0 0] 27 (0, 0))) (by rfl) rfl (by first | (go_simp; done) | (go_simp; rfl)) ?_
                      obtain ⟨y34, hy⟩ : ∃ y_, y_ = y28.alloc (.cells #[.slice none 0 0] 27 (0, 0)) := ⟨_, rfl⟩
                      obtain ⟨b34, hbn⟩ : ∃ b_, b_ = y28.heap.size := ⟨_, rfl⟩
                      have hS := FS.made HS28.out
                      rw [← hy, ← hbn] at hS
                      rw [← hy, ← hbn]
                      have HS34 := Aside0.mk hS
                      clear hS hy hbn
                      refine hK.out _ _ ⟨(blk_cell HS34.out.hX 0).trans rfl, (blk_cell HS34.out.hX 1).trans rfl, (blk_cell HS34.out.hX 2).trans rfl, (blk_cell HS34.out.hX 3).trans rfl⟩ (fun hHeld => ?_)
                      clear hK K
                      refine norm_ (a' := ?_) ?_ ?_
                      rotate_left
                      · show Act.put _ (some 9) _ = _
                        simp only [Act.put, List.setIfInBounds_toArray, List.set_cons_zero, List.set_cons_succ, i64_w, i32_w]
                        rfl
                      refine one_ (i := 3) (N := some 45) #[true, true, true, true, true, true, false, true, false] rfl rfl (by kernel_rfl) (by decide) (fun K hK => ?_)
                      refine goes_ Try.func42 (by kernel_rfl) rfl #[u28, .func (.func 43) #[] #[.pointer (some ⟨w.heap.size, 0, none⟩)]] (by rfl) rfl rfl (by (try simp only [List.map_toArray, List.map_cons, List.map_nil]); first | done | rfl) ?_
                      refine (FS.del rfl HR1.out.2 HR1.out.1 HR2.out.2 HR2.out.1 HS34.out).mono ?_
                      rintro e y35 ⟨u35, rfl, hS⟩
                      have HS35 := Aside0.mk hS
                      clear hS
                      refine ⟨_, rfl, ?_⟩
                      refine hK.out _ _ ⟨(blk_cell HS35.out.hX 0).trans rfl, (blk_cell HS35.out.hX 1).trans rfl, (blk_cell HS35.out.hX 2).trans rfl, (blk_cell HS35.out.hX 3).trans rfl⟩ (fun hHeld => ?_)
                      clear hK K
                      refine norm_ (a' := ?_) ?_ ?_
                      rotate_left
                      · show Act.put _ (some 45) _ = _
                        simp only [Act.put, List.setIfInBounds_toArray, List.set_cons_zero, List.set_cons_succ, i64_w, i32_w]
                        rfl
                      refine one_ (i := 6) (N := some 48) #[true, true, true, true, true, true, true, true, false] rfl rfl (by kernel_rfl) (by decide) (fun K hK => ?_)
                      obtain ⟨ok2, okp, hN2, hF2, hp2, hfr, hbw, hsz2, hnext⟩ := FS.append rfl HR1.out.2 HR1.out.1 HR2.out.2 HR2.out.1 HS35.out
                      refine Kd.N_append_rows_step k38 (w0 := y35) (w.heap.size + 1) (by rfl) (.tmp 45) (.tmp 47) 27 38 (.agg #[(.int .i64 0), (.slice none 0 0), (.slice none 0 0), (.bool false)]) 64 rfl Try.underlying27 info38 rfl (by decide) (by omega) u35 (dropC (⟨a1_0, l1_1, l1_2, a1_3⟩ : S38) l0) [(⟨a1_0, l1_1, l1_2, a1_3⟩ : S38)] (some ⟨b27, 0, none⟩) 1 1 ok2 okp rfl rfl hN2 hF2 hp2 hfr (Below.refl _ _) hsz2 (by have := HLEN.out; omega) ?_
                      intro u36 y36 hN3 _ hg3 _
                      have HS36 := Aside0.mk (hnext u36 y36 hN3 hg3)
                      clear hN2 hF2 hp2 hfr hbw hsz2 hnext hN3 hg3
                      refine hK.out _ _ ⟨(blk_cell HS36.out.hX 0).trans rfl, (blk_cell HS36.out.hX 1).trans rfl, (blk_cell HS36.out.hX 2).trans rfl, (blk_cell HS36.out.hX 3).trans rfl⟩ (fun hHeld => ?_)
                      clear hK K
                      refine norm_ (a' := ?_) ?_ ?_
                      rotate_left
                      · show Act.put _ (some 48) _ = _
                        simp only [Act.put, List.setIfInBounds_toArray, List.set_cons_zero, List.set_cons_succ, i64_w, i32_w]
                        rfl
                      exact norm_ (by simp only [putAll, Act.put, List.setIfInBounds_toArray, List.set_cons_zero, List.set_cons_succ]) (hCont (u28, u35, b27, u36, b34) _ ⟨hHeld, HS36.out⟩)
                  · skip
                    refine value_ (v := .pointer (some ⟨y27.heap.size, 0, none⟩)) (w1 := y27.alloc (.cells #[.slice none 0 0] 27 (0, 0))) (by rfl) rfl (by first | (go_simp; done) | (go_simp; rfl)) ?_
                    obtain ⟨y37, hy⟩ : ∃ y_, y_ = y27.alloc (.cells #[.slice none 0 0] 27 (0, 0)) := ⟨_, rfl⟩
                    obtain ⟨b37, hbn⟩ : ∃ b_, b_ = y27.heap.size := ⟨_, rfl⟩
                    have hS := FS.made HS27.out
                    rw [← hy, ← hbn] at hS
                    rw [← hy, ← hbn]
                    have HS37 := Aside0.mk hS
                    clear hS hy hbn
                    refine hK.out _ _ ⟨(blk_cell HS37.out.hX 0).trans rfl, (blk_cell HS37.out.hX 1).trans rfl, (blk_cell HS37.out.hX 2).trans rfl, (blk_cell HS37.out.hX 3).trans rfl⟩ (fun hHeld => ?_)
                    clear hK K
                    refine norm_ (a' := ?_) ?_ ?_
                    rotate_left
                    · show Act.put _ (some 9) _ = _
                      simp only [Act.put, List.setIfInBounds_toArray, List.set_cons_zero, List.set_cons_succ, i64_w, i32_w]
                      rfl
                    refine one_ (i := 1) (N := some 43) #[true, true, true, false, true, true, false, true, false] rfl rfl (by kernel_rfl) (by decide) (fun K hK => ?_)
                    refine goes_ Try.func18 (by kernel_rfl) rfl #[.slice A0 l0.length c0] (by rfl) rfl rfl (by (try simp only [List.map_toArray, List.map_cons, List.map_nil]); first | done | rfl) ?_
                    refine (FS.cloneCall rfl (by omega) HF0.out HS37.out).mono ?_
                    rintro e y38 ⟨u38, rfl, hS⟩
                    have HS38 := Aside0.mk hS
                    clear hS
                    refine ⟨_, rfl, ?_⟩
                    refine hK.out _ _ ⟨(blk_cell HS38.out.hX 0).trans rfl, (blk_cell HS38.out.hX 1).trans rfl, (blk_cell HS38.out.hX 2).trans rfl, (blk_cell HS38.out.hX 3).trans rfl⟩ (fun hHeld => ?_)
                    clear hK K
                    refine norm_ (a' := ?_) ?_ ?_
                    rotate_left
                    · show Act.put _ (some 43) _ = _
                      simp only [Act.put, List.setIfInBounds_toArray, List.set_cons_zero, List.set_cons_succ, i64_w, i32_w]
                      rfl
                    refine one_ (i := 3) (N := some 45) #[true, true, true, true, true, true, false, true, false] rfl rfl (by kernel_rfl) (by decide) (fun K hK => ?_)
                    refine goes_ Try.func42 (by kernel_rfl) rfl #[u38, .func (.func 43) #[] #[.pointer (some ⟨w.heap.size, 0, none⟩)]] (by rfl) rfl rfl (by (try simp only [List.map_toArray, List.map_cons, List.map_nil]); first | done | rfl) ?_
                    refine (FS.del rfl HR1.out.2 HR1.out.1 HR2.out.2 HR2.out.1 HS38.out).mono ?_
                    rintro e y39 ⟨u39, rfl, hS⟩
                    have HS39 := Aside0.mk hS
                    clear hS
                    refine ⟨_, rfl, ?_⟩
                    refine hK.out _ _ ⟨(blk_cell HS39.out.hX 0).trans rfl, (blk_cell HS39.out.hX 1).trans rfl, (blk_cell HS39.out.hX 2).trans rfl, (blk_cell HS39.out.hX 3).trans rfl⟩ (fun hHeld => ?_)
                    clear hK K
                    refine norm_ (a' := ?_) ?_ ?_
                    rotate_left
                    · show Act.put _ (some 45) _ = _
                      simp only [Act.put, List.setIfInBounds_toArray, List.set_cons_zero, List.set_cons_succ, i64_w, i32_w]
                      rfl
                    refine one_ (i := 6) (N := some 48) #[true, true, true, true, true, true, true, true, false] rfl rfl (by kernel_rfl) (by decide) (fun K hK => ?_)
                    obtain ⟨ok2, okp, hN2, hF2, hp2, hfr, hbw, hsz2, hnext⟩ := FS.append rfl HR1.out.2 HR1.out.1 HR2.out.2 HR2.out.1 HS39.out
                    refine Kd.N_append_rows_step k38 (w0 := y39) (w.heap.size + 1) (by rfl) (.tmp 45) (.tmp 47) 27 38 (.agg #[(.int .i64 0), (.slice none 0 0), (.slice none 0 0), (.bool false)]) 64 rfl Try.underlying27 info38 rfl (by decide) (by omega) u39 (dropC (⟨a1_0, l1_1, l1_2, a1_3⟩ : S38) l0) [(⟨a1_0, l1_1, l1_2, a1_3⟩ : S38)] (some ⟨b27, 0, none⟩) 1 1 ok2 okp rfl rfl hN2 hF2 hp2 hfr (Below.refl _ _) hsz2 (by have := HLEN.out; omega) ?_
                    intro u40 y40 hN3 _ hg3 _
                    have HS40 := Aside0.mk (hnext u40 y40 hN3 hg3)
                    clear hN2 hF2 hp2 hfr hbw hsz2 hnext hN3 hg3
                    refine hK.out _ _ ⟨(blk_cell HS40.out.hX 0).trans rfl, (blk_cell HS40.out.hX 1).trans rfl, (blk_cell HS40.out.hX 2).trans rfl, (blk_cell HS40.out.hX 3).trans rfl⟩ (fun hHeld => ?_)
                    clear hK K
                    refine norm_ (a' := ?_) ?_ ?_
                    rotate_left
                    · show Act.put _ (some 48) _ = _
                      simp only [Act.put, List.setIfInBounds_toArray, List.set_cons_zero, List.set_cons_succ, i64_w, i32_w]
                      rfl
                    exact norm_ (by simp only [putAll, Act.put, List.setIfInBounds_toArray, List.set_cons_zero, List.set_cons_succ]) (hCont (u38, u39, b27, u40, b37) _ ⟨hHeld, HS40.out⟩)
                · skip
                  refine value_ (v := .pointer (some ⟨y0.heap.size, 0, none⟩)) (w1 := y0.alloc (.cells #[.slice none 0 0] 27 (0, 0))) (by rfl) rfl (by first | (go_simp; done) | (go_simp; rfl)) ?_
                  obtain ⟨y41, hy⟩ : ∃ y_, y_ = y0.alloc (.cells #[.slice none 0 0] 27 (0, 0)) := ⟨_, rfl⟩
                  obtain ⟨b41, hbn⟩ : ∃ b_, b_ = y0.heap.size := ⟨_, rfl⟩
                  have hS := FS.made HS0.out
                  rw [← hy, ← hbn] at hS
                  rw [← hy, ← hbn]
                  have HS41 := Aside0.mk hS
                  clear hS hy hbn
                  refine hK.out _ _ ⟨(blk_cell HS41.out.hX 0).trans rfl, (blk_cell HS41.out.hX 1).trans rfl, (blk_cell HS41.out.hX 2).trans rfl, (blk_cell HS41.out.hX 3).trans rfl⟩ (fun hHeld => ?_)
                  clear hK K
                  refine norm_ (a' := ?_) ?_ ?_
                  rotate_left
                  · show Act.put _ (some 9) _ = _
                    simp only [Act.put, List.setIfInBounds_toArray, List.set_cons_zero, List.set_cons_succ, i64_w, i32_w]
                    rfl
                  refine two_ (i := 1) (j := 5) (Ni := some 43) (Nj := some 47) #[true, true, true, false, true, false, false, true, false] #[true, false, true, false, true, true, false, true, false] rfl rfl rfl rfl (by kernel_rfl) (by decide) (by decide) (fun K hK => ?_) (fun K hK => ?_)
                  · skip
                    refine goes_ Try.func18 (by kernel_rfl) rfl #[.slice A0 l0.length c0] (by rfl) rfl rfl (by (try simp only [List.map_toArray, List.map_cons, List.map_nil]); first | done | rfl) ?_
                    refine (FS.cloneCall rfl (by omega) HF0.out HS41.out).mono ?_
                    rintro e y42 ⟨u42, rfl, hS⟩
                    have HS42 := Aside0.mk hS
                    clear hS
                    refine ⟨_, rfl, ?_⟩
                    refine hK.out _ _ ⟨(blk_cell HS42.out.hX 0).trans rfl, (blk_cell HS42.out.hX 1).trans rfl, (blk_cell HS42.out.hX 2).trans rfl, (blk_cell HS42.out.hX 3).trans rfl⟩ (fun hHeld => ?_)
                    clear hK K
                    refine norm_ (a' := ?_) ?_ ?_
                    rotate_left
                    · show Act.put _ (some 43) _ = _
                      simp only [Act.put, List.setIfInBounds_toArray, List.set_cons_zero, List.set_cons_succ, i64_w, i32_w]
                      rfl
                    refine two_ (i := 3) (j := 5) (Ni := some 45) (Nj := some 47) #[true, true, true, true, true, false, false, true, false] #[true, true, true, false, true, true, false, true, false] rfl rfl rfl rfl (by kernel_rfl) (by decide) (by decide) (fun K hK => ?_) (fun K hK => ?_)
                    · skip
                      refine goes_ Try.func42 (by kernel_rfl) rfl #[u42, .func (.func 43) #[] #[.pointer (some ⟨w.heap.size, 0, none⟩)]] (by rfl) rfl rfl (by (try simp only [List.map_toArray, List.map_cons, List.map_nil]); first | done | rfl) ?_
                      refine (FS.del rfl HR1.out.2 HR1.out.1 HR2.out.2 HR2.out.1 HS42.out).mono ?_
                      rintro e y43 ⟨u43, rfl, hS⟩
                      have HS43 := Aside0.mk hS
                      clear hS
                      refine ⟨_, rfl, ?_⟩
                      refine hK.out _ _ ⟨(blk_cell HS43.out.hX 0).trans rfl, (blk_cell HS43.out.hX 1).trans rfl, (blk_cell HS43.out.hX 2).trans rfl, (blk_cell HS43.out.hX 3).trans rfl⟩ (fun hHeld => ?_)
                      clear hK K
                      refine norm_ (a' := ?_) ?_ ?_
                      rotate_left
                      · show Act.put _ (some 45) _ = _
                        simp only [Act.put, List.setIfInBounds_toArray, List.set_cons_zero, List.set_cons_succ, i64_w, i32_w]
                        rfl
                      refine one_ (i := 5) (N := some 47) #[true, true, true, true, true, true, false, true, false] rfl rfl (by kernel_rfl) (by decide) (fun K hK => ?_)
                      refine value_ (v := .slice (some ⟨y43.heap.size, 0, none⟩) 1 1) (w1 := y43.alloc (.cells #[.int .i64 a1_0, .slice A1_1 l1_1.length c1_1, .slice A1_2 l1_2.length c1_2, .bool a1_3] 38 (0, 0))) (by rfl) rfl (by first | (go_simp; done) | (go_simp; rfl)) ?_
                      obtain ⟨y44, hy⟩ : ∃ y_, y_ = y43.alloc (.cells #[.int .i64 a1_0, .slice A1_1 l1_1.length c1_1, .slice A1_2 l1_2.length c1_2, .bool a1_3] 38 (0, 0)) := ⟨_, rfl⟩
                      obtain ⟨b44, hbn⟩ : ∃ b_, b_ = y43.heap.size := ⟨_, rfl⟩
                      have hS := FS.build HS43.out
                      rw [← hy, ← hbn] at hS
                      rw [← hy, ← hbn]
                      have HS44 := Aside0.mk hS
                      clear hS hy hbn
                      refine hK.out _ _ ⟨(blk_cell HS44.out.hX 0).trans rfl, (blk_cell HS44.out.hX 1).trans rfl, (blk_cell HS44.out.hX 2).trans rfl, (blk_cell HS44.out.hX 3).trans rfl⟩ (fun hHeld => ?_)
                      clear hK K
                      refine norm_ (a' := ?_) ?_ ?_
                      rotate_left
                      · show Act.put _ (some 47) _ = _
                        simp only [Act.put, List.setIfInBounds_toArray, List.set_cons_zero, List.set_cons_succ, i64_w, i32_w]
                        rfl
                      refine one_ (i := 6) (N := some 48) #[true, true, true, true, true, true, true, true, false] rfl rfl (by kernel_rfl) (by decide) (fun K hK => ?_)
                      obtain ⟨ok2, okp, hN2, hF2, hp2, hfr, hbw, hsz2, hnext⟩ := FS.append rfl HR1.out.2 HR1.out.1 HR2.out.2 HR2.out.1 HS44.out
                      refine Kd.N_append_rows_step k38 (w0 := y44) (w.heap.size + 1) (by rfl) (.tmp 45) (.tmp 47) 27 38 (.agg #[(.int .i64 0), (.slice none 0 0), (.slice none 0 0), (.bool false)]) 64 rfl Try.underlying27 info38 rfl (by decide) (by omega) u43 (dropC (⟨a1_0, l1_1, l1_2, a1_3⟩ : S38) l0) [(⟨a1_0, l1_1, l1_2, a1_3⟩ : S38)] (some ⟨b44, 0, none⟩) 1 1 ok2 okp rfl rfl hN2 hF2 hp2 hfr (Below.refl _ _) hsz2 (by have := HLEN.out; omega) ?_
                      intro u45 y45 hN3 _ hg3 _
                      have HS45 := Aside0.mk (hnext u45 y45 hN3 hg3)
                      clear hN2 hF2 hp2 hfr hbw hsz2 hnext hN3 hg3
                      refine hK.out _ _ ⟨(blk_cell HS45.out.hX 0).trans rfl, (blk_cell HS45.out.hX 1).trans rfl, (blk_cell HS45.out.hX 2).trans rfl, (blk_cell HS45.out.hX 3).trans rfl⟩ (fun hHeld => ?_)
                      clear hK K
                      refine norm_ (a' := ?_) ?_ ?_
                      rotate_left
                      · show Act.put _ (some 48) _ = _
                        simp only [Act.put, List.setIfInBounds_toArray, List.set_cons_zero, List.set_cons_succ, i64_w, i32_w]
                        rfl
                      exact norm_ (by simp only [putAll, Act.put, List.setIfInBounds_toArray, List.set_cons_zero, List.set_cons_succ]) (hCont (u42, u43, b44, u45, b41) _ ⟨hHeld, HS45.out⟩)
                    · skip
                      refine value_ (v := .slice (some ⟨y42.heap.size, 0, none⟩) 1 1) (w1 := y42.alloc (.cells #[.int .i64 a1_0, .slice A1_1 l1_1.length c1_1, .slice A1_2 l1_2.length c1_2, .bool a1_3] 38 (0, 0))) (by rfl) rfl (by first | (go_simp; done) | (go_simp; rfl)) ?_
                      obtain ⟨y46, hy⟩ : ∃ y_, y_ = y42.alloc (.cells #[.int .i64 a1_0, .slice A1_1 l1_1.length c1_1, .slice A1_2 l1_2.length c1_2, .bool a1_3] 38 (0, 0)) := ⟨_, rfl⟩
                      obtain ⟨b46, hbn⟩ : ∃ b_, b_ = y42.heap.size := ⟨_, rfl⟩
                      have hS := FS.build HS42.out
                      rw [← hy, ← hbn] at hS
                      rw [← hy, ← hbn]
                      have HS46 := Aside0.mk hS
                      clear hS hy hbn
                      refine hK.out _ _ ⟨(blk_cell HS46.out.hX 0).trans rfl, (blk_cell HS46.out.hX 1).trans rfl, (blk_cell HS46.out.hX 2).trans rfl, (blk_cell HS46.out.hX 3).trans rfl⟩ (fun hHeld => ?_)
                      clear hK K
                      refine norm_ (a' := ?_) ?_ ?_
                      rotate_left
                      · show Act.put _ (some 47) _ = _
                        simp only [Act.put, List.setIfInBounds_toArray, List.set_cons_zero, List.set_cons_succ, i64_w, i32_w]
                        rfl
                      refine one_ (i := 3) (N := some 45) #[true, true, true, true, true, true, false, true, false] rfl rfl (by kernel_rfl) (by decide) (fun K hK => ?_)
                      refine goes_ Try.func42 (by kernel_rfl) rfl #[u42, .func (.func 43) #[] #[.pointer (some ⟨w.heap.size, 0, none⟩)]] (by rfl) rfl rfl (by (try simp only [List.map_toArray, List.map_cons, List.map_nil]); first | done | rfl) ?_
                      refine (FS.del rfl HR1.out.2 HR1.out.1 HR2.out.2 HR2.out.1 HS46.out).mono ?_
                      rintro e y47 ⟨u47, rfl, hS⟩
                      have HS47 := Aside0.mk hS
                      clear hS
                      refine ⟨_, rfl, ?_⟩
                      refine hK.out _ _ ⟨(blk_cell HS47.out.hX 0).trans rfl, (blk_cell HS47.out.hX 1).trans rfl, (blk_cell HS47.out.hX 2).trans rfl, (blk_cell HS47.out.hX 3).trans rfl⟩ (fun hHeld => ?_)
                      clear hK K
                      refine norm_ (a' := ?_) ?_ ?_
                      rotate_left
                      · show Act.put _ (some 45) _ = _
                        simp only [Act.put, List.setIfInBounds_toArray, List.set_cons_zero, List.set_cons_succ, i64_w, i32_w]
                        rfl
                      refine one_ (i := 6) (N := some 48) #[true, true, true, true, true, true, true, true, false] rfl rfl (by kernel_rfl) (by decide) (fun K hK => ?_)
                      obtain ⟨ok2, okp, hN2, hF2, hp2, hfr, hbw, hsz2, hnext⟩ := FS.append rfl HR1.out.2 HR1.out.1 HR2.out.2 HR2.out.1 HS47.out
                      refine Kd.N_append_rows_step k38 (w0 := y47) (w.heap.size + 1) (by rfl) (.tmp 45) (.tmp 47) 27 38 (.agg #[(.int .i64 0), (.slice none 0 0), (.slice none 0 0), (.bool false)]) 64 rfl Try.underlying27 info38 rfl (by decide) (by omega) u47 (dropC (⟨a1_0, l1_1, l1_2, a1_3⟩ : S38) l0) [(⟨a1_0, l1_1, l1_2, a1_3⟩ : S38)] (some ⟨b46, 0, none⟩) 1 1 ok2 okp rfl rfl hN2 hF2 hp2 hfr (Below.refl _ _) hsz2 (by have := HLEN.out; omega) ?_
                      intro u48 y48 hN3 _ hg3 _
                      have HS48 := Aside0.mk (hnext u48 y48 hN3 hg3)
                      clear hN2 hF2 hp2 hfr hbw hsz2 hnext hN3 hg3
                      refine hK.out _ _ ⟨(blk_cell HS48.out.hX 0).trans rfl, (blk_cell HS48.out.hX 1).trans rfl, (blk_cell HS48.out.hX 2).trans rfl, (blk_cell HS48.out.hX 3).trans rfl⟩ (fun hHeld => ?_)
                      clear hK K
                      refine norm_ (a' := ?_) ?_ ?_
                      rotate_left
                      · show Act.put _ (some 48) _ = _
                        simp only [Act.put, List.setIfInBounds_toArray, List.set_cons_zero, List.set_cons_succ, i64_w, i32_w]
                        rfl
                      exact norm_ (by simp only [putAll, Act.put, List.setIfInBounds_toArray, List.set_cons_zero, List.set_cons_succ]) (hCont (u42, u47, b46, u48, b41) _ ⟨hHeld, HS48.out⟩)
                  · skip
                    refine value_ (v := .slice (some ⟨y41.heap.size, 0, none⟩) 1 1) (w1 := y41.alloc (.cells #[.int .i64 a1_0, .slice A1_1 l1_1.length c1_1, .slice A1_2 l1_2.length c1_2, .bool a1_3] 38 (0, 0))) (by rfl) rfl (by first | (go_simp; done) | (go_simp; rfl)) ?_
                    obtain ⟨y49, hy⟩ : ∃ y_, y_ = y41.alloc (.cells #[.int .i64 a1_0, .slice A1_1 l1_1.length c1_1, .slice A1_2 l1_2.length c1_2, .bool a1_3] 38 (0, 0)) := ⟨_, rfl⟩
                    obtain ⟨b49, hbn⟩ : ∃ b_, b_ = y41.heap.size := ⟨_, rfl⟩
                    have hS := FS.build HS41.out
                    rw [← hy, ← hbn] at hS
                    rw [← hy, ← hbn]
                    have HS49 := Aside0.mk hS
                    clear hS hy hbn
                    refine hK.out _ _ ⟨(blk_cell HS49.out.hX 0).trans rfl, (blk_cell HS49.out.hX 1).trans rfl, (blk_cell HS49.out.hX 2).trans rfl, (blk_cell HS49.out.hX 3).trans rfl⟩ (fun hHeld => ?_)
                    clear hK K
                    refine norm_ (a' := ?_) ?_ ?_
                    rotate_left
                    · show Act.put _ (some 47) _ = _
                      simp only [Act.put, List.setIfInBounds_toArray, List.set_cons_zero, List.set_cons_succ, i64_w, i32_w]
                      rfl
                    refine one_ (i := 1) (N := some 43) #[true, true, true, false, true, true, false, true, false] rfl rfl (by kernel_rfl) (by decide) (fun K hK => ?_)
                    refine goes_ Try.func18 (by kernel_rfl) rfl #[.slice A0 l0.length c0] (by rfl) rfl rfl (by (try simp only [List.map_toArray, List.map_cons, List.map_nil]); first | done | rfl) ?_
                    refine (FS.cloneCall rfl (by omega) HF0.out HS49.out).mono ?_
                    rintro e y50 ⟨u50, rfl, hS⟩
                    have HS50 := Aside0.mk hS
                    clear hS
                    refine ⟨_, rfl, ?_⟩
                    refine hK.out _ _ ⟨(blk_cell HS50.out.hX 0).trans rfl, (blk_cell HS50.out.hX 1).trans rfl, (blk_cell HS50.out.hX 2).trans rfl, (blk_cell HS50.out.hX 3).trans rfl⟩ (fun hHeld => ?_)
                    clear hK K
                    refine norm_ (a' := ?_) ?_ ?_
                    rotate_left
                    · show Act.put _ (some 43) _ = _
                      simp only [Act.put, List.setIfInBounds_toArray, List.set_cons_zero, List.set_cons_succ, i64_w, i32_w]
                      rfl
                    refine one_ (i := 3) (N := some 45) #[true, true, true, true, true, true, false, true, false] rfl rfl (by kernel_rfl) (by decide) (fun K hK => ?_)
                    refine goes_ Try.func42 (by kernel_rfl) rfl #[u50, .func (.func 43) #[] #[.pointer (some ⟨w.heap.size, 0, none⟩)]] (by rfl) rfl rfl (by (try simp only [List.map_toArray, List.map_cons, List.map_nil]); first | done | rfl) ?_
                    refine (FS.del rfl HR1.out.2 HR1.out.1 HR2.out.2 HR2.out.1 HS50.out).mono ?_
                    rintro e y51 ⟨u51, rfl, hS⟩
                    have HS51 := Aside0.mk hS
                    clear hS
                    refine ⟨_, rfl, ?_⟩
                    refine hK.out _ _ ⟨(blk_cell HS51.out.hX 0).trans rfl, (blk_cell HS51.out.hX 1).trans rfl, (blk_cell HS51.out.hX 2).trans rfl, (blk_cell HS51.out.hX 3).trans rfl⟩ (fun hHeld => ?_)
                    clear hK K
                    refine norm_ (a' := ?_) ?_ ?_
                    rotate_left
                    · show Act.put _ (some 45) _ = _
                      simp only [Act.put, List.setIfInBounds_toArray, List.set_cons_zero, List.set_cons_succ, i64_w, i32_w]
                      rfl
                    refine one_ (i := 6) (N := some 48) #[true, true, true, true, true, true, true, true, false] rfl rfl (by kernel_rfl) (by decide) (fun K hK => ?_)
                    obtain ⟨ok2, okp, hN2, hF2, hp2, hfr, hbw, hsz2, hnext⟩ := FS.append rfl HR1.out.2 HR1.out.1 HR2.out.2 HR2.out.1 HS51.out
                    refine Kd.N_append_rows_step k38 (w0 := y51) (w.heap.size + 1) (by rfl) (.tmp 45) (.tmp 47) 27 38 (.agg #[(.int .i64 0), (.slice none 0 0), (.slice none 0 0), (.bool false)]) 64 rfl Try.underlying27 info38 rfl (by decide) (by omega) u51 (dropC (⟨a1_0, l1_1, l1_2, a1_3⟩ : S38) l0) [(⟨a1_0, l1_1, l1_2, a1_3⟩ : S38)] (some ⟨b49, 0, none⟩) 1 1 ok2 okp rfl rfl hN2 hF2 hp2 hfr (Below.refl _ _) hsz2 (by have := HLEN.out; omega) ?_
                    intro u52 y52 hN3 _ hg3 _
                    have HS52 := Aside0.mk (hnext u52 y52 hN3 hg3)
                    clear hN2 hF2 hp2 hfr hbw hsz2 hnext hN3 hg3
                    refine hK.out _ _ ⟨(blk_cell HS52.out.hX 0).trans rfl, (blk_cell HS52.out.hX 1).trans rfl, (blk_cell HS52.out.hX 2).trans rfl, (blk_cell HS52.out.hX 3).trans rfl⟩ (fun hHeld => ?_)
                    clear hK K
                    refine norm_ (a' := ?_) ?_ ?_
                    rotate_left
                    · show Act.put _ (some 48) _ = _
                      simp only [Act.put, List.setIfInBounds_toArray, List.set_cons_zero, List.set_cons_succ, i64_w, i32_w]
                      rfl
                    exact norm_ (by simp only [putAll, Act.put, List.setIfInBounds_toArray, List.set_cons_zero, List.set_cons_succ]) (hCont (u50, u51, b49, u52, b41) _ ⟨hHeld, HS52.out⟩)
              rintro ⟨v43, v45, gb, v48, q⟩ W6 ⟨hHeld, hS⟩
              have hl6a : (dropC (⟨a1_0, l1_1, l1_2, a1_3⟩ : S38) l0 ++ [(⟨a1_0, l1_1, l1_2, a1_3⟩ : S38)]).length < 2199023255552 ∧ (dropC (⟨a1_0, l1_1, l1_2, a1_3⟩ : S38) l0 ++ [(⟨a1_0, l1_1, l1_2, a1_3⟩ : S38)]).all okSp = true := by
                have h1 := HLEN.out
                refine ⟨by rw [List.length_append, List.length_singleton]; omega, ?_⟩
                rw [List.all_append, List.all_cons, List.all_nil, HOK.out.2, Bool.and_true, Bool.and_true, List.all_eq_true]
                exact fun y hy => List.all_eq_true.1 HOK.out.1 y (List.mem_filter.1 (show y ∈ l0.filter _ from hy)).1
              obtain ⟨l6, hl6⟩ : ∃ l6, l6 = dropC (⟨a1_0, l1_1, l1_2, a1_3⟩ : S38) l0 ++ [(⟨a1_0, l1_1, l1_2, a1_3⟩ : S38)] := ⟨_, rfl⟩
              simp only at hS
              rw [← hl6] at hS HADD hl6a
              have HL6 := Aside0.mk hl6a
              obtain ⟨ok6, hN6, hr6⟩ := hS.hv v48 l6 rfl
              obtain ⟨A8, c8, rfl⟩ := Kd.V_slice (Kd.N_V (base' := 0) hN6)
              clear hl6a hl6 hN6 hr6 ok6 HLEN
              have HS6 := Aside0.mk hS
              obtain ⟨hq6, hsq6⟩ := hS.hq q rfl
              have hc6 := (blk_cell hq6 0).trans rfl
              have hf6 := blk_frozen hq6 0
              clear hS hHeld hq6
              refine norm_ (a' := ?_) ?_ ?_
              rotate_left
              · simp only [putAll, Act.put, List.setIfInBounds_toArray, List.set_cons_zero, List.set_cons_succ]
                rfl
              refine last_ (i := 8) (N := none) #[true, true, true, true, true, true, true, true, true] rfl rfl (by kernel_rfl) (by decide) (fun K hK => ?_)
              refine skip_ (w1 := ?_) (by rfl) rfl ?_ ?_
              rotate_left
              · go_simp
                rfl
              refine hK.out _ _ ?_
              clear hK K
              refine done_ (by kernel_rfl) ⟨(fun _ h => by cases h), ?_⟩
              obtain ⟨W7, hW7⟩ : ∃ W7, W7 = W6.setCell ⟨q, 0, none⟩ (.slice A8 l6.length c8) := ⟨_, rfl⟩
              have hA7 := AS.of_FS HS6.out
              rw [← hW7] at hA7 ⊢
              have HA7 := Aside0.mk hA7
              obtain ⟨M, hM⟩ : ∃ M, M = W6.heap.size := ⟨_, rfl⟩
              rw [← hM] at HA7
              clear hA7 hW7 hM HS6 hc6 hf6 hsq6
              clear HOWN HW2 HEM HOV HF0 HR0 HR1 HR2 HOK HWA HBX HXX HWX HB1 HX1 HB2 HX2 HB3 HX3 HB4 HX4 HS0 he33
              go_wp2_with fail
              refine wp_label ?_
              have hc9 := (blk_cell HA7.out.hq 0).trans rfl
              go_wp2_with fail
              go_loopw [10, 51] (fun s10 s51 wr => ∃ k : Nat, k ≤ l6.length ∧ s51 = .int .i64 k ∧ Aside0 (AS w.heap.size M w #[.int .i64 a1_0, .slice A1_1 l1_1.length c1_1, .slice A1_2 l1_2.length c1_2, .bool a1_3] q (.slice A8 l6.length c8) l6 wr) ∧ Aside0 (Kd.R (Kd.int .i64) 3 wr M (fun k_ => M ≤ k_) s10 ((placesOf a1_0 (l6.take k) 0).map Int.ofNat))) (fun _ s51 _ => l6.length - (intOf s51).toNat)
              case atStart => exact ⟨0, Nat.zero_le _, rfl, HA7, ⟨Kd.R_nil _ _ _ _ _⟩⟩
              case round =>
                obtain ⟨k, hk, rfl, HAr, HRr⟩ := hrel
                obtain ⟨Ap, cp, rfl⟩ := Kd.R_slice HRr.out
                rw [List.length_map] at HRr ⊢
                clear hc9
                by_cases hlt : k < l6.length
                · obtain ⟨y, hy⟩ : ∃ y, l6[k]? = some y := ⟨_, List.getElem?_eq_getElem hlt⟩
                  obtain ⟨ad, B1, d1, B2, d2, e8, hx0, hx1, hx2, hx3, hl1, hi1, hl2, hi2⟩ := at_T38 HAr.out.C'.2.2 (k : Int) (by omega) (by omega)
                  have hrd : rd_T38 l6 (k : Int) = y := by unfold rd_T38; rw [Int.toNat_natCast, List.getD_eq_getElem?_getD, hy]; rfl
                  rw [hrd] at hx0 hx1 hx2 hx3
                  rw [Int.toNat_natCast] at hx0 hx1 hx2 hx3
                  subst e8
                  have HY := Aside0.mk hy
                  have HSN := Aside0.mk (places_snoc (t := a1_0) hy)
                  have hq0 : ∀ o, (wr.alloc o).cell? ⟨w.heap.size, 0, none⟩ = some (.int .i64 a1_0) := fun o => (World.cell?_alloc_lt wr o _ (blk_lt HAr.out.hX)).trans ((blk_cell HAr.out.hX 0).trans rfl)
                  have HAy := fun o => Aside0.mk (HAr.out.below (below_alloc (Below.refl wr.heap.size wr) o))
                  have HRy := fun o => Aside0.mk (Kd.R_alloc HRr.out o)
                  have hMr : M ≤ wr.heap.size := HAr.out.hsq.2.2
                  have hplen := placesOf_len a1_0 (l6.take k) 0
                  have hl6 := HL6.out.1
                  rw [List.length_take] at hplen
                  clear hl1 hi1 hl2 hi2 hrd hy
                  by_cases hyt : y.f0 = a1_0
                  · rw [if_pos hyt] at HSN
                    have hne : (y.f0 != a1_0) = false := by rw [hyt]; simp
                    have HYT := Aside0.mk hyt
                    clear hyt
                    go_wp2_with ((with_reducible refine gate_dst (N := 64) rfl ?_); (suffices hsuf : Aside0 _ from hsuf.out))
                    refine ⟨?_⟩
                    obtain ⟨Wy, hWy⟩ : ∃ Wy, Wy = wr.alloc (.cells #[.int .i64 y.f0, .slice B1 y.f1.length d1, .slice B2 y.f2.length d2, .bool y.f3] 38 (0, 0)) := ⟨_, rfl⟩
                    have hsy : Wy.heap.size = wr.heap.size + 1 := (by rw [hWy]; simp)
                    have HAw : Aside0 (AS w.heap.size M w #[.int .i64 a1_0, .slice A1_1 l1_1.length c1_1, .slice A1_2 l1_2.length c1_2, .bool a1_3] q (.slice (some ad) l6.length c8) l6 Wy) := (by rw [hWy]; exact HAy _)
                    have HRw : Aside0 (Kd.R (Kd.int .i64) 3 Wy M (fun k_ => M ≤ k_) (.slice Ap (placesOf a1_0 (l6.take k) 0).length cp) ((placesOf a1_0 (l6.take k) 0).map Int.ofNat)) := (by rw [hWy]; exact HRy _)
                    rw [← hWy]
                    refine Kd.R_append (Kd.int .i64) (w0 := Wy) M rfl (.tmp 61) (.tmp 63) 51 3 (.int .i64 0) 8 rfl Try.underlying51 info3 rfl (by decide) (by decide) (.slice Ap (placesOf a1_0 (l6.take k) 0).length cp) ((placesOf a1_0 (l6.take k) 0).map Int.ofNat) (k : Int) [.int .i64 k] (fun k_ => M ≤ k_) (fun _ => False) rfl (by rw [hsy]; rfl) rfl (fun _ hk => hk.elim) (fun _ _ => by omega) HRw.out (Below.refl _ _) (by omega) (by rw [List.length_map]; omega) ?_
                    intro v1 w1 hR1 hb1 hg1 hat1
                    have HR1w := Aside0.mk hR1
                    have HA1w := Aside0.mk (HAw.out.grown hg1 (fun b hb => Kd.R_base HRw.out b hb))
                    clear hR1 hb1 hg1 hat1 hsy HAw HRw
                    go_wp2_with fail
                    go_roundw
                    case rel => exact ⟨k + 1, hlt, by go_num, HA1w, ⟨by rw [HSN.out, List.map_append]; exact HR1w.out⟩⟩
                    case measure => simp [intOf]; omega
                  · rw [if_neg hyt, List.append_nil] at HSN
                    have hne : (y.f0 != a1_0) = true := bne_iff_ne.2 hyt
                    clear hyt
                    go_wp2_with fail
                    go_roundw
                    case rel => exact ⟨k + 1, hlt, by go_num, ⟨(HAy _).out⟩, ⟨by rw [HSN.out]; exact (HRy _).out⟩⟩
                    case measure => simp [intOf]; omega
                · obtain rfl : k = l6.length := by omega
                  rw [List.take_length] at HRr ⊢
                  clear hk hlt
                  have hl6 := HL6.out.1
                  have hc9 := (blk_cell HAr.out.hq 0).trans rfl
                  by_cases hgt : a2 < ((placesOf a1_0 l6 0).length : Int)
                  · skip
                    cases hpl : placesOf a1_0 l6 0 with
                    | nil => rw [hpl] at hgt; simp at hgt; omega
                    | cons p0 rest =>
                      rw [hpl] at HRr hgt
                      have hp0 := (placesOf_lt a1_0 l6 0 0 p0 (by rw [hpl]; rfl)).2
                      rw [hpl] at hp0
                      have HPL := Aside0.mk hpl
                      have hres : r1 = mergeL a1_0 l6 ∧ r2 = 0 := by have h2 := HADD.out; rw [HPL.out, if_pos hgt] at h2; simp at h2; exact ⟨h2.1.symm, h2.2.symm⟩
                      obtain ⟨rfl, rfl⟩ := hres
                      clear HADD hpl
                      obtain ⟨n0, hn0⟩ : ∃ n0, n0 = (p0 :: rest).length := ⟨_, rfl⟩
                      have hn1 : n0 = rest.length + 1 := by rw [hn0]; rfl
                      rw [← hn0] at HRr hgt hp0 ⊢
                      obtain ⟨gp, rfl, hncp⟩ : ∃ gp, Ap = some ⟨gp, 0, none⟩ ∧ n0 ≤ cp := by
                        obtain ⟨_, inner, hown, _⟩ := HRr.out
                        rcases hown.2 with ⟨hv, _⟩ | ⟨g', cap', cur', hv, _, _, hle, _⟩
                        · injection hv with h1 h2 h3
                          omega
                        · injection hv with h1 h2 h3
                          exact ⟨g', h1, (by rw [List.length_map] at hle; omega)⟩
                      have hgpc : wr.cell? ⟨gp, 0, none⟩ = some (.int .i64 p0) := by
                        obtain ⟨ad, he, hc⟩ := int_at (i := 0) (z := (p0 : Int)) (Kd.R_reads' HRr.out).2.2 rfl
                        cases he
                        rwa [add_plain] at hc
                      have hs0 := (blk_cell HAr.out.hX 0).trans rfl
                      obtain ⟨B, rfl⟩ : ∃ B, A8 = some ⟨B, 0, none⟩ := by
                        obtain ⟨ok_, hN_, _⟩ := HAr.out.hv
                        rcases N_open hN_ with ⟨hv, hnil⟩ | ⟨B, cap', cur', hv, _⟩
                        · rw [hnil] at hp0; simp at hp0; omega
                        · injection hv with h1 _ _
                          exact ⟨B, h1⟩
                      have hpl6 : p0 < l6.length := by omega
                      have hp1 : (0 ≤ (p0 : Int)) = True := eq_true (by omega)
                      have hp2 : ((p0 : Int) < (l6.length : Int)) = True := eq_true (by omega)
                      have hp3 : ((0 : Int) < (n0 : Int)) = True := eq_true (by omega)
                      have hp4 : (0 < n0) = True := eq_true (by omega)
                      have hp5 : (p0 < l6.length) = True := eq_true (by omega)
                      have hc8 := HAr.out.C'.2.1
                      have HSZ := Aside0.mk (And.intro hpl6 (And.intro hn1 (And.intro hncp hl6)))
                      clear hn0 hn1 hp0
                      go_wp2_with fail
                      refine wp_np ?_
                      refine start_ (n := 9) (S := fun w' => w'.cell? ⟨q, 0, none⟩ = some (.slice (some ⟨B, 0, none⟩) l6.length c8) ∧ w'.cell? ⟨w.heap.size, 0, none⟩ = some (.int .i64 a1_0) ∧ w'.cell? ⟨gp, 0, none⟩ = some (.int .i64 p0)) (ds := [8]) #[false, false, false, false, false, false, false, false, false] (by kernel_rfl) rfl rfl ⟨hc9, hs0, hgpc⟩ (fun hHeld => ?_)
                      have HAz := Aside0.mk (HAr.out.below (below_drew1 (Below.refl wr.heap.size wr)))
                      have HRz := Aside0.mk (Kd.R_drew HRr.out)
                      clear hc9 hs0 hgpc HAr HRr hgt
                      generalize wr.drew = z0 at HAz HRz hHeld ⊢
                      refine take_ (i := 0) (N := some 70) (v := ?_) (a' := ?_) #[true, false, false, false, false, false, false, false, false] rfl rfl (by kernel_rfl) (fun _ _ _ h => absurd rfl (h.1 _)) (Or.inl ⟨by rfl, ?_⟩) hHeld ?_ ?_
                      rotate_left
                      · rintro w' ⟨s0, s1, s2⟩
                        go_simp
                        with_reducible rfl
                      rotate_left
                      · simp only [Act.put, List.setIfInBounds_toArray, List.set_cons_zero, List.set_cons_succ, i64_w, i32_w]
                        rfl
                      refine pure_ (i := 1) (N := some 71) (v := ?_) (a' := ?_) #[true, true, false, false, false, false, false, false, false] rfl rfl (by kernel_rfl) (fun _ _ _ h => absurd rfl (h.1 _)) (Or.inl ⟨by rfl, ?_⟩) ?_ ?_
                      rotate_left
                      · intro w'
                        go_simp
                        with_reducible rfl
                      rotate_left
                      · simp only [Act.put, List.setIfInBounds_toArray, List.set_cons_zero, List.set_cons_succ, i64_w, i32_w]
                        rfl
                      refine pure_ (i := 2) (N := some 72) (v := ?_) (a' := ?_) #[true, true, true, false, false, false, false, false, false] rfl rfl (by kernel_rfl) (fun _ _ _ h => absurd rfl (h.1 _)) (Or.inl ⟨by rfl, ?_⟩) ?_ ?_
                      rotate_left
                      · intro w'
                        go_simp
                        with_reducible rfl
                      rotate_left
                      · simp only [Act.put, List.setIfInBounds_toArray, List.set_cons_zero, List.set_cons_succ, i64_w, i32_w]
                        rfl
                      refine take_ (i := 3) (N := some 73) (v := ?_) (a' := ?_) #[true, true, true, true, false, false, false, false, false] rfl rfl (by kernel_rfl) (fun _ _ _ h => absurd rfl (h.1 _)) (Or.inl ⟨by rfl, ?_⟩) hHeld ?_ ?_
                      rotate_left
                      · rintro w' ⟨s0, s1, s2⟩
                        go_simp
                        with_reducible rfl
                      rotate_left
                      · simp only [Act.put, List.setIfInBounds_toArray, List.set_cons_zero, List.set_cons_succ, i64_w, i32_w]
                        rfl
                      refine pure_ (i := 4) (N := some 74) (v := ?_) (a' := ?_) #[true, true, true, true, true, false, false, false, false] rfl rfl (by kernel_rfl) (fun _ _ _ h => absurd rfl (h.1 _)) (Or.inl ⟨by rfl, ?_⟩) ?_ ?_
                      rotate_left
                      · intro w'
                        go_simp
                        with_reducible rfl
                      rotate_left
                      · simp only [Act.put, List.setIfInBounds_toArray, List.set_cons_zero, List.set_cons_succ, i64_w, i32_w]
                        rfl
                      refine take_ (i := 5) (N := some 75) (v := ?_) (a' := ?_) #[true, true, true, true, true, true, false, false, false] rfl rfl (by kernel_rfl) (fun _ _ _ h => absurd rfl (h.1 _)) (Or.inl ⟨by rfl, ?_⟩) hHeld ?_ ?_
                      rotate_left
                      · rintro w' ⟨s0, s1, s2⟩
                        go_simp
                        with_reducible rfl
                      rotate_left
                      · simp only [Act.put, List.setIfInBounds_toArray, List.set_cons_zero, List.set_cons_succ, i64_w, i32_w]
                        rfl
                      refine one_ (i := 6) (N := some 76) #[true, true, true, true, true, true, true, false, false] rfl rfl (by kernel_rfl) (by decide) (fun K hK => ?_)
                      refine goes_ Try.func44 (by kernel_rfl) rfl #[.int .i64 a1_0] (by rfl) rfl rfl (by (try simp only [List.map_toArray, List.map_cons, List.map_nil]); first | done | rfl) ?_
                      refine (span_All.calls a1_0 a1_0 [] [] true z0 rfl).mono ?_
                      rintro e z1 ⟨v1_, v2_, rfl, hRa, hRb, hbz⟩
                      obtain ⟨Aa, ca, rfl⟩ := Kd.R_slice hRa
                      obtain ⟨Ab, cb, rfl⟩ := Kd.R_slice hRb
                      have HAz1 := Aside0.mk (HAz.out.below hbz)
                      have HRz1 := Aside0.mk (Kd.R_below HRz.out hbz)
                      clear hRa hRb hbz
                      refine ⟨_, rfl, ?_⟩
                      have hgp1 : z1.cell? ⟨gp, 0, none⟩ = some (.int .i64 p0) := (by obtain ⟨ad, he, hc⟩ := int_at (i := 0) (z := (p0 : Int)) (Kd.R_reads' HRz1.out).2.2 rfl; cases he; rwa [add_plain] at hc)
                      refine hK.out _ _ ⟨(blk_cell HAz1.out.hq 0).trans rfl, (blk_cell HAz1.out.hX 0).trans rfl, hgp1⟩ (fun hHeld => ?_)
                      clear hgp1
                      clear hK K
                      refine norm_ (a' := ?_) ?_ ?_
                      rotate_left
                      · show Act.put _ (some 76) _ = _
                        simp only [Act.put, List.setIfInBounds_toArray, List.set_cons_zero, List.set_cons_succ, i64_w, i32_w]
                        rfl
                      refine pure_ (i := 7) (N := some 77) (v := ?_) (a' := ?_) #[true, true, true, true, true, true, true, true, false] rfl rfl (by kernel_rfl) (fun _ _ _ h => absurd rfl (h.1 _)) (Or.inl ⟨by rfl, ?_⟩) ?_ ?_
                      rotate_left
                      · intro w'
                        go_simp
                        with_reducible rfl
                      rotate_left
                      · simp only [Act.put, List.setIfInBounds_toArray, List.set_cons_zero, List.set_cons_succ, i64_w, i32_w]
                        rfl
                      refine last_ (i := 8) (N := none) #[true, true, true, true, true, true, true, true, true] rfl rfl (by kernel_rfl) (by decide) (fun K hK => ?_)
                      obtain ⟨okz, hNz, hlow, hset⟩ := HAz1.out.set
                      have hoB := HAz1.out.own_lt B rfl
                      obtain ⟨i9, hi9, _, hsz9, _⟩ := info_parts info38
                      rcases N_open hNz with ⟨hv, _⟩ | ⟨B', cap', cur, hv, _, _, hcur, hcl, _, hcs, hE⟩
                      · cases hv
                      injection hv with h1 h2 h3
                      injection h1 with h1
                      injection h1 with h1
                      subst h1 h3
                      clear h2
                      have hcs' : cur.length = c8 * 4 := hcs
                      have hcell : ∀ j u, ((cur.drop (p0 * 4)).take 4)[j]? = some u → z1.cell? ⟨B, (p0 : Int).toNat * 4 + j, none⟩ = some u := by
                        intro j u hu
                        have hq4 : j < 4 := by have := (List.getElem?_eq_some_iff.1 hu).1; rw [List.length_take] at this; omega
                        rw [blk_cell hcur, Int.toNat_natCast, ← hu, ← chunk_at hq4]
                        simp
                      have hchl : ((cur.drop (p0 * 4)).take 4).length = 4 := by rw [List.length_take, List.length_drop]; omega
                      have hFe : ∀ (A : Option Addr) (ok : Nat → Prop), Kd.F (Kd.int .u8) z1 ok A ([] : List Int).length ([] : List Int) := fun A ok W' _ => ⟨rfl, by simp, fun h => absurd h (by simp)⟩
                      refine N_store_step k38 (w.heap.size + 1) (by rfl) rfl _ _ _ rfl 38 (p0 : Int) 0 l6 (allSp a1_0) (.agg #[.int .i64 a1_0, .slice Aa ([] : List Int).length ca, .slice Ab ([] : List Int).length cb, .bool true]) [.int .i64 a1_0, .slice Aa ([] : List Int).length ca, .slice Ab ([] : List Int).length cb, .bool true] ((cur.drop (p0 * 4)).take 4) okz (fun k => okz k ∧ k ≠ B) (by rfl) (by show _ = (p0 : Int).toNat * 4 + 0; simp) (by rfl) rfl (by rw [hi9]; exact congrArg some hsz9) (by intro q_ hq_; simp at hq_; rcases hq_ with rfl | rfl | rfl | rfl <;> rfl) hNz (by omega) (by have := HSZ.out.1; omega) hchl hcell (Nat.le_refl 4) ?hM (fun k hk => hk) ?_
                      case hM => (show Kd.FK _ _ _ (allSp a1_0) ([] ++ _ ++ ((cur.drop (p0 * 4)).take 4).drop 4); rw [List.drop_eq_nil_of_le (by rw [hchl]; exact Nat.le_refl _)]; exact k38_mkF z1 _ (allSp a1_0) (Nat.zero_le _) (hFe _ _) (Nat.zero_le _) (hFe _ _))
                      intro z2 hN2 hg2
                      have HA2 := Aside0.mk (hset _ z2 hN2 hg2).1
                      have HR2z := Aside0.mk (Kd.R_grown HRz1.out hg2 (fun k hk e => by injection e with e; subst e; have := hk; omega))
                      rw [Int.toNat_natCast] at HA2
                      refine hK.out _ _ ?_
                      clear hK K hN2 hg2 hset hNz hE hcur hcell hchl hFe hcs hcs' hcl hi9 hsz9 hHeld hlow HAz1 HRz1 HAz HRz
                      refine done_ (by kernel_rfl) ⟨(fun _ h => by cases h), ?_⟩
                      obtain ⟨iI, hiI, _, hszI, _⟩ := info_parts info3
                      have hnn := HSZ.out.2.1
                      have hcut := cut_from (P := Try.prog) 51 3 .i64 Try.underlying51 hiI 1 hszI (some ⟨gp, 0, none⟩) n0 cp (1 : Int) (by omega) (by omega)
                      obtain ⟨Ab2, hAb⟩ : ∃ A_, A_ = (if cp = (1 : Int).toNat then (some ⟨gp, 0, none⟩ : Option Addr) else (some (⟨gp, 0, none⟩ : Addr)).map (·.add ((1 : Int).toNat * 1))) := ⟨_, rfl⟩
                      obtain ⟨cb2, hcb⟩ : ∃ c_, c_ = cp - (1 : Int).toNat := ⟨_, rfl⟩
                      have hn2 : n0 - (1 : Int).toNat = rest.length := by show n0 - 1 = _; omega
                      rw [← hAb, ← hcb, hn2] at hcut
                      have HFP := Aside0.mk (show Kd.F (Kd.int .i64) z2 (fun k => M ≤ k) Ab2 (rest.map Int.ofNat).length (rest.map Int.ofNat) by
                        have h1 := Kd.R_F HR2z.out
                        rw [show n0 = ((p0 :: rest).map Int.ofNat).length by rw [List.length_map]; exact HSZ.out.2.1] at h1
                        have h2 := Kd.F_cut (m := 1) (c := cp) h1 (by rw [List.length_map, List.length_cons]; omega) (by rw [List.length_map, List.length_cons]; have := HSZ.out; omega)
                        rw [hAb]
                        exact h2)
                      have hMz := HA2.out.hsq.2.2
                      have hMq := HA2.out.hsq.2.1
                      obtain ⟨z3, hz3⟩ : ∃ z3, z3 = z2.alloc (.cells #[.slice Ab2 rest.length cb2] 51 (0, 0)) := ⟨_, rfl⟩
                      obtain ⟨gb2, hgb2⟩ : ∃ g_, g_ = z2.heap.size := ⟨_, rfl⟩
                      have hz3s : z3.heap.size = gb2 + 1 := by rw [hz3, hgb2]; simp
                      have HB3 := Aside0.mk (show z3.heap[gb2]? = some (.cells #[.slice Ab2 (rest.map Int.ofNat).length cb2] 51 (0, 0)) by rw [hz3, hgb2, List.length_map]; exact heap_alloc_new _ _)
                      have HA3 := Aside0.mk (show AS w.heap.size M w #[.int .i64 a1_0, .slice A1_1 l1_1.length c1_1, .slice A1_2 l1_2.length c1_2, .bool a1_3] q (.slice (some ⟨B, 0, none⟩) l6.length c8) (l6.set p0 (allSp a1_0)) z3 by rw [hz3]; exact HA2.out.below (below_alloc (Below.refl _ _) _))
                      have HF3 := Aside0.mk (show Kd.F (Kd.int .i64) z3 (fun k => M ≤ k ∧ k < z3.heap.size) Ab2 (rest.map Int.ofNat).length (rest.map Int.ofNat) by rw [hz3]; exact Kd.F_bound (Kd.F_step HFP.out (fun k _ hk => Below.heap_alloc _ _ _ hk)))
                      have HZ3 := Aside0.mk (And.intro hz3 hgb2)
                      have HZS := Aside0.mk hz3s
                      clear hAb hcb hn2 hnn hz3 hz3s hgb2 hiI hszI HFP HA2 HR2z
                      go_wp2_with ((with_reducible refine gate_dst (N := 79) rfl ?_); (suffices hsuf : Aside0 _ from hsuf.out))
                      refine ⟨wpList_cut rfl rfl 51 3 Try.underlying51 _ _ rfl (.slice (some ⟨gp, 0, none⟩) n0 cp) (.int .i64 1) (.slice Ab2 rest.length cb2) rfl rfl hcut ?_⟩
                      simp only [Act.put, List.setIfInBounds_toArray, List.set_cons_zero, List.set_cons_succ]
                      go_wp2_with (go_at_call 45; refine (back_call _ _ _ _).mono ?_; rintro e z4 ⟨rfl, rfl⟩)
                      rw [← HZ3.out.2, ← HZ3.out.1]
                      refine (wpIn_wide (n := 6)).1 ?_
                      apply range_handed (F := Fence.wide) (n := 6) rfl (by decide) (gf := 51) (lb := #[.pointer (some ⟨gb2, 0, none⟩)]) (hFg := trivial) (eg := enters_of Try.func51 (by kernel_rfl) rfl) (encs := fun x : Int × Int => #[.int .i64 x.1, .int .i64 x.2]) (hps := fun _ => rfl) (S := fun xs => xs.map (·.2) = (rest.map Int.ofNat).reverse) (N := (rest.map Int.ofNat).length) (I := BS w.heap.size M z3.heap.size gb2 q w #[.int .i64 a1_0, .slice A1_1 l1_1.length c1_1, .slice A1_2 l1_2.length c1_2, .bool a1_3] (l6.set p0 (allSp a1_0)) Ab2 cb2 (rest.map Int.ofNat)) (G := fun x W => 0 ≤ x.2 ∧ ∀ A n c, W.heap[q]? = some (.cells #[.slice A n c] 27 (0, 0)) → x.2 < (n : Int))
                      case hassign =>
                        intro l x W K hK
                        gi_wp2
                        exact hK
                      case hg => simp [Act.eval]
                      case hIb => exact fun pre W l o' hl h => h.put o' hl
                      case hGb =>
                        intro x W l o' hl h
                        have hh_ := HA3.out.hsq
                        refine ⟨h.1, fun A n c hq => h.2 A n c ?_⟩
                        rw [World.putObj_heap_other (show q ≠ l by omega)] at hq
                        exact hq
                      case h0 =>
                        intro r
                        have hl1 : (l6.set p0 (allSp a1_0)).length = l6.length := List.length_set
                        have hz3s := HZS.out
                        have hz4_ := HZ3.out.2
                        have hz5_ := HA3.out.hsq
                        have hbb := fun o1 o2 => (below_alloc (below_alloc (Below.refl z3.heap.size z3) o1) o2)
                        refine ⟨⟨some ⟨B, 0, none⟩, c8, ?_⟩, blk_alloc (blk_alloc HB3.out _) _, Kd.F_alloc (Kd.F_alloc HF3.out _) _, by omega, by omega, by simp⟩
                        show AS w.heap.size M w #[.int .i64 a1_0, .slice A1_1 l1_1.length c1_1, .slice A1_2 l1_2.length c1_2, .bool a1_3] q (.slice (some ⟨B, 0, none⟩) (l6.set p0 (allSp a1_0)).length c8) (l6.set p0 (allSp a1_0)) ((z3.alloc _).alloc _)
                        rw [hl1]
                        exact HA3.out.below (hbb _ _)
                      case hit =>
                        intro l J W hJI hJ2 hY h0
                        refine back1_in l gb2 Ab2 cb2 (rest.map Int.ofNat) J (fun pre W h => ⟨(hJI pre W h).hB, Kd.F_now (hJI pre W h).hF⟩) (fun pre x W1 hJ _ hx hlt => hY pre x W1 hJ (BS.good HPL.out List.length_set (hJI pre W1 hJ) hx) hlt) (by have h1_ := placesOf_len a1_0 l6 0; rw [HPL.out, List.length_cons] at h1_; rw [List.length_map]; omega) W h0
                      case hdone =>
                        rintro D xs W hD hS ⟨⟨A, c, hA⟩, hB, hF, hN⟩ hK
                        subst hD
                        have hfin : delAll (l6.set p0 (allSp a1_0)) xs = mergeL a1_0 l6 := by rw [delAll_map _ xs rest.reverse (by rw [hS, List.map_reverse])]; exact merge_places a1_0 l6 [] p0 rest HPL.out
                        rw [hfin] at hA
                        have HO9 := Aside0.mk (span_own.calls A c (mergeL a1_0 l6) (mergeL a1_0 l6) W hA.C'.2.2 hA.C'.2.1 (by unfold span_own.f; rw [if_pos (by rw [mergeL_ok a1_0 l6 HL6.out.2, decide_eq_true (by have := mergeL_len a1_0 l6; omega)]; rfl)]))
                        have hcq := (blk_cell hA.hq 0).trans rfl
                        have HBw := Aside0.mk hA.hb
                        have HK := Aside0.mk hK
                        clear hA hB hF hfin hS hK
                        go_wp2_with (go_at_call 38; refine HO9.out.mono ?_; rintro e w9 ⟨vo, rfl, hV, hb⟩; have HB9 := Aside0.mk (below_step HBw.out hb); have HVO := Aside0.mk (Kd.V_lower (base' := w.heap.size) (Kd.V_mono (ok' := fun k => w.heap.size ≤ k ∧ k ≠ z3.heap.size) hV (fun k hk => ⟨Nat.le_trans HBw.out.size hk, by have := blk_lt HK.out; omega⟩)) HBw.out.size); have HK9 := Aside0.mk ((hb.block _ (blk_lt HK.out)).trans HK.out); clear hV hb)
                        rw [Exit.noGoto_ret]
                        refine ⟨by simp, .inl ⟨_, _, rfl, run_takeDeferred HK9.out, ?_⟩⟩
                        refine ⟨_, results_tmp2 rfl _ _ _, _, rfl, ?_, ?_⟩
                        · exact Kd.V_mono (Kd.V_step HVO.out (fun k hk _ => World.putObj_heap_other hk.2)) (fun k hk => hk.1)
                        · exact HB9.out.trans ((Below.refl _ _).grown (grownBy_putObj' _ z3.heap.size _) HB9.out.size (fun k e => by cases e; have := hN.2.2; have := HBw.out.size; omega))
                      case hbody =>
                        rintro l pre ⟨x1, x2⟩ W ⟨⟨A, c, hA⟩, hB, hF, hN⟩ ⟨h0, hG⟩ hpl
                        obtain ⟨i, rfl⟩ := Int.eq_ofNat_of_zero_le h0
                        have hlt : (i : Int) < ((delAll (l6.set p0 (allSp a1_0)) pre).length : Int) := hG _ _ _ hA.hq
                        obtain ⟨l9, hl9⟩ : ∃ l_, l_ = delAll (l6.set p0 (allSp a1_0)) pre := ⟨_, rfl⟩
                        have hsn := delAll_snoc (l6.set p0 (allSp a1_0)) pre (x1, (i : Int))
                        rw [← hl9] at hA hlt hsn
                        obtain ⟨okn, hNN, hnext⟩ := hA.next
                        obtain ⟨g9, rfl⟩ : ∃ g9, A = some ⟨g9, 0, none⟩ := by
                          rcases N_open hNN with ⟨hv, hnil⟩ | ⟨B9, cap', cur', hv, _⟩
                          · rw [hnil] at hlt; simp at hlt; omega
                          · injection hv with h1 _ _
                            exact ⟨B9, h1⟩
                        have hgm := hA.own_lt g9 rfl
                        obtain ⟨gc, hgc⟩ := Kd.N_typed hNN g9 rfl
                        have HDEL := Aside0.mk (del_Span (w.heap.size + 1) okn g9 l9.length c i l9 W hNN (by omega))
                        have hcq := (blk_cell hA.hq 0).trans rfl
                        have hwr9 : IntKind.i64.wrap ((i : Int) + 1) = (i : Int) + 1 := by
                          have := Kd.C_max hA.C'.2.2
                          simp [IntKind.wrap, IntKind.bits, IntKind.signed]; omega
                        have HNX := Aside0.mk hnext
                        have HAq := Aside0.mk hA.hsq
                        have HLT := Aside0.mk hlt
                        have HSN := Aside0.mk hsn
                        have HGC := Aside0.mk hgc
                        have HBq := Aside0.mk hB
                        have HFq := Aside0.mk hF
                        clear hA hG hl9 hsn hNN hnext hgc hB hF hlt
                        gi_wp2_with (refine ⟨trivial, ?_⟩; gi_at_call 46; refine (CallsIn.inRound l (callsIn_wide.2 HDEL.out)).mono ?_; rintro e W9 ⟨rfl, hN9, hg9⟩; have hnx := HNX.out _ _ _ hN9 hg9; have hcq9 := (blk_cell hnx.2 0).trans rfl; have hfq9 := blk_frozen hnx.2 0; have HG9 := Aside0.mk hg9; have HNX9 := Aside0.mk hnx.1; clear hN9 hg9 hnx)
                        have hq9 := HAq.out
                        have hsz9 := HG9.out.size
                        refine ⟨(KeepsOthers.of_grownBy HG9.out (fun j o hj ho => by cases hj; rw [HGC.out] at ho; cases ho; rfl)).trans (KeepsOthers.setCell _ _ _), ⟨some ⟨g9, 0, none⟩, c, ?_⟩, (Below.heap_setCell _ _ _ _ (by show gb2 ≠ q; omega)).trans ((HG9.out.block _ (blk_lt HBq.out) (fun e => by cases e; omega)).trans HBq.out), Kd.F_step HFq.out (fun k hk hkl => (Below.heap_setCell _ _ _ _ (by show k ≠ q; omega)).trans (HG9.out.block _ hkl (fun e => by cases e; omega))), hN.1, hN.2.1, by simp; omega⟩
                        rw [HSN.out]
                        have hlen9 : (l9.eraseIdx (((x1, (i : Int)) : Int × Int).2).toNat).length = l9.length - 1 := by
                          have := HLT.out
                          rw [List.length_eraseIdx, if_pos (by show (i : Int).toNat < _; omega)]
                        rw [hlen9]
                        exact HNX9.out
                  · have hres : r1 = l6 ∧ r2 = 0 := by have h2 := HADD.out; rw [if_neg hgt] at h2; simp at h2; exact ⟨h2.1.symm, h2.2.symm⟩
                    obtain ⟨rfl, rfl⟩ := hres
                    have HO6 := Aside0.mk (span_own.calls A8 c8 r1 r1 wr HAr.out.C'.2.2 HAr.out.C'.2.1 (by unfold span_own.f; rw [if_pos (by rw [HL6.out.2, decide_eq_true hl6]; rfl)]))
                    have HBr := Aside0.mk HAr.out.hb
                    clear HADD
                    go_wp2_with (go_at_call 38; refine HO6.out.mono ?_; rintro e w9 ⟨vo, rfl, hV, hb⟩; have HB9 := Aside0.mk (below_step HBr.out hb); have HVO := Aside0.mk (Kd.V_lower (base' := w.heap.size) (Kd.V_mono (ok' := fun k => w.heap.size ≤ k) hV (fun k hk => Nat.le_trans HBr.out.size hk)) HBr.out.size); clear hV hb)
                    rw [Exit.noGoto_ret]
                    refine ⟨_, results_tmp2 rfl _ _ _, ?_⟩
                    exact ⟨_, rfl, HVO.out, HB9.out⟩
end

end Go.Proofs.Ytpknchaajgkbnaa.P
