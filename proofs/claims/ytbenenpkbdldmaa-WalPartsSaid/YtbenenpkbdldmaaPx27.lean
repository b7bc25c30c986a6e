-- Written by wip/gprint.py, a program of this session over the kit's print; Lean checks it.
import Derived.Test.YtbenenpkbdldmaaPx0
import Derived.Test.YtbenenpkbdldmaaPx20
import Derived.Test.YtbenenpkbdldmaaPx22
import Derived.Test.YtbenenpkbdldmaaPx26
import Derived.Shelf.Abstract
namespace Go.Proofs.Ytbenenpkbdldmaa.P
open Go.RowKit Go.Proofs.YtbenenpkbdldmaaW.PrintWords Go.Proofs.YtbenenpkbdldmaaW.PrintLast Go.Proofs.YtbenenpkbdldmaaW.PrintMore
attribute [local go_sem] max2_int min2_int max_two min_two max_three min_three max_four min_four   -- for this text's walks alone
set_option linter.unusedVariables false
set_option linter.unusedSimpArgs false

/-GIVEN wal_Append-/
/-! ### wal_Append: function 10 -/
theorem meas_step (n i : Nat) (h : i < n) (hw : wrap64 ((i : Int) + 1) = ((i + 1 : Nat) : Int)) : n - (intOf (.int .i64 (wrap64 ((i : Int) + 1)))).toNat < n - (intOf (.int .i64 (i : Int))).toNat := by
  rw [hw]
  simp only [intOf, Int.toNat_natCast]
  omega
theorem blk_thaw {w : World} {g : Nat} {c : Array Value} {t : TypeId} (h : w.heap[g]? = some (.cells c t (0, 0))) (j : Nat) : w.frozen? ⟨g, j, none⟩ = false := by simp [World.frozen?, h]
set_option maxHeartbeats 2000000 in
set_option maxRecDepth 100000 in
theorem wal_Append3 (g ap b : Nat) (Ao : Option Addr) (co : Nat) (l0 : List Int) (s : Int) (Al : Option Addr) (cl : Nat) (la : List Int) (w3 : World) (hg : w3.heap[g]? = some (.cells #[.slice Ao l0.length co, .int .i64 s] 26 (0, 0))) (ha : w3.cell? ⟨ap, 0, none⟩ = some (.slice Al la.length cl)) (hgb : g < b) (hR : Kd.R (Kd.int .u8) 5 w3 b (fun k => b ≤ k) (.slice Ao l0.length co) l0) (hC : Kd.C (Kd.int .u8) w3 Al la.length la) (hb : b ≤ w3.heap.size) (hl : l0.length + la.length ≤ 2000000) :
    Calls Try.prog 24 (#[.pointer (some ⟨g, 0, none⟩)] ++ #[.pointer (some ⟨ap, 0, none⟩)]) w3 fun e w4 => (∃ u, e = .returned u) ∧ ∃ w5 A5 c5, Below b w3 w5 ∧ Kd.R (Kd.int .u8) 5 w5 b (fun k => b ≤ k) (.slice A5 (l0 ++ la).length c5) (l0 ++ la) ∧ w4 = w5.setCell ⟨g, 0, none⟩ (.slice A5 (l0 ++ la).length c5) := by
  have e0 : w3.cell? ⟨g, 0, none⟩ = some (.slice Ao l0.length co) := blk_cell hg 0
  have HR2 := Aside0.mk (Kd.R_drew hR)
  have HC2 := Aside0.mk (Kd.C_drew hC)
  have HB2 := Aside0.mk (below_drew (Below.refl b w3))
  have HS2 := Aside0.mk (show b ≤ w3.drew.heap.size from hb)
  show Calls Try.prog 24 #[.pointer (some ⟨g, 0, none⟩), .pointer (some ⟨ap, 0, none⟩)] w3 _
  go_enter Try.func24, Try.ntmps24
  refine start_ (n := 10) (S := fun w' => w'.cell? ⟨g, 0, none⟩ = some (.slice Ao l0.length co) ∧ w'.cell? ⟨ap, 0, none⟩ = some (.slice Al la.length cl)) (ds := [6, 9]) #[false, false, false, false, false, false, false, false, false, false] (by kernel_rfl) rfl rfl ⟨e0, ha⟩ (fun hHeld => ?_)
  generalize w3.drew = w3d at HR2 HC2 HB2 HS2 hHeld ⊢
  refine pure_ (i := 0) (N := some 3) (v := ?_) (a' := ?_) #[true, false, false, false, false, false, false, false, false, false] rfl rfl (by kernel_rfl) (fun _ _ _ h => h) (Or.inl ⟨by rfl, ?_⟩) ?_ ?_
  rotate_left
  · intro w'
    go_simp
    with_reducible rfl
  rotate_left
  · simp only [Act.put, List.setIfInBounds_toArray, List.set_cons_zero, List.set_cons_succ, i64_w, i32_w]
    rfl
  refine pure_ (i := 1) (N := some 4) (v := ?_) (a' := ?_) #[true, true, false, false, false, false, false, false, false, false] rfl rfl (by kernel_rfl) (fun _ _ _ h => h) (Or.inl ⟨by rfl, ?_⟩) ?_ ?_
  rotate_left
  · intro w'
    go_simp
    with_reducible rfl
  rotate_left
  · simp only [Act.put, List.setIfInBounds_toArray, List.set_cons_zero, List.set_cons_succ, i64_w, i32_w]
    rfl
  refine pure_ (i := 2) (N := some 5) (v := ?_) (a' := ?_) #[true, true, true, false, false, false, false, false, false, false] rfl rfl (by kernel_rfl) (fun _ _ _ h => h) (Or.inl ⟨by rfl, ?_⟩) ?_ ?_
  rotate_left
  · intro w'
    go_simp
    with_reducible rfl
  rotate_left
  · simp only [Act.put, List.setIfInBounds_toArray, List.set_cons_zero, List.set_cons_succ, i64_w, i32_w]
    rfl
  refine pure_ (i := 3) (N := some 6) (v := ?_) (a' := ?_) #[true, true, true, true, false, false, false, false, false, false] rfl rfl (by kernel_rfl) (fun _ _ _ h => h) (Or.inl ⟨by rfl, ?_⟩) ?_ ?_
  rotate_left
  · intro w'
    go_simp
    with_reducible rfl
  rotate_left
  · simp only [Act.put, List.setIfInBounds_toArray, List.set_cons_zero, List.set_cons_succ, i64_w, i32_w]
    rfl
  refine take_ (i := 4) (N := some 7) (v := ?_) (a' := ?_) #[true, true, true, true, true, false, false, false, false, false] rfl rfl (by kernel_rfl) (fun _ _ _ h => h) (Or.inl ⟨by rfl, ?_⟩) hHeld ?_ ?_
  rotate_left
  · rintro w' ⟨s0, s1⟩
    go_simp
    with_reducible rfl
  rotate_left
  · simp only [Act.put, List.setIfInBounds_toArray, List.set_cons_zero, List.set_cons_succ, i64_w, i32_w]
    rfl
  refine take_ (i := 5) (N := some 8) (v := ?_) (a' := ?_) #[true, true, true, true, true, true, false, false, false, false] rfl rfl (by kernel_rfl) (fun _ _ _ h => h) (Or.inl ⟨by rfl, ?_⟩) hHeld ?_ ?_
  rotate_left
  · rintro w' ⟨s0, s1⟩
    go_simp
    with_reducible rfl
  rotate_left
  · simp only [Act.put, List.setIfInBounds_toArray, List.set_cons_zero, List.set_cons_succ, i64_w, i32_w]
    rfl
  refine last_ (i := 6) (N := some 9) #[true, true, true, true, true, true, true, false, false, false] rfl rfl (by kernel_rfl) (by decide) (fun K hK => ?_)
  refine Kd.R_append_rows_step (Kd.int .u8) (w0 := w3) b rfl (.tmp 7) (.tmp 8) 23 5 (.int .u8 0) 1 rfl Try.underlying23 info5 rfl (by decide) (by omega) (.slice Ao l0.length co) l0 la _ _ _ (fun k => b ≤ k) (fun _ => False) rfl rfl HR2.out HC2.out (fun _ _ h => h) (fun _ h => h.elim) (fun k hk => Nat.le_trans HS2.out hk) HB2.out HS2.out (by omega) ?_
  rintro v5 w5 hR5 hB5 hg5 hat5
  obtain ⟨A5, c5, ev5⟩ := Kd.R_slice hR5
  subst ev5
  have o5 := (hB5.block _ hgb).trans hg
  have x5 : w5.cell? ⟨g, 0, none⟩ = some (.slice Ao l0.length co) := blk_cell o5 0
  have y5 : w5.frozen? ⟨g, 0, none⟩ = false := by simp [World.frozen?, o5]
  refine hK.out _ _ ?_
  clear hK K
  refine norm_ (a' := ?_) ?_ ?_
  rotate_left
  · show Act.put _ (some 9) _ = _
    simp only [Act.put, List.setIfInBounds_toArray, List.set_cons_zero, List.set_cons_succ, i64_w, i32_w]
    rfl
  refine pure_ (i := 7) (N := some 10) (v := ?_) (a' := ?_) #[true, true, true, true, true, true, true, true, false, false] rfl rfl (by kernel_rfl) (fun _ _ _ h => h) (Or.inl ⟨by rfl, ?_⟩) ?_ ?_
  rotate_left
  · intro w'
    go_simp
    with_reducible rfl
  rotate_left
  · simp only [Act.put, List.setIfInBounds_toArray, List.set_cons_zero, List.set_cons_succ, i64_w, i32_w]
    rfl
  refine pure_ (i := 8) (N := some 11) (v := ?_) (a' := ?_) #[true, true, true, true, true, true, true, true, true, false] rfl rfl (by kernel_rfl) (fun _ _ _ h => h) (Or.inl ⟨by rfl, ?_⟩) ?_ ?_
  rotate_left
  · intro w'
    go_simp
    with_reducible rfl
  rotate_left
  · simp only [Act.put, List.setIfInBounds_toArray, List.set_cons_zero, List.set_cons_succ, i64_w, i32_w]
    rfl
  refine last_ (i := 9) (N := none) #[true, true, true, true, true, true, true, true, true, true] rfl rfl (by kernel_rfl) (by decide) (fun K hK => ?_)
  refine skip_ (w1 := ?_) (by rfl) rfl ?_ ?_
  rotate_left
  · go_simp
    rfl
  refine hK.out _ _ ?_
  clear hK K
  refine done_ (by kernel_rfl) ?_

  go_end0
  exact ⟨⟨_, rfl⟩, w5, A5, c5, hB5, hR5, by rw [List.length_append]⟩
set_option maxHeartbeats 2000000 in
set_option maxRecDepth 100000 in
theorem wal_own_id1 (A0 : Option Addr) (c0 : Nat) (l0 : List Int) (a0 : Int) (w : World) (hr : Kd.C (Kd.int .u8) w A0 l0.length l0) (hc : l0.length ≤ c0) (hl : l0.length < 1000000) (hyes : okLog l0.length a0 = true) :
    Calls Try.prog 19 #[.agg #[.slice A0 l0.length c0, .int .i64 a0], .func (.func 22) #[] #[]] w fun e w' => ∃ v, e = .returned (.agg #[v, .int .i64 a0]) ∧ Kd.V (Kd.int .u8) 5 w' w.heap.size (fun k => w.heap.size ≤ k) v l0 ∧ Below w.heap.size w w' := by
  refine (wal_own_yes 22 #[] A0 c0 l0 a0 w hr hc hl hyes _ (Nat.le_refl _) l0 a0 (fun _ => True) (enters_of Try.func22 (by kernel_rfl) rfl) (fun _ _ _ h => h) ?_).mono (fun e w' ⟨v, h1, h2, h3, _⟩ => ⟨v, h1, h2, h3⟩)
  intro w3 Ao co o1 o2 hR hB hs3
  show Calls Try.prog 22 #[.pointer (some ⟨w.heap.size, 0, none⟩)] w3 _
  go_enter Try.func22, Try.ntmps22
  go_wp2
  go_end0
  exact ⟨⟨_, rfl⟩, Ao, co, o1, o2, Kd.R_V hR, hB, trivial⟩
set_option maxHeartbeats 2000000 in
set_option maxRecDepth 100000 in
theorem wal_own_id2 (A0 : Option Addr) (c0 : Nat) (l0 : List Int) (a0 : Int) (w : World) (hr : Kd.C (Kd.int .u8) w A0 l0.length l0) (hc : l0.length ≤ c0) (hl : l0.length < 1000000) (hyes : okLog l0.length a0 = true) :
    Calls Try.prog 19 #[.agg #[.slice A0 l0.length c0, .int .i64 a0], .func (.func 23) #[] #[]] w fun e w' => ∃ v, e = .returned (.agg #[v, .int .i64 a0]) ∧ Kd.V (Kd.int .u8) 5 w' w.heap.size (fun k => w.heap.size ≤ k) v l0 ∧ Below w.heap.size w w' := by
  refine (wal_own_yes 23 #[] A0 c0 l0 a0 w hr hc hl hyes _ (Nat.le_refl _) l0 a0 (fun _ => True) (enters_of Try.func23 (by kernel_rfl) rfl) (fun _ _ _ h => h) ?_).mono (fun e w' ⟨v, h1, h2, h3, _⟩ => ⟨v, h1, h2, h3⟩)
  intro w3 Ao co o1 o2 hR hB hs3
  show Calls Try.prog 23 #[.pointer (some ⟨w.heap.size, 0, none⟩)] w3 _
  go_enter Try.func23, Try.ntmps23
  go_wp2
  go_end0
  exact ⟨⟨_, rfl⟩, Ao, co, o1, o2, Kd.R_V hR, hB, trivial⟩
def appAll : List (List Int) → List Int → Option (List Int × Int)
  | [], acc => some (acc, 0)
  | t :: ts, acc => (frame_Write.f t).bind fun p => if p.2 = 0 then (if acc.length + p.1.length < 1000000 then appAll ts (acc ++ p.1) else none) else some ([], p.2)
def wal_Append.f (l0_0 : List Int) (a0_1 : Int) (l1 : List (List Int)) : Option (List Int × Int × Int) := if l0_0.length < 1000000 then (if okLog l0_0.length a0_1 = true then ((appAll l1 []).bind fun q => if q.2 = 0 then (if (q.1.length : Int) > 20000 - (l0_0.length : Int) then some (l0_0, a0_1, 40) else some (l0_0 ++ q.1, a0_1, 0)) else some (l0_0, a0_1, q.2)) else some (l0_0, a0_1, 1)) else none
set_option maxHeartbeats 2000000 in
set_option maxRecDepth 100000 in
theorem wal_Append.calls (A0_0 : Option Addr) (c0_0 : Nat) (l0_0 : List Int) (a0_1 : Int) (A1 : Option Addr) (c1 : Nat) (l1 : List (List Int)) (r1 : List Int) (r2 : Int) (r3 : Int) (w : World) (hr0_0 : Kd.C (Kd.int .u8) w A0_0 l0_0.length l0_0) (hc0_0 : l0_0.length ≤ c0_0) (hr1 : Kd.C (Kd.slice 5 (Kd.int .u8)) w A1 l1.length l1) (hc1 : l1.length ≤ c1) (h : wal_Append.f l0_0 a0_1 l1 = some (r1, r2, r3)) :
    Calls Try.prog 10 #[.agg #[.slice A0_0 l0_0.length c0_0, .int .i64 a0_1], .slice A1 l1.length c1] w fun e w' => ∃ v0_ : Value, e = .returned (.tuple #[.agg #[v0_, .int .i64 r2], .int .i64 r3]) ∧ Kd.V (Kd.int .u8) 5 w' w.heap.size (fun k_ => (w.heap.size ≤ k_)) v0_ r1 ∧ Below w.heap.size w w' := by
  unfold wal_Append.f at h
  have hl : l0_0.length < 1000000 := Classical.byContradiction fun hn => by rw [if_neg hn] at h; cases h
  rw [if_pos hl] at h
  have HR := Aside0.mk hr0_0
  have HC := Aside0.mk hc0_0
  have HR1 := Aside0.mk hr1
  have HC1 := Aside0.mk hc1
  have hu := Try.underlying26
  obtain ⟨W0, hW0⟩ : ∃ W0, W0 = (w.alloc (.cells #[.slice A0_0 l0_0.length c0_0, .int .i64 a0_1] 26)).alloc (.cells #[.slice none 0 0, .int .i64 0] 26) := ⟨_, rfl⟩
  have HB0 := Aside0.mk (show Below w.heap.size w W0 from hW0 ▸ below_alloc (below_alloc (Below.refl _ _) _) _)
  have HR0 := Aside0.mk (Kd.C_below HR.out HB0.out)
  have hS0 : W0.heap.size = w.heap.size + 2 := by rw [hW0]; simp only [World.size_alloc]
  have mb : W0.heap[w.heap.size]? = some (.cells #[.slice A0_0 l0_0.length c0_0, .int .i64 a0_1] 26 (0, 0)) := by rw [hW0]; exact (Below.heap_alloc _ _ _ (by simp)).trans (heap_alloc_new w _)
  have mr : W0.heap[w.heap.size + 1]? = some (.cells #[.slice none 0 0, .int .i64 0] 26 (0, 0)) := by
    have := heap_alloc_new (w.alloc (.cells #[.slice A0_0 l0_0.length c0_0, .int .i64 a0_1] 26)) (.cells #[.slice none 0 0, .int .i64 0] 26)
    rw [World.size_alloc, ← hW0] at this
    exact this
  obtain ⟨ok, hok⟩ : ∃ ok, okLog l0_0.length a0_1 = ok := ⟨_, rfl⟩
  have HCH := Aside0.mk (show wal_Check.f l0_0 a0_1 = some ok by rw [wal_Check_f, hok])
  rw [hok] at h
  have H := Aside0.mk h
  clear h
  go_enter Try.func10, Try.ntmps10
  go_wp2_with (go_at_call 18; rw [← hW0]; refine (wal_Check.calls A0_0 c0_0 l0_0 a0_1 ok _ HR0.out HC.out HCH.out).mono ?_)
  rintro e w1 ⟨rfl, hb1⟩
  have n1 := (hb1.block _ (by omega)).trans mb
  have n2 := (hb1.block _ (by omega)).trans mr
  have HB1 := Aside0.mk (HB0.out.trans (hb1.mono (by omega)))
  have HRW := Aside0.mk (Kd.C_below HR0.out hb1)
  have hS1 : w.heap.size + 2 ≤ w1.heap.size := by have := hb1.size; omega
  have k1 : w.heap.size < w1.heap.size + 1 := by omega
  have k2 : w.heap.size + 1 < w1.heap.size + 1 := by omega
  have k3 : w.heap.size ≠ w1.heap.size := by omega
  have k4 : w.heap.size + 1 ≠ w1.heap.size := by omega
  have k5 : w.heap.size ≤ w1.heap.size + 1 := by omega
  have k6 : w.heap.size ≤ w1.heap.size := by omega
  have e1a : w1.cell? ⟨w.heap.size, 0, none⟩ = some (.slice A0_0 l0_0.length c0_0) := blk_cell n1 0
  have e1b : w1.cell? ⟨w.heap.size, 1, none⟩ = some (.int .i64 a0_1) := blk_cell n1 1
  clear mb mr hb1 hW0
  cases ok with
  | false =>
    as_aux_lemma =>
      have h := H.out
      rw [if_neg (by decide)] at h
      obtain ⟨rfl, rfl, rfl⟩ : l0_0 = r1 ∧ a0_1 = r2 ∧ 1 = r3 := by simpa using h
      go_wp2_with (go_at_call 19; refine (wal_own_no _ A0_0 c0_0 l0_0 a0_1 w1 HRW.out HC.out hl hok).mono ?_; rintro e w2 ⟨v, rfl, hV, hb⟩; obtain ⟨Av, cv, rfl⟩ := Kd.V_slice hV; have o4' := (hb.block _ (by omega)).trans n2; have hB2 := HB1.out.trans (hb.mono (by omega)); have hsz2 := hS1; have e6 : w2.cell? ⟨w.heap.size + 1, 0, none⟩ = some (.slice none 0 0) := blk_cell o4' 0; have f6 : w2.frozen? ⟨w.heap.size + 1, 0, none⟩ = false := blk_thaw o4' _; have o5 : (w2.setCell ⟨w.heap.size + 1, 0, none⟩ (.slice Av l0_0.length cv)).heap[w.heap.size + 1]? = some (.cells #[.slice Av l0_0.length cv, .int .i64 0] 26 (0, 0)) := blk_set o4' 0 _; have e7 : (w2.setCell ⟨w.heap.size + 1, 0, none⟩ (.slice Av l0_0.length cv)).cell? ⟨w.heap.size + 1, 1, none⟩ = some (.int .i64 0) := blk_cell o5 1; have f7 : (w2.setCell ⟨w.heap.size + 1, 0, none⟩ (.slice Av l0_0.length cv)).frozen? ⟨w.heap.size + 1, 1, none⟩ = false := blk_thaw o5 _; have o6 : ((w2.setCell ⟨w.heap.size + 1, 0, none⟩ (.slice Av l0_0.length cv)).setCell ⟨w.heap.size + 1, 1, none⟩ (.int .i64 a0_1)).heap[w.heap.size + 1]? = some (.cells #[.slice Av l0_0.length cv, .int .i64 a0_1] 26 (0, 0)) := blk_set o5 1 _)
      refine bodyPost_ret (results_ct rfl _ _ (w.heap.size + 1) _ _ _ _ rfl o6 hu rfl (by kernel_rfl)) rfl ?_
      exact ⟨_, rfl, Kd.V_mono (Kd.V_lower (base' := w.heap.size) (Kd.V_far (Kd.V_far hV (p := ⟨w.heap.size + 1, 0, none⟩) (fun k hk => by show k ≠ w.heap.size + 1; have := hsz2; omega) _) (p := ⟨w.heap.size + 1, 1, none⟩) (fun k hk => by show k ≠ w.heap.size + 1; have := hsz2; omega) _) (by have := hsz2; omega)) (fun k hk => by have := hsz2; omega), (hB2.setCell (p := ⟨w.heap.size + 1, 0, none⟩) (by show w.heap.size ≤ w.heap.size + 1; omega) _).setCell (p := ⟨w.heap.size + 1, 1, none⟩) (by show w.heap.size ≤ w.heap.size + 1; omega) _⟩
  | true =>
    have h := H.out
    rw [if_pos rfl] at h
    obtain ⟨q, hq, h⟩ := Option.bind_eq_some_iff.mp h
    have HQ := Aside0.mk hq
    have HH := Aside0.mk h
    clear hq h H
    go_wp2
    go_loopw [18] (fun v18 wr => ∃ (i : Nat) (acc : List Int) (A5 : Option Addr) (c5 : Nat), i ≤ l1.length ∧ v18 = .int .i64 i ∧ Aside0 (wr.heap[w1.heap.size]? = some (.cells #[.slice A5 acc.length c5] 23 (0, 0))) ∧ Aside0 (Kd.R (Kd.int .u8) 5 wr (w1.heap.size + 1) (fun k => w1.heap.size + 1 ≤ k) (.slice A5 acc.length c5) acc) ∧ Aside0 (appAll (l1.drop i) acc = some q) ∧
        Aside0 (wr.heap[w.heap.size]? = some (.cells #[.slice A0_0 l0_0.length c0_0, .int .i64 a0_1] 26 (0, 0))) ∧ Aside0 (wr.heap[w.heap.size + 1]? = some (.cells #[.slice none 0 0, .int .i64 0] 26 (0, 0))) ∧ Aside0 (Below w.heap.size w wr) ∧ Aside0 (w1.heap.size + 1 ≤ wr.heap.size)) (fun v18 _ => l1.length - (intOf v18).toNat)
    case atStart =>
      exact ⟨0, [], none, 0, Nat.zero_le _, rfl, ⟨heap_alloc_new w1 _⟩, ⟨Kd.R_nil _ _ _ _ _⟩, HQ, ⟨(Below.heap_alloc _ _ _ (by omega)).trans n1⟩, ⟨(Below.heap_alloc _ _ _ (by omega)).trans n2⟩, ⟨below_alloc HB1.out _⟩, ⟨by rw [World.size_alloc]; exact Nat.le_refl _⟩⟩
    case round =>
      obtain ⟨i, acc, A5, c5, hi, rfl, HG, HA, HE, HX1, HX2, HB, HS⟩ := hrel
      by_cases hlt : i < l1.length
      · have hd : l1.drop i = l1[i] :: l1.drop (i + 1) := List.drop_eq_getElem_cons hlt
        have hrd : rd_L1 l1 (i : Int) = l1[i] := by unfold rd_L1; simp [List.getD_eq_getElem?_getD, hlt]
        have hE0 := HE.out
        rw [hd, ← hrd, appAll] at hE0
        obtain ⟨⟨bw, er⟩, hW, hE⟩ := Option.bind_eq_some_iff.mp hE0
        simp only at hE
        clear hE0
        obtain ⟨ad, At, ct, eA, hx, hct, hCt⟩ := at_L1 HR1.out (i : Int) (by omega) (by omega)
        subst eA
        rw [Int.toNat_natCast] at hx
        replace hx := (HB.out.cell (World.block_lt_of_cell? w _ hx)).trans hx
        have hp1 : (0 ≤ (i : Int)) = True := eq_true (by omega)
        have hp2 : ((i : Int) < (l1.length : Int)) = True := eq_true (by omega)
        have HWf := Aside0.mk hW
        have HCt := Aside0.mk (Kd.C_below hCt HB.out)
        have HCtc := Aside0.mk hct
        clear hW hCt hct hd hrd
        generalize rd_L1 l1 (i : Int) = t at *
        go_wp2_with (go_at_call 21; refine (frame_Write.calls At ct t bw er _ HCt.out HCtc.out HWf.out).mono ?_)
        rintro e w4 ⟨v4, rfl, hR4, hb4⟩
        obtain ⟨A4, c4, rfl⟩ := Kd.R_slice hR4
        have q0 := (hb4.block _ (Array.getElem?_eq_some_iff.1 HG.out).1).trans HG.out
        have q1 := (hb4.block _ (Array.getElem?_eq_some_iff.1 HX1.out).1).trans HX1.out
        have q2 := (hb4.block _ (Array.getElem?_eq_some_iff.1 HX2.out).1).trans HX2.out
        have HBw := Aside0.mk (HB.out.trans (hb4.mono (by have := HS.out; omega)))
        have hs4 : w1.heap.size + 1 ≤ w4.heap.size := Nat.le_trans HS.out hb4.size
        by_cases he : er = 0
        · subst he
          rw [if_pos rfl] at hE
          by_cases hbd : acc.length + bw.length < 1000000
          · rw [if_pos hbd] at hE
            as_aux_lemma =>
              have HE2 := Aside0.mk hE
              have HA4 := Aside0.mk (Kd.R_below HA.out hb4)
              have HC4 := Aside0.mk (Kd.R_reads' hR4).2.2
              have x0 : w4.cell? ⟨w1.heap.size, 0, none⟩ = some (.slice A5 acc.length c5) := blk_cell q0 0
              clear hE HE hR4 hb4 hx HA
              go_wp2_with ((with_reducible refine gate_builtin (b := .append) (xs := #[.tmp 32, .tmp 33]) rfl ?_); at_builtin; refine Kd.R_append_rows (Kd.int .u8) (w0 := w4) (w1.heap.size + 1) rfl (.tmp 32) (.tmp 33) 23 5 (.int .u8 0) 1 rfl Try.underlying23 info5 rfl (by decide) (by omega) (.slice A5 acc.length c5) acc bw _ _ _ (fun k => w1.heap.size + 1 ≤ k) (fun _ => False) rfl rfl HA4.out HC4.out (fun _ _ h => h) (fun _ h => h.elim) (fun k hk => Nat.le_trans hs4 hk) (Below.refl _ _) hs4 (by omega) ?_; intro v5 w6 hR6 hb6 hg6 hat6; obtain ⟨A6, c6, ev6⟩ := Kd.R_slice hR6; subst ev6; have q3 := (hb6.block _ (by omega)).trans q0; have x3 : w6.cell? ⟨w1.heap.size, 0, none⟩ = some (.slice A5 acc.length c5) := blk_cell q3 0; have y3 : w6.frozen? ⟨w1.heap.size, 0, none⟩ = false := by simp [World.frozen?, q3])
              have hmx := Kd.C_max HR1.out
              have hw64 : wrap64 ((i : Int) + 1) = ((i + 1 : Nat) : Int) := by unfold wrap64; omega
              have hval : Value.int .i64 (wrap64 ((i : Int) + 1)) = Value.int .i64 ((i + 1 : Nat) : Int) := by rw [hw64]
              have p0 := blk_set q3 0 (.slice A6 (acc.length + bw.length) c6)
              have hcell : (w6.setCell ⟨w1.heap.size, 0, none⟩ (.slice A6 (acc.length + bw.length) c6)).heap[w1.heap.size]? = some (.cells #[.slice A6 (acc ++ bw).length c6] 23 (0, 0)) := by rw [List.length_append]; exact p0
              have p1 := blk_far ((hb6.block _ k1).trans q1) (p := ⟨w1.heap.size, 0, none⟩) k3 (.slice A6 (acc.length + bw.length) c6)
              have p2 := blk_far ((hb6.block _ k2).trans q2) (p := ⟨w1.heap.size, 0, none⟩) k4 (.slice A6 (acc.length + bw.length) c6)
              have p3 := Kd.R_far hR6 (p := ⟨w1.heap.size, 0, none⟩) (fun k hk => Nat.ne_of_gt hk) (.slice A6 (acc.length + bw.length) c6)
              have p4 := (HBw.out.trans (hb6.mono k5)).setCell (p := ⟨w1.heap.size, 0, none⟩) k6 (.slice A6 (acc.length + bw.length) c6)
              have p5 : (w6.setCell ⟨w1.heap.size, 0, none⟩ (.slice A6 (acc.length + bw.length) c6)).heap.size = w6.heap.size := by simp [World.setCell]
              have p6 : w1.heap.size + 1 ≤ (w6.setCell ⟨w1.heap.size, 0, none⟩ (.slice A6 (acc.length + bw.length) c6)).heap.size := by rw [p5]; exact Nat.le_trans hs4 hb6.size
              go_roundw
              case rel =>
                exact ⟨i + 1, acc ++ bw, A6, c6, hlt, hval, ⟨hcell⟩, ⟨p3⟩, HE2, ⟨p1⟩, ⟨p2⟩, ⟨p4⟩, ⟨p6⟩⟩
              case measure => exact meas_step _ _ hlt hw64
          · rw [if_neg hbd] at hE; cases hE
        · rw [if_neg he] at hE
          obtain rfl := Option.some.inj hE
          have h := HH.out
          rw [if_neg he] at h
          simp only [Option.some.injEq, Prod.mk.injEq] at h
          obtain ⟨rfl, rfl, rfl⟩ := h
          as_aux_lemma =>
            have he1 : (er == 0) = false := beq_eq_false_iff_ne.mpr he
            have he2 : (er != 0) = true := bne_iff_ne.mpr he
            have z0 : w4.cell? ⟨w.heap.size, 0, none⟩ = some (.slice A0_0 l0_0.length c0_0) := blk_cell q1 0
            have z1 : w4.cell? ⟨w.heap.size, 1, none⟩ = some (.int .i64 a0_1) := blk_cell q1 1
            have HRZ := Aside0.mk (Kd.C_below HR.out HBw.out)
            clear hE HE
            go_wp2_with (go_at_call 19; refine (wal_own_id1 A0_0 c0_0 l0_0 a0_1 w4 HRZ.out HC.out hl hok).mono ?_; rintro e w2 ⟨v, rfl, hV, hb⟩; obtain ⟨Av, cv, rfl⟩ := Kd.V_slice hV; have o4' := (hb.block _ (Array.getElem?_eq_some_iff.1 q2).1).trans q2; have hsz2 : w.heap.size + 2 ≤ w4.heap.size := (by omega); have hB2 := HBw.out.trans (hb.mono (by omega)); have e6 : w2.cell? ⟨w.heap.size + 1, 0, none⟩ = some (.slice none 0 0) := blk_cell o4' 0; have f6 : w2.frozen? ⟨w.heap.size + 1, 0, none⟩ = false := blk_thaw o4' _; have o5 : (w2.setCell ⟨w.heap.size + 1, 0, none⟩ (.slice Av l0_0.length cv)).heap[w.heap.size + 1]? = some (.cells #[.slice Av l0_0.length cv, .int .i64 0] 26 (0, 0)) := blk_set o4' 0 _; have e7 : (w2.setCell ⟨w.heap.size + 1, 0, none⟩ (.slice Av l0_0.length cv)).cell? ⟨w.heap.size + 1, 1, none⟩ = some (.int .i64 0) := blk_cell o5 1; have f7 : (w2.setCell ⟨w.heap.size + 1, 0, none⟩ (.slice Av l0_0.length cv)).frozen? ⟨w.heap.size + 1, 1, none⟩ = false := blk_thaw o5 _; have o6 : ((w2.setCell ⟨w.heap.size + 1, 0, none⟩ (.slice Av l0_0.length cv)).setCell ⟨w.heap.size + 1, 1, none⟩ (.int .i64 a0_1)).heap[w.heap.size + 1]? = some (.cells #[.slice Av l0_0.length cv, .int .i64 a0_1] 26 (0, 0)) := blk_set o5 1 _)
            refine bodyPost_ret (results_ct rfl _ _ (w.heap.size + 1) _ _ _ _ rfl o6 hu rfl (by kernel_rfl)) rfl ?_
            exact ⟨_, rfl, Kd.V_mono (Kd.V_lower (base' := w.heap.size) (Kd.V_far (Kd.V_far hV (p := ⟨w.heap.size + 1, 0, none⟩) (fun k hk => by show k ≠ w.heap.size + 1; have := hsz2; omega) _) (p := ⟨w.heap.size + 1, 1, none⟩) (fun k hk => by show k ≠ w.heap.size + 1; have := hsz2; omega) _) (by have := hsz2; omega)) (fun k hk => by have := hsz2; omega), (hB2.setCell (p := ⟨w.heap.size + 1, 0, none⟩) (by show w.heap.size ≤ w.heap.size + 1; omega) _).setCell (p := ⟨w.heap.size + 1, 1, none⟩) (by show w.heap.size ≤ w.heap.size + 1; omega) _⟩
      · obtain rfl : i = l1.length := by omega
        have hE := HE.out
        rw [List.drop_length, appAll] at hE
        obtain rfl := Option.some.inj hE
        have h := HH.out
        simp only at h
        rw [if_pos trivial] at h
        have hlo : l0_0.length ≤ 20000 ∧ 0 ≤ a0_1 := by
          have := hok
          unfold okLog at this
          simp only [Bool.and_eq_true, decide_eq_true_eq] at this
          exact ⟨this.1.1, this.1.2⟩
        have g0 : wr.cell? ⟨w1.heap.size, 0, none⟩ = some (.slice A5 acc.length c5) := blk_cell HG.out 0
        have z0 : wr.cell? ⟨w.heap.size, 0, none⟩ = some (.slice A0_0 l0_0.length c0_0) := blk_cell HX1.out 0
        have z1 : wr.cell? ⟨w.heap.size, 1, none⟩ = some (.int .i64 a0_1) := blk_cell HX1.out 1
        have HRZ := Aside0.mk (Kd.C_below HR.out HB.out)
        have hws : IntKind.i64.wrap (20000 - (l0_0.length : Int)) = 20000 - (l0_0.length : Int) := by have := hlo.1; simp [IntKind.wrap, IntKind.bits, IntKind.signed]; omega
        have hws' : wrap64 (20000 - (l0_0.length : Int)) = 20000 - (l0_0.length : Int) := by have := hlo.1; unfold wrap64; omega
        have hsz2 : w.heap.size + 2 ≤ wr.heap.size := by have := HS.out; omega
        clear hE
        by_cases hf : (acc.length : Int) > 20000 - (l0_0.length : Int)
        · rw [if_pos hf] at h
          simp only [Option.some.injEq, Prod.mk.injEq] at h
          obtain ⟨rfl, rfl, rfl⟩ := h
          as_aux_lemma =>
            have hfd : decide (20000 - (l0_0.length : Int) < (acc.length : Int)) = true := decide_eq_true hf
            go_wp2_with (go_at_call 19; refine (wal_own_id2 A0_0 c0_0 l0_0 a0_1 wr HRZ.out HC.out hl hok).mono ?_; rintro e w2 ⟨v, rfl, hV, hb⟩; obtain ⟨Av, cv, rfl⟩ := Kd.V_slice hV; have o4' := (hb.block _ (Array.getElem?_eq_some_iff.1 HX2.out).1).trans HX2.out; have hB2 := HB.out.trans (hb.mono (by omega)); have e6 : w2.cell? ⟨w.heap.size + 1, 0, none⟩ = some (.slice none 0 0) := blk_cell o4' 0; have f6 : w2.frozen? ⟨w.heap.size + 1, 0, none⟩ = false := blk_thaw o4' _; have o5 : (w2.setCell ⟨w.heap.size + 1, 0, none⟩ (.slice Av l0_0.length cv)).heap[w.heap.size + 1]? = some (.cells #[.slice Av l0_0.length cv, .int .i64 0] 26 (0, 0)) := blk_set o4' 0 _; have e7 : (w2.setCell ⟨w.heap.size + 1, 0, none⟩ (.slice Av l0_0.length cv)).cell? ⟨w.heap.size + 1, 1, none⟩ = some (.int .i64 0) := blk_cell o5 1; have f7 : (w2.setCell ⟨w.heap.size + 1, 0, none⟩ (.slice Av l0_0.length cv)).frozen? ⟨w.heap.size + 1, 1, none⟩ = false := blk_thaw o5 _; have o6 : ((w2.setCell ⟨w.heap.size + 1, 0, none⟩ (.slice Av l0_0.length cv)).setCell ⟨w.heap.size + 1, 1, none⟩ (.int .i64 a0_1)).heap[w.heap.size + 1]? = some (.cells #[.slice Av l0_0.length cv, .int .i64 a0_1] 26 (0, 0)) := blk_set o5 1 _)
            refine bodyPost_ret (results_ct rfl _ _ (w.heap.size + 1) _ _ _ _ rfl o6 hu rfl (by kernel_rfl)) rfl ?_
            exact ⟨_, rfl, Kd.V_mono (Kd.V_lower (base' := w.heap.size) (Kd.V_far (Kd.V_far hV (p := ⟨w.heap.size + 1, 0, none⟩) (fun k hk => by show k ≠ w.heap.size + 1; have := hsz2; omega) _) (p := ⟨w.heap.size + 1, 1, none⟩) (fun k hk => by show k ≠ w.heap.size + 1; have := hsz2; omega) _) (by have := hsz2; omega)) (fun k hk => by have := hsz2; omega), (hB2.setCell (p := ⟨w.heap.size + 1, 0, none⟩) (by show w.heap.size ≤ w.heap.size + 1; omega) _).setCell (p := ⟨w.heap.size + 1, 1, none⟩) (by show w.heap.size ≤ w.heap.size + 1; omega) _⟩
        · rw [if_neg hf] at h
          simp only [Option.some.injEq, Prod.mk.injEq] at h
          obtain ⟨rfl, rfl, rfl⟩ := h
          have hfd : decide (20000 - (l0_0.length : Int) < (acc.length : Int)) = false := decide_eq_false hf
          as_aux_lemma =>
            have hown : Calls Try.prog 19 #[.agg #[.slice A0_0 l0_0.length c0_0, .int .i64 a0_1], .func (.func 24) #[] #[.pointer (some ⟨w1.heap.size, 0, none⟩)]] wr fun e w' => ∃ v, e = .returned (.agg #[v, .int .i64 a0_1]) ∧ Kd.V (Kd.int .u8) 5 w' wr.heap.size (fun k => wr.heap.size ≤ k) v (l0_0 ++ acc) ∧ Below wr.heap.size wr w' := by
              refine (wal_own_yes 24 #[.pointer (some ⟨w1.heap.size, 0, none⟩)] A0_0 c0_0 l0_0 a0_1 wr HRZ.out HC.out hl hok _ (Nat.le_refl _) (l0_0 ++ acc) a0_1 (fun _ => True) (enters_of Try.func24 (by kernel_rfl) rfl) (fun _ _ _ h => h) ?_).mono (fun e w' ⟨v, h1, h2, h3, _⟩ => ⟨v, h1, h2, h3⟩)
              intro w3 Ao co o1 o2 hR hB hs3
              have ha := blk_cell ((hB.block _ (Array.getElem?_eq_some_iff.1 HG.out).1).trans HG.out) 0
              refine (wal_Append3 wr.heap.size w1.heap.size (wr.heap.size + 2) Ao co l0_0 a0_1 A5 c5 acc w3 o1 ha (by omega) hR (Kd.C_below (Kd.R_reads' HA.out).2.2 hB) hs3 (by omega)).mono ?_
              rintro e w4 ⟨hu4, w5, A9, c9, hb5, hR5, rfl⟩
              have p1 := (hb5.block _ (by omega)).trans o1
              have p2 := (hb5.block _ (by omega)).trans o2
              exact ⟨hu4, A9, c9, blk_set p1 0 _, blk_far p2 (Nat.succ_ne_self _) _, Kd.V_far (p := ⟨wr.heap.size, 0, none⟩) (Kd.R_V hR5) (fun k hk => ne_of_ge2 hk) _, (hB.trans (hb5.mono (Nat.le_add_right _ 2))).setCell (p := ⟨wr.heap.size, 0, none⟩) (Nat.le_refl _) _, trivial⟩
            go_wp2_with (go_at_call 19; refine hown.mono ?_; rintro e w2 ⟨v, rfl, hV, hb⟩; obtain ⟨Av, cv, ev⟩ := Kd.V_slice hV; rw [List.length_append] at ev; subst ev; have o4' := (hb.block _ (Array.getElem?_eq_some_iff.1 HX2.out).1).trans HX2.out; have hB2 := HB.out.trans (hb.mono (by omega)); clear hown; have e6 : w2.cell? ⟨w.heap.size + 1, 0, none⟩ = some (.slice none 0 0) := blk_cell o4' 0; have f6 : w2.frozen? ⟨w.heap.size + 1, 0, none⟩ = false := blk_thaw o4' _; have o5 : (w2.setCell ⟨w.heap.size + 1, 0, none⟩ (.slice Av (l0_0.length + acc.length) cv)).heap[w.heap.size + 1]? = some (.cells #[.slice Av (l0_0.length + acc.length) cv, .int .i64 0] 26 (0, 0)) := blk_set o4' 0 _; have e7 : (w2.setCell ⟨w.heap.size + 1, 0, none⟩ (.slice Av (l0_0.length + acc.length) cv)).cell? ⟨w.heap.size + 1, 1, none⟩ = some (.int .i64 0) := blk_cell o5 1; have f7 : (w2.setCell ⟨w.heap.size + 1, 0, none⟩ (.slice Av (l0_0.length + acc.length) cv)).frozen? ⟨w.heap.size + 1, 1, none⟩ = false := blk_thaw o5 _; have o6 : ((w2.setCell ⟨w.heap.size + 1, 0, none⟩ (.slice Av (l0_0.length + acc.length) cv)).setCell ⟨w.heap.size + 1, 1, none⟩ (.int .i64 a0_1)).heap[w.heap.size + 1]? = some (.cells #[.slice Av (l0_0.length + acc.length) cv, .int .i64 a0_1] 26 (0, 0)) := blk_set o5 1 _)
            refine bodyPost_ret (results_ct rfl _ _ (w.heap.size + 1) _ _ _ _ rfl o6 hu rfl (by kernel_rfl)) rfl ?_
            exact ⟨_, rfl, Kd.V_mono (Kd.V_lower (base' := w.heap.size) (Kd.V_far (Kd.V_far hV (p := ⟨w.heap.size + 1, 0, none⟩) (fun k hk => by show k ≠ w.heap.size + 1; have := hsz2; omega) _) (p := ⟨w.heap.size + 1, 1, none⟩) (fun k hk => by show k ≠ w.heap.size + 1; have := hsz2; omega) _) (by have := hsz2; omega)) (fun k hk => by have := hsz2; omega), (hB2.setCell (p := ⟨w.heap.size + 1, 0, none⟩) (by show w.heap.size ≤ w.heap.size + 1; omega) _).setCell (p := ⟨w.heap.size + 1, 1, none⟩) (by show w.heap.size ≤ w.heap.size + 1; omega) _⟩

end Go.Proofs.Ytbenenpkbdldmaa.P
