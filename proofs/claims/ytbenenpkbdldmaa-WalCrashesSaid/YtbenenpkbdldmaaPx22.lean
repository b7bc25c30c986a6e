-- Written by wip/gprint.py, a program of this session over the kit's print; Lean checks it.
import Derived.Test.YtbenenpkbdldmaaPx0
import Derived.Test.YtbenenpkbdldmaaPx14
import Derived.Test.YtbenenpkbdldmaaPx20
import Derived.Shelf.Abstract
namespace Go.Proofs.Ytbenenpkbdldmaa.P
open Go.RowKit Go.Proofs.YtbenenpkbdldmaaW.PrintWords Go.Proofs.YtbenenpkbdldmaaW.PrintLast Go.Proofs.YtbenenpkbdldmaaW.PrintMore
attribute [local go_sem] max2_int min2_int max_two min_two max_three min_three max_four min_four   -- for this text's walks alone
set_option linter.unusedVariables false
set_option linter.unusedSimpArgs false

/-GIVEN wal_Sync-/
/-! ### wal_Sync: function 9 -/
def okLog (n : Nat) (s : Int) : Bool := decide (n ≤ 20000) && decide (0 ≤ s) && decide (s ≤ (n : Int))
theorem wal_Check_f (l : List Int) (s : Int) : wal_Check.f l s = some (okLog l.length s) := by
  unfold wal_Check.f okLog
  by_cases h1 : (l.length : Int) ≤ 20000
  · by_cases h2 : s ≥ 0
    · rw [if_pos h1, if_pos h2, decide_eq_true (show l.length ≤ 20000 by omega), decide_eq_true (show 0 ≤ s by omega)]; rfl
    · rw [if_pos h1, if_neg h2, decide_eq_true (show l.length ≤ 20000 by omega), decide_eq_false (show ¬ 0 ≤ s by omega)]; rfl
  · rw [if_neg h1, decide_eq_false (show ¬ l.length ≤ 20000 by omega)]; rfl
set_option maxHeartbeats 2000000 in
set_option maxRecDepth 100000 in
theorem wal_own_no (fv : Value) (A0 : Option Addr) (c0 : Nat) (l0 : List Int) (a0 : Int) (w : World) (hr : Kd.C (Kd.int .u8) w A0 l0.length l0) (hc : l0.length ≤ c0) (hl : l0.length < 1000000) (hno : okLog l0.length a0 = false) :
    Calls Try.prog 19 #[.agg #[.slice A0 l0.length c0, .int .i64 a0], fv] w fun e w' => ∃ v, e = .returned (.agg #[v, .int .i64 a0]) ∧ Kd.V (Kd.int .u8) 5 w' w.heap.size (fun k => w.heap.size ≤ k) v l0 ∧ Below w.heap.size w w' := by
  have HCH := Aside0.mk (show wal_Check.f l0 a0 = some false by rw [wal_Check_f, hno])
  have HCL := Aside0.mk (show bytes_Clone.f l0 = some l0 by unfold bytes_Clone.f; rw [if_pos (by omega)])
  have HR := Aside0.mk hr
  have HC := Aside0.mk hc
  clear hr hc
  have m0 : (w.alloc (.cells #[.slice A0 l0.length c0, .int .i64 a0] 26)).heap[w.heap.size]? = some (.cells #[.slice A0 l0.length c0, .int .i64 a0] 26 (0, 0)) := heap_alloc_new w _
  have m1 : ((w.alloc (.cells #[.slice A0 l0.length c0, .int .i64 a0] 26)).alloc (.cells #[.slice none 0 0, .int .i64 0] 26)).heap[w.heap.size]? = some (.cells #[.slice A0 l0.length c0, .int .i64 a0] 26 (0, 0)) := (Below.heap_alloc _ _ _ (by simp)).trans m0
  have m2 : ((w.alloc (.cells #[.slice A0 l0.length c0, .int .i64 a0] 26)).alloc (.cells #[.slice none 0 0, .int .i64 0] 26)).heap[w.heap.size + 1]? = some (.cells #[.slice none 0 0, .int .i64 0] 26 (0, 0)) := by
    have := heap_alloc_new (w.alloc (.cells #[.slice A0 l0.length c0, .int .i64 a0] 26)) (.cells #[.slice none 0 0, .int .i64 0] 26); rwa [World.size_alloc] at this
  have HB0 := Aside0.mk (below_alloc (below_alloc (Below.refl w.heap.size w) (.cells #[.slice A0 l0.length c0, .int .i64 a0] 26)) (.cells #[.slice none 0 0, .int .i64 0] 26))
  have HR0 := Aside0.mk (Kd.C_below HR.out HB0.out)
  have HS0 := Aside0.mk (show ((w.alloc (.cells #[.slice A0 l0.length c0, .int .i64 a0] 26)).alloc (.cells #[.slice none 0 0, .int .i64 0] 26)).heap.size = w.heap.size + 2 by simp only [World.size_alloc])
  have hu := Try.underlying26
  go_enter Try.func19, Try.ntmps19
  go_wp2_with (go_at_call 18; refine (wal_Check.calls A0 c0 l0 a0 false _ HR0.out HC.out HCH.out).mono ?_; rintro e w1 ⟨rfl, hb1⟩; have HB1 := Aside0.mk (HB0.out.trans (hb1.mono (by rw [HS0.out]; omega))); have HR1 := Aside0.mk (Kd.C_below HR0.out hb1); have n1 := (hb1.block _ (by rw [HS0.out]; omega)).trans m1; have n2 := (hb1.block _ (by rw [HS0.out]; omega)).trans m2; have HS1 := Aside0.mk (show w.heap.size + 2 ≤ w1.heap.size by have := hb1.size; rw [HS0.out] at this; exact this); have e1 : w1.cell? ⟨w.heap.size, 0, none⟩ = some (.slice A0 l0.length c0) := blk_cell n1 0; clear hb1)
  go_at_call 29
  refine (bytes_Clone.calls A0 c0 l0 l0 _ HR1.out HC.out HCL.out).mono ?_
  rintro e w2 ⟨v1, rfl, ho, hb2⟩
  obtain ⟨Ao, co, eo⟩ := Kd.R_slice ho
  subst eo
  have HO := Aside0.mk ho
  have HB2 := Aside0.mk hb2
  have o1 := (hb2.block _ (by have := HS1.out; omega)).trans n1
  have o2 := (hb2.block _ (by have := HS1.out; omega)).trans n2
  have c1 : w2.cell? ⟨w.heap.size, 0, none⟩ = some (.slice A0 l0.length c0) := blk_cell o1 0
  have f1 : w2.frozen? ⟨w.heap.size, 0, none⟩ = false := by simp [World.frozen?, o1]
  have o3 : (w2.setCell ⟨w.heap.size, 0, none⟩ (.slice Ao l0.length co)).heap[w.heap.size]? = some (.cells #[.slice Ao l0.length co, .int .i64 a0] 26 (0, 0)) := blk_set o1 0 (.slice Ao l0.length co)
  have o4 := blk_far o2 (p := ⟨w.heap.size, 0, none⟩) (by show w.heap.size + 1 ≠ w.heap.size; omega) (.slice Ao l0.length co)
  clear ho hb2
  have o4' : (w2.setCell ⟨w.heap.size, 0, none⟩ (.slice Ao l0.length co)).heap[w.heap.size + 1]? = some (.cells #[.slice none 0 0, .int .i64 0] 26 (0, 0)) := o4
  have HRT := Aside0.mk (Kd.R_far (p := ⟨w.heap.size, 0, none⟩) (Kd.R_lower (Kd.R_mono (Kd.R_tight rfl HO.out) (fun k_ hk_ => Nat.le_trans HS1.out (Kd.R_base HO.out k_ hk_.symm))) HS1.out) (fun k hk => by show k ≠ w.heap.size; omega) (.slice Ao l0.length co))
  have HB3 := Aside0.mk ((HB1.out.trans (HB2.out.mono (by have := HS1.out; omega))).setCell (p := ⟨w.heap.size, 0, none⟩) (Nat.le_refl _) (.slice Ao l0.length co))
  have e4 : (w2.setCell ⟨w.heap.size, 0, none⟩ (.slice Ao l0.length co)).cell? ⟨w.heap.size, 0, none⟩ = some (.slice Ao l0.length co) := blk_cell o3 0
  have e5 : (w2.setCell ⟨w.heap.size, 0, none⟩ (.slice Ao l0.length co)).cell? ⟨w.heap.size, 1, none⟩ = some (.int .i64 a0) := blk_cell o3 1
  have e6 : (w2.setCell ⟨w.heap.size, 0, none⟩ (.slice Ao l0.length co)).cell? ⟨w.heap.size + 1, 0, none⟩ = some (.slice none 0 0) := blk_cell o4' 0
  have f6 : (w2.setCell ⟨w.heap.size, 0, none⟩ (.slice Ao l0.length co)).frozen? ⟨w.heap.size + 1, 0, none⟩ = false := by simp [World.frozen?, o4']
  have o5 : ((w2.setCell ⟨w.heap.size, 0, none⟩ (.slice Ao l0.length co)).setCell ⟨w.heap.size + 1, 0, none⟩ (.slice Ao l0.length co)).heap[w.heap.size + 1]? = some (.cells #[(.slice Ao l0.length co), .int .i64 0] 26 (0, 0)) := blk_set o4' 0 (.slice Ao l0.length co)
  have e7 : ((w2.setCell ⟨w.heap.size, 0, none⟩ (.slice Ao l0.length co)).setCell ⟨w.heap.size + 1, 0, none⟩ (.slice Ao l0.length co)).cell? ⟨w.heap.size + 1, 1, none⟩ = some (.int .i64 0) := blk_cell o5 1
  have f7 : ((w2.setCell ⟨w.heap.size, 0, none⟩ (.slice Ao l0.length co)).setCell ⟨w.heap.size + 1, 0, none⟩ (.slice Ao l0.length co)).frozen? ⟨w.heap.size + 1, 1, none⟩ = false := by simp [World.frozen?, o5]
  have o6 : (((w2.setCell ⟨w.heap.size, 0, none⟩ (.slice Ao l0.length co)).setCell ⟨w.heap.size + 1, 0, none⟩ (.slice Ao l0.length co)).setCell ⟨w.heap.size + 1, 1, none⟩ (.int .i64 a0)).heap[w.heap.size + 1]? = some (.cells #[(.slice Ao l0.length co), .int .i64 a0] 26 (0, 0)) := blk_set o5 1 (.int .i64 a0)
  go_wp2
  refine bodyPost_ret (results_single rfl (.cell (w.heap.size + 1) _ _ _ _ rfl o6 hu rfl (by kernel_rfl) .nil)) rfl ?_
  exact ⟨_, rfl, Kd.R_V (Kd.R_mono (Kd.R_lower (base' := w.heap.size) (Kd.R_far (Kd.R_far HRT.out (p := ⟨w.heap.size + 1, 0, none⟩) (fun k hk => by show k ≠ w.heap.size + 1; omega) _) (p := ⟨w.heap.size + 1, 1, none⟩) (fun k hk => by show k ≠ w.heap.size + 1; omega) _) (Nat.le_add_right _ 2)) (fun k hk => by omega)), ((HB3.out.setCell (p := ⟨w.heap.size + 1, 0, none⟩) (by show w.heap.size ≤ w.heap.size + 1; omega) _).setCell (p := ⟨w.heap.size + 1, 1, none⟩) (by show w.heap.size ≤ w.heap.size + 1; omega) _)⟩
set_option maxHeartbeats 2000000 in
set_option maxRecDepth 100000 in
theorem wal_own_yes (f : FuncId) (lb : Array Value) (A0 : Option Addr) (c0 : Nat) (l0 : List Int) (a0 : Int) (w : World) (hr : Kd.C (Kd.int .u8) w A0 l0.length l0) (hc : l0.length ≤ c0) (hl : l0.length < 1000000) (hyes : okLog l0.length a0 = true) (n0 : Nat) (hn0 : n0 ≤ w.heap.size) (l1 : List Int) (s1 : Int) (X : World → Prop)
    (he : ∀ args W, (callFunc f args).run Try.prog W = .ok (.enter f args) W)
    (hX : ∀ W i u, X W → X (W.setCell ⟨w.heap.size + 1, i, none⟩ u))
    (hdo : ∀ (w3 : World) (Ao : Option Addr) (co : Nat), w3.heap[w.heap.size]? = some (.cells #[.slice Ao l0.length co, .int .i64 a0] 26 (0, 0)) → w3.heap[w.heap.size + 1]? = some (.cells #[.slice none 0 0, .int .i64 0] 26 (0, 0)) →
      Kd.R (Kd.int .u8) 5 w3 (w.heap.size + 2) (fun k => w.heap.size + 2 ≤ k) (.slice Ao l0.length co) l0 → Below w.heap.size w w3 → w.heap.size + 2 ≤ w3.heap.size →
      Calls Try.prog f (#[.pointer (some ⟨w.heap.size, 0, none⟩)] ++ lb) w3 fun e w4 => (∃ u, e = .returned u) ∧ ∃ A1 d1, w4.heap[w.heap.size]? = some (.cells #[.slice A1 l1.length d1, .int .i64 s1] 26 (0, 0)) ∧ w4.heap[w.heap.size + 1]? = some (.cells #[.slice none 0 0, .int .i64 0] 26 (0, 0)) ∧
        Kd.V (Kd.int .u8) 5 w4 (w.heap.size + 2) (fun k => w.heap.size + 2 ≤ k) (.slice A1 l1.length d1) l1 ∧ Below n0 w w4 ∧ X w4) :
    Calls Try.prog 19 #[.agg #[.slice A0 l0.length c0, .int .i64 a0], .func (.func f) #[] lb] w fun e w' => ∃ v, e = .returned (.agg #[v, .int .i64 s1]) ∧ Kd.V (Kd.int .u8) 5 w' w.heap.size (fun k => w.heap.size ≤ k) v l1 ∧ Below n0 w w' ∧ X w' := by
  have HCH := Aside0.mk (show wal_Check.f l0 a0 = some true by rw [wal_Check_f, hyes])
  have HCL := Aside0.mk (show bytes_Clone.f l0 = some l0 by unfold bytes_Clone.f; rw [if_pos (by omega)])
  have HR := Aside0.mk hr
  have HC := Aside0.mk hc
  clear hr hc
  have m0 : (w.alloc (.cells #[.slice A0 l0.length c0, .int .i64 a0] 26)).heap[w.heap.size]? = some (.cells #[.slice A0 l0.length c0, .int .i64 a0] 26 (0, 0)) := heap_alloc_new w _
  have m1 : ((w.alloc (.cells #[.slice A0 l0.length c0, .int .i64 a0] 26)).alloc (.cells #[.slice none 0 0, .int .i64 0] 26)).heap[w.heap.size]? = some (.cells #[.slice A0 l0.length c0, .int .i64 a0] 26 (0, 0)) := (Below.heap_alloc _ _ _ (by simp)).trans m0
  have m2 : ((w.alloc (.cells #[.slice A0 l0.length c0, .int .i64 a0] 26)).alloc (.cells #[.slice none 0 0, .int .i64 0] 26)).heap[w.heap.size + 1]? = some (.cells #[.slice none 0 0, .int .i64 0] 26 (0, 0)) := by
    have := heap_alloc_new (w.alloc (.cells #[.slice A0 l0.length c0, .int .i64 a0] 26)) (.cells #[.slice none 0 0, .int .i64 0] 26); rwa [World.size_alloc] at this
  have HB0 := Aside0.mk (below_alloc (below_alloc (Below.refl w.heap.size w) (.cells #[.slice A0 l0.length c0, .int .i64 a0] 26)) (.cells #[.slice none 0 0, .int .i64 0] 26))
  have HR0 := Aside0.mk (Kd.C_below HR.out HB0.out)
  have HS0 := Aside0.mk (show ((w.alloc (.cells #[.slice A0 l0.length c0, .int .i64 a0] 26)).alloc (.cells #[.slice none 0 0, .int .i64 0] 26)).heap.size = w.heap.size + 2 by simp only [World.size_alloc])
  have hu := Try.underlying26
  go_enter Try.func19, Try.ntmps19
  go_wp2_with (go_at_call 18; refine (wal_Check.calls A0 c0 l0 a0 true _ HR0.out HC.out HCH.out).mono ?_; rintro e w1 ⟨rfl, hb1⟩; have HB1 := Aside0.mk (HB0.out.trans (hb1.mono (by rw [HS0.out]; omega))); have HR1 := Aside0.mk (Kd.C_below HR0.out hb1); have n1 := (hb1.block _ (by rw [HS0.out]; omega)).trans m1; have n2 := (hb1.block _ (by rw [HS0.out]; omega)).trans m2; have HS1 := Aside0.mk (show w.heap.size + 2 ≤ w1.heap.size by have := hb1.size; rw [HS0.out] at this; exact this); have e1 : w1.cell? ⟨w.heap.size, 0, none⟩ = some (.slice A0 l0.length c0) := blk_cell n1 0; clear hb1)
  go_at_call 29
  refine (bytes_Clone.calls A0 c0 l0 l0 _ HR1.out HC.out HCL.out).mono ?_
  rintro e w2 ⟨v1, rfl, ho, hb2⟩
  obtain ⟨Ao, co, eo⟩ := Kd.R_slice ho
  subst eo
  have HO := Aside0.mk ho
  have HB2 := Aside0.mk hb2
  have o1 := (hb2.block _ (by have := HS1.out; omega)).trans n1
  have o2 := (hb2.block _ (by have := HS1.out; omega)).trans n2
  have c1 : w2.cell? ⟨w.heap.size, 0, none⟩ = some (.slice A0 l0.length c0) := blk_cell o1 0
  have f1 : w2.frozen? ⟨w.heap.size, 0, none⟩ = false := by simp [World.frozen?, o1]
  have o3 : (w2.setCell ⟨w.heap.size, 0, none⟩ (.slice Ao l0.length co)).heap[w.heap.size]? = some (.cells #[.slice Ao l0.length co, .int .i64 a0] 26 (0, 0)) := blk_set o1 0 (.slice Ao l0.length co)
  have o4 := blk_far o2 (p := ⟨w.heap.size, 0, none⟩) (by show w.heap.size + 1 ≠ w.heap.size; omega) (.slice Ao l0.length co)
  clear ho hb2
  have o4' : (w2.setCell ⟨w.heap.size, 0, none⟩ (.slice Ao l0.length co)).heap[w.heap.size + 1]? = some (.cells #[.slice none 0 0, .int .i64 0] 26 (0, 0)) := o4
  have HRT := Aside0.mk (Kd.R_far (p := ⟨w.heap.size, 0, none⟩) (Kd.R_lower (Kd.R_mono (Kd.R_tight rfl HO.out) (fun k_ hk_ => Nat.le_trans HS1.out (Kd.R_base HO.out k_ hk_.symm))) HS1.out) (fun k hk => by show k ≠ w.heap.size; omega) (.slice Ao l0.length co))
  have HB3 := Aside0.mk ((HB1.out.trans (HB2.out.mono (by have := HS1.out; omega))).setCell (p := ⟨w.heap.size, 0, none⟩) (Nat.le_refl _) (.slice Ao l0.length co))
  have hsz3 : w.heap.size + 2 ≤ (w2.setCell ⟨w.heap.size, 0, none⟩ (.slice Ao l0.length co)).heap.size := by
    have h0 : (w2.setCell ⟨w.heap.size, 0, none⟩ (.slice Ao l0.length co)).heap.size = w2.heap.size := by simp [World.setCell]
    have h1 := HB2.out.size
    have h2 := HS1.out
    omega
  go_wp2
  refine (hdo _ Ao co o3 o4' HRT.out HB3.out hsz3).mono ?_
  clear o1 o2 o3 o4 o4' n1 n2 m0 m1 m2
  rintro e w4 ⟨⟨u, rfl⟩, A1, d1, o3, o4', hV4, hB4, hX4⟩
  have e4 : (w4).cell? ⟨w.heap.size, 0, none⟩ = some (.slice A1 l1.length d1) := blk_cell o3 0
  have e5 : (w4).cell? ⟨w.heap.size, 1, none⟩ = some (.int .i64 s1) := blk_cell o3 1
  have e6 : (w4).cell? ⟨w.heap.size + 1, 0, none⟩ = some (.slice none 0 0) := blk_cell o4' 0
  have f6 : (w4).frozen? ⟨w.heap.size + 1, 0, none⟩ = false := by simp [World.frozen?, o4']
  have o5 : ((w4).setCell ⟨w.heap.size + 1, 0, none⟩ (.slice A1 l1.length d1)).heap[w.heap.size + 1]? = some (.cells #[(.slice A1 l1.length d1), .int .i64 0] 26 (0, 0)) := blk_set o4' 0 (.slice A1 l1.length d1)
  have e7 : ((w4).setCell ⟨w.heap.size + 1, 0, none⟩ (.slice A1 l1.length d1)).cell? ⟨w.heap.size + 1, 1, none⟩ = some (.int .i64 0) := blk_cell o5 1
  have f7 : ((w4).setCell ⟨w.heap.size + 1, 0, none⟩ (.slice A1 l1.length d1)).frozen? ⟨w.heap.size + 1, 1, none⟩ = false := by simp [World.frozen?, o5]
  have o6 : (((w4).setCell ⟨w.heap.size + 1, 0, none⟩ (.slice A1 l1.length d1)).setCell ⟨w.heap.size + 1, 1, none⟩ (.int .i64 s1)).heap[w.heap.size + 1]? = some (.cells #[(.slice A1 l1.length d1), .int .i64 s1] 26 (0, 0)) := blk_set o5 1 (.int .i64 s1)
  go_wp2
  refine bodyPost_ret (results_single rfl (.cell (w.heap.size + 1) _ _ _ _ rfl o6 hu rfl (by kernel_rfl) .nil)) rfl ?_
  exact ⟨_, rfl, Kd.V_mono (Kd.V_lower (Kd.V_far (Kd.V_far hV4 (p := ⟨w.heap.size + 1, 0, none⟩) (fun k hk => by show k ≠ w.heap.size + 1; omega) _) (p := ⟨w.heap.size + 1, 1, none⟩) (fun k hk => by show k ≠ w.heap.size + 1; omega) _) (by omega)) (fun k hk => by omega), ((hB4.setCell (p := ⟨w.heap.size + 1, 0, none⟩) (by show n0 ≤ w.heap.size + 1; omega) _).setCell (p := ⟨w.heap.size + 1, 1, none⟩) (by show n0 ≤ w.heap.size + 1; omega) _), hX _ _ _ (hX _ _ _ hX4)⟩
theorem ne_of_ge2 {k x : Nat} (h : x + 2 ≤ k) : k ≠ x := by omega
set_option maxHeartbeats 2000000 in
set_option maxRecDepth 100000 in
theorem wal_Sync1 (g : Nat) (Ao : Option Addr) (n co : Nat) (s : Int) (w3 : World) (hg : w3.heap[g]? = some (.cells #[.slice Ao n co, .int .i64 s] 26 (0, 0))) :
    Calls Try.prog 20 (#[.pointer (some ⟨g, 0, none⟩)] ++ #[]) w3 fun e w4 => (∃ u, e = .returned u) ∧ w4 = w3.setCell ⟨g, 1, none⟩ (.int .i64 (n : Int)) := by
  have e0 : w3.cell? ⟨g, 0, none⟩ = some (.slice Ao n co) := blk_cell hg 0
  have e1 : w3.cell? ⟨g, 1, none⟩ = some (.int .i64 s) := blk_cell hg 1
  have f1 : w3.frozen? ⟨g, 1, none⟩ = false := by simp [World.frozen?, hg]
  show Calls Try.prog 20 #[.pointer (some ⟨g, 0, none⟩)] w3 _
  go_enter Try.func20, Try.ntmps20
  go_wp2
  go_end0
  exact ⟨⟨_, rfl⟩, rfl⟩
def wal_Sync.f (l0_0 : List Int) (a0_1 : Int) : Option (List Int × Int) := if l0_0.length < 1000000 then (if okLog l0_0.length a0_1 = true then some (l0_0, (l0_0.length : Int)) else some (l0_0, a0_1)) else none
set_option maxHeartbeats 2000000 in
set_option maxRecDepth 100000 in
theorem wal_Sync.calls (A0_0 : Option Addr) (c0_0 : Nat) (l0_0 : List Int) (a0_1 : Int) (r1 : List Int) (r2 : Int) (w : World) (hr0_0 : Kd.C (Kd.int .u8) w A0_0 l0_0.length l0_0) (hc0_0 : l0_0.length ≤ c0_0) (h : wal_Sync.f l0_0 a0_1 = some (r1, r2)) :
    Calls Try.prog 9 #[.agg #[.slice A0_0 l0_0.length c0_0, .int .i64 a0_1]] w fun e w' => ∃ v0_ : Value, e = .returned (.agg #[v0_, .int .i64 r2]) ∧ Kd.V (Kd.int .u8) 5 w' w.heap.size (fun k_ => (w.heap.size ≤ k_)) v0_ r1 ∧ Below w.heap.size w w' := by
  unfold wal_Sync.f at h
  have hl : l0_0.length < 1000000 := Classical.byContradiction fun hn => by rw [if_neg hn] at h; cases h
  rw [if_pos hl] at h
  have HR := Aside0.mk hr0_0
  have HC := Aside0.mk hc0_0
  have HB0 := Aside0.mk (show Below w.heap.size w ((w.alloc (.cells #[.slice A0_0 l0_0.length c0_0, .int .i64 a0_1] 26)).alloc (.cells #[.slice none 0 0, .int .i64 0] 26)) from (below_alloc (below_alloc (Below.refl _ _) _) _))
  have HR0 := Aside0.mk (Kd.C_below HR.out HB0.out)
  have hS0 : (((w.alloc (.cells #[.slice A0_0 l0_0.length c0_0, .int .i64 a0_1] 26)).alloc (.cells #[.slice none 0 0, .int .i64 0] 26))).heap.size = w.heap.size + 2 := by simp only [World.size_alloc]
  have mr : (((w.alloc (.cells #[.slice A0_0 l0_0.length c0_0, .int .i64 a0_1] 26)).alloc (.cells #[.slice none 0 0, .int .i64 0] 26))).heap[w.heap.size + 1]? = some (.cells #[.slice none 0 0, .int .i64 0] 26 (0, 0)) := by
    have := heap_alloc_new (w.alloc (.cells #[.slice A0_0 l0_0.length c0_0, .int .i64 a0_1] 26)) (.cells #[.slice none 0 0, .int .i64 0] 26)
    simpa only [World.size_alloc] using this
  have hu := Try.underlying26
  have hown : Calls Try.prog 19 #[.agg #[.slice A0_0 l0_0.length c0_0, .int .i64 a0_1], .func (.func 20) #[] #[]] ((w.alloc (.cells #[.slice A0_0 l0_0.length c0_0, .int .i64 a0_1] 26)).alloc (.cells #[.slice none 0 0, .int .i64 0] 26)) fun e w' => ∃ v, e = .returned (.agg #[v, .int .i64 r2]) ∧ Kd.V (Kd.int .u8) 5 w' (((w.alloc (.cells #[.slice A0_0 l0_0.length c0_0, .int .i64 a0_1] 26)).alloc (.cells #[.slice none 0 0, .int .i64 0] 26))).heap.size (fun k => (((w.alloc (.cells #[.slice A0_0 l0_0.length c0_0, .int .i64 a0_1] 26)).alloc (.cells #[.slice none 0 0, .int .i64 0] 26))).heap.size ≤ k) v r1 ∧ Below (((w.alloc (.cells #[.slice A0_0 l0_0.length c0_0, .int .i64 a0_1] 26)).alloc (.cells #[.slice none 0 0, .int .i64 0] 26))).heap.size ((w.alloc (.cells #[.slice A0_0 l0_0.length c0_0, .int .i64 a0_1] 26)).alloc (.cells #[.slice none 0 0, .int .i64 0] 26)) w' := by
    by_cases hok : okLog l0_0.length a0_1 = true
    · rw [if_pos hok] at h
      refine (wal_own_yes 20 #[] A0_0 c0_0 l0_0 a0_1 ((w.alloc (.cells #[.slice A0_0 l0_0.length c0_0, .int .i64 a0_1] 26)).alloc (.cells #[.slice none 0 0, .int .i64 0] 26)) HR0.out HC.out hl hok _ (Nat.le_refl _) r1 r2 (fun _ => True) (enters_of Try.func20 (by kernel_rfl) rfl) (fun _ _ _ h => h) ?_).mono (fun e w' ⟨v, h1, h2, h3, _⟩ => ⟨v, h1, h2, h3⟩)
      intro w3 Ao co o1 o2 hR hB hs3
      obtain ⟨rfl, rfl⟩ := Prod.mk.inj (Option.some.inj h)
      refine (wal_Sync1 _ Ao _ co _ w3 o1).mono ?_
      rintro e w4 ⟨hu4, rfl⟩
      exact ⟨hu4, Ao, co, blk_set o1 1 _, blk_far o2 (Nat.succ_ne_self _) _, Kd.V_far (p := ⟨_, 1, none⟩) (Kd.R_V hR) (fun k hk => ne_of_ge2 hk) _, hB.setCell (p := ⟨_, 1, none⟩) (Nat.le_refl _) _, trivial⟩
    · rw [if_neg hok] at h
      obtain ⟨rfl, rfl⟩ := Prod.mk.inj (Option.some.inj h)
      exact wal_own_no _ A0_0 c0_0 l0_0 a0_1 ((w.alloc (.cells #[.slice A0_0 l0_0.length c0_0, .int .i64 a0_1] 26)).alloc (.cells #[.slice none 0 0, .int .i64 0] 26)) HR0.out HC.out hl (Bool.eq_false_iff.mpr hok)
  clear h
  go_enter Try.func9, Try.ntmps9
  go_wp2_with (go_at_call 19; refine hown.mono ?_)
  rintro e w2 ⟨v, rfl, hV, hb⟩
  obtain ⟨Av, cv, ev⟩ := Kd.V_slice hV
  subst ev
  have o4' := (hb.block _ (by rw [hS0]; omega)).trans mr
  rw [hS0] at hV
  have e6 : w2.cell? ⟨w.heap.size + 1, 0, none⟩ = some (.slice none 0 0) := blk_cell o4' 0
  have f6 : w2.frozen? ⟨w.heap.size + 1, 0, none⟩ = false := by simp [World.frozen?, o4']
  have o5 : (w2.setCell ⟨w.heap.size + 1, 0, none⟩ (.slice Av r1.length cv)).heap[w.heap.size + 1]? = some (.cells #[.slice Av r1.length cv, .int .i64 0] 26 (0, 0)) := blk_set o4' 0 _
  have e7 : (w2.setCell ⟨w.heap.size + 1, 0, none⟩ (.slice Av r1.length cv)).cell? ⟨w.heap.size + 1, 1, none⟩ = some (.int .i64 0) := blk_cell o5 1
  have f7 : (w2.setCell ⟨w.heap.size + 1, 0, none⟩ (.slice Av r1.length cv)).frozen? ⟨w.heap.size + 1, 1, none⟩ = false := by simp [World.frozen?, o5]
  have o6 : ((w2.setCell ⟨w.heap.size + 1, 0, none⟩ (.slice Av r1.length cv)).setCell ⟨w.heap.size + 1, 1, none⟩ (.int .i64 r2)).heap[w.heap.size + 1]? = some (.cells #[.slice Av r1.length cv, .int .i64 r2] 26 (0, 0)) := blk_set o5 1 _
  have hB2 := HB0.out.trans (hb.mono (by rw [hS0]; omega))
  clear hown mr
  go_wp2
  refine bodyPost_ret (results_single rfl (.cell (w.heap.size + 1) _ _ _ _ rfl o6 hu rfl (by kernel_rfl) .nil)) rfl ?_
  exact ⟨_, rfl, Kd.V_mono (Kd.V_lower (base' := w.heap.size) (Kd.V_far (Kd.V_far hV (p := ⟨w.heap.size + 1, 0, none⟩) (fun k hk => by show k ≠ w.heap.size + 1; omega) _) (p := ⟨w.heap.size + 1, 1, none⟩) (fun k hk => by show k ≠ w.heap.size + 1; omega) _) (by omega)) (fun k hk => by omega), (hB2.setCell (p := ⟨w.heap.size + 1, 0, none⟩) (by show w.heap.size ≤ w.heap.size + 1; omega) _).setCell (p := ⟨w.heap.size + 1, 1, none⟩) (by show w.heap.size ≤ w.heap.size + 1; omega) _⟩

end Go.Proofs.Ytbenenpkbdldmaa.P
