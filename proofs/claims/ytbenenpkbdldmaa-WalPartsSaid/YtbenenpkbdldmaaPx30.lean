-- Written by wip/gprint.py, a program of this session over the kit's print; Lean checks it.
import Derived.Test.YtbenenpkbdldmaaPx0
import Derived.Test.YtbenenpkbdldmaaPx19
import Derived.Test.YtbenenpkbdldmaaPx22
import Derived.Shelf.Abstract
namespace Go.Proofs.Ytbenenpkbdldmaa.P
open Go.RowKit Go.Proofs.YtbenenpkbdldmaaW.PrintWords Go.Proofs.YtbenenpkbdldmaaW.PrintLast Go.Proofs.YtbenenpkbdldmaaW.PrintMore
attribute [local go_sem] max2_int min2_int max_two min_two max_three min_three max_four min_four   -- for this text's walks alone
set_option linter.unusedVariables false
set_option linter.unusedSimpArgs false

/-GIVEN wal_Texts-/
/-! ### wal_Texts: function 13 -/
theorem results_cell1 {P : Program} {fn : Func} {p : Tmp} {ty e : TypeId} (h : fn.results = #[.cell p ty]) (tmps : Array Value) (w : World) (g : Nat) (v : Value)
    (hp : tmps.getD p undef = .pointer (some ⟨g, 0, none⟩)) (hg : w.cell? ⟨g, 0, none⟩ = some v) (hu : P.underlying ty = some (.slice e)) :
    (results fn tmps).run P w = .ok v w := by
  have h1 : tmps[p]?.getD undef = .pointer (some ⟨g, 0, none⟩) := by simpa using hp
  simp [results, h, h1, asAddr, loadVar, isAgg, run_underlying hu, go_sem, hg]
set_option maxHeartbeats 2000000 in
set_option maxRecDepth 100000 in
theorem wal_Texts1 (g op : Nat) (Ao : Option Addr) (co : Nat) (l0 : List Int) (s m : Int) (ts : List (List Int)) (v0 : Value) (w3 : World) (hg : w3.heap[g]? = some (.cells #[.slice Ao l0.length co, .int .i64 s] 26 (0, 0))) (ho : w3.heap[op]? = some (.cells #[v0] 22 (0, 0))) (hC : Kd.C (Kd.int .u8) w3 Ao l0.length l0) (hc : l0.length ≤ co) (hall : frame_All.f l0 = some (ts, m)) :
    Calls Try.prog 28 (#[.pointer (some ⟨g, 0, none⟩)] ++ #[.pointer (some ⟨op, 0, none⟩)]) w3 fun e w4 => (∃ u, e = .returned u) ∧ ∃ w5 v, Below w3.heap.size w3 w5 ∧ Kd.N (Kd.slice 5 (Kd.int .u8)) 23 w5 w3.heap.size (fun k => w3.heap.size ≤ k) v ts ∧ w4 = w5.setCell ⟨op, 0, none⟩ v := by
  have e0 : w3.cell? ⟨g, 0, none⟩ = some (.slice Ao l0.length co) := blk_cell hg 0
  have hlt : op < w3.heap.size := (Array.getElem?_eq_some_iff.1 ho).1
  show Calls Try.prog 28 #[.pointer (some ⟨g, 0, none⟩), .pointer (some ⟨op, 0, none⟩)] w3 _
  go_enter Try.func28, Try.ntmps28
  go_wp2_with (go_at_call 26; refine (frame_All.calls Ao co l0 ts m _ hC hc hall).mono ?_)
  rintro e w5 ⟨v, rfl, hN, hb⟩
  obtain ⟨A5, c5, rfl⟩ := Kd.N_slice hN
  have o5 := (hb.block _ hlt).trans ho
  have x0 : w5.cell? ⟨op, 0, none⟩ = some v0 := blk_cell o5 0
  have y0 : w5.frozen? ⟨op, 0, none⟩ = false := by simp [World.frozen?, o5]
  go_wp2
  go_end0
  exact ⟨⟨_, rfl⟩, w5, _, hb, hN, rfl⟩
def wal_Texts.f (l0_0 : List Int) (a0_1 : Int) : Option ((List (List Int))) := if l0_0.length < 1000000 then (if okLog l0_0.length a0_1 = true then (frame_All.f l0_0).map (·.1) else some []) else none
set_option maxHeartbeats 2000000 in
set_option maxRecDepth 100000 in
theorem wal_Texts.calls (A0_0 : Option Addr) (c0_0 : Nat) (l0_0 : List Int) (a0_1 : Int) (r : List (List Int)) (w : World) (hr0_0 : Kd.C (Kd.int .u8) w A0_0 l0_0.length l0_0) (hc0_0 : l0_0.length ≤ c0_0) (h : wal_Texts.f l0_0 a0_1 = some r) :
    Calls Try.prog 13 #[.agg #[.slice A0_0 l0_0.length c0_0, .int .i64 a0_1]] w fun e w' => ∃ v0_ : Value, e = .returned (v0_) ∧ Kd.N (Kd.slice 5 (Kd.int .u8)) 23 w' w.heap.size (fun k_ => (w.heap.size ≤ k_)) v0_ r ∧ Below w.heap.size w w' := by
  unfold wal_Texts.f at h
  have hl : l0_0.length < 1000000 := Classical.byContradiction fun hn => by rw [if_neg hn] at h; cases h
  rw [if_pos hl] at h
  have HR := Aside0.mk hr0_0
  have HC := Aside0.mk hc0_0
  obtain ⟨W0, hW0⟩ : ∃ W0, W0 = (w.alloc (.cells #[.slice A0_0 l0_0.length c0_0, .int .i64 a0_1] 26)).alloc (.cells #[.slice none 0 0] 22) := ⟨_, rfl⟩
  have HB0 := Aside0.mk (show Below w.heap.size w W0 from hW0 ▸ below_alloc (below_alloc (Below.refl _ _) _) _)
  have HR0 := Aside0.mk (Kd.C_below HR.out HB0.out)
  have hS0 : W0.heap.size = w.heap.size + 2 := by rw [hW0]; simp only [World.size_alloc]
  have mr : W0.heap[w.heap.size + 1]? = some (.cells #[.slice none 0 0] 22 (0, 0)) := by
    have := heap_alloc_new (w.alloc (.cells #[.slice A0_0 l0_0.length c0_0, .int .i64 a0_1] 26)) (.cells #[.slice none 0 0] 22)
    rw [World.size_alloc, ← hW0] at this
    exact this
  have hown : Calls Try.prog 19 #[.agg #[.slice A0_0 l0_0.length c0_0, .int .i64 a0_1], .func (.func 28) #[] #[.pointer (some ⟨w.heap.size + 1, 0, none⟩)]] W0 fun e w' => (∃ u, e = .returned u) ∧ ∃ v, w'.heap[w.heap.size + 1]? = some (.cells #[v] 22 (0, 0)) ∧ Kd.N (Kd.slice 5 (Kd.int .u8)) 23 w' w.heap.size (fun k => w.heap.size + 4 ≤ k) v r ∧ Below w.heap.size W0 w' := by
    by_cases hok : okLog l0_0.length a0_1 = true
    · rw [if_pos hok] at h
      obtain ⟨⟨ts, m⟩, hall, rfl⟩ := Option.map_eq_some_iff.mp h
      refine (wal_own_yes 28 #[.pointer (some ⟨w.heap.size + 1, 0, none⟩)] A0_0 c0_0 l0_0 a0_1 W0 HR0.out HC.out hl hok w.heap.size (by omega) l0_0 a0_1
        (fun w' => ∃ v, w'.heap[w.heap.size + 1]? = some (.cells #[v] 22 (0, 0)) ∧ Kd.N (Kd.slice 5 (Kd.int .u8)) 23 w' w.heap.size (fun k => w.heap.size + 4 ≤ k) v ts)
        (enters_of Try.func28 (by kernel_rfl) rfl) ?_ ?_).mono (fun e w' ⟨v, h1, h2, h3, v2, h4, h5⟩ => ⟨⟨_, h1⟩, v2, h4, h5, h3⟩)
      · rintro W i u ⟨v, h1, h2⟩
        exact ⟨v, blk_far h1 (by show w.heap.size + 1 ≠ W0.heap.size + 1; omega) _, Kd.N_far h2 (fun k hk => by show k ≠ W0.heap.size + 1; omega) _⟩
      · intro w3 Ao co o1 o2 hR hB hs3
        have ho := (hB.block _ (by omega)).trans mr
        refine (wal_Texts1 _ (w.heap.size + 1) Ao co l0_0 _ m ts _ w3 o1 ho (Kd.R_reads' hR).2.2 (Kd.R_reads' hR).2.1 hall).mono ?_
        rintro e w4 ⟨hu4, w5, v, hb5, hN, rfl⟩
        have p1 := (hb5.block _ (Array.getElem?_eq_some_iff.1 o1).1).trans o1
        have p2 := (hb5.block _ (Array.getElem?_eq_some_iff.1 o2).1).trans o2
        have p3 := (hb5.block _ (Array.getElem?_eq_some_iff.1 ho).1).trans ho
        refine ⟨hu4, Ao, co, blk_far p1 (by show W0.heap.size ≠ w.heap.size + 1; omega) _, blk_far p2 (by show W0.heap.size + 1 ≠ w.heap.size + 1; omega) _, Kd.V_far (Kd.V_below (Kd.R_V hR) hb5) (p := ⟨w.heap.size + 1, 0, none⟩) (fun k hk => by show k ≠ w.heap.size + 1; omega) _, ((hB.mono (by omega)).trans (hb5.mono (by omega))).setCell (p := ⟨w.heap.size + 1, 0, none⟩) (by show w.heap.size ≤ w.heap.size + 1; omega) _, v, blk_set p3 0 v, ?_⟩
        exact Kd.N_far (Kd.N_lower (Kd.N_mono hN (fun k hk => by omega)) (by omega)) (p := ⟨w.heap.size + 1, 0, none⟩) (fun k hk => by show k ≠ w.heap.size + 1; omega) _
    · rw [if_neg hok] at h
      obtain rfl := Option.some.inj h
      refine (wal_own_no _ A0_0 c0_0 l0_0 a0_1 W0 HR0.out HC.out hl (Bool.eq_false_iff.mpr hok)).mono ?_
      rintro e w' ⟨v, rfl, hV, hb⟩
      exact ⟨⟨_, rfl⟩, _, (hb.block _ (by omega)).trans mr, Kd.N_nil _ _ _ _ _, hb.mono (by omega)⟩
  clear h
  go_enter Try.func13, Try.ntmps13
  go_wp2_with (go_at_call 19; rw [← hW0]; refine hown.mono ?_)
  rintro e w2 ⟨⟨u, rfl⟩, v, hv, hN, hb⟩
  obtain ⟨Av, cv, rfl⟩ := Kd.N_slice hN
  have e6 : w2.cell? ⟨w.heap.size + 1, 0, none⟩ = some (.slice Av r.length cv) := blk_cell hv 0
  have f6 : w2.frozen? ⟨w.heap.size + 1, 0, none⟩ = false := by simp [World.frozen?, hv]
  have o6 : (w2.setCell ⟨w.heap.size + 1, 0, none⟩ (.slice Av r.length cv)).cell? ⟨w.heap.size + 1, 0, none⟩ = some (.slice Av r.length cv) := blk_cell (blk_set hv 0 (.slice Av r.length cv)) 0
  have hB2 := HB0.out.trans hb
  clear hown mr
  go_wp2
  refine bodyPost_ret (results_cell1 rfl _ _ (w.heap.size + 1) _ rfl o6 Try.underlying22) rfl ?_
  exact ⟨_, rfl, Kd.N_mono (Kd.N_far hN (p := ⟨w.heap.size + 1, 0, none⟩) (fun k hk => by show k ≠ w.heap.size + 1; omega) _) (fun k hk => by omega), hB2.setCell (p := ⟨w.heap.size + 1, 0, none⟩) (by show w.heap.size ≤ w.heap.size + 1; omega) _⟩

end Go.Proofs.Ytbenenpkbdldmaa.P
