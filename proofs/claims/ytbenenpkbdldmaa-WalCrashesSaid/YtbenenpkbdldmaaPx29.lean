-- Written by wip/gprint.py, a program of this session over the kit's print; Lean checks it.
import Derived.Test.YtbenenpkbdldmaaPx0
import Derived.Test.YtbenenpkbdldmaaPx22
import Derived.Shelf.Abstract
namespace Go.Proofs.Ytbenenpkbdldmaa.P
open Go.RowKit Go.Proofs.YtbenenpkbdldmaaW.PrintWords Go.Proofs.YtbenenpkbdldmaaW.PrintLast Go.Proofs.YtbenenpkbdldmaaW.PrintMore
attribute [local go_sem] max2_int min2_int max_two min_two max_three min_three max_four min_four   -- for this text's walks alone
set_option linter.unusedVariables false
set_option linter.unusedSimpArgs false

/-GIVEN wal_Crash-/
/-! ### wal_Crash: function 12 -/
set_option maxHeartbeats 2000000 in
set_option maxRecDepth 100000 in
theorem wal_Crash1 (g kp : Nat) (Ao : Option Addr) (n co : Nat) (s keep m : Int) (w3 : World) (hg : w3.heap[g]? = some (.cells #[.slice Ao n co, .int .i64 s] 26 (0, 0))) (hk : w3.cell? ⟨kp, 0, none⟩ = some (.int .i64 keep)) (hne : kp ≠ g) (hm : mn (mx keep s) (n : Int) = m) (h0 : 0 ≤ m) (h1 : m ≤ (n : Int)) (hc : n ≤ co) :
    Calls Try.prog 27 (#[.pointer (some ⟨g, 0, none⟩)] ++ #[.pointer (some ⟨kp, 0, none⟩)]) w3 fun e w4 => (∃ u, e = .returned u) ∧ w4 = ((((w3.setCell ⟨g, 1, none⟩ (.int .i64 m)).setCell ⟨g, 0, none⟩ (.slice Ao m.toNat co)).drew).drew) := by
  have e0 : w3.cell? ⟨g, 0, none⟩ = some (.slice Ao n co) := blk_cell hg 0
  have e1 : w3.cell? ⟨g, 1, none⟩ = some (.int .i64 s) := blk_cell hg 1
  have f0 : w3.frozen? ⟨g, 0, none⟩ = false := by simp [World.frozen?, hg]
  have f1 : w3.frozen? ⟨g, 1, none⟩ = false := by simp [World.frozen?, hg]
  obtain ⟨q, hq⟩ : ∃ q, mx keep s = q := ⟨_, rfl⟩
  rw [hq] at hm
  have hq' : (if keep < s then s else keep) = q := hq
  have hm' : (if (n : Int) < q then (n : Int) else q) = m := hm
  have h2 : m ≤ (co : Int) := by omega
  have o1 : ((w3.setCell ⟨g, 1, none⟩ (.int .i64 m)).drew).heap[g]? = some (.cells #[.slice Ao n co, .int .i64 m] 26 (0, 0)) := blk_set hg 1 _
  have e2 : ((w3.setCell ⟨g, 1, none⟩ (.int .i64 m)).drew).cell? ⟨g, 0, none⟩ = some (.slice Ao n co) := blk_cell o1 0
  have e3 : ((w3.setCell ⟨g, 1, none⟩ (.int .i64 m)).drew).cell? ⟨g, 1, none⟩ = some (.int .i64 m) := blk_cell o1 1
  have f2 : ((w3.setCell ⟨g, 1, none⟩ (.int .i64 m)).drew).frozen? ⟨g, 0, none⟩ = false := by simp [World.frozen?, o1]
  have hcut := (fun W : World => show (Instr.slice 23 (.slice Ao n co) none (some (.int .i64 m)) none).run Try.prog W = .ok (.slice Ao m.toNat co) W by
    obtain ⟨i0, hi0, _, hsz, _⟩ := info_parts info5
    have hel : (Try.prog).elem 23 = 5 := by simp [Program.elem, Try.underlying23]
    have hu : (Try.prog).underlying 23 = some (.slice ((Try.prog).elem 23)) := by rw [hel]; exact Try.underlying23
    rw [run_slice_h W 23 Ao n co hu .i64 m h0 h2, hel]
    cases Ao <;> simp [sizeOf, typeInfo, hi0, sliced, Result.andThen, Addr.add])
  show Calls Try.prog 27 #[.pointer (some ⟨g, 0, none⟩), .pointer (some ⟨kp, 0, none⟩)] w3 _
  go_enter Try.func27, Try.ntmps27
  go_wp2
  go_region
  go_wp2
  go_region
  go_end0
  exact ⟨⟨_, rfl⟩, rfl⟩
def wal_Crash.f (l0_0 : List Int) (a0_1 : Int) (a1 : Int) : Option (List Int × Int) := if l0_0.length < 1000000 then (if okLog l0_0.length a0_1 = true then some (l0_0.take (mn (mx a1 a0_1) (l0_0.length : Int)).toNat, mn (mx a1 a0_1) (l0_0.length : Int)) else some (l0_0, a0_1)) else none
set_option maxHeartbeats 2000000 in
set_option maxRecDepth 100000 in
theorem wal_Crash.calls (A0_0 : Option Addr) (c0_0 : Nat) (l0_0 : List Int) (a0_1 : Int) (a1 : Int) (r1 : List Int) (r2 : Int) (w : World) (hr0_0 : Kd.C (Kd.int .u8) w A0_0 l0_0.length l0_0) (hc0_0 : l0_0.length ≤ c0_0) (h : wal_Crash.f l0_0 a0_1 a1 = some (r1, r2)) :
    Calls Try.prog 12 #[.agg #[.slice A0_0 l0_0.length c0_0, .int .i64 a0_1], .int .i64 a1] w fun e w' => ∃ v0_ : Value, e = .returned (.agg #[v0_, .int .i64 r2]) ∧ Kd.V (Kd.int .u8) 5 w' w.heap.size (fun k_ => (w.heap.size ≤ k_)) v0_ r1 ∧ Below w.heap.size w w' := by
  unfold wal_Crash.f at h
  have hl : l0_0.length < 1000000 := Classical.byContradiction fun hn => by rw [if_neg hn] at h; cases h
  rw [if_pos hl] at h
  have HR := Aside0.mk hr0_0
  have HC := Aside0.mk hc0_0
  have HB0 := Aside0.mk (show Below w.heap.size w (((w.alloc (.cells #[.slice A0_0 l0_0.length c0_0, .int .i64 a0_1] 26)).alloc (.cells #[.int .i64 a1] 3)).alloc (.cells #[.slice none 0 0, .int .i64 0] 26)) from (below_alloc (below_alloc (below_alloc (Below.refl _ _) _) _) _))
  have HR0 := Aside0.mk (Kd.C_below HR.out HB0.out)
  have hS0 : ((((w.alloc (.cells #[.slice A0_0 l0_0.length c0_0, .int .i64 a0_1] 26)).alloc (.cells #[.int .i64 a1] 3)).alloc (.cells #[.slice none 0 0, .int .i64 0] 26))).heap.size = w.heap.size + 3 := by simp only [World.size_alloc]
  have mr : ((((w.alloc (.cells #[.slice A0_0 l0_0.length c0_0, .int .i64 a0_1] 26)).alloc (.cells #[.int .i64 a1] 3)).alloc (.cells #[.slice none 0 0, .int .i64 0] 26))).heap[w.heap.size + 1 + 1]? = some (.cells #[.slice none 0 0, .int .i64 0] 26 (0, 0)) := by
    have := heap_alloc_new ((w.alloc (.cells #[.slice A0_0 l0_0.length c0_0, .int .i64 a0_1] 26)).alloc (.cells #[.int .i64 a1] 3)) (.cells #[.slice none 0 0, .int .i64 0] 26)
    simpa only [World.size_alloc] using this
  have hu := Try.underlying26
  have hkw : (((w.alloc (.cells #[.slice A0_0 l0_0.length c0_0, .int .i64 a0_1] 26)).alloc (.cells #[.int .i64 a1] 3)).alloc (.cells #[.slice none 0 0, .int .i64 0] 26)).cell? ⟨w.heap.size + 1, 0, none⟩ = some (.int .i64 a1) := by
    have := heap_alloc_new (w.alloc (.cells #[.slice A0_0 l0_0.length c0_0, .int .i64 a0_1] 26)) (.cells #[.int .i64 a1] 3)
    rw [World.size_alloc] at this
    exact blk_cell ((Below.heap_alloc _ _ _ (by simp)).trans this) 0
  have hown : Calls Try.prog 19 #[.agg #[.slice A0_0 l0_0.length c0_0, .int .i64 a0_1], .func (.func 27) #[] #[.pointer (some ⟨w.heap.size + 1, 0, none⟩)]] (((w.alloc (.cells #[.slice A0_0 l0_0.length c0_0, .int .i64 a0_1] 26)).alloc (.cells #[.int .i64 a1] 3)).alloc (.cells #[.slice none 0 0, .int .i64 0] 26)) fun e w' => ∃ v, e = .returned (.agg #[v, .int .i64 r2]) ∧ Kd.V (Kd.int .u8) 5 w' ((((w.alloc (.cells #[.slice A0_0 l0_0.length c0_0, .int .i64 a0_1] 26)).alloc (.cells #[.int .i64 a1] 3)).alloc (.cells #[.slice none 0 0, .int .i64 0] 26))).heap.size (fun k => ((((w.alloc (.cells #[.slice A0_0 l0_0.length c0_0, .int .i64 a0_1] 26)).alloc (.cells #[.int .i64 a1] 3)).alloc (.cells #[.slice none 0 0, .int .i64 0] 26))).heap.size ≤ k) v r1 ∧ Below ((((w.alloc (.cells #[.slice A0_0 l0_0.length c0_0, .int .i64 a0_1] 26)).alloc (.cells #[.int .i64 a1] 3)).alloc (.cells #[.slice none 0 0, .int .i64 0] 26))).heap.size (((w.alloc (.cells #[.slice A0_0 l0_0.length c0_0, .int .i64 a0_1] 26)).alloc (.cells #[.int .i64 a1] 3)).alloc (.cells #[.slice none 0 0, .int .i64 0] 26)) w' := by
    by_cases hok : okLog l0_0.length a0_1 = true
    · rw [if_pos hok] at h
      refine (wal_own_yes 27 #[.pointer (some ⟨w.heap.size + 1, 0, none⟩)] A0_0 c0_0 l0_0 a0_1 (((w.alloc (.cells #[.slice A0_0 l0_0.length c0_0, .int .i64 a0_1] 26)).alloc (.cells #[.int .i64 a1] 3)).alloc (.cells #[.slice none 0 0, .int .i64 0] 26)) HR0.out HC.out hl hok _ (Nat.le_refl _) r1 r2 (fun _ => True) (enters_of Try.func27 (by kernel_rfl) rfl) (fun _ _ _ h => h) ?_).mono (fun e w' ⟨v, h1, h2, h3, _⟩ => ⟨v, h1, h2, h3⟩)
      intro w3 Ao co o1 o2 hR hB hs3
      obtain ⟨rfl, rfl⟩ := Prod.mk.inj (Option.some.inj h)
      have hk3 : w3.cell? ⟨w.heap.size + 1, 0, none⟩ = some (.int .i64 a1) := (hB.cell (by simp only [World.size_alloc]; show w.heap.size + 1 < _; omega)).trans hkw
      have hco : l0_0.length ≤ co := (Kd.R_reads' hR).2.1
      have hbd : 0 ≤ mn (mx a1 a0_1) (l0_0.length : Int) ∧ mn (mx a1 a0_1) (l0_0.length : Int) ≤ (l0_0.length : Int) := by
        unfold okLog at hok
        simp only [Bool.and_eq_true, decide_eq_true_eq] at hok
        unfold mn mx
        constructor <;> (repeat' split) <;> omega
      have hle : (l0_0.take (mn (mx a1 a0_1) (l0_0.length : Int)).toNat).length = (mn (mx a1 a0_1) (l0_0.length : Int)).toNat := by rw [List.length_take]; omega
      refine (wal_Crash1 _ (w.heap.size + 1) Ao _ co _ a1 _ w3 o1 hk3 (by simp only [World.size_alloc]; omega) rfl hbd.1 hbd.2 hco).mono ?_
      rintro e w4 ⟨hu4, rfl⟩
      rw [hle]
      have hV := Kd.V_mk (e := 5) (base := 0) (c := co) (by rw [hle]; omega) (Kd.F_take (Kd.R_F hR) (m := (mn (mx a1 a0_1) (l0_0.length : Int)).toNat) (by omega))
      rw [hle] at hV
      exact ⟨hu4, Ao, co, blk_set (blk_set o1 1 _) 0 _, blk_far (blk_far o2 (Nat.succ_ne_self _) _) (Nat.succ_ne_self _) _, Kd.V_drew (Kd.V_drew (Kd.V_far (p := ⟨_, 0, none⟩) (Kd.V_far (p := ⟨_, 1, none⟩) hV (fun k hk => ne_of_ge2 hk) _) (fun k hk => ne_of_ge2 hk) _)), below_drew (below_drew ((hB.setCell (p := ⟨_, 1, none⟩) (Nat.le_refl _) _).setCell (p := ⟨_, 0, none⟩) (Nat.le_refl _) _)), trivial⟩
    · rw [if_neg hok] at h
      obtain ⟨rfl, rfl⟩ := Prod.mk.inj (Option.some.inj h)
      exact wal_own_no _ A0_0 c0_0 l0_0 a0_1 (((w.alloc (.cells #[.slice A0_0 l0_0.length c0_0, .int .i64 a0_1] 26)).alloc (.cells #[.int .i64 a1] 3)).alloc (.cells #[.slice none 0 0, .int .i64 0] 26)) HR0.out HC.out hl (Bool.eq_false_iff.mpr hok)
  clear h
  go_enter Try.func12, Try.ntmps12
  go_wp2_with (go_at_call 19; refine hown.mono ?_)
  rintro e w2 ⟨v, rfl, hV, hb⟩
  obtain ⟨Av, cv, ev⟩ := Kd.V_slice hV
  subst ev
  have o4' := (hb.block _ (by rw [hS0]; omega)).trans mr
  rw [hS0] at hV
  have e6 : w2.cell? ⟨w.heap.size + 1 + 1, 0, none⟩ = some (.slice none 0 0) := blk_cell o4' 0
  have f6 : w2.frozen? ⟨w.heap.size + 1 + 1, 0, none⟩ = false := by simp [World.frozen?, o4']
  have o5 : (w2.setCell ⟨w.heap.size + 1 + 1, 0, none⟩ (.slice Av r1.length cv)).heap[w.heap.size + 1 + 1]? = some (.cells #[.slice Av r1.length cv, .int .i64 0] 26 (0, 0)) := blk_set o4' 0 _
  have e7 : (w2.setCell ⟨w.heap.size + 1 + 1, 0, none⟩ (.slice Av r1.length cv)).cell? ⟨w.heap.size + 1 + 1, 1, none⟩ = some (.int .i64 0) := blk_cell o5 1
  have f7 : (w2.setCell ⟨w.heap.size + 1 + 1, 0, none⟩ (.slice Av r1.length cv)).frozen? ⟨w.heap.size + 1 + 1, 1, none⟩ = false := by simp [World.frozen?, o5]
  have o6 : ((w2.setCell ⟨w.heap.size + 1 + 1, 0, none⟩ (.slice Av r1.length cv)).setCell ⟨w.heap.size + 1 + 1, 1, none⟩ (.int .i64 r2)).heap[w.heap.size + 1 + 1]? = some (.cells #[.slice Av r1.length cv, .int .i64 r2] 26 (0, 0)) := blk_set o5 1 _
  have hB2 := HB0.out.trans (hb.mono (by rw [hS0]; omega))
  clear hown mr
  go_wp2
  refine bodyPost_ret (results_single rfl (.cell (w.heap.size + 1 + 1) _ _ _ _ rfl o6 hu rfl (by kernel_rfl) .nil)) rfl ?_
  exact ⟨_, rfl, Kd.V_mono (Kd.V_lower (base' := w.heap.size) (Kd.V_far (Kd.V_far hV (p := ⟨w.heap.size + 1 + 1, 0, none⟩) (fun k hk => by show k ≠ w.heap.size + 1 + 1; omega) _) (p := ⟨w.heap.size + 1 + 1, 1, none⟩) (fun k hk => by show k ≠ w.heap.size + 1 + 1; omega) _) (by omega)) (fun k hk => by omega), (hB2.setCell (p := ⟨w.heap.size + 1 + 1, 0, none⟩) (by show w.heap.size ≤ w.heap.size + 1 + 1; omega) _).setCell (p := ⟨w.heap.size + 1 + 1, 1, none⟩) (by show w.heap.size ≤ w.heap.size + 1 + 1; omega) _⟩

end Go.Proofs.Ytbenenpkbdldmaa.P
