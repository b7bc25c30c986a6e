import Derived.Test.YtbjeaalbdaedpaaPx1
import Derived.Test.YtbjeaalbdaedpaaPx0
import Derived.Test.YtbjeaalbdaedpaaPx44
import Derived.Test.YtbjeaalbdaedpaaPx69
import Derived.Test.YtbjeaalbdaedpaaPx80
import Derived.Test.YtbjeaalbdaedpaaPx81
import Derived.Test.YtbjeaalbdaedpaaPx82
import Derived.Test.YtbjeaalbdaedpaaPx90
import Derived.Test.YtbjeaalbdaedpaaPx93
import Derived.Test.YtbjeaalbdaedpaaPx97
namespace Go.Proofs.Ytbjeaalbdaedpaa.P
open Go.RowKit Go.Proofs.YtbjeaalbdaedpaaW.PrintWords Go.Proofs.YtbjeaalbdaedpaaW.PrintLast Go.Proofs.YtbjeaalbdaedpaaW.PrintMore
attribute [local go_sem] max2_int min2_int max_two min_two max_three min_three max_four min_four
set_option linter.unusedVariables false
set_option linter.unusedSimpArgs false
def banksmanlaw08_DeltaTwice.j0 : Nat → List (S53) → Bool → Bool → List (S28) → List Int → Int → List Int → List Int → Bool → Option (Bool)
  | 0, _, _, _, _, _, _, _, _, _ => none
  | k + 1, x2, x7, x34, x537000, x537001, x538000, x538001, x538002, x538003 => if x34 = true then (some x7) else ((delta_Over.f x537000 x537001 x538000 x538001 x538002 x538003 x2).bind fun t541 => ((delta_Over.f x537000 x537001 x538000 x538001 x538002 x538003 t541).bind fun t544 => ((banksmanref07_Pairs.f k t544 t541).bind fun t547 => ((delta_Last.f x537000 x537001).bind fun t548 => (if (t548.length : Int) = 0 then (if x7 = true then (some t547) else (some false)) else (if 0 < (t548.length : Int) then ((delta_Put.f k x537000 x537001 ((rd_T28 t548 0).f0) ((rd_T28 t548 0).f1) ((rd_T28 t548 0).f2) ((rd_T28 t548 0).f3)).bind fun bt552 => ((delta_Last.f bt552.1 bt552.2.1).bind fun t560 => ((banksmanref08_Writes.f k t560 t548).bind fun t563 => (if x7 = true then (if t547 = true then (if bt552.2.2 = 0 then (some t563) else (some true)) else (some false)) else (some false))))) else (none)))))))
def banksmanlaw08_DeltaTwice.f (k : Nat) (l0_0 : List (S28)) (l0_1 : List Int) (a1_0 : Int) (l1_1 : List Int) (l1_2 : List Int) (a1_3 : Bool) (l2 : List (S53)) : Option (Bool) := (banksmanlaw08_awake.f).bind fun t538 => ((banksmanref08_Few.f k l0_0 l0_1).bind fun t539 => (if t539 = true then (if (l1_1.length : Int) > 100 then (banksmanlaw08_DeltaTwice.j0 k l2 t538 true l0_0 l0_1 a1_0 l1_1 l1_2 a1_3) else (if (l1_2.length : Int) > 100 then (banksmanlaw08_DeltaTwice.j0 k l2 t538 true l0_0 l0_1 a1_0 l1_1 l1_2 a1_3) else ((banksmanlaw08_short.f k l2).bind fun t540 => (banksmanlaw08_DeltaTwice.j0 k l2 t538 (!t540) l0_0 l0_1 a1_0 l1_1 l1_2 a1_3)))) else (banksmanlaw08_DeltaTwice.j0 k l2 t538 true l0_0 l0_1 a1_0 l1_1 l1_2 a1_3)))
def banksmanlaw08_DeltaTwice.T9 : Bool × List (List Nat × List Nat) := (true, [([], []), ([], []), ([1], [1]), ([2], [2]), ([0, 3], [0, 3]), ([4], [4]), ([5], [5]), ([5], [5]), ([], []), ([8, 6, 4, 0, 1, 2, 3, 4, 5, 6, 8], [6, 8]), ([7, 9, 0, 1, 2, 3, 4, 5, 6, 7, 8, 9], [7])])
def banksmanlaw08_DeltaTwice.B9 : List Nat := [0, 0, 2, 6, 15, 31, 63, 63, 0, 383, 1023]
theorem banksmanlaw08_DeltaTwice.tab9 : rtab .any (opsOf Try.f7 9) = banksmanlaw08_DeltaTwice.T9 := by kernel_rfl
theorem banksmanlaw08_DeltaTwice.bits9 : waitsOk banksmanlaw08_DeltaTwice.T9.2 banksmanlaw08_DeltaTwice.B9 = true := by kernel_rfl
set_option maxHeartbeats 8000000 in
set_option maxRecDepth 100000 in
theorem banksmanlaw08_DeltaTwice.calls (k : Nat) (A0_0 : Option Addr) (c0_0 : Nat) (l0_0 : List (S28)) (A0_1 : Option Addr) (c0_1 : Nat) (l0_1 : List Int) (a1_0 : Int) (A1_1 : Option Addr) (c1_1 : Nat) (l1_1 : List Int) (A1_2 : Option Addr) (c1_2 : Nat) (l1_2 : List Int) (a1_3 : Bool) (A2 : Option Addr) (c2 : Nat) (l2 : List (S53)) (r : Bool) (w : World) (hr0_0 : Kd.C k28 w A0_0 l0_0.length l0_0) (hc0_0 : l0_0.length ≤ c0_0) (hr0_1 : Kd.C (Kd.int .i64) w A0_1 l0_1.length l0_1) (hc0_1 : l0_1.length ≤ c0_1) (hr1_1 : Kd.C (Kd.int .u8) w A1_1 l1_1.length l1_1) (hc1_1 : l1_1.length ≤ c1_1) (hr1_2 : Kd.C (Kd.int .u8) w A1_2 l1_2.length l1_2) (hc1_2 : l1_2.length ≤ c1_2) (hr2 : Kd.C k53 w A2 l2.length l2) (hc2 : l2.length ≤ c2) (h : banksmanlaw08_DeltaTwice.f k l0_0 l0_1 a1_0 l1_1 l1_2 a1_3 l2 = some r) (HTr_ : r = true) :
  Calls Try.prog 7 #[.agg #[.slice A0_0 l0_0.length c0_0, .slice A0_1 l0_1.length c0_1], .agg #[.int .i64 a1_0, .slice A1_1 l1_1.length c1_1, .slice A1_2 l1_2.length c1_2, .bool a1_3], .slice A2 l2.length c2] w fun e w' => e = .returned (.bool r) ∧ Below w.heap.size w w' := by
 have hu25 := Try.underlying25
 have hu39 := Try.underlying39
 have hu28 := Try.underlying28
 have HR0_0 := aM hr0_0
 have HC0_0 := aM hc0_0
 clear hr0_0 hc0_0
 have HR0_1 := aM hr0_1
 have HC0_1 := aM hc0_1
 clear hr0_1 hc0_1
 have HR1_1 := aM hr1_1
 have HC1_1 := aM hc1_1
 clear hr1_1 hc1_1
 have HR1_2 := aM hr1_2
 have HC1_2 := aM hc1_2
 clear hr1_2 hc1_2
 have HR2 := aM hr2
 have HC2 := aM hc2
 clear hr2 hc2
 have HB := aM (Below.refl w.heap.size w)
 have H : ((banksmanlaw08_awake.f).bind fun t538 => ((banksmanref08_Few.f k l0_0 l0_1).bind fun t539 => (if t539 = true then (if (l1_1.length : Int) > 100 then (banksmanlaw08_DeltaTwice.j0 k l2 t538 true l0_0 l0_1 a1_0 l1_1 l1_2 a1_3) else (if (l1_2.length : Int) > 100 then (banksmanlaw08_DeltaTwice.j0 k l2 t538 true l0_0 l0_1 a1_0 l1_1 l1_2 a1_3) else ((banksmanlaw08_short.f k l2).bind fun t540 => (banksmanlaw08_DeltaTwice.j0 k l2 t538 (!t540) l0_0 l0_1 a1_0 l1_1 l1_2 a1_3)))) else (banksmanlaw08_DeltaTwice.j0 k l2 t538 true l0_0 l0_1 a1_0 l1_1 l1_2 a1_3)))) = some r := h
 clear h
 replace H := Option.bind_eq_some_iff.mp H
 obtain ⟨t538, A40, H⟩ := H
 replace H : ((banksmanref08_Few.f k l0_0 l0_1).bind fun t539 => (if t539 = true then (if (l1_1.length : Int) > 100 then (banksmanlaw08_DeltaTwice.j0 k l2 t538 true l0_0 l0_1 a1_0 l1_1 l1_2 a1_3) else (if (l1_2.length : Int) > 100 then (banksmanlaw08_DeltaTwice.j0 k l2 t538 true l0_0 l0_1 a1_0 l1_1 l1_2 a1_3) else ((banksmanlaw08_short.f k l2).bind fun t540 => (banksmanlaw08_DeltaTwice.j0 k l2 t538 (!t540) l0_0 l0_1 a1_0 l1_1 l1_2 a1_3)))) else (banksmanlaw08_DeltaTwice.j0 k l2 t538 true l0_0 l0_1 a1_0 l1_1 l1_2 a1_3))) = some r := H
 have A4 := aM A40
 clear A40
 have HC5 := aM H
 clear H
 go_enter Try.func7, Try.ntmps7
 go_upto_region 2 with (first | ((with_reducible refine gate_dst (N := 3) rfl ?_); (try (refine gate_guard (by rfl) ?_; dsimp only)); refine box_event ?hg (N := 3) ?hd (cs := #[.slice A0_0 l0_0.length c0_0, .slice A0_1 l0_1.length c0_1]) (t := 25) ?hr ?_; (case hd => rfl); (case hg => rfl); (case hr => first | (go_simp; done) | (go_simp; rfl)); intro gb536 hg w6 hbox hb; have BK536 := aM (hbox); have GW536 := aM ((by rw [hg]; exact (below_size (by repeat (first | (with_reducible first | exact HB.out | apply bA | apply bN | apply bD) | exact HB.out))) : w.heap.size ≤ gb536)); have GE536 := aM ((by rw [hg]; exact (below_size (by repeat (first | (with_reducible first | exact HB.out | apply bA | apply bN | apply bD) | exact HB.out))) : w.heap.size ≤ gb536)); replace HB := aM (below_step (by repeat (first | (with_reducible first | exact HB.out | apply bA | apply bN | apply bD) | exact HB.out)) hb); clear hb hbox hg) | ((with_reducible refine gate_dst (N := 4) rfl ?_); (try (refine gate_guard (by rfl) ?_; dsimp only)); refine box_event ?hg (N := 4) ?hd (cs := #[.int .i64 a1_0, .slice A1_1 l1_1.length c1_1, .slice A1_2 l1_2.length c1_2, .bool a1_3]) (t := 39) ?hr ?_; (case hd => rfl); (case hg => rfl); (case hr => first | (go_simp; done) | (go_simp; rfl)); intro gb537 hg w7 hbox hb; have BK537 := aM (hbox); have GW537 := aM ((by rw [hg]; exact (below_size (by repeat (first | (with_reducible first | exact HB.out | apply bA | apply bN | apply bD | refine bS ?_ GE536.out) | exact HB.out))) : w.heap.size ≤ gb537)); have GE537 := aM ((by rw [hg]; exact (below_size (by repeat (first | (with_reducible first | exact HB.out | apply bA | apply bN | apply bD | refine bS ?_ GE536.out) | exact HB.out))) : w.heap.size ≤ gb537)); replace HB := aM (below_step (by repeat (first | (with_reducible first | exact HB.out | apply bA | apply bN | apply bD | refine bS ?_ GE536.out) | exact HB.out)) hb); have NBq4 := aM ((by rw [hg]; exact Nat.ne_of_lt (blk_lt (g := gb536) (o := .cells #[.slice A0_0 l0_0.length c0_0, .slice A0_1 l0_1.length c0_1] 25 (0, 0)) (bU BK536.out)) : gb536 ≠ gb537)); have NBq5 := aM ((by rw [hg]; exact Nat.ne_of_gt (blk_lt (g := gb536) (o := .cells #[.slice A0_0 l0_0.length c0_0, .slice A0_1 l0_1.length c0_1] 25 (0, 0)) (bU BK536.out)) : gb537 ≠ gb536)); replace BK536 := aM (kB (g := gb536) (o := .cells #[.slice A0_0 l0_0.length c0_0, .slice A0_1 l0_1.length c0_1] 25 (0, 0)) (bU BK536.out) hb); clear hb hbox hg) | ((with_reducible refine gate_callee (f := 8) rfl ?_); refine goesL_ (some 14) rfl rfl Try.func8 (by kernel_rfl) rfl #[] rfl (by (try simp only [List.map_toArray, List.map_cons, List.map_nil]); first | done | rfl | (simp only [List.length_drop, List.length_take]; rfl)) ?_; (with_reducible refine (banksmanlaw08_awake.calls  t538 _ A4.out).mono ?_); rintro e w8 ⟨rfl, hb⟩; refine ⟨_, rfl, ?_⟩; replace BK536 := aM (kB (g := gb536) (o := .cells #[.slice A0_0 l0_0.length c0_0, .slice A0_1 l0_1.length c0_1] 25 (0, 0)) (bU BK536.out) hb); replace BK537 := aM (kB (g := gb537) (o := .cells #[.int .i64 a1_0, .slice A1_1 l1_1.length c1_1, .slice A1_2 l1_2.length c1_2, .bool a1_3] 39 (0, 0)) (bU BK537.out) hb); replace HB := aM (below_step (by repeat (first | (with_reducible first | exact HB.out | apply bA | apply bN | apply bD | refine bS ?_ GE536.out | refine bS ?_ GE537.out) | exact HB.out)) hb); (try clear hb); (try clear hb2); (try clear hk); (try clear hi)))
 (try simp only [Act.put, List.setIfInBounds_toArray, List.set_cons_zero, List.set_cons_succ])
 go_cut [34] (fun v34 wc => ∃ (kq : Nat) (x34_4 : Bool), v34 = .bool x34_4 ∧ Aside0 (banksmanlaw08_DeltaTwice.j0 kq l2 t538 x34_4 l0_0 l0_1 a1_0 l1_1 l1_2 a1_3 = some r) ∧ Aside0 (kq ≤ k) ∧ Aside0 (wc.heap[gb536]? = some (.cells #[(.slice A0_0 l0_0.length c0_0), (.slice A0_1 l0_1.length c0_1)] 25 (0, 0))) ∧ Aside0 (wc.heap[gb537]? = some (.cells #[.int .i64 a1_0, (.slice A1_1 l1_1.length c1_1), (.slice A1_2 l1_2.length c1_2), .bool a1_3] 39 (0, 0))) ∧ Aside0 (Below w.heap.size w wc))
 case first =>
  have H := HC5.out
  clear HC5
  replace H := Option.bind_eq_some_iff.mp H
  obtain ⟨t539, A90, H⟩ := H
  replace H : (if t539 = true then (if (l1_1.length : Int) > 100 then (banksmanlaw08_DeltaTwice.j0 k l2 t538 true l0_0 l0_1 a1_0 l1_1 l1_2 a1_3) else (if (l1_2.length : Int) > 100 then (banksmanlaw08_DeltaTwice.j0 k l2 t538 true l0_0 l0_1 a1_0 l1_1 l1_2 a1_3) else ((banksmanlaw08_short.f k l2).bind fun t540 => (banksmanlaw08_DeltaTwice.j0 k l2 t538 (!t540) l0_0 l0_1 a1_0 l1_1 l1_2 a1_3)))) else (banksmanlaw08_DeltaTwice.j0 k l2 t538 true l0_0 l0_1 a1_0 l1_1 l1_2 a1_3)) = some r := H
  have A9 := aM A90
  clear A90
  by_cases c10 : t539 = true
  ·
   subst c10
   have H1 : (if (l1_1.length : Int) > 100 then (banksmanlaw08_DeltaTwice.j0 k l2 t538 true l0_0 l0_1 a1_0 l1_1 l1_2 a1_3) else (if (l1_2.length : Int) > 100 then (banksmanlaw08_DeltaTwice.j0 k l2 t538 true l0_0 l0_1 a1_0 l1_1 l1_2 a1_3) else ((banksmanlaw08_short.f k l2).bind fun t540 => (banksmanlaw08_DeltaTwice.j0 k l2 t538 (!t540) l0_0 l0_1 a1_0 l1_1 l1_2 a1_3)))) = some r := by rw [if_pos rfl] at H; exact H
   clear H
   have H := H1
   clear H1
   by_cases c11 : (l1_1.length : Int) > 100
   ·
    rw [if_pos c11] at H
    have c11b0 : decide (100 < (l1_1.length : Int)) = true := decide_eq_true c11
    have c11b1 : decide (100 < l1_1.length) = true := decide_eq_true (by omega)
    clear c11
    (first | rw [c11b0] | (simp only [i64_w, i32_w]; rw [c11b0]) | skip)
    have H' := aM H
    clear H
    have hnb12 := NBq4.out
    have hnc12 := NBq5.out
    have hcz13_0 : w8.cell? ⟨gb536, 0, none⟩ = some (.slice A0_0 l0_0.length c0_0) := (kC BK536.out 0).trans rfl
    have hcz13_1 : w8.cell? ⟨gb536, 1, none⟩ = some (.slice A0_1 l0_1.length c0_1) := (kC BK536.out 1).trans rfl
    have hfz13_0 := kF BK536.out 0
    have hfz13_1 := kF BK536.out 1
    go_wp2_with (first | ((with_reducible refine gate_callee (f := 9) rfl ?_); refine goesL_ (some 16) rfl rfl Try.func9 (by kernel_rfl) rfl #[.agg #[.slice A0_0 l0_0.length c0_0, .slice A0_1 l0_1.length c0_1]] rfl (by (try simp only [List.map_toArray, List.map_cons, List.map_nil]); first | done | rfl | (simp only [List.length_drop, List.length_take]; rfl)) ?_; (with_reducible refine (banksmanref08_Few.calls k _ _ l0_0 _ _ l0_1 true _ ?side1 ?side2 ?side3 ?side4 A9.out).mono ?_); (case side1 => repeat (first | exact (Kd.C_below HR0_0.out HB.out) | (with_reducible refine Kd.C_alloc ?_ _) | (with_reducible refine Kd.C_drewN ?_ _) | (with_reducible refine Kd.C_drew ?_))); (case side2 => exact HC0_0.out); (case side3 => repeat (first | exact (Kd.C_below HR0_1.out HB.out) | (with_reducible refine Kd.C_alloc ?_ _) | (with_reducible refine Kd.C_drewN ?_ _) | (with_reducible refine Kd.C_drew ?_))); (case side4 => exact HC0_1.out); rintro e w14 ⟨rfl, hb⟩; refine ⟨_, rfl, ?_⟩; replace BK536 := aM (kB (g := gb536) (o := .cells #[.slice A0_0 l0_0.length c0_0, .slice A0_1 l0_1.length c0_1] 25 (0, 0)) (bU BK536.out) hb); replace BK537 := aM (kB (g := gb537) (o := .cells #[.int .i64 a1_0, .slice A1_1 l1_1.length c1_1, .slice A1_2 l1_2.length c1_2, .bool a1_3] 39 (0, 0)) (bU BK537.out) hb); replace HB := aM (below_step (by repeat (first | (with_reducible first | exact HB.out | apply bA | apply bN | apply bD | refine bS ?_ GE536.out | refine bS ?_ GE537.out) | exact HB.out)) hb); (try clear hb); (try clear hb2); (try clear hk); (try clear hi); have hcz15_0 : w14.cell? ⟨gb537, 0, none⟩ = some (.int .i64 a1_0) := (kC BK537.out 0).trans rfl; have hcz15_1 : w14.cell? ⟨gb537, 1, none⟩ = some (.slice A1_1 l1_1.length c1_1) := (kC BK537.out 1).trans rfl; have hcz15_2 : w14.cell? ⟨gb537, 2, none⟩ = some (.slice A1_2 l1_2.length c1_2) := (kC BK537.out 2).trans rfl; have hcz15_3 : w14.cell? ⟨gb537, 3, none⟩ = some (.bool a1_3) := (kC BK537.out 3).trans rfl; have hfz15_0 := kF BK537.out 0; have hfz15_1 := kF BK537.out 1; have hfz15_2 := kF BK537.out 2; have hfz15_3 := kF BK537.out 3))
    go_meet
    case rel => exact ⟨_, (true), (by first | rfl | (simp; done) | (simp [*]; done)), H', ⟨by first | omega | exact Nat.le_refl _⟩, ⟨by (with_reducible repeat (first | refine blk_drewN ?_ _ | refine blk_drew ?_ | refine blk_alloc ?_ _)); exact BK536.out⟩, ⟨by (with_reducible repeat (first | refine blk_drewN ?_ _ | refine blk_drew ?_ | refine blk_alloc ?_ _)); exact BK537.out⟩, ⟨by repeat (first | (with_reducible first | exact HB.out | apply bA | apply bN | apply bD | refine bS ?_ GE536.out | refine bS ?_ GE537.out) | exact HB.out)⟩⟩
   ·
    rw [if_neg c11] at H
    have c11b0 : decide (100 < (l1_1.length : Int)) = false := decide_eq_false c11
    have c11b1 : decide (100 < l1_1.length) = false := decide_eq_false (by omega)
    clear c11
    (first | rw [c11b0] | (simp only [i64_w, i32_w]; rw [c11b0]) | skip)
    by_cases c16 : (l1_2.length : Int) > 100
    ·
     rw [if_pos c16] at H
     have c16b0 : decide (100 < (l1_2.length : Int)) = true := decide_eq_true c16
     have c16b1 : decide (100 < l1_2.length) = true := decide_eq_true (by omega)
     clear c16
     have H' := aM H
     clear H
     have hnb17 := NBq4.out
     have hnc17 := NBq5.out
     have hcz18_0 : w8.cell? ⟨gb536, 0, none⟩ = some (.slice A0_0 l0_0.length c0_0) := (kC BK536.out 0).trans rfl
     have hcz18_1 : w8.cell? ⟨gb536, 1, none⟩ = some (.slice A0_1 l0_1.length c0_1) := (kC BK536.out 1).trans rfl
     have hfz18_0 := kF BK536.out 0
     have hfz18_1 := kF BK536.out 1
     go_wp2_with (first | ((with_reducible refine gate_callee (f := 9) rfl ?_); refine goesL_ (some 16) rfl rfl Try.func9 (by kernel_rfl) rfl #[.agg #[.slice A0_0 l0_0.length c0_0, .slice A0_1 l0_1.length c0_1]] rfl (by (try simp only [List.map_toArray, List.map_cons, List.map_nil]); first | done | rfl | (simp only [List.length_drop, List.length_take]; rfl)) ?_; (with_reducible refine (banksmanref08_Few.calls k _ _ l0_0 _ _ l0_1 true _ ?side1 ?side2 ?side3 ?side4 A9.out).mono ?_); (case side1 => repeat (first | exact (Kd.C_below HR0_0.out HB.out) | (with_reducible refine Kd.C_alloc ?_ _) | (with_reducible refine Kd.C_drewN ?_ _) | (with_reducible refine Kd.C_drew ?_))); (case side2 => exact HC0_0.out); (case side3 => repeat (first | exact (Kd.C_below HR0_1.out HB.out) | (with_reducible refine Kd.C_alloc ?_ _) | (with_reducible refine Kd.C_drewN ?_ _) | (with_reducible refine Kd.C_drew ?_))); (case side4 => exact HC0_1.out); rintro e w19 ⟨rfl, hb⟩; refine ⟨_, rfl, ?_⟩; replace BK536 := aM (kB (g := gb536) (o := .cells #[.slice A0_0 l0_0.length c0_0, .slice A0_1 l0_1.length c0_1] 25 (0, 0)) (bU BK536.out) hb); replace BK537 := aM (kB (g := gb537) (o := .cells #[.int .i64 a1_0, .slice A1_1 l1_1.length c1_1, .slice A1_2 l1_2.length c1_2, .bool a1_3] 39 (0, 0)) (bU BK537.out) hb); replace HB := aM (below_step (by repeat (first | (with_reducible first | exact HB.out | apply bA | apply bN | apply bD | refine bS ?_ GE536.out | refine bS ?_ GE537.out) | exact HB.out)) hb); (try clear hb); (try clear hb2); (try clear hk); (try clear hi); have hcz20_0 : w19.cell? ⟨gb537, 0, none⟩ = some (.int .i64 a1_0) := (kC BK537.out 0).trans rfl; have hcz20_1 : w19.cell? ⟨gb537, 1, none⟩ = some (.slice A1_1 l1_1.length c1_1) := (kC BK537.out 1).trans rfl; have hcz20_2 : w19.cell? ⟨gb537, 2, none⟩ = some (.slice A1_2 l1_2.length c1_2) := (kC BK537.out 2).trans rfl; have hcz20_3 : w19.cell? ⟨gb537, 3, none⟩ = some (.bool a1_3) := (kC BK537.out 3).trans rfl; have hfz20_0 := kF BK537.out 0; have hfz20_1 := kF BK537.out 1; have hfz20_2 := kF BK537.out 2; have hfz20_3 := kF BK537.out 3))
     go_meet
     case rel => exact ⟨_, (true), (by first | rfl | (simp; done) | (simp [*]; done)), H', ⟨by first | omega | exact Nat.le_refl _⟩, ⟨by (with_reducible repeat (first | refine blk_drewN ?_ _ | refine blk_drew ?_ | refine blk_alloc ?_ _)); exact BK536.out⟩, ⟨by (with_reducible repeat (first | refine blk_drewN ?_ _ | refine blk_drew ?_ | refine blk_alloc ?_ _)); exact BK537.out⟩, ⟨by repeat (first | (with_reducible first | exact HB.out | apply bA | apply bN | apply bD | refine bS ?_ GE536.out | refine bS ?_ GE537.out) | exact HB.out)⟩⟩
    ·
     rw [if_neg c16] at H
     have c16b0 : decide (100 < (l1_2.length : Int)) = false := decide_eq_false c16
     have c16b1 : decide (100 < l1_2.length) = false := decide_eq_false (by omega)
     clear c16
     replace H := Option.bind_eq_some_iff.mp H
     obtain ⟨t540, A210, H⟩ := H
     replace H : (banksmanlaw08_DeltaTwice.j0 k l2 t538 (!t540) l0_0 l0_1 a1_0 l1_1 l1_2 a1_3) = some r := H
     have A21 := aM A210
     clear A210
     have H' := aM H
     clear H
     have hnb22 := NBq4.out
     have hnc22 := NBq5.out
     have hcz23_0 : w8.cell? ⟨gb536, 0, none⟩ = some (.slice A0_0 l0_0.length c0_0) := (kC BK536.out 0).trans rfl
     have hcz23_1 : w8.cell? ⟨gb536, 1, none⟩ = some (.slice A0_1 l0_1.length c0_1) := (kC BK536.out 1).trans rfl
     have hfz23_0 := kF BK536.out 0
     have hfz23_1 := kF BK536.out 1
     go_wp2_with (first | ((with_reducible refine gate_callee (f := 9) rfl ?_); refine goesL_ (some 16) rfl rfl Try.func9 (by kernel_rfl) rfl #[.agg #[.slice A0_0 l0_0.length c0_0, .slice A0_1 l0_1.length c0_1]] rfl (by (try simp only [List.map_toArray, List.map_cons, List.map_nil]); first | done | rfl | (simp only [List.length_drop, List.length_take]; rfl)) ?_; (with_reducible refine (banksmanref08_Few.calls k _ _ l0_0 _ _ l0_1 true _ ?side1 ?side2 ?side3 ?side4 A9.out).mono ?_); (case side1 => repeat (first | exact (Kd.C_below HR0_0.out HB.out) | (with_reducible refine Kd.C_alloc ?_ _) | (with_reducible refine Kd.C_drewN ?_ _) | (with_reducible refine Kd.C_drew ?_))); (case side2 => exact HC0_0.out); (case side3 => repeat (first | exact (Kd.C_below HR0_1.out HB.out) | (with_reducible refine Kd.C_alloc ?_ _) | (with_reducible refine Kd.C_drewN ?_ _) | (with_reducible refine Kd.C_drew ?_))); (case side4 => exact HC0_1.out); rintro e w24 ⟨rfl, hb⟩; refine ⟨_, rfl, ?_⟩; replace BK536 := aM (kB (g := gb536) (o := .cells #[.slice A0_0 l0_0.length c0_0, .slice A0_1 l0_1.length c0_1] 25 (0, 0)) (bU BK536.out) hb); replace BK537 := aM (kB (g := gb537) (o := .cells #[.int .i64 a1_0, .slice A1_1 l1_1.length c1_1, .slice A1_2 l1_2.length c1_2, .bool a1_3] 39 (0, 0)) (bU BK537.out) hb); replace HB := aM (below_step (by repeat (first | (with_reducible first | exact HB.out | apply bA | apply bN | apply bD | refine bS ?_ GE536.out | refine bS ?_ GE537.out) | exact HB.out)) hb); (try clear hb); (try clear hb2); (try clear hk); (try clear hi); have hcz25_0 : w24.cell? ⟨gb537, 0, none⟩ = some (.int .i64 a1_0) := (kC BK537.out 0).trans rfl; have hcz25_1 : w24.cell? ⟨gb537, 1, none⟩ = some (.slice A1_1 l1_1.length c1_1) := (kC BK537.out 1).trans rfl; have hcz25_2 : w24.cell? ⟨gb537, 2, none⟩ = some (.slice A1_2 l1_2.length c1_2) := (kC BK537.out 2).trans rfl; have hcz25_3 : w24.cell? ⟨gb537, 3, none⟩ = some (.bool a1_3) := (kC BK537.out 3).trans rfl; have hfz25_0 := kF BK537.out 0; have hfz25_1 := kF BK537.out 1; have hfz25_2 := kF BK537.out 2; have hfz25_3 := kF BK537.out 3) | (go_at_call 19; (with_reducible refine (banksmanlaw08_short.calls k _ _ l2 t540 _ ?side1 ?side2 A21.out).mono ?_); (case side1 => repeat (first | exact (Kd.C_below HR2.out HB.out) | (with_reducible refine Kd.C_alloc ?_ _) | (with_reducible refine Kd.C_drewN ?_ _) | (with_reducible refine Kd.C_drew ?_))); (case side2 => exact HC2.out); rintro e w' ⟨rfl, ⟨nd, rfl⟩⟩))
     go_meet
     case rel => exact ⟨_, (!t540), (by first | rfl | (simp; done) | (simp [*]; done)), H', ⟨by first | omega | exact Nat.le_refl _⟩, ⟨by (with_reducible repeat (first | refine blk_drewN ?_ _ | refine blk_drew ?_ | refine blk_alloc ?_ _)); exact BK536.out⟩, ⟨by (with_reducible repeat (first | refine blk_drewN ?_ _ | refine blk_drew ?_ | refine blk_alloc ?_ _)); exact BK537.out⟩, ⟨by repeat (first | (with_reducible first | exact HB.out | apply bA | apply bN | apply bD | refine bS ?_ GE536.out | refine bS ?_ GE537.out) | exact HB.out)⟩⟩
  ·
   replace c10 := Bool.eq_false_iff.mpr c10
   subst c10
   have H1 : (banksmanlaw08_DeltaTwice.j0 k l2 t538 true l0_0 l0_1 a1_0 l1_1 l1_2 a1_3) = some r := by rw [if_neg (show ¬ (false = true) by decide)] at H; exact H
   clear H
   have H := H1
   clear H1
   have H' := aM H
   clear H
   have hnb26 := NBq4.out
   have hnc26 := NBq5.out
   have hcz27_0 : w8.cell? ⟨gb536, 0, none⟩ = some (.slice A0_0 l0_0.length c0_0) := (kC BK536.out 0).trans rfl
   have hcz27_1 : w8.cell? ⟨gb536, 1, none⟩ = some (.slice A0_1 l0_1.length c0_1) := (kC BK536.out 1).trans rfl
   have hfz27_0 := kF BK536.out 0
   have hfz27_1 := kF BK536.out 1
   go_wp2_with (first | ((with_reducible refine gate_callee (f := 9) rfl ?_); refine goesL_ (some 16) rfl rfl Try.func9 (by kernel_rfl) rfl #[.agg #[.slice A0_0 l0_0.length c0_0, .slice A0_1 l0_1.length c0_1]] rfl (by (try simp only [List.map_toArray, List.map_cons, List.map_nil]); first | done | rfl | (simp only [List.length_drop, List.length_take]; rfl)) ?_; (with_reducible refine (banksmanref08_Few.calls k _ _ l0_0 _ _ l0_1 false _ ?side1 ?side2 ?side3 ?side4 A9.out).mono ?_); (case side1 => repeat (first | exact (Kd.C_below HR0_0.out HB.out) | (with_reducible refine Kd.C_alloc ?_ _) | (with_reducible refine Kd.C_drewN ?_ _) | (with_reducible refine Kd.C_drew ?_))); (case side2 => exact HC0_0.out); (case side3 => repeat (first | exact (Kd.C_below HR0_1.out HB.out) | (with_reducible refine Kd.C_alloc ?_ _) | (with_reducible refine Kd.C_drewN ?_ _) | (with_reducible refine Kd.C_drew ?_))); (case side4 => exact HC0_1.out); rintro e w28 ⟨rfl, hb⟩; refine ⟨_, rfl, ?_⟩; replace BK536 := aM (kB (g := gb536) (o := .cells #[.slice A0_0 l0_0.length c0_0, .slice A0_1 l0_1.length c0_1] 25 (0, 0)) (bU BK536.out) hb); replace BK537 := aM (kB (g := gb537) (o := .cells #[.int .i64 a1_0, .slice A1_1 l1_1.length c1_1, .slice A1_2 l1_2.length c1_2, .bool a1_3] 39 (0, 0)) (bU BK537.out) hb); replace HB := aM (below_step (by repeat (first | (with_reducible first | exact HB.out | apply bA | apply bN | apply bD | refine bS ?_ GE536.out | refine bS ?_ GE537.out) | exact HB.out)) hb); (try clear hb); (try clear hb2); (try clear hk); (try clear hi)))
   go_meet
   case rel => exact ⟨_, (true), (by first | rfl | (simp; done) | (simp [*]; done)), H', ⟨by first | omega | exact Nat.le_refl _⟩, ⟨by (with_reducible repeat (first | refine blk_drewN ?_ _ | refine blk_drew ?_ | refine blk_alloc ?_ _)); exact BK536.out⟩, ⟨by (with_reducible repeat (first | refine blk_drewN ?_ _ | refine blk_drew ?_ | refine blk_alloc ?_ _)); exact BK537.out⟩, ⟨by repeat (first | (with_reducible first | exact HB.out | apply bA | apply bN | apply bD | refine bS ?_ GE536.out | refine bS ?_ GE537.out) | exact HB.out)⟩⟩
 case rest =>
  clear HC5
  try clear c1
  try clear c2
  try clear p2
  try clear c7
  try clear c8
  try clear c9
  try clear c10
  try clear c11
  try clear c11b0
  try clear c11b1
  try clear c12
  try clear c16
  try clear c16b0
  try clear c16b1
  try clear c17
  try clear c22
  try clear c26
  try clear hcz13_0
  try clear hcz13_1
  try clear hcz15_0
  try clear hcz15_1
  try clear hcz15_2
  try clear hcz15_3
  try clear hcz18_0
  try clear hcz18_1
  try clear hcz20_0
  try clear hcz20_1
  try clear hcz20_2
  try clear hcz20_3
  try clear hcz23_0
  try clear hcz23_1
  try clear hcz25_0
  try clear hcz25_1
  try clear hcz25_2
  try clear hcz25_3
  try clear hcz27_0
  try clear hcz27_1
  try clear hfz13_0
  try clear hfz13_1
  try clear hfz15_0
  try clear hfz15_1
  try clear hfz15_2
  try clear hfz15_3
  try clear hfz18_0
  try clear hfz18_1
  try clear hfz20_0
  try clear hfz20_1
  try clear hfz20_2
  try clear hfz20_3
  try clear hfz23_0
  try clear hfz23_1
  try clear hfz25_0
  try clear hfz25_1
  try clear hfz25_2
  try clear hfz25_3
  try clear hfz27_0
  try clear hfz27_1
  obtain ⟨kq, x34_4, rfl, HA, HJ4, BK536, BK537, HB⟩ := hcut
  cases kq with
  | zero => exact absurd HA.out (by simp [banksmanlaw08_DeltaTwice.j0])
  | succ kj4 =>
   have H := HA.out
   clear HA
   simp only [banksmanlaw08_DeltaTwice.j0] at H
   by_cases c29 : x34_4 = true
   ·
    subst c29
    have H1 : (some t538) = some r := by rw [if_pos rfl] at H; exact H
    clear H
    have H := H1
    clear H1
    obtain rfl := Option.some.inj H
    go_wp2
    go_ret
    exact ⟨by first | rfl | (simp [errW_none, errW_some] <;> rfl) | (simp [*, errW_none, errW_some] <;> rfl), by repeat (first | (with_reducible first | exact HB.out | apply bA | apply bN | apply bD | refine bS ?_ GE536.out | refine bS ?_ GE537.out) | exact HB.out)⟩
   ·
    replace c29 := Bool.eq_false_iff.mpr c29
    subst c29
    have H1 : ((delta_Over.f l0_0 l0_1 a1_0 l1_1 l1_2 a1_3 l2).bind fun t541 => ((delta_Over.f l0_0 l0_1 a1_0 l1_1 l1_2 a1_3 t541).bind fun t544 => ((banksmanref07_Pairs.f kj4 t544 t541).bind fun t547 => ((delta_Last.f l0_0 l0_1).bind fun t548 => (if (t548.length : Int) = 0 then (if t538 = true then (some t547) else (some false)) else (if 0 < (t548.length : Int) then ((delta_Put.f kj4 l0_0 l0_1 ((rd_T28 t548 0).f0) ((rd_T28 t548 0).f1) ((rd_T28 t548 0).f2) ((rd_T28 t548 0).f3)).bind fun bt552 => ((delta_Last.f bt552.1 bt552.2.1).bind fun t560 => ((banksmanref08_Writes.f kj4 t560 t548).bind fun t563 => (if t538 = true then (if t547 = true then (if bt552.2.2 = 0 then (some t563) else (some true)) else (some false)) else (some false))))) else (none))))))) = some r := by rw [if_neg (show ¬ (false = true) by decide)] at H; exact H
    clear H
    have H := H1
    clear H1
    replace H := Option.bind_eq_some_iff.mp H
    obtain ⟨t541, A300, H⟩ := H
    replace H : ((delta_Over.f l0_0 l0_1 a1_0 l1_1 l1_2 a1_3 t541).bind fun t544 => ((banksmanref07_Pairs.f kj4 t544 t541).bind fun t547 => ((delta_Last.f l0_0 l0_1).bind fun t548 => (if (t548.length : Int) = 0 then (if t538 = true then (some t547) else (some false)) else (if 0 < (t548.length : Int) then ((delta_Put.f kj4 l0_0 l0_1 ((rd_T28 t548 0).f0) ((rd_T28 t548 0).f1) ((rd_T28 t548 0).f2) ((rd_T28 t548 0).f3)).bind fun bt552 => ((delta_Last.f bt552.1 bt552.2.1).bind fun t560 => ((banksmanref08_Writes.f kj4 t560 t548).bind fun t563 => (if t538 = true then (if t547 = true then (if bt552.2.2 = 0 then (some t563) else (some true)) else (some false)) else (some false))))) else (none)))))) = some r := H
    have A30 := aM A300
    clear A300
    replace H := Option.bind_eq_some_iff.mp H
    obtain ⟨t544, A310, H⟩ := H
    replace H : ((banksmanref07_Pairs.f kj4 t544 t541).bind fun t547 => ((delta_Last.f l0_0 l0_1).bind fun t548 => (if (t548.length : Int) = 0 then (if t538 = true then (some t547) else (some false)) else (if 0 < (t548.length : Int) then ((delta_Put.f kj4 l0_0 l0_1 ((rd_T28 t548 0).f0) ((rd_T28 t548 0).f1) ((rd_T28 t548 0).f2) ((rd_T28 t548 0).f3)).bind fun bt552 => ((delta_Last.f bt552.1 bt552.2.1).bind fun t560 => ((banksmanref08_Writes.f kj4 t560 t548).bind fun t563 => (if t538 = true then (if t547 = true then (if bt552.2.2 = 0 then (some t563) else (some true)) else (some false)) else (some false))))) else (none))))) = some r := H
    have A31 := aM A310
    clear A310
    replace H := Option.bind_eq_some_iff.mp H
    obtain ⟨t547, A320, H⟩ := H
    replace H : ((delta_Last.f l0_0 l0_1).bind fun t548 => (if (t548.length : Int) = 0 then (if t538 = true then (some t547) else (some false)) else (if 0 < (t548.length : Int) then ((delta_Put.f kj4 l0_0 l0_1 ((rd_T28 t548 0).f0) ((rd_T28 t548 0).f1) ((rd_T28 t548 0).f2) ((rd_T28 t548 0).f3)).bind fun bt552 => ((delta_Last.f bt552.1 bt552.2.1).bind fun t560 => ((banksmanref08_Writes.f kj4 t560 t548).bind fun t563 => (if t538 = true then (if t547 = true then (if bt552.2.2 = 0 then (some t563) else (some true)) else (some false)) else (some false))))) else (none)))) = some r := H
    have A32 := aM A320
    clear A320
    replace H := Option.bind_eq_some_iff.mp H
    obtain ⟨t548, A330, H⟩ := H
    replace H : (if (t548.length : Int) = 0 then (if t538 = true then (some t547) else (some false)) else (if 0 < (t548.length : Int) then ((delta_Put.f kj4 l0_0 l0_1 ((rd_T28 t548 0).f0) ((rd_T28 t548 0).f1) ((rd_T28 t548 0).f2) ((rd_T28 t548 0).f3)).bind fun bt552 => ((delta_Last.f bt552.1 bt552.2.1).bind fun t560 => ((banksmanref08_Writes.f kj4 t560 t548).bind fun t563 => (if t538 = true then (if t547 = true then (if bt552.2.2 = 0 then (some t563) else (some true)) else (some false)) else (some false))))) else (none))) = some r := H
    have A33 := aM A330
    clear A330
    by_cases c34 : (t548.length : Int) = 0
    ·
     rw [if_pos c34] at H
     have c34b0 : ((t548.length : Int) == 0) = true := beq_iff_eq.mpr c34
     have c34b1 : ((t548.length : Int) != 0) = false := bne_eq_false_iff_eq.mpr c34
     clear c34
     by_cases c35 : t538 = true
     ·
      subst c35
      have H1 : (some t547) = some r := by rw [if_pos rfl] at H; exact H
      clear H
      have H := H1
      clear H1
      obtain rfl := Option.some.inj H
      have hnb36 := NBq4.out
      have hnc36 := NBq5.out
      have hcz37_0 : wc.cell? ⟨gb536, 0, none⟩ = some (.slice A0_0 l0_0.length c0_0) := (kC BK536.out 0).trans rfl
      have hcz37_1 : wc.cell? ⟨gb536, 1, none⟩ = some (.slice A0_1 l0_1.length c0_1) := (kC BK536.out 1).trans rfl
      have hfz37_0 := kF BK536.out 0
      have hfz37_1 := kF BK536.out 1
      have hcz38_0 : wc.cell? ⟨gb537, 0, none⟩ = some (.int .i64 a1_0) := (kC BK537.out 0).trans rfl
      have hcz38_1 : wc.cell? ⟨gb537, 1, none⟩ = some (.slice A1_1 l1_1.length c1_1) := (kC BK537.out 1).trans rfl
      have hcz38_2 : wc.cell? ⟨gb537, 2, none⟩ = some (.slice A1_2 l1_2.length c1_2) := (kC BK537.out 2).trans rfl
      have hcz38_3 : wc.cell? ⟨gb537, 3, none⟩ = some (.bool a1_3) := (kC BK537.out 3).trans rfl
      have hfz38_0 := kF BK537.out 0
      have hfz38_1 := kF BK537.out 1
      have hfz38_2 := kF BK537.out 2
      have hfz38_3 := kF BK537.out 3
      go_wp2_with (first | ((with_reducible refine gate_callee (f := 26) rfl ?_); refine goesL_ (some 39) rfl rfl Try.func26 (by kernel_rfl) rfl #[.agg #[.slice A0_0 l0_0.length c0_0, .slice A0_1 l0_1.length c0_1], .agg #[.int .i64 a1_0, .slice A1_1 l1_1.length c1_1, .slice A1_2 l1_2.length c1_2, .bool a1_3], .slice A2 l2.length c2] rfl (by (try simp only [List.map_toArray, List.map_cons, List.map_nil]); first | done | rfl | (simp only [List.length_drop, List.length_take]; rfl)) ?_; (with_reducible refine (delta_Over.calls _ _ l0_0 _ _ l0_1 a1_0 _ _ l1_1 _ _ l1_2 a1_3 (fun k_ => k_ < w.heap.size) _ _ l2 t541 _ ?side1 ?side2 ?side3 ?side4 ?side5 ?side6 ?side7 ?side8 ?side9 A30.out).mono ?_); (case side1 => repeat (first | exact (Kd.C_below HR0_0.out HB.out) | (with_reducible refine Kd.C_alloc ?_ _) | (with_reducible refine Kd.C_drewN ?_ _) | (with_reducible refine Kd.C_drew ?_))); (case side2 => exact HC0_0.out); (case side3 => repeat (first | exact (Kd.C_below HR0_1.out HB.out) | (with_reducible refine Kd.C_alloc ?_ _) | (with_reducible refine Kd.C_drewN ?_ _) | (with_reducible refine Kd.C_drew ?_))); (case side4 => exact HC0_1.out); (case side5 => repeat (first | exact (Kd.C_below HR1_1.out HB.out) | (with_reducible refine Kd.C_alloc ?_ _) | (with_reducible refine Kd.C_drewN ?_ _) | (with_reducible refine Kd.C_drew ?_))); (case side6 => exact HC1_1.out); (case side7 => repeat (first | exact (Kd.C_below HR1_2.out HB.out) | (with_reducible refine Kd.C_alloc ?_ _) | (with_reducible refine Kd.C_drewN ?_ _) | (with_reducible refine Kd.C_drew ?_))); (case side8 => exact HC1_2.out); (case side9 => exact Kd.V_mk HC2.out (Kd.F_below (Kd.C_F k53_heap HR2.out) (by repeat (first | (with_reducible first | exact HB.out | apply bA | apply bN | apply bD | refine bS ?_ GE536.out | refine bS ?_ GE537.out) | exact HB.out)))); rintro e w39 ⟨v542, rfl, ho0, hb⟩; refine ⟨_, rfl, ?_⟩; have HO543 := aM (Kd.N_lower (Kd.N_mono (ok' := fun k_ => k_ ≠ gb536 ∧ k_ ≠ gb537) ho0 (fun k_ hk_ => ⟨Or.elim hk_ (fun hs_ => fun e_ => Nat.not_le.2 hs_ (by rw [e_]; exact GW536.out)) (fun hn_ => (Kd.freshB (g := gb536) (o := .cells #[.slice A0_0 l0_0.length c0_0, .slice A0_1 l0_1.length c0_1] 25 (0, 0)) (bU BK536.out) k_ hn_)), Or.elim hk_ (fun hs_ => fun e_ => Nat.not_le.2 hs_ (by rw [e_]; exact GW537.out)) (fun hn_ => (Kd.freshB (g := gb537) (o := .cells #[.int .i64 a1_0, .slice A1_1 l1_1.length c1_1, .slice A1_2 l1_2.length c1_2, .bool a1_3] 39 (0, 0)) (bU BK537.out) k_ hn_))⟩)) (below_size (by repeat (first | (with_reducible first | exact HB.out | apply bA | apply bN | apply bD | refine bS ?_ GE536.out | refine bS ?_ GE537.out) | exact HB.out)))); replace BK536 := aM (kB (g := gb536) (o := .cells #[.slice A0_0 l0_0.length c0_0, .slice A0_1 l0_1.length c0_1] 25 (0, 0)) (bU BK536.out) hb); replace BK537 := aM (kB (g := gb537) (o := .cells #[.int .i64 a1_0, .slice A1_1 l1_1.length c1_1, .slice A1_2 l1_2.length c1_2, .bool a1_3] 39 (0, 0)) (bU BK537.out) hb); replace HB := aM (below_step (by repeat (first | (with_reducible first | exact HB.out | apply bA | apply bN | apply bD | refine bS ?_ GE536.out | refine bS ?_ GE537.out) | exact HB.out)) hb); (try clear hb); (try clear hk); have hcz40_0 : w39.cell? ⟨gb536, 0, none⟩ = some (.slice A0_0 l0_0.length c0_0) := (kC BK536.out 0).trans rfl; have hcz40_1 : w39.cell? ⟨gb536, 1, none⟩ = some (.slice A0_1 l0_1.length c0_1) := (kC BK536.out 1).trans rfl; have hfz40_0 := kF BK536.out 0; have hfz40_1 := kF BK536.out 1; have hcz41_0 : w39.cell? ⟨gb537, 0, none⟩ = some (.int .i64 a1_0) := (kC BK537.out 0).trans rfl; have hcz41_1 : w39.cell? ⟨gb537, 1, none⟩ = some (.slice A1_1 l1_1.length c1_1) := (kC BK537.out 1).trans rfl; have hcz41_2 : w39.cell? ⟨gb537, 2, none⟩ = some (.slice A1_2 l1_2.length c1_2) := (kC BK537.out 2).trans rfl; have hcz41_3 : w39.cell? ⟨gb537, 3, none⟩ = some (.bool a1_3) := (kC BK537.out 3).trans rfl; have hfz41_0 := kF BK537.out 0; have hfz41_1 := kF BK537.out 1; have hfz41_2 := kF BK537.out 2; have hfz41_3 := kF BK537.out 3; obtain ⟨Ao42, co42, eo42⟩ := Kd.N_slice HO543.out; subst eo42) | ((with_reducible refine gate_callee (f := 26) rfl ?_); refine goesL_ (some 43) rfl rfl Try.func26 (by kernel_rfl) rfl #[.agg #[.slice A0_0 l0_0.length c0_0, .slice A0_1 l0_1.length c0_1], .agg #[.int .i64 a1_0, .slice A1_1 l1_1.length c1_1, .slice A1_2 l1_2.length c1_2, .bool a1_3], .slice Ao42 t541.length co42] rfl (by (try simp only [List.map_toArray, List.map_cons, List.map_nil]); first | done | rfl | (simp only [List.length_drop, List.length_take]; rfl)) ?_; (with_reducible refine (delta_Over.calls _ _ l0_0 _ _ l0_1 a1_0 _ _ l1_1 _ _ l1_2 a1_3 (fun k_ => (k_ ≠ gb536 ∧ k_ ≠ gb537)) _ _ t541 t544 _ ?side1 ?side2 ?side3 ?side4 ?side5 ?side6 ?side7 ?side8 ?side9 A31.out).mono ?_); (case side1 => repeat (first | exact (Kd.C_below HR0_0.out HB.out) | (with_reducible refine Kd.C_alloc ?_ _) | (with_reducible refine Kd.C_drewN ?_ _) | (with_reducible refine Kd.C_drew ?_))); (case side2 => exact HC0_0.out); (case side3 => repeat (first | exact (Kd.C_below HR0_1.out HB.out) | (with_reducible refine Kd.C_alloc ?_ _) | (with_reducible refine Kd.C_drewN ?_ _) | (with_reducible refine Kd.C_drew ?_))); (case side4 => exact HC0_1.out); (case side5 => repeat (first | exact (Kd.C_below HR1_1.out HB.out) | (with_reducible refine Kd.C_alloc ?_ _) | (with_reducible refine Kd.C_drewN ?_ _) | (with_reducible refine Kd.C_drew ?_))); (case side6 => exact HC1_1.out); (case side7 => repeat (first | exact (Kd.C_below HR1_2.out HB.out) | (with_reducible refine Kd.C_alloc ?_ _) | (with_reducible refine Kd.C_drewN ?_ _) | (with_reducible refine Kd.C_drew ?_))); (case side8 => exact HC1_2.out); (case side9 => exact Kd.N_V (HO543.out)); rintro e w43 ⟨v545, rfl, ho0, hb⟩; refine ⟨_, rfl, ?_⟩; replace HO543 := aM (Kd.N_elder' (nU HO543.out) (Kd.N_base ho0) hb); have HO546 := aM (Kd.N_lower (Kd.N_mono (ok' := fun k_ => k_ ≠ gb536 ∧ k_ ≠ gb537) ho0 (fun k_ hk_ => ⟨Or.elim hk_ (fun hs_ => hs_.1) (fun hn_ => (Kd.freshB (g := gb536) (o := .cells #[.slice A0_0 l0_0.length c0_0, .slice A0_1 l0_1.length c0_1] 25 (0, 0)) (bU BK536.out) k_ hn_)), Or.elim hk_ (fun hs_ => hs_.2) (fun hn_ => (Kd.freshB (g := gb537) (o := .cells #[.int .i64 a1_0, .slice A1_1 l1_1.length c1_1, .slice A1_2 l1_2.length c1_2, .bool a1_3] 39 (0, 0)) (bU BK537.out) k_ hn_))⟩)) (below_size (by repeat (first | (with_reducible first | exact HB.out | apply bA | apply bN | apply bD | refine bS ?_ GE536.out | refine bS ?_ GE537.out) | exact HB.out)))); replace BK536 := aM (kB (g := gb536) (o := .cells #[.slice A0_0 l0_0.length c0_0, .slice A0_1 l0_1.length c0_1] 25 (0, 0)) (bU BK536.out) hb); replace BK537 := aM (kB (g := gb537) (o := .cells #[.int .i64 a1_0, .slice A1_1 l1_1.length c1_1, .slice A1_2 l1_2.length c1_2, .bool a1_3] 39 (0, 0)) (bU BK537.out) hb); replace HB := aM (below_step (by repeat (first | (with_reducible first | exact HB.out | apply bA | apply bN | apply bD | refine bS ?_ GE536.out | refine bS ?_ GE537.out) | exact HB.out)) hb); (try clear hb); (try clear hk); obtain ⟨Ao44, co44, eo44⟩ := Kd.N_slice HO546.out; subst eo44) | ((with_reducible refine gate_callee (f := 25) rfl ?_); refine goesL_ (some 45) rfl rfl Try.func25 (by kernel_rfl) rfl #[.slice Ao44 t544.length co44, .slice Ao42 t541.length co42] rfl (by (try simp only [List.map_toArray, List.map_cons, List.map_nil]); first | done | rfl | (simp only [List.length_drop, List.length_take]; rfl)) ?_; (with_reducible refine (banksmanref07_Pairs.calls kj4 _ _ t544 _ _ t541 t547 _ ?side1 ?side2 ?side3 ?side4 A32.out).mono ?_); (case side1 => repeat (first | exact (Kd.N_reads' HO546.out).2.2 | (with_reducible refine Kd.C_alloc ?_ _) | (with_reducible refine Kd.C_drewN ?_ _) | (with_reducible refine Kd.C_drew ?_))); (case side2 => exact (Kd.N_reads' HO546.out).2.1); (case side3 => repeat (first | exact (Kd.N_reads' HO543.out).2.2 | (with_reducible refine Kd.C_alloc ?_ _) | (with_reducible refine Kd.C_drewN ?_ _) | (with_reducible refine Kd.C_drew ?_))); (case side4 => exact (Kd.N_reads' HO543.out).2.1); rintro e w' ⟨rfl, ⟨nd, rfl⟩⟩; refine ⟨_, rfl, ?_⟩; have hcz45_0 : w43.cell? ⟨gb536, 0, none⟩ = some (.slice A0_0 l0_0.length c0_0) := (kC BK536.out 0).trans rfl; have hcz45_1 : w43.cell? ⟨gb536, 1, none⟩ = some (.slice A0_1 l0_1.length c0_1) := (kC BK536.out 1).trans rfl; have hfz45_0 := kF BK536.out 0; have hfz45_1 := kF BK536.out 1) | ((with_reducible refine gate_callee (f := 23) rfl ?_); refine goesL_ (some 47) rfl rfl Try.func23 (by kernel_rfl) rfl #[.agg #[.slice A0_0 l0_0.length c0_0, .slice A0_1 l0_1.length c0_1]] rfl (by (try simp only [List.map_toArray, List.map_cons, List.map_nil]); first | done | rfl | (simp only [List.length_drop, List.length_take]; rfl)) ?_; (with_reducible refine (delta_Last.calls _ _ l0_0 _ _ l0_1 t548 _ ?side1 ?side2 ?side3 ?side4 A33.out).mono ?_); (case side1 => repeat (first | exact (Kd.C_below HR0_0.out (by repeat (first | (with_reducible first | exact HB.out | apply bA | apply bN | apply bD | refine bS ?_ GE536.out | refine bS ?_ GE537.out) | exact HB.out))) | (with_reducible refine Kd.C_alloc ?_ _) | (with_reducible refine Kd.C_drewN ?_ _) | (with_reducible refine Kd.C_drew ?_))); (case side2 => exact HC0_0.out); (case side3 => repeat (first | exact (Kd.C_below HR0_1.out (by repeat (first | (with_reducible first | exact HB.out | apply bA | apply bN | apply bD | refine bS ?_ GE536.out | refine bS ?_ GE537.out) | exact HB.out))) | (with_reducible refine Kd.C_alloc ?_ _) | (with_reducible refine Kd.C_drewN ?_ _) | (with_reducible refine Kd.C_drew ?_))); (case side4 => exact HC0_1.out); rintro e w46 ⟨v549, rfl, ho0, hb⟩; refine ⟨_, rfl, ?_⟩; have HO550 := aM (Kd.N_lower (Kd.N_mono (ok' := fun k_ => some k_ ≠ (.slice Ao42 t541.length co42 : Value).ownBlock ∧ some k_ ≠ (.slice Ao44 t544.length co44 : Value).ownBlock ∧ k_ ≠ gb536 ∧ k_ ≠ gb537) ho0 (fun k_ hk_ => ⟨(Kd.fresh' (Kd.N_lt (nU HO543.out)) k_ hk_), (Kd.fresh' (Kd.N_lt (nU HO546.out)) k_ hk_), (Kd.freshB (g := gb536) (o := .cells #[.slice A0_0 l0_0.length c0_0, .slice A0_1 l0_1.length c0_1] 25 (0, 0)) (bU BK536.out) k_ hk_), (Kd.freshB (g := gb537) (o := .cells #[.int .i64 a1_0, .slice A1_1 l1_1.length c1_1, .slice A1_2 l1_2.length c1_2, .bool a1_3] 39 (0, 0)) (bU BK537.out) k_ hk_)⟩)) (below_size (by repeat (first | (with_reducible first | exact HB.out | apply bA | apply bN | apply bD | refine bS ?_ GE536.out | refine bS ?_ GE537.out) | exact HB.out)))); replace HO543 := aM (Kd.N_elder' (nU HO543.out) (Kd.N_base ho0) hb); replace HO546 := aM (Kd.N_elder' (nU HO546.out) (Kd.N_base ho0) hb); replace BK536 := aM (kB (g := gb536) (o := .cells #[.slice A0_0 l0_0.length c0_0, .slice A0_1 l0_1.length c0_1] 25 (0, 0)) (bU BK536.out) hb); replace BK537 := aM (kB (g := gb537) (o := .cells #[.int .i64 a1_0, .slice A1_1 l1_1.length c1_1, .slice A1_2 l1_2.length c1_2, .bool a1_3] 39 (0, 0)) (bU BK537.out) hb); replace HB := aM (below_step (by repeat (first | (with_reducible first | exact HB.out | apply bA | apply bN | apply bD | refine bS ?_ GE536.out | refine bS ?_ GE537.out) | exact HB.out)) hb); (try clear hb); (try clear hk); obtain ⟨Ao47, co47, eo47⟩ := Kd.N_slice HO550.out; subst eo47))
      go_ret
      exact ⟨by first | rfl | (simp [errW_none, errW_some] <;> rfl) | (simp [*, errW_none, errW_some] <;> rfl), by repeat (first | (with_reducible first | exact HB.out | apply bA | apply bN | apply bD | refine bS ?_ GE536.out | refine bS ?_ GE537.out) | exact HB.out)⟩
     ·
      replace c35 := Bool.eq_false_iff.mpr c35
      subst c35
      have H1 : (some false) = some r := by rw [if_neg (show ¬ (false = true) by decide)] at H; exact H
      rw [HTr_] at H1
      exact absurd (Option.some.inj H1) (by decide)
    ·
     rw [if_neg c34] at H
     have c34b0 : ((t548.length : Int) == 0) = false := beq_eq_false_iff_ne.mpr c34
     have c34b1 : ((t548.length : Int) != 0) = true := bne_iff_ne.mpr c34
     have c34b2 : ¬ (t548 = []) := fun h_ => c34 (by rw [h_]; rfl)
     by_cases c60 : 0 < (t548.length : Int)
     ·
      rw [if_pos c60] at H
      have c60b0 : decide (0 < (t548.length : Int)) = true := decide_eq_true c60
      have c60b1 : decide (0 < t548.length) = true := decide_eq_true (by omega)
      clear c60
      replace H := Option.bind_eq_some_iff.mp H
      obtain ⟨⟨t552, t555, t558⟩, A610, H⟩ := H
      replace H : ((delta_Last.f t552 t555).bind fun t560 => ((banksmanref08_Writes.f kj4 t560 t548).bind fun t563 => (if t538 = true then (if t547 = true then (if t558 = 0 then (some t563) else (some true)) else (some false)) else (some false)))) = some r := H
      have A61 := aM A610
      clear A610
      replace H := Option.bind_eq_some_iff.mp H
      obtain ⟨t560, A620, H⟩ := H
      replace H : ((banksmanref08_Writes.f kj4 t560 t548).bind fun t563 => (if t538 = true then (if t547 = true then (if t558 = 0 then (some t563) else (some true)) else (some false)) else (some false))) = some r := H
      have A62 := aM A620
      clear A620
      replace H := Option.bind_eq_some_iff.mp H
      obtain ⟨t563, A630, H⟩ := H
      replace H : (if t538 = true then (if t547 = true then (if t558 = 0 then (some t563) else (some true)) else (some false)) else (some false)) = some r := H
      have A63 := aM A630
      clear A630
      by_cases c64 : t538 = true
      ·
       subst c64
       have H1 : (if t547 = true then (if t558 = 0 then (some t563) else (some true)) else (some false)) = some r := by rw [if_pos rfl] at H; exact H
       clear H
       have H := H1
       clear H1
       by_cases c65 : t547 = true
       ·
        subst c65
        have H1 : (if t558 = 0 then (some t563) else (some true)) = some r := by rw [if_pos rfl] at H; exact H
        clear H
        have H := H1
        clear H1
        by_cases c66 : t558 = 0
        ·
         rw [if_pos c66] at H
         have c66b0 : (t558 == 0) = true := beq_iff_eq.mpr c66
         have c66b1 : (t558 != 0) = false := bne_eq_false_iff_eq.mpr c66
         clear c66
         obtain rfl := Option.some.inj H
         have hnb67 := NBq4.out
         have hnc67 := NBq5.out
         have hcz68_0 : wc.cell? ⟨gb536, 0, none⟩ = some (.slice A0_0 l0_0.length c0_0) := (kC BK536.out 0).trans rfl
         have hcz68_1 : wc.cell? ⟨gb536, 1, none⟩ = some (.slice A0_1 l0_1.length c0_1) := (kC BK536.out 1).trans rfl
         have hfz68_0 := kF BK536.out 0
         have hfz68_1 := kF BK536.out 1
         have hcz69_0 : wc.cell? ⟨gb537, 0, none⟩ = some (.int .i64 a1_0) := (kC BK537.out 0).trans rfl
         have hcz69_1 : wc.cell? ⟨gb537, 1, none⟩ = some (.slice A1_1 l1_1.length c1_1) := (kC BK537.out 1).trans rfl
         have hcz69_2 : wc.cell? ⟨gb537, 2, none⟩ = some (.slice A1_2 l1_2.length c1_2) := (kC BK537.out 2).trans rfl
         have hcz69_3 : wc.cell? ⟨gb537, 3, none⟩ = some (.bool a1_3) := (kC BK537.out 3).trans rfl
         have hfz69_0 := kF BK537.out 0
         have hfz69_1 := kF BK537.out 1
         have hfz69_2 := kF BK537.out 2
         have hfz69_3 := kF BK537.out 3
         try go_wp2_with (first | ((with_reducible refine gate_callee (f := 26) rfl ?_); refine goesL_ (some 39) rfl rfl Try.func26 (by kernel_rfl) rfl #[.agg #[.slice A0_0 l0_0.length c0_0, .slice A0_1 l0_1.length c0_1], .agg #[.int .i64 a1_0, .slice A1_1 l1_1.length c1_1, .slice A1_2 l1_2.length c1_2, .bool a1_3], .slice A2 l2.length c2] rfl (by (try simp only [List.map_toArray, List.map_cons, List.map_nil]); first | done | rfl | (simp only [List.length_drop, List.length_take]; rfl)) ?_; (with_reducible refine (delta_Over.calls _ _ l0_0 _ _ l0_1 a1_0 _ _ l1_1 _ _ l1_2 a1_3 (fun k_ => k_ < w.heap.size) _ _ l2 t541 _ ?side1 ?side2 ?side3 ?side4 ?side5 ?side6 ?side7 ?side8 ?side9 A30.out).mono ?_); (case side1 => repeat (first | exact (Kd.C_below HR0_0.out HB.out) | (with_reducible refine Kd.C_alloc ?_ _) | (with_reducible refine Kd.C_drewN ?_ _) | (with_reducible refine Kd.C_drew ?_))); (case side2 => exact HC0_0.out); (case side3 => repeat (first | exact (Kd.C_below HR0_1.out HB.out) | (with_reducible refine Kd.C_alloc ?_ _) | (with_reducible refine Kd.C_drewN ?_ _) | (with_reducible refine Kd.C_drew ?_))); (case side4 => exact HC0_1.out); (case side5 => repeat (first | exact (Kd.C_below HR1_1.out HB.out) | (with_reducible refine Kd.C_alloc ?_ _) | (with_reducible refine Kd.C_drewN ?_ _) | (with_reducible refine Kd.C_drew ?_))); (case side6 => exact HC1_1.out); (case side7 => repeat (first | exact (Kd.C_below HR1_2.out HB.out) | (with_reducible refine Kd.C_alloc ?_ _) | (with_reducible refine Kd.C_drewN ?_ _) | (with_reducible refine Kd.C_drew ?_))); (case side8 => exact HC1_2.out); (case side9 => exact Kd.V_mk HC2.out (Kd.F_below (Kd.C_F k53_heap HR2.out) (by repeat (first | (with_reducible first | exact HB.out | apply bA | apply bN | apply bD | refine bS ?_ GE536.out | refine bS ?_ GE537.out) | exact HB.out)))); rintro e w70 ⟨v542, rfl, ho0, hb⟩; refine ⟨_, rfl, ?_⟩; have HO543 := aM (Kd.N_lower (Kd.N_mono (ok' := fun k_ => k_ ≠ gb536 ∧ k_ ≠ gb537) ho0 (fun k_ hk_ => ⟨Or.elim hk_ (fun hs_ => fun e_ => Nat.not_le.2 hs_ (by rw [e_]; exact GW536.out)) (fun hn_ => (Kd.freshB (g := gb536) (o := .cells #[.slice A0_0 l0_0.length c0_0, .slice A0_1 l0_1.length c0_1] 25 (0, 0)) (bU BK536.out) k_ hn_)), Or.elim hk_ (fun hs_ => fun e_ => Nat.not_le.2 hs_ (by rw [e_]; exact GW537.out)) (fun hn_ => (Kd.freshB (g := gb537) (o := .cells #[.int .i64 a1_0, .slice A1_1 l1_1.length c1_1, .slice A1_2 l1_2.length c1_2, .bool a1_3] 39 (0, 0)) (bU BK537.out) k_ hn_))⟩)) (below_size (by repeat (first | (with_reducible first | exact HB.out | apply bA | apply bN | apply bD | refine bS ?_ GE536.out | refine bS ?_ GE537.out) | exact HB.out)))); replace BK536 := aM (kB (g := gb536) (o := .cells #[.slice A0_0 l0_0.length c0_0, .slice A0_1 l0_1.length c0_1] 25 (0, 0)) (bU BK536.out) hb); replace BK537 := aM (kB (g := gb537) (o := .cells #[.int .i64 a1_0, .slice A1_1 l1_1.length c1_1, .slice A1_2 l1_2.length c1_2, .bool a1_3] 39 (0, 0)) (bU BK537.out) hb); replace HB := aM (below_step (by repeat (first | (with_reducible first | exact HB.out | apply bA | apply bN | apply bD | refine bS ?_ GE536.out | refine bS ?_ GE537.out) | exact HB.out)) hb); (try clear hb); (try clear hk); have hcz71_0 : w70.cell? ⟨gb536, 0, none⟩ = some (.slice A0_0 l0_0.length c0_0) := (kC BK536.out 0).trans rfl; have hcz71_1 : w70.cell? ⟨gb536, 1, none⟩ = some (.slice A0_1 l0_1.length c0_1) := (kC BK536.out 1).trans rfl; have hfz71_0 := kF BK536.out 0; have hfz71_1 := kF BK536.out 1; have hcz72_0 : w70.cell? ⟨gb537, 0, none⟩ = some (.int .i64 a1_0) := (kC BK537.out 0).trans rfl; have hcz72_1 : w70.cell? ⟨gb537, 1, none⟩ = some (.slice A1_1 l1_1.length c1_1) := (kC BK537.out 1).trans rfl; have hcz72_2 : w70.cell? ⟨gb537, 2, none⟩ = some (.slice A1_2 l1_2.length c1_2) := (kC BK537.out 2).trans rfl; have hcz72_3 : w70.cell? ⟨gb537, 3, none⟩ = some (.bool a1_3) := (kC BK537.out 3).trans rfl; have hfz72_0 := kF BK537.out 0; have hfz72_1 := kF BK537.out 1; have hfz72_2 := kF BK537.out 2; have hfz72_3 := kF BK537.out 3; obtain ⟨Ao73, co73, eo73⟩ := Kd.N_slice HO543.out; subst eo73) | ((with_reducible refine gate_callee (f := 26) rfl ?_); refine goesL_ (some 43) rfl rfl Try.func26 (by kernel_rfl) rfl #[.agg #[.slice A0_0 l0_0.length c0_0, .slice A0_1 l0_1.length c0_1], .agg #[.int .i64 a1_0, .slice A1_1 l1_1.length c1_1, .slice A1_2 l1_2.length c1_2, .bool a1_3], .slice Ao73 t541.length co73] rfl (by (try simp only [List.map_toArray, List.map_cons, List.map_nil]); first | done | rfl | (simp only [List.length_drop, List.length_take]; rfl)) ?_; (with_reducible refine (delta_Over.calls _ _ l0_0 _ _ l0_1 a1_0 _ _ l1_1 _ _ l1_2 a1_3 (fun k_ => (k_ ≠ gb536 ∧ k_ ≠ gb537)) _ _ t541 t544 _ ?side1 ?side2 ?side3 ?side4 ?side5 ?side6 ?side7 ?side8 ?side9 A31.out).mono ?_); (case side1 => repeat (first | exact (Kd.C_below HR0_0.out HB.out) | (with_reducible refine Kd.C_alloc ?_ _) | (with_reducible refine Kd.C_drewN ?_ _) | (with_reducible refine Kd.C_drew ?_))); (case side2 => exact HC0_0.out); (case side3 => repeat (first | exact (Kd.C_below HR0_1.out HB.out) | (with_reducible refine Kd.C_alloc ?_ _) | (with_reducible refine Kd.C_drewN ?_ _) | (with_reducible refine Kd.C_drew ?_))); (case side4 => exact HC0_1.out); (case side5 => repeat (first | exact (Kd.C_below HR1_1.out HB.out) | (with_reducible refine Kd.C_alloc ?_ _) | (with_reducible refine Kd.C_drewN ?_ _) | (with_reducible refine Kd.C_drew ?_))); (case side6 => exact HC1_1.out); (case side7 => repeat (first | exact (Kd.C_below HR1_2.out HB.out) | (with_reducible refine Kd.C_alloc ?_ _) | (with_reducible refine Kd.C_drewN ?_ _) | (with_reducible refine Kd.C_drew ?_))); (case side8 => exact HC1_2.out); (case side9 => exact Kd.N_V (HO543.out)); rintro e w74 ⟨v545, rfl, ho0, hb⟩; refine ⟨_, rfl, ?_⟩; replace HO543 := aM (Kd.N_elder' (nU HO543.out) (Kd.N_base ho0) hb); have HO546 := aM (Kd.N_lower (Kd.N_mono (ok' := fun k_ => k_ ≠ gb536 ∧ k_ ≠ gb537) ho0 (fun k_ hk_ => ⟨Or.elim hk_ (fun hs_ => hs_.1) (fun hn_ => (Kd.freshB (g := gb536) (o := .cells #[.slice A0_0 l0_0.length c0_0, .slice A0_1 l0_1.length c0_1] 25 (0, 0)) (bU BK536.out) k_ hn_)), Or.elim hk_ (fun hs_ => hs_.2) (fun hn_ => (Kd.freshB (g := gb537) (o := .cells #[.int .i64 a1_0, .slice A1_1 l1_1.length c1_1, .slice A1_2 l1_2.length c1_2, .bool a1_3] 39 (0, 0)) (bU BK537.out) k_ hn_))⟩)) (below_size (by repeat (first | (with_reducible first | exact HB.out | apply bA | apply bN | apply bD | refine bS ?_ GE536.out | refine bS ?_ GE537.out) | exact HB.out)))); replace BK536 := aM (kB (g := gb536) (o := .cells #[.slice A0_0 l0_0.length c0_0, .slice A0_1 l0_1.length c0_1] 25 (0, 0)) (bU BK536.out) hb); replace BK537 := aM (kB (g := gb537) (o := .cells #[.int .i64 a1_0, .slice A1_1 l1_1.length c1_1, .slice A1_2 l1_2.length c1_2, .bool a1_3] 39 (0, 0)) (bU BK537.out) hb); replace HB := aM (below_step (by repeat (first | (with_reducible first | exact HB.out | apply bA | apply bN | apply bD | refine bS ?_ GE536.out | refine bS ?_ GE537.out) | exact HB.out)) hb); (try clear hb); (try clear hk); obtain ⟨Ao75, co75, eo75⟩ := Kd.N_slice HO546.out; subst eo75) | ((with_reducible refine gate_callee (f := 25) rfl ?_); refine goesL_ (some 45) rfl rfl Try.func25 (by kernel_rfl) rfl #[.slice Ao75 t544.length co75, .slice Ao73 t541.length co73] rfl (by (try simp only [List.map_toArray, List.map_cons, List.map_nil]); first | done | rfl | (simp only [List.length_drop, List.length_take]; rfl)) ?_; (with_reducible refine (banksmanref07_Pairs.calls kj4 _ _ t544 _ _ t541 true _ ?side1 ?side2 ?side3 ?side4 A32.out).mono ?_); (case side1 => repeat (first | exact (Kd.N_reads' HO546.out).2.2 | (with_reducible refine Kd.C_alloc ?_ _) | (with_reducible refine Kd.C_drewN ?_ _) | (with_reducible refine Kd.C_drew ?_))); (case side2 => exact (Kd.N_reads' HO546.out).2.1); (case side3 => repeat (first | exact (Kd.N_reads' HO543.out).2.2 | (with_reducible refine Kd.C_alloc ?_ _) | (with_reducible refine Kd.C_drewN ?_ _) | (with_reducible refine Kd.C_drew ?_))); (case side4 => exact (Kd.N_reads' HO543.out).2.1); rintro e w' ⟨rfl, ⟨nd, rfl⟩⟩; refine ⟨_, rfl, ?_⟩; (try (rw [drewN_self w74]; generalize hq_ : World.drewN w74 _ = w74; have n0_ : Aside0 (Kd.N k53 53 w74 w.heap.size (fun k_ => some k_ ≠ (.slice Ao75 t544.length co75 : Value).ownBlock ∧ k_ ≠ gb536 ∧ k_ ≠ gb537) (.slice Ao73 t541.length co73) t541) := ⟨by rw [← hq_]; exact (by (with_reducible repeat (first | apply Kd.N_alloc | apply Kd.N_drewN | apply Kd.N_drew)); exact Kd.N_mono HO543.out (fun _ hk => ⟨hk.2, ⟨hk.1.1, hk.1.2⟩⟩))⟩; have n1_ : Aside0 (Kd.N k53 53 w74 w.heap.size (fun k_ => k_ ≠ gb536 ∧ k_ ≠ gb537) (.slice Ao75 t544.length co75) t544) := ⟨by rw [← hq_]; exact (nU HO546.out)⟩; have n2_ : Aside0 (w74.heap[gb536]? = some (.cells #[.slice A0_0 l0_0.length c0_0, .slice A0_1 l0_1.length c0_1] 25 (0, 0))) := ⟨by rw [← hq_]; exact (bU BK536.out)⟩; have n3_ : Aside0 (w74.heap[gb537]? = some (.cells #[.int .i64 a1_0, .slice A1_1 l1_1.length c1_1, .slice A1_2 l1_2.length c1_2, .bool a1_3] 39 (0, 0))) := ⟨by rw [← hq_]; exact (bU BK537.out)⟩; have n4_ : Aside0 (Below w.heap.size w w74) := ⟨by rw [← hq_]; exact (by repeat (first | (with_reducible first | exact HB.out | apply bA | apply bN | apply bD | refine bS ?_ GE536.out | refine bS ?_ GE537.out) | exact HB.out))⟩; clear HO543 HO546 BK536 BK537 HB hq_; have HO543 := n0_; have HO546 := n1_; have BK536 := n2_; have BK537 := n3_; have HB := n4_; clear n0_ n1_ n2_ n3_ n4_)); have hcz76_0 : w74.cell? ⟨gb536, 0, none⟩ = some (.slice A0_0 l0_0.length c0_0) := (kC BK536.out 0).trans rfl; have hcz76_1 : w74.cell? ⟨gb536, 1, none⟩ = some (.slice A0_1 l0_1.length c0_1) := (kC BK536.out 1).trans rfl; have hfz76_0 := kF BK536.out 0; have hfz76_1 := kF BK536.out 1) | ((with_reducible refine gate_callee (f := 23) rfl ?_); refine goesL_ (some 47) rfl rfl Try.func23 (by kernel_rfl) rfl #[.agg #[.slice A0_0 l0_0.length c0_0, .slice A0_1 l0_1.length c0_1]] rfl (by (try simp only [List.map_toArray, List.map_cons, List.map_nil]); first | done | rfl | (simp only [List.length_drop, List.length_take]; rfl)) ?_; (with_reducible refine (delta_Last.calls _ _ l0_0 _ _ l0_1 t548 _ ?side1 ?side2 ?side3 ?side4 A33.out).mono ?_); (case side1 => repeat (first | exact (Kd.C_below HR0_0.out HB.out) | (with_reducible refine Kd.C_alloc ?_ _) | (with_reducible refine Kd.C_drewN ?_ _) | (with_reducible refine Kd.C_drew ?_))); (case side2 => exact HC0_0.out); (case side3 => repeat (first | exact (Kd.C_below HR0_1.out HB.out) | (with_reducible refine Kd.C_alloc ?_ _) | (with_reducible refine Kd.C_drewN ?_ _) | (with_reducible refine Kd.C_drew ?_))); (case side4 => exact HC0_1.out); rintro e w77 ⟨v549, rfl, ho0, hb⟩; refine ⟨_, rfl, ?_⟩; have HO550 := aM (Kd.N_lower (Kd.N_mono (ok' := fun k_ => some k_ ≠ (.slice Ao73 t541.length co73 : Value).ownBlock ∧ some k_ ≠ (.slice Ao75 t544.length co75 : Value).ownBlock ∧ k_ ≠ gb536 ∧ k_ ≠ gb537) ho0 (fun k_ hk_ => ⟨(Kd.fresh' (Kd.N_lt (nU HO543.out)) k_ hk_), (Kd.fresh' (Kd.N_lt (nU HO546.out)) k_ hk_), (Kd.freshB (g := gb536) (o := .cells #[.slice A0_0 l0_0.length c0_0, .slice A0_1 l0_1.length c0_1] 25 (0, 0)) (bU BK536.out) k_ hk_), (Kd.freshB (g := gb537) (o := .cells #[.int .i64 a1_0, .slice A1_1 l1_1.length c1_1, .slice A1_2 l1_2.length c1_2, .bool a1_3] 39 (0, 0)) (bU BK537.out) k_ hk_)⟩)) (below_size (by repeat (first | (with_reducible first | exact HB.out | apply bA | apply bN | apply bD | refine bS ?_ GE536.out | refine bS ?_ GE537.out) | exact HB.out)))); replace HO543 := aM (Kd.N_elder' (nU HO543.out) (Kd.N_base ho0) hb); replace HO546 := aM (Kd.N_elder' (nU HO546.out) (Kd.N_base ho0) hb); replace BK536 := aM (kB (g := gb536) (o := .cells #[.slice A0_0 l0_0.length c0_0, .slice A0_1 l0_1.length c0_1] 25 (0, 0)) (bU BK536.out) hb); replace BK537 := aM (kB (g := gb537) (o := .cells #[.int .i64 a1_0, .slice A1_1 l1_1.length c1_1, .slice A1_2 l1_2.length c1_2, .bool a1_3] 39 (0, 0)) (bU BK537.out) hb); replace HB := aM (below_step (by repeat (first | (with_reducible first | exact HB.out | apply bA | apply bN | apply bD | refine bS ?_ GE536.out | refine bS ?_ GE537.out) | exact HB.out)) hb); (try clear hb); (try clear hk); obtain ⟨Ao78, co78, eo78⟩ := Kd.N_slice HO550.out; subst eo78))
         have n0_ := aM (Kd.N_drew HO543.out)
         have n1_ := aM (Kd.N_drew HO546.out)
         have n2_ := aM (Kd.N_drew HO550.out)
         have n3_ := aM (blk_drew BK536.out)
         have n4_ := aM (blk_drew BK537.out)
         have n5_ := aM (bD HB.out)
         clear HO543
         clear HO546
         clear HO550
         clear BK536
         clear BK537
         clear HB
         have HO543 := n0_
         have HO546 := n1_
         have HO550 := n2_
         have BK536 := n3_
         have BK537 := n4_
         have HB := n5_
         clear n0_ n1_ n2_ n3_ n4_ n5_
         have p551 : 0 ≤ (0 : Int) := (by omega)
         have q551 : 0 < (t548.length : Int) := of_decide_eq_true (by first | (with_reducible assumption) | assumption)
         obtain ⟨ad551, A551_1, c551_1, A551_3, c551_3, e551, hx551_0, hx551_1, hx551_2, hx551_3, hl551_1, hi551_1, hl551_3, hi551_3⟩ := at_T28 (Kd.N_reads' HO550.out).2.2 0 p551 q551
         cases e551
         obtain ⟨ce551, hce551, hMe551, hcc551⟩ := Kd.N_get HO550.out z28 0 p551 (by first | exact q551 | exact of_decide_eq_true (by first | (with_reducible assumption) | assumption) | (have e_ := (Kd.N_reads' HO550.out).1; omega))
         obtain ⟨ua551_1, uc551_1, ua551_3, uc551_3, rfl, ul551_1, ge551_1, ul551_3, ge551_3⟩ := k28_openF hMe551
         have hv551_1 := hcc551 1 _ rfl
         rw [add_field _ _ 1 (by omega)] at hv551_1
         replace hv551_1 := Option.some.inj (hv551_1.symm.trans hx551_1)
         injection hv551_1 with hva_ hvn_ hvc_
         rw [hva_] at ge551_1
         rw [hvc_] at ul551_1
         have HLq0 := aM (show Kd.V (Kd.int .u8) 5 _ w.heap.size _ _ ((rd_T28 t548 0).f1) from Kd.V_mk ul551_1 ge551_1)
         clear hva_ hvn_ hvc_ ge551_1 ul551_1
         have hv551_3 := hcc551 3 _ rfl
         rw [add_field _ _ 3 (by omega)] at hv551_3
         replace hv551_3 := Option.some.inj (hv551_3.symm.trans hx551_3)
         injection hv551_3 with hva_ hvn_ hvc_
         rw [hva_] at ge551_3
         rw [hvc_] at ul551_3
         have HLq1 := aM (show Kd.V (Kd.int .u8) 5 _ w.heap.size _ _ ((rd_T28 t548 0).f3) from Kd.V_mk ul551_3 ge551_3)
         clear hva_ hvn_ hvc_ ge551_3 ul551_3
         clear hcc551 hce551
         have qi551 : (0 < t548.length) = True := eq_true (by omega)
         (try rw [show ((0 : Int)).toNat = 0 from rfl] at hx551_0)
         (try rw [show 0 * 4 = 0 from rfl] at hx551_0)
         (try rw [Addr.add_zero'] at hx551_0)
         (try rw [show ((0 : Int)).toNat = 0 from rfl] at hx551_1)
         (try rw [show 0 * 4 = 0 from rfl] at hx551_1)
         (try rw [Addr.add_zero'] at hx551_1)
         (try rw [show ((0 : Int)).toNat = 0 from rfl] at hx551_2)
         (try rw [show 0 * 4 = 0 from rfl] at hx551_2)
         (try rw [Addr.add_zero'] at hx551_2)
         (try rw [show ((0 : Int)).toNat = 0 from rfl] at hx551_3)
         (try rw [show 0 * 4 = 0 from rfl] at hx551_3)
         (try rw [Addr.add_zero'] at hx551_3)
         have HRq0 := aM hi551_1
         have HCq0 := aM hl551_1
         clear hi551_1 hl551_1
         have HRq1 := aM hi551_3
         have HCq1 := aM hl551_3
         clear hi551_3 hl551_3
         replace p551 := eq_true p551
         replace q551 := eq_true q551
         refine start_ (n := 11) (S := fun w' => w'.cell? ⟨gb536, 0, none⟩ = some (.slice A0_0 l0_0.length c0_0) ∧ w'.cell? ⟨gb536, 1, none⟩ = some (.slice A0_1 l0_1.length c0_1) ∧ w'.cell? ad551 = some (.int .i64 ((rd_T28 t548 0).f0)) ∧ w'.cell? ⟨ad551.block, ad551.off + 1, none⟩ = some (.slice A551_1 ((rd_T28 t548 0).f1).length c551_1) ∧ w'.cell? ⟨ad551.block, ad551.off + 2, none⟩ = some (.bool ((rd_T28 t548 0).f2)) ∧ w'.cell? ⟨ad551.block, ad551.off + 3, none⟩ = some (.slice A551_3 ((rd_T28 t548 0).f3).length c551_3)) (ds := []) #[F_,F_,F_,F_,F_,F_,F_,F_,F_,F_,F_] (by kernel_rfl) rfl rfl ⟨(kC BK536.out 0).trans rfl, (kC BK536.out 1).trans rfl, hx551_0, hx551_1, hx551_2, hx551_3⟩ (fun hHeld => ?_); refine with_tabW banksmanlaw08_DeltaTwice.tab9 banksmanlaw08_DeltaTwice.bits9 (fun HT_ HW_ => ?_)
         generalize w77.drew = w79 at HO543 HO546 HO550 BK536 BK537 HB HLq0 HLq1 HRq0 HRq1 hx551_0 hx551_1 hx551_2 hx551_3 hHeld ⊢
         refine pure_ (i := 1) (N := some 57) (v := ?_) (a' := ?_) #[F_,T_,F_,F_,F_,F_,F_,F_,F_,F_,F_] rfl rfl (any_of HT_.out (by kernel_rfl)) (fun _ _ _ h => h) (Or.inl ⟨by rfl, ?_⟩) ?_ ?_
         rotate_left
         ·
          intro w'
          go_simp
          with_reducible rfl
         rotate_left
         ·
          simp only [Act.put, List.setIfInBounds_toArray, List.set_cons_zero, List.set_cons_succ, i64_w, i32_w]
          rfl
         refine pure_ (i := 2) (N := some 58) (v := ?_) (a' := ?_) #[F_,T_,T_,F_,F_,F_,F_,F_,F_,F_,F_] rfl rfl (any_of HT_.out (by kernel_rfl)) (fun _ _ _ h => h) (Or.inl ⟨by rfl, ?_⟩) ?_ ?_
         rotate_left
         ·
          intro w'
          go_simp
          with_reducible rfl
         rotate_left
         ·
          simp only [Act.put, List.setIfInBounds_toArray, List.set_cons_zero, List.set_cons_succ, i64_w, i32_w]
          rfl
         refine take_ (i := 0) (N := some 56) (v := ?_) (a' := ?_) #[T_,T_,T_,F_,F_,F_,F_,F_,F_,F_,F_] rfl rfl (take_ofW HT_.out HW_.out (by kernel_rfl)) (fun _ _ _ h => h) (Or.inl ⟨by rfl, ?_⟩) hHeld ?_ ?_
         rotate_left
         ·
          rintro w' ⟨s0, s1, s2, s3, s4, s5⟩
          go_simp
          with_reducible rfl
         rotate_left
         ·
          simp only [Act.put, List.setIfInBounds_toArray, List.set_cons_zero, List.set_cons_succ, i64_w, i32_w]
          rfl
         refine take_ (i := 3) (N := some 59) (v := ?_) (a' := ?_) #[T_,T_,T_,T_,F_,F_,F_,F_,F_,F_,F_] rfl rfl (take_ofW HT_.out HW_.out (by kernel_rfl)) (fun _ _ _ h => h) (Or.inl ⟨by rfl, ?_⟩) hHeld ?_ ?_
         rotate_left
         ·
          rintro w' ⟨s0, s1, s2, s3, s4, s5⟩
          go_simp
          with_reducible rfl
         rotate_left
         ·
          simp only [Act.put, List.setIfInBounds_toArray, List.set_cons_zero, List.set_cons_succ, i64_w, i32_w]
          rfl
         refine join_ (σ := Value × Value × Nat) 2 #[T_,T_,T_,T_,T_,T_,T_,T_,T_,F_,F_] (fun s_ => [(60, .tuple #[.agg #[s_.1, s_.2.1], .int .i64 t558]), (11, .pointer (some ⟨s_.2.2, 0, none⟩)), (55, .tuple #[.agg #[s_.1, s_.2.1], .int .i64 t558]), (61, .agg #[s_.1, s_.2.1]), (62, .int .i64 t558)]) (fun s_ w' => (w'.cell? ⟨gb536, 0, none⟩ = some (.slice A0_0 l0_0.length c0_0) ∧ w'.cell? ⟨gb536, 1, none⟩ = some (.slice A0_1 l0_1.length c0_1) ∧ w'.cell? ad551 = some (.int .i64 ((rd_T28 t548 0).f0)) ∧ w'.cell? ⟨ad551.block, ad551.off + 1, none⟩ = some (.slice A551_1 ((rd_T28 t548 0).f1).length c551_1) ∧ w'.cell? ⟨ad551.block, ad551.off + 2, none⟩ = some (.bool ((rd_T28 t548 0).f2)) ∧ w'.cell? ⟨ad551.block, ad551.off + 3, none⟩ = some (.slice A551_3 ((rd_T28 t548 0).f3).length c551_3)) ∧ (Kd.V (Kd.int .u8) 5 w' w.heap.size (fun k_ => some k_ ≠ (.slice Ao73 t541.length co73 : Value).ownBlock ∧ some k_ ≠ (.slice Ao75 t544.length co75 : Value).ownBlock ∧ some k_ ≠ (.slice (some ad551) t548.length co78 : Value).ownBlock ∧ some k_ ≠ (s_.1 : Value).ownBlock ∧ some k_ ≠ (s_.2.1 : Value).ownBlock ∧ k_ ≠ gb536 ∧ k_ ≠ gb537 ∧ k_ ≠ s_.2.2) (.slice A551_1 ((rd_T28 t548 0).f1).length c551_1) ((rd_T28 t548 0).f1)) ∧ (Kd.V (Kd.int .u8) 5 w' w.heap.size (fun k_ => some k_ ≠ (.slice Ao73 t541.length co73 : Value).ownBlock ∧ some k_ ≠ (.slice Ao75 t544.length co75 : Value).ownBlock ∧ some k_ ≠ (.slice (some ad551) t548.length co78 : Value).ownBlock ∧ some k_ ≠ (s_.1 : Value).ownBlock ∧ some k_ ≠ (s_.2.1 : Value).ownBlock ∧ k_ ≠ gb536 ∧ k_ ≠ gb537 ∧ k_ ≠ s_.2.2) (.slice A551_3 ((rd_T28 t548 0).f3).length c551_3) ((rd_T28 t548 0).f3)) ∧ (Kd.N k53 53 w' w.heap.size (fun k_ => some k_ ≠ (.slice Ao75 t544.length co75 : Value).ownBlock ∧ some k_ ≠ (.slice (some ad551) t548.length co78 : Value).ownBlock ∧ some k_ ≠ (s_.1 : Value).ownBlock ∧ some k_ ≠ (s_.2.1 : Value).ownBlock ∧ k_ ≠ gb536 ∧ k_ ≠ gb537 ∧ k_ ≠ s_.2.2) (.slice Ao73 t541.length co73) t541) ∧ (Kd.N k53 53 w' w.heap.size (fun k_ => some k_ ≠ (.slice (some ad551) t548.length co78 : Value).ownBlock ∧ some k_ ≠ (s_.1 : Value).ownBlock ∧ some k_ ≠ (s_.2.1 : Value).ownBlock ∧ k_ ≠ gb536 ∧ k_ ≠ gb537 ∧ k_ ≠ s_.2.2) (.slice Ao75 t544.length co75) t544) ∧ (Kd.N k28 28 w' w.heap.size (fun k_ => some k_ ≠ (.slice Ao73 t541.length co73 : Value).ownBlock ∧ some k_ ≠ (.slice Ao75 t544.length co75 : Value).ownBlock ∧ some k_ ≠ (s_.1 : Value).ownBlock ∧ some k_ ≠ (s_.2.1 : Value).ownBlock ∧ k_ ≠ gb536 ∧ k_ ≠ gb537 ∧ k_ ≠ s_.2.2) (.slice (some ad551) t548.length co78) t548) ∧ (Kd.N k28 28 w' w.heap.size (fun k_ => some k_ ≠ (.slice Ao73 t541.length co73 : Value).ownBlock ∧ some k_ ≠ (.slice Ao75 t544.length co75 : Value).ownBlock ∧ some k_ ≠ (.slice (some ad551) t548.length co78 : Value).ownBlock ∧ some k_ ≠ (s_.2.1 : Value).ownBlock ∧ k_ ≠ gb536 ∧ k_ ≠ gb537 ∧ k_ ≠ s_.2.2) s_.1 t552) ∧ (Kd.R (Kd.int .i64) 3 w' w.heap.size (fun _ => True) s_.2.1 t555) ∧ (w'.heap[gb536]? = some (.cells #[.slice A0_0 l0_0.length c0_0, .slice A0_1 l0_1.length c0_1] 25 (0, 0))) ∧ (w'.heap[gb537]? = some (.cells #[.int .i64 a1_0, .slice A1_1 l1_1.length c1_1, .slice A1_2 l1_2.length c1_2, .bool a1_3] 39 (0, 0))) ∧ (w'.heap[s_.2.2]? = some (.cells #[.slice none 0 0, .slice none 0 0] 25 (0, 0))) ∧ (w.heap.size ≤ s_.2.2) ∧ (w.heap.size ≤ s_.2.2) ∧ (gb536 ≠ s_.2.2) ∧ (s_.2.2 ≠ gb536) ∧ (gb537 ≠ s_.2.2) ∧ (s_.2.2 ≠ gb537) ∧ (Below w.heap.size w w')) ?_ ?_
         rotate_left
         ·
          intro hCont
          refine two_ (i := 4) (j := 8) (Ni := some 60) (Nj := some 11) #[T_,T_,T_,T_,T_,F_,F_,F_,F_,F_,F_] #[T_,T_,T_,T_,F_,F_,F_,F_,T_,F_,F_] rfl rfl rfl rfl (two_of HT_.out (by kernel_rfl)) (by decide) (by decide) (fun K hK => ?_) (fun K hK => ?_)
          ·
           skip
           refine goes_ Try.func10 (by kernel_rfl) rfl #[.agg #[.slice A0_0 l0_0.length c0_0, .slice A0_1 l0_1.length c0_1], .agg #[.int .i64 ((rd_T28 t548 0).f0), .slice A551_1 ((rd_T28 t548 0).f1).length c551_1, .bool ((rd_T28 t548 0).f2), .slice A551_3 ((rd_T28 t548 0).f3).length c551_3]] (by rfl) rfl rfl (by (try simp only [List.map_toArray, List.map_cons, List.map_nil]); first | done | rfl | (simp only [List.length_drop, List.length_take]; rfl)) ?_
           with_reducible refine (delta_Put.calls kj4 (fun k_ => k_ < w.heap.size) _ _ l0_0 _ _ l0_1 ((rd_T28 t548 0).f0) _ _ ((rd_T28 t548 0).f1) ((rd_T28 t548 0).f2) _ _ ((rd_T28 t548 0).f3) t552 t555 t558 _ ?side1 ?side2 ?side3 ?side4 ?side5 ?side6 ?side7 A61.out).mono ?_
           (case side1 => exact Kd.V_mk HC0_0.out (Kd.F_below (Kd.C_F k28_heap HR0_0.out) (by repeat (first | (with_reducible first | exact HB.out | apply bA | apply bN | apply bD | refine bS ?_ GE536.out | refine bS ?_ GE537.out) | exact HB.out))))
           (case side2 => repeat (first | exact (Kd.C_below HR0_1.out HB.out) | (with_reducible refine Kd.C_alloc ?_ _) | (with_reducible refine Kd.C_drewN ?_ _) | (with_reducible refine Kd.C_drew ?_)))
           (case side3 => exact HC0_1.out)
           (case side4 => repeat (first | exact (cU HRq0.out) | (with_reducible refine Kd.C_alloc ?_ _) | (with_reducible refine Kd.C_drewN ?_ _) | (with_reducible refine Kd.C_drew ?_)))
           (case side5 => exact HCq0.out)
           (case side6 => repeat (first | exact (cU HRq1.out) | (with_reducible refine Kd.C_alloc ?_ _) | (with_reducible refine Kd.C_drewN ?_ _) | (with_reducible refine Kd.C_drew ?_)))
           (case side7 => exact HCq1.out)
           rintro e w80 ⟨v553, v556, rfl, ho0, ho1, hb⟩
           have HS2_ := (hb.cell (World.block_lt_of_cell? _ _ (hHeld.2.2.1))).trans (hHeld.2.2.1)
           have HS3_ := (hb.cell (World.block_lt_of_cell? _ _ (hHeld.2.2.2.1))).trans (hHeld.2.2.2.1)
           have HS4_ := (hb.cell (World.block_lt_of_cell? _ _ (hHeld.2.2.2.2.1))).trans (hHeld.2.2.2.2.1)
           have HS5_ := (hb.cell (World.block_lt_of_cell? _ _ (hHeld.2.2.2.2.2))).trans (hHeld.2.2.2.2.2)
           refine ⟨_, rfl, ?_⟩
           have n0_ := aM (Kd.N_mono (Kd.N_told (Kd.N_told (Kd.N_old (nU HO543.out) hb) (Kd.N_base ho0)) (Kd.R_base ho1)) (fun _ h_ => h_.1))
           have n1_ := aM (Kd.N_mono (Kd.N_told (Kd.N_told (Kd.N_old (nU HO546.out) hb) (Kd.N_base ho0)) (Kd.R_base ho1)) (fun _ h_ => h_.1))
           have n2_ := aM (Kd.N_mono (Kd.N_told (Kd.N_told (Kd.N_old (nU HO550.out) hb) (Kd.N_base ho0)) (Kd.R_base ho1)) (fun _ h_ => h_.1))
           have n3_ := aM (Kd.V_mono (Kd.V_told (Kd.V_told (Kd.V_old (vU HLq0.out) hb) (Kd.N_base ho0)) (Kd.R_base ho1)) (fun _ h_ => h_.1))
           have n4_ := aM (Kd.V_mono (Kd.V_told (Kd.V_told (Kd.V_old (vU HLq1.out) hb) (Kd.N_base ho0)) (Kd.R_base ho1)) (fun _ h_ => h_.1))
           have n5_ := aM (Kd.N_lower (Kd.N_mono (ok' := fun k_ => some k_ ≠ (v556 : Value).ownBlock ∧ some k_ ≠ (.slice Ao73 t541.length co73 : Value).ownBlock ∧ some k_ ≠ (.slice Ao75 t544.length co75 : Value).ownBlock ∧ some k_ ≠ (.slice (some ad551) t548.length co78 : Value).ownBlock ∧ k_ ≠ gb536 ∧ k_ ≠ gb537) ho0 (fun k_ hk_ => ⟨hk_.2, Or.elim hk_.1 (fun hs_ => fun e_ => Nat.not_le.2 hs_ (Kd.N_base HO543.out k_ e_.symm)) (fun hn_ => (Kd.fresh' (Kd.N_lt (nU HO543.out)) k_ hn_)), Or.elim hk_.1 (fun hs_ => fun e_ => Nat.not_le.2 hs_ (Kd.N_base HO546.out k_ e_.symm)) (fun hn_ => (Kd.fresh' (Kd.N_lt (nU HO546.out)) k_ hn_)), Or.elim hk_.1 (fun hs_ => fun e_ => Nat.not_le.2 hs_ (Kd.N_base HO550.out k_ e_.symm)) (fun hn_ => (Kd.fresh' (Kd.N_lt (nU HO550.out)) k_ hn_)), Or.elim hk_.1 (fun hs_ => fun e_ => Nat.not_le.2 hs_ (by rw [e_]; exact GW536.out)) (fun hn_ => (Kd.freshB (g := gb536) (o := .cells #[.slice A0_0 l0_0.length c0_0, .slice A0_1 l0_1.length c0_1] 25 (0, 0)) (bU BK536.out) k_ hn_)), Or.elim hk_.1 (fun hs_ => fun e_ => Nat.not_le.2 hs_ (by rw [e_]; exact GW537.out)) (fun hn_ => (Kd.freshB (g := gb537) (o := .cells #[.int .i64 a1_0, .slice A1_1 l1_1.length c1_1, .slice A1_2 l1_2.length c1_2, .bool a1_3] 39 (0, 0)) (bU BK537.out) k_ hn_))⟩)) (below_size (by repeat (first | (with_reducible first | exact HB.out | apply bA | apply bN | apply bD | refine bS ?_ GE536.out | refine bS ?_ GE537.out) | exact HB.out))))
           have n6_ := aM (Kd.R_lower (Kd.R_mono (ok' := fun k_ => True) ho1 (fun _ hk_ => trivial)) (below_size (by repeat (first | (with_reducible first | exact HB.out | apply bA | apply bN | apply bD | refine bS ?_ GE536.out | refine bS ?_ GE537.out) | exact HB.out))))
           have n7_ := aM (kB (g := gb536) (o := .cells #[.slice A0_0 l0_0.length c0_0, .slice A0_1 l0_1.length c0_1] 25 (0, 0)) (bU BK536.out) hb)
           have n8_ := aM (kB (g := gb537) (o := .cells #[.int .i64 a1_0, .slice A1_1 l1_1.length c1_1, .slice A1_2 l1_2.length c1_2, .bool a1_3] 39 (0, 0)) (bU BK537.out) hb)
           have n9_ := aM (Kd.C_below (cU HRq0.out) hb)
           have n10_ := aM (Kd.C_below (cU HRq1.out) hb)
           have n11_ := aM (below_step (by repeat (first | (with_reducible first | exact HB.out | apply bA | apply bN | apply bD | refine bS ?_ GE536.out | refine bS ?_ GE537.out) | exact HB.out)) hb)
           clear HO543
           clear HO546
           clear HO550
           clear HLq0
           clear HLq1
           clear BK536
           clear BK537
           clear HRq0
           clear HRq1
           clear HB
           have HO543 := n0_
           have HO546 := n1_
           have HO550 := n2_
           have HLq0 := n3_
           have HLq1 := n4_
           have HO554 := n5_
           have HO557 := n6_
           have BK536 := n7_
           have BK537 := n8_
           have HRq0 := n9_
           have HRq1 := n10_
           have HB := n11_
           clear n0_ n1_ n2_ n3_ n4_ n5_ n6_ n7_ n8_ n9_ n10_ n11_
           (try clear hb)
           (try clear hb2)
           (try clear hk)
           (try clear hi)
           (try clear ho0)
           (try clear ho1)
           refine hK.out _ _ ⟨(kC BK536.out 0).trans rfl, (kC BK536.out 1).trans rfl, HS2_, HS3_, HS4_, HS5_⟩ (fun hHeld => ?_)
           clear hK K
           refine norm_ (a' := ?_) ?_ ?_
           rotate_left
           ·
            show Act.put _ (some 60) _ = _
            simp only [Act.put, List.setIfInBounds_toArray, List.set_cons_zero, List.set_cons_succ, i64_w, i32_w]
            rfl
           refine pure_ (i := 5) (N := some 55) (v := ?_) (a' := ?_) #[T_,T_,T_,T_,T_,T_,F_,F_,F_,F_,F_] rfl rfl (any_of HT_.out (by kernel_rfl)) (fun _ _ _ h => h) (Or.inl ⟨by rfl, ?_⟩) ?_ ?_
           rotate_left
           ·
            intro w'
            go_simp
            with_reducible rfl
           rotate_left
           ·
            simp only [Act.put, List.setIfInBounds_toArray, List.set_cons_zero, List.set_cons_succ, i64_w, i32_w]
            rfl
           refine pure_ (i := 6) (N := some 61) (v := ?_) (a' := ?_) #[T_,T_,T_,T_,T_,T_,T_,F_,F_,F_,F_] rfl rfl (any_of HT_.out (by kernel_rfl)) (fun _ _ _ h => h) (Or.inl ⟨by rfl, ?_⟩) ?_ ?_
           rotate_left
           ·
            intro w'
            go_simp
            with_reducible rfl
           rotate_left
           ·
            simp only [Act.put, List.setIfInBounds_toArray, List.set_cons_zero, List.set_cons_succ, i64_w, i32_w]
            rfl
           refine pure_ (i := 7) (N := some 62) (v := ?_) (a' := ?_) #[T_,T_,T_,T_,T_,T_,T_,T_,F_,F_,F_] rfl rfl (any_of HT_.out (by kernel_rfl)) (fun _ _ _ h => h) (Or.inl ⟨by rfl, ?_⟩) ?_ ?_
           rotate_left
           ·
            intro w'
            go_simp
            with_reducible rfl
           rotate_left
           ·
            simp only [Act.put, List.setIfInBounds_toArray, List.set_cons_zero, List.set_cons_succ, i64_w, i32_w]
            rfl
           refine one_ (i := 8) (N := some 11) #[T_,T_,T_,T_,T_,T_,T_,T_,T_,F_,F_] rfl rfl (one_of HT_.out (by kernel_rfl)) (by decide) (fun K hK => ?_)
           refine box_step ?hg (N := 11) ?hd (cs := #[.slice none 0 0, .slice none 0 0]) (t := 25) ?hr ?_; (case hd => rfl); (case hg => rfl); (case hr => first | (go_simp; done) | (go_simp; rfl))
           intro gb559 hg w81 hbox hb
           have HS2_ := (hb.cell (World.block_lt_of_cell? _ _ (hHeld.2.2.1))).trans (hHeld.2.2.1)
           have HS3_ := (hb.cell (World.block_lt_of_cell? _ _ (hHeld.2.2.2.1))).trans (hHeld.2.2.2.1)
           have HS4_ := (hb.cell (World.block_lt_of_cell? _ _ (hHeld.2.2.2.2.1))).trans (hHeld.2.2.2.2.1)
           have HS5_ := (hb.cell (World.block_lt_of_cell? _ _ (hHeld.2.2.2.2.2))).trans (hHeld.2.2.2.2.2)
           have n0_ := aM (Kd.N_below (Kd.N_elderB (nU HO543.out) gb559 (Nat.le_of_eq hg.symm)) hb)
           have n1_ := aM (Kd.N_below (Kd.N_elderB (nU HO546.out) gb559 (Nat.le_of_eq hg.symm)) hb)
           have n2_ := aM (Kd.N_below (Kd.N_elderB (nU HO550.out) gb559 (Nat.le_of_eq hg.symm)) hb)
           have n3_ := aM (vB (vE (vU HLq0.out) gb559 (Nat.le_of_eq hg.symm)) hb)
           have n4_ := aM (vB (vE (vU HLq1.out) gb559 (Nat.le_of_eq hg.symm)) hb)
           have n5_ := aM (Kd.N_below (Kd.N_elderB (nU HO554.out) gb559 (Nat.le_of_eq hg.symm)) hb)
           have n6_ := aM (Kd.R_below (rU HO557.out) hb)
           have n7_ := aM (kB (g := gb536) (o := .cells #[.slice A0_0 l0_0.length c0_0, .slice A0_1 l0_1.length c0_1] 25 (0, 0)) (bU BK536.out) hb)
           have n8_ := aM (kB (g := gb537) (o := .cells #[.int .i64 a1_0, .slice A1_1 l1_1.length c1_1, .slice A1_2 l1_2.length c1_2, .bool a1_3] 39 (0, 0)) (bU BK537.out) hb)
           have n9_ := aM (Kd.C_below (cU HRq0.out) hb)
           have n10_ := aM (Kd.C_below (cU HRq1.out) hb)
           have n11_ := aM (below_step (by repeat (first | (with_reducible first | exact HB.out | apply bA | apply bN | apply bD | refine bS ?_ GE536.out | refine bS ?_ GE537.out) | exact HB.out)) hb)
           have n12_ := aM (hbox)
           have n13_ := aM ((by rw [hg]; exact (below_size (by repeat (first | (with_reducible first | exact HB.out | apply bA | apply bN | apply bD | refine bS ?_ GE536.out | refine bS ?_ GE537.out) | exact HB.out))) : w.heap.size ≤ gb559))
           have n14_ := aM ((by rw [hg]; exact (below_size (by repeat (first | (with_reducible first | exact HB.out | apply bA | apply bN | apply bD | refine bS ?_ GE536.out | refine bS ?_ GE537.out) | exact HB.out))) : w.heap.size ≤ gb559))
           have n15_ := aM ((by rw [hg]; exact Nat.ne_of_lt (blk_lt (g := gb536) (o := .cells #[.slice A0_0 l0_0.length c0_0, .slice A0_1 l0_1.length c0_1] 25 (0, 0)) (bU BK536.out)) : gb536 ≠ gb559))
           have n16_ := aM ((by rw [hg]; exact Nat.ne_of_gt (blk_lt (g := gb536) (o := .cells #[.slice A0_0 l0_0.length c0_0, .slice A0_1 l0_1.length c0_1] 25 (0, 0)) (bU BK536.out)) : gb559 ≠ gb536))
           have n17_ := aM ((by rw [hg]; exact Nat.ne_of_lt (blk_lt (g := gb537) (o := .cells #[.int .i64 a1_0, .slice A1_1 l1_1.length c1_1, .slice A1_2 l1_2.length c1_2, .bool a1_3] 39 (0, 0)) (bU BK537.out)) : gb537 ≠ gb559))
           have n18_ := aM ((by rw [hg]; exact Nat.ne_of_gt (blk_lt (g := gb537) (o := .cells #[.int .i64 a1_0, .slice A1_1 l1_1.length c1_1, .slice A1_2 l1_2.length c1_2, .bool a1_3] 39 (0, 0)) (bU BK537.out)) : gb559 ≠ gb537))
           clear HO543
           clear HO546
           clear HO550
           clear HLq0
           clear HLq1
           clear HO554
           clear HO557
           clear BK536
           clear BK537
           clear HRq0
           clear HRq1
           clear HB
           have HO543 := n0_
           have HO546 := n1_
           have HO550 := n2_
           have HLq0 := n3_
           have HLq1 := n4_
           have HO554 := n5_
           have HO557 := n6_
           have BK536 := n7_
           have BK537 := n8_
           have HRq0 := n9_
           have HRq1 := n10_
           have HB := n11_
           have BK559 := n12_
           have GW559 := n13_
           have GE559 := n14_
           have NBq0 := n15_
           have NBq2 := n16_
           have NBq1 := n17_
           have NBq3 := n18_
           clear n0_ n1_ n2_ n3_ n4_ n5_ n6_ n7_ n8_ n9_ n10_ n11_ n12_ n13_ n14_ n15_ n16_ n17_ n18_
           clear hb hbox hg
           refine hK.out _ _ ⟨(kC BK536.out 0).trans rfl, (kC BK536.out 1).trans rfl, HS2_, HS3_, HS4_, HS5_⟩ (fun hHeld => ?_)
           clear hK K
           refine norm_ (a' := ?_) ?_ ?_
           rotate_left
           ·
            show Act.put _ (some 11) _ = _
            simp only [Act.put, List.setIfInBounds_toArray, List.set_cons_zero, List.set_cons_succ, i64_w, i32_w]
            rfl
           exact norm_ (by simp only [putAll, Act.put, List.setIfInBounds_toArray, List.set_cons_zero, List.set_cons_succ]) (hCont (v553, v556, gb559) _ ⟨hHeld, (by (with_reducible repeat (first | apply Kd.V_alloc | apply Kd.V_drewN | apply Kd.V_drew)); exact Kd.V_mono HLq0.out (fun _ hk => by (repeat (cases ‹_ ∧ _›)); (repeat' apply And.intro) <;> assumption)), (by (with_reducible repeat (first | apply Kd.V_alloc | apply Kd.V_drewN | apply Kd.V_drew)); exact Kd.V_mono HLq1.out (fun _ hk => by (repeat (cases ‹_ ∧ _›)); (repeat' apply And.intro) <;> assumption)), (by (with_reducible repeat (first | apply Kd.N_alloc | apply Kd.N_drewN | apply Kd.N_drew)); exact Kd.N_mono HO543.out (fun _ hk => by (repeat (cases ‹_ ∧ _›)); (repeat' apply And.intro) <;> assumption)), (by (with_reducible repeat (first | apply Kd.N_alloc | apply Kd.N_drewN | apply Kd.N_drew)); exact Kd.N_mono HO546.out (fun _ hk => by (repeat (cases ‹_ ∧ _›)); (repeat' apply And.intro) <;> assumption)), (by (with_reducible repeat (first | apply Kd.N_alloc | apply Kd.N_drewN | apply Kd.N_drew)); exact Kd.N_mono HO550.out (fun _ hk => by (repeat (cases ‹_ ∧ _›)); (repeat' apply And.intro) <;> assumption)), (by (with_reducible repeat (first | apply Kd.N_alloc | apply Kd.N_drewN | apply Kd.N_drew)); exact Kd.N_mono HO554.out (fun _ hk => by (repeat (cases ‹_ ∧ _›)); (repeat' apply And.intro) <;> assumption)), (rU HO557.out), (bU BK536.out), (bU BK537.out), (bU BK559.out), GW559.out, GE559.out, NBq0.out, NBq2.out, NBq1.out, NBq3.out, (by repeat (first | (with_reducible first | exact HB.out | apply bA | apply bN | apply bD | refine bS ?_ GE536.out | refine bS ?_ GE537.out | refine bS ?_ GE559.out) | exact HB.out))⟩)
          ·
           skip
           refine box_step ?hg (N := 11) ?hd (cs := #[.slice none 0 0, .slice none 0 0]) (t := 25) ?hr ?_; (case hd => rfl); (case hg => rfl); (case hr => first | (go_simp; done) | (go_simp; rfl))
           intro gb559 hg w80 hbox hb
           have HS2_ := (hb.cell (World.block_lt_of_cell? _ _ (hHeld.2.2.1))).trans (hHeld.2.2.1)
           have HS3_ := (hb.cell (World.block_lt_of_cell? _ _ (hHeld.2.2.2.1))).trans (hHeld.2.2.2.1)
           have HS4_ := (hb.cell (World.block_lt_of_cell? _ _ (hHeld.2.2.2.2.1))).trans (hHeld.2.2.2.2.1)
           have HS5_ := (hb.cell (World.block_lt_of_cell? _ _ (hHeld.2.2.2.2.2))).trans (hHeld.2.2.2.2.2)
           have n0_ := aM (Kd.N_below (Kd.N_elderB (nU HO543.out) gb559 (Nat.le_of_eq hg.symm)) hb)
           have n1_ := aM (Kd.N_below (Kd.N_elderB (nU HO546.out) gb559 (Nat.le_of_eq hg.symm)) hb)
           have n2_ := aM (Kd.N_below (Kd.N_elderB (nU HO550.out) gb559 (Nat.le_of_eq hg.symm)) hb)
           have n3_ := aM (vB (vE (vU HLq0.out) gb559 (Nat.le_of_eq hg.symm)) hb)
           have n4_ := aM (vB (vE (vU HLq1.out) gb559 (Nat.le_of_eq hg.symm)) hb)
           have n5_ := aM (kB (g := gb536) (o := .cells #[.slice A0_0 l0_0.length c0_0, .slice A0_1 l0_1.length c0_1] 25 (0, 0)) (bU BK536.out) hb)
           have n6_ := aM (kB (g := gb537) (o := .cells #[.int .i64 a1_0, .slice A1_1 l1_1.length c1_1, .slice A1_2 l1_2.length c1_2, .bool a1_3] 39 (0, 0)) (bU BK537.out) hb)
           have n7_ := aM (Kd.C_below (cU HRq0.out) hb)
           have n8_ := aM (Kd.C_below (cU HRq1.out) hb)
           have n9_ := aM (below_step (by repeat (first | (with_reducible first | exact HB.out | apply bA | apply bN | apply bD | refine bS ?_ GE536.out | refine bS ?_ GE537.out) | exact HB.out)) hb)
           have n10_ := aM (hbox)
           have n11_ := aM ((by rw [hg]; exact (below_size (by repeat (first | (with_reducible first | exact HB.out | apply bA | apply bN | apply bD | refine bS ?_ GE536.out | refine bS ?_ GE537.out) | exact HB.out))) : w.heap.size ≤ gb559))
           have n12_ := aM ((by rw [hg]; exact (below_size (by repeat (first | (with_reducible first | exact HB.out | apply bA | apply bN | apply bD | refine bS ?_ GE536.out | refine bS ?_ GE537.out) | exact HB.out))) : w.heap.size ≤ gb559))
           have n13_ := aM ((by rw [hg]; exact Nat.ne_of_lt (blk_lt (g := gb536) (o := .cells #[.slice A0_0 l0_0.length c0_0, .slice A0_1 l0_1.length c0_1] 25 (0, 0)) (bU BK536.out)) : gb536 ≠ gb559))
           have n14_ := aM ((by rw [hg]; exact Nat.ne_of_gt (blk_lt (g := gb536) (o := .cells #[.slice A0_0 l0_0.length c0_0, .slice A0_1 l0_1.length c0_1] 25 (0, 0)) (bU BK536.out)) : gb559 ≠ gb536))
           have n15_ := aM ((by rw [hg]; exact Nat.ne_of_lt (blk_lt (g := gb537) (o := .cells #[.int .i64 a1_0, .slice A1_1 l1_1.length c1_1, .slice A1_2 l1_2.length c1_2, .bool a1_3] 39 (0, 0)) (bU BK537.out)) : gb537 ≠ gb559))
           have n16_ := aM ((by rw [hg]; exact Nat.ne_of_gt (blk_lt (g := gb537) (o := .cells #[.int .i64 a1_0, .slice A1_1 l1_1.length c1_1, .slice A1_2 l1_2.length c1_2, .bool a1_3] 39 (0, 0)) (bU BK537.out)) : gb559 ≠ gb537))
           clear HO543
           clear HO546
           clear HO550
           clear HLq0
           clear HLq1
           clear BK536
           clear BK537
           clear HRq0
           clear HRq1
           clear HB
           have HO543 := n0_
           have HO546 := n1_
           have HO550 := n2_
           have HLq0 := n3_
           have HLq1 := n4_
           have BK536 := n5_
           have BK537 := n6_
           have HRq0 := n7_
           have HRq1 := n8_
           have HB := n9_
           have BK559 := n10_
           have GW559 := n11_
           have GE559 := n12_
           have NBq0 := n13_
           have NBq2 := n14_
           have NBq1 := n15_
           have NBq3 := n16_
           clear n0_ n1_ n2_ n3_ n4_ n5_ n6_ n7_ n8_ n9_ n10_ n11_ n12_ n13_ n14_ n15_ n16_
           clear hb hbox hg
           refine hK.out _ _ ⟨(kC BK536.out 0).trans rfl, (kC BK536.out 1).trans rfl, HS2_, HS3_, HS4_, HS5_⟩ (fun hHeld => ?_)
           clear hK K
           refine norm_ (a' := ?_) ?_ ?_
           rotate_left
           ·
            show Act.put _ (some 11) _ = _
            simp only [Act.put, List.setIfInBounds_toArray, List.set_cons_zero, List.set_cons_succ, i64_w, i32_w]
            rfl
           refine one_ (i := 4) (N := some 60) #[T_,T_,T_,T_,T_,F_,F_,F_,T_,F_,F_] rfl rfl (one_of HT_.out (by kernel_rfl)) (by decide) (fun K hK => ?_)
           refine goes_ Try.func10 (by kernel_rfl) rfl #[.agg #[.slice A0_0 l0_0.length c0_0, .slice A0_1 l0_1.length c0_1], .agg #[.int .i64 ((rd_T28 t548 0).f0), .slice A551_1 ((rd_T28 t548 0).f1).length c551_1, .bool ((rd_T28 t548 0).f2), .slice A551_3 ((rd_T28 t548 0).f3).length c551_3]] (by rfl) rfl rfl (by (try simp only [List.map_toArray, List.map_cons, List.map_nil]); first | done | rfl | (simp only [List.length_drop, List.length_take]; rfl)) ?_
           with_reducible refine (delta_Put.calls kj4 (fun k_ => k_ < w.heap.size) _ _ l0_0 _ _ l0_1 ((rd_T28 t548 0).f0) _ _ ((rd_T28 t548 0).f1) ((rd_T28 t548 0).f2) _ _ ((rd_T28 t548 0).f3) t552 t555 t558 _ ?side1 ?side2 ?side3 ?side4 ?side5 ?side6 ?side7 A61.out).mono ?_
           (case side1 => exact Kd.V_mk HC0_0.out (Kd.F_below (Kd.C_F k28_heap HR0_0.out) (by repeat (first | (with_reducible first | exact HB.out | apply bA | apply bN | apply bD | refine bS ?_ GE536.out | refine bS ?_ GE537.out | refine bS ?_ GE559.out) | exact HB.out))))
           (case side2 => repeat (first | exact (Kd.C_below HR0_1.out HB.out) | (with_reducible refine Kd.C_alloc ?_ _) | (with_reducible refine Kd.C_drewN ?_ _) | (with_reducible refine Kd.C_drew ?_)))
           (case side3 => exact HC0_1.out)
           (case side4 => repeat (first | exact (cU HRq0.out) | (with_reducible refine Kd.C_alloc ?_ _) | (with_reducible refine Kd.C_drewN ?_ _) | (with_reducible refine Kd.C_drew ?_)))
           (case side5 => exact HCq0.out)
           (case side6 => repeat (first | exact (cU HRq1.out) | (with_reducible refine Kd.C_alloc ?_ _) | (with_reducible refine Kd.C_drewN ?_ _) | (with_reducible refine Kd.C_drew ?_)))
           (case side7 => exact HCq1.out)
           rintro e w81 ⟨v553, v556, rfl, ho0, ho1, hb⟩
           have HS2_ := (hb.cell (World.block_lt_of_cell? _ _ (hHeld.2.2.1))).trans (hHeld.2.2.1)
           have HS3_ := (hb.cell (World.block_lt_of_cell? _ _ (hHeld.2.2.2.1))).trans (hHeld.2.2.2.1)
           have HS4_ := (hb.cell (World.block_lt_of_cell? _ _ (hHeld.2.2.2.2.1))).trans (hHeld.2.2.2.2.1)
           have HS5_ := (hb.cell (World.block_lt_of_cell? _ _ (hHeld.2.2.2.2.2))).trans (hHeld.2.2.2.2.2)
           refine ⟨_, rfl, ?_⟩
           have n0_ := aM (Kd.N_mono (Kd.N_told (Kd.N_told (Kd.N_old (nU HO543.out) hb) (Kd.N_base ho0)) (Kd.R_base ho1)) (fun _ h_ => h_.1))
           have n1_ := aM (Kd.N_mono (Kd.N_told (Kd.N_told (Kd.N_old (nU HO546.out) hb) (Kd.N_base ho0)) (Kd.R_base ho1)) (fun _ h_ => h_.1))
           have n2_ := aM (Kd.N_mono (Kd.N_told (Kd.N_told (Kd.N_old (nU HO550.out) hb) (Kd.N_base ho0)) (Kd.R_base ho1)) (fun _ h_ => h_.1))
           have n3_ := aM (Kd.V_mono (Kd.V_told (Kd.V_told (Kd.V_old (vU HLq0.out) hb) (Kd.N_base ho0)) (Kd.R_base ho1)) (fun _ h_ => h_.1))
           have n4_ := aM (Kd.V_mono (Kd.V_told (Kd.V_told (Kd.V_old (vU HLq1.out) hb) (Kd.N_base ho0)) (Kd.R_base ho1)) (fun _ h_ => h_.1))
           have n5_ := aM (Kd.N_lower (Kd.N_mono (ok' := fun k_ => some k_ ≠ (v556 : Value).ownBlock ∧ some k_ ≠ (.slice Ao73 t541.length co73 : Value).ownBlock ∧ some k_ ≠ (.slice Ao75 t544.length co75 : Value).ownBlock ∧ some k_ ≠ (.slice (some ad551) t548.length co78 : Value).ownBlock ∧ k_ ≠ gb536 ∧ k_ ≠ gb537 ∧ k_ ≠ gb559) ho0 (fun k_ hk_ => ⟨hk_.2, Or.elim hk_.1 (fun hs_ => fun e_ => Nat.not_le.2 hs_ (Kd.N_base HO543.out k_ e_.symm)) (fun hn_ => (Kd.fresh' (Kd.N_lt (nU HO543.out)) k_ hn_)), Or.elim hk_.1 (fun hs_ => fun e_ => Nat.not_le.2 hs_ (Kd.N_base HO546.out k_ e_.symm)) (fun hn_ => (Kd.fresh' (Kd.N_lt (nU HO546.out)) k_ hn_)), Or.elim hk_.1 (fun hs_ => fun e_ => Nat.not_le.2 hs_ (Kd.N_base HO550.out k_ e_.symm)) (fun hn_ => (Kd.fresh' (Kd.N_lt (nU HO550.out)) k_ hn_)), Or.elim hk_.1 (fun hs_ => fun e_ => Nat.not_le.2 hs_ (by rw [e_]; exact GW536.out)) (fun hn_ => (Kd.freshB (g := gb536) (o := .cells #[.slice A0_0 l0_0.length c0_0, .slice A0_1 l0_1.length c0_1] 25 (0, 0)) (bU BK536.out) k_ hn_)), Or.elim hk_.1 (fun hs_ => fun e_ => Nat.not_le.2 hs_ (by rw [e_]; exact GW537.out)) (fun hn_ => (Kd.freshB (g := gb537) (o := .cells #[.int .i64 a1_0, .slice A1_1 l1_1.length c1_1, .slice A1_2 l1_2.length c1_2, .bool a1_3] 39 (0, 0)) (bU BK537.out) k_ hn_)), Or.elim hk_.1 (fun hs_ => fun e_ => Nat.not_le.2 hs_ (by rw [e_]; exact GW559.out)) (fun hn_ => (Kd.freshB (g := gb559) (o := .cells #[.slice none 0 0, .slice none 0 0] 25 (0, 0)) (bU BK559.out) k_ hn_))⟩)) (below_size (by repeat (first | (with_reducible first | exact HB.out | apply bA | apply bN | apply bD | refine bS ?_ GE536.out | refine bS ?_ GE537.out | refine bS ?_ GE559.out) | exact HB.out))))
           have n6_ := aM (Kd.R_lower (Kd.R_mono (ok' := fun k_ => True) ho1 (fun _ hk_ => trivial)) (below_size (by repeat (first | (with_reducible first | exact HB.out | apply bA | apply bN | apply bD | refine bS ?_ GE536.out | refine bS ?_ GE537.out | refine bS ?_ GE559.out) | exact HB.out))))
           have n7_ := aM (kB (g := gb536) (o := .cells #[.slice A0_0 l0_0.length c0_0, .slice A0_1 l0_1.length c0_1] 25 (0, 0)) (bU BK536.out) hb)
           have n8_ := aM (kB (g := gb537) (o := .cells #[.int .i64 a1_0, .slice A1_1 l1_1.length c1_1, .slice A1_2 l1_2.length c1_2, .bool a1_3] 39 (0, 0)) (bU BK537.out) hb)
           have n9_ := aM (Kd.C_below (cU HRq0.out) hb)
           have n10_ := aM (Kd.C_below (cU HRq1.out) hb)
           have n11_ := aM (kB (g := gb559) (o := .cells #[.slice none 0 0, .slice none 0 0] 25 (0, 0)) (bU BK559.out) hb)
           have n12_ := aM (below_step (by repeat (first | (with_reducible first | exact HB.out | apply bA | apply bN | apply bD | refine bS ?_ GE536.out | refine bS ?_ GE537.out | refine bS ?_ GE559.out) | exact HB.out)) hb)
           clear HO543
           clear HO546
           clear HO550
           clear HLq0
           clear HLq1
           clear BK536
           clear BK537
           clear HRq0
           clear HRq1
           clear BK559
           clear HB
           have HO543 := n0_
           have HO546 := n1_
           have HO550 := n2_
           have HLq0 := n3_
           have HLq1 := n4_
           have HO554 := n5_
           have HO557 := n6_
           have BK536 := n7_
           have BK537 := n8_
           have HRq0 := n9_
           have HRq1 := n10_
           have BK559 := n11_
           have HB := n12_
           clear n0_ n1_ n2_ n3_ n4_ n5_ n6_ n7_ n8_ n9_ n10_ n11_ n12_
           (try clear hb)
           (try clear hb2)
           (try clear hk)
           (try clear hi)
           (try clear ho0)
           (try clear ho1)
           refine hK.out _ _ ⟨(kC BK536.out 0).trans rfl, (kC BK536.out 1).trans rfl, HS2_, HS3_, HS4_, HS5_⟩ (fun hHeld => ?_)
           clear hK K
           refine norm_ (a' := ?_) ?_ ?_
           rotate_left
           ·
            show Act.put _ (some 60) _ = _
            simp only [Act.put, List.setIfInBounds_toArray, List.set_cons_zero, List.set_cons_succ, i64_w, i32_w]
            rfl
           refine pure_ (i := 5) (N := some 55) (v := ?_) (a' := ?_) #[T_,T_,T_,T_,T_,T_,F_,F_,T_,F_,F_] rfl rfl (any_of HT_.out (by kernel_rfl)) (fun _ _ _ h => h) (Or.inl ⟨by rfl, ?_⟩) ?_ ?_
           rotate_left
           ·
            intro w'
            go_simp
            with_reducible rfl
           rotate_left
           ·
            simp only [Act.put, List.setIfInBounds_toArray, List.set_cons_zero, List.set_cons_succ, i64_w, i32_w]
            rfl
           refine pure_ (i := 6) (N := some 61) (v := ?_) (a' := ?_) #[T_,T_,T_,T_,T_,T_,T_,F_,T_,F_,F_] rfl rfl (any_of HT_.out (by kernel_rfl)) (fun _ _ _ h => h) (Or.inl ⟨by rfl, ?_⟩) ?_ ?_
           rotate_left
           ·
            intro w'
            go_simp
            with_reducible rfl
           rotate_left
           ·
            simp only [Act.put, List.setIfInBounds_toArray, List.set_cons_zero, List.set_cons_succ, i64_w, i32_w]
            rfl
           refine pure_ (i := 7) (N := some 62) (v := ?_) (a' := ?_) #[T_,T_,T_,T_,T_,T_,T_,T_,T_,F_,F_] rfl rfl (any_of HT_.out (by kernel_rfl)) (fun _ _ _ h => h) (Or.inl ⟨by rfl, ?_⟩) ?_ ?_
           rotate_left
           ·
            intro w'
            go_simp
            with_reducible rfl
           rotate_left
           ·
            simp only [Act.put, List.setIfInBounds_toArray, List.set_cons_zero, List.set_cons_succ, i64_w, i32_w]
            rfl
           exact norm_ (by simp only [putAll, Act.put, List.setIfInBounds_toArray, List.set_cons_zero, List.set_cons_succ]) (hCont (v553, v556, gb559) _ ⟨hHeld, (by (with_reducible repeat (first | apply Kd.V_alloc | apply Kd.V_drewN | apply Kd.V_drew)); exact Kd.V_mono HLq0.out (fun _ hk => by (repeat (cases ‹_ ∧ _›)); (repeat' apply And.intro) <;> assumption)), (by (with_reducible repeat (first | apply Kd.V_alloc | apply Kd.V_drewN | apply Kd.V_drew)); exact Kd.V_mono HLq1.out (fun _ hk => by (repeat (cases ‹_ ∧ _›)); (repeat' apply And.intro) <;> assumption)), (by (with_reducible repeat (first | apply Kd.N_alloc | apply Kd.N_drewN | apply Kd.N_drew)); exact Kd.N_mono HO543.out (fun _ hk => by (repeat (cases ‹_ ∧ _›)); (repeat' apply And.intro) <;> assumption)), (by (with_reducible repeat (first | apply Kd.N_alloc | apply Kd.N_drewN | apply Kd.N_drew)); exact Kd.N_mono HO546.out (fun _ hk => by (repeat (cases ‹_ ∧ _›)); (repeat' apply And.intro) <;> assumption)), (by (with_reducible repeat (first | apply Kd.N_alloc | apply Kd.N_drewN | apply Kd.N_drew)); exact Kd.N_mono HO550.out (fun _ hk => by (repeat (cases ‹_ ∧ _›)); (repeat' apply And.intro) <;> assumption)), (by (with_reducible repeat (first | apply Kd.N_alloc | apply Kd.N_drewN | apply Kd.N_drew)); exact Kd.N_mono HO554.out (fun _ hk => by (repeat (cases ‹_ ∧ _›)); (repeat' apply And.intro) <;> assumption)), (rU HO557.out), (bU BK536.out), (bU BK537.out), (bU BK559.out), GW559.out, GE559.out, NBq0.out, NBq2.out, NBq1.out, NBq3.out, (by repeat (first | (with_reducible first | exact HB.out | apply bA | apply bN | apply bD | refine bS ?_ GE536.out | refine bS ?_ GE537.out | refine bS ?_ GE559.out) | exact HB.out))⟩)
         rintro ⟨v553, v556, gb559⟩ w82 ⟨hS_, h0_, h1_, h2_, h3_, h4_, h5_, h6_, h7_, h8_, h9_, h10_, h11_, h12_, h13_, h14_, h15_, h16_⟩
         have n0_ : Aside0 (Kd.V (Kd.int .u8) 5 w82 w.heap.size (fun k_ => some k_ ≠ (.slice Ao73 t541.length co73 : Value).ownBlock ∧ some k_ ≠ (.slice Ao75 t544.length co75 : Value).ownBlock ∧ some k_ ≠ (.slice (some ad551) t548.length co78 : Value).ownBlock ∧ some k_ ≠ (v553 : Value).ownBlock ∧ some k_ ≠ (v556 : Value).ownBlock ∧ k_ ≠ gb536 ∧ k_ ≠ gb537 ∧ k_ ≠ gb559) (.slice A551_1 ((rd_T28 t548 0).f1).length c551_1) ((rd_T28 t548 0).f1)) := ⟨h0_⟩
         have n1_ : Aside0 (Kd.V (Kd.int .u8) 5 w82 w.heap.size (fun k_ => some k_ ≠ (.slice Ao73 t541.length co73 : Value).ownBlock ∧ some k_ ≠ (.slice Ao75 t544.length co75 : Value).ownBlock ∧ some k_ ≠ (.slice (some ad551) t548.length co78 : Value).ownBlock ∧ some k_ ≠ (v553 : Value).ownBlock ∧ some k_ ≠ (v556 : Value).ownBlock ∧ k_ ≠ gb536 ∧ k_ ≠ gb537 ∧ k_ ≠ gb559) (.slice A551_3 ((rd_T28 t548 0).f3).length c551_3) ((rd_T28 t548 0).f3)) := ⟨h1_⟩
         have n2_ : Aside0 (Kd.N k53 53 w82 w.heap.size (fun k_ => some k_ ≠ (.slice Ao75 t544.length co75 : Value).ownBlock ∧ some k_ ≠ (.slice (some ad551) t548.length co78 : Value).ownBlock ∧ some k_ ≠ (v553 : Value).ownBlock ∧ some k_ ≠ (v556 : Value).ownBlock ∧ k_ ≠ gb536 ∧ k_ ≠ gb537 ∧ k_ ≠ gb559) (.slice Ao73 t541.length co73) t541) := ⟨h2_⟩
         have n3_ : Aside0 (Kd.N k53 53 w82 w.heap.size (fun k_ => some k_ ≠ (.slice (some ad551) t548.length co78 : Value).ownBlock ∧ some k_ ≠ (v553 : Value).ownBlock ∧ some k_ ≠ (v556 : Value).ownBlock ∧ k_ ≠ gb536 ∧ k_ ≠ gb537 ∧ k_ ≠ gb559) (.slice Ao75 t544.length co75) t544) := ⟨h3_⟩
         have n4_ : Aside0 (Kd.N k28 28 w82 w.heap.size (fun k_ => some k_ ≠ (.slice Ao73 t541.length co73 : Value).ownBlock ∧ some k_ ≠ (.slice Ao75 t544.length co75 : Value).ownBlock ∧ some k_ ≠ (v553 : Value).ownBlock ∧ some k_ ≠ (v556 : Value).ownBlock ∧ k_ ≠ gb536 ∧ k_ ≠ gb537 ∧ k_ ≠ gb559) (.slice (some ad551) t548.length co78) t548) := ⟨h4_⟩
         have n5_ : Aside0 (Kd.N k28 28 w82 w.heap.size (fun k_ => some k_ ≠ (.slice Ao73 t541.length co73 : Value).ownBlock ∧ some k_ ≠ (.slice Ao75 t544.length co75 : Value).ownBlock ∧ some k_ ≠ (.slice (some ad551) t548.length co78 : Value).ownBlock ∧ some k_ ≠ (v556 : Value).ownBlock ∧ k_ ≠ gb536 ∧ k_ ≠ gb537 ∧ k_ ≠ gb559) v553 t552) := ⟨h5_⟩
         have n6_ : Aside0 (Kd.R (Kd.int .i64) 3 w82 w.heap.size (fun _ => True) v556 t555) := ⟨h6_⟩
         have n7_ : Aside0 (w82.heap[gb536]? = some (.cells #[.slice A0_0 l0_0.length c0_0, .slice A0_1 l0_1.length c0_1] 25 (0, 0))) := ⟨h7_⟩
         have n8_ : Aside0 (w82.heap[gb537]? = some (.cells #[.int .i64 a1_0, .slice A1_1 l1_1.length c1_1, .slice A1_2 l1_2.length c1_2, .bool a1_3] 39 (0, 0))) := ⟨h8_⟩
         have n9_ : Aside0 (w82.heap[gb559]? = some (.cells #[.slice none 0 0, .slice none 0 0] 25 (0, 0))) := ⟨h9_⟩
         have n10_ : Aside0 (w.heap.size ≤ gb559) := ⟨h10_⟩
         have n11_ : Aside0 (w.heap.size ≤ gb559) := ⟨h11_⟩
         have n12_ : Aside0 (gb536 ≠ gb559) := ⟨h12_⟩
         have n13_ : Aside0 (gb559 ≠ gb536) := ⟨h13_⟩
         have n14_ : Aside0 (gb537 ≠ gb559) := ⟨h14_⟩
         have n15_ : Aside0 (gb559 ≠ gb537) := ⟨h15_⟩
         have n16_ : Aside0 (Below w.heap.size w w82) := ⟨h16_⟩
         clear HO543
         clear HO546
         clear HO550
         clear BK536
         clear BK537
         clear HB
         clear h0_ h1_ h2_ h3_ h4_ h5_ h6_ h7_ h8_ h9_ h10_ h11_ h12_ h13_ h14_ h15_ h16_
         have HLq0 := n0_
         have HLq1 := n1_
         have HO543 := n2_
         have HO546 := n3_
         have HO550 := n4_
         have HO554 := n5_
         have HO557 := n6_
         have BK536 := n7_
         have BK537 := n8_
         have BK559 := n9_
         have GW559 := n10_
         have GE559 := n11_
         have NBq0 := n12_
         have NBq2 := n13_
         have NBq1 := n14_
         have NBq3 := n15_
         have HB := n16_
         clear n0_ n1_ n2_ n3_ n4_ n5_ n6_ n7_ n8_ n9_ n10_ n11_ n12_ n13_ n14_ n15_ n16_
         have hHeld : w82.cell? ⟨gb536, 0, none⟩ = some (.slice A0_0 l0_0.length c0_0) ∧ w82.cell? ⟨gb536, 1, none⟩ = some (.slice A0_1 l0_1.length c0_1) ∧ w82.cell? ad551 = some (.int .i64 ((rd_T28 t548 0).f0)) ∧ w82.cell? ⟨ad551.block, ad551.off + 1, none⟩ = some (.slice A551_1 ((rd_T28 t548 0).f1).length c551_1) ∧ w82.cell? ⟨ad551.block, ad551.off + 2, none⟩ = some (.bool ((rd_T28 t548 0).f2)) ∧ w82.cell? ⟨ad551.block, ad551.off + 3, none⟩ = some (.slice A551_3 ((rd_T28 t548 0).f3).length c551_3) := hS_
         obtain ⟨Ao83, co83, eo83⟩ := Kd.N_slice HO554.out
         (first | subst eo83 | (injection eo83 with f1_ f2_ f3_; have f4_ := f1_.symm; have f5_ := f3_.symm; clear f1_ f2_ f3_; subst f4_; subst f5_))
         obtain ⟨Ao85, co85, eo85⟩ := Kd.R_slice HO557.out
         (first | subst eo85 | (injection eo85 with f1_ f2_ f3_; have f4_ := f1_.symm; have f5_ := f3_.symm; clear f1_ f2_ f3_; subst f4_; subst f5_))
         refine norm_ (a' := ?_) ?_ ?_
         rotate_left
         ·
          simp only [putAll, Act.put, List.setIfInBounds_toArray, List.set_cons_zero, List.set_cons_succ]
          rfl
         refine one_ (i := 9) (N := none) #[T_,T_,T_,T_,T_,T_,T_,T_,T_,T_,F_] rfl rfl (one_of HT_.out (by kernel_rfl)) (by decide) (fun K hK => ?_)
         have hs84 : w82.cell? ⟨gb559, 0, none⟩ = some (.slice none 0 0) := (kC BK559.out 0).trans rfl
         have hfs84 := kF BK559.out 0
         have hns84_0 := NBq0.out
         have hns84_1 := NBq1.out
         have hms84_0 := NBq2.out
         have hms84_1 := NBq3.out
         have hs86 : w82.cell? ⟨gb559, 1, none⟩ = some (.slice none 0 0) := (kC BK559.out 1).trans rfl
         have hfs86 := kF BK559.out 1
         have hns86_0 := NBq0.out
         have hns86_1 := NBq1.out
         have hms86_0 := NBq2.out
         have hms86_1 := NBq3.out
         refine skip_ (w1 := ?_) (by rfl) rfl ?_ ?_
         rotate_left
         ·
          go_simp
          rfl
         refine hK.out _ _ ⟨((cell_far (p := ⟨gb559, _, none⟩) NBq0.out _).trans (((cell_far (p := ⟨gb559, _, none⟩) NBq0.out _).trans (hHeld.1)))), ((cell_far (p := ⟨gb559, _, none⟩) NBq0.out _).trans (((cell_far (p := ⟨gb559, _, none⟩) NBq0.out _).trans (hHeld.2.1)))), ((cell_far (p := ⟨gb559, _, none⟩) (by first | exact Kd.own_blk (Kd.N_away HO550.out (fun _ hk => hk.2.2.2.2.2.2)) | (rw [add_block]; exact Kd.own_blk (Kd.N_away HO550.out (fun _ hk => hk.2.2.2.2.2.2))) | (show (Addr.add _ _).block ≠ _; rw [add_block]; exact Kd.own_blk (Kd.N_away HO550.out (fun _ hk => hk.2.2.2.2.2.2))) | (dsimp only; exact Kd.own_blk (Kd.N_away HO550.out (fun _ hk => hk.2.2.2.2.2.2)))) _).trans (((cell_far (p := ⟨gb559, _, none⟩) (by first | exact Kd.own_blk (Kd.N_away HO550.out (fun _ hk => hk.2.2.2.2.2.2)) | (rw [add_block]; exact Kd.own_blk (Kd.N_away HO550.out (fun _ hk => hk.2.2.2.2.2.2))) | (show (Addr.add _ _).block ≠ _; rw [add_block]; exact Kd.own_blk (Kd.N_away HO550.out (fun _ hk => hk.2.2.2.2.2.2))) | (dsimp only; exact Kd.own_blk (Kd.N_away HO550.out (fun _ hk => hk.2.2.2.2.2.2)))) _).trans (hHeld.2.2.1)))), ((cell_far (p := ⟨gb559, _, none⟩) (by first | exact Kd.own_blk (Kd.N_away HO550.out (fun _ hk => hk.2.2.2.2.2.2)) | (rw [add_block]; exact Kd.own_blk (Kd.N_away HO550.out (fun _ hk => hk.2.2.2.2.2.2))) | (show (Addr.add _ _).block ≠ _; rw [add_block]; exact Kd.own_blk (Kd.N_away HO550.out (fun _ hk => hk.2.2.2.2.2.2))) | (dsimp only; exact Kd.own_blk (Kd.N_away HO550.out (fun _ hk => hk.2.2.2.2.2.2)))) _).trans (((cell_far (p := ⟨gb559, _, none⟩) (by first | exact Kd.own_blk (Kd.N_away HO550.out (fun _ hk => hk.2.2.2.2.2.2)) | (rw [add_block]; exact Kd.own_blk (Kd.N_away HO550.out (fun _ hk => hk.2.2.2.2.2.2))) | (show (Addr.add _ _).block ≠ _; rw [add_block]; exact Kd.own_blk (Kd.N_away HO550.out (fun _ hk => hk.2.2.2.2.2.2))) | (dsimp only; exact Kd.own_blk (Kd.N_away HO550.out (fun _ hk => hk.2.2.2.2.2.2)))) _).trans (hHeld.2.2.2.1)))), ((cell_far (p := ⟨gb559, _, none⟩) (by first | exact Kd.own_blk (Kd.N_away HO550.out (fun _ hk => hk.2.2.2.2.2.2)) | (rw [add_block]; exact Kd.own_blk (Kd.N_away HO550.out (fun _ hk => hk.2.2.2.2.2.2))) | (show (Addr.add _ _).block ≠ _; rw [add_block]; exact Kd.own_blk (Kd.N_away HO550.out (fun _ hk => hk.2.2.2.2.2.2))) | (dsimp only; exact Kd.own_blk (Kd.N_away HO550.out (fun _ hk => hk.2.2.2.2.2.2)))) _).trans (((cell_far (p := ⟨gb559, _, none⟩) (by first | exact Kd.own_blk (Kd.N_away HO550.out (fun _ hk => hk.2.2.2.2.2.2)) | (rw [add_block]; exact Kd.own_blk (Kd.N_away HO550.out (fun _ hk => hk.2.2.2.2.2.2))) | (show (Addr.add _ _).block ≠ _; rw [add_block]; exact Kd.own_blk (Kd.N_away HO550.out (fun _ hk => hk.2.2.2.2.2.2))) | (dsimp only; exact Kd.own_blk (Kd.N_away HO550.out (fun _ hk => hk.2.2.2.2.2.2)))) _).trans (hHeld.2.2.2.2.1)))), ((cell_far (p := ⟨gb559, _, none⟩) (by first | exact Kd.own_blk (Kd.N_away HO550.out (fun _ hk => hk.2.2.2.2.2.2)) | (rw [add_block]; exact Kd.own_blk (Kd.N_away HO550.out (fun _ hk => hk.2.2.2.2.2.2))) | (show (Addr.add _ _).block ≠ _; rw [add_block]; exact Kd.own_blk (Kd.N_away HO550.out (fun _ hk => hk.2.2.2.2.2.2))) | (dsimp only; exact Kd.own_blk (Kd.N_away HO550.out (fun _ hk => hk.2.2.2.2.2.2)))) _).trans (((cell_far (p := ⟨gb559, _, none⟩) (by first | exact Kd.own_blk (Kd.N_away HO550.out (fun _ hk => hk.2.2.2.2.2.2)) | (rw [add_block]; exact Kd.own_blk (Kd.N_away HO550.out (fun _ hk => hk.2.2.2.2.2.2))) | (show (Addr.add _ _).block ≠ _; rw [add_block]; exact Kd.own_blk (Kd.N_away HO550.out (fun _ hk => hk.2.2.2.2.2.2))) | (dsimp only; exact Kd.own_blk (Kd.N_away HO550.out (fun _ hk => hk.2.2.2.2.2.2)))) _).trans (hHeld.2.2.2.2.2))))⟩ (fun hHeld => ?_)
         clear hK K
         refine pure_ (i := 10) (N := some 12) (v := ?_) (a' := ?_) #[T_,T_,T_,T_,T_,T_,T_,T_,T_,T_,T_] rfl rfl (any_of HT_.out (by kernel_rfl)) (fun _ _ _ h => h) (Or.inl ⟨by rfl, ?_⟩) ?_ ?_
         rotate_left
         ·
          intro w'
          go_simp
          with_reducible rfl
         rotate_left
         ·
          simp only [Act.put, List.setIfInBounds_toArray, List.set_cons_zero, List.set_cons_succ, i64_w, i32_w]
          rfl
         refine done_ (done_of HT_.out (by kernel_rfl)) ?_
         have hnb87 := NBq2.out
         have hnc87 := NBq0.out
         have hnb88 := NBq3.out
         have hnc88 := NBq1.out
         have hcz89_0 : w82.cell? ⟨gb559, 0, none⟩ = some (.slice none 0 0) := (kC BK559.out 0).trans rfl
         have hcz89_1 : w82.cell? ⟨gb559, 1, none⟩ = some (.slice none 0 0) := (kC BK559.out 1).trans rfl
         have hfz89_0 := kF BK559.out 0
         have hfz89_1 := kF BK559.out 1
         try go_wp2_with (first | ((with_reducible refine gate_callee (f := 23) rfl ?_); refine goesL_ (some 64) rfl rfl Try.func23 (by kernel_rfl) rfl #[.agg #[.slice Ao83 t552.length co83, .slice Ao85 t555.length co85]] rfl (by (try simp only [List.map_toArray, List.map_cons, List.map_nil]); first | done | rfl | (simp only [List.length_drop, List.length_take]; rfl)) ?_; (with_reducible refine (delta_Last.calls _ _ t552 _ _ t555 t560 _ ?side1 ?side2 ?side3 ?side4 A62.out).mono ?_); (case side1 => refine (Kd.N_reads' (e := 28) (base := w.heap.size) (ok := fun k_ => (some k_ ≠ (.slice Ao73 t541.length co73 : Value).ownBlock ∧ (some k_ ≠ (.slice Ao75 t544.length co75 : Value).ownBlock ∧ (some k_ ≠ (.slice (some ad551) t548.length co78 : Value).ownBlock ∧ (some k_ ≠ (.slice Ao85 t555.length co85 : Value).ownBlock ∧ (k_ ≠ gb536 ∧ (k_ ≠ gb537 ∧ k_ ≠ gb559))))))) (n := t552.length) (c := co83) ?_).2.2; exact (by (with_reducible repeat (first | apply Kd.N_alloc | apply Kd.N_drewN | apply Kd.N_drew)); exact (Kd.N_mono (Kd.N_far (p := ⟨gb559, 1, none⟩) (Kd.N_far (p := ⟨gb559, 0, none⟩) (Kd.N_mono HO554.out (fun k_ hk => (⟨hk, hk.2.2.2.2.2.2⟩ : _ ∧ k_ ≠ gb559))) (fun _ hk => hk.2) (.slice Ao83 t552.length co83)) (fun _ hk => hk.2) (.slice Ao85 t555.length co85)) (fun _ h_ => h_.1)))); (case side2 => exact (Kd.N_reads' HO554.out).2.1); (case side3 => refine (Kd.R_reads' (e := 3) (base := w.heap.size) (ok := fun k_ => True) (n := t555.length) (c := co85) ?_).2.2; exact (by (with_reducible repeat (first | apply Kd.R_alloc | apply Kd.R_drewN | apply Kd.R_drew)); exact (Kd.R_mono (Kd.R_far (p := ⟨gb559, 1, none⟩) (Kd.R_far (p := ⟨gb559, 0, none⟩) (Kd.R_types HO557.out BK559.out (by decide)) (fun _ hk => hk.2) (.slice Ao83 t552.length co83)) (fun _ hk => hk.2) (.slice Ao85 t555.length co85)) (fun _ h_ => h_.1)))); (case side4 => exact (Kd.R_reads' HO557.out).2.1); rintro e w90 ⟨v561, rfl, ho0, hb⟩; refine ⟨_, rfl, ?_⟩; replace HLq0 := aM (Kd.V_elder' (by (with_reducible repeat (first | apply Kd.V_alloc | apply Kd.V_drewN | apply Kd.V_drew)); exact (Kd.V_mono (Kd.V_far (p := ⟨gb559, 1, none⟩) (Kd.V_far (p := ⟨gb559, 0, none⟩) (Kd.V_mono HLq0.out (fun k_ hk => (⟨hk, hk.2.2.2.2.2.2.2⟩ : _ ∧ k_ ≠ gb559))) (fun _ hk => hk.2) (.slice Ao83 t552.length co83)) (fun _ hk => hk.2) (.slice Ao85 t555.length co85)) (fun _ h_ => h_.1))) (Kd.N_base ho0) hb); replace HLq1 := aM (Kd.V_elder' (by (with_reducible repeat (first | apply Kd.V_alloc | apply Kd.V_drewN | apply Kd.V_drew)); exact (Kd.V_mono (Kd.V_far (p := ⟨gb559, 1, none⟩) (Kd.V_far (p := ⟨gb559, 0, none⟩) (Kd.V_mono HLq1.out (fun k_ hk => (⟨hk, hk.2.2.2.2.2.2.2⟩ : _ ∧ k_ ≠ gb559))) (fun _ hk => hk.2) (.slice Ao83 t552.length co83)) (fun _ hk => hk.2) (.slice Ao85 t555.length co85)) (fun _ h_ => h_.1))) (Kd.N_base ho0) hb); have HO562 := aM (Kd.N_lower (Kd.N_mono (ok' := fun k_ => some k_ ≠ (.slice Ao73 t541.length co73 : Value).ownBlock ∧ some k_ ≠ (.slice Ao75 t544.length co75 : Value).ownBlock ∧ some k_ ≠ (.slice (some ad551) t548.length co78 : Value).ownBlock ∧ some k_ ≠ (.slice Ao83 t552.length co83 : Value).ownBlock ∧ some k_ ≠ (.slice Ao85 t555.length co85 : Value).ownBlock ∧ k_ ≠ gb536 ∧ k_ ≠ gb537 ∧ k_ ≠ gb559) ho0 (fun k_ hk_ => ⟨(Kd.fresh' (Kd.N_lt (by (with_reducible repeat (first | apply Kd.N_alloc | apply Kd.N_drewN | apply Kd.N_drew)); exact (Kd.N_mono (Kd.N_far (p := ⟨gb559, 1, none⟩) (Kd.N_far (p := ⟨gb559, 0, none⟩) (Kd.N_mono HO543.out (fun k_ hk => (⟨hk, hk.2.2.2.2.2.2⟩ : _ ∧ k_ ≠ gb559))) (fun _ hk => hk.2) (.slice Ao83 t552.length co83)) (fun _ hk => hk.2) (.slice Ao85 t555.length co85)) (fun _ h_ => h_.1)))) k_ hk_), (Kd.fresh' (Kd.N_lt (by (with_reducible repeat (first | apply Kd.N_alloc | apply Kd.N_drewN | apply Kd.N_drew)); exact (Kd.N_mono (Kd.N_far (p := ⟨gb559, 1, none⟩) (Kd.N_far (p := ⟨gb559, 0, none⟩) (Kd.N_mono HO546.out (fun k_ hk => (⟨hk, hk.2.2.2.2.2⟩ : _ ∧ k_ ≠ gb559))) (fun _ hk => hk.2) (.slice Ao83 t552.length co83)) (fun _ hk => hk.2) (.slice Ao85 t555.length co85)) (fun _ h_ => h_.1)))) k_ hk_), (Kd.fresh' (Kd.N_lt (by (with_reducible repeat (first | apply Kd.N_alloc | apply Kd.N_drewN | apply Kd.N_drew)); exact (Kd.N_mono (Kd.N_far (p := ⟨gb559, 1, none⟩) (Kd.N_far (p := ⟨gb559, 0, none⟩) (Kd.N_mono HO550.out (fun k_ hk => (⟨hk, hk.2.2.2.2.2.2⟩ : _ ∧ k_ ≠ gb559))) (fun _ hk => hk.2) (.slice Ao83 t552.length co83)) (fun _ hk => hk.2) (.slice Ao85 t555.length co85)) (fun _ h_ => h_.1)))) k_ hk_), (Kd.fresh' (Kd.N_lt (by (with_reducible repeat (first | apply Kd.N_alloc | apply Kd.N_drewN | apply Kd.N_drew)); exact (Kd.N_mono (Kd.N_far (p := ⟨gb559, 1, none⟩) (Kd.N_far (p := ⟨gb559, 0, none⟩) (Kd.N_mono HO554.out (fun k_ hk => (⟨hk, hk.2.2.2.2.2.2⟩ : _ ∧ k_ ≠ gb559))) (fun _ hk => hk.2) (.slice Ao83 t552.length co83)) (fun _ hk => hk.2) (.slice Ao85 t555.length co85)) (fun _ h_ => h_.1)))) k_ hk_), (Kd.fresh' (Kd.R_lt (by (with_reducible repeat (first | apply Kd.R_alloc | apply Kd.R_drewN | apply Kd.R_drew)); exact (Kd.R_mono (Kd.R_far (p := ⟨gb559, 1, none⟩) (Kd.R_far (p := ⟨gb559, 0, none⟩) (Kd.R_types HO557.out BK559.out (by decide)) (fun _ hk => hk.2) (.slice Ao83 t552.length co83)) (fun _ hk => hk.2) (.slice Ao85 t555.length co85)) (fun _ h_ => h_.1)))) k_ hk_), (Kd.freshB (g := gb536) (o := .cells #[.slice A0_0 l0_0.length c0_0, .slice A0_1 l0_1.length c0_1] 25 (0, 0)) (by (with_reducible repeat (first | refine blk_drewN ?_ _ | refine blk_drew ?_ | refine blk_alloc ?_ _)); refine blk_far ?_ NBq0.out _; (with_reducible repeat (first | refine blk_drewN ?_ _ | refine blk_drew ?_ | refine blk_alloc ?_ _)); refine blk_far ?_ NBq0.out _; (with_reducible repeat (first | refine blk_drewN ?_ _ | refine blk_drew ?_ | refine blk_alloc ?_ _)); exact BK536.out) k_ hk_), (Kd.freshB (g := gb537) (o := .cells #[.int .i64 a1_0, .slice A1_1 l1_1.length c1_1, .slice A1_2 l1_2.length c1_2, .bool a1_3] 39 (0, 0)) (by (with_reducible repeat (first | refine blk_drewN ?_ _ | refine blk_drew ?_ | refine blk_alloc ?_ _)); refine blk_far ?_ NBq1.out _; (with_reducible repeat (first | refine blk_drewN ?_ _ | refine blk_drew ?_ | refine blk_alloc ?_ _)); refine blk_far ?_ NBq1.out _; (with_reducible repeat (first | refine blk_drewN ?_ _ | refine blk_drew ?_ | refine blk_alloc ?_ _)); exact BK537.out) k_ hk_), (Kd.freshB (g := gb559) (o := .cells #[.slice Ao83 t552.length co83, .slice Ao85 t555.length co85] 25 (0, 0)) (by (with_reducible repeat (first | refine blk_drewN ?_ _ | refine blk_drew ?_ | refine blk_alloc ?_ _)); refine blk_put (cs := #[.slice Ao83 t552.length co83, .slice none 0 0]) ?_ 1 _ rfl; (with_reducible repeat (first | refine blk_drewN ?_ _ | refine blk_drew ?_ | refine blk_alloc ?_ _)); refine blk_put (cs := #[.slice none 0 0, .slice none 0 0]) ?_ 0 _ rfl; (with_reducible repeat (first | refine blk_drewN ?_ _ | refine blk_drew ?_ | refine blk_alloc ?_ _)); exact BK559.out) k_ hk_)⟩)) (below_size (by repeat (first | (with_reducible first | exact HB.out | apply bA | apply bN | apply bD | refine bS ?_ GE536.out | refine bS ?_ GE537.out | refine bS ?_ GE559.out) | exact HB.out)))); replace HO543 := aM (Kd.N_elder' (by (with_reducible repeat (first | apply Kd.N_alloc | apply Kd.N_drewN | apply Kd.N_drew)); exact (Kd.N_mono (Kd.N_far (p := ⟨gb559, 1, none⟩) (Kd.N_far (p := ⟨gb559, 0, none⟩) (Kd.N_mono HO543.out (fun k_ hk => (⟨hk, hk.2.2.2.2.2.2⟩ : _ ∧ k_ ≠ gb559))) (fun _ hk => hk.2) (.slice Ao83 t552.length co83)) (fun _ hk => hk.2) (.slice Ao85 t555.length co85)) (fun _ h_ => h_.1))) (Kd.N_base ho0) hb); replace HO546 := aM (Kd.N_elder' (by (with_reducible repeat (first | apply Kd.N_alloc | apply Kd.N_drewN | apply Kd.N_drew)); exact (Kd.N_mono (Kd.N_far (p := ⟨gb559, 1, none⟩) (Kd.N_far (p := ⟨gb559, 0, none⟩) (Kd.N_mono HO546.out (fun k_ hk => (⟨hk, hk.2.2.2.2.2⟩ : _ ∧ k_ ≠ gb559))) (fun _ hk => hk.2) (.slice Ao83 t552.length co83)) (fun _ hk => hk.2) (.slice Ao85 t555.length co85)) (fun _ h_ => h_.1))) (Kd.N_base ho0) hb); replace HO550 := aM (Kd.N_elder' (by (with_reducible repeat (first | apply Kd.N_alloc | apply Kd.N_drewN | apply Kd.N_drew)); exact (Kd.N_mono (Kd.N_far (p := ⟨gb559, 1, none⟩) (Kd.N_far (p := ⟨gb559, 0, none⟩) (Kd.N_mono HO550.out (fun k_ hk => (⟨hk, hk.2.2.2.2.2.2⟩ : _ ∧ k_ ≠ gb559))) (fun _ hk => hk.2) (.slice Ao83 t552.length co83)) (fun _ hk => hk.2) (.slice Ao85 t555.length co85)) (fun _ h_ => h_.1))) (Kd.N_base ho0) hb); replace HO554 := aM (Kd.N_elder' (by (with_reducible repeat (first | apply Kd.N_alloc | apply Kd.N_drewN | apply Kd.N_drew)); exact (Kd.N_mono (Kd.N_far (p := ⟨gb559, 1, none⟩) (Kd.N_far (p := ⟨gb559, 0, none⟩) (Kd.N_mono HO554.out (fun k_ hk => (⟨hk, hk.2.2.2.2.2.2⟩ : _ ∧ k_ ≠ gb559))) (fun _ hk => hk.2) (.slice Ao83 t552.length co83)) (fun _ hk => hk.2) (.slice Ao85 t555.length co85)) (fun _ h_ => h_.1))) (Kd.N_base ho0) hb); replace HO557 := aM (Kd.R_below (by (with_reducible repeat (first | apply Kd.R_alloc | apply Kd.R_drewN | apply Kd.R_drew)); exact (Kd.R_mono (Kd.R_far (p := ⟨gb559, 1, none⟩) (Kd.R_far (p := ⟨gb559, 0, none⟩) (Kd.R_types HO557.out BK559.out (by decide)) (fun _ hk => hk.2) (.slice Ao83 t552.length co83)) (fun _ hk => hk.2) (.slice Ao85 t555.length co85)) (fun _ h_ => h_.1))) hb); replace BK536 := aM (kB (g := gb536) (o := .cells #[.slice A0_0 l0_0.length c0_0, .slice A0_1 l0_1.length c0_1] 25 (0, 0)) (by (with_reducible repeat (first | refine blk_drewN ?_ _ | refine blk_drew ?_ | refine blk_alloc ?_ _)); refine blk_far ?_ NBq0.out _; (with_reducible repeat (first | refine blk_drewN ?_ _ | refine blk_drew ?_ | refine blk_alloc ?_ _)); refine blk_far ?_ NBq0.out _; (with_reducible repeat (first | refine blk_drewN ?_ _ | refine blk_drew ?_ | refine blk_alloc ?_ _)); exact BK536.out) hb); replace BK537 := aM (kB (g := gb537) (o := .cells #[.int .i64 a1_0, .slice A1_1 l1_1.length c1_1, .slice A1_2 l1_2.length c1_2, .bool a1_3] 39 (0, 0)) (by (with_reducible repeat (first | refine blk_drewN ?_ _ | refine blk_drew ?_ | refine blk_alloc ?_ _)); refine blk_far ?_ NBq1.out _; (with_reducible repeat (first | refine blk_drewN ?_ _ | refine blk_drew ?_ | refine blk_alloc ?_ _)); refine blk_far ?_ NBq1.out _; (with_reducible repeat (first | refine blk_drewN ?_ _ | refine blk_drew ?_ | refine blk_alloc ?_ _)); exact BK537.out) hb); replace BK559 := aM (kB (g := gb559) (o := .cells #[.slice Ao83 t552.length co83, .slice Ao85 t555.length co85] 25 (0, 0)) (by (with_reducible repeat (first | refine blk_drewN ?_ _ | refine blk_drew ?_ | refine blk_alloc ?_ _)); refine blk_put (cs := #[.slice Ao83 t552.length co83, .slice none 0 0]) ?_ 1 _ rfl; (with_reducible repeat (first | refine blk_drewN ?_ _ | refine blk_drew ?_ | refine blk_alloc ?_ _)); refine blk_put (cs := #[.slice none 0 0, .slice none 0 0]) ?_ 0 _ rfl; (with_reducible repeat (first | refine blk_drewN ?_ _ | refine blk_drew ?_ | refine blk_alloc ?_ _)); exact BK559.out) hb); replace HB := aM (below_step (by repeat (first | (with_reducible first | exact HB.out | apply bA | apply bN | apply bD | refine bS ?_ GE536.out | refine bS ?_ GE537.out | refine bS ?_ GE559.out) | exact HB.out)) hb); (try clear hb); (try clear hk); obtain ⟨Ao91, co91, eo91⟩ := Kd.N_slice HO562.out; subst eo91) | ((with_reducible refine gate_callee (f := 22) rfl ?_); refine goesL_ (some 66) rfl rfl Try.func22 (by kernel_rfl) rfl #[.slice Ao91 t560.length co91, .slice (some ad551) t548.length co78] rfl (by (try simp only [List.map_toArray, List.map_cons, List.map_nil]); first | done | rfl | (simp only [List.length_drop, List.length_take]; rfl)) ?_; (with_reducible refine (banksmanref08_Writes.calls kj4 _ _ t560 _ _ t548 t563 _ ?side1 ?side2 ?side3 ?side4 A63.out).mono ?_); (case side1 => repeat (first | exact (Kd.N_reads' HO562.out).2.2 | (with_reducible refine Kd.C_alloc ?_ _) | (with_reducible refine Kd.C_drewN ?_ _) | (with_reducible refine Kd.C_drew ?_))); (case side2 => exact (Kd.N_reads' HO562.out).2.1); (case side3 => repeat (first | exact (Kd.N_reads' HO550.out).2.2 | (with_reducible refine Kd.C_alloc ?_ _) | (with_reducible refine Kd.C_drewN ?_ _) | (with_reducible refine Kd.C_drew ?_))); (case side4 => exact (Kd.N_reads' HO550.out).2.1); rintro e w' ⟨rfl, ⟨nd, rfl⟩⟩; refine ⟨_, rfl, ?_⟩))
         go_ret
         exact ⟨by first | rfl | (simp [errW_none, errW_some] <;> rfl) | (simp [*, errW_none, errW_some] <;> rfl), by repeat (first | (with_reducible first | exact HB.out | apply bA | apply bN | apply bD | refine bS ?_ GE536.out | refine bS ?_ GE537.out | refine bS ?_ GE559.out) | exact HB.out)⟩
        ·
         rw [if_neg c66] at H
         have c66b0 : (t558 == 0) = false := beq_eq_false_iff_ne.mpr c66
         have c66b1 : (t558 != 0) = true := bne_iff_ne.mpr c66
         obtain rfl := Option.some.inj H
         have hnb92 := NBq4.out
         have hnc92 := NBq5.out
         have hcz93_0 : wc.cell? ⟨gb536, 0, none⟩ = some (.slice A0_0 l0_0.length c0_0) := (kC BK536.out 0).trans rfl
         have hcz93_1 : wc.cell? ⟨gb536, 1, none⟩ = some (.slice A0_1 l0_1.length c0_1) := (kC BK536.out 1).trans rfl
         have hfz93_0 := kF BK536.out 0
         have hfz93_1 := kF BK536.out 1
         have hcz94_0 : wc.cell? ⟨gb537, 0, none⟩ = some (.int .i64 a1_0) := (kC BK537.out 0).trans rfl
         have hcz94_1 : wc.cell? ⟨gb537, 1, none⟩ = some (.slice A1_1 l1_1.length c1_1) := (kC BK537.out 1).trans rfl
         have hcz94_2 : wc.cell? ⟨gb537, 2, none⟩ = some (.slice A1_2 l1_2.length c1_2) := (kC BK537.out 2).trans rfl
         have hcz94_3 : wc.cell? ⟨gb537, 3, none⟩ = some (.bool a1_3) := (kC BK537.out 3).trans rfl
         have hfz94_0 := kF BK537.out 0
         have hfz94_1 := kF BK537.out 1
         have hfz94_2 := kF BK537.out 2
         have hfz94_3 := kF BK537.out 3
         try go_wp2_with (first | ((with_reducible refine gate_callee (f := 26) rfl ?_); refine goesL_ (some 39) rfl rfl Try.func26 (by kernel_rfl) rfl #[.agg #[.slice A0_0 l0_0.length c0_0, .slice A0_1 l0_1.length c0_1], .agg #[.int .i64 a1_0, .slice A1_1 l1_1.length c1_1, .slice A1_2 l1_2.length c1_2, .bool a1_3], .slice A2 l2.length c2] rfl (by (try simp only [List.map_toArray, List.map_cons, List.map_nil]); first | done | rfl | (simp only [List.length_drop, List.length_take]; rfl)) ?_; (with_reducible refine (delta_Over.calls _ _ l0_0 _ _ l0_1 a1_0 _ _ l1_1 _ _ l1_2 a1_3 (fun k_ => k_ < w.heap.size) _ _ l2 t541 _ ?side1 ?side2 ?side3 ?side4 ?side5 ?side6 ?side7 ?side8 ?side9 A30.out).mono ?_); (case side1 => repeat (first | exact (Kd.C_below HR0_0.out HB.out) | (with_reducible refine Kd.C_alloc ?_ _) | (with_reducible refine Kd.C_drewN ?_ _) | (with_reducible refine Kd.C_drew ?_))); (case side2 => exact HC0_0.out); (case side3 => repeat (first | exact (Kd.C_below HR0_1.out HB.out) | (with_reducible refine Kd.C_alloc ?_ _) | (with_reducible refine Kd.C_drewN ?_ _) | (with_reducible refine Kd.C_drew ?_))); (case side4 => exact HC0_1.out); (case side5 => repeat (first | exact (Kd.C_below HR1_1.out HB.out) | (with_reducible refine Kd.C_alloc ?_ _) | (with_reducible refine Kd.C_drewN ?_ _) | (with_reducible refine Kd.C_drew ?_))); (case side6 => exact HC1_1.out); (case side7 => repeat (first | exact (Kd.C_below HR1_2.out HB.out) | (with_reducible refine Kd.C_alloc ?_ _) | (with_reducible refine Kd.C_drewN ?_ _) | (with_reducible refine Kd.C_drew ?_))); (case side8 => exact HC1_2.out); (case side9 => exact Kd.V_mk HC2.out (Kd.F_below (Kd.C_F k53_heap HR2.out) (by repeat (first | (with_reducible first | exact HB.out | apply bA | apply bN | apply bD | refine bS ?_ GE536.out | refine bS ?_ GE537.out) | exact HB.out)))); rintro e w95 ⟨v542, rfl, ho0, hb⟩; refine ⟨_, rfl, ?_⟩; have HO543 := aM (Kd.N_lower (Kd.N_mono (ok' := fun k_ => k_ ≠ gb536 ∧ k_ ≠ gb537) ho0 (fun k_ hk_ => ⟨Or.elim hk_ (fun hs_ => fun e_ => Nat.not_le.2 hs_ (by rw [e_]; exact GW536.out)) (fun hn_ => (Kd.freshB (g := gb536) (o := .cells #[.slice A0_0 l0_0.length c0_0, .slice A0_1 l0_1.length c0_1] 25 (0, 0)) (bU BK536.out) k_ hn_)), Or.elim hk_ (fun hs_ => fun e_ => Nat.not_le.2 hs_ (by rw [e_]; exact GW537.out)) (fun hn_ => (Kd.freshB (g := gb537) (o := .cells #[.int .i64 a1_0, .slice A1_1 l1_1.length c1_1, .slice A1_2 l1_2.length c1_2, .bool a1_3] 39 (0, 0)) (bU BK537.out) k_ hn_))⟩)) (below_size (by repeat (first | (with_reducible first | exact HB.out | apply bA | apply bN | apply bD | refine bS ?_ GE536.out | refine bS ?_ GE537.out) | exact HB.out)))); replace BK536 := aM (kB (g := gb536) (o := .cells #[.slice A0_0 l0_0.length c0_0, .slice A0_1 l0_1.length c0_1] 25 (0, 0)) (bU BK536.out) hb); replace BK537 := aM (kB (g := gb537) (o := .cells #[.int .i64 a1_0, .slice A1_1 l1_1.length c1_1, .slice A1_2 l1_2.length c1_2, .bool a1_3] 39 (0, 0)) (bU BK537.out) hb); replace HB := aM (below_step (by repeat (first | (with_reducible first | exact HB.out | apply bA | apply bN | apply bD | refine bS ?_ GE536.out | refine bS ?_ GE537.out) | exact HB.out)) hb); (try clear hb); (try clear hk); have hcz96_0 : w95.cell? ⟨gb536, 0, none⟩ = some (.slice A0_0 l0_0.length c0_0) := (kC BK536.out 0).trans rfl; have hcz96_1 : w95.cell? ⟨gb536, 1, none⟩ = some (.slice A0_1 l0_1.length c0_1) := (kC BK536.out 1).trans rfl; have hfz96_0 := kF BK536.out 0; have hfz96_1 := kF BK536.out 1; have hcz97_0 : w95.cell? ⟨gb537, 0, none⟩ = some (.int .i64 a1_0) := (kC BK537.out 0).trans rfl; have hcz97_1 : w95.cell? ⟨gb537, 1, none⟩ = some (.slice A1_1 l1_1.length c1_1) := (kC BK537.out 1).trans rfl; have hcz97_2 : w95.cell? ⟨gb537, 2, none⟩ = some (.slice A1_2 l1_2.length c1_2) := (kC BK537.out 2).trans rfl; have hcz97_3 : w95.cell? ⟨gb537, 3, none⟩ = some (.bool a1_3) := (kC BK537.out 3).trans rfl; have hfz97_0 := kF BK537.out 0; have hfz97_1 := kF BK537.out 1; have hfz97_2 := kF BK537.out 2; have hfz97_3 := kF BK537.out 3; obtain ⟨Ao98, co98, eo98⟩ := Kd.N_slice HO543.out; subst eo98) | ((with_reducible refine gate_callee (f := 26) rfl ?_); refine goesL_ (some 43) rfl rfl Try.func26 (by kernel_rfl) rfl #[.agg #[.slice A0_0 l0_0.length c0_0, .slice A0_1 l0_1.length c0_1], .agg #[.int .i64 a1_0, .slice A1_1 l1_1.length c1_1, .slice A1_2 l1_2.length c1_2, .bool a1_3], .slice Ao98 t541.length co98] rfl (by (try simp only [List.map_toArray, List.map_cons, List.map_nil]); first | done | rfl | (simp only [List.length_drop, List.length_take]; rfl)) ?_; (with_reducible refine (delta_Over.calls _ _ l0_0 _ _ l0_1 a1_0 _ _ l1_1 _ _ l1_2 a1_3 (fun k_ => (k_ ≠ gb536 ∧ k_ ≠ gb537)) _ _ t541 t544 _ ?side1 ?side2 ?side3 ?side4 ?side5 ?side6 ?side7 ?side8 ?side9 A31.out).mono ?_); (case side1 => repeat (first | exact (Kd.C_below HR0_0.out HB.out) | (with_reducible refine Kd.C_alloc ?_ _) | (with_reducible refine Kd.C_drewN ?_ _) | (with_reducible refine Kd.C_drew ?_))); (case side2 => exact HC0_0.out); (case side3 => repeat (first | exact (Kd.C_below HR0_1.out HB.out) | (with_reducible refine Kd.C_alloc ?_ _) | (with_reducible refine Kd.C_drewN ?_ _) | (with_reducible refine Kd.C_drew ?_))); (case side4 => exact HC0_1.out); (case side5 => repeat (first | exact (Kd.C_below HR1_1.out HB.out) | (with_reducible refine Kd.C_alloc ?_ _) | (with_reducible refine Kd.C_drewN ?_ _) | (with_reducible refine Kd.C_drew ?_))); (case side6 => exact HC1_1.out); (case side7 => repeat (first | exact (Kd.C_below HR1_2.out HB.out) | (with_reducible refine Kd.C_alloc ?_ _) | (with_reducible refine Kd.C_drewN ?_ _) | (with_reducible refine Kd.C_drew ?_))); (case side8 => exact HC1_2.out); (case side9 => exact Kd.N_V (HO543.out)); rintro e w99 ⟨v545, rfl, ho0, hb⟩; refine ⟨_, rfl, ?_⟩; replace HO543 := aM (Kd.N_elder' (nU HO543.out) (Kd.N_base ho0) hb); have HO546 := aM (Kd.N_lower (Kd.N_mono (ok' := fun k_ => k_ ≠ gb536 ∧ k_ ≠ gb537) ho0 (fun k_ hk_ => ⟨Or.elim hk_ (fun hs_ => hs_.1) (fun hn_ => (Kd.freshB (g := gb536) (o := .cells #[.slice A0_0 l0_0.length c0_0, .slice A0_1 l0_1.length c0_1] 25 (0, 0)) (bU BK536.out) k_ hn_)), Or.elim hk_ (fun hs_ => hs_.2) (fun hn_ => (Kd.freshB (g := gb537) (o := .cells #[.int .i64 a1_0, .slice A1_1 l1_1.length c1_1, .slice A1_2 l1_2.length c1_2, .bool a1_3] 39 (0, 0)) (bU BK537.out) k_ hn_))⟩)) (below_size (by repeat (first | (with_reducible first | exact HB.out | apply bA | apply bN | apply bD | refine bS ?_ GE536.out | refine bS ?_ GE537.out) | exact HB.out)))); replace BK536 := aM (kB (g := gb536) (o := .cells #[.slice A0_0 l0_0.length c0_0, .slice A0_1 l0_1.length c0_1] 25 (0, 0)) (bU BK536.out) hb); replace BK537 := aM (kB (g := gb537) (o := .cells #[.int .i64 a1_0, .slice A1_1 l1_1.length c1_1, .slice A1_2 l1_2.length c1_2, .bool a1_3] 39 (0, 0)) (bU BK537.out) hb); replace HB := aM (below_step (by repeat (first | (with_reducible first | exact HB.out | apply bA | apply bN | apply bD | refine bS ?_ GE536.out | refine bS ?_ GE537.out) | exact HB.out)) hb); (try clear hb); (try clear hk); obtain ⟨Ao100, co100, eo100⟩ := Kd.N_slice HO546.out; subst eo100) | ((with_reducible refine gate_callee (f := 25) rfl ?_); refine goesL_ (some 45) rfl rfl Try.func25 (by kernel_rfl) rfl #[.slice Ao100 t544.length co100, .slice Ao98 t541.length co98] rfl (by (try simp only [List.map_toArray, List.map_cons, List.map_nil]); first | done | rfl | (simp only [List.length_drop, List.length_take]; rfl)) ?_; (with_reducible refine (banksmanref07_Pairs.calls kj4 _ _ t544 _ _ t541 true _ ?side1 ?side2 ?side3 ?side4 A32.out).mono ?_); (case side1 => repeat (first | exact (Kd.N_reads' HO546.out).2.2 | (with_reducible refine Kd.C_alloc ?_ _) | (with_reducible refine Kd.C_drewN ?_ _) | (with_reducible refine Kd.C_drew ?_))); (case side2 => exact (Kd.N_reads' HO546.out).2.1); (case side3 => repeat (first | exact (Kd.N_reads' HO543.out).2.2 | (with_reducible refine Kd.C_alloc ?_ _) | (with_reducible refine Kd.C_drewN ?_ _) | (with_reducible refine Kd.C_drew ?_))); (case side4 => exact (Kd.N_reads' HO543.out).2.1); rintro e w' ⟨rfl, ⟨nd, rfl⟩⟩; refine ⟨_, rfl, ?_⟩; (try (rw [drewN_self w99]; generalize hq_ : World.drewN w99 _ = w99; have n0_ : Aside0 (Kd.N k53 53 w99 w.heap.size (fun k_ => some k_ ≠ (.slice Ao100 t544.length co100 : Value).ownBlock ∧ k_ ≠ gb536 ∧ k_ ≠ gb537) (.slice Ao98 t541.length co98) t541) := ⟨by rw [← hq_]; exact (by (with_reducible repeat (first | apply Kd.N_alloc | apply Kd.N_drewN | apply Kd.N_drew)); exact Kd.N_mono HO543.out (fun _ hk => ⟨hk.2, ⟨hk.1.1, hk.1.2⟩⟩))⟩; have n1_ : Aside0 (Kd.N k53 53 w99 w.heap.size (fun k_ => k_ ≠ gb536 ∧ k_ ≠ gb537) (.slice Ao100 t544.length co100) t544) := ⟨by rw [← hq_]; exact (nU HO546.out)⟩; have n2_ : Aside0 (w99.heap[gb536]? = some (.cells #[.slice A0_0 l0_0.length c0_0, .slice A0_1 l0_1.length c0_1] 25 (0, 0))) := ⟨by rw [← hq_]; exact (bU BK536.out)⟩; have n3_ : Aside0 (w99.heap[gb537]? = some (.cells #[.int .i64 a1_0, .slice A1_1 l1_1.length c1_1, .slice A1_2 l1_2.length c1_2, .bool a1_3] 39 (0, 0))) := ⟨by rw [← hq_]; exact (bU BK537.out)⟩; have n4_ : Aside0 (Below w.heap.size w w99) := ⟨by rw [← hq_]; exact (by repeat (first | (with_reducible first | exact HB.out | apply bA | apply bN | apply bD | refine bS ?_ GE536.out | refine bS ?_ GE537.out) | exact HB.out))⟩; clear HO543 HO546 BK536 BK537 HB hq_; have HO543 := n0_; have HO546 := n1_; have BK536 := n2_; have BK537 := n3_; have HB := n4_; clear n0_ n1_ n2_ n3_ n4_)); have hcz101_0 : w99.cell? ⟨gb536, 0, none⟩ = some (.slice A0_0 l0_0.length c0_0) := (kC BK536.out 0).trans rfl; have hcz101_1 : w99.cell? ⟨gb536, 1, none⟩ = some (.slice A0_1 l0_1.length c0_1) := (kC BK536.out 1).trans rfl; have hfz101_0 := kF BK536.out 0; have hfz101_1 := kF BK536.out 1) | ((with_reducible refine gate_callee (f := 23) rfl ?_); refine goesL_ (some 47) rfl rfl Try.func23 (by kernel_rfl) rfl #[.agg #[.slice A0_0 l0_0.length c0_0, .slice A0_1 l0_1.length c0_1]] rfl (by (try simp only [List.map_toArray, List.map_cons, List.map_nil]); first | done | rfl | (simp only [List.length_drop, List.length_take]; rfl)) ?_; (with_reducible refine (delta_Last.calls _ _ l0_0 _ _ l0_1 t548 _ ?side1 ?side2 ?side3 ?side4 A33.out).mono ?_); (case side1 => repeat (first | exact (Kd.C_below HR0_0.out HB.out) | (with_reducible refine Kd.C_alloc ?_ _) | (with_reducible refine Kd.C_drewN ?_ _) | (with_reducible refine Kd.C_drew ?_))); (case side2 => exact HC0_0.out); (case side3 => repeat (first | exact (Kd.C_below HR0_1.out HB.out) | (with_reducible refine Kd.C_alloc ?_ _) | (with_reducible refine Kd.C_drewN ?_ _) | (with_reducible refine Kd.C_drew ?_))); (case side4 => exact HC0_1.out); rintro e w102 ⟨v549, rfl, ho0, hb⟩; refine ⟨_, rfl, ?_⟩; have HO550 := aM (Kd.N_lower (Kd.N_mono (ok' := fun k_ => some k_ ≠ (.slice Ao98 t541.length co98 : Value).ownBlock ∧ some k_ ≠ (.slice Ao100 t544.length co100 : Value).ownBlock ∧ k_ ≠ gb536 ∧ k_ ≠ gb537) ho0 (fun k_ hk_ => ⟨(Kd.fresh' (Kd.N_lt (nU HO543.out)) k_ hk_), (Kd.fresh' (Kd.N_lt (nU HO546.out)) k_ hk_), (Kd.freshB (g := gb536) (o := .cells #[.slice A0_0 l0_0.length c0_0, .slice A0_1 l0_1.length c0_1] 25 (0, 0)) (bU BK536.out) k_ hk_), (Kd.freshB (g := gb537) (o := .cells #[.int .i64 a1_0, .slice A1_1 l1_1.length c1_1, .slice A1_2 l1_2.length c1_2, .bool a1_3] 39 (0, 0)) (bU BK537.out) k_ hk_)⟩)) (below_size (by repeat (first | (with_reducible first | exact HB.out | apply bA | apply bN | apply bD | refine bS ?_ GE536.out | refine bS ?_ GE537.out) | exact HB.out)))); replace HO543 := aM (Kd.N_elder' (nU HO543.out) (Kd.N_base ho0) hb); replace HO546 := aM (Kd.N_elder' (nU HO546.out) (Kd.N_base ho0) hb); replace BK536 := aM (kB (g := gb536) (o := .cells #[.slice A0_0 l0_0.length c0_0, .slice A0_1 l0_1.length c0_1] 25 (0, 0)) (bU BK536.out) hb); replace BK537 := aM (kB (g := gb537) (o := .cells #[.int .i64 a1_0, .slice A1_1 l1_1.length c1_1, .slice A1_2 l1_2.length c1_2, .bool a1_3] 39 (0, 0)) (bU BK537.out) hb); replace HB := aM (below_step (by repeat (first | (with_reducible first | exact HB.out | apply bA | apply bN | apply bD | refine bS ?_ GE536.out | refine bS ?_ GE537.out) | exact HB.out)) hb); (try clear hb); (try clear hk); obtain ⟨Ao103, co103, eo103⟩ := Kd.N_slice HO550.out; subst eo103))
         have n0_ := aM (Kd.N_drew HO543.out)
         have n1_ := aM (Kd.N_drew HO546.out)
         have n2_ := aM (Kd.N_drew HO550.out)
         have n3_ := aM (blk_drew BK536.out)
         have n4_ := aM (blk_drew BK537.out)
         have n5_ := aM (bD HB.out)
         clear HO543
         clear HO546
         clear HO550
         clear BK536
         clear BK537
         clear HB
         have HO543 := n0_
         have HO546 := n1_
         have HO550 := n2_
         have BK536 := n3_
         have BK537 := n4_
         have HB := n5_
         clear n0_ n1_ n2_ n3_ n4_ n5_
         have p551 : 0 ≤ (0 : Int) := (by omega)
         have q551 : 0 < (t548.length : Int) := of_decide_eq_true (by first | (with_reducible assumption) | assumption)
         obtain ⟨ad551, A551_1, c551_1, A551_3, c551_3, e551, hx551_0, hx551_1, hx551_2, hx551_3, hl551_1, hi551_1, hl551_3, hi551_3⟩ := at_T28 (Kd.N_reads' HO550.out).2.2 0 p551 q551
         cases e551
         obtain ⟨ce551, hce551, hMe551, hcc551⟩ := Kd.N_get HO550.out z28 0 p551 (by first | exact q551 | exact of_decide_eq_true (by first | (with_reducible assumption) | assumption) | (have e_ := (Kd.N_reads' HO550.out).1; omega))
         obtain ⟨ua551_1, uc551_1, ua551_3, uc551_3, rfl, ul551_1, ge551_1, ul551_3, ge551_3⟩ := k28_openF hMe551
         have hv551_1 := hcc551 1 _ rfl
         rw [add_field _ _ 1 (by omega)] at hv551_1
         replace hv551_1 := Option.some.inj (hv551_1.symm.trans hx551_1)
         injection hv551_1 with hva_ hvn_ hvc_
         rw [hva_] at ge551_1
         rw [hvc_] at ul551_1
         have HLq0 := aM (show Kd.V (Kd.int .u8) 5 _ w.heap.size _ _ ((rd_T28 t548 0).f1) from Kd.V_mk ul551_1 ge551_1)
         clear hva_ hvn_ hvc_ ge551_1 ul551_1
         have hv551_3 := hcc551 3 _ rfl
         rw [add_field _ _ 3 (by omega)] at hv551_3
         replace hv551_3 := Option.some.inj (hv551_3.symm.trans hx551_3)
         injection hv551_3 with hva_ hvn_ hvc_
         rw [hva_] at ge551_3
         rw [hvc_] at ul551_3
         have HLq1 := aM (show Kd.V (Kd.int .u8) 5 _ w.heap.size _ _ ((rd_T28 t548 0).f3) from Kd.V_mk ul551_3 ge551_3)
         clear hva_ hvn_ hvc_ ge551_3 ul551_3
         clear hcc551 hce551
         have qi551 : (0 < t548.length) = True := eq_true (by omega)
         (try rw [show ((0 : Int)).toNat = 0 from rfl] at hx551_0)
         (try rw [show 0 * 4 = 0 from rfl] at hx551_0)
         (try rw [Addr.add_zero'] at hx551_0)
         (try rw [show ((0 : Int)).toNat = 0 from rfl] at hx551_1)
         (try rw [show 0 * 4 = 0 from rfl] at hx551_1)
         (try rw [Addr.add_zero'] at hx551_1)
         (try rw [show ((0 : Int)).toNat = 0 from rfl] at hx551_2)
         (try rw [show 0 * 4 = 0 from rfl] at hx551_2)
         (try rw [Addr.add_zero'] at hx551_2)
         (try rw [show ((0 : Int)).toNat = 0 from rfl] at hx551_3)
         (try rw [show 0 * 4 = 0 from rfl] at hx551_3)
         (try rw [Addr.add_zero'] at hx551_3)
         have HRq0 := aM hi551_1
         have HCq0 := aM hl551_1
         clear hi551_1 hl551_1
         have HRq1 := aM hi551_3
         have HCq1 := aM hl551_3
         clear hi551_3 hl551_3
         replace p551 := eq_true p551
         replace q551 := eq_true q551
         refine start_ (n := 11) (S := fun w' => w'.cell? ⟨gb536, 0, none⟩ = some (.slice A0_0 l0_0.length c0_0) ∧ w'.cell? ⟨gb536, 1, none⟩ = some (.slice A0_1 l0_1.length c0_1) ∧ w'.cell? ad551 = some (.int .i64 ((rd_T28 t548 0).f0)) ∧ w'.cell? ⟨ad551.block, ad551.off + 1, none⟩ = some (.slice A551_1 ((rd_T28 t548 0).f1).length c551_1) ∧ w'.cell? ⟨ad551.block, ad551.off + 2, none⟩ = some (.bool ((rd_T28 t548 0).f2)) ∧ w'.cell? ⟨ad551.block, ad551.off + 3, none⟩ = some (.slice A551_3 ((rd_T28 t548 0).f3).length c551_3)) (ds := []) #[F_,F_,F_,F_,F_,F_,F_,F_,F_,F_,F_] (by kernel_rfl) rfl rfl ⟨(kC BK536.out 0).trans rfl, (kC BK536.out 1).trans rfl, hx551_0, hx551_1, hx551_2, hx551_3⟩ (fun hHeld => ?_); refine with_tabW banksmanlaw08_DeltaTwice.tab9 banksmanlaw08_DeltaTwice.bits9 (fun HT_ HW_ => ?_)
         generalize w102.drew = w104 at HO543 HO546 HO550 BK536 BK537 HB HLq0 HLq1 HRq0 HRq1 hx551_0 hx551_1 hx551_2 hx551_3 hHeld ⊢
         refine pure_ (i := 1) (N := some 57) (v := ?_) (a' := ?_) #[F_,T_,F_,F_,F_,F_,F_,F_,F_,F_,F_] rfl rfl (any_of HT_.out (by kernel_rfl)) (fun _ _ _ h => h) (Or.inl ⟨by rfl, ?_⟩) ?_ ?_
         rotate_left
         ·
          intro w'
          go_simp
          with_reducible rfl
         rotate_left
         ·
          simp only [Act.put, List.setIfInBounds_toArray, List.set_cons_zero, List.set_cons_succ, i64_w, i32_w]
          rfl
         refine pure_ (i := 2) (N := some 58) (v := ?_) (a' := ?_) #[F_,T_,T_,F_,F_,F_,F_,F_,F_,F_,F_] rfl rfl (any_of HT_.out (by kernel_rfl)) (fun _ _ _ h => h) (Or.inl ⟨by rfl, ?_⟩) ?_ ?_
         rotate_left
         ·
          intro w'
          go_simp
          with_reducible rfl
         rotate_left
         ·
          simp only [Act.put, List.setIfInBounds_toArray, List.set_cons_zero, List.set_cons_succ, i64_w, i32_w]
          rfl
         refine take_ (i := 0) (N := some 56) (v := ?_) (a' := ?_) #[T_,T_,T_,F_,F_,F_,F_,F_,F_,F_,F_] rfl rfl (take_ofW HT_.out HW_.out (by kernel_rfl)) (fun _ _ _ h => h) (Or.inl ⟨by rfl, ?_⟩) hHeld ?_ ?_
         rotate_left
         ·
          rintro w' ⟨s0, s1, s2, s3, s4, s5⟩
          go_simp
          with_reducible rfl
         rotate_left
         ·
          simp only [Act.put, List.setIfInBounds_toArray, List.set_cons_zero, List.set_cons_succ, i64_w, i32_w]
          rfl
         refine take_ (i := 3) (N := some 59) (v := ?_) (a' := ?_) #[T_,T_,T_,T_,F_,F_,F_,F_,F_,F_,F_] rfl rfl (take_ofW HT_.out HW_.out (by kernel_rfl)) (fun _ _ _ h => h) (Or.inl ⟨by rfl, ?_⟩) hHeld ?_ ?_
         rotate_left
         ·
          rintro w' ⟨s0, s1, s2, s3, s4, s5⟩
          go_simp
          with_reducible rfl
         rotate_left
         ·
          simp only [Act.put, List.setIfInBounds_toArray, List.set_cons_zero, List.set_cons_succ, i64_w, i32_w]
          rfl
         refine join_ (σ := Value × Value × Nat) 2 #[T_,T_,T_,T_,T_,T_,T_,T_,T_,F_,F_] (fun s_ => [(60, .tuple #[.agg #[s_.1, s_.2.1], .int .i64 t558]), (11, .pointer (some ⟨s_.2.2, 0, none⟩)), (55, .tuple #[.agg #[s_.1, s_.2.1], .int .i64 t558]), (61, .agg #[s_.1, s_.2.1]), (62, .int .i64 t558)]) (fun s_ w' => (w'.cell? ⟨gb536, 0, none⟩ = some (.slice A0_0 l0_0.length c0_0) ∧ w'.cell? ⟨gb536, 1, none⟩ = some (.slice A0_1 l0_1.length c0_1) ∧ w'.cell? ad551 = some (.int .i64 ((rd_T28 t548 0).f0)) ∧ w'.cell? ⟨ad551.block, ad551.off + 1, none⟩ = some (.slice A551_1 ((rd_T28 t548 0).f1).length c551_1) ∧ w'.cell? ⟨ad551.block, ad551.off + 2, none⟩ = some (.bool ((rd_T28 t548 0).f2)) ∧ w'.cell? ⟨ad551.block, ad551.off + 3, none⟩ = some (.slice A551_3 ((rd_T28 t548 0).f3).length c551_3)) ∧ (Kd.V (Kd.int .u8) 5 w' w.heap.size (fun k_ => some k_ ≠ (.slice Ao98 t541.length co98 : Value).ownBlock ∧ some k_ ≠ (.slice Ao100 t544.length co100 : Value).ownBlock ∧ some k_ ≠ (.slice (some ad551) t548.length co103 : Value).ownBlock ∧ some k_ ≠ (s_.1 : Value).ownBlock ∧ some k_ ≠ (s_.2.1 : Value).ownBlock ∧ k_ ≠ gb536 ∧ k_ ≠ gb537 ∧ k_ ≠ s_.2.2) (.slice A551_1 ((rd_T28 t548 0).f1).length c551_1) ((rd_T28 t548 0).f1)) ∧ (Kd.V (Kd.int .u8) 5 w' w.heap.size (fun k_ => some k_ ≠ (.slice Ao98 t541.length co98 : Value).ownBlock ∧ some k_ ≠ (.slice Ao100 t544.length co100 : Value).ownBlock ∧ some k_ ≠ (.slice (some ad551) t548.length co103 : Value).ownBlock ∧ some k_ ≠ (s_.1 : Value).ownBlock ∧ some k_ ≠ (s_.2.1 : Value).ownBlock ∧ k_ ≠ gb536 ∧ k_ ≠ gb537 ∧ k_ ≠ s_.2.2) (.slice A551_3 ((rd_T28 t548 0).f3).length c551_3) ((rd_T28 t548 0).f3)) ∧ (Kd.N k53 53 w' w.heap.size (fun k_ => some k_ ≠ (.slice Ao100 t544.length co100 : Value).ownBlock ∧ some k_ ≠ (.slice (some ad551) t548.length co103 : Value).ownBlock ∧ some k_ ≠ (s_.1 : Value).ownBlock ∧ some k_ ≠ (s_.2.1 : Value).ownBlock ∧ k_ ≠ gb536 ∧ k_ ≠ gb537 ∧ k_ ≠ s_.2.2) (.slice Ao98 t541.length co98) t541) ∧ (Kd.N k53 53 w' w.heap.size (fun k_ => some k_ ≠ (.slice (some ad551) t548.length co103 : Value).ownBlock ∧ some k_ ≠ (s_.1 : Value).ownBlock ∧ some k_ ≠ (s_.2.1 : Value).ownBlock ∧ k_ ≠ gb536 ∧ k_ ≠ gb537 ∧ k_ ≠ s_.2.2) (.slice Ao100 t544.length co100) t544) ∧ (Kd.N k28 28 w' w.heap.size (fun k_ => some k_ ≠ (.slice Ao98 t541.length co98 : Value).ownBlock ∧ some k_ ≠ (.slice Ao100 t544.length co100 : Value).ownBlock ∧ some k_ ≠ (s_.1 : Value).ownBlock ∧ some k_ ≠ (s_.2.1 : Value).ownBlock ∧ k_ ≠ gb536 ∧ k_ ≠ gb537 ∧ k_ ≠ s_.2.2) (.slice (some ad551) t548.length co103) t548) ∧ (Kd.N k28 28 w' w.heap.size (fun k_ => some k_ ≠ (.slice Ao98 t541.length co98 : Value).ownBlock ∧ some k_ ≠ (.slice Ao100 t544.length co100 : Value).ownBlock ∧ some k_ ≠ (.slice (some ad551) t548.length co103 : Value).ownBlock ∧ some k_ ≠ (s_.2.1 : Value).ownBlock ∧ k_ ≠ gb536 ∧ k_ ≠ gb537 ∧ k_ ≠ s_.2.2) s_.1 t552) ∧ (Kd.R (Kd.int .i64) 3 w' w.heap.size (fun _ => True) s_.2.1 t555) ∧ (w'.heap[gb536]? = some (.cells #[.slice A0_0 l0_0.length c0_0, .slice A0_1 l0_1.length c0_1] 25 (0, 0))) ∧ (w'.heap[gb537]? = some (.cells #[.int .i64 a1_0, .slice A1_1 l1_1.length c1_1, .slice A1_2 l1_2.length c1_2, .bool a1_3] 39 (0, 0))) ∧ (w'.heap[s_.2.2]? = some (.cells #[.slice none 0 0, .slice none 0 0] 25 (0, 0))) ∧ (w.heap.size ≤ s_.2.2) ∧ (w.heap.size ≤ s_.2.2) ∧ (gb536 ≠ s_.2.2) ∧ (s_.2.2 ≠ gb536) ∧ (gb537 ≠ s_.2.2) ∧ (s_.2.2 ≠ gb537) ∧ (Below w.heap.size w w')) ?_ ?_
         rotate_left
         ·
          intro hCont
          refine two_ (i := 4) (j := 8) (Ni := some 60) (Nj := some 11) #[T_,T_,T_,T_,T_,F_,F_,F_,F_,F_,F_] #[T_,T_,T_,T_,F_,F_,F_,F_,T_,F_,F_] rfl rfl rfl rfl (two_of HT_.out (by kernel_rfl)) (by decide) (by decide) (fun K hK => ?_) (fun K hK => ?_)
          ·
           skip
           refine goes_ Try.func10 (by kernel_rfl) rfl #[.agg #[.slice A0_0 l0_0.length c0_0, .slice A0_1 l0_1.length c0_1], .agg #[.int .i64 ((rd_T28 t548 0).f0), .slice A551_1 ((rd_T28 t548 0).f1).length c551_1, .bool ((rd_T28 t548 0).f2), .slice A551_3 ((rd_T28 t548 0).f3).length c551_3]] (by rfl) rfl rfl (by (try simp only [List.map_toArray, List.map_cons, List.map_nil]); first | done | rfl | (simp only [List.length_drop, List.length_take]; rfl)) ?_
           with_reducible refine (delta_Put.calls kj4 (fun k_ => k_ < w.heap.size) _ _ l0_0 _ _ l0_1 ((rd_T28 t548 0).f0) _ _ ((rd_T28 t548 0).f1) ((rd_T28 t548 0).f2) _ _ ((rd_T28 t548 0).f3) t552 t555 t558 _ ?side1 ?side2 ?side3 ?side4 ?side5 ?side6 ?side7 A61.out).mono ?_
           (case side1 => exact Kd.V_mk HC0_0.out (Kd.F_below (Kd.C_F k28_heap HR0_0.out) (by repeat (first | (with_reducible first | exact HB.out | apply bA | apply bN | apply bD | refine bS ?_ GE536.out | refine bS ?_ GE537.out) | exact HB.out))))
           (case side2 => repeat (first | exact (Kd.C_below HR0_1.out HB.out) | (with_reducible refine Kd.C_alloc ?_ _) | (with_reducible refine Kd.C_drewN ?_ _) | (with_reducible refine Kd.C_drew ?_)))
           (case side3 => exact HC0_1.out)
           (case side4 => repeat (first | exact (cU HRq0.out) | (with_reducible refine Kd.C_alloc ?_ _) | (with_reducible refine Kd.C_drewN ?_ _) | (with_reducible refine Kd.C_drew ?_)))
           (case side5 => exact HCq0.out)
           (case side6 => repeat (first | exact (cU HRq1.out) | (with_reducible refine Kd.C_alloc ?_ _) | (with_reducible refine Kd.C_drewN ?_ _) | (with_reducible refine Kd.C_drew ?_)))
           (case side7 => exact HCq1.out)
           rintro e w105 ⟨v553, v556, rfl, ho0, ho1, hb⟩
           have HS2_ := (hb.cell (World.block_lt_of_cell? _ _ (hHeld.2.2.1))).trans (hHeld.2.2.1)
           have HS3_ := (hb.cell (World.block_lt_of_cell? _ _ (hHeld.2.2.2.1))).trans (hHeld.2.2.2.1)
           have HS4_ := (hb.cell (World.block_lt_of_cell? _ _ (hHeld.2.2.2.2.1))).trans (hHeld.2.2.2.2.1)
           have HS5_ := (hb.cell (World.block_lt_of_cell? _ _ (hHeld.2.2.2.2.2))).trans (hHeld.2.2.2.2.2)
           refine ⟨_, rfl, ?_⟩
           have n0_ := aM (Kd.N_mono (Kd.N_told (Kd.N_told (Kd.N_old (nU HO543.out) hb) (Kd.N_base ho0)) (Kd.R_base ho1)) (fun _ h_ => h_.1))
           have n1_ := aM (Kd.N_mono (Kd.N_told (Kd.N_told (Kd.N_old (nU HO546.out) hb) (Kd.N_base ho0)) (Kd.R_base ho1)) (fun _ h_ => h_.1))
           have n2_ := aM (Kd.N_mono (Kd.N_told (Kd.N_told (Kd.N_old (nU HO550.out) hb) (Kd.N_base ho0)) (Kd.R_base ho1)) (fun _ h_ => h_.1))
           have n3_ := aM (Kd.V_mono (Kd.V_told (Kd.V_told (Kd.V_old (vU HLq0.out) hb) (Kd.N_base ho0)) (Kd.R_base ho1)) (fun _ h_ => h_.1))
           have n4_ := aM (Kd.V_mono (Kd.V_told (Kd.V_told (Kd.V_old (vU HLq1.out) hb) (Kd.N_base ho0)) (Kd.R_base ho1)) (fun _ h_ => h_.1))
           have n5_ := aM (Kd.N_lower (Kd.N_mono (ok' := fun k_ => some k_ ≠ (v556 : Value).ownBlock ∧ some k_ ≠ (.slice Ao98 t541.length co98 : Value).ownBlock ∧ some k_ ≠ (.slice Ao100 t544.length co100 : Value).ownBlock ∧ some k_ ≠ (.slice (some ad551) t548.length co103 : Value).ownBlock ∧ k_ ≠ gb536 ∧ k_ ≠ gb537) ho0 (fun k_ hk_ => ⟨hk_.2, Or.elim hk_.1 (fun hs_ => fun e_ => Nat.not_le.2 hs_ (Kd.N_base HO543.out k_ e_.symm)) (fun hn_ => (Kd.fresh' (Kd.N_lt (nU HO543.out)) k_ hn_)), Or.elim hk_.1 (fun hs_ => fun e_ => Nat.not_le.2 hs_ (Kd.N_base HO546.out k_ e_.symm)) (fun hn_ => (Kd.fresh' (Kd.N_lt (nU HO546.out)) k_ hn_)), Or.elim hk_.1 (fun hs_ => fun e_ => Nat.not_le.2 hs_ (Kd.N_base HO550.out k_ e_.symm)) (fun hn_ => (Kd.fresh' (Kd.N_lt (nU HO550.out)) k_ hn_)), Or.elim hk_.1 (fun hs_ => fun e_ => Nat.not_le.2 hs_ (by rw [e_]; exact GW536.out)) (fun hn_ => (Kd.freshB (g := gb536) (o := .cells #[.slice A0_0 l0_0.length c0_0, .slice A0_1 l0_1.length c0_1] 25 (0, 0)) (bU BK536.out) k_ hn_)), Or.elim hk_.1 (fun hs_ => fun e_ => Nat.not_le.2 hs_ (by rw [e_]; exact GW537.out)) (fun hn_ => (Kd.freshB (g := gb537) (o := .cells #[.int .i64 a1_0, .slice A1_1 l1_1.length c1_1, .slice A1_2 l1_2.length c1_2, .bool a1_3] 39 (0, 0)) (bU BK537.out) k_ hn_))⟩)) (below_size (by repeat (first | (with_reducible first | exact HB.out | apply bA | apply bN | apply bD | refine bS ?_ GE536.out | refine bS ?_ GE537.out) | exact HB.out))))
           have n6_ := aM (Kd.R_lower (Kd.R_mono (ok' := fun k_ => True) ho1 (fun _ hk_ => trivial)) (below_size (by repeat (first | (with_reducible first | exact HB.out | apply bA | apply bN | apply bD | refine bS ?_ GE536.out | refine bS ?_ GE537.out) | exact HB.out))))
           have n7_ := aM (kB (g := gb536) (o := .cells #[.slice A0_0 l0_0.length c0_0, .slice A0_1 l0_1.length c0_1] 25 (0, 0)) (bU BK536.out) hb)
           have n8_ := aM (kB (g := gb537) (o := .cells #[.int .i64 a1_0, .slice A1_1 l1_1.length c1_1, .slice A1_2 l1_2.length c1_2, .bool a1_3] 39 (0, 0)) (bU BK537.out) hb)
           have n9_ := aM (Kd.C_below (cU HRq0.out) hb)
           have n10_ := aM (Kd.C_below (cU HRq1.out) hb)
           have n11_ := aM (below_step (by repeat (first | (with_reducible first | exact HB.out | apply bA | apply bN | apply bD | refine bS ?_ GE536.out | refine bS ?_ GE537.out) | exact HB.out)) hb)
           clear HO543
           clear HO546
           clear HO550
           clear HLq0
           clear HLq1
           clear BK536
           clear BK537
           clear HRq0
           clear HRq1
           clear HB
           have HO543 := n0_
           have HO546 := n1_
           have HO550 := n2_
           have HLq0 := n3_
           have HLq1 := n4_
           have HO554 := n5_
           have HO557 := n6_
           have BK536 := n7_
           have BK537 := n8_
           have HRq0 := n9_
           have HRq1 := n10_
           have HB := n11_
           clear n0_ n1_ n2_ n3_ n4_ n5_ n6_ n7_ n8_ n9_ n10_ n11_
           (try clear hb)
           (try clear hb2)
           (try clear hk)
           (try clear hi)
           (try clear ho0)
           (try clear ho1)
           refine hK.out _ _ ⟨(kC BK536.out 0).trans rfl, (kC BK536.out 1).trans rfl, HS2_, HS3_, HS4_, HS5_⟩ (fun hHeld => ?_)
           clear hK K
           refine norm_ (a' := ?_) ?_ ?_
           rotate_left
           ·
            show Act.put _ (some 60) _ = _
            simp only [Act.put, List.setIfInBounds_toArray, List.set_cons_zero, List.set_cons_succ, i64_w, i32_w]
            rfl
           refine pure_ (i := 5) (N := some 55) (v := ?_) (a' := ?_) #[T_,T_,T_,T_,T_,T_,F_,F_,F_,F_,F_] rfl rfl (any_of HT_.out (by kernel_rfl)) (fun _ _ _ h => h) (Or.inl ⟨by rfl, ?_⟩) ?_ ?_
           rotate_left
           ·
            intro w'
            go_simp
            with_reducible rfl
           rotate_left
           ·
            simp only [Act.put, List.setIfInBounds_toArray, List.set_cons_zero, List.set_cons_succ, i64_w, i32_w]
            rfl
           refine pure_ (i := 6) (N := some 61) (v := ?_) (a' := ?_) #[T_,T_,T_,T_,T_,T_,T_,F_,F_,F_,F_] rfl rfl (any_of HT_.out (by kernel_rfl)) (fun _ _ _ h => h) (Or.inl ⟨by rfl, ?_⟩) ?_ ?_
           rotate_left
           ·
            intro w'
            go_simp
            with_reducible rfl
           rotate_left
           ·
            simp only [Act.put, List.setIfInBounds_toArray, List.set_cons_zero, List.set_cons_succ, i64_w, i32_w]
            rfl
           refine pure_ (i := 7) (N := some 62) (v := ?_) (a' := ?_) #[T_,T_,T_,T_,T_,T_,T_,T_,F_,F_,F_] rfl rfl (any_of HT_.out (by kernel_rfl)) (fun _ _ _ h => h) (Or.inl ⟨by rfl, ?_⟩) ?_ ?_
           rotate_left
           ·
            intro w'
            go_simp
            with_reducible rfl
           rotate_left
           ·
            simp only [Act.put, List.setIfInBounds_toArray, List.set_cons_zero, List.set_cons_succ, i64_w, i32_w]
            rfl
           refine one_ (i := 8) (N := some 11) #[T_,T_,T_,T_,T_,T_,T_,T_,T_,F_,F_] rfl rfl (one_of HT_.out (by kernel_rfl)) (by decide) (fun K hK => ?_)
           refine box_step ?hg (N := 11) ?hd (cs := #[.slice none 0 0, .slice none 0 0]) (t := 25) ?hr ?_; (case hd => rfl); (case hg => rfl); (case hr => first | (go_simp; done) | (go_simp; rfl))
           intro gb559 hg w106 hbox hb
           have HS2_ := (hb.cell (World.block_lt_of_cell? _ _ (hHeld.2.2.1))).trans (hHeld.2.2.1)
           have HS3_ := (hb.cell (World.block_lt_of_cell? _ _ (hHeld.2.2.2.1))).trans (hHeld.2.2.2.1)
           have HS4_ := (hb.cell (World.block_lt_of_cell? _ _ (hHeld.2.2.2.2.1))).trans (hHeld.2.2.2.2.1)
           have HS5_ := (hb.cell (World.block_lt_of_cell? _ _ (hHeld.2.2.2.2.2))).trans (hHeld.2.2.2.2.2)
           have n0_ := aM (Kd.N_below (Kd.N_elderB (nU HO543.out) gb559 (Nat.le_of_eq hg.symm)) hb)
           have n1_ := aM (Kd.N_below (Kd.N_elderB (nU HO546.out) gb559 (Nat.le_of_eq hg.symm)) hb)
           have n2_ := aM (Kd.N_below (Kd.N_elderB (nU HO550.out) gb559 (Nat.le_of_eq hg.symm)) hb)
           have n3_ := aM (vB (vE (vU HLq0.out) gb559 (Nat.le_of_eq hg.symm)) hb)
           have n4_ := aM (vB (vE (vU HLq1.out) gb559 (Nat.le_of_eq hg.symm)) hb)
           have n5_ := aM (Kd.N_below (Kd.N_elderB (nU HO554.out) gb559 (Nat.le_of_eq hg.symm)) hb)
           have n6_ := aM (Kd.R_below (rU HO557.out) hb)
           have n7_ := aM (kB (g := gb536) (o := .cells #[.slice A0_0 l0_0.length c0_0, .slice A0_1 l0_1.length c0_1] 25 (0, 0)) (bU BK536.out) hb)
           have n8_ := aM (kB (g := gb537) (o := .cells #[.int .i64 a1_0, .slice A1_1 l1_1.length c1_1, .slice A1_2 l1_2.length c1_2, .bool a1_3] 39 (0, 0)) (bU BK537.out) hb)
           have n9_ := aM (Kd.C_below (cU HRq0.out) hb)
           have n10_ := aM (Kd.C_below (cU HRq1.out) hb)
           have n11_ := aM (below_step (by repeat (first | (with_reducible first | exact HB.out | apply bA | apply bN | apply bD | refine bS ?_ GE536.out | refine bS ?_ GE537.out) | exact HB.out)) hb)
           have n12_ := aM (hbox)
           have n13_ := aM ((by rw [hg]; exact (below_size (by repeat (first | (with_reducible first | exact HB.out | apply bA | apply bN | apply bD | refine bS ?_ GE536.out | refine bS ?_ GE537.out) | exact HB.out))) : w.heap.size ≤ gb559))
           have n14_ := aM ((by rw [hg]; exact (below_size (by repeat (first | (with_reducible first | exact HB.out | apply bA | apply bN | apply bD | refine bS ?_ GE536.out | refine bS ?_ GE537.out) | exact HB.out))) : w.heap.size ≤ gb559))
           have n15_ := aM ((by rw [hg]; exact Nat.ne_of_lt (blk_lt (g := gb536) (o := .cells #[.slice A0_0 l0_0.length c0_0, .slice A0_1 l0_1.length c0_1] 25 (0, 0)) (bU BK536.out)) : gb536 ≠ gb559))
           have n16_ := aM ((by rw [hg]; exact Nat.ne_of_gt (blk_lt (g := gb536) (o := .cells #[.slice A0_0 l0_0.length c0_0, .slice A0_1 l0_1.length c0_1] 25 (0, 0)) (bU BK536.out)) : gb559 ≠ gb536))
           have n17_ := aM ((by rw [hg]; exact Nat.ne_of_lt (blk_lt (g := gb537) (o := .cells #[.int .i64 a1_0, .slice A1_1 l1_1.length c1_1, .slice A1_2 l1_2.length c1_2, .bool a1_3] 39 (0, 0)) (bU BK537.out)) : gb537 ≠ gb559))
           have n18_ := aM ((by rw [hg]; exact Nat.ne_of_gt (blk_lt (g := gb537) (o := .cells #[.int .i64 a1_0, .slice A1_1 l1_1.length c1_1, .slice A1_2 l1_2.length c1_2, .bool a1_3] 39 (0, 0)) (bU BK537.out)) : gb559 ≠ gb537))
           clear HO543
           clear HO546
           clear HO550
           clear HLq0
           clear HLq1
           clear HO554
           clear HO557
           clear BK536
           clear BK537
           clear HRq0
           clear HRq1
           clear HB
           have HO543 := n0_
           have HO546 := n1_
           have HO550 := n2_
           have HLq0 := n3_
           have HLq1 := n4_
           have HO554 := n5_
           have HO557 := n6_
           have BK536 := n7_
           have BK537 := n8_
           have HRq0 := n9_
           have HRq1 := n10_
           have HB := n11_
           have BK559 := n12_
           have GW559 := n13_
           have GE559 := n14_
           have NBq0 := n15_
           have NBq2 := n16_
           have NBq1 := n17_
           have NBq3 := n18_
           clear n0_ n1_ n2_ n3_ n4_ n5_ n6_ n7_ n8_ n9_ n10_ n11_ n12_ n13_ n14_ n15_ n16_ n17_ n18_
           clear hb hbox hg
           refine hK.out _ _ ⟨(kC BK536.out 0).trans rfl, (kC BK536.out 1).trans rfl, HS2_, HS3_, HS4_, HS5_⟩ (fun hHeld => ?_)
           clear hK K
           refine norm_ (a' := ?_) ?_ ?_
           rotate_left
           ·
            show Act.put _ (some 11) _ = _
            simp only [Act.put, List.setIfInBounds_toArray, List.set_cons_zero, List.set_cons_succ, i64_w, i32_w]
            rfl
           exact norm_ (by simp only [putAll, Act.put, List.setIfInBounds_toArray, List.set_cons_zero, List.set_cons_succ]) (hCont (v553, v556, gb559) _ ⟨hHeld, (by (with_reducible repeat (first | apply Kd.V_alloc | apply Kd.V_drewN | apply Kd.V_drew)); exact Kd.V_mono HLq0.out (fun _ hk => by (repeat (cases ‹_ ∧ _›)); (repeat' apply And.intro) <;> assumption)), (by (with_reducible repeat (first | apply Kd.V_alloc | apply Kd.V_drewN | apply Kd.V_drew)); exact Kd.V_mono HLq1.out (fun _ hk => by (repeat (cases ‹_ ∧ _›)); (repeat' apply And.intro) <;> assumption)), (by (with_reducible repeat (first | apply Kd.N_alloc | apply Kd.N_drewN | apply Kd.N_drew)); exact Kd.N_mono HO543.out (fun _ hk => by (repeat (cases ‹_ ∧ _›)); (repeat' apply And.intro) <;> assumption)), (by (with_reducible repeat (first | apply Kd.N_alloc | apply Kd.N_drewN | apply Kd.N_drew)); exact Kd.N_mono HO546.out (fun _ hk => by (repeat (cases ‹_ ∧ _›)); (repeat' apply And.intro) <;> assumption)), (by (with_reducible repeat (first | apply Kd.N_alloc | apply Kd.N_drewN | apply Kd.N_drew)); exact Kd.N_mono HO550.out (fun _ hk => by (repeat (cases ‹_ ∧ _›)); (repeat' apply And.intro) <;> assumption)), (by (with_reducible repeat (first | apply Kd.N_alloc | apply Kd.N_drewN | apply Kd.N_drew)); exact Kd.N_mono HO554.out (fun _ hk => by (repeat (cases ‹_ ∧ _›)); (repeat' apply And.intro) <;> assumption)), (rU HO557.out), (bU BK536.out), (bU BK537.out), (bU BK559.out), GW559.out, GE559.out, NBq0.out, NBq2.out, NBq1.out, NBq3.out, (by repeat (first | (with_reducible first | exact HB.out | apply bA | apply bN | apply bD | refine bS ?_ GE536.out | refine bS ?_ GE537.out | refine bS ?_ GE559.out) | exact HB.out))⟩)
          ·
           skip
           refine box_step ?hg (N := 11) ?hd (cs := #[.slice none 0 0, .slice none 0 0]) (t := 25) ?hr ?_; (case hd => rfl); (case hg => rfl); (case hr => first | (go_simp; done) | (go_simp; rfl))
           intro gb559 hg w105 hbox hb
           have HS2_ := (hb.cell (World.block_lt_of_cell? _ _ (hHeld.2.2.1))).trans (hHeld.2.2.1)
           have HS3_ := (hb.cell (World.block_lt_of_cell? _ _ (hHeld.2.2.2.1))).trans (hHeld.2.2.2.1)
           have HS4_ := (hb.cell (World.block_lt_of_cell? _ _ (hHeld.2.2.2.2.1))).trans (hHeld.2.2.2.2.1)
           have HS5_ := (hb.cell (World.block_lt_of_cell? _ _ (hHeld.2.2.2.2.2))).trans (hHeld.2.2.2.2.2)
           have n0_ := aM (Kd.N_below (Kd.N_elderB (nU HO543.out) gb559 (Nat.le_of_eq hg.symm)) hb)
           have n1_ := aM (Kd.N_below (Kd.N_elderB (nU HO546.out) gb559 (Nat.le_of_eq hg.symm)) hb)
           have n2_ := aM (Kd.N_below (Kd.N_elderB (nU HO550.out) gb559 (Nat.le_of_eq hg.symm)) hb)
           have n3_ := aM (vB (vE (vU HLq0.out) gb559 (Nat.le_of_eq hg.symm)) hb)
           have n4_ := aM (vB (vE (vU HLq1.out) gb559 (Nat.le_of_eq hg.symm)) hb)
           have n5_ := aM (kB (g := gb536) (o := .cells #[.slice A0_0 l0_0.length c0_0, .slice A0_1 l0_1.length c0_1] 25 (0, 0)) (bU BK536.out) hb)
           have n6_ := aM (kB (g := gb537) (o := .cells #[.int .i64 a1_0, .slice A1_1 l1_1.length c1_1, .slice A1_2 l1_2.length c1_2, .bool a1_3] 39 (0, 0)) (bU BK537.out) hb)
           have n7_ := aM (Kd.C_below (cU HRq0.out) hb)
           have n8_ := aM (Kd.C_below (cU HRq1.out) hb)
           have n9_ := aM (below_step (by repeat (first | (with_reducible first | exact HB.out | apply bA | apply bN | apply bD | refine bS ?_ GE536.out | refine bS ?_ GE537.out) | exact HB.out)) hb)
           have n10_ := aM (hbox)
           have n11_ := aM ((by rw [hg]; exact (below_size (by repeat (first | (with_reducible first | exact HB.out | apply bA | apply bN | apply bD | refine bS ?_ GE536.out | refine bS ?_ GE537.out) | exact HB.out))) : w.heap.size ≤ gb559))
           have n12_ := aM ((by rw [hg]; exact (below_size (by repeat (first | (with_reducible first | exact HB.out | apply bA | apply bN | apply bD | refine bS ?_ GE536.out | refine bS ?_ GE537.out) | exact HB.out))) : w.heap.size ≤ gb559))
           have n13_ := aM ((by rw [hg]; exact Nat.ne_of_lt (blk_lt (g := gb536) (o := .cells #[.slice A0_0 l0_0.length c0_0, .slice A0_1 l0_1.length c0_1] 25 (0, 0)) (bU BK536.out)) : gb536 ≠ gb559))
           have n14_ := aM ((by rw [hg]; exact Nat.ne_of_gt (blk_lt (g := gb536) (o := .cells #[.slice A0_0 l0_0.length c0_0, .slice A0_1 l0_1.length c0_1] 25 (0, 0)) (bU BK536.out)) : gb559 ≠ gb536))
           have n15_ := aM ((by rw [hg]; exact Nat.ne_of_lt (blk_lt (g := gb537) (o := .cells #[.int .i64 a1_0, .slice A1_1 l1_1.length c1_1, .slice A1_2 l1_2.length c1_2, .bool a1_3] 39 (0, 0)) (bU BK537.out)) : gb537 ≠ gb559))
           have n16_ := aM ((by rw [hg]; exact Nat.ne_of_gt (blk_lt (g := gb537) (o := .cells #[.int .i64 a1_0, .slice A1_1 l1_1.length c1_1, .slice A1_2 l1_2.length c1_2, .bool a1_3] 39 (0, 0)) (bU BK537.out)) : gb559 ≠ gb537))
           clear HO543
           clear HO546
           clear HO550
           clear HLq0
           clear HLq1
           clear BK536
           clear BK537
           clear HRq0
           clear HRq1
           clear HB
           have HO543 := n0_
           have HO546 := n1_
           have HO550 := n2_
           have HLq0 := n3_
           have HLq1 := n4_
           have BK536 := n5_
           have BK537 := n6_
           have HRq0 := n7_
           have HRq1 := n8_
           have HB := n9_
           have BK559 := n10_
           have GW559 := n11_
           have GE559 := n12_
           have NBq0 := n13_
           have NBq2 := n14_
           have NBq1 := n15_
           have NBq3 := n16_
           clear n0_ n1_ n2_ n3_ n4_ n5_ n6_ n7_ n8_ n9_ n10_ n11_ n12_ n13_ n14_ n15_ n16_
           clear hb hbox hg
           refine hK.out _ _ ⟨(kC BK536.out 0).trans rfl, (kC BK536.out 1).trans rfl, HS2_, HS3_, HS4_, HS5_⟩ (fun hHeld => ?_)
           clear hK K
           refine norm_ (a' := ?_) ?_ ?_
           rotate_left
           ·
            show Act.put _ (some 11) _ = _
            simp only [Act.put, List.setIfInBounds_toArray, List.set_cons_zero, List.set_cons_succ, i64_w, i32_w]
            rfl
           refine one_ (i := 4) (N := some 60) #[T_,T_,T_,T_,T_,F_,F_,F_,T_,F_,F_] rfl rfl (one_of HT_.out (by kernel_rfl)) (by decide) (fun K hK => ?_)
           refine goes_ Try.func10 (by kernel_rfl) rfl #[.agg #[.slice A0_0 l0_0.length c0_0, .slice A0_1 l0_1.length c0_1], .agg #[.int .i64 ((rd_T28 t548 0).f0), .slice A551_1 ((rd_T28 t548 0).f1).length c551_1, .bool ((rd_T28 t548 0).f2), .slice A551_3 ((rd_T28 t548 0).f3).length c551_3]] (by rfl) rfl rfl (by (try simp only [List.map_toArray, List.map_cons, List.map_nil]); first | done | rfl | (simp only [List.length_drop, List.length_take]; rfl)) ?_
           with_reducible refine (delta_Put.calls kj4 (fun k_ => k_ < w.heap.size) _ _ l0_0 _ _ l0_1 ((rd_T28 t548 0).f0) _ _ ((rd_T28 t548 0).f1) ((rd_T28 t548 0).f2) _ _ ((rd_T28 t548 0).f3) t552 t555 t558 _ ?side1 ?side2 ?side3 ?side4 ?side5 ?side6 ?side7 A61.out).mono ?_
           (case side1 => exact Kd.V_mk HC0_0.out (Kd.F_below (Kd.C_F k28_heap HR0_0.out) (by repeat (first | (with_reducible first | exact HB.out | apply bA | apply bN | apply bD | refine bS ?_ GE536.out | refine bS ?_ GE537.out | refine bS ?_ GE559.out) | exact HB.out))))
           (case side2 => repeat (first | exact (Kd.C_below HR0_1.out HB.out) | (with_reducible refine Kd.C_alloc ?_ _) | (with_reducible refine Kd.C_drewN ?_ _) | (with_reducible refine Kd.C_drew ?_)))
           (case side3 => exact HC0_1.out)
           (case side4 => repeat (first | exact (cU HRq0.out) | (with_reducible refine Kd.C_alloc ?_ _) | (with_reducible refine Kd.C_drewN ?_ _) | (with_reducible refine Kd.C_drew ?_)))
           (case side5 => exact HCq0.out)
           (case side6 => repeat (first | exact (cU HRq1.out) | (with_reducible refine Kd.C_alloc ?_ _) | (with_reducible refine Kd.C_drewN ?_ _) | (with_reducible refine Kd.C_drew ?_)))
           (case side7 => exact HCq1.out)
           rintro e w106 ⟨v553, v556, rfl, ho0, ho1, hb⟩
           have HS2_ := (hb.cell (World.block_lt_of_cell? _ _ (hHeld.2.2.1))).trans (hHeld.2.2.1)
           have HS3_ := (hb.cell (World.block_lt_of_cell? _ _ (hHeld.2.2.2.1))).trans (hHeld.2.2.2.1)
           have HS4_ := (hb.cell (World.block_lt_of_cell? _ _ (hHeld.2.2.2.2.1))).trans (hHeld.2.2.2.2.1)
           have HS5_ := (hb.cell (World.block_lt_of_cell? _ _ (hHeld.2.2.2.2.2))).trans (hHeld.2.2.2.2.2)
           refine ⟨_, rfl, ?_⟩
           have n0_ := aM (Kd.N_mono (Kd.N_told (Kd.N_told (Kd.N_old (nU HO543.out) hb) (Kd.N_base ho0)) (Kd.R_base ho1)) (fun _ h_ => h_.1))
           have n1_ := aM (Kd.N_mono (Kd.N_told (Kd.N_told (Kd.N_old (nU HO546.out) hb) (Kd.N_base ho0)) (Kd.R_base ho1)) (fun _ h_ => h_.1))
           have n2_ := aM (Kd.N_mono (Kd.N_told (Kd.N_told (Kd.N_old (nU HO550.out) hb) (Kd.N_base ho0)) (Kd.R_base ho1)) (fun _ h_ => h_.1))
           have n3_ := aM (Kd.V_mono (Kd.V_told (Kd.V_told (Kd.V_old (vU HLq0.out) hb) (Kd.N_base ho0)) (Kd.R_base ho1)) (fun _ h_ => h_.1))
           have n4_ := aM (Kd.V_mono (Kd.V_told (Kd.V_told (Kd.V_old (vU HLq1.out) hb) (Kd.N_base ho0)) (Kd.R_base ho1)) (fun _ h_ => h_.1))
           have n5_ := aM (Kd.N_lower (Kd.N_mono (ok' := fun k_ => some k_ ≠ (v556 : Value).ownBlock ∧ some k_ ≠ (.slice Ao98 t541.length co98 : Value).ownBlock ∧ some k_ ≠ (.slice Ao100 t544.length co100 : Value).ownBlock ∧ some k_ ≠ (.slice (some ad551) t548.length co103 : Value).ownBlock ∧ k_ ≠ gb536 ∧ k_ ≠ gb537 ∧ k_ ≠ gb559) ho0 (fun k_ hk_ => ⟨hk_.2, Or.elim hk_.1 (fun hs_ => fun e_ => Nat.not_le.2 hs_ (Kd.N_base HO543.out k_ e_.symm)) (fun hn_ => (Kd.fresh' (Kd.N_lt (nU HO543.out)) k_ hn_)), Or.elim hk_.1 (fun hs_ => fun e_ => Nat.not_le.2 hs_ (Kd.N_base HO546.out k_ e_.symm)) (fun hn_ => (Kd.fresh' (Kd.N_lt (nU HO546.out)) k_ hn_)), Or.elim hk_.1 (fun hs_ => fun e_ => Nat.not_le.2 hs_ (Kd.N_base HO550.out k_ e_.symm)) (fun hn_ => (Kd.fresh' (Kd.N_lt (nU HO550.out)) k_ hn_)), Or.elim hk_.1 (fun hs_ => fun e_ => Nat.not_le.2 hs_ (by rw [e_]; exact GW536.out)) (fun hn_ => (Kd.freshB (g := gb536) (o := .cells #[.slice A0_0 l0_0.length c0_0, .slice A0_1 l0_1.length c0_1] 25 (0, 0)) (bU BK536.out) k_ hn_)), Or.elim hk_.1 (fun hs_ => fun e_ => Nat.not_le.2 hs_ (by rw [e_]; exact GW537.out)) (fun hn_ => (Kd.freshB (g := gb537) (o := .cells #[.int .i64 a1_0, .slice A1_1 l1_1.length c1_1, .slice A1_2 l1_2.length c1_2, .bool a1_3] 39 (0, 0)) (bU BK537.out) k_ hn_)), Or.elim hk_.1 (fun hs_ => fun e_ => Nat.not_le.2 hs_ (by rw [e_]; exact GW559.out)) (fun hn_ => (Kd.freshB (g := gb559) (o := .cells #[.slice none 0 0, .slice none 0 0] 25 (0, 0)) (bU BK559.out) k_ hn_))⟩)) (below_size (by repeat (first | (with_reducible first | exact HB.out | apply bA | apply bN | apply bD | refine bS ?_ GE536.out | refine bS ?_ GE537.out | refine bS ?_ GE559.out) | exact HB.out))))
           have n6_ := aM (Kd.R_lower (Kd.R_mono (ok' := fun k_ => True) ho1 (fun _ hk_ => trivial)) (below_size (by repeat (first | (with_reducible first | exact HB.out | apply bA | apply bN | apply bD | refine bS ?_ GE536.out | refine bS ?_ GE537.out | refine bS ?_ GE559.out) | exact HB.out))))
           have n7_ := aM (kB (g := gb536) (o := .cells #[.slice A0_0 l0_0.length c0_0, .slice A0_1 l0_1.length c0_1] 25 (0, 0)) (bU BK536.out) hb)
           have n8_ := aM (kB (g := gb537) (o := .cells #[.int .i64 a1_0, .slice A1_1 l1_1.length c1_1, .slice A1_2 l1_2.length c1_2, .bool a1_3] 39 (0, 0)) (bU BK537.out) hb)
           have n9_ := aM (Kd.C_below (cU HRq0.out) hb)
           have n10_ := aM (Kd.C_below (cU HRq1.out) hb)
           have n11_ := aM (kB (g := gb559) (o := .cells #[.slice none 0 0, .slice none 0 0] 25 (0, 0)) (bU BK559.out) hb)
           have n12_ := aM (below_step (by repeat (first | (with_reducible first | exact HB.out | apply bA | apply bN | apply bD | refine bS ?_ GE536.out | refine bS ?_ GE537.out | refine bS ?_ GE559.out) | exact HB.out)) hb)
           clear HO543
           clear HO546
           clear HO550
           clear HLq0
           clear HLq1
           clear BK536
           clear BK537
           clear HRq0
           clear HRq1
           clear BK559
           clear HB
           have HO543 := n0_
           have HO546 := n1_
           have HO550 := n2_
           have HLq0 := n3_
           have HLq1 := n4_
           have HO554 := n5_
           have HO557 := n6_
           have BK536 := n7_
           have BK537 := n8_
           have HRq0 := n9_
           have HRq1 := n10_
           have BK559 := n11_
           have HB := n12_
           clear n0_ n1_ n2_ n3_ n4_ n5_ n6_ n7_ n8_ n9_ n10_ n11_ n12_
           (try clear hb)
           (try clear hb2)
           (try clear hk)
           (try clear hi)
           (try clear ho0)
           (try clear ho1)
           refine hK.out _ _ ⟨(kC BK536.out 0).trans rfl, (kC BK536.out 1).trans rfl, HS2_, HS3_, HS4_, HS5_⟩ (fun hHeld => ?_)
           clear hK K
           refine norm_ (a' := ?_) ?_ ?_
           rotate_left
           ·
            show Act.put _ (some 60) _ = _
            simp only [Act.put, List.setIfInBounds_toArray, List.set_cons_zero, List.set_cons_succ, i64_w, i32_w]
            rfl
           refine pure_ (i := 5) (N := some 55) (v := ?_) (a' := ?_) #[T_,T_,T_,T_,T_,T_,F_,F_,T_,F_,F_] rfl rfl (any_of HT_.out (by kernel_rfl)) (fun _ _ _ h => h) (Or.inl ⟨by rfl, ?_⟩) ?_ ?_
           rotate_left
           ·
            intro w'
            go_simp
            with_reducible rfl
           rotate_left
           ·
            simp only [Act.put, List.setIfInBounds_toArray, List.set_cons_zero, List.set_cons_succ, i64_w, i32_w]
            rfl
           refine pure_ (i := 6) (N := some 61) (v := ?_) (a' := ?_) #[T_,T_,T_,T_,T_,T_,T_,F_,T_,F_,F_] rfl rfl (any_of HT_.out (by kernel_rfl)) (fun _ _ _ h => h) (Or.inl ⟨by rfl, ?_⟩) ?_ ?_
           rotate_left
           ·
            intro w'
            go_simp
            with_reducible rfl
           rotate_left
           ·
            simp only [Act.put, List.setIfInBounds_toArray, List.set_cons_zero, List.set_cons_succ, i64_w, i32_w]
            rfl
           refine pure_ (i := 7) (N := some 62) (v := ?_) (a' := ?_) #[T_,T_,T_,T_,T_,T_,T_,T_,T_,F_,F_] rfl rfl (any_of HT_.out (by kernel_rfl)) (fun _ _ _ h => h) (Or.inl ⟨by rfl, ?_⟩) ?_ ?_
           rotate_left
           ·
            intro w'
            go_simp
            with_reducible rfl
           rotate_left
           ·
            simp only [Act.put, List.setIfInBounds_toArray, List.set_cons_zero, List.set_cons_succ, i64_w, i32_w]
            rfl
           exact norm_ (by simp only [putAll, Act.put, List.setIfInBounds_toArray, List.set_cons_zero, List.set_cons_succ]) (hCont (v553, v556, gb559) _ ⟨hHeld, (by (with_reducible repeat (first | apply Kd.V_alloc | apply Kd.V_drewN | apply Kd.V_drew)); exact Kd.V_mono HLq0.out (fun _ hk => by (repeat (cases ‹_ ∧ _›)); (repeat' apply And.intro) <;> assumption)), (by (with_reducible repeat (first | apply Kd.V_alloc | apply Kd.V_drewN | apply Kd.V_drew)); exact Kd.V_mono HLq1.out (fun _ hk => by (repeat (cases ‹_ ∧ _›)); (repeat' apply And.intro) <;> assumption)), (by (with_reducible repeat (first | apply Kd.N_alloc | apply Kd.N_drewN | apply Kd.N_drew)); exact Kd.N_mono HO543.out (fun _ hk => by (repeat (cases ‹_ ∧ _›)); (repeat' apply And.intro) <;> assumption)), (by (with_reducible repeat (first | apply Kd.N_alloc | apply Kd.N_drewN | apply Kd.N_drew)); exact Kd.N_mono HO546.out (fun _ hk => by (repeat (cases ‹_ ∧ _›)); (repeat' apply And.intro) <;> assumption)), (by (with_reducible repeat (first | apply Kd.N_alloc | apply Kd.N_drewN | apply Kd.N_drew)); exact Kd.N_mono HO550.out (fun _ hk => by (repeat (cases ‹_ ∧ _›)); (repeat' apply And.intro) <;> assumption)), (by (with_reducible repeat (first | apply Kd.N_alloc | apply Kd.N_drewN | apply Kd.N_drew)); exact Kd.N_mono HO554.out (fun _ hk => by (repeat (cases ‹_ ∧ _›)); (repeat' apply And.intro) <;> assumption)), (rU HO557.out), (bU BK536.out), (bU BK537.out), (bU BK559.out), GW559.out, GE559.out, NBq0.out, NBq2.out, NBq1.out, NBq3.out, (by repeat (first | (with_reducible first | exact HB.out | apply bA | apply bN | apply bD | refine bS ?_ GE536.out | refine bS ?_ GE537.out | refine bS ?_ GE559.out) | exact HB.out))⟩)
         rintro ⟨v553, v556, gb559⟩ w107 ⟨hS_, h0_, h1_, h2_, h3_, h4_, h5_, h6_, h7_, h8_, h9_, h10_, h11_, h12_, h13_, h14_, h15_, h16_⟩
         have n0_ : Aside0 (Kd.V (Kd.int .u8) 5 w107 w.heap.size (fun k_ => some k_ ≠ (.slice Ao98 t541.length co98 : Value).ownBlock ∧ some k_ ≠ (.slice Ao100 t544.length co100 : Value).ownBlock ∧ some k_ ≠ (.slice (some ad551) t548.length co103 : Value).ownBlock ∧ some k_ ≠ (v553 : Value).ownBlock ∧ some k_ ≠ (v556 : Value).ownBlock ∧ k_ ≠ gb536 ∧ k_ ≠ gb537 ∧ k_ ≠ gb559) (.slice A551_1 ((rd_T28 t548 0).f1).length c551_1) ((rd_T28 t548 0).f1)) := ⟨h0_⟩
         have n1_ : Aside0 (Kd.V (Kd.int .u8) 5 w107 w.heap.size (fun k_ => some k_ ≠ (.slice Ao98 t541.length co98 : Value).ownBlock ∧ some k_ ≠ (.slice Ao100 t544.length co100 : Value).ownBlock ∧ some k_ ≠ (.slice (some ad551) t548.length co103 : Value).ownBlock ∧ some k_ ≠ (v553 : Value).ownBlock ∧ some k_ ≠ (v556 : Value).ownBlock ∧ k_ ≠ gb536 ∧ k_ ≠ gb537 ∧ k_ ≠ gb559) (.slice A551_3 ((rd_T28 t548 0).f3).length c551_3) ((rd_T28 t548 0).f3)) := ⟨h1_⟩
         have n2_ : Aside0 (Kd.N k53 53 w107 w.heap.size (fun k_ => some k_ ≠ (.slice Ao100 t544.length co100 : Value).ownBlock ∧ some k_ ≠ (.slice (some ad551) t548.length co103 : Value).ownBlock ∧ some k_ ≠ (v553 : Value).ownBlock ∧ some k_ ≠ (v556 : Value).ownBlock ∧ k_ ≠ gb536 ∧ k_ ≠ gb537 ∧ k_ ≠ gb559) (.slice Ao98 t541.length co98) t541) := ⟨h2_⟩
         have n3_ : Aside0 (Kd.N k53 53 w107 w.heap.size (fun k_ => some k_ ≠ (.slice (some ad551) t548.length co103 : Value).ownBlock ∧ some k_ ≠ (v553 : Value).ownBlock ∧ some k_ ≠ (v556 : Value).ownBlock ∧ k_ ≠ gb536 ∧ k_ ≠ gb537 ∧ k_ ≠ gb559) (.slice Ao100 t544.length co100) t544) := ⟨h3_⟩
         have n4_ : Aside0 (Kd.N k28 28 w107 w.heap.size (fun k_ => some k_ ≠ (.slice Ao98 t541.length co98 : Value).ownBlock ∧ some k_ ≠ (.slice Ao100 t544.length co100 : Value).ownBlock ∧ some k_ ≠ (v553 : Value).ownBlock ∧ some k_ ≠ (v556 : Value).ownBlock ∧ k_ ≠ gb536 ∧ k_ ≠ gb537 ∧ k_ ≠ gb559) (.slice (some ad551) t548.length co103) t548) := ⟨h4_⟩
         have n5_ : Aside0 (Kd.N k28 28 w107 w.heap.size (fun k_ => some k_ ≠ (.slice Ao98 t541.length co98 : Value).ownBlock ∧ some k_ ≠ (.slice Ao100 t544.length co100 : Value).ownBlock ∧ some k_ ≠ (.slice (some ad551) t548.length co103 : Value).ownBlock ∧ some k_ ≠ (v556 : Value).ownBlock ∧ k_ ≠ gb536 ∧ k_ ≠ gb537 ∧ k_ ≠ gb559) v553 t552) := ⟨h5_⟩
         have n6_ : Aside0 (Kd.R (Kd.int .i64) 3 w107 w.heap.size (fun _ => True) v556 t555) := ⟨h6_⟩
         have n7_ : Aside0 (w107.heap[gb536]? = some (.cells #[.slice A0_0 l0_0.length c0_0, .slice A0_1 l0_1.length c0_1] 25 (0, 0))) := ⟨h7_⟩
         have n8_ : Aside0 (w107.heap[gb537]? = some (.cells #[.int .i64 a1_0, .slice A1_1 l1_1.length c1_1, .slice A1_2 l1_2.length c1_2, .bool a1_3] 39 (0, 0))) := ⟨h8_⟩
         have n9_ : Aside0 (w107.heap[gb559]? = some (.cells #[.slice none 0 0, .slice none 0 0] 25 (0, 0))) := ⟨h9_⟩
         have n10_ : Aside0 (w.heap.size ≤ gb559) := ⟨h10_⟩
         have n11_ : Aside0 (w.heap.size ≤ gb559) := ⟨h11_⟩
         have n12_ : Aside0 (gb536 ≠ gb559) := ⟨h12_⟩
         have n13_ : Aside0 (gb559 ≠ gb536) := ⟨h13_⟩
         have n14_ : Aside0 (gb537 ≠ gb559) := ⟨h14_⟩
         have n15_ : Aside0 (gb559 ≠ gb537) := ⟨h15_⟩
         have n16_ : Aside0 (Below w.heap.size w w107) := ⟨h16_⟩
         clear HO543
         clear HO546
         clear HO550
         clear BK536
         clear BK537
         clear HB
         clear h0_ h1_ h2_ h3_ h4_ h5_ h6_ h7_ h8_ h9_ h10_ h11_ h12_ h13_ h14_ h15_ h16_
         have HLq0 := n0_
         have HLq1 := n1_
         have HO543 := n2_
         have HO546 := n3_
         have HO550 := n4_
         have HO554 := n5_
         have HO557 := n6_
         have BK536 := n7_
         have BK537 := n8_
         have BK559 := n9_
         have GW559 := n10_
         have GE559 := n11_
         have NBq0 := n12_
         have NBq2 := n13_
         have NBq1 := n14_
         have NBq3 := n15_
         have HB := n16_
         clear n0_ n1_ n2_ n3_ n4_ n5_ n6_ n7_ n8_ n9_ n10_ n11_ n12_ n13_ n14_ n15_ n16_
         have hHeld : w107.cell? ⟨gb536, 0, none⟩ = some (.slice A0_0 l0_0.length c0_0) ∧ w107.cell? ⟨gb536, 1, none⟩ = some (.slice A0_1 l0_1.length c0_1) ∧ w107.cell? ad551 = some (.int .i64 ((rd_T28 t548 0).f0)) ∧ w107.cell? ⟨ad551.block, ad551.off + 1, none⟩ = some (.slice A551_1 ((rd_T28 t548 0).f1).length c551_1) ∧ w107.cell? ⟨ad551.block, ad551.off + 2, none⟩ = some (.bool ((rd_T28 t548 0).f2)) ∧ w107.cell? ⟨ad551.block, ad551.off + 3, none⟩ = some (.slice A551_3 ((rd_T28 t548 0).f3).length c551_3) := hS_
         obtain ⟨Ao108, co108, eo108⟩ := Kd.N_slice HO554.out
         (first | subst eo108 | (injection eo108 with f1_ f2_ f3_; have f4_ := f1_.symm; have f5_ := f3_.symm; clear f1_ f2_ f3_; subst f4_; subst f5_))
         obtain ⟨Ao110, co110, eo110⟩ := Kd.R_slice HO557.out
         (first | subst eo110 | (injection eo110 with f1_ f2_ f3_; have f4_ := f1_.symm; have f5_ := f3_.symm; clear f1_ f2_ f3_; subst f4_; subst f5_))
         refine norm_ (a' := ?_) ?_ ?_
         rotate_left
         ·
          simp only [putAll, Act.put, List.setIfInBounds_toArray, List.set_cons_zero, List.set_cons_succ]
          rfl
         refine one_ (i := 9) (N := none) #[T_,T_,T_,T_,T_,T_,T_,T_,T_,T_,F_] rfl rfl (one_of HT_.out (by kernel_rfl)) (by decide) (fun K hK => ?_)
         have hs109 : w107.cell? ⟨gb559, 0, none⟩ = some (.slice none 0 0) := (kC BK559.out 0).trans rfl
         have hfs109 := kF BK559.out 0
         have hns109_0 := NBq0.out
         have hns109_1 := NBq1.out
         have hms109_0 := NBq2.out
         have hms109_1 := NBq3.out
         have hs111 : w107.cell? ⟨gb559, 1, none⟩ = some (.slice none 0 0) := (kC BK559.out 1).trans rfl
         have hfs111 := kF BK559.out 1
         have hns111_0 := NBq0.out
         have hns111_1 := NBq1.out
         have hms111_0 := NBq2.out
         have hms111_1 := NBq3.out
         refine skip_ (w1 := ?_) (by rfl) rfl ?_ ?_
         rotate_left
         ·
          go_simp
          rfl
         refine hK.out _ _ ⟨((cell_far (p := ⟨gb559, _, none⟩) NBq0.out _).trans (((cell_far (p := ⟨gb559, _, none⟩) NBq0.out _).trans (hHeld.1)))), ((cell_far (p := ⟨gb559, _, none⟩) NBq0.out _).trans (((cell_far (p := ⟨gb559, _, none⟩) NBq0.out _).trans (hHeld.2.1)))), ((cell_far (p := ⟨gb559, _, none⟩) (by first | exact Kd.own_blk (Kd.N_away HO550.out (fun _ hk => hk.2.2.2.2.2.2)) | (rw [add_block]; exact Kd.own_blk (Kd.N_away HO550.out (fun _ hk => hk.2.2.2.2.2.2))) | (show (Addr.add _ _).block ≠ _; rw [add_block]; exact Kd.own_blk (Kd.N_away HO550.out (fun _ hk => hk.2.2.2.2.2.2))) | (dsimp only; exact Kd.own_blk (Kd.N_away HO550.out (fun _ hk => hk.2.2.2.2.2.2)))) _).trans (((cell_far (p := ⟨gb559, _, none⟩) (by first | exact Kd.own_blk (Kd.N_away HO550.out (fun _ hk => hk.2.2.2.2.2.2)) | (rw [add_block]; exact Kd.own_blk (Kd.N_away HO550.out (fun _ hk => hk.2.2.2.2.2.2))) | (show (Addr.add _ _).block ≠ _; rw [add_block]; exact Kd.own_blk (Kd.N_away HO550.out (fun _ hk => hk.2.2.2.2.2.2))) | (dsimp only; exact Kd.own_blk (Kd.N_away HO550.out (fun _ hk => hk.2.2.2.2.2.2)))) _).trans (hHeld.2.2.1)))), ((cell_far (p := ⟨gb559, _, none⟩) (by first | exact Kd.own_blk (Kd.N_away HO550.out (fun _ hk => hk.2.2.2.2.2.2)) | (rw [add_block]; exact Kd.own_blk (Kd.N_away HO550.out (fun _ hk => hk.2.2.2.2.2.2))) | (show (Addr.add _ _).block ≠ _; rw [add_block]; exact Kd.own_blk (Kd.N_away HO550.out (fun _ hk => hk.2.2.2.2.2.2))) | (dsimp only; exact Kd.own_blk (Kd.N_away HO550.out (fun _ hk => hk.2.2.2.2.2.2)))) _).trans (((cell_far (p := ⟨gb559, _, none⟩) (by first | exact Kd.own_blk (Kd.N_away HO550.out (fun _ hk => hk.2.2.2.2.2.2)) | (rw [add_block]; exact Kd.own_blk (Kd.N_away HO550.out (fun _ hk => hk.2.2.2.2.2.2))) | (show (Addr.add _ _).block ≠ _; rw [add_block]; exact Kd.own_blk (Kd.N_away HO550.out (fun _ hk => hk.2.2.2.2.2.2))) | (dsimp only; exact Kd.own_blk (Kd.N_away HO550.out (fun _ hk => hk.2.2.2.2.2.2)))) _).trans (hHeld.2.2.2.1)))), ((cell_far (p := ⟨gb559, _, none⟩) (by first | exact Kd.own_blk (Kd.N_away HO550.out (fun _ hk => hk.2.2.2.2.2.2)) | (rw [add_block]; exact Kd.own_blk (Kd.N_away HO550.out (fun _ hk => hk.2.2.2.2.2.2))) | (show (Addr.add _ _).block ≠ _; rw [add_block]; exact Kd.own_blk (Kd.N_away HO550.out (fun _ hk => hk.2.2.2.2.2.2))) | (dsimp only; exact Kd.own_blk (Kd.N_away HO550.out (fun _ hk => hk.2.2.2.2.2.2)))) _).trans (((cell_far (p := ⟨gb559, _, none⟩) (by first | exact Kd.own_blk (Kd.N_away HO550.out (fun _ hk => hk.2.2.2.2.2.2)) | (rw [add_block]; exact Kd.own_blk (Kd.N_away HO550.out (fun _ hk => hk.2.2.2.2.2.2))) | (show (Addr.add _ _).block ≠ _; rw [add_block]; exact Kd.own_blk (Kd.N_away HO550.out (fun _ hk => hk.2.2.2.2.2.2))) | (dsimp only; exact Kd.own_blk (Kd.N_away HO550.out (fun _ hk => hk.2.2.2.2.2.2)))) _).trans (hHeld.2.2.2.2.1)))), ((cell_far (p := ⟨gb559, _, none⟩) (by first | exact Kd.own_blk (Kd.N_away HO550.out (fun _ hk => hk.2.2.2.2.2.2)) | (rw [add_block]; exact Kd.own_blk (Kd.N_away HO550.out (fun _ hk => hk.2.2.2.2.2.2))) | (show (Addr.add _ _).block ≠ _; rw [add_block]; exact Kd.own_blk (Kd.N_away HO550.out (fun _ hk => hk.2.2.2.2.2.2))) | (dsimp only; exact Kd.own_blk (Kd.N_away HO550.out (fun _ hk => hk.2.2.2.2.2.2)))) _).trans (((cell_far (p := ⟨gb559, _, none⟩) (by first | exact Kd.own_blk (Kd.N_away HO550.out (fun _ hk => hk.2.2.2.2.2.2)) | (rw [add_block]; exact Kd.own_blk (Kd.N_away HO550.out (fun _ hk => hk.2.2.2.2.2.2))) | (show (Addr.add _ _).block ≠ _; rw [add_block]; exact Kd.own_blk (Kd.N_away HO550.out (fun _ hk => hk.2.2.2.2.2.2))) | (dsimp only; exact Kd.own_blk (Kd.N_away HO550.out (fun _ hk => hk.2.2.2.2.2.2)))) _).trans (hHeld.2.2.2.2.2))))⟩ (fun hHeld => ?_)
         clear hK K
         refine pure_ (i := 10) (N := some 12) (v := ?_) (a' := ?_) #[T_,T_,T_,T_,T_,T_,T_,T_,T_,T_,T_] rfl rfl (any_of HT_.out (by kernel_rfl)) (fun _ _ _ h => h) (Or.inl ⟨by rfl, ?_⟩) ?_ ?_
         rotate_left
         ·
          intro w'
          go_simp
          with_reducible rfl
         rotate_left
         ·
          simp only [Act.put, List.setIfInBounds_toArray, List.set_cons_zero, List.set_cons_succ, i64_w, i32_w]
          rfl
         refine done_ (done_of HT_.out (by kernel_rfl)) ?_
         have hnb112 := NBq2.out
         have hnc112 := NBq0.out
         have hnb113 := NBq3.out
         have hnc113 := NBq1.out
         have hcz114_0 : w107.cell? ⟨gb559, 0, none⟩ = some (.slice none 0 0) := (kC BK559.out 0).trans rfl
         have hcz114_1 : w107.cell? ⟨gb559, 1, none⟩ = some (.slice none 0 0) := (kC BK559.out 1).trans rfl
         have hfz114_0 := kF BK559.out 0
         have hfz114_1 := kF BK559.out 1
         try go_wp2_with (first | ((with_reducible refine gate_callee (f := 23) rfl ?_); refine goesL_ (some 64) rfl rfl Try.func23 (by kernel_rfl) rfl #[.agg #[.slice Ao108 t552.length co108, .slice Ao110 t555.length co110]] rfl (by (try simp only [List.map_toArray, List.map_cons, List.map_nil]); first | done | rfl | (simp only [List.length_drop, List.length_take]; rfl)) ?_; (with_reducible refine (delta_Last.calls _ _ t552 _ _ t555 t560 _ ?side1 ?side2 ?side3 ?side4 A62.out).mono ?_); (case side1 => refine (Kd.N_reads' (e := 28) (base := w.heap.size) (ok := fun k_ => (some k_ ≠ (.slice Ao98 t541.length co98 : Value).ownBlock ∧ (some k_ ≠ (.slice Ao100 t544.length co100 : Value).ownBlock ∧ (some k_ ≠ (.slice (some ad551) t548.length co103 : Value).ownBlock ∧ (some k_ ≠ (.slice Ao110 t555.length co110 : Value).ownBlock ∧ (k_ ≠ gb536 ∧ (k_ ≠ gb537 ∧ k_ ≠ gb559))))))) (n := t552.length) (c := co108) ?_).2.2; exact (by (with_reducible repeat (first | apply Kd.N_alloc | apply Kd.N_drewN | apply Kd.N_drew)); exact (Kd.N_mono (Kd.N_far (p := ⟨gb559, 1, none⟩) (Kd.N_far (p := ⟨gb559, 0, none⟩) (Kd.N_mono HO554.out (fun k_ hk => (⟨hk, hk.2.2.2.2.2.2⟩ : _ ∧ k_ ≠ gb559))) (fun _ hk => hk.2) (.slice Ao108 t552.length co108)) (fun _ hk => hk.2) (.slice Ao110 t555.length co110)) (fun _ h_ => h_.1)))); (case side2 => exact (Kd.N_reads' HO554.out).2.1); (case side3 => refine (Kd.R_reads' (e := 3) (base := w.heap.size) (ok := fun k_ => True) (n := t555.length) (c := co110) ?_).2.2; exact (by (with_reducible repeat (first | apply Kd.R_alloc | apply Kd.R_drewN | apply Kd.R_drew)); exact (Kd.R_mono (Kd.R_far (p := ⟨gb559, 1, none⟩) (Kd.R_far (p := ⟨gb559, 0, none⟩) (Kd.R_types HO557.out BK559.out (by decide)) (fun _ hk => hk.2) (.slice Ao108 t552.length co108)) (fun _ hk => hk.2) (.slice Ao110 t555.length co110)) (fun _ h_ => h_.1)))); (case side4 => exact (Kd.R_reads' HO557.out).2.1); rintro e w115 ⟨v561, rfl, ho0, hb⟩; refine ⟨_, rfl, ?_⟩; replace HLq0 := aM (Kd.V_elder' (by (with_reducible repeat (first | apply Kd.V_alloc | apply Kd.V_drewN | apply Kd.V_drew)); exact (Kd.V_mono (Kd.V_far (p := ⟨gb559, 1, none⟩) (Kd.V_far (p := ⟨gb559, 0, none⟩) (Kd.V_mono HLq0.out (fun k_ hk => (⟨hk, hk.2.2.2.2.2.2.2⟩ : _ ∧ k_ ≠ gb559))) (fun _ hk => hk.2) (.slice Ao108 t552.length co108)) (fun _ hk => hk.2) (.slice Ao110 t555.length co110)) (fun _ h_ => h_.1))) (Kd.N_base ho0) hb); replace HLq1 := aM (Kd.V_elder' (by (with_reducible repeat (first | apply Kd.V_alloc | apply Kd.V_drewN | apply Kd.V_drew)); exact (Kd.V_mono (Kd.V_far (p := ⟨gb559, 1, none⟩) (Kd.V_far (p := ⟨gb559, 0, none⟩) (Kd.V_mono HLq1.out (fun k_ hk => (⟨hk, hk.2.2.2.2.2.2.2⟩ : _ ∧ k_ ≠ gb559))) (fun _ hk => hk.2) (.slice Ao108 t552.length co108)) (fun _ hk => hk.2) (.slice Ao110 t555.length co110)) (fun _ h_ => h_.1))) (Kd.N_base ho0) hb); have HO562 := aM (Kd.N_lower (Kd.N_mono (ok' := fun k_ => some k_ ≠ (.slice Ao98 t541.length co98 : Value).ownBlock ∧ some k_ ≠ (.slice Ao100 t544.length co100 : Value).ownBlock ∧ some k_ ≠ (.slice (some ad551) t548.length co103 : Value).ownBlock ∧ some k_ ≠ (.slice Ao108 t552.length co108 : Value).ownBlock ∧ some k_ ≠ (.slice Ao110 t555.length co110 : Value).ownBlock ∧ k_ ≠ gb536 ∧ k_ ≠ gb537 ∧ k_ ≠ gb559) ho0 (fun k_ hk_ => ⟨(Kd.fresh' (Kd.N_lt (by (with_reducible repeat (first | apply Kd.N_alloc | apply Kd.N_drewN | apply Kd.N_drew)); exact (Kd.N_mono (Kd.N_far (p := ⟨gb559, 1, none⟩) (Kd.N_far (p := ⟨gb559, 0, none⟩) (Kd.N_mono HO543.out (fun k_ hk => (⟨hk, hk.2.2.2.2.2.2⟩ : _ ∧ k_ ≠ gb559))) (fun _ hk => hk.2) (.slice Ao108 t552.length co108)) (fun _ hk => hk.2) (.slice Ao110 t555.length co110)) (fun _ h_ => h_.1)))) k_ hk_), (Kd.fresh' (Kd.N_lt (by (with_reducible repeat (first | apply Kd.N_alloc | apply Kd.N_drewN | apply Kd.N_drew)); exact (Kd.N_mono (Kd.N_far (p := ⟨gb559, 1, none⟩) (Kd.N_far (p := ⟨gb559, 0, none⟩) (Kd.N_mono HO546.out (fun k_ hk => (⟨hk, hk.2.2.2.2.2⟩ : _ ∧ k_ ≠ gb559))) (fun _ hk => hk.2) (.slice Ao108 t552.length co108)) (fun _ hk => hk.2) (.slice Ao110 t555.length co110)) (fun _ h_ => h_.1)))) k_ hk_), (Kd.fresh' (Kd.N_lt (by (with_reducible repeat (first | apply Kd.N_alloc | apply Kd.N_drewN | apply Kd.N_drew)); exact (Kd.N_mono (Kd.N_far (p := ⟨gb559, 1, none⟩) (Kd.N_far (p := ⟨gb559, 0, none⟩) (Kd.N_mono HO550.out (fun k_ hk => (⟨hk, hk.2.2.2.2.2.2⟩ : _ ∧ k_ ≠ gb559))) (fun _ hk => hk.2) (.slice Ao108 t552.length co108)) (fun _ hk => hk.2) (.slice Ao110 t555.length co110)) (fun _ h_ => h_.1)))) k_ hk_), (Kd.fresh' (Kd.N_lt (by (with_reducible repeat (first | apply Kd.N_alloc | apply Kd.N_drewN | apply Kd.N_drew)); exact (Kd.N_mono (Kd.N_far (p := ⟨gb559, 1, none⟩) (Kd.N_far (p := ⟨gb559, 0, none⟩) (Kd.N_mono HO554.out (fun k_ hk => (⟨hk, hk.2.2.2.2.2.2⟩ : _ ∧ k_ ≠ gb559))) (fun _ hk => hk.2) (.slice Ao108 t552.length co108)) (fun _ hk => hk.2) (.slice Ao110 t555.length co110)) (fun _ h_ => h_.1)))) k_ hk_), (Kd.fresh' (Kd.R_lt (by (with_reducible repeat (first | apply Kd.R_alloc | apply Kd.R_drewN | apply Kd.R_drew)); exact (Kd.R_mono (Kd.R_far (p := ⟨gb559, 1, none⟩) (Kd.R_far (p := ⟨gb559, 0, none⟩) (Kd.R_types HO557.out BK559.out (by decide)) (fun _ hk => hk.2) (.slice Ao108 t552.length co108)) (fun _ hk => hk.2) (.slice Ao110 t555.length co110)) (fun _ h_ => h_.1)))) k_ hk_), (Kd.freshB (g := gb536) (o := .cells #[.slice A0_0 l0_0.length c0_0, .slice A0_1 l0_1.length c0_1] 25 (0, 0)) (by (with_reducible repeat (first | refine blk_drewN ?_ _ | refine blk_drew ?_ | refine blk_alloc ?_ _)); refine blk_far ?_ NBq0.out _; (with_reducible repeat (first | refine blk_drewN ?_ _ | refine blk_drew ?_ | refine blk_alloc ?_ _)); refine blk_far ?_ NBq0.out _; (with_reducible repeat (first | refine blk_drewN ?_ _ | refine blk_drew ?_ | refine blk_alloc ?_ _)); exact BK536.out) k_ hk_), (Kd.freshB (g := gb537) (o := .cells #[.int .i64 a1_0, .slice A1_1 l1_1.length c1_1, .slice A1_2 l1_2.length c1_2, .bool a1_3] 39 (0, 0)) (by (with_reducible repeat (first | refine blk_drewN ?_ _ | refine blk_drew ?_ | refine blk_alloc ?_ _)); refine blk_far ?_ NBq1.out _; (with_reducible repeat (first | refine blk_drewN ?_ _ | refine blk_drew ?_ | refine blk_alloc ?_ _)); refine blk_far ?_ NBq1.out _; (with_reducible repeat (first | refine blk_drewN ?_ _ | refine blk_drew ?_ | refine blk_alloc ?_ _)); exact BK537.out) k_ hk_), (Kd.freshB (g := gb559) (o := .cells #[.slice Ao108 t552.length co108, .slice Ao110 t555.length co110] 25 (0, 0)) (by (with_reducible repeat (first | refine blk_drewN ?_ _ | refine blk_drew ?_ | refine blk_alloc ?_ _)); refine blk_put (cs := #[.slice Ao108 t552.length co108, .slice none 0 0]) ?_ 1 _ rfl; (with_reducible repeat (first | refine blk_drewN ?_ _ | refine blk_drew ?_ | refine blk_alloc ?_ _)); refine blk_put (cs := #[.slice none 0 0, .slice none 0 0]) ?_ 0 _ rfl; (with_reducible repeat (first | refine blk_drewN ?_ _ | refine blk_drew ?_ | refine blk_alloc ?_ _)); exact BK559.out) k_ hk_)⟩)) (below_size (by repeat (first | (with_reducible first | exact HB.out | apply bA | apply bN | apply bD | refine bS ?_ GE536.out | refine bS ?_ GE537.out | refine bS ?_ GE559.out) | exact HB.out)))); replace HO543 := aM (Kd.N_elder' (by (with_reducible repeat (first | apply Kd.N_alloc | apply Kd.N_drewN | apply Kd.N_drew)); exact (Kd.N_mono (Kd.N_far (p := ⟨gb559, 1, none⟩) (Kd.N_far (p := ⟨gb559, 0, none⟩) (Kd.N_mono HO543.out (fun k_ hk => (⟨hk, hk.2.2.2.2.2.2⟩ : _ ∧ k_ ≠ gb559))) (fun _ hk => hk.2) (.slice Ao108 t552.length co108)) (fun _ hk => hk.2) (.slice Ao110 t555.length co110)) (fun _ h_ => h_.1))) (Kd.N_base ho0) hb); replace HO546 := aM (Kd.N_elder' (by (with_reducible repeat (first | apply Kd.N_alloc | apply Kd.N_drewN | apply Kd.N_drew)); exact (Kd.N_mono (Kd.N_far (p := ⟨gb559, 1, none⟩) (Kd.N_far (p := ⟨gb559, 0, none⟩) (Kd.N_mono HO546.out (fun k_ hk => (⟨hk, hk.2.2.2.2.2⟩ : _ ∧ k_ ≠ gb559))) (fun _ hk => hk.2) (.slice Ao108 t552.length co108)) (fun _ hk => hk.2) (.slice Ao110 t555.length co110)) (fun _ h_ => h_.1))) (Kd.N_base ho0) hb); replace HO550 := aM (Kd.N_elder' (by (with_reducible repeat (first | apply Kd.N_alloc | apply Kd.N_drewN | apply Kd.N_drew)); exact (Kd.N_mono (Kd.N_far (p := ⟨gb559, 1, none⟩) (Kd.N_far (p := ⟨gb559, 0, none⟩) (Kd.N_mono HO550.out (fun k_ hk => (⟨hk, hk.2.2.2.2.2.2⟩ : _ ∧ k_ ≠ gb559))) (fun _ hk => hk.2) (.slice Ao108 t552.length co108)) (fun _ hk => hk.2) (.slice Ao110 t555.length co110)) (fun _ h_ => h_.1))) (Kd.N_base ho0) hb); replace HO554 := aM (Kd.N_elder' (by (with_reducible repeat (first | apply Kd.N_alloc | apply Kd.N_drewN | apply Kd.N_drew)); exact (Kd.N_mono (Kd.N_far (p := ⟨gb559, 1, none⟩) (Kd.N_far (p := ⟨gb559, 0, none⟩) (Kd.N_mono HO554.out (fun k_ hk => (⟨hk, hk.2.2.2.2.2.2⟩ : _ ∧ k_ ≠ gb559))) (fun _ hk => hk.2) (.slice Ao108 t552.length co108)) (fun _ hk => hk.2) (.slice Ao110 t555.length co110)) (fun _ h_ => h_.1))) (Kd.N_base ho0) hb); replace HO557 := aM (Kd.R_below (by (with_reducible repeat (first | apply Kd.R_alloc | apply Kd.R_drewN | apply Kd.R_drew)); exact (Kd.R_mono (Kd.R_far (p := ⟨gb559, 1, none⟩) (Kd.R_far (p := ⟨gb559, 0, none⟩) (Kd.R_types HO557.out BK559.out (by decide)) (fun _ hk => hk.2) (.slice Ao108 t552.length co108)) (fun _ hk => hk.2) (.slice Ao110 t555.length co110)) (fun _ h_ => h_.1))) hb); replace BK536 := aM (kB (g := gb536) (o := .cells #[.slice A0_0 l0_0.length c0_0, .slice A0_1 l0_1.length c0_1] 25 (0, 0)) (by (with_reducible repeat (first | refine blk_drewN ?_ _ | refine blk_drew ?_ | refine blk_alloc ?_ _)); refine blk_far ?_ NBq0.out _; (with_reducible repeat (first | refine blk_drewN ?_ _ | refine blk_drew ?_ | refine blk_alloc ?_ _)); refine blk_far ?_ NBq0.out _; (with_reducible repeat (first | refine blk_drewN ?_ _ | refine blk_drew ?_ | refine blk_alloc ?_ _)); exact BK536.out) hb); replace BK537 := aM (kB (g := gb537) (o := .cells #[.int .i64 a1_0, .slice A1_1 l1_1.length c1_1, .slice A1_2 l1_2.length c1_2, .bool a1_3] 39 (0, 0)) (by (with_reducible repeat (first | refine blk_drewN ?_ _ | refine blk_drew ?_ | refine blk_alloc ?_ _)); refine blk_far ?_ NBq1.out _; (with_reducible repeat (first | refine blk_drewN ?_ _ | refine blk_drew ?_ | refine blk_alloc ?_ _)); refine blk_far ?_ NBq1.out _; (with_reducible repeat (first | refine blk_drewN ?_ _ | refine blk_drew ?_ | refine blk_alloc ?_ _)); exact BK537.out) hb); replace BK559 := aM (kB (g := gb559) (o := .cells #[.slice Ao108 t552.length co108, .slice Ao110 t555.length co110] 25 (0, 0)) (by (with_reducible repeat (first | refine blk_drewN ?_ _ | refine blk_drew ?_ | refine blk_alloc ?_ _)); refine blk_put (cs := #[.slice Ao108 t552.length co108, .slice none 0 0]) ?_ 1 _ rfl; (with_reducible repeat (first | refine blk_drewN ?_ _ | refine blk_drew ?_ | refine blk_alloc ?_ _)); refine blk_put (cs := #[.slice none 0 0, .slice none 0 0]) ?_ 0 _ rfl; (with_reducible repeat (first | refine blk_drewN ?_ _ | refine blk_drew ?_ | refine blk_alloc ?_ _)); exact BK559.out) hb); replace HB := aM (below_step (by repeat (first | (with_reducible first | exact HB.out | apply bA | apply bN | apply bD | refine bS ?_ GE536.out | refine bS ?_ GE537.out | refine bS ?_ GE559.out) | exact HB.out)) hb); (try clear hb); (try clear hk); obtain ⟨Ao116, co116, eo116⟩ := Kd.N_slice HO562.out; subst eo116) | ((with_reducible refine gate_callee (f := 22) rfl ?_); refine goesL_ (some 66) rfl rfl Try.func22 (by kernel_rfl) rfl #[.slice Ao116 t560.length co116, .slice (some ad551) t548.length co103] rfl (by (try simp only [List.map_toArray, List.map_cons, List.map_nil]); first | done | rfl | (simp only [List.length_drop, List.length_take]; rfl)) ?_; (with_reducible refine (banksmanref08_Writes.calls kj4 _ _ t560 _ _ t548 t563 _ ?side1 ?side2 ?side3 ?side4 A63.out).mono ?_); (case side1 => repeat (first | exact (Kd.N_reads' HO562.out).2.2 | (with_reducible refine Kd.C_alloc ?_ _) | (with_reducible refine Kd.C_drewN ?_ _) | (with_reducible refine Kd.C_drew ?_))); (case side2 => exact (Kd.N_reads' HO562.out).2.1); (case side3 => repeat (first | exact (Kd.N_reads' HO550.out).2.2 | (with_reducible refine Kd.C_alloc ?_ _) | (with_reducible refine Kd.C_drewN ?_ _) | (with_reducible refine Kd.C_drew ?_))); (case side4 => exact (Kd.N_reads' HO550.out).2.1); rintro e w' ⟨rfl, ⟨nd, rfl⟩⟩; refine ⟨_, rfl, ?_⟩))
         go_ret
         exact ⟨by first | rfl | (simp [errW_none, errW_some] <;> rfl) | (simp [*, errW_none, errW_some] <;> rfl), by repeat (first | (with_reducible first | exact HB.out | apply bA | apply bN | apply bD | refine bS ?_ GE536.out | refine bS ?_ GE537.out | refine bS ?_ GE559.out) | exact HB.out)⟩
       ·
        replace c65 := Bool.eq_false_iff.mpr c65
        subst c65
        have H1 : (some false) = some r := by rw [if_neg (show ¬ (false = true) by decide)] at H; exact H
        rw [HTr_] at H1
        exact absurd (Option.some.inj H1) (by decide)
      ·
       replace c64 := Bool.eq_false_iff.mpr c64
       subst c64
       have H1 : (some false) = some r := by rw [if_neg (show ¬ (false = true) by decide)] at H; exact H
       rw [HTr_] at H1
       exact absurd (Option.some.inj H1) (by decide)
     ·
      rw [if_neg c60] at H
      exact absurd H (by simp)
def banksmanlaw08_DeltaTwice.Pure : Prop := ∀ (l0_0 : List (S28)) (l0_1 : List Int) (a1_0 : Int) (l1_1 : List Int) (l1_2 : List Int) (a1_3 : Bool) (l2 : List (S53)), (fun xs_ : List (S28) => xs_.length ≤ maxLen ∧ ∀ x ∈ xs_, (fun x_ : S28 => (fun n_ : Int => (Lit.int .i64 n_).wf = true) x_.f0 ∧ (fun xs_ : List Int => xs_.length ≤ maxLen ∧ ∀ x ∈ xs_, (fun n_ : Int => (Lit.int .u8 n_).wf = true) x) x_.f1 ∧ (fun _ : Bool => True) x_.f2 ∧ (fun xs_ : List Int => xs_.length ≤ maxLen ∧ ∀ x ∈ xs_, (fun n_ : Int => (Lit.int .u8 n_).wf = true) x) x_.f3) x) l0_0 → (fun xs_ : List Int => xs_.length ≤ maxLen ∧ ∀ x ∈ xs_, (fun n_ : Int => (Lit.int .i64 n_).wf = true) x) l0_1 → (fun n_ : Int => (Lit.int .i64 n_).wf = true) a1_0 → (fun xs_ : List Int => xs_.length ≤ maxLen ∧ ∀ x ∈ xs_, (fun n_ : Int => (Lit.int .u8 n_).wf = true) x) l1_1 → (fun xs_ : List Int => xs_.length ≤ maxLen ∧ ∀ x ∈ xs_, (fun n_ : Int => (Lit.int .u8 n_).wf = true) x) l1_2 → (fun xs_ : List (S53) => xs_.length ≤ maxLen ∧ ∀ x ∈ xs_, (fun x_ : S53 => (fun xs_ : List Int => xs_.length ≤ maxLen ∧ ∀ x ∈ xs_, (fun n_ : Int => (Lit.int .u8 n_).wf = true) x) x_.f0 ∧ (fun xs_ : List Int => xs_.length ≤ maxLen ∧ ∀ x ∈ xs_, (fun n_ : Int => (Lit.int .u8 n_).wf = true) x) x_.f1) x) l2 → ∃ k, banksmanlaw08_DeltaTwice.f k l0_0 l0_1 a1_0 l1_1 l1_2 a1_3 l2 = some true
end Go.Proofs.Ytbjeaalbdaedpaa.P
