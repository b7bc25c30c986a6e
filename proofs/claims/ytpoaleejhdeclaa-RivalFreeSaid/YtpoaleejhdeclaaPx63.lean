-- Written by wip/gprint.py, a program of this session over the kit's print; Lean checks it.
import Derived.Test.YtpoaleejhdeclaaPx0
import Derived.Test.YtpoaleejhdeclaaPx1
import Derived.Test.YtpoaleejhdeclaaPx39
import Derived.Test.YtpoaleejhdeclaaPx40
import Derived.Test.YtpoaleejhdeclaaPx41
import Derived.Test.YtpoaleejhdeclaaPx42
import Derived.Test.YtpoaleejhdeclaaPx50
import Derived.Test.YtpoaleejhdeclaaPx51
namespace Go.Proofs.Ytpoaleejhdeclaa.P
open Go.RowKit Go.Proofs.YtpoaleejhdeclaaW.PrintWords Go.Proofs.YtpoaleejhdeclaaW.PrintLast Go.Proofs.YtpoaleejhdeclaaW.PrintMore
attribute [local go_sem] max2_int min2_int max_two min_two max_three min_three max_four min_four   -- for this text's walks alone
set_option linter.unusedVariables false
set_option linter.unusedSimpArgs false

/-! ### banksmanlaw14_RivalFree: function 5 -/
mutual
def banksmanlaw14_RivalFree.j0 : Nat → List (S59) → List (S50) → List (S24) → Bool → Bool → Int → List (S57) → Option (Bool)
  | 0, _, _, _, _, _, _, _ => none
  | k + 1, x1, x2, x3, x9, x34, x408000, x408001 => if x34 = true then (some x9) else (banksmanlaw14_RivalFree.l0 k x1 x2 x3 x9 true 0 x408000 x408001)
def banksmanlaw14_RivalFree.l0 : Nat → List (S59) → List (S50) → List (S24) → Bool → Bool → Int → Int → List (S57) → Option (Bool)
  | 0, _, _, _, _, _, _, _, _ => none
  | k + 1, x1, x2, x3, x9, x10, x11, x408000, x408001 => if x11 < (x2.length : Int) then (if 0 ≤ x11 then ((banksmanref13_Hit.f k x408001 ((rd_T50 x2 x11).f4)).bind fun t417 => ((banksmanref13_Same.f k ((rd_T50 x2 x11).f4) x1).bind fun t419 => (if ((rd_T50 x2 x11).f1) > x408000 then (if t417 = true then (banksmanlaw14_RivalFree.l0 k x1 x2 x3 x9 false (wrap64 (x11 + 1)) x408000 x408001) else (if t419 = true then (banksmanlaw14_RivalFree.l0 k x1 x2 x3 x9 false (wrap64 (x11 + 1)) x408000 x408001) else (banksmanlaw14_RivalFree.l0 k x1 x2 x3 x9 x10 (wrap64 (x11 + 1)) x408000 x408001))) else (banksmanlaw14_RivalFree.l0 k x1 x2 x3 x9 x10 (wrap64 (x11 + 1)) x408000 x408001)))) else (none)) else ((rival_Judge.f x408000 x408001 x1 x2 x3).bind fun bt412 => ((rival_Judge.f x408000 x408001 x1 ([] : List (S50)) x3).bind fun bt414 => (if x9 = true then (if x10 = true then (if bt412.2 = 0 then (if bt412.1 = true then (some false) else (if bt414.2 = 0 then (some (!bt414.1)) else (some false))) else (some false)) else (if bt414.2 = 0 then (some (!bt414.1)) else (some false))) else (some false))))
end
def banksmanlaw14_RivalFree.f (k : Nat) (a0_0 : Int) (l0_1 : List (S57)) (l1 : List (S59)) (l2 : List (S50)) (l3 : List (S24)) : Option (Bool) := (banksmanlaw14_awake.f).bind fun t408 => ((banksmanref10_Few.f k l0_1).bind fun t409 => (if t409 = true then ((banksmanref08_Few.f k l1 ([] : List Int)).bind fun t410 => (if t410 = true then ((banksmanref13_Few.f k l2 l3).bind fun t411 => (banksmanlaw14_RivalFree.j0 k l1 l2 l3 t408 (!t411) a0_0 l0_1)) else (banksmanlaw14_RivalFree.j0 k l1 l2 l3 t408 true a0_0 l0_1))) else (banksmanlaw14_RivalFree.j0 k l1 l2 l3 t408 true a0_0 l0_1)))
theorem banksmanlaw14_RivalFree.mono_l : ∀ k, (∀ y0 y1 y2 y3 y4 y5 y6, LeO (banksmanlaw14_RivalFree.j0 k y0 y1 y2 y3 y4 y5 y6) (banksmanlaw14_RivalFree.j0 (k + 1) y0 y1 y2 y3 y4 y5 y6)) ∧ (∀ y0 y1 y2 y3 y4 y5 y6 y7, LeO (banksmanlaw14_RivalFree.l0 k y0 y1 y2 y3 y4 y5 y6 y7) (banksmanlaw14_RivalFree.l0 (k + 1) y0 y1 y2 y3 y4 y5 y6 y7))
  | 0 => ⟨fun _ _ _ _ _ _ _ r h => by simp [banksmanlaw14_RivalFree.j0] at h, fun _ _ _ _ _ _ _ _ r h => by simp [banksmanlaw14_RivalFree.l0] at h⟩
  | k + 1 => by
    obtain ⟨ih0, ih1⟩ := banksmanlaw14_RivalFree.mono_l k
    refine ⟨?_, ?_⟩
    · intro y0 y1 y2 y3 y4 y5 y6
      unfold banksmanlaw14_RivalFree.j0
      repeat' first
      | (with_reducible exact ih0 _ _ _ _ _ _ _)
      | (with_reducible exact ih1 _ _ _ _ _ _ _ _)
      | (with_reducible exact banksmanref08_Few.mono _ _ _)
      | (with_reducible exact banksmanref10_Few.mono _ _)
      | (with_reducible exact banksmanref13_Few.mono _ _ _)
      | (with_reducible exact banksmanref13_Hit.mono _ _ _)
      | (with_reducible exact banksmanref13_Same.mono _ _ _)
      | (with_reducible exact LeO.refl _)
      | (with_reducible exact LeO.none _)
      | (with_reducible refine LeO.ite ?_ ?_)
      | (with_reducible refine LeO.bind ?_ (fun _ => ?_))
      | exact ih0 _ _ _ _ _ _ _
      | exact ih1 _ _ _ _ _ _ _ _
      | exact banksmanref08_Few.mono _ _ _
      | exact banksmanref10_Few.mono _ _
      | exact banksmanref13_Few.mono _ _ _
      | exact banksmanref13_Hit.mono _ _ _
      | exact banksmanref13_Same.mono _ _ _
      | exact LeO.none _
      | refine LeO.ite ?_ ?_
      | refine LeO.bind ?_ (fun _ => ?_)
    · intro y0 y1 y2 y3 y4 y5 y6 y7
      unfold banksmanlaw14_RivalFree.l0
      repeat' first
      | (with_reducible exact ih0 _ _ _ _ _ _ _)
      | (with_reducible exact ih1 _ _ _ _ _ _ _ _)
      | (with_reducible exact banksmanref08_Few.mono _ _ _)
      | (with_reducible exact banksmanref10_Few.mono _ _)
      | (with_reducible exact banksmanref13_Few.mono _ _ _)
      | (with_reducible exact banksmanref13_Hit.mono _ _ _)
      | (with_reducible exact banksmanref13_Same.mono _ _ _)
      | (with_reducible exact LeO.refl _)
      | (with_reducible exact LeO.none _)
      | (with_reducible refine LeO.ite ?_ ?_)
      | (with_reducible refine LeO.bind ?_ (fun _ => ?_))
      | exact ih0 _ _ _ _ _ _ _
      | exact ih1 _ _ _ _ _ _ _ _
      | exact banksmanref08_Few.mono _ _ _
      | exact banksmanref10_Few.mono _ _
      | exact banksmanref13_Few.mono _ _ _
      | exact banksmanref13_Hit.mono _ _ _
      | exact banksmanref13_Same.mono _ _ _
      | exact LeO.none _
      | refine LeO.ite ?_ ?_
      | refine LeO.bind ?_ (fun _ => ?_)
theorem banksmanlaw14_RivalFree.mono : ∀ a0 a1 a2 a3 a4 k, LeO (banksmanlaw14_RivalFree.f k a0 a1 a2 a3 a4) (banksmanlaw14_RivalFree.f (k + 1) a0 a1 a2 a3 a4) := by
  intro a0 a1 a2 a3 a4 k
  obtain ⟨ih0, ih1⟩ := banksmanlaw14_RivalFree.mono_l k
  unfold banksmanlaw14_RivalFree.f
  repeat' first
      | (with_reducible exact ih0 _ _ _ _ _ _ _)
      | (with_reducible exact ih1 _ _ _ _ _ _ _ _)
      | (with_reducible exact banksmanref08_Few.mono _ _ _)
      | (with_reducible exact banksmanref10_Few.mono _ _)
      | (with_reducible exact banksmanref13_Few.mono _ _ _)
      | (with_reducible exact banksmanref13_Hit.mono _ _ _)
      | (with_reducible exact banksmanref13_Same.mono _ _ _)
      | (with_reducible exact LeO.refl _)
      | (with_reducible exact LeO.none _)
      | (with_reducible refine LeO.ite ?_ ?_)
      | (with_reducible refine LeO.bind ?_ (fun _ => ?_))
      | exact ih0 _ _ _ _ _ _ _
      | exact ih1 _ _ _ _ _ _ _ _
      | exact banksmanref08_Few.mono _ _ _
      | exact banksmanref10_Few.mono _ _
      | exact banksmanref13_Few.mono _ _ _
      | exact banksmanref13_Hit.mono _ _ _
      | exact banksmanref13_Same.mono _ _ _
      | exact LeO.none _
      | refine LeO.ite ?_ ?_
      | refine LeO.bind ?_ (fun _ => ?_)
def banksmanlaw14_RivalFree.T8 : Bool × List (List Nat × List Nat) := (true, [([], []), ([0], [0]), ([], []), ([], []), ([2, 3], [2, 3]), ([4], [4]), ([5], [5]), ([1, 6], [1, 6]), ([7, 7, 0, 1, 2, 3, 4, 5, 6, 7], [7])])
def banksmanlaw14_RivalFree.B8 : List Nat := [0, 1, 0, 0, 12, 28, 60, 127, 255]
theorem banksmanlaw14_RivalFree.tab8 : rtab .any (opsOf Try.f5 8) = banksmanlaw14_RivalFree.T8 := by kernel_rfl
theorem banksmanlaw14_RivalFree.bits8 : waitsOk banksmanlaw14_RivalFree.T8.2 banksmanlaw14_RivalFree.B8 = true := by kernel_rfl
def banksmanlaw14_RivalFree.T10 : Bool × List (List Nat × List Nat) := (true, [([], []), ([], []), ([0, 1], [0, 1]), ([2], [2]), ([3], [3]), ([], []), ([5], [5]), ([4, 6], [4, 6]), ([7], [7]), ([8], [8]), ([9, 8, 8], [8, 9]), ([10], [10]), ([10, 11, 8], [8, 10, 11]), ([8, 12], [8, 12])])
def banksmanlaw14_RivalFree.B10 : List Nat := [0, 0, 3, 7, 15, 0, 32, 127, 255, 511, 1023, 2047, 4095, 8191]
theorem banksmanlaw14_RivalFree.tab10 : rtab .any (opsOf Try.f5 10) = banksmanlaw14_RivalFree.T10 := by kernel_rfl
theorem banksmanlaw14_RivalFree.bits10 : waitsOk banksmanlaw14_RivalFree.T10.2 banksmanlaw14_RivalFree.B10 = true := by kernel_rfl
set_option maxHeartbeats 8000000 in
set_option maxRecDepth 100000 in
theorem banksmanlaw14_RivalFree.calls (k : Nat) (a0_0 : Int) (A0_1 : Option Addr) (c0_1 : Nat) (l0_1 : List (S57)) (A1 : Option Addr) (c1 : Nat) (l1 : List (S59)) (A2 : Option Addr) (c2 : Nat) (l2 : List (S50)) (A3 : Option Addr) (c3 : Nat) (l3 : List (S24)) (r : Bool) (w : World) (hr0_1 : Kd.C k57 w A0_1 l0_1.length l0_1) (hc0_1 : l0_1.length ≤ c0_1) (hr1 : Kd.C k59 w A1 l1.length l1) (hc1 : l1.length ≤ c1) (hr2 : Kd.C k50 w A2 l2.length l2) (hc2 : l2.length ≤ c2) (hr3 : Kd.C k24 w A3 l3.length l3) (hc3 : l3.length ≤ c3) (h : banksmanlaw14_RivalFree.f k a0_0 l0_1 l1 l2 l3 = some r) (HTr_ : r = true) :
    Calls Try.prog 5 #[.agg #[.int .i64 a0_0, .slice A0_1 l0_1.length c0_1], .slice A1 l1.length c1, .slice A2 l2.length c2, .slice A3 l3.length c3] w fun e w' => e = .returned (.bool r) ∧ Below w.heap.size w w' := by
  have hu24 := Try.underlying24
  have hu33 := Try.underlying33
  have HR0_1 := Aside0.mk hr0_1
  have HC0_1 := Aside0.mk hc0_1
  clear hr0_1 hc0_1
  have HR1 := Aside0.mk hr1
  have HC1 := Aside0.mk hc1
  clear hr1 hc1
  have HR2 := Aside0.mk hr2
  have HC2 := Aside0.mk hc2
  clear hr2 hc2
  have HR3 := Aside0.mk hr3
  have HC3 := Aside0.mk hc3
  clear hr3 hc3
  have HB := Aside0.mk (Below.refl w.heap.size w)
  have H : ((banksmanlaw14_awake.f).bind fun t408 => ((banksmanref10_Few.f k l0_1).bind fun t409 => (if t409 = true then ((banksmanref08_Few.f k l1 ([] : List Int)).bind fun t410 => (if t410 = true then ((banksmanref13_Few.f k l2 l3).bind fun t411 => (banksmanlaw14_RivalFree.j0 k l1 l2 l3 t408 (!t411) a0_0 l0_1)) else (banksmanlaw14_RivalFree.j0 k l1 l2 l3 t408 true a0_0 l0_1))) else (banksmanlaw14_RivalFree.j0 k l1 l2 l3 t408 true a0_0 l0_1)))) = some r := h
  clear h
  replace H := Option.bind_eq_some_iff.mp H
  obtain ⟨t408, A50, H⟩ := H
  replace H : ((banksmanref10_Few.f k l0_1).bind fun t409 => (if t409 = true then ((banksmanref08_Few.f k l1 ([] : List Int)).bind fun t410 => (if t410 = true then ((banksmanref13_Few.f k l2 l3).bind fun t411 => (banksmanlaw14_RivalFree.j0 k l1 l2 l3 t408 (!t411) a0_0 l0_1)) else (banksmanlaw14_RivalFree.j0 k l1 l2 l3 t408 true a0_0 l0_1))) else (banksmanlaw14_RivalFree.j0 k l1 l2 l3 t408 true a0_0 l0_1))) = some r := H
  have A5 := Aside0.mk A50
  clear A50
  have HC6 := Aside0.mk H
  clear H
  go_enter Try.func5, Try.ntmps5
  go_upto_region 2 with (first | ((with_reducible refine gate_dst (N := 4) rfl ?_); refine box_event ?hg (N := 4) ?hd (cs := #[.int .i64 a0_0, .slice A0_1 l0_1.length c0_1]) (t := 24) ?hr ?_; (case hd => rfl); (case hg => rfl); (case hr => first | (go_simp; done) | (go_simp; rfl)); intro gb407 hg w7 hbox hb; have n0_ := Aside0.mk (below_step (by repeat (first | (with_reducible first | exact HB.out | apply below_alloc | apply pw_below_drewN | apply below_drew1) | exact HB.out)) hb); have n1_ := Aside0.mk (hbox); have n2_ := Aside0.mk ((by rw [hg]; exact (below_size (by repeat (first | (with_reducible first | exact HB.out | apply below_alloc | apply pw_below_drewN | apply below_drew1) | exact HB.out))) : w.heap.size ≤ gb407)); have n3_ := Aside0.mk ((by rw [hg]; exact (below_size (by repeat (first | (with_reducible first | exact HB.out | apply below_alloc | apply pw_below_drewN | apply below_drew1) | exact HB.out))) : w.heap.size ≤ gb407)); clear HB; have HB := n0_; have BK407 := n1_; have GW407 := n2_; have GE407 := n3_; clear n0_ n1_ n2_ n3_; clear hb hbox hg) | ((with_reducible refine gate_callee (f := 8) rfl ?_); refine goesL_ (some 18) rfl rfl Try.func8 (by kernel_rfl) rfl #[] rfl (by (try simp only [List.map_toArray, List.map_cons, List.map_nil]); first | done | rfl | (simp only [List.length_drop, List.length_take]; rfl)) ?_; (with_reducible refine (banksmanlaw14_awake.calls  t408 _ A5.out).mono ?_); rintro e w8 ⟨rfl, hb⟩; refine ⟨_, rfl, ?_⟩; have n0_ := Aside0.mk (blk_below (g := gb407) (o := .cells #[.int .i64 a0_0, .slice A0_1 l0_1.length c0_1] 24 (0, 0)) (by (with_reducible repeat (first | refine blk_drewN ?_ _ | refine blk_drew ?_ | refine blk_alloc ?_ _)); exact BK407.out) hb); have n1_ := Aside0.mk (below_step (by repeat (first | (with_reducible first | exact HB.out | apply below_alloc | apply pw_below_drewN | apply below_drew1 | refine below_set ?_ GE407.out) | exact HB.out)) hb); clear BK407; clear HB; have BK407 := n0_; have HB := n1_; clear n0_ n1_; (try clear hb); (try clear hb2); (try clear hk); (try clear hi)))
  (try simp only [Act.put, List.setIfInBounds_toArray, List.set_cons_zero, List.set_cons_succ])
  go_cut [34] (fun v34 wc => ∃ (kq : Nat) (x34_5 : Bool), v34 = .bool x34_5 ∧ Aside0 (banksmanlaw14_RivalFree.j0 kq l1 l2 l3 t408 x34_5 a0_0 l0_1 = some r) ∧ Aside0 (kq ≤ k) ∧ Aside0 (wc.heap[gb407]? = some (.cells #[.int .i64 a0_0, (.slice A0_1 l0_1.length c0_1)] 24 (0, 0))) ∧ Aside0 (Below w.heap.size w wc))
  case first =>
    have H := HC6.out
    clear HC6
    replace H := Option.bind_eq_some_iff.mp H
    obtain ⟨t409, A90, H⟩ := H
    replace H : (if t409 = true then ((banksmanref08_Few.f k l1 ([] : List Int)).bind fun t410 => (if t410 = true then ((banksmanref13_Few.f k l2 l3).bind fun t411 => (banksmanlaw14_RivalFree.j0 k l1 l2 l3 t408 (!t411) a0_0 l0_1)) else (banksmanlaw14_RivalFree.j0 k l1 l2 l3 t408 true a0_0 l0_1))) else (banksmanlaw14_RivalFree.j0 k l1 l2 l3 t408 true a0_0 l0_1)) = some r := H
    have A9 := Aside0.mk A90
    clear A90
    by_cases c10 : t409 = true
    · subst c10
      have H1 : ((banksmanref08_Few.f k l1 ([] : List Int)).bind fun t410 => (if t410 = true then ((banksmanref13_Few.f k l2 l3).bind fun t411 => (banksmanlaw14_RivalFree.j0 k l1 l2 l3 t408 (!t411) a0_0 l0_1)) else (banksmanlaw14_RivalFree.j0 k l1 l2 l3 t408 true a0_0 l0_1))) = some r := by rw [if_pos rfl] at H; exact H
      clear H
      have H := H1
      clear H1
      replace H := Option.bind_eq_some_iff.mp H
      obtain ⟨t410, A110, H⟩ := H
      replace H : (if t410 = true then ((banksmanref13_Few.f k l2 l3).bind fun t411 => (banksmanlaw14_RivalFree.j0 k l1 l2 l3 t408 (!t411) a0_0 l0_1)) else (banksmanlaw14_RivalFree.j0 k l1 l2 l3 t408 true a0_0 l0_1)) = some r := H
      have A11 := Aside0.mk A110
      clear A110
      by_cases c12 : t410 = true
      · subst c12
        have H1 : ((banksmanref13_Few.f k l2 l3).bind fun t411 => (banksmanlaw14_RivalFree.j0 k l1 l2 l3 t408 (!t411) a0_0 l0_1)) = some r := by rw [if_pos rfl] at H; exact H
        clear H
        have H := H1
        clear H1
        replace H := Option.bind_eq_some_iff.mp H
        obtain ⟨t411, A130, H⟩ := H
        replace H : (banksmanlaw14_RivalFree.j0 k l1 l2 l3 t408 (!t411) a0_0 l0_1) = some r := H
        have A13 := Aside0.mk A130
        clear A130
        have H' := Aside0.mk H
        clear H
        have hcz14_0 : w8.cell? ⟨gb407, 0, none⟩ = some (.int .i64 a0_0) := (blk_cell BK407.out 0).trans rfl
        have hcz14_1 : w8.cell? ⟨gb407, 1, none⟩ = some (.slice A0_1 l0_1.length c0_1) := (blk_cell BK407.out 1).trans rfl
        have hfz14_0 := blk_frozen BK407.out 0
        have hfz14_1 := blk_frozen BK407.out 1
        go_wp2_with (first | ((with_reducible refine gate_callee (f := 9) rfl ?_); refine goesL_ (some 21) rfl rfl Try.func9 (by kernel_rfl) rfl #[.slice A0_1 l0_1.length c0_1] rfl (by (try simp only [List.map_toArray, List.map_cons, List.map_nil]); first | done | rfl | (simp only [List.length_drop, List.length_take]; rfl)) ?_; (with_reducible refine (banksmanref10_Few.calls k _ _ l0_1 true _ ?side1 ?side2 A9.out).mono ?_); (case side1 => repeat (first | exact (Kd.C_below HR0_1.out HB.out) | (with_reducible refine Kd.C_alloc ?_ _) | (with_reducible refine Kd.C_drewN ?_ _) | (with_reducible refine Kd.C_drew ?_))); (case side2 => exact HC0_1.out); rintro e w' ⟨rfl, ⟨nd, rfl⟩⟩; refine ⟨_, rfl, ?_⟩) | (go_at_call 10; (refine (banksmanref08_Few.calls k _ _ l1 _ _ ([] : List Int) true _ ?side1 ?side2 ?side3 ?side4 A11.out).mono ?_); (case side1 => repeat (first | exact (Kd.C_below HR1.out (by repeat (first | (with_reducible first | exact HB.out | apply below_alloc | apply pw_below_drewN | apply below_drew1 | refine below_set ?_ GE407.out) | exact HB.out))) | (with_reducible refine Kd.C_alloc ?_ _) | (with_reducible refine Kd.C_drewN ?_ _) | (with_reducible refine Kd.C_drew ?_))); (case side2 => exact HC1.out); (case side3 => exact Kd.C_nil _ _); (case side4 => exact Nat.le_refl _); rintro e w15 ⟨rfl, hb⟩; have n0_ := Aside0.mk (blk_below (g := gb407) (o := .cells #[.int .i64 a0_0, .slice A0_1 l0_1.length c0_1] 24 (0, 0)) (by (with_reducible repeat (first | refine blk_drewN ?_ _ | refine blk_drew ?_ | refine blk_alloc ?_ _)); exact BK407.out) hb); have n1_ := Aside0.mk (below_step (by repeat (first | (with_reducible first | exact HB.out | apply below_alloc | apply pw_below_drewN | apply below_drew1 | refine below_set ?_ GE407.out) | exact HB.out)) hb); clear BK407; clear HB; have BK407 := n0_; have HB := n1_; clear n0_ n1_; (try clear hb); (try clear hb2); (try clear hk); (try clear hi)) | (go_at_call 11; (with_reducible refine (banksmanref13_Few.calls k _ _ l2 _ _ l3 t411 _ ?side1 ?side2 ?side3 ?side4 A13.out).mono ?_); (case side1 => repeat (first | exact (Kd.C_below HR2.out HB.out) | (with_reducible refine Kd.C_alloc ?_ _) | (with_reducible refine Kd.C_drewN ?_ _) | (with_reducible refine Kd.C_drew ?_))); (case side2 => exact HC2.out); (case side3 => repeat (first | exact (Kd.C_below HR3.out HB.out) | (with_reducible refine Kd.C_alloc ?_ _) | (with_reducible refine Kd.C_drewN ?_ _) | (with_reducible refine Kd.C_drew ?_))); (case side4 => exact HC3.out); rintro e w16 ⟨rfl, hb⟩; have n0_ := Aside0.mk (blk_below (g := gb407) (o := .cells #[.int .i64 a0_0, .slice A0_1 l0_1.length c0_1] 24 (0, 0)) (by (with_reducible repeat (first | refine blk_drewN ?_ _ | refine blk_drew ?_ | refine blk_alloc ?_ _)); exact BK407.out) hb); have n1_ := Aside0.mk (below_step (by repeat (first | (with_reducible first | exact HB.out | apply below_alloc | apply pw_below_drewN | apply below_drew1 | refine below_set ?_ GE407.out) | exact HB.out)) hb); clear BK407; clear HB; have BK407 := n0_; have HB := n1_; clear n0_ n1_; (try clear hb); (try clear hb2); (try clear hk); (try clear hi)))
        go_meet
        case rel => exact ⟨_, (!t411), (by first | rfl | (simp; done) | (simp [*]; done)), H', ⟨by first | omega | exact Nat.le_refl _⟩, ⟨by (with_reducible repeat (first | refine blk_drewN ?_ _ | refine blk_drew ?_ | refine blk_alloc ?_ _)); exact BK407.out⟩, ⟨by repeat (first | (with_reducible first | exact HB.out | apply below_alloc | apply pw_below_drewN | apply below_drew1 | refine below_set ?_ GE407.out) | exact HB.out)⟩⟩
      · replace c12 := Bool.eq_false_iff.mpr c12
        subst c12
        have H1 : (banksmanlaw14_RivalFree.j0 k l1 l2 l3 t408 true a0_0 l0_1) = some r := by rw [if_neg (show ¬ (false = true) by decide)] at H; exact H
        clear H
        have H := H1
        clear H1
        have H' := Aside0.mk H
        clear H
        have hcz17_0 : w8.cell? ⟨gb407, 0, none⟩ = some (.int .i64 a0_0) := (blk_cell BK407.out 0).trans rfl
        have hcz17_1 : w8.cell? ⟨gb407, 1, none⟩ = some (.slice A0_1 l0_1.length c0_1) := (blk_cell BK407.out 1).trans rfl
        have hfz17_0 := blk_frozen BK407.out 0
        have hfz17_1 := blk_frozen BK407.out 1
        go_wp2_with (first | ((with_reducible refine gate_callee (f := 9) rfl ?_); refine goesL_ (some 21) rfl rfl Try.func9 (by kernel_rfl) rfl #[.slice A0_1 l0_1.length c0_1] rfl (by (try simp only [List.map_toArray, List.map_cons, List.map_nil]); first | done | rfl | (simp only [List.length_drop, List.length_take]; rfl)) ?_; (with_reducible refine (banksmanref10_Few.calls k _ _ l0_1 true _ ?side1 ?side2 A9.out).mono ?_); (case side1 => repeat (first | exact (Kd.C_below HR0_1.out HB.out) | (with_reducible refine Kd.C_alloc ?_ _) | (with_reducible refine Kd.C_drewN ?_ _) | (with_reducible refine Kd.C_drew ?_))); (case side2 => exact HC0_1.out); rintro e w' ⟨rfl, ⟨nd, rfl⟩⟩; refine ⟨_, rfl, ?_⟩) | (go_at_call 10; (refine (banksmanref08_Few.calls k _ _ l1 _ _ ([] : List Int) false _ ?side1 ?side2 ?side3 ?side4 A11.out).mono ?_); (case side1 => repeat (first | exact (Kd.C_below HR1.out (by repeat (first | (with_reducible first | exact HB.out | apply below_alloc | apply pw_below_drewN | apply below_drew1 | refine below_set ?_ GE407.out) | exact HB.out))) | (with_reducible refine Kd.C_alloc ?_ _) | (with_reducible refine Kd.C_drewN ?_ _) | (with_reducible refine Kd.C_drew ?_))); (case side2 => exact HC1.out); (case side3 => exact Kd.C_nil _ _); (case side4 => exact Nat.le_refl _); rintro e w18 ⟨rfl, hb⟩; have n0_ := Aside0.mk (blk_below (g := gb407) (o := .cells #[.int .i64 a0_0, .slice A0_1 l0_1.length c0_1] 24 (0, 0)) (by (with_reducible repeat (first | refine blk_drewN ?_ _ | refine blk_drew ?_ | refine blk_alloc ?_ _)); exact BK407.out) hb); have n1_ := Aside0.mk (below_step (by repeat (first | (with_reducible first | exact HB.out | apply below_alloc | apply pw_below_drewN | apply below_drew1 | refine below_set ?_ GE407.out) | exact HB.out)) hb); clear BK407; clear HB; have BK407 := n0_; have HB := n1_; clear n0_ n1_; (try clear hb); (try clear hb2); (try clear hk); (try clear hi)))
        go_meet
        case rel => exact ⟨_, (true), (by first | rfl | (simp; done) | (simp [*]; done)), H', ⟨by first | omega | exact Nat.le_refl _⟩, ⟨by (with_reducible repeat (first | refine blk_drewN ?_ _ | refine blk_drew ?_ | refine blk_alloc ?_ _)); exact BK407.out⟩, ⟨by repeat (first | (with_reducible first | exact HB.out | apply below_alloc | apply pw_below_drewN | apply below_drew1 | refine below_set ?_ GE407.out) | exact HB.out)⟩⟩
    · replace c10 := Bool.eq_false_iff.mpr c10
      subst c10
      have H1 : (banksmanlaw14_RivalFree.j0 k l1 l2 l3 t408 true a0_0 l0_1) = some r := by rw [if_neg (show ¬ (false = true) by decide)] at H; exact H
      clear H
      have H := H1
      clear H1
      have H' := Aside0.mk H
      clear H
      have hcz19_0 : w8.cell? ⟨gb407, 0, none⟩ = some (.int .i64 a0_0) := (blk_cell BK407.out 0).trans rfl
      have hcz19_1 : w8.cell? ⟨gb407, 1, none⟩ = some (.slice A0_1 l0_1.length c0_1) := (blk_cell BK407.out 1).trans rfl
      have hfz19_0 := blk_frozen BK407.out 0
      have hfz19_1 := blk_frozen BK407.out 1
      go_wp2_with (first | ((with_reducible refine gate_callee (f := 9) rfl ?_); refine goesL_ (some 21) rfl rfl Try.func9 (by kernel_rfl) rfl #[.slice A0_1 l0_1.length c0_1] rfl (by (try simp only [List.map_toArray, List.map_cons, List.map_nil]); first | done | rfl | (simp only [List.length_drop, List.length_take]; rfl)) ?_; (with_reducible refine (banksmanref10_Few.calls k _ _ l0_1 false _ ?side1 ?side2 A9.out).mono ?_); (case side1 => repeat (first | exact (Kd.C_below HR0_1.out HB.out) | (with_reducible refine Kd.C_alloc ?_ _) | (with_reducible refine Kd.C_drewN ?_ _) | (with_reducible refine Kd.C_drew ?_))); (case side2 => exact HC0_1.out); rintro e w' ⟨rfl, ⟨nd, rfl⟩⟩; refine ⟨_, rfl, ?_⟩))
      go_meet
      case rel => exact ⟨_, (true), (by first | rfl | (simp; done) | (simp [*]; done)), H', ⟨by first | omega | exact Nat.le_refl _⟩, ⟨by (with_reducible repeat (first | refine blk_drewN ?_ _ | refine blk_drew ?_ | refine blk_alloc ?_ _)); exact BK407.out⟩, ⟨by repeat (first | (with_reducible first | exact HB.out | apply below_alloc | apply pw_below_drewN | apply below_drew1 | refine below_set ?_ GE407.out) | exact HB.out)⟩⟩
  case rest =>
    clear HC6
    try clear c1
    try clear c2
    try clear p2
    try clear c3
    try clear c5
    try clear c8
    try clear c9
    try clear c10
    try clear c12
    try clear hcz14_0
    try clear hcz14_1
    try clear hcz17_0
    try clear hcz17_1
    try clear hcz19_0
    try clear hcz19_1
    try clear hfz14_0
    try clear hfz14_1
    try clear hfz17_0
    try clear hfz17_1
    try clear hfz19_0
    try clear hfz19_1
    obtain ⟨kq, x34_5, rfl, HA, HJ5, BK407, HB⟩ := hcut
    cases kq with
    | zero => exact absurd HA.out (by simp [banksmanlaw14_RivalFree.j0])
    | succ kj5 =>
      have H := HA.out
      clear HA
      simp only [banksmanlaw14_RivalFree.j0] at H
      by_cases c20 : x34_5 = true
      · subst c20
        have H1 : (some t408) = some r := by rw [if_pos rfl] at H; exact H
        clear H
        have H := H1
        clear H1
        obtain rfl := Option.some.inj H
        go_wp2
        go_ret
        exact ⟨by first | rfl | (simp [errW_none, errW_some] <;> rfl) | (simp [*, errW_none, errW_some] <;> rfl), by repeat (first | (with_reducible first | exact HB.out | apply below_alloc | apply pw_below_drewN | apply below_drew1 | refine below_set ?_ GE407.out) | exact HB.out)⟩
      · replace c20 := Bool.eq_false_iff.mpr c20
        subst c20
        have H1 : (banksmanlaw14_RivalFree.l0 kj5 l1 l2 l3 t408 true 0 a0_0 l0_1) = some r := by rw [if_neg (show ¬ (false = true) by decide)] at H; exact H
        clear H
        have H := H1
        clear H1
        have H' := Aside0.mk H
        clear H
        go_wp2
        go_loopg [10, 11] kj5 (fun kq v10 v11 w' => ∃ (x10_2 : Bool) (x11_2 : Int), v10 = .bool x10_2 ∧ v11 = .int .i64 x11_2 ∧ Aside0 (banksmanlaw14_RivalFree.l0 kq l1 l2 l3 t408 x10_2 x11_2 a0_0 l0_1 = some r) ∧ Aside0 (kq ≤ kj5) ∧ Aside0 (w'.heap[gb407]? = some (.cells #[.int .i64 a0_0, (.slice A0_1 l0_1.length c0_1)] 24 (0, 0))) ∧ Aside0 (Below w.heap.size w w'))
        case atStart => exact ⟨(true), (0), (by first | rfl | (simp; done) | (simp [*]; done)), (by first | rfl | (simp; done) | (simp [*]; done)), H', ⟨Nat.le_refl _⟩, ⟨by (with_reducible repeat (first | refine blk_drewN ?_ _ | refine blk_drew ?_ | refine blk_alloc ?_ _)); exact BK407.out⟩, ⟨by repeat (first | (with_reducible first | exact HB.out | apply below_alloc | apply pw_below_drewN | apply below_drew1 | refine below_set ?_ GE407.out) | exact HB.out)⟩⟩
        case round =>
          clear H'
          try clear c1
          try clear c2
          try clear p2
          try clear c3
          try clear c5
          try clear c8
          try clear c9
          try clear c10
          try clear c12
          try clear c20
          try clear hcz14_0
          try clear hcz14_1
          try clear hcz17_0
          try clear hcz17_1
          try clear hcz19_0
          try clear hcz19_1
          try clear hfz14_0
          try clear hfz14_1
          try clear hfz17_0
          try clear hfz17_1
          try clear hfz19_0
          try clear hfz19_1
          try clear p2
          obtain ⟨x10_2, x11_2, rfl, rfl, HA, HK2, BK407, HB⟩ := hrel
          cases gk with
          | zero => exact absurd HA.out (by simp [banksmanlaw14_RivalFree.l0])
          | succ k2 =>
            have H := HA.out
            clear HA
            simp only [banksmanlaw14_RivalFree.l0] at H
            by_cases c21 : x11_2 < (l2.length : Int)
            · rw [if_pos c21] at H
              have c21b0 : decide (x11_2 < (l2.length : Int)) = true := decide_eq_true c21
              clear c21
              by_cases c22 : 0 ≤ x11_2
              · rw [if_pos c22] at H
                have c22b0 : decide (0 ≤ x11_2) = true := decide_eq_true c22
                clear c22
                replace H := Option.bind_eq_some_iff.mp H
                obtain ⟨t417, A230, H⟩ := H
                replace H : ((banksmanref13_Same.f k2 ((rd_T50 l2 x11_2).f4) l1).bind fun t419 => (if ((rd_T50 l2 x11_2).f1) > a0_0 then (if t417 = true then (banksmanlaw14_RivalFree.l0 k2 l1 l2 l3 t408 false (wrap64 (x11_2 + 1)) a0_0 l0_1) else (if t419 = true then (banksmanlaw14_RivalFree.l0 k2 l1 l2 l3 t408 false (wrap64 (x11_2 + 1)) a0_0 l0_1) else (banksmanlaw14_RivalFree.l0 k2 l1 l2 l3 t408 x10_2 (wrap64 (x11_2 + 1)) a0_0 l0_1))) else (banksmanlaw14_RivalFree.l0 k2 l1 l2 l3 t408 x10_2 (wrap64 (x11_2 + 1)) a0_0 l0_1))) = some r := H
                have A23 := Aside0.mk A230
                clear A230
                replace H := Option.bind_eq_some_iff.mp H
                obtain ⟨t419, A240, H⟩ := H
                replace H : (if ((rd_T50 l2 x11_2).f1) > a0_0 then (if t417 = true then (banksmanlaw14_RivalFree.l0 k2 l1 l2 l3 t408 false (wrap64 (x11_2 + 1)) a0_0 l0_1) else (if t419 = true then (banksmanlaw14_RivalFree.l0 k2 l1 l2 l3 t408 false (wrap64 (x11_2 + 1)) a0_0 l0_1) else (banksmanlaw14_RivalFree.l0 k2 l1 l2 l3 t408 x10_2 (wrap64 (x11_2 + 1)) a0_0 l0_1))) else (banksmanlaw14_RivalFree.l0 k2 l1 l2 l3 t408 x10_2 (wrap64 (x11_2 + 1)) a0_0 l0_1)) = some r := H
                have A24 := Aside0.mk A240
                clear A240
                by_cases c25 : ((rd_T50 l2 x11_2).f1) > a0_0
                · rw [if_pos c25] at H
                  have c25b0 : decide (a0_0 < ((rd_T50 l2 x11_2).f1)) = true := decide_eq_true c25
                  clear c25
                  by_cases c26 : t417 = true
                  · subst c26
                    have H1 : (banksmanlaw14_RivalFree.l0 k2 l1 l2 l3 t408 false (wrap64 (x11_2 + 1)) a0_0 l0_1) = some r := by rw [if_pos rfl] at H; exact H
                    clear H
                    have H := H1
                    clear H1
                    have H' := Aside0.mk H
                    clear H
                    try go_wp2
                    have n0_ := Aside0.mk (blk_drew BK407.out)
                    have n1_ := Aside0.mk (below_drew1 HB.out)
                    clear BK407
                    clear HB
                    have BK407 := n0_
                    have HB := n1_
                    clear n0_ n1_
                    have p416 : 0 ≤ (x11_2 : Int) := of_decide_eq_true (by first | (with_reducible assumption) | assumption)
                    have q416 : x11_2 < (l2.length : Int) := of_decide_eq_true (by first | (with_reducible assumption) | assumption)
                    obtain ⟨ad416, A416_3, c416_3, A416_4, c416_4, e416, hx416_0, hx416_1, hx416_2, hx416_3, hx416_4, hx416_5, hl416_3, hi416_3, hl416_4, hi416_4⟩ := at_T50 HR2.out x11_2 p416 q416
                    have hw416_5 := hx416_5
                    have hw416_4 := hx416_4
                    have hw416_3 := hx416_3
                    have hw416_2 := hx416_2
                    have hw416_1 := hx416_1
                    have hw416_0 := hx416_0
                    cases e416
                    replace hx416_0 := (HB.out.cell (World.block_lt_of_cell? w _ hx416_0)).trans hx416_0
                    replace hx416_1 := (HB.out.cell (World.block_lt_of_cell? w _ hx416_1)).trans hx416_1
                    replace hx416_2 := (HB.out.cell (World.block_lt_of_cell? w _ hx416_2)).trans hx416_2
                    replace hx416_3 := (HB.out.cell (World.block_lt_of_cell? w _ hx416_3)).trans hx416_3
                    replace hx416_4 := (HB.out.cell (World.block_lt_of_cell? w _ hx416_4)).trans hx416_4
                    replace hx416_5 := (HB.out.cell (World.block_lt_of_cell? w _ hx416_5)).trans hx416_5
                    have HR416_3 := Aside0.mk hi416_3
                    have HC416_3 := Aside0.mk hl416_3
                    clear hi416_3 hl416_3
                    have HR416_4 := Aside0.mk hi416_4
                    have HC416_4 := Aside0.mk hl416_4
                    clear hi416_4 hl416_4
                    replace p416 := eq_true p416
                    replace q416 := eq_true q416
                    refine start_ (n := 9) (S := fun w' => w'.cell? ⟨gb407, 0, none⟩ = some (.int .i64 a0_0) ∧ w'.cell? ⟨gb407, 1, none⟩ = some (.slice A0_1 l0_1.length c0_1) ∧ w'.cell? (ad416.add ((x11_2).toNat * 6)) = some (.int .i64 ((rd_T50 l2 x11_2).f0)) ∧ w'.cell? ⟨(ad416.add ((x11_2).toNat * 6)).block, (ad416.add ((x11_2).toNat * 6)).off + 1, none⟩ = some (.int .i64 ((rd_T50 l2 x11_2).f1)) ∧ w'.cell? ⟨(ad416.add ((x11_2).toNat * 6)).block, (ad416.add ((x11_2).toNat * 6)).off + 2, none⟩ = some (.bool ((rd_T50 l2 x11_2).f2)) ∧ w'.cell? ⟨(ad416.add ((x11_2).toNat * 6)).block, (ad416.add ((x11_2).toNat * 6)).off + 3, none⟩ = some (.slice A416_3 ((rd_T50 l2 x11_2).f3).length c416_3) ∧ w'.cell? ⟨(ad416.add ((x11_2).toNat * 6)).block, (ad416.add ((x11_2).toNat * 6)).off + 4, none⟩ = some (.slice A416_4 ((rd_T50 l2 x11_2).f4).length c416_4) ∧ w'.cell? ⟨(ad416.add ((x11_2).toNat * 6)).block, (ad416.add ((x11_2).toNat * 6)).off + 5, none⟩ = some (.bool ((rd_T50 l2 x11_2).f5))) (ds := []) #[false, false, false, false, false, false, false, false, false] (by kernel_rfl) rfl rfl ⟨(blk_cell BK407.out 0).trans rfl, (blk_cell BK407.out 1).trans rfl, ((HB.out.cell (World.block_lt_of_cell? w _ hw416_0)).trans hw416_0), ((HB.out.cell (World.block_lt_of_cell? w _ hw416_1)).trans hw416_1), ((HB.out.cell (World.block_lt_of_cell? w _ hw416_2)).trans hw416_2), ((HB.out.cell (World.block_lt_of_cell? w _ hw416_3)).trans hw416_3), ((HB.out.cell (World.block_lt_of_cell? w _ hw416_4)).trans hw416_4), ((HB.out.cell (World.block_lt_of_cell? w _ hw416_5)).trans hw416_5)⟩ (fun hHeld => ?_); refine with_tabW banksmanlaw14_RivalFree.tab8 banksmanlaw14_RivalFree.bits8 (fun HT_ HW_ => ?_)
                    generalize wr.drew = w27 at BK407 HB HR416_3 HR416_4 hx416_0 hx416_1 hx416_2 hx416_3 hx416_4 hx416_5 hHeld ⊢
                    refine pure_ (i := 0) (N := some 42) (v := ?_) (a' := ?_) #[true, false, false, false, false, false, false, false, false] rfl rfl (any_of HT_.out (by kernel_rfl)) (fun _ _ _ h => h) (Or.inl ⟨by rfl, ?_⟩) ?_ ?_
                    rotate_left
                    · intro w'
                      go_simp
                      with_reducible rfl
                    rotate_left
                    · simp only [Act.put, List.setIfInBounds_toArray, List.set_cons_zero, List.set_cons_succ, i64_w, i32_w]
                      rfl
                    refine pure_ (i := 2) (N := some 44) (v := ?_) (a' := ?_) #[true, false, true, false, false, false, false, false, false] rfl rfl (any_of HT_.out (by kernel_rfl)) (fun _ _ _ h => h) (Or.inl ⟨by rfl, ?_⟩) ?_ ?_
                    rotate_left
                    · intro w'
                      go_simp
                      with_reducible rfl
                    rotate_left
                    · simp only [Act.put, List.setIfInBounds_toArray, List.set_cons_zero, List.set_cons_succ, i64_w, i32_w]
                      rfl
                    refine pure_ (i := 3) (N := some 45) (v := ?_) (a' := ?_) #[true, false, true, true, false, false, false, false, false] rfl rfl (any_of HT_.out (by kernel_rfl)) (fun _ _ _ h => h) (Or.inl ⟨by rfl, ?_⟩) ?_ ?_
                    rotate_left
                    · intro w'
                      go_simp
                      with_reducible rfl
                    rotate_left
                    · simp only [Act.put, List.setIfInBounds_toArray, List.set_cons_zero, List.set_cons_succ, i64_w, i32_w]
                      rfl
                    refine pure_ (i := 4) (N := some 46) (v := ?_) (a' := ?_) #[true, false, true, true, true, false, false, false, false] rfl rfl (any_of HT_.out (by kernel_rfl)) (fun _ _ _ h => h) (Or.inl ⟨by rfl, ?_⟩) ?_ ?_
                    rotate_left
                    · intro w'
                      go_simp
                      with_reducible rfl
                    rotate_left
                    · simp only [Act.put, List.setIfInBounds_toArray, List.set_cons_zero, List.set_cons_succ, i64_w, i32_w]
                      rfl
                    refine pure_ (i := 5) (N := some 47) (v := ?_) (a' := ?_) #[true, false, true, true, true, true, false, false, false] rfl rfl (any_of HT_.out (by kernel_rfl)) (fun _ _ _ h => h) (Or.inl ⟨by rfl, ?_⟩) ?_ ?_
                    rotate_left
                    · intro w'
                      go_simp
                      with_reducible rfl
                    rotate_left
                    · simp only [Act.put, List.setIfInBounds_toArray, List.set_cons_zero, List.set_cons_succ, i64_w, i32_w]
                      rfl
                    refine take_ (i := 1) (N := some 43) (v := ?_) (a' := ?_) #[true, true, true, true, true, true, false, false, false] rfl rfl (take_ofW HT_.out HW_.out (by kernel_rfl)) (fun _ _ _ h => h) (Or.inl ⟨by rfl, ?_⟩) hHeld ?_ ?_
                    rotate_left
                    · rintro w' ⟨s0, s1, s2, s3, s4, s5, s6, s7⟩
                      go_simp
                      with_reducible rfl
                    rotate_left
                    · simp only [Act.put, List.setIfInBounds_toArray, List.set_cons_zero, List.set_cons_succ, i64_w, i32_w]
                      rfl
                    refine take_ (i := 6) (N := some 48) (v := ?_) (a' := ?_) #[true, true, true, true, true, true, true, false, false] rfl rfl (take_ofW HT_.out HW_.out (by kernel_rfl)) (fun _ _ _ h => h) (Or.inl ⟨by rfl, ?_⟩) hHeld ?_ ?_
                    rotate_left
                    · rintro w' ⟨s0, s1, s2, s3, s4, s5, s6, s7⟩
                      go_simp
                      with_reducible rfl
                    rotate_left
                    · simp only [Act.put, List.setIfInBounds_toArray, List.set_cons_zero, List.set_cons_succ, i64_w, i32_w]
                      rfl
                    refine one_ (i := 7) (N := some 49) #[true, true, true, true, true, true, true, true, false] rfl rfl (one_of HT_.out (by kernel_rfl)) (by decide) (fun K hK => ?_)
                    refine goes_ Try.func19 (by kernel_rfl) rfl #[.slice A0_1 l0_1.length c0_1, .slice A416_4 ((rd_T50 l2 x11_2).f4).length c416_4] (by rfl) rfl rfl (by (try simp only [List.map_toArray, List.map_cons, List.map_nil]); first | done | rfl | (simp only [List.length_drop, List.length_take]; rfl)) ?_
                    with_reducible refine (banksmanref13_Hit.calls k2 _ _ l0_1 _ _ ((rd_T50 l2 x11_2).f4) true _ ?side1 ?side2 ?side3 ?side4 A23.out).mono ?_
                    (case side1 => repeat (first | exact (Kd.C_below HR0_1.out HB.out) | (with_reducible refine Kd.C_alloc ?_ _) | (with_reducible refine Kd.C_drewN ?_ _) | (with_reducible refine Kd.C_drew ?_)))
                    (case side2 => exact HC0_1.out)
                    (case side3 => repeat (first | exact (Kd.C_below HR416_4.out HB.out) | (with_reducible refine Kd.C_alloc ?_ _) | (with_reducible refine Kd.C_drewN ?_ _) | (with_reducible refine Kd.C_drew ?_)))
                    (case side4 => exact HC416_4.out)
                    rintro e w28 ⟨rfl, hb⟩
                    refine ⟨_, rfl, ?_⟩
                    have n0_ := Aside0.mk (blk_below (g := gb407) (o := .cells #[.int .i64 a0_0, .slice A0_1 l0_1.length c0_1] 24 (0, 0)) (by (with_reducible repeat (first | refine blk_drewN ?_ _ | refine blk_drew ?_ | refine blk_alloc ?_ _)); exact BK407.out) hb)
                    have n1_ := Aside0.mk (below_step (by repeat (first | (with_reducible first | exact HB.out | apply below_alloc | apply pw_below_drewN | apply below_drew1 | refine below_set ?_ GE407.out) | exact HB.out)) hb)
                    clear BK407
                    clear HB
                    have BK407 := n0_
                    have HB := n1_
                    clear n0_ n1_
                    (try clear hb)
                    (try clear hb2)
                    (try clear hk)
                    (try clear hi)
                    refine hK.out _ _ ⟨(blk_cell BK407.out 0).trans rfl, (blk_cell BK407.out 1).trans rfl, ((HB.out.cell (World.block_lt_of_cell? w _ hw416_0)).trans hw416_0), ((HB.out.cell (World.block_lt_of_cell? w _ hw416_1)).trans hw416_1), ((HB.out.cell (World.block_lt_of_cell? w _ hw416_2)).trans hw416_2), ((HB.out.cell (World.block_lt_of_cell? w _ hw416_3)).trans hw416_3), ((HB.out.cell (World.block_lt_of_cell? w _ hw416_4)).trans hw416_4), ((HB.out.cell (World.block_lt_of_cell? w _ hw416_5)).trans hw416_5)⟩ (fun hHeld => ?_)
                    clear hK K
                    refine norm_ (a' := ?_) ?_ ?_
                    rotate_left
                    · show Act.put _ (some 49) _ = _
                      simp only [Act.put, List.setIfInBounds_toArray, List.set_cons_zero, List.set_cons_succ, i64_w, i32_w]
                      rfl
                    refine pure_ (i := 8) (N := some 12) (v := ?_) (a' := ?_) #[true, true, true, true, true, true, true, true, true] rfl rfl (any_of HT_.out (by kernel_rfl)) (fun _ _ _ h => h) (Or.inl ⟨by rfl, ?_⟩) ?_ ?_
                    rotate_left
                    · intro w'
                      go_simp
                      with_reducible rfl
                    rotate_left
                    · simp only [Act.put, List.setIfInBounds_toArray, List.set_cons_zero, List.set_cons_succ, i64_w, i32_w]
                      rfl
                    refine done_ (done_of HT_.out (by kernel_rfl)) ?_
                    have p418 : 0 ≤ (x11_2 : Int) := of_decide_eq_true (by first | (with_reducible assumption) | assumption)
                    have q418 : x11_2 < (l2.length : Int) := of_decide_eq_true (by first | (with_reducible assumption) | assumption)
                    obtain ⟨ad418, A418_3, c418_3, A418_4, c418_4, e418, hx418_0, hx418_1, hx418_2, hx418_3, hx418_4, hx418_5, hl418_3, hi418_3, hl418_4, hi418_4⟩ := at_T50 HR2.out x11_2 p418 q418
                    obtain rfl : ad416 = ad418 := (by injection e418)
                    (try (have ea_ := Option.some.inj (hx418_3.symm.trans hw416_3); injection ea_ with ea_ en_ ec_; subst ea_; subst ec_; clear en_))
                    (try (have ea_ := Option.some.inj (hx418_4.symm.trans hw416_4); injection ea_ with ea_ en_ ec_; subst ea_; subst ec_; clear en_))
                    replace hx418_0 := (HB.out.cell (World.block_lt_of_cell? w _ hx418_0)).trans hx418_0
                    replace hx418_1 := (HB.out.cell (World.block_lt_of_cell? w _ hx418_1)).trans hx418_1
                    replace hx418_2 := (HB.out.cell (World.block_lt_of_cell? w _ hx418_2)).trans hx418_2
                    replace hx418_3 := (HB.out.cell (World.block_lt_of_cell? w _ hx418_3)).trans hx418_3
                    replace hx418_4 := (HB.out.cell (World.block_lt_of_cell? w _ hx418_4)).trans hx418_4
                    replace hx418_5 := (HB.out.cell (World.block_lt_of_cell? w _ hx418_5)).trans hx418_5
                    have HR418_3 := Aside0.mk hi418_3
                    have HC418_3 := Aside0.mk hl418_3
                    clear hi418_3 hl418_3
                    have HR418_4 := Aside0.mk hi418_4
                    have HC418_4 := Aside0.mk hl418_4
                    clear hi418_4 hl418_4
                    replace p418 := eq_true p418
                    replace q418 := eq_true q418
                    try go_wp2_with (first | ((with_reducible refine gate_callee (f := 20) rfl ?_); refine goesL_ (some 56) rfl rfl Try.func20 (by kernel_rfl) rfl #[.slice A418_4 ((rd_T50 l2 x11_2).f4).length c418_4, .slice A1 l1.length c1] rfl (by (try simp only [List.map_toArray, List.map_cons, List.map_nil]); first | done | rfl | (simp only [List.length_drop, List.length_take]; rfl)) ?_; (with_reducible refine (banksmanref13_Same.calls k2 _ _ ((rd_T50 l2 x11_2).f4) _ _ l1 t419 _ ?side1 ?side2 ?side3 ?side4 A24.out).mono ?_); (case side1 => repeat (first | exact (Kd.C_below HR418_4.out HB.out) | (with_reducible refine Kd.C_alloc ?_ _) | (with_reducible refine Kd.C_drewN ?_ _) | (with_reducible refine Kd.C_drew ?_))); (case side2 => exact HC418_4.out); (case side3 => repeat (first | exact (Kd.C_below HR1.out HB.out) | (with_reducible refine Kd.C_alloc ?_ _) | (with_reducible refine Kd.C_drewN ?_ _) | (with_reducible refine Kd.C_drew ?_))); (case side4 => exact HC1.out); rintro e w' ⟨rfl, ⟨nd, rfl⟩⟩; refine ⟨_, rfl, ?_⟩))
                    (try (rw [drewN_self w28]; generalize hq_ : World.drewN w28 _ = w28; have n0_ : Aside0 (w28.heap[gb407]? = some (.cells #[.int .i64 a0_0, .slice A0_1 l0_1.length c0_1] 24 (0, 0))) := ⟨by rw [← hq_]; exact (by (with_reducible repeat (first | refine blk_drewN ?_ _ | refine blk_drew ?_ | refine blk_alloc ?_ _)); exact BK407.out)⟩; have n1_ : Aside0 (Below w.heap.size w w28) := ⟨by rw [← hq_]; exact (by repeat (first | (with_reducible first | exact HB.out | apply below_alloc | apply pw_below_drewN | apply below_drew1 | refine below_set ?_ GE407.out) | exact HB.out))⟩; clear BK407 HB hq_; have BK407 := n0_; have HB := n1_; clear n0_ n1_))
                    have n0_ := Aside0.mk (blk_drew BK407.out)
                    have n1_ := Aside0.mk (below_drew1 HB.out)
                    clear BK407
                    clear HB
                    have BK407 := n0_
                    have HB := n1_
                    clear n0_ n1_
                    have p420 : 0 ≤ (x11_2 : Int) := of_decide_eq_true (by first | (with_reducible assumption) | assumption)
                    have q420 : x11_2 < (l2.length : Int) := of_decide_eq_true (by first | (with_reducible assumption) | assumption)
                    obtain ⟨ad420, A420_3, c420_3, A420_4, c420_4, e420, hx420_0, hx420_1, hx420_2, hx420_3, hx420_4, hx420_5, hl420_3, hi420_3, hl420_4, hi420_4⟩ := at_T50 HR2.out x11_2 p420 q420
                    have hw420_5 := hx420_5
                    have hw420_4 := hx420_4
                    have hw420_3 := hx420_3
                    have hw420_2 := hx420_2
                    have hw420_1 := hx420_1
                    have hw420_0 := hx420_0
                    obtain rfl : ad416 = ad420 := (by injection e420)
                    (try (have ea_ := Option.some.inj (hx420_3.symm.trans hw416_3); injection ea_ with ea_ en_ ec_; subst ea_; subst ec_; clear en_))
                    (try (have ea_ := Option.some.inj (hx420_4.symm.trans hw416_4); injection ea_ with ea_ en_ ec_; subst ea_; subst ec_; clear en_))
                    (try (have ea_ := Option.some.inj (hx420_3.symm.trans hw420_3); injection ea_ with ea_ en_ ec_; subst ea_; subst ec_; clear en_))
                    (try (have ea_ := Option.some.inj (hx420_4.symm.trans hw420_4); injection ea_ with ea_ en_ ec_; subst ea_; subst ec_; clear en_))
                    replace hx420_0 := (HB.out.cell (World.block_lt_of_cell? w _ hx420_0)).trans hx420_0
                    replace hx420_1 := (HB.out.cell (World.block_lt_of_cell? w _ hx420_1)).trans hx420_1
                    replace hx420_2 := (HB.out.cell (World.block_lt_of_cell? w _ hx420_2)).trans hx420_2
                    replace hx420_3 := (HB.out.cell (World.block_lt_of_cell? w _ hx420_3)).trans hx420_3
                    replace hx420_4 := (HB.out.cell (World.block_lt_of_cell? w _ hx420_4)).trans hx420_4
                    replace hx420_5 := (HB.out.cell (World.block_lt_of_cell? w _ hx420_5)).trans hx420_5
                    have HR420_3 := Aside0.mk hi420_3
                    have HC420_3 := Aside0.mk hl420_3
                    clear hi420_3 hl420_3
                    have HR420_4 := Aside0.mk hi420_4
                    have HC420_4 := Aside0.mk hl420_4
                    clear hi420_4 hl420_4
                    replace p420 := eq_true p420
                    replace q420 := eq_true q420
                    refine start_ (n := 14) (S := fun w' => w'.cell? ⟨gb407, 0, none⟩ = some (.int .i64 a0_0) ∧ w'.cell? ⟨gb407, 1, none⟩ = some (.slice A0_1 l0_1.length c0_1) ∧ w'.cell? (ad416.add ((x11_2).toNat * 6)) = some (.int .i64 ((rd_T50 l2 x11_2).f0)) ∧ w'.cell? ⟨(ad416.add ((x11_2).toNat * 6)).block, (ad416.add ((x11_2).toNat * 6)).off + 1, none⟩ = some (.int .i64 ((rd_T50 l2 x11_2).f1)) ∧ w'.cell? ⟨(ad416.add ((x11_2).toNat * 6)).block, (ad416.add ((x11_2).toNat * 6)).off + 2, none⟩ = some (.bool ((rd_T50 l2 x11_2).f2)) ∧ w'.cell? ⟨(ad416.add ((x11_2).toNat * 6)).block, (ad416.add ((x11_2).toNat * 6)).off + 3, none⟩ = some (.slice A420_3 ((rd_T50 l2 x11_2).f3).length c420_3) ∧ w'.cell? ⟨(ad416.add ((x11_2).toNat * 6)).block, (ad416.add ((x11_2).toNat * 6)).off + 4, none⟩ = some (.slice A420_4 ((rd_T50 l2 x11_2).f4).length c420_4) ∧ w'.cell? ⟨(ad416.add ((x11_2).toNat * 6)).block, (ad416.add ((x11_2).toNat * 6)).off + 5, none⟩ = some (.bool ((rd_T50 l2 x11_2).f5))) (ds := []) #[false, false, false, false, false, false, false, false, false, false, false, false, false, false] (by kernel_rfl) rfl rfl ⟨(blk_cell BK407.out 0).trans rfl, (blk_cell BK407.out 1).trans rfl, ((HB.out.cell (World.block_lt_of_cell? w _ hw420_0)).trans hw420_0), ((HB.out.cell (World.block_lt_of_cell? w _ hw420_1)).trans hw420_1), ((HB.out.cell (World.block_lt_of_cell? w _ hw420_2)).trans hw420_2), ((HB.out.cell (World.block_lt_of_cell? w _ hw420_3)).trans hw420_3), ((HB.out.cell (World.block_lt_of_cell? w _ hw420_4)).trans hw420_4), ((HB.out.cell (World.block_lt_of_cell? w _ hw420_5)).trans hw420_5)⟩ (fun hHeld => ?_); refine with_tabW banksmanlaw14_RivalFree.tab10 banksmanlaw14_RivalFree.bits10 (fun HT_ HW_ => ?_)
                    generalize w28.drew = w29 at BK407 HB HR420_3 HR420_4 hx420_0 hx420_1 hx420_2 hx420_3 hx420_4 hx420_5 hHeld ⊢
                    refine pure_ (i := 0) (N := some 57) (v := ?_) (a' := ?_) #[true, false, false, false, false, false, false, false, false, false, false, false, false, false] rfl rfl (any_of HT_.out (by kernel_rfl)) (fun _ _ _ h => h) (Or.inl ⟨by rfl, ?_⟩) ?_ ?_
                    rotate_left
                    · intro w'
                      go_simp
                      with_reducible rfl
                    rotate_left
                    · simp only [Act.put, List.setIfInBounds_toArray, List.set_cons_zero, List.set_cons_succ, i64_w, i32_w]
                      rfl
                    refine pure_ (i := 1) (N := some 58) (v := ?_) (a' := ?_) #[true, true, false, false, false, false, false, false, false, false, false, false, false, false] rfl rfl (any_of HT_.out (by kernel_rfl)) (fun _ _ _ h => h) (Or.inl ⟨by rfl, ?_⟩) ?_ ?_
                    rotate_left
                    · intro w'
                      go_simp
                      with_reducible rfl
                    rotate_left
                    · simp only [Act.put, List.setIfInBounds_toArray, List.set_cons_zero, List.set_cons_succ, i64_w, i32_w]
                      rfl
                    refine pure_ (i := 2) (N := some 59) (v := ?_) (a' := ?_) #[true, true, true, false, false, false, false, false, false, false, false, false, false, false] rfl rfl (any_of HT_.out (by kernel_rfl)) (fun _ _ _ h => h) (Or.inl ⟨by rfl, ?_⟩) ?_ ?_
                    rotate_left
                    · intro w'
                      go_simp
                      with_reducible rfl
                    rotate_left
                    · simp only [Act.put, List.setIfInBounds_toArray, List.set_cons_zero, List.set_cons_succ, i64_w, i32_w]
                      rfl
                    refine pure_ (i := 3) (N := some 60) (v := ?_) (a' := ?_) #[true, true, true, true, false, false, false, false, false, false, false, false, false, false] rfl rfl (any_of HT_.out (by kernel_rfl)) (fun _ _ _ h => h) (Or.inl ⟨by rfl, ?_⟩) ?_ ?_
                    rotate_left
                    · intro w'
                      go_simp
                      with_reducible rfl
                    rotate_left
                    · simp only [Act.put, List.setIfInBounds_toArray, List.set_cons_zero, List.set_cons_succ, i64_w, i32_w]
                      rfl
                    refine pure_ (i := 5) (N := some 62) (v := ?_) (a' := ?_) #[true, true, true, true, false, true, false, false, false, false, false, false, false, false] rfl rfl (any_of HT_.out (by kernel_rfl)) (fun _ _ _ h => h) (Or.inl ⟨by rfl, ?_⟩) ?_ ?_
                    rotate_left
                    · intro w'
                      go_simp
                      with_reducible rfl
                    rotate_left
                    · simp only [Act.put, List.setIfInBounds_toArray, List.set_cons_zero, List.set_cons_succ, i64_w, i32_w]
                      rfl
                    refine take_ (i := 4) (N := some 61) (v := ?_) (a' := ?_) #[true, true, true, true, true, true, false, false, false, false, false, false, false, false] rfl rfl (take_ofW HT_.out HW_.out (by kernel_rfl)) (fun _ _ _ h => h) (Or.inl ⟨by rfl, ?_⟩) hHeld ?_ ?_
                    rotate_left
                    · rintro w' ⟨s0, s1, s2, s3, s4, s5, s6, s7⟩
                      go_simp
                      with_reducible rfl
                    rotate_left
                    · simp only [Act.put, List.setIfInBounds_toArray, List.set_cons_zero, List.set_cons_succ, i64_w, i32_w]
                      rfl
                    refine take_ (i := 6) (N := some 63) (v := ?_) (a' := ?_) #[true, true, true, true, true, true, true, false, false, false, false, false, false, false] rfl rfl (take_ofW HT_.out HW_.out (by kernel_rfl)) (fun _ _ _ h => h) (Or.inl ⟨by rfl, ?_⟩) hHeld ?_ ?_
                    rotate_left
                    · rintro w' ⟨s0, s1, s2, s3, s4, s5, s6, s7⟩
                      go_simp
                      with_reducible rfl
                    rotate_left
                    · simp only [Act.put, List.setIfInBounds_toArray, List.set_cons_zero, List.set_cons_succ, i64_w, i32_w]
                      rfl
                    refine pure_ (i := 7) (N := some 64) (v := ?_) (a' := ?_) #[true, true, true, true, true, true, true, true, false, false, false, false, false, false] rfl rfl (any_of HT_.out (by kernel_rfl)) (fun _ _ _ h => h) (Or.inl ⟨by rfl, ?_⟩) ?_ ?_
                    rotate_left
                    · intro w'
                      go_simp
                      with_reducible rfl
                    rotate_left
                    · simp only [Act.put, List.setIfInBounds_toArray, List.set_cons_zero, List.set_cons_succ, i64_w, i32_w]
                      rfl
                    refine pure_ (i := 8) (N := some 65) (v := ?_) (a' := ?_) #[true, true, true, true, true, true, true, true, true, false, false, false, false, false] rfl rfl (any_of HT_.out (by kernel_rfl)) (fun _ _ _ h => h) (Or.inl ⟨by rfl, ?_⟩) ?_ ?_
                    rotate_left
                    · intro w'
                      go_simp
                      with_reducible rfl
                    rotate_left
                    · simp only [Act.put, List.setIfInBounds_toArray, List.set_cons_zero, List.set_cons_succ, i64_w, i32_w]
                      rfl
                    refine pure_ (i := 9) (N := some 66) (v := ?_) (a' := ?_) #[true, true, true, true, true, true, true, true, true, true, false, false, false, false] rfl rfl (any_of HT_.out (by kernel_rfl)) (fun _ _ _ h => h) (Or.inl ⟨by rfl, ?_⟩) ?_ ?_
                    rotate_left
                    · intro w'
                      go_simp
                      with_reducible rfl
                    rotate_left
                    · simp only [Act.put, List.setIfInBounds_toArray, List.set_cons_zero, List.set_cons_succ, i64_w, i32_w]
                      rfl
                    refine pure_ (i := 10) (N := some 67) (v := ?_) (a' := ?_) #[true, true, true, true, true, true, true, true, true, true, true, false, false, false] rfl rfl (any_of HT_.out (by kernel_rfl)) (fun _ _ _ h => h) (Or.inl ⟨by rfl, ?_⟩) ?_ ?_
                    rotate_left
                    · intro w'
                      go_simp
                      with_reducible rfl
                    rotate_left
                    · simp only [Act.put, List.setIfInBounds_toArray, List.set_cons_zero, List.set_cons_succ, i64_w, i32_w]
                      rfl
                    refine pure_ (i := 11) (N := some 68) (v := undef) (a' := ?_) #[true, true, true, true, true, true, true, true, true, true, true, true, false, false] rfl rfl (any_of HT_.out (by kernel_rfl)) (fun _ _ _ h => h) (Or.inr ⟨by rfl, rfl⟩) ?_ ?_
                    rotate_left
                    · simp only [Act.put, List.setIfInBounds_toArray, List.set_cons_zero, List.set_cons_succ, i64_w, i32_w]
                      rfl
                    refine pure_ (i := 12) (N := some 69) (v := ?_) (a' := ?_) #[true, true, true, true, true, true, true, true, true, true, true, true, true, false] rfl rfl (any_of HT_.out (by kernel_rfl)) (fun _ _ _ h => h) (Or.inl ⟨by rfl, ?_⟩) ?_ ?_
                    rotate_left
                    · intro w'
                      go_simp
                      with_reducible rfl
                    rotate_left
                    · simp only [Act.put, List.setIfInBounds_toArray, List.set_cons_zero, List.set_cons_succ, i64_w, i32_w]
                      rfl
                    refine pure_ (i := 13) (N := some 70) (v := ?_) (a' := ?_) #[true, true, true, true, true, true, true, true, true, true, true, true, true, true] rfl rfl (any_of HT_.out (by kernel_rfl)) (fun _ _ _ h => h) (Or.inl ⟨by rfl, ?_⟩) ?_ ?_
                    rotate_left
                    · intro w'
                      go_simp
                      with_reducible rfl
                    rotate_left
                    · simp only [Act.put, List.setIfInBounds_toArray, List.set_cons_zero, List.set_cons_succ, i64_w, i32_w]
                      rfl
                    refine done_ (done_of HT_.out (by kernel_rfl)) ?_
                    try go_wp2
                    go_roundg k2
                    case measure => have := HJ5.out; have := HK2.out; omega
                    case rel => exact ⟨(false), (wrap64 (x11_2 + 1)), (by first | rfl | (simp; done) | (simp [*]; done)), (by first | rfl | (simp; done) | (simp [*]; done)), H', ⟨by have := HJ5.out; have := HK2.out; omega⟩, ⟨by (with_reducible repeat (first | refine blk_drewN ?_ _ | refine blk_drew ?_ | refine blk_alloc ?_ _)); exact BK407.out⟩, ⟨by repeat (first | (with_reducible first | exact HB.out | apply below_alloc | apply pw_below_drewN | apply below_drew1 | refine below_set ?_ GE407.out) | exact HB.out)⟩⟩
                  · replace c26 := Bool.eq_false_iff.mpr c26
                    subst c26
                    have H1 : (if t419 = true then (banksmanlaw14_RivalFree.l0 k2 l1 l2 l3 t408 false (wrap64 (x11_2 + 1)) a0_0 l0_1) else (banksmanlaw14_RivalFree.l0 k2 l1 l2 l3 t408 x10_2 (wrap64 (x11_2 + 1)) a0_0 l0_1)) = some r := by rw [if_neg (show ¬ (false = true) by decide)] at H; exact H
                    clear H
                    have H := H1
                    clear H1
                    by_cases c30 : t419 = true
                    · subst c30
                      have H1 : (banksmanlaw14_RivalFree.l0 k2 l1 l2 l3 t408 false (wrap64 (x11_2 + 1)) a0_0 l0_1) = some r := by rw [if_pos rfl] at H; exact H
                      clear H
                      have H := H1
                      clear H1
                      have H' := Aside0.mk H
                      clear H
                      try go_wp2
                      have n0_ := Aside0.mk (blk_drew BK407.out)
                      have n1_ := Aside0.mk (below_drew1 HB.out)
                      clear BK407
                      clear HB
                      have BK407 := n0_
                      have HB := n1_
                      clear n0_ n1_
                      have p416 : 0 ≤ (x11_2 : Int) := of_decide_eq_true (by first | (with_reducible assumption) | assumption)
                      have q416 : x11_2 < (l2.length : Int) := of_decide_eq_true (by first | (with_reducible assumption) | assumption)
                      obtain ⟨ad416, A416_3, c416_3, A416_4, c416_4, e416, hx416_0, hx416_1, hx416_2, hx416_3, hx416_4, hx416_5, hl416_3, hi416_3, hl416_4, hi416_4⟩ := at_T50 HR2.out x11_2 p416 q416
                      have hw416_5 := hx416_5
                      have hw416_4 := hx416_4
                      have hw416_3 := hx416_3
                      have hw416_2 := hx416_2
                      have hw416_1 := hx416_1
                      have hw416_0 := hx416_0
                      cases e416
                      replace hx416_0 := (HB.out.cell (World.block_lt_of_cell? w _ hx416_0)).trans hx416_0
                      replace hx416_1 := (HB.out.cell (World.block_lt_of_cell? w _ hx416_1)).trans hx416_1
                      replace hx416_2 := (HB.out.cell (World.block_lt_of_cell? w _ hx416_2)).trans hx416_2
                      replace hx416_3 := (HB.out.cell (World.block_lt_of_cell? w _ hx416_3)).trans hx416_3
                      replace hx416_4 := (HB.out.cell (World.block_lt_of_cell? w _ hx416_4)).trans hx416_4
                      replace hx416_5 := (HB.out.cell (World.block_lt_of_cell? w _ hx416_5)).trans hx416_5
                      have HR416_3 := Aside0.mk hi416_3
                      have HC416_3 := Aside0.mk hl416_3
                      clear hi416_3 hl416_3
                      have HR416_4 := Aside0.mk hi416_4
                      have HC416_4 := Aside0.mk hl416_4
                      clear hi416_4 hl416_4
                      replace p416 := eq_true p416
                      replace q416 := eq_true q416
                      refine start_ (n := 9) (S := fun w' => w'.cell? ⟨gb407, 0, none⟩ = some (.int .i64 a0_0) ∧ w'.cell? ⟨gb407, 1, none⟩ = some (.slice A0_1 l0_1.length c0_1) ∧ w'.cell? (ad416.add ((x11_2).toNat * 6)) = some (.int .i64 ((rd_T50 l2 x11_2).f0)) ∧ w'.cell? ⟨(ad416.add ((x11_2).toNat * 6)).block, (ad416.add ((x11_2).toNat * 6)).off + 1, none⟩ = some (.int .i64 ((rd_T50 l2 x11_2).f1)) ∧ w'.cell? ⟨(ad416.add ((x11_2).toNat * 6)).block, (ad416.add ((x11_2).toNat * 6)).off + 2, none⟩ = some (.bool ((rd_T50 l2 x11_2).f2)) ∧ w'.cell? ⟨(ad416.add ((x11_2).toNat * 6)).block, (ad416.add ((x11_2).toNat * 6)).off + 3, none⟩ = some (.slice A416_3 ((rd_T50 l2 x11_2).f3).length c416_3) ∧ w'.cell? ⟨(ad416.add ((x11_2).toNat * 6)).block, (ad416.add ((x11_2).toNat * 6)).off + 4, none⟩ = some (.slice A416_4 ((rd_T50 l2 x11_2).f4).length c416_4) ∧ w'.cell? ⟨(ad416.add ((x11_2).toNat * 6)).block, (ad416.add ((x11_2).toNat * 6)).off + 5, none⟩ = some (.bool ((rd_T50 l2 x11_2).f5))) (ds := []) #[false, false, false, false, false, false, false, false, false] (by kernel_rfl) rfl rfl ⟨(blk_cell BK407.out 0).trans rfl, (blk_cell BK407.out 1).trans rfl, ((HB.out.cell (World.block_lt_of_cell? w _ hw416_0)).trans hw416_0), ((HB.out.cell (World.block_lt_of_cell? w _ hw416_1)).trans hw416_1), ((HB.out.cell (World.block_lt_of_cell? w _ hw416_2)).trans hw416_2), ((HB.out.cell (World.block_lt_of_cell? w _ hw416_3)).trans hw416_3), ((HB.out.cell (World.block_lt_of_cell? w _ hw416_4)).trans hw416_4), ((HB.out.cell (World.block_lt_of_cell? w _ hw416_5)).trans hw416_5)⟩ (fun hHeld => ?_); refine with_tabW banksmanlaw14_RivalFree.tab8 banksmanlaw14_RivalFree.bits8 (fun HT_ HW_ => ?_)
                      generalize wr.drew = w31 at BK407 HB HR416_3 HR416_4 hx416_0 hx416_1 hx416_2 hx416_3 hx416_4 hx416_5 hHeld ⊢
                      refine pure_ (i := 0) (N := some 42) (v := ?_) (a' := ?_) #[true, false, false, false, false, false, false, false, false] rfl rfl (any_of HT_.out (by kernel_rfl)) (fun _ _ _ h => h) (Or.inl ⟨by rfl, ?_⟩) ?_ ?_
                      rotate_left
                      · intro w'
                        go_simp
                        with_reducible rfl
                      rotate_left
                      · simp only [Act.put, List.setIfInBounds_toArray, List.set_cons_zero, List.set_cons_succ, i64_w, i32_w]
                        rfl
                      refine pure_ (i := 2) (N := some 44) (v := ?_) (a' := ?_) #[true, false, true, false, false, false, false, false, false] rfl rfl (any_of HT_.out (by kernel_rfl)) (fun _ _ _ h => h) (Or.inl ⟨by rfl, ?_⟩) ?_ ?_
                      rotate_left
                      · intro w'
                        go_simp
                        with_reducible rfl
                      rotate_left
                      · simp only [Act.put, List.setIfInBounds_toArray, List.set_cons_zero, List.set_cons_succ, i64_w, i32_w]
                        rfl
                      refine pure_ (i := 3) (N := some 45) (v := ?_) (a' := ?_) #[true, false, true, true, false, false, false, false, false] rfl rfl (any_of HT_.out (by kernel_rfl)) (fun _ _ _ h => h) (Or.inl ⟨by rfl, ?_⟩) ?_ ?_
                      rotate_left
                      · intro w'
                        go_simp
                        with_reducible rfl
                      rotate_left
                      · simp only [Act.put, List.setIfInBounds_toArray, List.set_cons_zero, List.set_cons_succ, i64_w, i32_w]
                        rfl
                      refine pure_ (i := 4) (N := some 46) (v := ?_) (a' := ?_) #[true, false, true, true, true, false, false, false, false] rfl rfl (any_of HT_.out (by kernel_rfl)) (fun _ _ _ h => h) (Or.inl ⟨by rfl, ?_⟩) ?_ ?_
                      rotate_left
                      · intro w'
                        go_simp
                        with_reducible rfl
                      rotate_left
                      · simp only [Act.put, List.setIfInBounds_toArray, List.set_cons_zero, List.set_cons_succ, i64_w, i32_w]
                        rfl
                      refine pure_ (i := 5) (N := some 47) (v := ?_) (a' := ?_) #[true, false, true, true, true, true, false, false, false] rfl rfl (any_of HT_.out (by kernel_rfl)) (fun _ _ _ h => h) (Or.inl ⟨by rfl, ?_⟩) ?_ ?_
                      rotate_left
                      · intro w'
                        go_simp
                        with_reducible rfl
                      rotate_left
                      · simp only [Act.put, List.setIfInBounds_toArray, List.set_cons_zero, List.set_cons_succ, i64_w, i32_w]
                        rfl
                      refine take_ (i := 1) (N := some 43) (v := ?_) (a' := ?_) #[true, true, true, true, true, true, false, false, false] rfl rfl (take_ofW HT_.out HW_.out (by kernel_rfl)) (fun _ _ _ h => h) (Or.inl ⟨by rfl, ?_⟩) hHeld ?_ ?_
                      rotate_left
                      · rintro w' ⟨s0, s1, s2, s3, s4, s5, s6, s7⟩
                        go_simp
                        with_reducible rfl
                      rotate_left
                      · simp only [Act.put, List.setIfInBounds_toArray, List.set_cons_zero, List.set_cons_succ, i64_w, i32_w]
                        rfl
                      refine take_ (i := 6) (N := some 48) (v := ?_) (a' := ?_) #[true, true, true, true, true, true, true, false, false] rfl rfl (take_ofW HT_.out HW_.out (by kernel_rfl)) (fun _ _ _ h => h) (Or.inl ⟨by rfl, ?_⟩) hHeld ?_ ?_
                      rotate_left
                      · rintro w' ⟨s0, s1, s2, s3, s4, s5, s6, s7⟩
                        go_simp
                        with_reducible rfl
                      rotate_left
                      · simp only [Act.put, List.setIfInBounds_toArray, List.set_cons_zero, List.set_cons_succ, i64_w, i32_w]
                        rfl
                      refine one_ (i := 7) (N := some 49) #[true, true, true, true, true, true, true, true, false] rfl rfl (one_of HT_.out (by kernel_rfl)) (by decide) (fun K hK => ?_)
                      refine goes_ Try.func19 (by kernel_rfl) rfl #[.slice A0_1 l0_1.length c0_1, .slice A416_4 ((rd_T50 l2 x11_2).f4).length c416_4] (by rfl) rfl rfl (by (try simp only [List.map_toArray, List.map_cons, List.map_nil]); first | done | rfl | (simp only [List.length_drop, List.length_take]; rfl)) ?_
                      with_reducible refine (banksmanref13_Hit.calls k2 _ _ l0_1 _ _ ((rd_T50 l2 x11_2).f4) false _ ?side1 ?side2 ?side3 ?side4 A23.out).mono ?_
                      (case side1 => repeat (first | exact (Kd.C_below HR0_1.out HB.out) | (with_reducible refine Kd.C_alloc ?_ _) | (with_reducible refine Kd.C_drewN ?_ _) | (with_reducible refine Kd.C_drew ?_)))
                      (case side2 => exact HC0_1.out)
                      (case side3 => repeat (first | exact (Kd.C_below HR416_4.out HB.out) | (with_reducible refine Kd.C_alloc ?_ _) | (with_reducible refine Kd.C_drewN ?_ _) | (with_reducible refine Kd.C_drew ?_)))
                      (case side4 => exact HC416_4.out)
                      rintro e w32 ⟨rfl, hb⟩
                      refine ⟨_, rfl, ?_⟩
                      have n0_ := Aside0.mk (blk_below (g := gb407) (o := .cells #[.int .i64 a0_0, .slice A0_1 l0_1.length c0_1] 24 (0, 0)) (by (with_reducible repeat (first | refine blk_drewN ?_ _ | refine blk_drew ?_ | refine blk_alloc ?_ _)); exact BK407.out) hb)
                      have n1_ := Aside0.mk (below_step (by repeat (first | (with_reducible first | exact HB.out | apply below_alloc | apply pw_below_drewN | apply below_drew1 | refine below_set ?_ GE407.out) | exact HB.out)) hb)
                      clear BK407
                      clear HB
                      have BK407 := n0_
                      have HB := n1_
                      clear n0_ n1_
                      (try clear hb)
                      (try clear hb2)
                      (try clear hk)
                      (try clear hi)
                      refine hK.out _ _ ⟨(blk_cell BK407.out 0).trans rfl, (blk_cell BK407.out 1).trans rfl, ((HB.out.cell (World.block_lt_of_cell? w _ hw416_0)).trans hw416_0), ((HB.out.cell (World.block_lt_of_cell? w _ hw416_1)).trans hw416_1), ((HB.out.cell (World.block_lt_of_cell? w _ hw416_2)).trans hw416_2), ((HB.out.cell (World.block_lt_of_cell? w _ hw416_3)).trans hw416_3), ((HB.out.cell (World.block_lt_of_cell? w _ hw416_4)).trans hw416_4), ((HB.out.cell (World.block_lt_of_cell? w _ hw416_5)).trans hw416_5)⟩ (fun hHeld => ?_)
                      clear hK K
                      refine norm_ (a' := ?_) ?_ ?_
                      rotate_left
                      · show Act.put _ (some 49) _ = _
                        simp only [Act.put, List.setIfInBounds_toArray, List.set_cons_zero, List.set_cons_succ, i64_w, i32_w]
                        rfl
                      refine pure_ (i := 8) (N := some 12) (v := ?_) (a' := ?_) #[true, true, true, true, true, true, true, true, true] rfl rfl (any_of HT_.out (by kernel_rfl)) (fun _ _ _ h => h) (Or.inl ⟨by rfl, ?_⟩) ?_ ?_
                      rotate_left
                      · intro w'
                        go_simp
                        with_reducible rfl
                      rotate_left
                      · simp only [Act.put, List.setIfInBounds_toArray, List.set_cons_zero, List.set_cons_succ, i64_w, i32_w]
                        rfl
                      refine done_ (done_of HT_.out (by kernel_rfl)) ?_
                      have p418 : 0 ≤ (x11_2 : Int) := of_decide_eq_true (by first | (with_reducible assumption) | assumption)
                      have q418 : x11_2 < (l2.length : Int) := of_decide_eq_true (by first | (with_reducible assumption) | assumption)
                      obtain ⟨ad418, A418_3, c418_3, A418_4, c418_4, e418, hx418_0, hx418_1, hx418_2, hx418_3, hx418_4, hx418_5, hl418_3, hi418_3, hl418_4, hi418_4⟩ := at_T50 HR2.out x11_2 p418 q418
                      obtain rfl : ad416 = ad418 := (by injection e418)
                      (try (have ea_ := Option.some.inj (hx418_3.symm.trans hw416_3); injection ea_ with ea_ en_ ec_; subst ea_; subst ec_; clear en_))
                      (try (have ea_ := Option.some.inj (hx418_4.symm.trans hw416_4); injection ea_ with ea_ en_ ec_; subst ea_; subst ec_; clear en_))
                      (try (have ea_ := Option.some.inj (hx418_3.symm.trans hw420_3); injection ea_ with ea_ en_ ec_; subst ea_; subst ec_; clear en_))
                      (try (have ea_ := Option.some.inj (hx418_4.symm.trans hw420_4); injection ea_ with ea_ en_ ec_; subst ea_; subst ec_; clear en_))
                      (try (have ea_ := Option.some.inj (hx418_3.symm.trans hw416_3); injection ea_ with ea_ en_ ec_; subst ea_; subst ec_; clear en_))
                      (try (have ea_ := Option.some.inj (hx418_4.symm.trans hw416_4); injection ea_ with ea_ en_ ec_; subst ea_; subst ec_; clear en_))
                      replace hx418_0 := (HB.out.cell (World.block_lt_of_cell? w _ hx418_0)).trans hx418_0
                      replace hx418_1 := (HB.out.cell (World.block_lt_of_cell? w _ hx418_1)).trans hx418_1
                      replace hx418_2 := (HB.out.cell (World.block_lt_of_cell? w _ hx418_2)).trans hx418_2
                      replace hx418_3 := (HB.out.cell (World.block_lt_of_cell? w _ hx418_3)).trans hx418_3
                      replace hx418_4 := (HB.out.cell (World.block_lt_of_cell? w _ hx418_4)).trans hx418_4
                      replace hx418_5 := (HB.out.cell (World.block_lt_of_cell? w _ hx418_5)).trans hx418_5
                      have HR418_3 := Aside0.mk hi418_3
                      have HC418_3 := Aside0.mk hl418_3
                      clear hi418_3 hl418_3
                      have HR418_4 := Aside0.mk hi418_4
                      have HC418_4 := Aside0.mk hl418_4
                      clear hi418_4 hl418_4
                      replace p418 := eq_true p418
                      replace q418 := eq_true q418
                      try go_wp2_with (first | ((with_reducible refine gate_callee (f := 20) rfl ?_); refine goesL_ (some 56) rfl rfl Try.func20 (by kernel_rfl) rfl #[.slice A418_4 ((rd_T50 l2 x11_2).f4).length c418_4, .slice A1 l1.length c1] rfl (by (try simp only [List.map_toArray, List.map_cons, List.map_nil]); first | done | rfl | (simp only [List.length_drop, List.length_take]; rfl)) ?_; (with_reducible refine (banksmanref13_Same.calls k2 _ _ ((rd_T50 l2 x11_2).f4) _ _ l1 true _ ?side1 ?side2 ?side3 ?side4 A24.out).mono ?_); (case side1 => repeat (first | exact (Kd.C_below HR418_4.out HB.out) | (with_reducible refine Kd.C_alloc ?_ _) | (with_reducible refine Kd.C_drewN ?_ _) | (with_reducible refine Kd.C_drew ?_))); (case side2 => exact HC418_4.out); (case side3 => repeat (first | exact (Kd.C_below HR1.out HB.out) | (with_reducible refine Kd.C_alloc ?_ _) | (with_reducible refine Kd.C_drewN ?_ _) | (with_reducible refine Kd.C_drew ?_))); (case side4 => exact HC1.out); rintro e w' ⟨rfl, ⟨nd, rfl⟩⟩; refine ⟨_, rfl, ?_⟩))
                      (try (rw [drewN_self w32]; generalize hq_ : World.drewN w32 _ = w32; have n0_ : Aside0 (w32.heap[gb407]? = some (.cells #[.int .i64 a0_0, .slice A0_1 l0_1.length c0_1] 24 (0, 0))) := ⟨by rw [← hq_]; exact (by (with_reducible repeat (first | refine blk_drewN ?_ _ | refine blk_drew ?_ | refine blk_alloc ?_ _)); exact BK407.out)⟩; have n1_ : Aside0 (Below w.heap.size w w32) := ⟨by rw [← hq_]; exact (by repeat (first | (with_reducible first | exact HB.out | apply below_alloc | apply pw_below_drewN | apply below_drew1 | refine below_set ?_ GE407.out) | exact HB.out))⟩; clear BK407 HB hq_; have BK407 := n0_; have HB := n1_; clear n0_ n1_))
                      have n0_ := Aside0.mk (blk_drew BK407.out)
                      have n1_ := Aside0.mk (below_drew1 HB.out)
                      clear BK407
                      clear HB
                      have BK407 := n0_
                      have HB := n1_
                      clear n0_ n1_
                      have p420 : 0 ≤ (x11_2 : Int) := of_decide_eq_true (by first | (with_reducible assumption) | assumption)
                      have q420 : x11_2 < (l2.length : Int) := of_decide_eq_true (by first | (with_reducible assumption) | assumption)
                      obtain ⟨ad420, A420_3, c420_3, A420_4, c420_4, e420, hx420_0, hx420_1, hx420_2, hx420_3, hx420_4, hx420_5, hl420_3, hi420_3, hl420_4, hi420_4⟩ := at_T50 HR2.out x11_2 p420 q420
                      have hw420_5 := hx420_5
                      have hw420_4 := hx420_4
                      have hw420_3 := hx420_3
                      have hw420_2 := hx420_2
                      have hw420_1 := hx420_1
                      have hw420_0 := hx420_0
                      obtain rfl : ad416 = ad420 := (by injection e420)
                      (try (have ea_ := Option.some.inj (hx420_3.symm.trans hw416_3); injection ea_ with ea_ en_ ec_; subst ea_; subst ec_; clear en_))
                      (try (have ea_ := Option.some.inj (hx420_4.symm.trans hw416_4); injection ea_ with ea_ en_ ec_; subst ea_; subst ec_; clear en_))
                      (try (have ea_ := Option.some.inj (hx420_3.symm.trans hw420_3); injection ea_ with ea_ en_ ec_; subst ea_; subst ec_; clear en_))
                      (try (have ea_ := Option.some.inj (hx420_4.symm.trans hw420_4); injection ea_ with ea_ en_ ec_; subst ea_; subst ec_; clear en_))
                      (try (have ea_ := Option.some.inj (hx420_3.symm.trans hw416_3); injection ea_ with ea_ en_ ec_; subst ea_; subst ec_; clear en_))
                      (try (have ea_ := Option.some.inj (hx420_4.symm.trans hw416_4); injection ea_ with ea_ en_ ec_; subst ea_; subst ec_; clear en_))
                      (try (have ea_ := Option.some.inj (hx420_3.symm.trans hw420_3); injection ea_ with ea_ en_ ec_; subst ea_; subst ec_; clear en_))
                      (try (have ea_ := Option.some.inj (hx420_4.symm.trans hw420_4); injection ea_ with ea_ en_ ec_; subst ea_; subst ec_; clear en_))
                      replace hx420_0 := (HB.out.cell (World.block_lt_of_cell? w _ hx420_0)).trans hx420_0
                      replace hx420_1 := (HB.out.cell (World.block_lt_of_cell? w _ hx420_1)).trans hx420_1
                      replace hx420_2 := (HB.out.cell (World.block_lt_of_cell? w _ hx420_2)).trans hx420_2
                      replace hx420_3 := (HB.out.cell (World.block_lt_of_cell? w _ hx420_3)).trans hx420_3
                      replace hx420_4 := (HB.out.cell (World.block_lt_of_cell? w _ hx420_4)).trans hx420_4
                      replace hx420_5 := (HB.out.cell (World.block_lt_of_cell? w _ hx420_5)).trans hx420_5
                      have HR420_3 := Aside0.mk hi420_3
                      have HC420_3 := Aside0.mk hl420_3
                      clear hi420_3 hl420_3
                      have HR420_4 := Aside0.mk hi420_4
                      have HC420_4 := Aside0.mk hl420_4
                      clear hi420_4 hl420_4
                      replace p420 := eq_true p420
                      replace q420 := eq_true q420
                      refine start_ (n := 14) (S := fun w' => w'.cell? ⟨gb407, 0, none⟩ = some (.int .i64 a0_0) ∧ w'.cell? ⟨gb407, 1, none⟩ = some (.slice A0_1 l0_1.length c0_1) ∧ w'.cell? (ad416.add ((x11_2).toNat * 6)) = some (.int .i64 ((rd_T50 l2 x11_2).f0)) ∧ w'.cell? ⟨(ad416.add ((x11_2).toNat * 6)).block, (ad416.add ((x11_2).toNat * 6)).off + 1, none⟩ = some (.int .i64 ((rd_T50 l2 x11_2).f1)) ∧ w'.cell? ⟨(ad416.add ((x11_2).toNat * 6)).block, (ad416.add ((x11_2).toNat * 6)).off + 2, none⟩ = some (.bool ((rd_T50 l2 x11_2).f2)) ∧ w'.cell? ⟨(ad416.add ((x11_2).toNat * 6)).block, (ad416.add ((x11_2).toNat * 6)).off + 3, none⟩ = some (.slice A420_3 ((rd_T50 l2 x11_2).f3).length c420_3) ∧ w'.cell? ⟨(ad416.add ((x11_2).toNat * 6)).block, (ad416.add ((x11_2).toNat * 6)).off + 4, none⟩ = some (.slice A420_4 ((rd_T50 l2 x11_2).f4).length c420_4) ∧ w'.cell? ⟨(ad416.add ((x11_2).toNat * 6)).block, (ad416.add ((x11_2).toNat * 6)).off + 5, none⟩ = some (.bool ((rd_T50 l2 x11_2).f5))) (ds := []) #[false, false, false, false, false, false, false, false, false, false, false, false, false, false] (by kernel_rfl) rfl rfl ⟨(blk_cell BK407.out 0).trans rfl, (blk_cell BK407.out 1).trans rfl, ((HB.out.cell (World.block_lt_of_cell? w _ hw420_0)).trans hw420_0), ((HB.out.cell (World.block_lt_of_cell? w _ hw420_1)).trans hw420_1), ((HB.out.cell (World.block_lt_of_cell? w _ hw420_2)).trans hw420_2), ((HB.out.cell (World.block_lt_of_cell? w _ hw420_3)).trans hw420_3), ((HB.out.cell (World.block_lt_of_cell? w _ hw420_4)).trans hw420_4), ((HB.out.cell (World.block_lt_of_cell? w _ hw420_5)).trans hw420_5)⟩ (fun hHeld => ?_); refine with_tabW banksmanlaw14_RivalFree.tab10 banksmanlaw14_RivalFree.bits10 (fun HT_ HW_ => ?_)
                      generalize w32.drew = w33 at BK407 HB HR420_3 HR420_4 hx420_0 hx420_1 hx420_2 hx420_3 hx420_4 hx420_5 hHeld ⊢
                      refine pure_ (i := 0) (N := some 57) (v := ?_) (a' := ?_) #[true, false, false, false, false, false, false, false, false, false, false, false, false, false] rfl rfl (any_of HT_.out (by kernel_rfl)) (fun _ _ _ h => h) (Or.inl ⟨by rfl, ?_⟩) ?_ ?_
                      rotate_left
                      · intro w'
                        go_simp
                        with_reducible rfl
                      rotate_left
                      · simp only [Act.put, List.setIfInBounds_toArray, List.set_cons_zero, List.set_cons_succ, i64_w, i32_w]
                        rfl
                      refine pure_ (i := 1) (N := some 58) (v := ?_) (a' := ?_) #[true, true, false, false, false, false, false, false, false, false, false, false, false, false] rfl rfl (any_of HT_.out (by kernel_rfl)) (fun _ _ _ h => h) (Or.inl ⟨by rfl, ?_⟩) ?_ ?_
                      rotate_left
                      · intro w'
                        go_simp
                        with_reducible rfl
                      rotate_left
                      · simp only [Act.put, List.setIfInBounds_toArray, List.set_cons_zero, List.set_cons_succ, i64_w, i32_w]
                        rfl
                      refine pure_ (i := 2) (N := some 59) (v := ?_) (a' := ?_) #[true, true, true, false, false, false, false, false, false, false, false, false, false, false] rfl rfl (any_of HT_.out (by kernel_rfl)) (fun _ _ _ h => h) (Or.inl ⟨by rfl, ?_⟩) ?_ ?_
                      rotate_left
                      · intro w'
                        go_simp
                        with_reducible rfl
                      rotate_left
                      · simp only [Act.put, List.setIfInBounds_toArray, List.set_cons_zero, List.set_cons_succ, i64_w, i32_w]
                        rfl
                      refine pure_ (i := 3) (N := some 60) (v := ?_) (a' := ?_) #[true, true, true, true, false, false, false, false, false, false, false, false, false, false] rfl rfl (any_of HT_.out (by kernel_rfl)) (fun _ _ _ h => h) (Or.inl ⟨by rfl, ?_⟩) ?_ ?_
                      rotate_left
                      · intro w'
                        go_simp
                        with_reducible rfl
                      rotate_left
                      · simp only [Act.put, List.setIfInBounds_toArray, List.set_cons_zero, List.set_cons_succ, i64_w, i32_w]
                        rfl
                      refine pure_ (i := 5) (N := some 62) (v := ?_) (a' := ?_) #[true, true, true, true, false, true, false, false, false, false, false, false, false, false] rfl rfl (any_of HT_.out (by kernel_rfl)) (fun _ _ _ h => h) (Or.inl ⟨by rfl, ?_⟩) ?_ ?_
                      rotate_left
                      · intro w'
                        go_simp
                        with_reducible rfl
                      rotate_left
                      · simp only [Act.put, List.setIfInBounds_toArray, List.set_cons_zero, List.set_cons_succ, i64_w, i32_w]
                        rfl
                      refine take_ (i := 4) (N := some 61) (v := ?_) (a' := ?_) #[true, true, true, true, true, true, false, false, false, false, false, false, false, false] rfl rfl (take_ofW HT_.out HW_.out (by kernel_rfl)) (fun _ _ _ h => h) (Or.inl ⟨by rfl, ?_⟩) hHeld ?_ ?_
                      rotate_left
                      · rintro w' ⟨s0, s1, s2, s3, s4, s5, s6, s7⟩
                        go_simp
                        with_reducible rfl
                      rotate_left
                      · simp only [Act.put, List.setIfInBounds_toArray, List.set_cons_zero, List.set_cons_succ, i64_w, i32_w]
                        rfl
                      refine take_ (i := 6) (N := some 63) (v := ?_) (a' := ?_) #[true, true, true, true, true, true, true, false, false, false, false, false, false, false] rfl rfl (take_ofW HT_.out HW_.out (by kernel_rfl)) (fun _ _ _ h => h) (Or.inl ⟨by rfl, ?_⟩) hHeld ?_ ?_
                      rotate_left
                      · rintro w' ⟨s0, s1, s2, s3, s4, s5, s6, s7⟩
                        go_simp
                        with_reducible rfl
                      rotate_left
                      · simp only [Act.put, List.setIfInBounds_toArray, List.set_cons_zero, List.set_cons_succ, i64_w, i32_w]
                        rfl
                      refine pure_ (i := 7) (N := some 64) (v := ?_) (a' := ?_) #[true, true, true, true, true, true, true, true, false, false, false, false, false, false] rfl rfl (any_of HT_.out (by kernel_rfl)) (fun _ _ _ h => h) (Or.inl ⟨by rfl, ?_⟩) ?_ ?_
                      rotate_left
                      · intro w'
                        go_simp
                        with_reducible rfl
                      rotate_left
                      · simp only [Act.put, List.setIfInBounds_toArray, List.set_cons_zero, List.set_cons_succ, i64_w, i32_w]
                        rfl
                      refine pure_ (i := 8) (N := some 65) (v := ?_) (a' := ?_) #[true, true, true, true, true, true, true, true, true, false, false, false, false, false] rfl rfl (any_of HT_.out (by kernel_rfl)) (fun _ _ _ h => h) (Or.inl ⟨by rfl, ?_⟩) ?_ ?_
                      rotate_left
                      · intro w'
                        go_simp
                        with_reducible rfl
                      rotate_left
                      · simp only [Act.put, List.setIfInBounds_toArray, List.set_cons_zero, List.set_cons_succ, i64_w, i32_w]
                        rfl
                      refine pure_ (i := 9) (N := some 66) (v := ?_) (a' := ?_) #[true, true, true, true, true, true, true, true, true, true, false, false, false, false] rfl rfl (any_of HT_.out (by kernel_rfl)) (fun _ _ _ h => h) (Or.inl ⟨by rfl, ?_⟩) ?_ ?_
                      rotate_left
                      · intro w'
                        go_simp
                        with_reducible rfl
                      rotate_left
                      · simp only [Act.put, List.setIfInBounds_toArray, List.set_cons_zero, List.set_cons_succ, i64_w, i32_w]
                        rfl
                      refine pure_ (i := 10) (N := some 67) (v := ?_) (a' := ?_) #[true, true, true, true, true, true, true, true, true, true, true, false, false, false] rfl rfl (any_of HT_.out (by kernel_rfl)) (fun _ _ _ h => h) (Or.inl ⟨by rfl, ?_⟩) ?_ ?_
                      rotate_left
                      · intro w'
                        go_simp
                        with_reducible rfl
                      rotate_left
                      · simp only [Act.put, List.setIfInBounds_toArray, List.set_cons_zero, List.set_cons_succ, i64_w, i32_w]
                        rfl
                      refine pure_ (i := 11) (N := some 68) (v := ?_) (a' := ?_) #[true, true, true, true, true, true, true, true, true, true, true, true, false, false] rfl rfl (any_of HT_.out (by kernel_rfl)) (fun _ _ _ h => h) (Or.inl ⟨by rfl, ?_⟩) ?_ ?_
                      rotate_left
                      · intro w'
                        go_simp
                        with_reducible rfl
                      rotate_left
                      · simp only [Act.put, List.setIfInBounds_toArray, List.set_cons_zero, List.set_cons_succ, i64_w, i32_w]
                        rfl
                      refine pure_ (i := 12) (N := some 69) (v := ?_) (a' := ?_) #[true, true, true, true, true, true, true, true, true, true, true, true, true, false] rfl rfl (any_of HT_.out (by kernel_rfl)) (fun _ _ _ h => h) (Or.inl ⟨by rfl, ?_⟩) ?_ ?_
                      rotate_left
                      · intro w'
                        go_simp
                        with_reducible rfl
                      rotate_left
                      · simp only [Act.put, List.setIfInBounds_toArray, List.set_cons_zero, List.set_cons_succ, i64_w, i32_w]
                        rfl
                      refine pure_ (i := 13) (N := some 70) (v := ?_) (a' := ?_) #[true, true, true, true, true, true, true, true, true, true, true, true, true, true] rfl rfl (any_of HT_.out (by kernel_rfl)) (fun _ _ _ h => h) (Or.inl ⟨by rfl, ?_⟩) ?_ ?_
                      rotate_left
                      · intro w'
                        go_simp
                        with_reducible rfl
                      rotate_left
                      · simp only [Act.put, List.setIfInBounds_toArray, List.set_cons_zero, List.set_cons_succ, i64_w, i32_w]
                        rfl
                      refine done_ (done_of HT_.out (by kernel_rfl)) ?_
                      try go_wp2
                      go_roundg k2
                      case measure => have := HJ5.out; have := HK2.out; omega
                      case rel => exact ⟨(false), (wrap64 (x11_2 + 1)), (by first | rfl | (simp; done) | (simp [*]; done)), (by first | rfl | (simp; done) | (simp [*]; done)), H', ⟨by have := HJ5.out; have := HK2.out; omega⟩, ⟨by (with_reducible repeat (first | refine blk_drewN ?_ _ | refine blk_drew ?_ | refine blk_alloc ?_ _)); exact BK407.out⟩, ⟨by repeat (first | (with_reducible first | exact HB.out | apply below_alloc | apply pw_below_drewN | apply below_drew1 | refine below_set ?_ GE407.out) | exact HB.out)⟩⟩
                    · replace c30 := Bool.eq_false_iff.mpr c30
                      subst c30
                      have H1 : (banksmanlaw14_RivalFree.l0 k2 l1 l2 l3 t408 x10_2 (wrap64 (x11_2 + 1)) a0_0 l0_1) = some r := by rw [if_neg (show ¬ (false = true) by decide)] at H; exact H
                      clear H
                      have H := H1
                      clear H1
                      have H' := Aside0.mk H
                      clear H
                      try go_wp2
                      have n0_ := Aside0.mk (blk_drew BK407.out)
                      have n1_ := Aside0.mk (below_drew1 HB.out)
                      clear BK407
                      clear HB
                      have BK407 := n0_
                      have HB := n1_
                      clear n0_ n1_
                      have p416 : 0 ≤ (x11_2 : Int) := of_decide_eq_true (by first | (with_reducible assumption) | assumption)
                      have q416 : x11_2 < (l2.length : Int) := of_decide_eq_true (by first | (with_reducible assumption) | assumption)
                      obtain ⟨ad416, A416_3, c416_3, A416_4, c416_4, e416, hx416_0, hx416_1, hx416_2, hx416_3, hx416_4, hx416_5, hl416_3, hi416_3, hl416_4, hi416_4⟩ := at_T50 HR2.out x11_2 p416 q416
                      have hw416_5 := hx416_5
                      have hw416_4 := hx416_4
                      have hw416_3 := hx416_3
                      have hw416_2 := hx416_2
                      have hw416_1 := hx416_1
                      have hw416_0 := hx416_0
                      cases e416
                      replace hx416_0 := (HB.out.cell (World.block_lt_of_cell? w _ hx416_0)).trans hx416_0
                      replace hx416_1 := (HB.out.cell (World.block_lt_of_cell? w _ hx416_1)).trans hx416_1
                      replace hx416_2 := (HB.out.cell (World.block_lt_of_cell? w _ hx416_2)).trans hx416_2
                      replace hx416_3 := (HB.out.cell (World.block_lt_of_cell? w _ hx416_3)).trans hx416_3
                      replace hx416_4 := (HB.out.cell (World.block_lt_of_cell? w _ hx416_4)).trans hx416_4
                      replace hx416_5 := (HB.out.cell (World.block_lt_of_cell? w _ hx416_5)).trans hx416_5
                      have HR416_3 := Aside0.mk hi416_3
                      have HC416_3 := Aside0.mk hl416_3
                      clear hi416_3 hl416_3
                      have HR416_4 := Aside0.mk hi416_4
                      have HC416_4 := Aside0.mk hl416_4
                      clear hi416_4 hl416_4
                      replace p416 := eq_true p416
                      replace q416 := eq_true q416
                      refine start_ (n := 9) (S := fun w' => w'.cell? ⟨gb407, 0, none⟩ = some (.int .i64 a0_0) ∧ w'.cell? ⟨gb407, 1, none⟩ = some (.slice A0_1 l0_1.length c0_1) ∧ w'.cell? (ad416.add ((x11_2).toNat * 6)) = some (.int .i64 ((rd_T50 l2 x11_2).f0)) ∧ w'.cell? ⟨(ad416.add ((x11_2).toNat * 6)).block, (ad416.add ((x11_2).toNat * 6)).off + 1, none⟩ = some (.int .i64 ((rd_T50 l2 x11_2).f1)) ∧ w'.cell? ⟨(ad416.add ((x11_2).toNat * 6)).block, (ad416.add ((x11_2).toNat * 6)).off + 2, none⟩ = some (.bool ((rd_T50 l2 x11_2).f2)) ∧ w'.cell? ⟨(ad416.add ((x11_2).toNat * 6)).block, (ad416.add ((x11_2).toNat * 6)).off + 3, none⟩ = some (.slice A416_3 ((rd_T50 l2 x11_2).f3).length c416_3) ∧ w'.cell? ⟨(ad416.add ((x11_2).toNat * 6)).block, (ad416.add ((x11_2).toNat * 6)).off + 4, none⟩ = some (.slice A416_4 ((rd_T50 l2 x11_2).f4).length c416_4) ∧ w'.cell? ⟨(ad416.add ((x11_2).toNat * 6)).block, (ad416.add ((x11_2).toNat * 6)).off + 5, none⟩ = some (.bool ((rd_T50 l2 x11_2).f5))) (ds := []) #[false, false, false, false, false, false, false, false, false] (by kernel_rfl) rfl rfl ⟨(blk_cell BK407.out 0).trans rfl, (blk_cell BK407.out 1).trans rfl, ((HB.out.cell (World.block_lt_of_cell? w _ hw416_0)).trans hw416_0), ((HB.out.cell (World.block_lt_of_cell? w _ hw416_1)).trans hw416_1), ((HB.out.cell (World.block_lt_of_cell? w _ hw416_2)).trans hw416_2), ((HB.out.cell (World.block_lt_of_cell? w _ hw416_3)).trans hw416_3), ((HB.out.cell (World.block_lt_of_cell? w _ hw416_4)).trans hw416_4), ((HB.out.cell (World.block_lt_of_cell? w _ hw416_5)).trans hw416_5)⟩ (fun hHeld => ?_); refine with_tabW banksmanlaw14_RivalFree.tab8 banksmanlaw14_RivalFree.bits8 (fun HT_ HW_ => ?_)
                      generalize wr.drew = w34 at BK407 HB HR416_3 HR416_4 hx416_0 hx416_1 hx416_2 hx416_3 hx416_4 hx416_5 hHeld ⊢
                      refine pure_ (i := 0) (N := some 42) (v := ?_) (a' := ?_) #[true, false, false, false, false, false, false, false, false] rfl rfl (any_of HT_.out (by kernel_rfl)) (fun _ _ _ h => h) (Or.inl ⟨by rfl, ?_⟩) ?_ ?_
                      rotate_left
                      · intro w'
                        go_simp
                        with_reducible rfl
                      rotate_left
                      · simp only [Act.put, List.setIfInBounds_toArray, List.set_cons_zero, List.set_cons_succ, i64_w, i32_w]
                        rfl
                      refine pure_ (i := 2) (N := some 44) (v := ?_) (a' := ?_) #[true, false, true, false, false, false, false, false, false] rfl rfl (any_of HT_.out (by kernel_rfl)) (fun _ _ _ h => h) (Or.inl ⟨by rfl, ?_⟩) ?_ ?_
                      rotate_left
                      · intro w'
                        go_simp
                        with_reducible rfl
                      rotate_left
                      · simp only [Act.put, List.setIfInBounds_toArray, List.set_cons_zero, List.set_cons_succ, i64_w, i32_w]
                        rfl
                      refine pure_ (i := 3) (N := some 45) (v := ?_) (a' := ?_) #[true, false, true, true, false, false, false, false, false] rfl rfl (any_of HT_.out (by kernel_rfl)) (fun _ _ _ h => h) (Or.inl ⟨by rfl, ?_⟩) ?_ ?_
                      rotate_left
                      · intro w'
                        go_simp
                        with_reducible rfl
                      rotate_left
                      · simp only [Act.put, List.setIfInBounds_toArray, List.set_cons_zero, List.set_cons_succ, i64_w, i32_w]
                        rfl
                      refine pure_ (i := 4) (N := some 46) (v := ?_) (a' := ?_) #[true, false, true, true, true, false, false, false, false] rfl rfl (any_of HT_.out (by kernel_rfl)) (fun _ _ _ h => h) (Or.inl ⟨by rfl, ?_⟩) ?_ ?_
                      rotate_left
                      · intro w'
                        go_simp
                        with_reducible rfl
                      rotate_left
                      · simp only [Act.put, List.setIfInBounds_toArray, List.set_cons_zero, List.set_cons_succ, i64_w, i32_w]
                        rfl
                      refine pure_ (i := 5) (N := some 47) (v := ?_) (a' := ?_) #[true, false, true, true, true, true, false, false, false] rfl rfl (any_of HT_.out (by kernel_rfl)) (fun _ _ _ h => h) (Or.inl ⟨by rfl, ?_⟩) ?_ ?_
                      rotate_left
                      · intro w'
                        go_simp
                        with_reducible rfl
                      rotate_left
                      · simp only [Act.put, List.setIfInBounds_toArray, List.set_cons_zero, List.set_cons_succ, i64_w, i32_w]
                        rfl
                      refine take_ (i := 1) (N := some 43) (v := ?_) (a' := ?_) #[true, true, true, true, true, true, false, false, false] rfl rfl (take_ofW HT_.out HW_.out (by kernel_rfl)) (fun _ _ _ h => h) (Or.inl ⟨by rfl, ?_⟩) hHeld ?_ ?_
                      rotate_left
                      · rintro w' ⟨s0, s1, s2, s3, s4, s5, s6, s7⟩
                        go_simp
                        with_reducible rfl
                      rotate_left
                      · simp only [Act.put, List.setIfInBounds_toArray, List.set_cons_zero, List.set_cons_succ, i64_w, i32_w]
                        rfl
                      refine take_ (i := 6) (N := some 48) (v := ?_) (a' := ?_) #[true, true, true, true, true, true, true, false, false] rfl rfl (take_ofW HT_.out HW_.out (by kernel_rfl)) (fun _ _ _ h => h) (Or.inl ⟨by rfl, ?_⟩) hHeld ?_ ?_
                      rotate_left
                      · rintro w' ⟨s0, s1, s2, s3, s4, s5, s6, s7⟩
                        go_simp
                        with_reducible rfl
                      rotate_left
                      · simp only [Act.put, List.setIfInBounds_toArray, List.set_cons_zero, List.set_cons_succ, i64_w, i32_w]
                        rfl
                      refine one_ (i := 7) (N := some 49) #[true, true, true, true, true, true, true, true, false] rfl rfl (one_of HT_.out (by kernel_rfl)) (by decide) (fun K hK => ?_)
                      refine goes_ Try.func19 (by kernel_rfl) rfl #[.slice A0_1 l0_1.length c0_1, .slice A416_4 ((rd_T50 l2 x11_2).f4).length c416_4] (by rfl) rfl rfl (by (try simp only [List.map_toArray, List.map_cons, List.map_nil]); first | done | rfl | (simp only [List.length_drop, List.length_take]; rfl)) ?_
                      with_reducible refine (banksmanref13_Hit.calls k2 _ _ l0_1 _ _ ((rd_T50 l2 x11_2).f4) false _ ?side1 ?side2 ?side3 ?side4 A23.out).mono ?_
                      (case side1 => repeat (first | exact (Kd.C_below HR0_1.out HB.out) | (with_reducible refine Kd.C_alloc ?_ _) | (with_reducible refine Kd.C_drewN ?_ _) | (with_reducible refine Kd.C_drew ?_)))
                      (case side2 => exact HC0_1.out)
                      (case side3 => repeat (first | exact (Kd.C_below HR416_4.out HB.out) | (with_reducible refine Kd.C_alloc ?_ _) | (with_reducible refine Kd.C_drewN ?_ _) | (with_reducible refine Kd.C_drew ?_)))
                      (case side4 => exact HC416_4.out)
                      rintro e w35 ⟨rfl, hb⟩
                      refine ⟨_, rfl, ?_⟩
                      have n0_ := Aside0.mk (blk_below (g := gb407) (o := .cells #[.int .i64 a0_0, .slice A0_1 l0_1.length c0_1] 24 (0, 0)) (by (with_reducible repeat (first | refine blk_drewN ?_ _ | refine blk_drew ?_ | refine blk_alloc ?_ _)); exact BK407.out) hb)
                      have n1_ := Aside0.mk (below_step (by repeat (first | (with_reducible first | exact HB.out | apply below_alloc | apply pw_below_drewN | apply below_drew1 | refine below_set ?_ GE407.out) | exact HB.out)) hb)
                      clear BK407
                      clear HB
                      have BK407 := n0_
                      have HB := n1_
                      clear n0_ n1_
                      (try clear hb)
                      (try clear hb2)
                      (try clear hk)
                      (try clear hi)
                      refine hK.out _ _ ⟨(blk_cell BK407.out 0).trans rfl, (blk_cell BK407.out 1).trans rfl, ((HB.out.cell (World.block_lt_of_cell? w _ hw416_0)).trans hw416_0), ((HB.out.cell (World.block_lt_of_cell? w _ hw416_1)).trans hw416_1), ((HB.out.cell (World.block_lt_of_cell? w _ hw416_2)).trans hw416_2), ((HB.out.cell (World.block_lt_of_cell? w _ hw416_3)).trans hw416_3), ((HB.out.cell (World.block_lt_of_cell? w _ hw416_4)).trans hw416_4), ((HB.out.cell (World.block_lt_of_cell? w _ hw416_5)).trans hw416_5)⟩ (fun hHeld => ?_)
                      clear hK K
                      refine norm_ (a' := ?_) ?_ ?_
                      rotate_left
                      · show Act.put _ (some 49) _ = _
                        simp only [Act.put, List.setIfInBounds_toArray, List.set_cons_zero, List.set_cons_succ, i64_w, i32_w]
                        rfl
                      refine pure_ (i := 8) (N := some 12) (v := ?_) (a' := ?_) #[true, true, true, true, true, true, true, true, true] rfl rfl (any_of HT_.out (by kernel_rfl)) (fun _ _ _ h => h) (Or.inl ⟨by rfl, ?_⟩) ?_ ?_
                      rotate_left
                      · intro w'
                        go_simp
                        with_reducible rfl
                      rotate_left
                      · simp only [Act.put, List.setIfInBounds_toArray, List.set_cons_zero, List.set_cons_succ, i64_w, i32_w]
                        rfl
                      refine done_ (done_of HT_.out (by kernel_rfl)) ?_
                      have p418 : 0 ≤ (x11_2 : Int) := of_decide_eq_true (by first | (with_reducible assumption) | assumption)
                      have q418 : x11_2 < (l2.length : Int) := of_decide_eq_true (by first | (with_reducible assumption) | assumption)
                      obtain ⟨ad418, A418_3, c418_3, A418_4, c418_4, e418, hx418_0, hx418_1, hx418_2, hx418_3, hx418_4, hx418_5, hl418_3, hi418_3, hl418_4, hi418_4⟩ := at_T50 HR2.out x11_2 p418 q418
                      obtain rfl : ad416 = ad418 := (by injection e418)
                      (try (have ea_ := Option.some.inj (hx418_3.symm.trans hw416_3); injection ea_ with ea_ en_ ec_; subst ea_; subst ec_; clear en_))
                      (try (have ea_ := Option.some.inj (hx418_4.symm.trans hw416_4); injection ea_ with ea_ en_ ec_; subst ea_; subst ec_; clear en_))
                      (try (have ea_ := Option.some.inj (hx418_3.symm.trans hw420_3); injection ea_ with ea_ en_ ec_; subst ea_; subst ec_; clear en_))
                      (try (have ea_ := Option.some.inj (hx418_4.symm.trans hw420_4); injection ea_ with ea_ en_ ec_; subst ea_; subst ec_; clear en_))
                      (try (have ea_ := Option.some.inj (hx418_3.symm.trans hw416_3); injection ea_ with ea_ en_ ec_; subst ea_; subst ec_; clear en_))
                      (try (have ea_ := Option.some.inj (hx418_4.symm.trans hw416_4); injection ea_ with ea_ en_ ec_; subst ea_; subst ec_; clear en_))
                      (try (have ea_ := Option.some.inj (hx418_3.symm.trans hw420_3); injection ea_ with ea_ en_ ec_; subst ea_; subst ec_; clear en_))
                      (try (have ea_ := Option.some.inj (hx418_4.symm.trans hw420_4); injection ea_ with ea_ en_ ec_; subst ea_; subst ec_; clear en_))
                      (try (have ea_ := Option.some.inj (hx418_3.symm.trans hw416_3); injection ea_ with ea_ en_ ec_; subst ea_; subst ec_; clear en_))
                      (try (have ea_ := Option.some.inj (hx418_4.symm.trans hw416_4); injection ea_ with ea_ en_ ec_; subst ea_; subst ec_; clear en_))
                      replace hx418_0 := (HB.out.cell (World.block_lt_of_cell? w _ hx418_0)).trans hx418_0
                      replace hx418_1 := (HB.out.cell (World.block_lt_of_cell? w _ hx418_1)).trans hx418_1
                      replace hx418_2 := (HB.out.cell (World.block_lt_of_cell? w _ hx418_2)).trans hx418_2
                      replace hx418_3 := (HB.out.cell (World.block_lt_of_cell? w _ hx418_3)).trans hx418_3
                      replace hx418_4 := (HB.out.cell (World.block_lt_of_cell? w _ hx418_4)).trans hx418_4
                      replace hx418_5 := (HB.out.cell (World.block_lt_of_cell? w _ hx418_5)).trans hx418_5
                      have HR418_3 := Aside0.mk hi418_3
                      have HC418_3 := Aside0.mk hl418_3
                      clear hi418_3 hl418_3
                      have HR418_4 := Aside0.mk hi418_4
                      have HC418_4 := Aside0.mk hl418_4
                      clear hi418_4 hl418_4
                      replace p418 := eq_true p418
                      replace q418 := eq_true q418
                      try go_wp2_with (first | ((with_reducible refine gate_callee (f := 20) rfl ?_); refine goesL_ (some 56) rfl rfl Try.func20 (by kernel_rfl) rfl #[.slice A418_4 ((rd_T50 l2 x11_2).f4).length c418_4, .slice A1 l1.length c1] rfl (by (try simp only [List.map_toArray, List.map_cons, List.map_nil]); first | done | rfl | (simp only [List.length_drop, List.length_take]; rfl)) ?_; (with_reducible refine (banksmanref13_Same.calls k2 _ _ ((rd_T50 l2 x11_2).f4) _ _ l1 false _ ?side1 ?side2 ?side3 ?side4 A24.out).mono ?_); (case side1 => repeat (first | exact (Kd.C_below HR418_4.out HB.out) | (with_reducible refine Kd.C_alloc ?_ _) | (with_reducible refine Kd.C_drewN ?_ _) | (with_reducible refine Kd.C_drew ?_))); (case side2 => exact HC418_4.out); (case side3 => repeat (first | exact (Kd.C_below HR1.out HB.out) | (with_reducible refine Kd.C_alloc ?_ _) | (with_reducible refine Kd.C_drewN ?_ _) | (with_reducible refine Kd.C_drew ?_))); (case side4 => exact HC1.out); rintro e w' ⟨rfl, ⟨nd, rfl⟩⟩; refine ⟨_, rfl, ?_⟩))
                      (try (rw [drewN_self w35]; generalize hq_ : World.drewN w35 _ = w35; have n0_ : Aside0 (w35.heap[gb407]? = some (.cells #[.int .i64 a0_0, .slice A0_1 l0_1.length c0_1] 24 (0, 0))) := ⟨by rw [← hq_]; exact (by (with_reducible repeat (first | refine blk_drewN ?_ _ | refine blk_drew ?_ | refine blk_alloc ?_ _)); exact BK407.out)⟩; have n1_ : Aside0 (Below w.heap.size w w35) := ⟨by rw [← hq_]; exact (by repeat (first | (with_reducible first | exact HB.out | apply below_alloc | apply pw_below_drewN | apply below_drew1 | refine below_set ?_ GE407.out) | exact HB.out))⟩; clear BK407 HB hq_; have BK407 := n0_; have HB := n1_; clear n0_ n1_))
                      have n0_ := Aside0.mk (blk_drew BK407.out)
                      have n1_ := Aside0.mk (below_drew1 HB.out)
                      clear BK407
                      clear HB
                      have BK407 := n0_
                      have HB := n1_
                      clear n0_ n1_
                      have p420 : 0 ≤ (x11_2 : Int) := of_decide_eq_true (by first | (with_reducible assumption) | assumption)
                      have q420 : x11_2 < (l2.length : Int) := of_decide_eq_true (by first | (with_reducible assumption) | assumption)
                      obtain ⟨ad420, A420_3, c420_3, A420_4, c420_4, e420, hx420_0, hx420_1, hx420_2, hx420_3, hx420_4, hx420_5, hl420_3, hi420_3, hl420_4, hi420_4⟩ := at_T50 HR2.out x11_2 p420 q420
                      have hw420_5 := hx420_5
                      have hw420_4 := hx420_4
                      have hw420_3 := hx420_3
                      have hw420_2 := hx420_2
                      have hw420_1 := hx420_1
                      have hw420_0 := hx420_0
                      obtain rfl : ad416 = ad420 := (by injection e420)
                      (try (have ea_ := Option.some.inj (hx420_3.symm.trans hw416_3); injection ea_ with ea_ en_ ec_; subst ea_; subst ec_; clear en_))
                      (try (have ea_ := Option.some.inj (hx420_4.symm.trans hw416_4); injection ea_ with ea_ en_ ec_; subst ea_; subst ec_; clear en_))
                      (try (have ea_ := Option.some.inj (hx420_3.symm.trans hw420_3); injection ea_ with ea_ en_ ec_; subst ea_; subst ec_; clear en_))
                      (try (have ea_ := Option.some.inj (hx420_4.symm.trans hw420_4); injection ea_ with ea_ en_ ec_; subst ea_; subst ec_; clear en_))
                      (try (have ea_ := Option.some.inj (hx420_3.symm.trans hw416_3); injection ea_ with ea_ en_ ec_; subst ea_; subst ec_; clear en_))
                      (try (have ea_ := Option.some.inj (hx420_4.symm.trans hw416_4); injection ea_ with ea_ en_ ec_; subst ea_; subst ec_; clear en_))
                      (try (have ea_ := Option.some.inj (hx420_3.symm.trans hw420_3); injection ea_ with ea_ en_ ec_; subst ea_; subst ec_; clear en_))
                      (try (have ea_ := Option.some.inj (hx420_4.symm.trans hw420_4); injection ea_ with ea_ en_ ec_; subst ea_; subst ec_; clear en_))
                      (try (have ea_ := Option.some.inj (hx420_3.symm.trans hw416_3); injection ea_ with ea_ en_ ec_; subst ea_; subst ec_; clear en_))
                      (try (have ea_ := Option.some.inj (hx420_4.symm.trans hw416_4); injection ea_ with ea_ en_ ec_; subst ea_; subst ec_; clear en_))
                      (try (have ea_ := Option.some.inj (hx420_3.symm.trans hw420_3); injection ea_ with ea_ en_ ec_; subst ea_; subst ec_; clear en_))
                      (try (have ea_ := Option.some.inj (hx420_4.symm.trans hw420_4); injection ea_ with ea_ en_ ec_; subst ea_; subst ec_; clear en_))
                      replace hx420_0 := (HB.out.cell (World.block_lt_of_cell? w _ hx420_0)).trans hx420_0
                      replace hx420_1 := (HB.out.cell (World.block_lt_of_cell? w _ hx420_1)).trans hx420_1
                      replace hx420_2 := (HB.out.cell (World.block_lt_of_cell? w _ hx420_2)).trans hx420_2
                      replace hx420_3 := (HB.out.cell (World.block_lt_of_cell? w _ hx420_3)).trans hx420_3
                      replace hx420_4 := (HB.out.cell (World.block_lt_of_cell? w _ hx420_4)).trans hx420_4
                      replace hx420_5 := (HB.out.cell (World.block_lt_of_cell? w _ hx420_5)).trans hx420_5
                      have HR420_3 := Aside0.mk hi420_3
                      have HC420_3 := Aside0.mk hl420_3
                      clear hi420_3 hl420_3
                      have HR420_4 := Aside0.mk hi420_4
                      have HC420_4 := Aside0.mk hl420_4
                      clear hi420_4 hl420_4
                      replace p420 := eq_true p420
                      replace q420 := eq_true q420
                      refine start_ (n := 14) (S := fun w' => w'.cell? ⟨gb407, 0, none⟩ = some (.int .i64 a0_0) ∧ w'.cell? ⟨gb407, 1, none⟩ = some (.slice A0_1 l0_1.length c0_1) ∧ w'.cell? (ad416.add ((x11_2).toNat * 6)) = some (.int .i64 ((rd_T50 l2 x11_2).f0)) ∧ w'.cell? ⟨(ad416.add ((x11_2).toNat * 6)).block, (ad416.add ((x11_2).toNat * 6)).off + 1, none⟩ = some (.int .i64 ((rd_T50 l2 x11_2).f1)) ∧ w'.cell? ⟨(ad416.add ((x11_2).toNat * 6)).block, (ad416.add ((x11_2).toNat * 6)).off + 2, none⟩ = some (.bool ((rd_T50 l2 x11_2).f2)) ∧ w'.cell? ⟨(ad416.add ((x11_2).toNat * 6)).block, (ad416.add ((x11_2).toNat * 6)).off + 3, none⟩ = some (.slice A420_3 ((rd_T50 l2 x11_2).f3).length c420_3) ∧ w'.cell? ⟨(ad416.add ((x11_2).toNat * 6)).block, (ad416.add ((x11_2).toNat * 6)).off + 4, none⟩ = some (.slice A420_4 ((rd_T50 l2 x11_2).f4).length c420_4) ∧ w'.cell? ⟨(ad416.add ((x11_2).toNat * 6)).block, (ad416.add ((x11_2).toNat * 6)).off + 5, none⟩ = some (.bool ((rd_T50 l2 x11_2).f5))) (ds := []) #[false, false, false, false, false, false, false, false, false, false, false, false, false, false] (by kernel_rfl) rfl rfl ⟨(blk_cell BK407.out 0).trans rfl, (blk_cell BK407.out 1).trans rfl, ((HB.out.cell (World.block_lt_of_cell? w _ hw420_0)).trans hw420_0), ((HB.out.cell (World.block_lt_of_cell? w _ hw420_1)).trans hw420_1), ((HB.out.cell (World.block_lt_of_cell? w _ hw420_2)).trans hw420_2), ((HB.out.cell (World.block_lt_of_cell? w _ hw420_3)).trans hw420_3), ((HB.out.cell (World.block_lt_of_cell? w _ hw420_4)).trans hw420_4), ((HB.out.cell (World.block_lt_of_cell? w _ hw420_5)).trans hw420_5)⟩ (fun hHeld => ?_); refine with_tabW banksmanlaw14_RivalFree.tab10 banksmanlaw14_RivalFree.bits10 (fun HT_ HW_ => ?_)
                      generalize w35.drew = w36 at BK407 HB HR420_3 HR420_4 hx420_0 hx420_1 hx420_2 hx420_3 hx420_4 hx420_5 hHeld ⊢
                      refine pure_ (i := 0) (N := some 57) (v := ?_) (a' := ?_) #[true, false, false, false, false, false, false, false, false, false, false, false, false, false] rfl rfl (any_of HT_.out (by kernel_rfl)) (fun _ _ _ h => h) (Or.inl ⟨by rfl, ?_⟩) ?_ ?_
                      rotate_left
                      · intro w'
                        go_simp
                        with_reducible rfl
                      rotate_left
                      · simp only [Act.put, List.setIfInBounds_toArray, List.set_cons_zero, List.set_cons_succ, i64_w, i32_w]
                        rfl
                      refine pure_ (i := 1) (N := some 58) (v := ?_) (a' := ?_) #[true, true, false, false, false, false, false, false, false, false, false, false, false, false] rfl rfl (any_of HT_.out (by kernel_rfl)) (fun _ _ _ h => h) (Or.inl ⟨by rfl, ?_⟩) ?_ ?_
                      rotate_left
                      · intro w'
                        go_simp
                        with_reducible rfl
                      rotate_left
                      · simp only [Act.put, List.setIfInBounds_toArray, List.set_cons_zero, List.set_cons_succ, i64_w, i32_w]
                        rfl
                      refine pure_ (i := 2) (N := some 59) (v := ?_) (a' := ?_) #[true, true, true, false, false, false, false, false, false, false, false, false, false, false] rfl rfl (any_of HT_.out (by kernel_rfl)) (fun _ _ _ h => h) (Or.inl ⟨by rfl, ?_⟩) ?_ ?_
                      rotate_left
                      · intro w'
                        go_simp
                        with_reducible rfl
                      rotate_left
                      · simp only [Act.put, List.setIfInBounds_toArray, List.set_cons_zero, List.set_cons_succ, i64_w, i32_w]
                        rfl
                      refine pure_ (i := 3) (N := some 60) (v := ?_) (a' := ?_) #[true, true, true, true, false, false, false, false, false, false, false, false, false, false] rfl rfl (any_of HT_.out (by kernel_rfl)) (fun _ _ _ h => h) (Or.inl ⟨by rfl, ?_⟩) ?_ ?_
                      rotate_left
                      · intro w'
                        go_simp
                        with_reducible rfl
                      rotate_left
                      · simp only [Act.put, List.setIfInBounds_toArray, List.set_cons_zero, List.set_cons_succ, i64_w, i32_w]
                        rfl
                      refine pure_ (i := 5) (N := some 62) (v := ?_) (a' := ?_) #[true, true, true, true, false, true, false, false, false, false, false, false, false, false] rfl rfl (any_of HT_.out (by kernel_rfl)) (fun _ _ _ h => h) (Or.inl ⟨by rfl, ?_⟩) ?_ ?_
                      rotate_left
                      · intro w'
                        go_simp
                        with_reducible rfl
                      rotate_left
                      · simp only [Act.put, List.setIfInBounds_toArray, List.set_cons_zero, List.set_cons_succ, i64_w, i32_w]
                        rfl
                      refine take_ (i := 4) (N := some 61) (v := ?_) (a' := ?_) #[true, true, true, true, true, true, false, false, false, false, false, false, false, false] rfl rfl (take_ofW HT_.out HW_.out (by kernel_rfl)) (fun _ _ _ h => h) (Or.inl ⟨by rfl, ?_⟩) hHeld ?_ ?_
                      rotate_left
                      · rintro w' ⟨s0, s1, s2, s3, s4, s5, s6, s7⟩
                        go_simp
                        with_reducible rfl
                      rotate_left
                      · simp only [Act.put, List.setIfInBounds_toArray, List.set_cons_zero, List.set_cons_succ, i64_w, i32_w]
                        rfl
                      refine take_ (i := 6) (N := some 63) (v := ?_) (a' := ?_) #[true, true, true, true, true, true, true, false, false, false, false, false, false, false] rfl rfl (take_ofW HT_.out HW_.out (by kernel_rfl)) (fun _ _ _ h => h) (Or.inl ⟨by rfl, ?_⟩) hHeld ?_ ?_
                      rotate_left
                      · rintro w' ⟨s0, s1, s2, s3, s4, s5, s6, s7⟩
                        go_simp
                        with_reducible rfl
                      rotate_left
                      · simp only [Act.put, List.setIfInBounds_toArray, List.set_cons_zero, List.set_cons_succ, i64_w, i32_w]
                        rfl
                      refine pure_ (i := 7) (N := some 64) (v := ?_) (a' := ?_) #[true, true, true, true, true, true, true, true, false, false, false, false, false, false] rfl rfl (any_of HT_.out (by kernel_rfl)) (fun _ _ _ h => h) (Or.inl ⟨by rfl, ?_⟩) ?_ ?_
                      rotate_left
                      · intro w'
                        go_simp
                        with_reducible rfl
                      rotate_left
                      · simp only [Act.put, List.setIfInBounds_toArray, List.set_cons_zero, List.set_cons_succ, i64_w, i32_w]
                        rfl
                      refine pure_ (i := 8) (N := some 65) (v := ?_) (a' := ?_) #[true, true, true, true, true, true, true, true, true, false, false, false, false, false] rfl rfl (any_of HT_.out (by kernel_rfl)) (fun _ _ _ h => h) (Or.inl ⟨by rfl, ?_⟩) ?_ ?_
                      rotate_left
                      · intro w'
                        go_simp
                        with_reducible rfl
                      rotate_left
                      · simp only [Act.put, List.setIfInBounds_toArray, List.set_cons_zero, List.set_cons_succ, i64_w, i32_w]
                        rfl
                      refine pure_ (i := 9) (N := some 66) (v := ?_) (a' := ?_) #[true, true, true, true, true, true, true, true, true, true, false, false, false, false] rfl rfl (any_of HT_.out (by kernel_rfl)) (fun _ _ _ h => h) (Or.inl ⟨by rfl, ?_⟩) ?_ ?_
                      rotate_left
                      · intro w'
                        go_simp
                        with_reducible rfl
                      rotate_left
                      · simp only [Act.put, List.setIfInBounds_toArray, List.set_cons_zero, List.set_cons_succ, i64_w, i32_w]
                        rfl
                      refine pure_ (i := 10) (N := some 67) (v := ?_) (a' := ?_) #[true, true, true, true, true, true, true, true, true, true, true, false, false, false] rfl rfl (any_of HT_.out (by kernel_rfl)) (fun _ _ _ h => h) (Or.inl ⟨by rfl, ?_⟩) ?_ ?_
                      rotate_left
                      · intro w'
                        go_simp
                        with_reducible rfl
                      rotate_left
                      · simp only [Act.put, List.setIfInBounds_toArray, List.set_cons_zero, List.set_cons_succ, i64_w, i32_w]
                        rfl
                      refine pure_ (i := 11) (N := some 68) (v := ?_) (a' := ?_) #[true, true, true, true, true, true, true, true, true, true, true, true, false, false] rfl rfl (any_of HT_.out (by kernel_rfl)) (fun _ _ _ h => h) (Or.inl ⟨by rfl, ?_⟩) ?_ ?_
                      rotate_left
                      · intro w'
                        go_simp
                        with_reducible rfl
                      rotate_left
                      · simp only [Act.put, List.setIfInBounds_toArray, List.set_cons_zero, List.set_cons_succ, i64_w, i32_w]
                        rfl
                      refine pure_ (i := 12) (N := some 69) (v := ?_) (a' := ?_) #[true, true, true, true, true, true, true, true, true, true, true, true, true, false] rfl rfl (any_of HT_.out (by kernel_rfl)) (fun _ _ _ h => h) (Or.inl ⟨by rfl, ?_⟩) ?_ ?_
                      rotate_left
                      · intro w'
                        go_simp
                        with_reducible rfl
                      rotate_left
                      · simp only [Act.put, List.setIfInBounds_toArray, List.set_cons_zero, List.set_cons_succ, i64_w, i32_w]
                        rfl
                      refine pure_ (i := 13) (N := some 70) (v := ?_) (a' := ?_) #[true, true, true, true, true, true, true, true, true, true, true, true, true, true] rfl rfl (any_of HT_.out (by kernel_rfl)) (fun _ _ _ h => h) (Or.inl ⟨by rfl, ?_⟩) ?_ ?_
                      rotate_left
                      · intro w'
                        go_simp
                        with_reducible rfl
                      rotate_left
                      · simp only [Act.put, List.setIfInBounds_toArray, List.set_cons_zero, List.set_cons_succ, i64_w, i32_w]
                        rfl
                      refine done_ (done_of HT_.out (by kernel_rfl)) ?_
                      try go_wp2
                      go_roundg k2
                      case measure => have := HJ5.out; have := HK2.out; omega
                      case rel => exact ⟨(x10_2), (wrap64 (x11_2 + 1)), (by first | rfl | (simp; done) | (simp [*]; done)), (by first | rfl | (simp; done) | (simp [*]; done)), H', ⟨by have := HJ5.out; have := HK2.out; omega⟩, ⟨by (with_reducible repeat (first | refine blk_drewN ?_ _ | refine blk_drew ?_ | refine blk_alloc ?_ _)); exact BK407.out⟩, ⟨by repeat (first | (with_reducible first | exact HB.out | apply below_alloc | apply pw_below_drewN | apply below_drew1 | refine below_set ?_ GE407.out) | exact HB.out)⟩⟩
                · rw [if_neg c25] at H
                  have c25b0 : decide (a0_0 < ((rd_T50 l2 x11_2).f1)) = false := decide_eq_false c25
                  clear c25
                  have H' := Aside0.mk H
                  clear H
                  try go_wp2
                  have n0_ := Aside0.mk (blk_drew BK407.out)
                  have n1_ := Aside0.mk (below_drew1 HB.out)
                  clear BK407
                  clear HB
                  have BK407 := n0_
                  have HB := n1_
                  clear n0_ n1_
                  have p416 : 0 ≤ (x11_2 : Int) := of_decide_eq_true (by first | (with_reducible assumption) | assumption)
                  have q416 : x11_2 < (l2.length : Int) := of_decide_eq_true (by first | (with_reducible assumption) | assumption)
                  obtain ⟨ad416, A416_3, c416_3, A416_4, c416_4, e416, hx416_0, hx416_1, hx416_2, hx416_3, hx416_4, hx416_5, hl416_3, hi416_3, hl416_4, hi416_4⟩ := at_T50 HR2.out x11_2 p416 q416
                  have hw416_5 := hx416_5
                  have hw416_4 := hx416_4
                  have hw416_3 := hx416_3
                  have hw416_2 := hx416_2
                  have hw416_1 := hx416_1
                  have hw416_0 := hx416_0
                  cases e416
                  replace hx416_0 := (HB.out.cell (World.block_lt_of_cell? w _ hx416_0)).trans hx416_0
                  replace hx416_1 := (HB.out.cell (World.block_lt_of_cell? w _ hx416_1)).trans hx416_1
                  replace hx416_2 := (HB.out.cell (World.block_lt_of_cell? w _ hx416_2)).trans hx416_2
                  replace hx416_3 := (HB.out.cell (World.block_lt_of_cell? w _ hx416_3)).trans hx416_3
                  replace hx416_4 := (HB.out.cell (World.block_lt_of_cell? w _ hx416_4)).trans hx416_4
                  replace hx416_5 := (HB.out.cell (World.block_lt_of_cell? w _ hx416_5)).trans hx416_5
                  have HR416_3 := Aside0.mk hi416_3
                  have HC416_3 := Aside0.mk hl416_3
                  clear hi416_3 hl416_3
                  have HR416_4 := Aside0.mk hi416_4
                  have HC416_4 := Aside0.mk hl416_4
                  clear hi416_4 hl416_4
                  replace p416 := eq_true p416
                  replace q416 := eq_true q416
                  refine start_ (n := 9) (S := fun w' => w'.cell? ⟨gb407, 0, none⟩ = some (.int .i64 a0_0) ∧ w'.cell? ⟨gb407, 1, none⟩ = some (.slice A0_1 l0_1.length c0_1) ∧ w'.cell? (ad416.add ((x11_2).toNat * 6)) = some (.int .i64 ((rd_T50 l2 x11_2).f0)) ∧ w'.cell? ⟨(ad416.add ((x11_2).toNat * 6)).block, (ad416.add ((x11_2).toNat * 6)).off + 1, none⟩ = some (.int .i64 ((rd_T50 l2 x11_2).f1)) ∧ w'.cell? ⟨(ad416.add ((x11_2).toNat * 6)).block, (ad416.add ((x11_2).toNat * 6)).off + 2, none⟩ = some (.bool ((rd_T50 l2 x11_2).f2)) ∧ w'.cell? ⟨(ad416.add ((x11_2).toNat * 6)).block, (ad416.add ((x11_2).toNat * 6)).off + 3, none⟩ = some (.slice A416_3 ((rd_T50 l2 x11_2).f3).length c416_3) ∧ w'.cell? ⟨(ad416.add ((x11_2).toNat * 6)).block, (ad416.add ((x11_2).toNat * 6)).off + 4, none⟩ = some (.slice A416_4 ((rd_T50 l2 x11_2).f4).length c416_4) ∧ w'.cell? ⟨(ad416.add ((x11_2).toNat * 6)).block, (ad416.add ((x11_2).toNat * 6)).off + 5, none⟩ = some (.bool ((rd_T50 l2 x11_2).f5))) (ds := []) #[false, false, false, false, false, false, false, false, false] (by kernel_rfl) rfl rfl ⟨(blk_cell BK407.out 0).trans rfl, (blk_cell BK407.out 1).trans rfl, ((HB.out.cell (World.block_lt_of_cell? w _ hw416_0)).trans hw416_0), ((HB.out.cell (World.block_lt_of_cell? w _ hw416_1)).trans hw416_1), ((HB.out.cell (World.block_lt_of_cell? w _ hw416_2)).trans hw416_2), ((HB.out.cell (World.block_lt_of_cell? w _ hw416_3)).trans hw416_3), ((HB.out.cell (World.block_lt_of_cell? w _ hw416_4)).trans hw416_4), ((HB.out.cell (World.block_lt_of_cell? w _ hw416_5)).trans hw416_5)⟩ (fun hHeld => ?_); refine with_tabW banksmanlaw14_RivalFree.tab8 banksmanlaw14_RivalFree.bits8 (fun HT_ HW_ => ?_)
                  generalize wr.drew = w37 at BK407 HB HR416_3 HR416_4 hx416_0 hx416_1 hx416_2 hx416_3 hx416_4 hx416_5 hHeld ⊢
                  refine pure_ (i := 0) (N := some 42) (v := ?_) (a' := ?_) #[true, false, false, false, false, false, false, false, false] rfl rfl (any_of HT_.out (by kernel_rfl)) (fun _ _ _ h => h) (Or.inl ⟨by rfl, ?_⟩) ?_ ?_
                  rotate_left
                  · intro w'
                    go_simp
                    with_reducible rfl
                  rotate_left
                  · simp only [Act.put, List.setIfInBounds_toArray, List.set_cons_zero, List.set_cons_succ, i64_w, i32_w]
                    rfl
                  refine pure_ (i := 2) (N := some 44) (v := ?_) (a' := ?_) #[true, false, true, false, false, false, false, false, false] rfl rfl (any_of HT_.out (by kernel_rfl)) (fun _ _ _ h => h) (Or.inl ⟨by rfl, ?_⟩) ?_ ?_
                  rotate_left
                  · intro w'
                    go_simp
                    with_reducible rfl
                  rotate_left
                  · simp only [Act.put, List.setIfInBounds_toArray, List.set_cons_zero, List.set_cons_succ, i64_w, i32_w]
                    rfl
                  refine pure_ (i := 3) (N := some 45) (v := ?_) (a' := ?_) #[true, false, true, true, false, false, false, false, false] rfl rfl (any_of HT_.out (by kernel_rfl)) (fun _ _ _ h => h) (Or.inl ⟨by rfl, ?_⟩) ?_ ?_
                  rotate_left
                  · intro w'
                    go_simp
                    with_reducible rfl
                  rotate_left
                  · simp only [Act.put, List.setIfInBounds_toArray, List.set_cons_zero, List.set_cons_succ, i64_w, i32_w]
                    rfl
                  refine pure_ (i := 4) (N := some 46) (v := ?_) (a' := ?_) #[true, false, true, true, true, false, false, false, false] rfl rfl (any_of HT_.out (by kernel_rfl)) (fun _ _ _ h => h) (Or.inl ⟨by rfl, ?_⟩) ?_ ?_
                  rotate_left
                  · intro w'
                    go_simp
                    with_reducible rfl
                  rotate_left
                  · simp only [Act.put, List.setIfInBounds_toArray, List.set_cons_zero, List.set_cons_succ, i64_w, i32_w]
                    rfl
                  refine pure_ (i := 5) (N := some 47) (v := ?_) (a' := ?_) #[true, false, true, true, true, true, false, false, false] rfl rfl (any_of HT_.out (by kernel_rfl)) (fun _ _ _ h => h) (Or.inl ⟨by rfl, ?_⟩) ?_ ?_
                  rotate_left
                  · intro w'
                    go_simp
                    with_reducible rfl
                  rotate_left
                  · simp only [Act.put, List.setIfInBounds_toArray, List.set_cons_zero, List.set_cons_succ, i64_w, i32_w]
                    rfl
                  refine take_ (i := 1) (N := some 43) (v := ?_) (a' := ?_) #[true, true, true, true, true, true, false, false, false] rfl rfl (take_ofW HT_.out HW_.out (by kernel_rfl)) (fun _ _ _ h => h) (Or.inl ⟨by rfl, ?_⟩) hHeld ?_ ?_
                  rotate_left
                  · rintro w' ⟨s0, s1, s2, s3, s4, s5, s6, s7⟩
                    go_simp
                    with_reducible rfl
                  rotate_left
                  · simp only [Act.put, List.setIfInBounds_toArray, List.set_cons_zero, List.set_cons_succ, i64_w, i32_w]
                    rfl
                  refine take_ (i := 6) (N := some 48) (v := ?_) (a' := ?_) #[true, true, true, true, true, true, true, false, false] rfl rfl (take_ofW HT_.out HW_.out (by kernel_rfl)) (fun _ _ _ h => h) (Or.inl ⟨by rfl, ?_⟩) hHeld ?_ ?_
                  rotate_left
                  · rintro w' ⟨s0, s1, s2, s3, s4, s5, s6, s7⟩
                    go_simp
                    with_reducible rfl
                  rotate_left
                  · simp only [Act.put, List.setIfInBounds_toArray, List.set_cons_zero, List.set_cons_succ, i64_w, i32_w]
                    rfl
                  refine one_ (i := 7) (N := some 49) #[true, true, true, true, true, true, true, true, false] rfl rfl (one_of HT_.out (by kernel_rfl)) (by decide) (fun K hK => ?_)
                  refine goes_ Try.func19 (by kernel_rfl) rfl #[.slice A0_1 l0_1.length c0_1, .slice A416_4 ((rd_T50 l2 x11_2).f4).length c416_4] (by rfl) rfl rfl (by (try simp only [List.map_toArray, List.map_cons, List.map_nil]); first | done | rfl | (simp only [List.length_drop, List.length_take]; rfl)) ?_
                  with_reducible refine (banksmanref13_Hit.calls k2 _ _ l0_1 _ _ ((rd_T50 l2 x11_2).f4) t417 _ ?side1 ?side2 ?side3 ?side4 A23.out).mono ?_
                  (case side1 => repeat (first | exact (Kd.C_below HR0_1.out HB.out) | (with_reducible refine Kd.C_alloc ?_ _) | (with_reducible refine Kd.C_drewN ?_ _) | (with_reducible refine Kd.C_drew ?_)))
                  (case side2 => exact HC0_1.out)
                  (case side3 => repeat (first | exact (Kd.C_below HR416_4.out HB.out) | (with_reducible refine Kd.C_alloc ?_ _) | (with_reducible refine Kd.C_drewN ?_ _) | (with_reducible refine Kd.C_drew ?_)))
                  (case side4 => exact HC416_4.out)
                  rintro e w38 ⟨rfl, hb⟩
                  refine ⟨_, rfl, ?_⟩
                  have n0_ := Aside0.mk (blk_below (g := gb407) (o := .cells #[.int .i64 a0_0, .slice A0_1 l0_1.length c0_1] 24 (0, 0)) (by (with_reducible repeat (first | refine blk_drewN ?_ _ | refine blk_drew ?_ | refine blk_alloc ?_ _)); exact BK407.out) hb)
                  have n1_ := Aside0.mk (below_step (by repeat (first | (with_reducible first | exact HB.out | apply below_alloc | apply pw_below_drewN | apply below_drew1 | refine below_set ?_ GE407.out) | exact HB.out)) hb)
                  clear BK407
                  clear HB
                  have BK407 := n0_
                  have HB := n1_
                  clear n0_ n1_
                  (try clear hb)
                  (try clear hb2)
                  (try clear hk)
                  (try clear hi)
                  refine hK.out _ _ ⟨(blk_cell BK407.out 0).trans rfl, (blk_cell BK407.out 1).trans rfl, ((HB.out.cell (World.block_lt_of_cell? w _ hw416_0)).trans hw416_0), ((HB.out.cell (World.block_lt_of_cell? w _ hw416_1)).trans hw416_1), ((HB.out.cell (World.block_lt_of_cell? w _ hw416_2)).trans hw416_2), ((HB.out.cell (World.block_lt_of_cell? w _ hw416_3)).trans hw416_3), ((HB.out.cell (World.block_lt_of_cell? w _ hw416_4)).trans hw416_4), ((HB.out.cell (World.block_lt_of_cell? w _ hw416_5)).trans hw416_5)⟩ (fun hHeld => ?_)
                  clear hK K
                  refine norm_ (a' := ?_) ?_ ?_
                  rotate_left
                  · show Act.put _ (some 49) _ = _
                    simp only [Act.put, List.setIfInBounds_toArray, List.set_cons_zero, List.set_cons_succ, i64_w, i32_w]
                    rfl
                  refine pure_ (i := 8) (N := some 12) (v := ?_) (a' := ?_) #[true, true, true, true, true, true, true, true, true] rfl rfl (any_of HT_.out (by kernel_rfl)) (fun _ _ _ h => h) (Or.inl ⟨by rfl, ?_⟩) ?_ ?_
                  rotate_left
                  · intro w'
                    go_simp
                    with_reducible rfl
                  rotate_left
                  · simp only [Act.put, List.setIfInBounds_toArray, List.set_cons_zero, List.set_cons_succ, i64_w, i32_w]
                    rfl
                  refine done_ (done_of HT_.out (by kernel_rfl)) ?_
                  have p418 : 0 ≤ (x11_2 : Int) := of_decide_eq_true (by first | (with_reducible assumption) | assumption)
                  have q418 : x11_2 < (l2.length : Int) := of_decide_eq_true (by first | (with_reducible assumption) | assumption)
                  obtain ⟨ad418, A418_3, c418_3, A418_4, c418_4, e418, hx418_0, hx418_1, hx418_2, hx418_3, hx418_4, hx418_5, hl418_3, hi418_3, hl418_4, hi418_4⟩ := at_T50 HR2.out x11_2 p418 q418
                  obtain rfl : ad416 = ad418 := (by injection e418)
                  (try (have ea_ := Option.some.inj (hx418_3.symm.trans hw416_3); injection ea_ with ea_ en_ ec_; subst ea_; subst ec_; clear en_))
                  (try (have ea_ := Option.some.inj (hx418_4.symm.trans hw416_4); injection ea_ with ea_ en_ ec_; subst ea_; subst ec_; clear en_))
                  (try (have ea_ := Option.some.inj (hx418_3.symm.trans hw420_3); injection ea_ with ea_ en_ ec_; subst ea_; subst ec_; clear en_))
                  (try (have ea_ := Option.some.inj (hx418_4.symm.trans hw420_4); injection ea_ with ea_ en_ ec_; subst ea_; subst ec_; clear en_))
                  (try (have ea_ := Option.some.inj (hx418_3.symm.trans hw416_3); injection ea_ with ea_ en_ ec_; subst ea_; subst ec_; clear en_))
                  (try (have ea_ := Option.some.inj (hx418_4.symm.trans hw416_4); injection ea_ with ea_ en_ ec_; subst ea_; subst ec_; clear en_))
                  (try (have ea_ := Option.some.inj (hx418_3.symm.trans hw420_3); injection ea_ with ea_ en_ ec_; subst ea_; subst ec_; clear en_))
                  (try (have ea_ := Option.some.inj (hx418_4.symm.trans hw420_4); injection ea_ with ea_ en_ ec_; subst ea_; subst ec_; clear en_))
                  (try (have ea_ := Option.some.inj (hx418_3.symm.trans hw416_3); injection ea_ with ea_ en_ ec_; subst ea_; subst ec_; clear en_))
                  (try (have ea_ := Option.some.inj (hx418_4.symm.trans hw416_4); injection ea_ with ea_ en_ ec_; subst ea_; subst ec_; clear en_))
                  (try (have ea_ := Option.some.inj (hx418_3.symm.trans hw420_3); injection ea_ with ea_ en_ ec_; subst ea_; subst ec_; clear en_))
                  (try (have ea_ := Option.some.inj (hx418_4.symm.trans hw420_4); injection ea_ with ea_ en_ ec_; subst ea_; subst ec_; clear en_))
                  (try (have ea_ := Option.some.inj (hx418_3.symm.trans hw416_3); injection ea_ with ea_ en_ ec_; subst ea_; subst ec_; clear en_))
                  (try (have ea_ := Option.some.inj (hx418_4.symm.trans hw416_4); injection ea_ with ea_ en_ ec_; subst ea_; subst ec_; clear en_))
                  replace hx418_0 := (HB.out.cell (World.block_lt_of_cell? w _ hx418_0)).trans hx418_0
                  replace hx418_1 := (HB.out.cell (World.block_lt_of_cell? w _ hx418_1)).trans hx418_1
                  replace hx418_2 := (HB.out.cell (World.block_lt_of_cell? w _ hx418_2)).trans hx418_2
                  replace hx418_3 := (HB.out.cell (World.block_lt_of_cell? w _ hx418_3)).trans hx418_3
                  replace hx418_4 := (HB.out.cell (World.block_lt_of_cell? w _ hx418_4)).trans hx418_4
                  replace hx418_5 := (HB.out.cell (World.block_lt_of_cell? w _ hx418_5)).trans hx418_5
                  have HR418_3 := Aside0.mk hi418_3
                  have HC418_3 := Aside0.mk hl418_3
                  clear hi418_3 hl418_3
                  have HR418_4 := Aside0.mk hi418_4
                  have HC418_4 := Aside0.mk hl418_4
                  clear hi418_4 hl418_4
                  replace p418 := eq_true p418
                  replace q418 := eq_true q418
                  try go_wp2_with (first | ((with_reducible refine gate_callee (f := 20) rfl ?_); refine goesL_ (some 56) rfl rfl Try.func20 (by kernel_rfl) rfl #[.slice A418_4 ((rd_T50 l2 x11_2).f4).length c418_4, .slice A1 l1.length c1] rfl (by (try simp only [List.map_toArray, List.map_cons, List.map_nil]); first | done | rfl | (simp only [List.length_drop, List.length_take]; rfl)) ?_; (with_reducible refine (banksmanref13_Same.calls k2 _ _ ((rd_T50 l2 x11_2).f4) _ _ l1 t419 _ ?side1 ?side2 ?side3 ?side4 A24.out).mono ?_); (case side1 => repeat (first | exact (Kd.C_below HR418_4.out HB.out) | (with_reducible refine Kd.C_alloc ?_ _) | (with_reducible refine Kd.C_drewN ?_ _) | (with_reducible refine Kd.C_drew ?_))); (case side2 => exact HC418_4.out); (case side3 => repeat (first | exact (Kd.C_below HR1.out HB.out) | (with_reducible refine Kd.C_alloc ?_ _) | (with_reducible refine Kd.C_drewN ?_ _) | (with_reducible refine Kd.C_drew ?_))); (case side4 => exact HC1.out); rintro e w' ⟨rfl, ⟨nd, rfl⟩⟩; refine ⟨_, rfl, ?_⟩))
                  (try (rw [drewN_self w38]; generalize hq_ : World.drewN w38 _ = w38; have n0_ : Aside0 (w38.heap[gb407]? = some (.cells #[.int .i64 a0_0, .slice A0_1 l0_1.length c0_1] 24 (0, 0))) := ⟨by rw [← hq_]; exact (by (with_reducible repeat (first | refine blk_drewN ?_ _ | refine blk_drew ?_ | refine blk_alloc ?_ _)); exact BK407.out)⟩; have n1_ : Aside0 (Below w.heap.size w w38) := ⟨by rw [← hq_]; exact (by repeat (first | (with_reducible first | exact HB.out | apply below_alloc | apply pw_below_drewN | apply below_drew1 | refine below_set ?_ GE407.out) | exact HB.out))⟩; clear BK407 HB hq_; have BK407 := n0_; have HB := n1_; clear n0_ n1_))
                  have n0_ := Aside0.mk (blk_drew BK407.out)
                  have n1_ := Aside0.mk (below_drew1 HB.out)
                  clear BK407
                  clear HB
                  have BK407 := n0_
                  have HB := n1_
                  clear n0_ n1_
                  have p420 : 0 ≤ (x11_2 : Int) := of_decide_eq_true (by first | (with_reducible assumption) | assumption)
                  have q420 : x11_2 < (l2.length : Int) := of_decide_eq_true (by first | (with_reducible assumption) | assumption)
                  obtain ⟨ad420, A420_3, c420_3, A420_4, c420_4, e420, hx420_0, hx420_1, hx420_2, hx420_3, hx420_4, hx420_5, hl420_3, hi420_3, hl420_4, hi420_4⟩ := at_T50 HR2.out x11_2 p420 q420
                  have hw420_5 := hx420_5
                  have hw420_4 := hx420_4
                  have hw420_3 := hx420_3
                  have hw420_2 := hx420_2
                  have hw420_1 := hx420_1
                  have hw420_0 := hx420_0
                  obtain rfl : ad416 = ad420 := (by injection e420)
                  (try (have ea_ := Option.some.inj (hx420_3.symm.trans hw416_3); injection ea_ with ea_ en_ ec_; subst ea_; subst ec_; clear en_))
                  (try (have ea_ := Option.some.inj (hx420_4.symm.trans hw416_4); injection ea_ with ea_ en_ ec_; subst ea_; subst ec_; clear en_))
                  (try (have ea_ := Option.some.inj (hx420_3.symm.trans hw420_3); injection ea_ with ea_ en_ ec_; subst ea_; subst ec_; clear en_))
                  (try (have ea_ := Option.some.inj (hx420_4.symm.trans hw420_4); injection ea_ with ea_ en_ ec_; subst ea_; subst ec_; clear en_))
                  (try (have ea_ := Option.some.inj (hx420_3.symm.trans hw416_3); injection ea_ with ea_ en_ ec_; subst ea_; subst ec_; clear en_))
                  (try (have ea_ := Option.some.inj (hx420_4.symm.trans hw416_4); injection ea_ with ea_ en_ ec_; subst ea_; subst ec_; clear en_))
                  (try (have ea_ := Option.some.inj (hx420_3.symm.trans hw420_3); injection ea_ with ea_ en_ ec_; subst ea_; subst ec_; clear en_))
                  (try (have ea_ := Option.some.inj (hx420_4.symm.trans hw420_4); injection ea_ with ea_ en_ ec_; subst ea_; subst ec_; clear en_))
                  (try (have ea_ := Option.some.inj (hx420_3.symm.trans hw416_3); injection ea_ with ea_ en_ ec_; subst ea_; subst ec_; clear en_))
                  (try (have ea_ := Option.some.inj (hx420_4.symm.trans hw416_4); injection ea_ with ea_ en_ ec_; subst ea_; subst ec_; clear en_))
                  (try (have ea_ := Option.some.inj (hx420_3.symm.trans hw420_3); injection ea_ with ea_ en_ ec_; subst ea_; subst ec_; clear en_))
                  (try (have ea_ := Option.some.inj (hx420_4.symm.trans hw420_4); injection ea_ with ea_ en_ ec_; subst ea_; subst ec_; clear en_))
                  (try (have ea_ := Option.some.inj (hx420_3.symm.trans hw416_3); injection ea_ with ea_ en_ ec_; subst ea_; subst ec_; clear en_))
                  (try (have ea_ := Option.some.inj (hx420_4.symm.trans hw416_4); injection ea_ with ea_ en_ ec_; subst ea_; subst ec_; clear en_))
                  (try (have ea_ := Option.some.inj (hx420_3.symm.trans hw420_3); injection ea_ with ea_ en_ ec_; subst ea_; subst ec_; clear en_))
                  (try (have ea_ := Option.some.inj (hx420_4.symm.trans hw420_4); injection ea_ with ea_ en_ ec_; subst ea_; subst ec_; clear en_))
                  replace hx420_0 := (HB.out.cell (World.block_lt_of_cell? w _ hx420_0)).trans hx420_0
                  replace hx420_1 := (HB.out.cell (World.block_lt_of_cell? w _ hx420_1)).trans hx420_1
                  replace hx420_2 := (HB.out.cell (World.block_lt_of_cell? w _ hx420_2)).trans hx420_2
                  replace hx420_3 := (HB.out.cell (World.block_lt_of_cell? w _ hx420_3)).trans hx420_3
                  replace hx420_4 := (HB.out.cell (World.block_lt_of_cell? w _ hx420_4)).trans hx420_4
                  replace hx420_5 := (HB.out.cell (World.block_lt_of_cell? w _ hx420_5)).trans hx420_5
                  have HR420_3 := Aside0.mk hi420_3
                  have HC420_3 := Aside0.mk hl420_3
                  clear hi420_3 hl420_3
                  have HR420_4 := Aside0.mk hi420_4
                  have HC420_4 := Aside0.mk hl420_4
                  clear hi420_4 hl420_4
                  replace p420 := eq_true p420
                  replace q420 := eq_true q420
                  refine start_ (n := 14) (S := fun w' => w'.cell? ⟨gb407, 0, none⟩ = some (.int .i64 a0_0) ∧ w'.cell? ⟨gb407, 1, none⟩ = some (.slice A0_1 l0_1.length c0_1) ∧ w'.cell? (ad416.add ((x11_2).toNat * 6)) = some (.int .i64 ((rd_T50 l2 x11_2).f0)) ∧ w'.cell? ⟨(ad416.add ((x11_2).toNat * 6)).block, (ad416.add ((x11_2).toNat * 6)).off + 1, none⟩ = some (.int .i64 ((rd_T50 l2 x11_2).f1)) ∧ w'.cell? ⟨(ad416.add ((x11_2).toNat * 6)).block, (ad416.add ((x11_2).toNat * 6)).off + 2, none⟩ = some (.bool ((rd_T50 l2 x11_2).f2)) ∧ w'.cell? ⟨(ad416.add ((x11_2).toNat * 6)).block, (ad416.add ((x11_2).toNat * 6)).off + 3, none⟩ = some (.slice A420_3 ((rd_T50 l2 x11_2).f3).length c420_3) ∧ w'.cell? ⟨(ad416.add ((x11_2).toNat * 6)).block, (ad416.add ((x11_2).toNat * 6)).off + 4, none⟩ = some (.slice A420_4 ((rd_T50 l2 x11_2).f4).length c420_4) ∧ w'.cell? ⟨(ad416.add ((x11_2).toNat * 6)).block, (ad416.add ((x11_2).toNat * 6)).off + 5, none⟩ = some (.bool ((rd_T50 l2 x11_2).f5))) (ds := []) #[false, false, false, false, false, false, false, false, false, false, false, false, false, false] (by kernel_rfl) rfl rfl ⟨(blk_cell BK407.out 0).trans rfl, (blk_cell BK407.out 1).trans rfl, ((HB.out.cell (World.block_lt_of_cell? w _ hw420_0)).trans hw420_0), ((HB.out.cell (World.block_lt_of_cell? w _ hw420_1)).trans hw420_1), ((HB.out.cell (World.block_lt_of_cell? w _ hw420_2)).trans hw420_2), ((HB.out.cell (World.block_lt_of_cell? w _ hw420_3)).trans hw420_3), ((HB.out.cell (World.block_lt_of_cell? w _ hw420_4)).trans hw420_4), ((HB.out.cell (World.block_lt_of_cell? w _ hw420_5)).trans hw420_5)⟩ (fun hHeld => ?_); refine with_tabW banksmanlaw14_RivalFree.tab10 banksmanlaw14_RivalFree.bits10 (fun HT_ HW_ => ?_)
                  generalize w38.drew = w39 at BK407 HB HR420_3 HR420_4 hx420_0 hx420_1 hx420_2 hx420_3 hx420_4 hx420_5 hHeld ⊢
                  refine pure_ (i := 0) (N := some 57) (v := ?_) (a' := ?_) #[true, false, false, false, false, false, false, false, false, false, false, false, false, false] rfl rfl (any_of HT_.out (by kernel_rfl)) (fun _ _ _ h => h) (Or.inl ⟨by rfl, ?_⟩) ?_ ?_
                  rotate_left
                  · intro w'
                    go_simp
                    with_reducible rfl
                  rotate_left
                  · simp only [Act.put, List.setIfInBounds_toArray, List.set_cons_zero, List.set_cons_succ, i64_w, i32_w]
                    rfl
                  refine pure_ (i := 1) (N := some 58) (v := ?_) (a' := ?_) #[true, true, false, false, false, false, false, false, false, false, false, false, false, false] rfl rfl (any_of HT_.out (by kernel_rfl)) (fun _ _ _ h => h) (Or.inl ⟨by rfl, ?_⟩) ?_ ?_
                  rotate_left
                  · intro w'
                    go_simp
                    with_reducible rfl
                  rotate_left
                  · simp only [Act.put, List.setIfInBounds_toArray, List.set_cons_zero, List.set_cons_succ, i64_w, i32_w]
                    rfl
                  refine pure_ (i := 2) (N := some 59) (v := ?_) (a' := ?_) #[true, true, true, false, false, false, false, false, false, false, false, false, false, false] rfl rfl (any_of HT_.out (by kernel_rfl)) (fun _ _ _ h => h) (Or.inl ⟨by rfl, ?_⟩) ?_ ?_
                  rotate_left
                  · intro w'
                    go_simp
                    with_reducible rfl
                  rotate_left
                  · simp only [Act.put, List.setIfInBounds_toArray, List.set_cons_zero, List.set_cons_succ, i64_w, i32_w]
                    rfl
                  refine pure_ (i := 3) (N := some 60) (v := ?_) (a' := ?_) #[true, true, true, true, false, false, false, false, false, false, false, false, false, false] rfl rfl (any_of HT_.out (by kernel_rfl)) (fun _ _ _ h => h) (Or.inl ⟨by rfl, ?_⟩) ?_ ?_
                  rotate_left
                  · intro w'
                    go_simp
                    with_reducible rfl
                  rotate_left
                  · simp only [Act.put, List.setIfInBounds_toArray, List.set_cons_zero, List.set_cons_succ, i64_w, i32_w]
                    rfl
                  refine pure_ (i := 5) (N := some 62) (v := ?_) (a' := ?_) #[true, true, true, true, false, true, false, false, false, false, false, false, false, false] rfl rfl (any_of HT_.out (by kernel_rfl)) (fun _ _ _ h => h) (Or.inl ⟨by rfl, ?_⟩) ?_ ?_
                  rotate_left
                  · intro w'
                    go_simp
                    with_reducible rfl
                  rotate_left
                  · simp only [Act.put, List.setIfInBounds_toArray, List.set_cons_zero, List.set_cons_succ, i64_w, i32_w]
                    rfl
                  refine take_ (i := 4) (N := some 61) (v := ?_) (a' := ?_) #[true, true, true, true, true, true, false, false, false, false, false, false, false, false] rfl rfl (take_ofW HT_.out HW_.out (by kernel_rfl)) (fun _ _ _ h => h) (Or.inl ⟨by rfl, ?_⟩) hHeld ?_ ?_
                  rotate_left
                  · rintro w' ⟨s0, s1, s2, s3, s4, s5, s6, s7⟩
                    go_simp
                    with_reducible rfl
                  rotate_left
                  · simp only [Act.put, List.setIfInBounds_toArray, List.set_cons_zero, List.set_cons_succ, i64_w, i32_w]
                    rfl
                  refine take_ (i := 6) (N := some 63) (v := ?_) (a' := ?_) #[true, true, true, true, true, true, true, false, false, false, false, false, false, false] rfl rfl (take_ofW HT_.out HW_.out (by kernel_rfl)) (fun _ _ _ h => h) (Or.inl ⟨by rfl, ?_⟩) hHeld ?_ ?_
                  rotate_left
                  · rintro w' ⟨s0, s1, s2, s3, s4, s5, s6, s7⟩
                    go_simp
                    with_reducible rfl
                  rotate_left
                  · simp only [Act.put, List.setIfInBounds_toArray, List.set_cons_zero, List.set_cons_succ, i64_w, i32_w]
                    rfl
                  refine pure_ (i := 7) (N := some 64) (v := ?_) (a' := ?_) #[true, true, true, true, true, true, true, true, false, false, false, false, false, false] rfl rfl (any_of HT_.out (by kernel_rfl)) (fun _ _ _ h => h) (Or.inl ⟨by rfl, ?_⟩) ?_ ?_
                  rotate_left
                  · intro w'
                    go_simp
                    with_reducible rfl
                  rotate_left
                  · simp only [Act.put, List.setIfInBounds_toArray, List.set_cons_zero, List.set_cons_succ, i64_w, i32_w]
                    rfl
                  refine pure_ (i := 8) (N := some 65) (v := ?_) (a' := ?_) #[true, true, true, true, true, true, true, true, true, false, false, false, false, false] rfl rfl (any_of HT_.out (by kernel_rfl)) (fun _ _ _ h => h) (Or.inl ⟨by rfl, ?_⟩) ?_ ?_
                  rotate_left
                  · intro w'
                    go_simp
                    with_reducible rfl
                  rotate_left
                  · simp only [Act.put, List.setIfInBounds_toArray, List.set_cons_zero, List.set_cons_succ, i64_w, i32_w]
                    rfl
                  refine pure_ (i := 9) (N := some 66) (v := undef) (a' := ?_) #[true, true, true, true, true, true, true, true, true, true, false, false, false, false] rfl rfl (any_of HT_.out (by kernel_rfl)) (fun _ _ _ h => h) (Or.inr ⟨by rfl, rfl⟩) ?_ ?_
                  rotate_left
                  · simp only [Act.put, List.setIfInBounds_toArray, List.set_cons_zero, List.set_cons_succ, i64_w, i32_w]
                    rfl
                  refine pure_ (i := 10) (N := some 67) (v := undef) (a' := ?_) #[true, true, true, true, true, true, true, true, true, true, true, false, false, false] rfl rfl (any_of HT_.out (by kernel_rfl)) (fun _ _ _ h => h) (Or.inr ⟨by rfl, rfl⟩) ?_ ?_
                  rotate_left
                  · simp only [Act.put, List.setIfInBounds_toArray, List.set_cons_zero, List.set_cons_succ, i64_w, i32_w]
                    rfl
                  refine pure_ (i := 11) (N := some 68) (v := undef) (a' := ?_) #[true, true, true, true, true, true, true, true, true, true, true, true, false, false] rfl rfl (any_of HT_.out (by kernel_rfl)) (fun _ _ _ h => h) (Or.inr ⟨by rfl, rfl⟩) ?_ ?_
                  rotate_left
                  · simp only [Act.put, List.setIfInBounds_toArray, List.set_cons_zero, List.set_cons_succ, i64_w, i32_w]
                    rfl
                  refine pure_ (i := 12) (N := some 69) (v := undef) (a' := ?_) #[true, true, true, true, true, true, true, true, true, true, true, true, true, false] rfl rfl (any_of HT_.out (by kernel_rfl)) (fun _ _ _ h => h) (Or.inr ⟨by rfl, rfl⟩) ?_ ?_
                  rotate_left
                  · simp only [Act.put, List.setIfInBounds_toArray, List.set_cons_zero, List.set_cons_succ, i64_w, i32_w]
                    rfl
                  refine pure_ (i := 13) (N := some 70) (v := ?_) (a' := ?_) #[true, true, true, true, true, true, true, true, true, true, true, true, true, true] rfl rfl (any_of HT_.out (by kernel_rfl)) (fun _ _ _ h => h) (Or.inl ⟨by rfl, ?_⟩) ?_ ?_
                  rotate_left
                  · intro w'
                    go_simp
                    with_reducible rfl
                  rotate_left
                  · simp only [Act.put, List.setIfInBounds_toArray, List.set_cons_zero, List.set_cons_succ, i64_w, i32_w]
                    rfl
                  refine done_ (done_of HT_.out (by kernel_rfl)) ?_
                  try go_wp2
                  go_roundg k2
                  case measure => have := HJ5.out; have := HK2.out; omega
                  case rel => exact ⟨(x10_2), (wrap64 (x11_2 + 1)), (by first | rfl | (simp; done) | (simp [*]; done)), (by first | rfl | (simp; done) | (simp [*]; done)), H', ⟨by have := HJ5.out; have := HK2.out; omega⟩, ⟨by (with_reducible repeat (first | refine blk_drewN ?_ _ | refine blk_drew ?_ | refine blk_alloc ?_ _)); exact BK407.out⟩, ⟨by repeat (first | (with_reducible first | exact HB.out | apply below_alloc | apply pw_below_drewN | apply below_drew1 | refine below_set ?_ GE407.out) | exact HB.out)⟩⟩
              · rw [if_neg c22] at H
                exact absurd H (by simp)
            · rw [if_neg c21] at H
              have c21b0 : decide (x11_2 < (l2.length : Int)) = false := decide_eq_false c21
              clear c21
              replace H := Option.bind_eq_some_iff.mp H
              obtain ⟨⟨t412, t413⟩, A400, H⟩ := H
              replace H : ((rival_Judge.f a0_0 l0_1 l1 ([] : List (S50)) l3).bind fun bt414 => (if t408 = true then (if x10_2 = true then (if t413 = 0 then (if t412 = true then (some false) else (if bt414.2 = 0 then (some (!bt414.1)) else (some false))) else (some false)) else (if bt414.2 = 0 then (some (!bt414.1)) else (some false))) else (some false))) = some r := H
              have A40 := Aside0.mk A400
              clear A400
              replace H := Option.bind_eq_some_iff.mp H
              obtain ⟨⟨t414, t415⟩, A410, H⟩ := H
              replace H : (if t408 = true then (if x10_2 = true then (if t413 = 0 then (if t412 = true then (some false) else (if t415 = 0 then (some (!t414)) else (some false))) else (some false)) else (if t415 = 0 then (some (!t414)) else (some false))) else (some false)) = some r := H
              have A41 := Aside0.mk A410
              clear A410
              by_cases c42 : t408 = true
              · subst c42
                have H1 : (if x10_2 = true then (if t413 = 0 then (if t412 = true then (some false) else (if t415 = 0 then (some (!t414)) else (some false))) else (some false)) else (if t415 = 0 then (some (!t414)) else (some false))) = some r := by rw [if_pos rfl] at H; exact H
                clear H
                have H := H1
                clear H1
                by_cases c43 : x10_2 = true
                · subst c43
                  have H1 : (if t413 = 0 then (if t412 = true then (some false) else (if t415 = 0 then (some (!t414)) else (some false))) else (some false)) = some r := by rw [if_pos rfl] at H; exact H
                  clear H
                  have H := H1
                  clear H1
                  by_cases c44 : t413 = 0
                  · rw [if_pos c44] at H
                    have c44b0 : (t413 == 0) = true := beq_iff_eq.mpr c44
                    have c44b1 : (t413 != 0) = false := bne_eq_false_iff_eq.mpr c44
                    clear c44
                    by_cases c45 : t412 = true
                    · subst c45
                      have H1 : (some false) = some r := by rw [if_pos rfl] at H; exact H
                      rw [HTr_] at H1
                      exact absurd (Option.some.inj H1) (by decide)
                    · replace c45 := Bool.eq_false_iff.mpr c45
                      subst c45
                      have H1 : (if t415 = 0 then (some (!t414)) else (some false)) = some r := by rw [if_neg (show ¬ (false = true) by decide)] at H; exact H
                      clear H
                      have H := H1
                      clear H1
                      by_cases c50 : t415 = 0
                      · rw [if_pos c50] at H
                        have c50b0 : (t415 == 0) = true := beq_iff_eq.mpr c50
                        have c50b1 : (t415 != 0) = false := bne_eq_false_iff_eq.mpr c50
                        clear c50
                        obtain rfl := Option.some.inj H
                        have hcz51_0 : wr.cell? ⟨gb407, 0, none⟩ = some (.int .i64 a0_0) := (blk_cell BK407.out 0).trans rfl
                        have hcz51_1 : wr.cell? ⟨gb407, 1, none⟩ = some (.slice A0_1 l0_1.length c0_1) := (blk_cell BK407.out 1).trans rfl
                        have hfz51_0 := blk_frozen BK407.out 0
                        have hfz51_1 := blk_frozen BK407.out 1
                        go_wp2_with (first | ((with_reducible refine gate_callee (f := 12) rfl ?_); refine goesL_ (some 76) rfl rfl Try.func12 (by kernel_rfl) rfl #[.agg #[.int .i64 a0_0, .slice A0_1 l0_1.length c0_1], .slice A1 l1.length c1, .slice A2 l2.length c2, .slice A3 l3.length c3] rfl (by (try simp only [List.map_toArray, List.map_cons, List.map_nil]); first | done | rfl | (simp only [List.length_drop, List.length_take]; rfl)) ?_; (with_reducible refine (rival_Judge.calls a0_0 _ _ l0_1 _ _ l1 _ _ l2 _ _ l3 false t413 _ ?side1 ?side2 ?side3 ?side4 ?side5 ?side6 ?side7 ?side8 A40.out).mono ?_); (case side1 => repeat (first | exact (Kd.C_below HR0_1.out HB.out) | (with_reducible refine Kd.C_alloc ?_ _) | (with_reducible refine Kd.C_drewN ?_ _) | (with_reducible refine Kd.C_drew ?_))); (case side2 => exact HC0_1.out); (case side3 => repeat (first | exact (Kd.C_below HR1.out HB.out) | (with_reducible refine Kd.C_alloc ?_ _) | (with_reducible refine Kd.C_drewN ?_ _) | (with_reducible refine Kd.C_drew ?_))); (case side4 => exact HC1.out); (case side5 => repeat (first | exact (Kd.C_below HR2.out HB.out) | (with_reducible refine Kd.C_alloc ?_ _) | (with_reducible refine Kd.C_drewN ?_ _) | (with_reducible refine Kd.C_drew ?_))); (case side6 => exact HC2.out); (case side7 => repeat (first | exact (Kd.C_below HR3.out HB.out) | (with_reducible refine Kd.C_alloc ?_ _) | (with_reducible refine Kd.C_drewN ?_ _) | (with_reducible refine Kd.C_drew ?_))); (case side8 => exact HC3.out); rintro e w52 ⟨rfl, hb⟩; refine ⟨_, rfl, ?_⟩; have n0_ := Aside0.mk (blk_below (g := gb407) (o := .cells #[.int .i64 a0_0, .slice A0_1 l0_1.length c0_1] 24 (0, 0)) (by (with_reducible repeat (first | refine blk_drewN ?_ _ | refine blk_drew ?_ | refine blk_alloc ?_ _)); exact BK407.out) hb); have n1_ := Aside0.mk (below_step (by repeat (first | (with_reducible first | exact HB.out | apply below_alloc | apply pw_below_drewN | apply below_drew1 | refine below_set ?_ GE407.out) | exact HB.out)) hb); clear BK407; clear HB; have BK407 := n0_; have HB := n1_; clear n0_ n1_; (try clear hb); (try clear hb2); (try clear hk); (try clear hi); have hcz53_0 : w52.cell? ⟨gb407, 0, none⟩ = some (.int .i64 a0_0) := (blk_cell BK407.out 0).trans rfl; have hcz53_1 : w52.cell? ⟨gb407, 1, none⟩ = some (.slice A0_1 l0_1.length c0_1) := (blk_cell BK407.out 1).trans rfl; have hfz53_0 := blk_frozen BK407.out 0; have hfz53_1 := blk_frozen BK407.out 1) | ((with_reducible refine gate_callee (f := 12) rfl ?_); refine goesL_ (some 83) rfl rfl Try.func12 (by kernel_rfl) rfl #[.agg #[.int .i64 a0_0, .slice A0_1 l0_1.length c0_1], .slice A1 l1.length c1, .slice none 0 0, .slice A3 l3.length c3] rfl (by (try simp only [List.map_toArray, List.map_cons, List.map_nil]); first | done | rfl | (simp only [List.length_drop, List.length_take]; rfl)) ?_; (refine (rival_Judge.calls a0_0 _ _ l0_1 _ _ l1 _ _ ([] : List (S50)) _ _ l3 t414 t415 _ ?side1 ?side2 ?side3 ?side4 ?side5 ?side6 ?side7 ?side8 A41.out).mono ?_); (case side1 => repeat (first | exact (Kd.C_below HR0_1.out HB.out) | (with_reducible refine Kd.C_alloc ?_ _) | (with_reducible refine Kd.C_drewN ?_ _) | (with_reducible refine Kd.C_drew ?_))); (case side2 => exact HC0_1.out); (case side3 => repeat (first | exact (Kd.C_below HR1.out HB.out) | (with_reducible refine Kd.C_alloc ?_ _) | (with_reducible refine Kd.C_drewN ?_ _) | (with_reducible refine Kd.C_drew ?_))); (case side4 => exact HC1.out); (case side5 => exact Kd.C_nil _ _); (case side6 => exact Nat.le_refl _); (case side7 => repeat (first | exact (Kd.C_below HR3.out HB.out) | (with_reducible refine Kd.C_alloc ?_ _) | (with_reducible refine Kd.C_drewN ?_ _) | (with_reducible refine Kd.C_drew ?_))); (case side8 => exact HC3.out); rintro e w54 ⟨rfl, hb⟩; refine ⟨_, rfl, ?_⟩; have n0_ := Aside0.mk (blk_below (g := gb407) (o := .cells #[.int .i64 a0_0, .slice A0_1 l0_1.length c0_1] 24 (0, 0)) (by (with_reducible repeat (first | refine blk_drewN ?_ _ | refine blk_drew ?_ | refine blk_alloc ?_ _)); exact BK407.out) hb); have n1_ := Aside0.mk (below_step (by repeat (first | (with_reducible first | exact HB.out | apply below_alloc | apply pw_below_drewN | apply below_drew1 | refine below_set ?_ GE407.out) | exact HB.out)) hb); clear BK407; clear HB; have BK407 := n0_; have HB := n1_; clear n0_ n1_; (try clear hb); (try clear hb2); (try clear hk); (try clear hi)))
                        go_ret
                        exact ⟨by first | rfl | (simp [errW_none, errW_some] <;> rfl) | (simp [*, errW_none, errW_some] <;> rfl), by repeat (first | (with_reducible first | exact HB.out | apply below_alloc | apply pw_below_drewN | apply below_drew1 | refine below_set ?_ GE407.out) | exact HB.out)⟩
                      · rw [if_neg c50] at H
                        rw [HTr_] at H
                        exact absurd (Option.some.inj H) (by decide)
                  · rw [if_neg c44] at H
                    rw [HTr_] at H
                    exact absurd (Option.some.inj H) (by decide)
                · replace c43 := Bool.eq_false_iff.mpr c43
                  subst c43
                  have H1 : (if t415 = 0 then (some (!t414)) else (some false)) = some r := by rw [if_neg (show ¬ (false = true) by decide)] at H; exact H
                  clear H
                  have H := H1
                  clear H1
                  by_cases c63 : t415 = 0
                  · rw [if_pos c63] at H
                    have c63b0 : (t415 == 0) = true := beq_iff_eq.mpr c63
                    have c63b1 : (t415 != 0) = false := bne_eq_false_iff_eq.mpr c63
                    clear c63
                    obtain rfl := Option.some.inj H
                    have hcz64_0 : wr.cell? ⟨gb407, 0, none⟩ = some (.int .i64 a0_0) := (blk_cell BK407.out 0).trans rfl
                    have hcz64_1 : wr.cell? ⟨gb407, 1, none⟩ = some (.slice A0_1 l0_1.length c0_1) := (blk_cell BK407.out 1).trans rfl
                    have hfz64_0 := blk_frozen BK407.out 0
                    have hfz64_1 := blk_frozen BK407.out 1
                    go_wp2_with (first | ((with_reducible refine gate_callee (f := 12) rfl ?_); refine goesL_ (some 76) rfl rfl Try.func12 (by kernel_rfl) rfl #[.agg #[.int .i64 a0_0, .slice A0_1 l0_1.length c0_1], .slice A1 l1.length c1, .slice A2 l2.length c2, .slice A3 l3.length c3] rfl (by (try simp only [List.map_toArray, List.map_cons, List.map_nil]); first | done | rfl | (simp only [List.length_drop, List.length_take]; rfl)) ?_; (with_reducible refine (rival_Judge.calls a0_0 _ _ l0_1 _ _ l1 _ _ l2 _ _ l3 t412 t413 _ ?side1 ?side2 ?side3 ?side4 ?side5 ?side6 ?side7 ?side8 A40.out).mono ?_); (case side1 => repeat (first | exact (Kd.C_below HR0_1.out HB.out) | (with_reducible refine Kd.C_alloc ?_ _) | (with_reducible refine Kd.C_drewN ?_ _) | (with_reducible refine Kd.C_drew ?_))); (case side2 => exact HC0_1.out); (case side3 => repeat (first | exact (Kd.C_below HR1.out HB.out) | (with_reducible refine Kd.C_alloc ?_ _) | (with_reducible refine Kd.C_drewN ?_ _) | (with_reducible refine Kd.C_drew ?_))); (case side4 => exact HC1.out); (case side5 => repeat (first | exact (Kd.C_below HR2.out HB.out) | (with_reducible refine Kd.C_alloc ?_ _) | (with_reducible refine Kd.C_drewN ?_ _) | (with_reducible refine Kd.C_drew ?_))); (case side6 => exact HC2.out); (case side7 => repeat (first | exact (Kd.C_below HR3.out HB.out) | (with_reducible refine Kd.C_alloc ?_ _) | (with_reducible refine Kd.C_drewN ?_ _) | (with_reducible refine Kd.C_drew ?_))); (case side8 => exact HC3.out); rintro e w65 ⟨rfl, hb⟩; refine ⟨_, rfl, ?_⟩; have n0_ := Aside0.mk (blk_below (g := gb407) (o := .cells #[.int .i64 a0_0, .slice A0_1 l0_1.length c0_1] 24 (0, 0)) (by (with_reducible repeat (first | refine blk_drewN ?_ _ | refine blk_drew ?_ | refine blk_alloc ?_ _)); exact BK407.out) hb); have n1_ := Aside0.mk (below_step (by repeat (first | (with_reducible first | exact HB.out | apply below_alloc | apply pw_below_drewN | apply below_drew1 | refine below_set ?_ GE407.out) | exact HB.out)) hb); clear BK407; clear HB; have BK407 := n0_; have HB := n1_; clear n0_ n1_; (try clear hb); (try clear hb2); (try clear hk); (try clear hi); have hcz66_0 : w65.cell? ⟨gb407, 0, none⟩ = some (.int .i64 a0_0) := (blk_cell BK407.out 0).trans rfl; have hcz66_1 : w65.cell? ⟨gb407, 1, none⟩ = some (.slice A0_1 l0_1.length c0_1) := (blk_cell BK407.out 1).trans rfl; have hfz66_0 := blk_frozen BK407.out 0; have hfz66_1 := blk_frozen BK407.out 1) | ((with_reducible refine gate_callee (f := 12) rfl ?_); refine goesL_ (some 83) rfl rfl Try.func12 (by kernel_rfl) rfl #[.agg #[.int .i64 a0_0, .slice A0_1 l0_1.length c0_1], .slice A1 l1.length c1, .slice none 0 0, .slice A3 l3.length c3] rfl (by (try simp only [List.map_toArray, List.map_cons, List.map_nil]); first | done | rfl | (simp only [List.length_drop, List.length_take]; rfl)) ?_; (refine (rival_Judge.calls a0_0 _ _ l0_1 _ _ l1 _ _ ([] : List (S50)) _ _ l3 t414 t415 _ ?side1 ?side2 ?side3 ?side4 ?side5 ?side6 ?side7 ?side8 A41.out).mono ?_); (case side1 => repeat (first | exact (Kd.C_below HR0_1.out HB.out) | (with_reducible refine Kd.C_alloc ?_ _) | (with_reducible refine Kd.C_drewN ?_ _) | (with_reducible refine Kd.C_drew ?_))); (case side2 => exact HC0_1.out); (case side3 => repeat (first | exact (Kd.C_below HR1.out HB.out) | (with_reducible refine Kd.C_alloc ?_ _) | (with_reducible refine Kd.C_drewN ?_ _) | (with_reducible refine Kd.C_drew ?_))); (case side4 => exact HC1.out); (case side5 => exact Kd.C_nil _ _); (case side6 => exact Nat.le_refl _); (case side7 => repeat (first | exact (Kd.C_below HR3.out HB.out) | (with_reducible refine Kd.C_alloc ?_ _) | (with_reducible refine Kd.C_drewN ?_ _) | (with_reducible refine Kd.C_drew ?_))); (case side8 => exact HC3.out); rintro e w67 ⟨rfl, hb⟩; refine ⟨_, rfl, ?_⟩; have n0_ := Aside0.mk (blk_below (g := gb407) (o := .cells #[.int .i64 a0_0, .slice A0_1 l0_1.length c0_1] 24 (0, 0)) (by (with_reducible repeat (first | refine blk_drewN ?_ _ | refine blk_drew ?_ | refine blk_alloc ?_ _)); exact BK407.out) hb); have n1_ := Aside0.mk (below_step (by repeat (first | (with_reducible first | exact HB.out | apply below_alloc | apply pw_below_drewN | apply below_drew1 | refine below_set ?_ GE407.out) | exact HB.out)) hb); clear BK407; clear HB; have BK407 := n0_; have HB := n1_; clear n0_ n1_; (try clear hb); (try clear hb2); (try clear hk); (try clear hi)))
                    go_ret
                    exact ⟨by first | rfl | (simp [errW_none, errW_some] <;> rfl) | (simp [*, errW_none, errW_some] <;> rfl), by repeat (first | (with_reducible first | exact HB.out | apply below_alloc | apply pw_below_drewN | apply below_drew1 | refine below_set ?_ GE407.out) | exact HB.out)⟩
                  · rw [if_neg c63] at H
                    rw [HTr_] at H
                    exact absurd (Option.some.inj H) (by decide)
              · replace c42 := Bool.eq_false_iff.mpr c42
                subst c42
                have H1 : (some false) = some r := by rw [if_neg (show ¬ (false = true) by decide)] at H; exact H
                rw [HTr_] at H1
                exact absurd (Option.some.inj H1) (by decide)

/-- The law, plainly. -/
def banksmanlaw14_RivalFree.Pure : Prop := ∀ (a0_0 : Int) (l0_1 : List (S57)) (l1 : List (S59)) (l2 : List (S50)) (l3 : List (S24)), (fun n_ : Int => (Lit.int .i64 n_).wf = true) a0_0 → (fun xs_ : List (S57) => xs_.length ≤ maxLen ∧ ∀ x ∈ xs_, (fun x_ : S57 => (fun n_ : Int => (Lit.int .i64 n_).wf = true) x_.f0 ∧ (fun xs_ : List Int => xs_.length ≤ maxLen ∧ ∀ x ∈ xs_, (fun n_ : Int => (Lit.int .u8 n_).wf = true) x) x_.f1 ∧ (fun xs_ : List Int => xs_.length ≤ maxLen ∧ ∀ x ∈ xs_, (fun n_ : Int => (Lit.int .u8 n_).wf = true) x) x_.f2 ∧ (fun _ : Bool => True) x_.f3) x) l0_1 → (fun xs_ : List (S59) => xs_.length ≤ maxLen ∧ ∀ x ∈ xs_, (fun x_ : S59 => (fun n_ : Int => (Lit.int .i64 n_).wf = true) x_.f0 ∧ (fun xs_ : List Int => xs_.length ≤ maxLen ∧ ∀ x ∈ xs_, (fun n_ : Int => (Lit.int .u8 n_).wf = true) x) x_.f1 ∧ (fun _ : Bool => True) x_.f2 ∧ (fun xs_ : List Int => xs_.length ≤ maxLen ∧ ∀ x ∈ xs_, (fun n_ : Int => (Lit.int .u8 n_).wf = true) x) x_.f3) x) l1 → (fun xs_ : List (S50) => xs_.length ≤ maxLen ∧ ∀ x ∈ xs_, (fun x_ : S50 => (fun n_ : Int => (Lit.int .i64 n_).wf = true) x_.f0 ∧ (fun n_ : Int => (Lit.int .i64 n_).wf = true) x_.f1 ∧ (fun _ : Bool => True) x_.f2 ∧ (fun xs_ : List (S57) => xs_.length ≤ maxLen ∧ ∀ x ∈ xs_, (fun x_ : S57 => (fun n_ : Int => (Lit.int .i64 n_).wf = true) x_.f0 ∧ (fun xs_ : List Int => xs_.length ≤ maxLen ∧ ∀ x ∈ xs_, (fun n_ : Int => (Lit.int .u8 n_).wf = true) x) x_.f1 ∧ (fun xs_ : List Int => xs_.length ≤ maxLen ∧ ∀ x ∈ xs_, (fun n_ : Int => (Lit.int .u8 n_).wf = true) x) x_.f2 ∧ (fun _ : Bool => True) x_.f3) x) x_.f3 ∧ (fun xs_ : List (S59) => xs_.length ≤ maxLen ∧ ∀ x ∈ xs_, (fun x_ : S59 => (fun n_ : Int => (Lit.int .i64 n_).wf = true) x_.f0 ∧ (fun xs_ : List Int => xs_.length ≤ maxLen ∧ ∀ x ∈ xs_, (fun n_ : Int => (Lit.int .u8 n_).wf = true) x) x_.f1 ∧ (fun _ : Bool => True) x_.f2 ∧ (fun xs_ : List Int => xs_.length ≤ maxLen ∧ ∀ x ∈ xs_, (fun n_ : Int => (Lit.int .u8 n_).wf = true) x) x_.f3) x) x_.f4 ∧ (fun _ : Bool => True) x_.f5) x) l2 → (fun xs_ : List (S24) => xs_.length ≤ maxLen ∧ ∀ x ∈ xs_, (fun x_ : S24 => (fun n_ : Int => (Lit.int .i64 n_).wf = true) x_.f0 ∧ (fun xs_ : List (S57) => xs_.length ≤ maxLen ∧ ∀ x ∈ xs_, (fun x_ : S57 => (fun n_ : Int => (Lit.int .i64 n_).wf = true) x_.f0 ∧ (fun xs_ : List Int => xs_.length ≤ maxLen ∧ ∀ x ∈ xs_, (fun n_ : Int => (Lit.int .u8 n_).wf = true) x) x_.f1 ∧ (fun xs_ : List Int => xs_.length ≤ maxLen ∧ ∀ x ∈ xs_, (fun n_ : Int => (Lit.int .u8 n_).wf = true) x) x_.f2 ∧ (fun _ : Bool => True) x_.f3) x) x_.f1) x) l3 → ∃ k, banksmanlaw14_RivalFree.f k a0_0 l0_1 l1 l2 l3 = some true

end Go.Proofs.Ytpoaleejhdeclaa.P
