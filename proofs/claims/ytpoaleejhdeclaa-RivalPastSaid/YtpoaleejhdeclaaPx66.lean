-- Written by wip/gprint.py, a program of this session over the kit's print; Lean checks it.
import Derived.Test.YtpoaleejhdeclaaPx0
import Derived.Test.YtpoaleejhdeclaaPx1
import Derived.Test.YtpoaleejhdeclaaPx40
import Derived.Test.YtpoaleejhdeclaaPx42
import Derived.Test.YtpoaleejhdeclaaPx43
namespace Go.Proofs.Ytpoaleejhdeclaa.P
open Go.RowKit Go.Proofs.YtpoaleejhdeclaaW.PrintWords Go.Proofs.YtpoaleejhdeclaaW.PrintLast Go.Proofs.YtpoaleejhdeclaaW.PrintMore
attribute [local go_sem] max2_int min2_int max_two min_two max_three min_three max_four min_four   -- for this text's walks alone
set_option linter.unusedVariables false
set_option linter.unusedSimpArgs false

/-! ### banksmanlaw14_RivalPast: function 7 -/
mutual
def banksmanlaw14_RivalPast.j0 : Nat → List (S59) → List (S50) → List (S24) → Bool → Bool → Int → List (S57) → Option (Bool)
  | 0, _, _, _, _, _, _, _ => none
  | k + 1, x1, x2, x3, x9, x36, x445000, x445001 => if x36 = true then (some x9) else ((rival_Judge.f x445000 x445001 x1 x2 x3).bind fun bt449 => ((rival_Meets.f x445000 x2).bind fun t451 => ((rival_Judge.f x445000 x445001 x1 t451 x3).bind fun bt454 => (banksmanlaw14_RivalPast.l0 k x1 x2 x3 x9 bt449.1 bt449.2 t451 bt454.1 bt454.2 ([] : List (S50)) (wrap64 ((x2.length : Int) - 1)) x445000 x445001))))
def banksmanlaw14_RivalPast.l0 : Nat → List (S59) → List (S50) → List (S24) → Bool → Bool → Int → List (S50) → Bool → Int → List (S50) → Int → Int → List (S57) → Option (Bool)
  | 0, _, _, _, _, _, _, _, _, _, _, _, _, _ => none
  | k + 1, x1, x2, x3, x9, x10, x11, x12, x13, x14, x15, x16, x445000, x445001 => if x16 ≥ 0 then (if 0 ≤ x16 then (if x16 < (x2.length : Int) then (if x15.length < 1759218604441 then (banksmanlaw14_RivalPast.l0 k x1 x2 x3 x9 x10 x11 x12 x13 x14 (x15 ++ [(⟨(rd_T50 x2 x16).f0, (rd_T50 x2 x16).f1, (rd_T50 x2 x16).f2, (rd_T50 x2 x16).f3, (rd_T50 x2 x16).f4, (rd_T50 x2 x16).f5⟩ : S50)]) (wrap64 (x16 - 1)) x445000 x445001) else (none)) else (none)) else (none)) else ((rival_Judge.f x445000 x445001 x1 x15 x3).bind fun bt460 => (banksmanlaw14_RivalPast.l1 k x9 x10 x11 x12 x13 x14 bt460.1 bt460.2 0 x445000 x445001))
def banksmanlaw14_RivalPast.l1 : Nat → Bool → Bool → Int → List (S50) → Bool → Int → Bool → Int → Int → Int → List (S57) → Option (Bool)
  | 0, _, _, _, _, _, _, _, _, _, _, _ => none
  | k + 1, x9, x10, x11, x12, x13, x14, x17, x18, x19, x445000, x445001 => if x19 < (x12.length : Int) then (if 0 ≤ x19 then (if ((rd_T50 x12 x19).f1) ≤ x445000 then (some false) else (banksmanlaw14_RivalPast.l1 k x9 x10 x11 x12 x13 x14 x17 x18 (wrap64 (x19 + 1)) x445000 x445001)) else (none)) else (if x9 = true then (if (x10 == x13) = true then (if x11 = x14 then (if (x10 == x17) = true then (some (x11 == x18)) else (some false)) else (some false)) else (some false)) else (some false))
end
def banksmanlaw14_RivalPast.f (k : Nat) (a0_0 : Int) (l0_1 : List (S57)) (l1 : List (S59)) (l2 : List (S50)) (l3 : List (S24)) : Option (Bool) := (banksmanlaw14_awake.f).bind fun t445 => ((banksmanref10_Few.f k l0_1).bind fun t446 => (if t446 = true then ((banksmanref08_Few.f k l1 ([] : List Int)).bind fun t447 => (if t447 = true then ((banksmanref13_Few.f k l2 l3).bind fun t448 => (banksmanlaw14_RivalPast.j0 k l1 l2 l3 t445 (!t448) a0_0 l0_1)) else (banksmanlaw14_RivalPast.j0 k l1 l2 l3 t445 true a0_0 l0_1))) else (banksmanlaw14_RivalPast.j0 k l1 l2 l3 t445 true a0_0 l0_1)))
theorem banksmanlaw14_RivalPast.mono_l : ∀ k, (∀ y0 y1 y2 y3 y4 y5 y6, LeO (banksmanlaw14_RivalPast.j0 k y0 y1 y2 y3 y4 y5 y6) (banksmanlaw14_RivalPast.j0 (k + 1) y0 y1 y2 y3 y4 y5 y6)) ∧ (∀ y0 y1 y2 y3 y4 y5 y6 y7 y8 y9 y10 y11 y12, LeO (banksmanlaw14_RivalPast.l0 k y0 y1 y2 y3 y4 y5 y6 y7 y8 y9 y10 y11 y12) (banksmanlaw14_RivalPast.l0 (k + 1) y0 y1 y2 y3 y4 y5 y6 y7 y8 y9 y10 y11 y12)) ∧ (∀ y0 y1 y2 y3 y4 y5 y6 y7 y8 y9 y10, LeO (banksmanlaw14_RivalPast.l1 k y0 y1 y2 y3 y4 y5 y6 y7 y8 y9 y10) (banksmanlaw14_RivalPast.l1 (k + 1) y0 y1 y2 y3 y4 y5 y6 y7 y8 y9 y10))
  | 0 => ⟨fun _ _ _ _ _ _ _ r h => by simp [banksmanlaw14_RivalPast.j0] at h, fun _ _ _ _ _ _ _ _ _ _ _ _ _ r h => by simp [banksmanlaw14_RivalPast.l0] at h, fun _ _ _ _ _ _ _ _ _ _ _ r h => by simp [banksmanlaw14_RivalPast.l1] at h⟩
  | k + 1 => by
    obtain ⟨ih0, ih1, ih2⟩ := banksmanlaw14_RivalPast.mono_l k
    refine ⟨?_, ?_, ?_⟩
    · intro y0 y1 y2 y3 y4 y5 y6
      unfold banksmanlaw14_RivalPast.j0
      repeat' first
      | (with_reducible exact ih0 _ _ _ _ _ _ _)
      | (with_reducible exact ih1 _ _ _ _ _ _ _ _ _ _ _ _ _)
      | (with_reducible exact ih2 _ _ _ _ _ _ _ _ _ _ _)
      | (with_reducible exact banksmanref08_Few.mono _ _ _)
      | (with_reducible exact banksmanref10_Few.mono _ _)
      | (with_reducible exact banksmanref13_Few.mono _ _ _)
      | (with_reducible exact LeO.refl _)
      | (with_reducible exact LeO.none _)
      | (with_reducible refine LeO.ite ?_ ?_)
      | (with_reducible refine LeO.bind ?_ (fun _ => ?_))
      | exact ih0 _ _ _ _ _ _ _
      | exact ih1 _ _ _ _ _ _ _ _ _ _ _ _ _
      | exact ih2 _ _ _ _ _ _ _ _ _ _ _
      | exact banksmanref08_Few.mono _ _ _
      | exact banksmanref10_Few.mono _ _
      | exact banksmanref13_Few.mono _ _ _
      | exact LeO.none _
      | refine LeO.ite ?_ ?_
      | refine LeO.bind ?_ (fun _ => ?_)
    · intro y0 y1 y2 y3 y4 y5 y6 y7 y8 y9 y10 y11 y12
      unfold banksmanlaw14_RivalPast.l0
      repeat' first
      | (with_reducible exact ih0 _ _ _ _ _ _ _)
      | (with_reducible exact ih1 _ _ _ _ _ _ _ _ _ _ _ _ _)
      | (with_reducible exact ih2 _ _ _ _ _ _ _ _ _ _ _)
      | (with_reducible exact banksmanref08_Few.mono _ _ _)
      | (with_reducible exact banksmanref10_Few.mono _ _)
      | (with_reducible exact banksmanref13_Few.mono _ _ _)
      | (with_reducible exact LeO.refl _)
      | (with_reducible exact LeO.none _)
      | (with_reducible refine LeO.ite ?_ ?_)
      | (with_reducible refine LeO.bind ?_ (fun _ => ?_))
      | exact ih0 _ _ _ _ _ _ _
      | exact ih1 _ _ _ _ _ _ _ _ _ _ _ _ _
      | exact ih2 _ _ _ _ _ _ _ _ _ _ _
      | exact banksmanref08_Few.mono _ _ _
      | exact banksmanref10_Few.mono _ _
      | exact banksmanref13_Few.mono _ _ _
      | exact LeO.none _
      | refine LeO.ite ?_ ?_
      | refine LeO.bind ?_ (fun _ => ?_)
    · intro y0 y1 y2 y3 y4 y5 y6 y7 y8 y9 y10
      unfold banksmanlaw14_RivalPast.l1
      repeat' first
      | (with_reducible exact ih0 _ _ _ _ _ _ _)
      | (with_reducible exact ih1 _ _ _ _ _ _ _ _ _ _ _ _ _)
      | (with_reducible exact ih2 _ _ _ _ _ _ _ _ _ _ _)
      | (with_reducible exact banksmanref08_Few.mono _ _ _)
      | (with_reducible exact banksmanref10_Few.mono _ _)
      | (with_reducible exact banksmanref13_Few.mono _ _ _)
      | (with_reducible exact LeO.refl _)
      | (with_reducible exact LeO.none _)
      | (with_reducible refine LeO.ite ?_ ?_)
      | (with_reducible refine LeO.bind ?_ (fun _ => ?_))
      | exact ih0 _ _ _ _ _ _ _
      | exact ih1 _ _ _ _ _ _ _ _ _ _ _ _ _
      | exact ih2 _ _ _ _ _ _ _ _ _ _ _
      | exact banksmanref08_Few.mono _ _ _
      | exact banksmanref10_Few.mono _ _
      | exact banksmanref13_Few.mono _ _ _
      | exact LeO.none _
      | refine LeO.ite ?_ ?_
      | refine LeO.bind ?_ (fun _ => ?_)
theorem banksmanlaw14_RivalPast.mono : ∀ a0 a1 a2 a3 a4 k, LeO (banksmanlaw14_RivalPast.f k a0 a1 a2 a3 a4) (banksmanlaw14_RivalPast.f (k + 1) a0 a1 a2 a3 a4) := by
  intro a0 a1 a2 a3 a4 k
  obtain ⟨ih0, ih1, ih2⟩ := banksmanlaw14_RivalPast.mono_l k
  unfold banksmanlaw14_RivalPast.f
  repeat' first
      | (with_reducible exact ih0 _ _ _ _ _ _ _)
      | (with_reducible exact ih1 _ _ _ _ _ _ _ _ _ _ _ _ _)
      | (with_reducible exact ih2 _ _ _ _ _ _ _ _ _ _ _)
      | (with_reducible exact banksmanref08_Few.mono _ _ _)
      | (with_reducible exact banksmanref10_Few.mono _ _)
      | (with_reducible exact banksmanref13_Few.mono _ _ _)
      | (with_reducible exact LeO.refl _)
      | (with_reducible exact LeO.none _)
      | (with_reducible refine LeO.ite ?_ ?_)
      | (with_reducible refine LeO.bind ?_ (fun _ => ?_))
      | exact ih0 _ _ _ _ _ _ _
      | exact ih1 _ _ _ _ _ _ _ _ _ _ _ _ _
      | exact ih2 _ _ _ _ _ _ _ _ _ _ _
      | exact banksmanref08_Few.mono _ _ _
      | exact banksmanref10_Few.mono _ _
      | exact banksmanref13_Few.mono _ _ _
      | exact LeO.none _
      | refine LeO.ite ?_ ?_
      | refine LeO.bind ?_ (fun _ => ?_)
set_option maxHeartbeats 8000000 in
set_option maxRecDepth 100000 in
theorem banksmanlaw14_RivalPast.calls (k : Nat) (a0_0 : Int) (A0_1 : Option Addr) (c0_1 : Nat) (l0_1 : List (S57)) (A1 : Option Addr) (c1 : Nat) (l1 : List (S59)) (P2_ : Nat → Prop) (A2 : Option Addr) (c2 : Nat) (l2 : List (S50)) (A3 : Option Addr) (c3 : Nat) (l3 : List (S24)) (r : Bool) (w : World) (hr0_1 : Kd.C k57 w A0_1 l0_1.length l0_1) (hc0_1 : l0_1.length ≤ c0_1) (hr1 : Kd.C k59 w A1 l1.length l1) (hc1 : l1.length ≤ c1) (hs2 : Kd.V k50 50 w w.heap.size (fun k_ => P2_ k_) (.slice A2 l2.length c2) l2) (hr3 : Kd.C k24 w A3 l3.length l3) (hc3 : l3.length ≤ c3) (h : banksmanlaw14_RivalPast.f k a0_0 l0_1 l1 l2 l3 = some r) (HTr_ : r = true) :
    Calls Try.prog 7 #[.agg #[.int .i64 a0_0, .slice A0_1 l0_1.length c0_1], .slice A1 l1.length c1, .slice A2 l2.length c2, .slice A3 l3.length c3] w fun e w' => e = .returned (.bool r) ∧ Below w.heap.size w w' := by
  have hu24 := Try.underlying24
  have hu33 := Try.underlying33
  have hu50 := Try.underlying50
  have HR0_1 := Aside0.mk hr0_1
  have HC0_1 := Aside0.mk hc0_1
  clear hr0_1 hc0_1
  have HR1 := Aside0.mk hr1
  have HC1 := Aside0.mk hc1
  clear hr1 hc1
  have HO2 := Aside0.mk (show Kd.V k50 50 w w.heap.size (fun k_ => (P2_ k_ ∨ w.heap.size ≤ k_)) (.slice A2 l2.length c2) l2 from Kd.V_mono hs2 (fun k_ hk => .inl hk))
  have HR3 := Aside0.mk hr3
  have HC3 := Aside0.mk hc3
  clear hr3 hc3
  have HB := Aside0.mk (Below.refl w.heap.size w)
  have H : ((banksmanlaw14_awake.f).bind fun t445 => ((banksmanref10_Few.f k l0_1).bind fun t446 => (if t446 = true then ((banksmanref08_Few.f k l1 ([] : List Int)).bind fun t447 => (if t447 = true then ((banksmanref13_Few.f k l2 l3).bind fun t448 => (banksmanlaw14_RivalPast.j0 k l1 l2 l3 t445 (!t448) a0_0 l0_1)) else (banksmanlaw14_RivalPast.j0 k l1 l2 l3 t445 true a0_0 l0_1))) else (banksmanlaw14_RivalPast.j0 k l1 l2 l3 t445 true a0_0 l0_1)))) = some r := h
  clear h
  replace H := Option.bind_eq_some_iff.mp H
  obtain ⟨t445, A50, H⟩ := H
  replace H : ((banksmanref10_Few.f k l0_1).bind fun t446 => (if t446 = true then ((banksmanref08_Few.f k l1 ([] : List Int)).bind fun t447 => (if t447 = true then ((banksmanref13_Few.f k l2 l3).bind fun t448 => (banksmanlaw14_RivalPast.j0 k l1 l2 l3 t445 (!t448) a0_0 l0_1)) else (banksmanlaw14_RivalPast.j0 k l1 l2 l3 t445 true a0_0 l0_1))) else (banksmanlaw14_RivalPast.j0 k l1 l2 l3 t445 true a0_0 l0_1))) = some r := H
  have A5 := Aside0.mk A50
  clear A50
  have HC6 := Aside0.mk H
  clear H
  go_enter Try.func7, Try.ntmps7
  go_upto_region 2 with (first | ((with_reducible refine gate_dst (N := 4) rfl ?_); refine box_event ?hg (N := 4) ?hd (cs := #[.int .i64 a0_0, .slice A0_1 l0_1.length c0_1]) (t := 24) ?hr ?_; (case hd => rfl); (case hg => rfl); (case hr => first | (go_simp; done) | (go_simp; rfl)); intro gb444 hg w7 hbox hb; have n0_ := Aside0.mk (Kd.V_below (Kd.V_elderB (by (with_reducible repeat (first | apply Kd.V_alloc | apply Kd.V_drewN | apply Kd.V_drew)); exact HO2.out) gb444 (Nat.le_of_eq hg.symm)) hb); have n1_ := Aside0.mk (below_step (by repeat (first | (with_reducible first | exact HB.out | apply below_alloc | apply pw_below_drewN | apply below_drew1) | exact HB.out)) hb); have n2_ := Aside0.mk (hbox); have n3_ := Aside0.mk ((by rw [hg]; exact (below_size (by repeat (first | (with_reducible first | exact HB.out | apply below_alloc | apply pw_below_drewN | apply below_drew1) | exact HB.out))) : w.heap.size ≤ gb444)); have n4_ := Aside0.mk ((by rw [hg]; exact (below_size (by repeat (first | (with_reducible first | exact HB.out | apply below_alloc | apply pw_below_drewN | apply below_drew1) | exact HB.out))) : w.heap.size ≤ gb444)); clear HO2; clear HB; have HO2 := n0_; have HB := n1_; have BK444 := n2_; have GW444 := n3_; have GE444 := n4_; clear n0_ n1_ n2_ n3_ n4_; clear hb hbox hg) | (go_at_call 8; (with_reducible refine (banksmanlaw14_awake.calls  t445 _ A5.out).mono ?_); rintro e w8 ⟨rfl, hb⟩; have n0_ := Aside0.mk (Kd.V_below (by (with_reducible repeat (first | apply Kd.V_alloc | apply Kd.V_drewN | apply Kd.V_drew)); exact HO2.out) hb); have n1_ := Aside0.mk (blk_below (g := gb444) (o := .cells #[.int .i64 a0_0, .slice A0_1 l0_1.length c0_1] 24 (0, 0)) (by (with_reducible repeat (first | refine blk_drewN ?_ _ | refine blk_drew ?_ | refine blk_alloc ?_ _)); exact BK444.out) hb); have n2_ := Aside0.mk (below_step (by repeat (first | (with_reducible first | exact HB.out | apply below_alloc | apply pw_below_drewN | apply below_drew1 | refine below_set ?_ GE444.out) | exact HB.out)) hb); clear HO2; clear BK444; clear HB; have HO2 := n0_; have BK444 := n1_; have HB := n2_; clear n0_ n1_ n2_; (try clear hb); (try clear hb2); (try clear hk); (try clear hi)))
  repeat (go_quiet (first | ((with_reducible refine gate_dst (N := 4) rfl ?_); refine box_event ?hg (N := 4) ?hd (cs := #[.int .i64 a0_0, .slice A0_1 l0_1.length c0_1]) (t := 24) ?hr ?_; (case hd => rfl); (case hg => rfl); (case hr => first | (go_simp; done) | (go_simp; rfl)); intro gb444 hg w7 hbox hb; have n0_ := Aside0.mk (Kd.V_below (Kd.V_elderB (by (with_reducible repeat (first | apply Kd.V_alloc | apply Kd.V_drewN | apply Kd.V_drew)); exact HO2.out) gb444 (Nat.le_of_eq hg.symm)) hb); have n1_ := Aside0.mk (below_step (by repeat (first | (with_reducible first | exact HB.out | apply below_alloc | apply pw_below_drewN | apply below_drew1) | exact HB.out)) hb); have n2_ := Aside0.mk (hbox); have n3_ := Aside0.mk ((by rw [hg]; exact (below_size (by repeat (first | (with_reducible first | exact HB.out | apply below_alloc | apply pw_below_drewN | apply below_drew1) | exact HB.out))) : w.heap.size ≤ gb444)); have n4_ := Aside0.mk ((by rw [hg]; exact (below_size (by repeat (first | (with_reducible first | exact HB.out | apply below_alloc | apply pw_below_drewN | apply below_drew1) | exact HB.out))) : w.heap.size ≤ gb444)); clear HO2; clear HB; have HO2 := n0_; have HB := n1_; have BK444 := n2_; have GW444 := n3_; have GE444 := n4_; clear n0_ n1_ n2_ n3_ n4_; clear hb hbox hg) | (go_at_call 8; (with_reducible refine (banksmanlaw14_awake.calls  t445 _ A5.out).mono ?_); rintro e w8 ⟨rfl, hb⟩; have n0_ := Aside0.mk (Kd.V_below (by (with_reducible repeat (first | apply Kd.V_alloc | apply Kd.V_drewN | apply Kd.V_drew)); exact HO2.out) hb); have n1_ := Aside0.mk (blk_below (g := gb444) (o := .cells #[.int .i64 a0_0, .slice A0_1 l0_1.length c0_1] 24 (0, 0)) (by (with_reducible repeat (first | refine blk_drewN ?_ _ | refine blk_drew ?_ | refine blk_alloc ?_ _)); exact BK444.out) hb); have n2_ := Aside0.mk (below_step (by repeat (first | (with_reducible first | exact HB.out | apply below_alloc | apply pw_below_drewN | apply below_drew1 | refine below_set ?_ GE444.out) | exact HB.out)) hb); clear HO2; clear BK444; clear HB; have HO2 := n0_; have BK444 := n1_; have HB := n2_; clear n0_ n1_ n2_; (try clear hb); (try clear hb2); (try clear hk); (try clear hi))); go_upto_region 2 with (first | ((with_reducible refine gate_dst (N := 4) rfl ?_); refine box_event ?hg (N := 4) ?hd (cs := #[.int .i64 a0_0, .slice A0_1 l0_1.length c0_1]) (t := 24) ?hr ?_; (case hd => rfl); (case hg => rfl); (case hr => first | (go_simp; done) | (go_simp; rfl)); intro gb444 hg w7 hbox hb; have n0_ := Aside0.mk (Kd.V_below (Kd.V_elderB (by (with_reducible repeat (first | apply Kd.V_alloc | apply Kd.V_drewN | apply Kd.V_drew)); exact HO2.out) gb444 (Nat.le_of_eq hg.symm)) hb); have n1_ := Aside0.mk (below_step (by repeat (first | (with_reducible first | exact HB.out | apply below_alloc | apply pw_below_drewN | apply below_drew1) | exact HB.out)) hb); have n2_ := Aside0.mk (hbox); have n3_ := Aside0.mk ((by rw [hg]; exact (below_size (by repeat (first | (with_reducible first | exact HB.out | apply below_alloc | apply pw_below_drewN | apply below_drew1) | exact HB.out))) : w.heap.size ≤ gb444)); have n4_ := Aside0.mk ((by rw [hg]; exact (below_size (by repeat (first | (with_reducible first | exact HB.out | apply below_alloc | apply pw_below_drewN | apply below_drew1) | exact HB.out))) : w.heap.size ≤ gb444)); clear HO2; clear HB; have HO2 := n0_; have HB := n1_; have BK444 := n2_; have GW444 := n3_; have GE444 := n4_; clear n0_ n1_ n2_ n3_ n4_; clear hb hbox hg) | (go_at_call 8; (with_reducible refine (banksmanlaw14_awake.calls  t445 _ A5.out).mono ?_); rintro e w8 ⟨rfl, hb⟩; have n0_ := Aside0.mk (Kd.V_below (by (with_reducible repeat (first | apply Kd.V_alloc | apply Kd.V_drewN | apply Kd.V_drew)); exact HO2.out) hb); have n1_ := Aside0.mk (blk_below (g := gb444) (o := .cells #[.int .i64 a0_0, .slice A0_1 l0_1.length c0_1] 24 (0, 0)) (by (with_reducible repeat (first | refine blk_drewN ?_ _ | refine blk_drew ?_ | refine blk_alloc ?_ _)); exact BK444.out) hb); have n2_ := Aside0.mk (below_step (by repeat (first | (with_reducible first | exact HB.out | apply below_alloc | apply pw_below_drewN | apply below_drew1 | refine below_set ?_ GE444.out) | exact HB.out)) hb); clear HO2; clear BK444; clear HB; have HO2 := n0_; have BK444 := n1_; have HB := n2_; clear n0_ n1_ n2_; (try clear hb); (try clear hb2); (try clear hk); (try clear hi))))
  (try simp only [Act.put, List.setIfInBounds_toArray, List.set_cons_zero, List.set_cons_succ])
  go_cut [36] (fun v36 wc => ∃ (kq : Nat) (x36_5 : Bool), v36 = .bool x36_5 ∧ Aside0 (banksmanlaw14_RivalPast.j0 kq l1 l2 l3 t445 x36_5 a0_0 l0_1 = some r) ∧ Aside0 (kq ≤ k) ∧ Aside0 (Kd.V k50 50 wc w.heap.size (fun k_ => (P2_ k_ ∨ w.heap.size ≤ k_) ∧ k_ ≠ gb444) (.slice A2 l2.length c2) l2) ∧ Aside0 (wc.heap[gb444]? = some (.cells #[.int .i64 a0_0, (.slice A0_1 l0_1.length c0_1)] 24 (0, 0))) ∧ Aside0 (Below w.heap.size w wc))
  case first =>
    have H := HC6.out
    clear HC6
    replace H := Option.bind_eq_some_iff.mp H
    obtain ⟨t446, A90, H⟩ := H
    replace H : (if t446 = true then ((banksmanref08_Few.f k l1 ([] : List Int)).bind fun t447 => (if t447 = true then ((banksmanref13_Few.f k l2 l3).bind fun t448 => (banksmanlaw14_RivalPast.j0 k l1 l2 l3 t445 (!t448) a0_0 l0_1)) else (banksmanlaw14_RivalPast.j0 k l1 l2 l3 t445 true a0_0 l0_1))) else (banksmanlaw14_RivalPast.j0 k l1 l2 l3 t445 true a0_0 l0_1)) = some r := H
    have A9 := Aside0.mk A90
    clear A90
    by_cases c10 : t446 = true
    · subst c10
      have H1 : ((banksmanref08_Few.f k l1 ([] : List Int)).bind fun t447 => (if t447 = true then ((banksmanref13_Few.f k l2 l3).bind fun t448 => (banksmanlaw14_RivalPast.j0 k l1 l2 l3 t445 (!t448) a0_0 l0_1)) else (banksmanlaw14_RivalPast.j0 k l1 l2 l3 t445 true a0_0 l0_1))) = some r := by rw [if_pos rfl] at H; exact H
      clear H
      have H := H1
      clear H1
      replace H := Option.bind_eq_some_iff.mp H
      obtain ⟨t447, A110, H⟩ := H
      replace H : (if t447 = true then ((banksmanref13_Few.f k l2 l3).bind fun t448 => (banksmanlaw14_RivalPast.j0 k l1 l2 l3 t445 (!t448) a0_0 l0_1)) else (banksmanlaw14_RivalPast.j0 k l1 l2 l3 t445 true a0_0 l0_1)) = some r := H
      have A11 := Aside0.mk A110
      clear A110
      by_cases c12 : t447 = true
      · subst c12
        have H1 : ((banksmanref13_Few.f k l2 l3).bind fun t448 => (banksmanlaw14_RivalPast.j0 k l1 l2 l3 t445 (!t448) a0_0 l0_1)) = some r := by rw [if_pos rfl] at H; exact H
        clear H
        have H := H1
        clear H1
        replace H := Option.bind_eq_some_iff.mp H
        obtain ⟨t448, A130, H⟩ := H
        replace H : (banksmanlaw14_RivalPast.j0 k l1 l2 l3 t445 (!t448) a0_0 l0_1) = some r := H
        have A13 := Aside0.mk A130
        clear A130
        have H' := Aside0.mk H
        clear H
        have hcz14_0 : w8.cell? ⟨gb444, 0, none⟩ = some (.int .i64 a0_0) := (blk_cell BK444.out 0).trans rfl
        have hcz14_1 : w8.cell? ⟨gb444, 1, none⟩ = some (.slice A0_1 l0_1.length c0_1) := (blk_cell BK444.out 1).trans rfl
        have hfz14_0 := blk_frozen BK444.out 0
        have hfz14_1 := blk_frozen BK444.out 1
        go_wp2_with (first | (go_at_call 9; (with_reducible refine (banksmanref10_Few.calls k _ _ l0_1 true _ ?side1 ?side2 A9.out).mono ?_); (case side1 => repeat (first | exact (Kd.C_below HR0_1.out HB.out) | (with_reducible refine Kd.C_alloc ?_ _) | (with_reducible refine Kd.C_drewN ?_ _) | (with_reducible refine Kd.C_drew ?_))); (case side2 => exact HC0_1.out); rintro e w' ⟨rfl, ⟨nd, rfl⟩⟩; (try first | exact ⟨rfl, _, World.drewN_drewN _ _ _⟩ | exact ⟨rfl, _, Eq.trans (World.drewN_drewN _ _ _) (congrArg (World.drewN _) (Nat.add_assoc _ _ _))⟩)) | (go_at_call 10; (refine (banksmanref08_Few.calls k _ _ l1 _ _ ([] : List Int) true _ ?side1 ?side2 ?side3 ?side4 A11.out).mono ?_); (case side1 => repeat (first | exact (Kd.C_below HR1.out (by repeat (first | (with_reducible first | exact HB.out | apply below_alloc | apply pw_below_drewN | apply below_drew1 | refine below_set ?_ GE444.out) | exact HB.out))) | (with_reducible refine Kd.C_alloc ?_ _) | (with_reducible refine Kd.C_drewN ?_ _) | (with_reducible refine Kd.C_drew ?_))); (case side2 => exact HC1.out); (case side3 => exact Kd.C_nil _ _); (case side4 => exact Nat.le_refl _); rintro e w15 ⟨rfl, hb⟩; have n0_ := Aside0.mk (Kd.V_below (by (with_reducible repeat (first | apply Kd.V_alloc | apply Kd.V_drewN | apply Kd.V_drew)); exact HO2.out) hb); have n1_ := Aside0.mk (blk_below (g := gb444) (o := .cells #[.int .i64 a0_0, .slice A0_1 l0_1.length c0_1] 24 (0, 0)) (by (with_reducible repeat (first | refine blk_drewN ?_ _ | refine blk_drew ?_ | refine blk_alloc ?_ _)); exact BK444.out) hb); have n2_ := Aside0.mk (below_step (by repeat (first | (with_reducible first | exact HB.out | apply below_alloc | apply pw_below_drewN | apply below_drew1 | refine below_set ?_ GE444.out) | exact HB.out)) hb); clear HO2; clear BK444; clear HB; have HO2 := n0_; have BK444 := n1_; have HB := n2_; clear n0_ n1_ n2_; (try clear hb); (try clear hb2); (try clear hk); (try clear hi)) | (go_at_call 11; (with_reducible refine (banksmanref13_Few.calls k _ _ l2 _ _ l3 t448 _ ?side1 ?side2 ?side3 ?side4 A13.out).mono ?_); (case side1 => repeat (first | exact (Kd.V_reads' HO2.out).2.2 | (with_reducible refine Kd.C_alloc ?_ _) | (with_reducible refine Kd.C_drewN ?_ _) | (with_reducible refine Kd.C_drew ?_))); (case side2 => exact (Kd.V_reads' HO2.out).2.1); (case side3 => repeat (first | exact (Kd.C_below HR3.out HB.out) | (with_reducible refine Kd.C_alloc ?_ _) | (with_reducible refine Kd.C_drewN ?_ _) | (with_reducible refine Kd.C_drew ?_))); (case side4 => exact HC3.out); rintro e w16 ⟨rfl, hb⟩; have n0_ := Aside0.mk (Kd.V_below (by (with_reducible repeat (first | apply Kd.V_alloc | apply Kd.V_drewN | apply Kd.V_drew)); exact HO2.out) hb); have n1_ := Aside0.mk (blk_below (g := gb444) (o := .cells #[.int .i64 a0_0, .slice A0_1 l0_1.length c0_1] 24 (0, 0)) (by (with_reducible repeat (first | refine blk_drewN ?_ _ | refine blk_drew ?_ | refine blk_alloc ?_ _)); exact BK444.out) hb); have n2_ := Aside0.mk (below_step (by repeat (first | (with_reducible first | exact HB.out | apply below_alloc | apply pw_below_drewN | apply below_drew1 | refine below_set ?_ GE444.out) | exact HB.out)) hb); clear HO2; clear BK444; clear HB; have HO2 := n0_; have BK444 := n1_; have HB := n2_; clear n0_ n1_ n2_; (try clear hb); (try clear hb2); (try clear hk); (try clear hi)))
        repeat (go_quiet (first | (go_at_call 9; (with_reducible refine (banksmanref10_Few.calls k _ _ l0_1 true _ ?side1 ?side2 A9.out).mono ?_); (case side1 => repeat (first | exact (Kd.C_below HR0_1.out HB.out) | (with_reducible refine Kd.C_alloc ?_ _) | (with_reducible refine Kd.C_drewN ?_ _) | (with_reducible refine Kd.C_drew ?_))); (case side2 => exact HC0_1.out); rintro e w' ⟨rfl, ⟨nd, rfl⟩⟩; (try first | exact ⟨rfl, _, World.drewN_drewN _ _ _⟩ | exact ⟨rfl, _, Eq.trans (World.drewN_drewN _ _ _) (congrArg (World.drewN _) (Nat.add_assoc _ _ _))⟩)) | (go_at_call 10; (refine (banksmanref08_Few.calls k _ _ l1 _ _ ([] : List Int) true _ ?side1 ?side2 ?side3 ?side4 A11.out).mono ?_); (case side1 => repeat (first | exact (Kd.C_below HR1.out (by repeat (first | (with_reducible first | exact HB.out | apply below_alloc | apply pw_below_drewN | apply below_drew1 | refine below_set ?_ GE444.out) | exact HB.out))) | (with_reducible refine Kd.C_alloc ?_ _) | (with_reducible refine Kd.C_drewN ?_ _) | (with_reducible refine Kd.C_drew ?_))); (case side2 => exact HC1.out); (case side3 => exact Kd.C_nil _ _); (case side4 => exact Nat.le_refl _); rintro e w15 ⟨rfl, hb⟩; have n0_ := Aside0.mk (Kd.V_below (by (with_reducible repeat (first | apply Kd.V_alloc | apply Kd.V_drewN | apply Kd.V_drew)); exact HO2.out) hb); have n1_ := Aside0.mk (blk_below (g := gb444) (o := .cells #[.int .i64 a0_0, .slice A0_1 l0_1.length c0_1] 24 (0, 0)) (by (with_reducible repeat (first | refine blk_drewN ?_ _ | refine blk_drew ?_ | refine blk_alloc ?_ _)); exact BK444.out) hb); have n2_ := Aside0.mk (below_step (by repeat (first | (with_reducible first | exact HB.out | apply below_alloc | apply pw_below_drewN | apply below_drew1 | refine below_set ?_ GE444.out) | exact HB.out)) hb); clear HO2; clear BK444; clear HB; have HO2 := n0_; have BK444 := n1_; have HB := n2_; clear n0_ n1_ n2_; (try clear hb); (try clear hb2); (try clear hk); (try clear hi)) | (go_at_call 11; (with_reducible refine (banksmanref13_Few.calls k _ _ l2 _ _ l3 t448 _ ?side1 ?side2 ?side3 ?side4 A13.out).mono ?_); (case side1 => repeat (first | exact (Kd.V_reads' HO2.out).2.2 | (with_reducible refine Kd.C_alloc ?_ _) | (with_reducible refine Kd.C_drewN ?_ _) | (with_reducible refine Kd.C_drew ?_))); (case side2 => exact (Kd.V_reads' HO2.out).2.1); (case side3 => repeat (first | exact (Kd.C_below HR3.out HB.out) | (with_reducible refine Kd.C_alloc ?_ _) | (with_reducible refine Kd.C_drewN ?_ _) | (with_reducible refine Kd.C_drew ?_))); (case side4 => exact HC3.out); rintro e w16 ⟨rfl, hb⟩; have n0_ := Aside0.mk (Kd.V_below (by (with_reducible repeat (first | apply Kd.V_alloc | apply Kd.V_drewN | apply Kd.V_drew)); exact HO2.out) hb); have n1_ := Aside0.mk (blk_below (g := gb444) (o := .cells #[.int .i64 a0_0, .slice A0_1 l0_1.length c0_1] 24 (0, 0)) (by (with_reducible repeat (first | refine blk_drewN ?_ _ | refine blk_drew ?_ | refine blk_alloc ?_ _)); exact BK444.out) hb); have n2_ := Aside0.mk (below_step (by repeat (first | (with_reducible first | exact HB.out | apply below_alloc | apply pw_below_drewN | apply below_drew1 | refine below_set ?_ GE444.out) | exact HB.out)) hb); clear HO2; clear BK444; clear HB; have HO2 := n0_; have BK444 := n1_; have HB := n2_; clear n0_ n1_ n2_; (try clear hb); (try clear hb2); (try clear hk); (try clear hi))); try go_wp2_with (first | (go_at_call 9; (with_reducible refine (banksmanref10_Few.calls k _ _ l0_1 true _ ?side1 ?side2 A9.out).mono ?_); (case side1 => repeat (first | exact (Kd.C_below HR0_1.out HB.out) | (with_reducible refine Kd.C_alloc ?_ _) | (with_reducible refine Kd.C_drewN ?_ _) | (with_reducible refine Kd.C_drew ?_))); (case side2 => exact HC0_1.out); rintro e w' ⟨rfl, ⟨nd, rfl⟩⟩; (try first | exact ⟨rfl, _, World.drewN_drewN _ _ _⟩ | exact ⟨rfl, _, Eq.trans (World.drewN_drewN _ _ _) (congrArg (World.drewN _) (Nat.add_assoc _ _ _))⟩)) | (go_at_call 10; (refine (banksmanref08_Few.calls k _ _ l1 _ _ ([] : List Int) true _ ?side1 ?side2 ?side3 ?side4 A11.out).mono ?_); (case side1 => repeat (first | exact (Kd.C_below HR1.out (by repeat (first | (with_reducible first | exact HB.out | apply below_alloc | apply pw_below_drewN | apply below_drew1 | refine below_set ?_ GE444.out) | exact HB.out))) | (with_reducible refine Kd.C_alloc ?_ _) | (with_reducible refine Kd.C_drewN ?_ _) | (with_reducible refine Kd.C_drew ?_))); (case side2 => exact HC1.out); (case side3 => exact Kd.C_nil _ _); (case side4 => exact Nat.le_refl _); rintro e w15 ⟨rfl, hb⟩; have n0_ := Aside0.mk (Kd.V_below (by (with_reducible repeat (first | apply Kd.V_alloc | apply Kd.V_drewN | apply Kd.V_drew)); exact HO2.out) hb); have n1_ := Aside0.mk (blk_below (g := gb444) (o := .cells #[.int .i64 a0_0, .slice A0_1 l0_1.length c0_1] 24 (0, 0)) (by (with_reducible repeat (first | refine blk_drewN ?_ _ | refine blk_drew ?_ | refine blk_alloc ?_ _)); exact BK444.out) hb); have n2_ := Aside0.mk (below_step (by repeat (first | (with_reducible first | exact HB.out | apply below_alloc | apply pw_below_drewN | apply below_drew1 | refine below_set ?_ GE444.out) | exact HB.out)) hb); clear HO2; clear BK444; clear HB; have HO2 := n0_; have BK444 := n1_; have HB := n2_; clear n0_ n1_ n2_; (try clear hb); (try clear hb2); (try clear hk); (try clear hi)) | (go_at_call 11; (with_reducible refine (banksmanref13_Few.calls k _ _ l2 _ _ l3 t448 _ ?side1 ?side2 ?side3 ?side4 A13.out).mono ?_); (case side1 => repeat (first | exact (Kd.V_reads' HO2.out).2.2 | (with_reducible refine Kd.C_alloc ?_ _) | (with_reducible refine Kd.C_drewN ?_ _) | (with_reducible refine Kd.C_drew ?_))); (case side2 => exact (Kd.V_reads' HO2.out).2.1); (case side3 => repeat (first | exact (Kd.C_below HR3.out HB.out) | (with_reducible refine Kd.C_alloc ?_ _) | (with_reducible refine Kd.C_drewN ?_ _) | (with_reducible refine Kd.C_drew ?_))); (case side4 => exact HC3.out); rintro e w16 ⟨rfl, hb⟩; have n0_ := Aside0.mk (Kd.V_below (by (with_reducible repeat (first | apply Kd.V_alloc | apply Kd.V_drewN | apply Kd.V_drew)); exact HO2.out) hb); have n1_ := Aside0.mk (blk_below (g := gb444) (o := .cells #[.int .i64 a0_0, .slice A0_1 l0_1.length c0_1] 24 (0, 0)) (by (with_reducible repeat (first | refine blk_drewN ?_ _ | refine blk_drew ?_ | refine blk_alloc ?_ _)); exact BK444.out) hb); have n2_ := Aside0.mk (below_step (by repeat (first | (with_reducible first | exact HB.out | apply below_alloc | apply pw_below_drewN | apply below_drew1 | refine below_set ?_ GE444.out) | exact HB.out)) hb); clear HO2; clear BK444; clear HB; have HO2 := n0_; have BK444 := n1_; have HB := n2_; clear n0_ n1_ n2_; (try clear hb); (try clear hb2); (try clear hk); (try clear hi))))
        go_meet
        case rel => exact ⟨_, (!t448), (by first | rfl | (simp; done) | (simp [*]; done)), H', ⟨by first | omega | exact Nat.le_refl _⟩, ⟨by (with_reducible repeat (first | apply Kd.V_alloc | apply Kd.V_drewN | apply Kd.V_drew)); exact HO2.out⟩, ⟨by (with_reducible repeat (first | refine blk_drewN ?_ _ | refine blk_drew ?_ | refine blk_alloc ?_ _)); exact BK444.out⟩, ⟨by repeat (first | (with_reducible first | exact HB.out | apply below_alloc | apply pw_below_drewN | apply below_drew1 | refine below_set ?_ GE444.out) | exact HB.out)⟩⟩
      · replace c12 := Bool.eq_false_iff.mpr c12
        subst c12
        have H1 : (banksmanlaw14_RivalPast.j0 k l1 l2 l3 t445 true a0_0 l0_1) = some r := by rw [if_neg (show ¬ (false = true) by decide)] at H; exact H
        clear H
        have H := H1
        clear H1
        have H' := Aside0.mk H
        clear H
        have hcz17_0 : w8.cell? ⟨gb444, 0, none⟩ = some (.int .i64 a0_0) := (blk_cell BK444.out 0).trans rfl
        have hcz17_1 : w8.cell? ⟨gb444, 1, none⟩ = some (.slice A0_1 l0_1.length c0_1) := (blk_cell BK444.out 1).trans rfl
        have hfz17_0 := blk_frozen BK444.out 0
        have hfz17_1 := blk_frozen BK444.out 1
        go_wp2_with (first | (go_at_call 9; (with_reducible refine (banksmanref10_Few.calls k _ _ l0_1 true _ ?side1 ?side2 A9.out).mono ?_); (case side1 => repeat (first | exact (Kd.C_below HR0_1.out HB.out) | (with_reducible refine Kd.C_alloc ?_ _) | (with_reducible refine Kd.C_drewN ?_ _) | (with_reducible refine Kd.C_drew ?_))); (case side2 => exact HC0_1.out); rintro e w' ⟨rfl, ⟨nd, rfl⟩⟩; (try first | exact ⟨rfl, _, World.drewN_drewN _ _ _⟩ | exact ⟨rfl, _, Eq.trans (World.drewN_drewN _ _ _) (congrArg (World.drewN _) (Nat.add_assoc _ _ _))⟩)) | (go_at_call 10; (refine (banksmanref08_Few.calls k _ _ l1 _ _ ([] : List Int) false _ ?side1 ?side2 ?side3 ?side4 A11.out).mono ?_); (case side1 => repeat (first | exact (Kd.C_below HR1.out (by repeat (first | (with_reducible first | exact HB.out | apply below_alloc | apply pw_below_drewN | apply below_drew1 | refine below_set ?_ GE444.out) | exact HB.out))) | (with_reducible refine Kd.C_alloc ?_ _) | (with_reducible refine Kd.C_drewN ?_ _) | (with_reducible refine Kd.C_drew ?_))); (case side2 => exact HC1.out); (case side3 => exact Kd.C_nil _ _); (case side4 => exact Nat.le_refl _); rintro e w18 ⟨rfl, hb⟩; have n0_ := Aside0.mk (Kd.V_below (by (with_reducible repeat (first | apply Kd.V_alloc | apply Kd.V_drewN | apply Kd.V_drew)); exact HO2.out) hb); have n1_ := Aside0.mk (blk_below (g := gb444) (o := .cells #[.int .i64 a0_0, .slice A0_1 l0_1.length c0_1] 24 (0, 0)) (by (with_reducible repeat (first | refine blk_drewN ?_ _ | refine blk_drew ?_ | refine blk_alloc ?_ _)); exact BK444.out) hb); have n2_ := Aside0.mk (below_step (by repeat (first | (with_reducible first | exact HB.out | apply below_alloc | apply pw_below_drewN | apply below_drew1 | refine below_set ?_ GE444.out) | exact HB.out)) hb); clear HO2; clear BK444; clear HB; have HO2 := n0_; have BK444 := n1_; have HB := n2_; clear n0_ n1_ n2_; (try clear hb); (try clear hb2); (try clear hk); (try clear hi)))
        repeat (go_quiet (first | (go_at_call 9; (with_reducible refine (banksmanref10_Few.calls k _ _ l0_1 true _ ?side1 ?side2 A9.out).mono ?_); (case side1 => repeat (first | exact (Kd.C_below HR0_1.out HB.out) | (with_reducible refine Kd.C_alloc ?_ _) | (with_reducible refine Kd.C_drewN ?_ _) | (with_reducible refine Kd.C_drew ?_))); (case side2 => exact HC0_1.out); rintro e w' ⟨rfl, ⟨nd, rfl⟩⟩; (try first | exact ⟨rfl, _, World.drewN_drewN _ _ _⟩ | exact ⟨rfl, _, Eq.trans (World.drewN_drewN _ _ _) (congrArg (World.drewN _) (Nat.add_assoc _ _ _))⟩)) | (go_at_call 10; (refine (banksmanref08_Few.calls k _ _ l1 _ _ ([] : List Int) false _ ?side1 ?side2 ?side3 ?side4 A11.out).mono ?_); (case side1 => repeat (first | exact (Kd.C_below HR1.out (by repeat (first | (with_reducible first | exact HB.out | apply below_alloc | apply pw_below_drewN | apply below_drew1 | refine below_set ?_ GE444.out) | exact HB.out))) | (with_reducible refine Kd.C_alloc ?_ _) | (with_reducible refine Kd.C_drewN ?_ _) | (with_reducible refine Kd.C_drew ?_))); (case side2 => exact HC1.out); (case side3 => exact Kd.C_nil _ _); (case side4 => exact Nat.le_refl _); rintro e w18 ⟨rfl, hb⟩; have n0_ := Aside0.mk (Kd.V_below (by (with_reducible repeat (first | apply Kd.V_alloc | apply Kd.V_drewN | apply Kd.V_drew)); exact HO2.out) hb); have n1_ := Aside0.mk (blk_below (g := gb444) (o := .cells #[.int .i64 a0_0, .slice A0_1 l0_1.length c0_1] 24 (0, 0)) (by (with_reducible repeat (first | refine blk_drewN ?_ _ | refine blk_drew ?_ | refine blk_alloc ?_ _)); exact BK444.out) hb); have n2_ := Aside0.mk (below_step (by repeat (first | (with_reducible first | exact HB.out | apply below_alloc | apply pw_below_drewN | apply below_drew1 | refine below_set ?_ GE444.out) | exact HB.out)) hb); clear HO2; clear BK444; clear HB; have HO2 := n0_; have BK444 := n1_; have HB := n2_; clear n0_ n1_ n2_; (try clear hb); (try clear hb2); (try clear hk); (try clear hi))); try go_wp2_with (first | (go_at_call 9; (with_reducible refine (banksmanref10_Few.calls k _ _ l0_1 true _ ?side1 ?side2 A9.out).mono ?_); (case side1 => repeat (first | exact (Kd.C_below HR0_1.out HB.out) | (with_reducible refine Kd.C_alloc ?_ _) | (with_reducible refine Kd.C_drewN ?_ _) | (with_reducible refine Kd.C_drew ?_))); (case side2 => exact HC0_1.out); rintro e w' ⟨rfl, ⟨nd, rfl⟩⟩; (try first | exact ⟨rfl, _, World.drewN_drewN _ _ _⟩ | exact ⟨rfl, _, Eq.trans (World.drewN_drewN _ _ _) (congrArg (World.drewN _) (Nat.add_assoc _ _ _))⟩)) | (go_at_call 10; (refine (banksmanref08_Few.calls k _ _ l1 _ _ ([] : List Int) false _ ?side1 ?side2 ?side3 ?side4 A11.out).mono ?_); (case side1 => repeat (first | exact (Kd.C_below HR1.out (by repeat (first | (with_reducible first | exact HB.out | apply below_alloc | apply pw_below_drewN | apply below_drew1 | refine below_set ?_ GE444.out) | exact HB.out))) | (with_reducible refine Kd.C_alloc ?_ _) | (with_reducible refine Kd.C_drewN ?_ _) | (with_reducible refine Kd.C_drew ?_))); (case side2 => exact HC1.out); (case side3 => exact Kd.C_nil _ _); (case side4 => exact Nat.le_refl _); rintro e w18 ⟨rfl, hb⟩; have n0_ := Aside0.mk (Kd.V_below (by (with_reducible repeat (first | apply Kd.V_alloc | apply Kd.V_drewN | apply Kd.V_drew)); exact HO2.out) hb); have n1_ := Aside0.mk (blk_below (g := gb444) (o := .cells #[.int .i64 a0_0, .slice A0_1 l0_1.length c0_1] 24 (0, 0)) (by (with_reducible repeat (first | refine blk_drewN ?_ _ | refine blk_drew ?_ | refine blk_alloc ?_ _)); exact BK444.out) hb); have n2_ := Aside0.mk (below_step (by repeat (first | (with_reducible first | exact HB.out | apply below_alloc | apply pw_below_drewN | apply below_drew1 | refine below_set ?_ GE444.out) | exact HB.out)) hb); clear HO2; clear BK444; clear HB; have HO2 := n0_; have BK444 := n1_; have HB := n2_; clear n0_ n1_ n2_; (try clear hb); (try clear hb2); (try clear hk); (try clear hi))))
        go_meet
        case rel => exact ⟨_, (true), (by first | rfl | (simp; done) | (simp [*]; done)), H', ⟨by first | omega | exact Nat.le_refl _⟩, ⟨by (with_reducible repeat (first | apply Kd.V_alloc | apply Kd.V_drewN | apply Kd.V_drew)); exact HO2.out⟩, ⟨by (with_reducible repeat (first | refine blk_drewN ?_ _ | refine blk_drew ?_ | refine blk_alloc ?_ _)); exact BK444.out⟩, ⟨by repeat (first | (with_reducible first | exact HB.out | apply below_alloc | apply pw_below_drewN | apply below_drew1 | refine below_set ?_ GE444.out) | exact HB.out)⟩⟩
    · replace c10 := Bool.eq_false_iff.mpr c10
      subst c10
      have H1 : (banksmanlaw14_RivalPast.j0 k l1 l2 l3 t445 true a0_0 l0_1) = some r := by rw [if_neg (show ¬ (false = true) by decide)] at H; exact H
      clear H
      have H := H1
      clear H1
      have H' := Aside0.mk H
      clear H
      have hcz19_0 : w8.cell? ⟨gb444, 0, none⟩ = some (.int .i64 a0_0) := (blk_cell BK444.out 0).trans rfl
      have hcz19_1 : w8.cell? ⟨gb444, 1, none⟩ = some (.slice A0_1 l0_1.length c0_1) := (blk_cell BK444.out 1).trans rfl
      have hfz19_0 := blk_frozen BK444.out 0
      have hfz19_1 := blk_frozen BK444.out 1
      go_wp2_with (first | (go_at_call 9; (with_reducible refine (banksmanref10_Few.calls k _ _ l0_1 false _ ?side1 ?side2 A9.out).mono ?_); (case side1 => repeat (first | exact (Kd.C_below HR0_1.out HB.out) | (with_reducible refine Kd.C_alloc ?_ _) | (with_reducible refine Kd.C_drewN ?_ _) | (with_reducible refine Kd.C_drew ?_))); (case side2 => exact HC0_1.out); rintro e w' ⟨rfl, ⟨nd, rfl⟩⟩; (try first | exact ⟨rfl, _, World.drewN_drewN _ _ _⟩ | exact ⟨rfl, _, Eq.trans (World.drewN_drewN _ _ _) (congrArg (World.drewN _) (Nat.add_assoc _ _ _))⟩)))
      repeat (go_quiet (first | (go_at_call 9; (with_reducible refine (banksmanref10_Few.calls k _ _ l0_1 false _ ?side1 ?side2 A9.out).mono ?_); (case side1 => repeat (first | exact (Kd.C_below HR0_1.out HB.out) | (with_reducible refine Kd.C_alloc ?_ _) | (with_reducible refine Kd.C_drewN ?_ _) | (with_reducible refine Kd.C_drew ?_))); (case side2 => exact HC0_1.out); rintro e w' ⟨rfl, ⟨nd, rfl⟩⟩; (try first | exact ⟨rfl, _, World.drewN_drewN _ _ _⟩ | exact ⟨rfl, _, Eq.trans (World.drewN_drewN _ _ _) (congrArg (World.drewN _) (Nat.add_assoc _ _ _))⟩))); try go_wp2_with (first | (go_at_call 9; (with_reducible refine (banksmanref10_Few.calls k _ _ l0_1 false _ ?side1 ?side2 A9.out).mono ?_); (case side1 => repeat (first | exact (Kd.C_below HR0_1.out HB.out) | (with_reducible refine Kd.C_alloc ?_ _) | (with_reducible refine Kd.C_drewN ?_ _) | (with_reducible refine Kd.C_drew ?_))); (case side2 => exact HC0_1.out); rintro e w' ⟨rfl, ⟨nd, rfl⟩⟩; (try first | exact ⟨rfl, _, World.drewN_drewN _ _ _⟩ | exact ⟨rfl, _, Eq.trans (World.drewN_drewN _ _ _) (congrArg (World.drewN _) (Nat.add_assoc _ _ _))⟩))))
      go_meet
      case rel => exact ⟨_, (true), (by first | rfl | (simp; done) | (simp [*]; done)), H', ⟨by first | omega | exact Nat.le_refl _⟩, ⟨by (with_reducible repeat (first | apply Kd.V_alloc | apply Kd.V_drewN | apply Kd.V_drew)); exact HO2.out⟩, ⟨by (with_reducible repeat (first | refine blk_drewN ?_ _ | refine blk_drew ?_ | refine blk_alloc ?_ _)); exact BK444.out⟩, ⟨by repeat (first | (with_reducible first | exact HB.out | apply below_alloc | apply pw_below_drewN | apply below_drew1 | refine below_set ?_ GE444.out) | exact HB.out)⟩⟩
  case rest =>
    clear HC6
    try clear c1
    try clear c2
    try clear p2
    try clear c3
    try clear c7
    try clear c10
    try clear c12
    try clear hcz14_0
    try clear hcz14_1
    try clear hcz17_0
    try clear hcz17_1
    try clear hcz19_0
    try clear hcz19_1
    try clear hfz14_0
    try clear hfz14_1
    try clear hfz17_0
    try clear hfz17_1
    try clear hfz19_0
    try clear hfz19_1
    obtain ⟨kq, x36_5, rfl, HA, HJ5, HO_2, BK444, HB⟩ := hcut
    cases kq with
    | zero => exact absurd HA.out (by simp [banksmanlaw14_RivalPast.j0])
    | succ kj5 =>
      have H := HA.out
      clear HA
      simp only [banksmanlaw14_RivalPast.j0] at H
      by_cases c20 : x36_5 = true
      · subst c20
        have H1 : (some t445) = some r := by rw [if_pos rfl] at H; exact H
        clear H
        have H := H1
        clear H1
        obtain rfl := Option.some.inj H
        go_wp2
        repeat (go_quiet (fail); try go_wp2)
        go_ret
        exact ⟨by first | rfl | (simp [errW_none, errW_some] <;> rfl) | (simp [*, errW_none, errW_some] <;> rfl), by repeat (first | (with_reducible first | exact HB.out | apply below_alloc | apply pw_below_drewN | apply below_drew1 | refine below_set ?_ GE444.out) | exact HB.out)⟩
      · replace c20 := Bool.eq_false_iff.mpr c20
        subst c20
        have H1 : ((rival_Judge.f a0_0 l0_1 l1 l2 l3).bind fun bt449 => ((rival_Meets.f a0_0 l2).bind fun t451 => ((rival_Judge.f a0_0 l0_1 l1 t451 l3).bind fun bt454 => (banksmanlaw14_RivalPast.l0 kj5 l1 l2 l3 t445 bt449.1 bt449.2 t451 bt454.1 bt454.2 ([] : List (S50)) (wrap64 ((l2.length : Int) - 1)) a0_0 l0_1)))) = some r := by rw [if_neg (show ¬ (false = true) by decide)] at H; exact H
        clear H
        have H := H1
        clear H1
        replace H := Option.bind_eq_some_iff.mp H
        obtain ⟨⟨t449, t450⟩, A210, H⟩ := H
        replace H : ((rival_Meets.f a0_0 l2).bind fun t451 => ((rival_Judge.f a0_0 l0_1 l1 t451 l3).bind fun bt454 => (banksmanlaw14_RivalPast.l0 kj5 l1 l2 l3 t445 t449 t450 t451 bt454.1 bt454.2 ([] : List (S50)) (wrap64 ((l2.length : Int) - 1)) a0_0 l0_1))) = some r := H
        have A21 := Aside0.mk A210
        clear A210
        replace H := Option.bind_eq_some_iff.mp H
        obtain ⟨t451, A220, H⟩ := H
        replace H : ((rival_Judge.f a0_0 l0_1 l1 t451 l3).bind fun bt454 => (banksmanlaw14_RivalPast.l0 kj5 l1 l2 l3 t445 t449 t450 t451 bt454.1 bt454.2 ([] : List (S50)) (wrap64 ((l2.length : Int) - 1)) a0_0 l0_1)) = some r := H
        have A22 := Aside0.mk A220
        clear A220
        replace H := Option.bind_eq_some_iff.mp H
        obtain ⟨⟨t454, t455⟩, A230, H⟩ := H
        replace H : (banksmanlaw14_RivalPast.l0 kj5 l1 l2 l3 t445 t449 t450 t451 t454 t455 ([] : List (S50)) (wrap64 ((l2.length : Int) - 1)) a0_0 l0_1) = some r := H
        have A23 := Aside0.mk A230
        clear A230
        have H' := Aside0.mk H
        clear H
        have hcz24_0 : wc.cell? ⟨gb444, 0, none⟩ = some (.int .i64 a0_0) := (blk_cell BK444.out 0).trans rfl
        have hcz24_1 : wc.cell? ⟨gb444, 1, none⟩ = some (.slice A0_1 l0_1.length c0_1) := (blk_cell BK444.out 1).trans rfl
        have hfz24_0 := blk_frozen BK444.out 0
        have hfz24_1 := blk_frozen BK444.out 1
        go_wp2_with (first | (go_at_call 12; (with_reducible refine (rival_Judge.calls a0_0 _ _ l0_1 _ _ l1 _ _ l2 _ _ l3 t449 t450 _ ?side1 ?side2 ?side3 ?side4 ?side5 ?side6 ?side7 ?side8 A21.out).mono ?_); (case side1 => repeat (first | exact (Kd.C_below HR0_1.out HB.out) | (with_reducible refine Kd.C_alloc ?_ _) | (with_reducible refine Kd.C_drewN ?_ _) | (with_reducible refine Kd.C_drew ?_))); (case side2 => exact HC0_1.out); (case side3 => repeat (first | exact (Kd.C_below HR1.out HB.out) | (with_reducible refine Kd.C_alloc ?_ _) | (with_reducible refine Kd.C_drewN ?_ _) | (with_reducible refine Kd.C_drew ?_))); (case side4 => exact HC1.out); (case side5 => repeat (first | exact (Kd.V_reads' HO_2.out).2.2 | (with_reducible refine Kd.C_alloc ?_ _) | (with_reducible refine Kd.C_drewN ?_ _) | (with_reducible refine Kd.C_drew ?_))); (case side6 => exact (Kd.V_reads' HO_2.out).2.1); (case side7 => repeat (first | exact (Kd.C_below HR3.out HB.out) | (with_reducible refine Kd.C_alloc ?_ _) | (with_reducible refine Kd.C_drewN ?_ _) | (with_reducible refine Kd.C_drew ?_))); (case side8 => exact HC3.out); rintro e w25 ⟨rfl, hb⟩; have n0_ := Aside0.mk (Kd.V_below (by (with_reducible repeat (first | apply Kd.V_alloc | apply Kd.V_drewN | apply Kd.V_drew)); exact HO_2.out) hb); have n1_ := Aside0.mk (blk_below (g := gb444) (o := .cells #[.int .i64 a0_0, .slice A0_1 l0_1.length c0_1] 24 (0, 0)) (by (with_reducible repeat (first | refine blk_drewN ?_ _ | refine blk_drew ?_ | refine blk_alloc ?_ _)); exact BK444.out) hb); have n2_ := Aside0.mk (below_step (by repeat (first | (with_reducible first | exact HB.out | apply below_alloc | apply pw_below_drewN | apply below_drew1 | refine below_set ?_ GE444.out) | exact HB.out)) hb); clear HO_2; clear BK444; clear HB; have HO_2 := n0_; have BK444 := n1_; have HB := n2_; clear n0_ n1_ n2_; (try clear hb); (try clear hb2); (try clear hk); (try clear hi); have hcz26_0 : w25.cell? ⟨gb444, 0, none⟩ = some (.int .i64 a0_0) := (blk_cell BK444.out 0).trans rfl; have hcz26_1 : w25.cell? ⟨gb444, 1, none⟩ = some (.slice A0_1 l0_1.length c0_1) := (blk_cell BK444.out 1).trans rfl; have hfz26_0 := blk_frozen BK444.out 0; have hfz26_1 := blk_frozen BK444.out 1) | (go_at_call 15; (with_reducible refine (rival_Meets.calls a0_0 _ _ l2 t451 _ ?side1 ?side2 A22.out).mono ?_); (case side1 => repeat (first | exact (Kd.V_reads' HO_2.out).2.2 | (with_reducible refine Kd.C_alloc ?_ _) | (with_reducible refine Kd.C_drewN ?_ _) | (with_reducible refine Kd.C_drew ?_))); (case side2 => exact (Kd.V_reads' HO_2.out).2.1); rintro e w27 ⟨v452, rfl, ho0, hb⟩; have n0_ := Aside0.mk (Kd.V_below (by (with_reducible repeat (first | apply Kd.V_alloc | apply Kd.V_drewN | apply Kd.V_drew)); exact HO_2.out) hb); have n1_ := Aside0.mk (Kd.V_lower (Kd.V_mono (ok' := fun k_ => (P2_ k_ ∨ w.heap.size ≤ k_) ∧ k_ ≠ gb444) ho0 (fun k_ hk_ => ⟨(.inr (Nat.le_trans (below_size (by repeat (first | (with_reducible first | exact HB.out | apply below_alloc | apply pw_below_drewN | apply below_drew1 | refine below_set ?_ GE444.out) | exact HB.out))) hk_)), (Kd.freshB (g := gb444) (o := .cells #[.int .i64 a0_0, .slice A0_1 l0_1.length c0_1] 24 (0, 0)) (by (with_reducible repeat (first | refine blk_drewN ?_ _ | refine blk_drew ?_ | refine blk_alloc ?_ _)); exact BK444.out) k_ hk_)⟩)) (below_size (by repeat (first | (with_reducible first | exact HB.out | apply below_alloc | apply pw_below_drewN | apply below_drew1 | refine below_set ?_ GE444.out) | exact HB.out)))); have n2_ := Aside0.mk (blk_below (g := gb444) (o := .cells #[.int .i64 a0_0, .slice A0_1 l0_1.length c0_1] 24 (0, 0)) (by (with_reducible repeat (first | refine blk_drewN ?_ _ | refine blk_drew ?_ | refine blk_alloc ?_ _)); exact BK444.out) hb); have n3_ := Aside0.mk (below_step (by repeat (first | (with_reducible first | exact HB.out | apply below_alloc | apply pw_below_drewN | apply below_drew1 | refine below_set ?_ GE444.out) | exact HB.out)) hb); clear HO_2; clear BK444; clear HB; have HO_2 := n0_; have HO453 := n1_; have BK444 := n2_; have HB := n3_; clear n0_ n1_ n2_ n3_; (try clear hb); (try clear hb2); (try clear hk); (try clear hi); (try clear ho0); have hcz28_0 : w27.cell? ⟨gb444, 0, none⟩ = some (.int .i64 a0_0) := (blk_cell BK444.out 0).trans rfl; have hcz28_1 : w27.cell? ⟨gb444, 1, none⟩ = some (.slice A0_1 l0_1.length c0_1) := (blk_cell BK444.out 1).trans rfl; have hfz28_0 := blk_frozen BK444.out 0; have hfz28_1 := blk_frozen BK444.out 1; obtain ⟨Ao29, co29, eo29⟩ := Kd.V_slice HO453.out; subst eo29) | (go_at_call 12; (with_reducible refine (rival_Judge.calls a0_0 _ _ l0_1 _ _ l1 _ _ t451 _ _ l3 t454 t455 _ ?side1 ?side2 ?side3 ?side4 ?side5 ?side6 ?side7 ?side8 A23.out).mono ?_); (case side1 => repeat (first | exact (Kd.C_below HR0_1.out HB.out) | (with_reducible refine Kd.C_alloc ?_ _) | (with_reducible refine Kd.C_drewN ?_ _) | (with_reducible refine Kd.C_drew ?_))); (case side2 => exact HC0_1.out); (case side3 => repeat (first | exact (Kd.C_below HR1.out HB.out) | (with_reducible refine Kd.C_alloc ?_ _) | (with_reducible refine Kd.C_drewN ?_ _) | (with_reducible refine Kd.C_drew ?_))); (case side4 => exact HC1.out); (case side5 => repeat (first | exact (Kd.V_reads' HO453.out).2.2 | (with_reducible refine Kd.C_alloc ?_ _) | (with_reducible refine Kd.C_drewN ?_ _) | (with_reducible refine Kd.C_drew ?_))); (case side6 => exact (Kd.V_reads' HO453.out).2.1); (case side7 => repeat (first | exact (Kd.C_below HR3.out HB.out) | (with_reducible refine Kd.C_alloc ?_ _) | (with_reducible refine Kd.C_drewN ?_ _) | (with_reducible refine Kd.C_drew ?_))); (case side8 => exact HC3.out); rintro e w30 ⟨rfl, hb⟩; have n0_ := Aside0.mk (Kd.V_below (by (with_reducible repeat (first | apply Kd.V_alloc | apply Kd.V_drewN | apply Kd.V_drew)); exact HO_2.out) hb); have n1_ := Aside0.mk (Kd.V_below (by (with_reducible repeat (first | apply Kd.V_alloc | apply Kd.V_drewN | apply Kd.V_drew)); exact HO453.out) hb); have n2_ := Aside0.mk (blk_below (g := gb444) (o := .cells #[.int .i64 a0_0, .slice A0_1 l0_1.length c0_1] 24 (0, 0)) (by (with_reducible repeat (first | refine blk_drewN ?_ _ | refine blk_drew ?_ | refine blk_alloc ?_ _)); exact BK444.out) hb); have n3_ := Aside0.mk (below_step (by repeat (first | (with_reducible first | exact HB.out | apply below_alloc | apply pw_below_drewN | apply below_drew1 | refine below_set ?_ GE444.out) | exact HB.out)) hb); clear HO_2; clear HO453; clear BK444; clear HB; have HO_2 := n0_; have HO453 := n1_; have BK444 := n2_; have HB := n3_; clear n0_ n1_ n2_ n3_; (try clear hb); (try clear hb2); (try clear hk); (try clear hi)))
        repeat (go_quiet (first | (go_at_call 12; (with_reducible refine (rival_Judge.calls a0_0 _ _ l0_1 _ _ l1 _ _ l2 _ _ l3 t449 t450 _ ?side1 ?side2 ?side3 ?side4 ?side5 ?side6 ?side7 ?side8 A21.out).mono ?_); (case side1 => repeat (first | exact (Kd.C_below HR0_1.out HB.out) | (with_reducible refine Kd.C_alloc ?_ _) | (with_reducible refine Kd.C_drewN ?_ _) | (with_reducible refine Kd.C_drew ?_))); (case side2 => exact HC0_1.out); (case side3 => repeat (first | exact (Kd.C_below HR1.out HB.out) | (with_reducible refine Kd.C_alloc ?_ _) | (with_reducible refine Kd.C_drewN ?_ _) | (with_reducible refine Kd.C_drew ?_))); (case side4 => exact HC1.out); (case side5 => repeat (first | exact (Kd.V_reads' HO_2.out).2.2 | (with_reducible refine Kd.C_alloc ?_ _) | (with_reducible refine Kd.C_drewN ?_ _) | (with_reducible refine Kd.C_drew ?_))); (case side6 => exact (Kd.V_reads' HO_2.out).2.1); (case side7 => repeat (first | exact (Kd.C_below HR3.out HB.out) | (with_reducible refine Kd.C_alloc ?_ _) | (with_reducible refine Kd.C_drewN ?_ _) | (with_reducible refine Kd.C_drew ?_))); (case side8 => exact HC3.out); rintro e w25 ⟨rfl, hb⟩; have n0_ := Aside0.mk (Kd.V_below (by (with_reducible repeat (first | apply Kd.V_alloc | apply Kd.V_drewN | apply Kd.V_drew)); exact HO_2.out) hb); have n1_ := Aside0.mk (blk_below (g := gb444) (o := .cells #[.int .i64 a0_0, .slice A0_1 l0_1.length c0_1] 24 (0, 0)) (by (with_reducible repeat (first | refine blk_drewN ?_ _ | refine blk_drew ?_ | refine blk_alloc ?_ _)); exact BK444.out) hb); have n2_ := Aside0.mk (below_step (by repeat (first | (with_reducible first | exact HB.out | apply below_alloc | apply pw_below_drewN | apply below_drew1 | refine below_set ?_ GE444.out) | exact HB.out)) hb); clear HO_2; clear BK444; clear HB; have HO_2 := n0_; have BK444 := n1_; have HB := n2_; clear n0_ n1_ n2_; (try clear hb); (try clear hb2); (try clear hk); (try clear hi); have hcz26_0 : w25.cell? ⟨gb444, 0, none⟩ = some (.int .i64 a0_0) := (blk_cell BK444.out 0).trans rfl; have hcz26_1 : w25.cell? ⟨gb444, 1, none⟩ = some (.slice A0_1 l0_1.length c0_1) := (blk_cell BK444.out 1).trans rfl; have hfz26_0 := blk_frozen BK444.out 0; have hfz26_1 := blk_frozen BK444.out 1) | (go_at_call 15; (with_reducible refine (rival_Meets.calls a0_0 _ _ l2 t451 _ ?side1 ?side2 A22.out).mono ?_); (case side1 => repeat (first | exact (Kd.V_reads' HO_2.out).2.2 | (with_reducible refine Kd.C_alloc ?_ _) | (with_reducible refine Kd.C_drewN ?_ _) | (with_reducible refine Kd.C_drew ?_))); (case side2 => exact (Kd.V_reads' HO_2.out).2.1); rintro e w27 ⟨v452, rfl, ho0, hb⟩; have n0_ := Aside0.mk (Kd.V_below (by (with_reducible repeat (first | apply Kd.V_alloc | apply Kd.V_drewN | apply Kd.V_drew)); exact HO_2.out) hb); have n1_ := Aside0.mk (Kd.V_lower (Kd.V_mono (ok' := fun k_ => (P2_ k_ ∨ w.heap.size ≤ k_) ∧ k_ ≠ gb444) ho0 (fun k_ hk_ => ⟨(.inr (Nat.le_trans (below_size (by repeat (first | (with_reducible first | exact HB.out | apply below_alloc | apply pw_below_drewN | apply below_drew1 | refine below_set ?_ GE444.out) | exact HB.out))) hk_)), (Kd.freshB (g := gb444) (o := .cells #[.int .i64 a0_0, .slice A0_1 l0_1.length c0_1] 24 (0, 0)) (by (with_reducible repeat (first | refine blk_drewN ?_ _ | refine blk_drew ?_ | refine blk_alloc ?_ _)); exact BK444.out) k_ hk_)⟩)) (below_size (by repeat (first | (with_reducible first | exact HB.out | apply below_alloc | apply pw_below_drewN | apply below_drew1 | refine below_set ?_ GE444.out) | exact HB.out)))); have n2_ := Aside0.mk (blk_below (g := gb444) (o := .cells #[.int .i64 a0_0, .slice A0_1 l0_1.length c0_1] 24 (0, 0)) (by (with_reducible repeat (first | refine blk_drewN ?_ _ | refine blk_drew ?_ | refine blk_alloc ?_ _)); exact BK444.out) hb); have n3_ := Aside0.mk (below_step (by repeat (first | (with_reducible first | exact HB.out | apply below_alloc | apply pw_below_drewN | apply below_drew1 | refine below_set ?_ GE444.out) | exact HB.out)) hb); clear HO_2; clear BK444; clear HB; have HO_2 := n0_; have HO453 := n1_; have BK444 := n2_; have HB := n3_; clear n0_ n1_ n2_ n3_; (try clear hb); (try clear hb2); (try clear hk); (try clear hi); (try clear ho0); have hcz28_0 : w27.cell? ⟨gb444, 0, none⟩ = some (.int .i64 a0_0) := (blk_cell BK444.out 0).trans rfl; have hcz28_1 : w27.cell? ⟨gb444, 1, none⟩ = some (.slice A0_1 l0_1.length c0_1) := (blk_cell BK444.out 1).trans rfl; have hfz28_0 := blk_frozen BK444.out 0; have hfz28_1 := blk_frozen BK444.out 1; obtain ⟨Ao29, co29, eo29⟩ := Kd.V_slice HO453.out; subst eo29) | (go_at_call 12; (with_reducible refine (rival_Judge.calls a0_0 _ _ l0_1 _ _ l1 _ _ t451 _ _ l3 t454 t455 _ ?side1 ?side2 ?side3 ?side4 ?side5 ?side6 ?side7 ?side8 A23.out).mono ?_); (case side1 => repeat (first | exact (Kd.C_below HR0_1.out HB.out) | (with_reducible refine Kd.C_alloc ?_ _) | (with_reducible refine Kd.C_drewN ?_ _) | (with_reducible refine Kd.C_drew ?_))); (case side2 => exact HC0_1.out); (case side3 => repeat (first | exact (Kd.C_below HR1.out HB.out) | (with_reducible refine Kd.C_alloc ?_ _) | (with_reducible refine Kd.C_drewN ?_ _) | (with_reducible refine Kd.C_drew ?_))); (case side4 => exact HC1.out); (case side5 => repeat (first | exact (Kd.V_reads' HO453.out).2.2 | (with_reducible refine Kd.C_alloc ?_ _) | (with_reducible refine Kd.C_drewN ?_ _) | (with_reducible refine Kd.C_drew ?_))); (case side6 => exact (Kd.V_reads' HO453.out).2.1); (case side7 => repeat (first | exact (Kd.C_below HR3.out HB.out) | (with_reducible refine Kd.C_alloc ?_ _) | (with_reducible refine Kd.C_drewN ?_ _) | (with_reducible refine Kd.C_drew ?_))); (case side8 => exact HC3.out); rintro e w30 ⟨rfl, hb⟩; have n0_ := Aside0.mk (Kd.V_below (by (with_reducible repeat (first | apply Kd.V_alloc | apply Kd.V_drewN | apply Kd.V_drew)); exact HO_2.out) hb); have n1_ := Aside0.mk (Kd.V_below (by (with_reducible repeat (first | apply Kd.V_alloc | apply Kd.V_drewN | apply Kd.V_drew)); exact HO453.out) hb); have n2_ := Aside0.mk (blk_below (g := gb444) (o := .cells #[.int .i64 a0_0, .slice A0_1 l0_1.length c0_1] 24 (0, 0)) (by (with_reducible repeat (first | refine blk_drewN ?_ _ | refine blk_drew ?_ | refine blk_alloc ?_ _)); exact BK444.out) hb); have n3_ := Aside0.mk (below_step (by repeat (first | (with_reducible first | exact HB.out | apply below_alloc | apply pw_below_drewN | apply below_drew1 | refine below_set ?_ GE444.out) | exact HB.out)) hb); clear HO_2; clear HO453; clear BK444; clear HB; have HO_2 := n0_; have HO453 := n1_; have BK444 := n2_; have HB := n3_; clear n0_ n1_ n2_ n3_; (try clear hb); (try clear hb2); (try clear hk); (try clear hi))); try go_wp2_with (first | (go_at_call 12; (with_reducible refine (rival_Judge.calls a0_0 _ _ l0_1 _ _ l1 _ _ l2 _ _ l3 t449 t450 _ ?side1 ?side2 ?side3 ?side4 ?side5 ?side6 ?side7 ?side8 A21.out).mono ?_); (case side1 => repeat (first | exact (Kd.C_below HR0_1.out HB.out) | (with_reducible refine Kd.C_alloc ?_ _) | (with_reducible refine Kd.C_drewN ?_ _) | (with_reducible refine Kd.C_drew ?_))); (case side2 => exact HC0_1.out); (case side3 => repeat (first | exact (Kd.C_below HR1.out HB.out) | (with_reducible refine Kd.C_alloc ?_ _) | (with_reducible refine Kd.C_drewN ?_ _) | (with_reducible refine Kd.C_drew ?_))); (case side4 => exact HC1.out); (case side5 => repeat (first | exact (Kd.V_reads' HO_2.out).2.2 | (with_reducible refine Kd.C_alloc ?_ _) | (with_reducible refine Kd.C_drewN ?_ _) | (with_reducible refine Kd.C_drew ?_))); (case side6 => exact (Kd.V_reads' HO_2.out).2.1); (case side7 => repeat (first | exact (Kd.C_below HR3.out HB.out) | (with_reducible refine Kd.C_alloc ?_ _) | (with_reducible refine Kd.C_drewN ?_ _) | (with_reducible refine Kd.C_drew ?_))); (case side8 => exact HC3.out); rintro e w25 ⟨rfl, hb⟩; have n0_ := Aside0.mk (Kd.V_below (by (with_reducible repeat (first | apply Kd.V_alloc | apply Kd.V_drewN | apply Kd.V_drew)); exact HO_2.out) hb); have n1_ := Aside0.mk (blk_below (g := gb444) (o := .cells #[.int .i64 a0_0, .slice A0_1 l0_1.length c0_1] 24 (0, 0)) (by (with_reducible repeat (first | refine blk_drewN ?_ _ | refine blk_drew ?_ | refine blk_alloc ?_ _)); exact BK444.out) hb); have n2_ := Aside0.mk (below_step (by repeat (first | (with_reducible first | exact HB.out | apply below_alloc | apply pw_below_drewN | apply below_drew1 | refine below_set ?_ GE444.out) | exact HB.out)) hb); clear HO_2; clear BK444; clear HB; have HO_2 := n0_; have BK444 := n1_; have HB := n2_; clear n0_ n1_ n2_; (try clear hb); (try clear hb2); (try clear hk); (try clear hi); have hcz26_0 : w25.cell? ⟨gb444, 0, none⟩ = some (.int .i64 a0_0) := (blk_cell BK444.out 0).trans rfl; have hcz26_1 : w25.cell? ⟨gb444, 1, none⟩ = some (.slice A0_1 l0_1.length c0_1) := (blk_cell BK444.out 1).trans rfl; have hfz26_0 := blk_frozen BK444.out 0; have hfz26_1 := blk_frozen BK444.out 1) | (go_at_call 15; (with_reducible refine (rival_Meets.calls a0_0 _ _ l2 t451 _ ?side1 ?side2 A22.out).mono ?_); (case side1 => repeat (first | exact (Kd.V_reads' HO_2.out).2.2 | (with_reducible refine Kd.C_alloc ?_ _) | (with_reducible refine Kd.C_drewN ?_ _) | (with_reducible refine Kd.C_drew ?_))); (case side2 => exact (Kd.V_reads' HO_2.out).2.1); rintro e w27 ⟨v452, rfl, ho0, hb⟩; have n0_ := Aside0.mk (Kd.V_below (by (with_reducible repeat (first | apply Kd.V_alloc | apply Kd.V_drewN | apply Kd.V_drew)); exact HO_2.out) hb); have n1_ := Aside0.mk (Kd.V_lower (Kd.V_mono (ok' := fun k_ => (P2_ k_ ∨ w.heap.size ≤ k_) ∧ k_ ≠ gb444) ho0 (fun k_ hk_ => ⟨(.inr (Nat.le_trans (below_size (by repeat (first | (with_reducible first | exact HB.out | apply below_alloc | apply pw_below_drewN | apply below_drew1 | refine below_set ?_ GE444.out) | exact HB.out))) hk_)), (Kd.freshB (g := gb444) (o := .cells #[.int .i64 a0_0, .slice A0_1 l0_1.length c0_1] 24 (0, 0)) (by (with_reducible repeat (first | refine blk_drewN ?_ _ | refine blk_drew ?_ | refine blk_alloc ?_ _)); exact BK444.out) k_ hk_)⟩)) (below_size (by repeat (first | (with_reducible first | exact HB.out | apply below_alloc | apply pw_below_drewN | apply below_drew1 | refine below_set ?_ GE444.out) | exact HB.out)))); have n2_ := Aside0.mk (blk_below (g := gb444) (o := .cells #[.int .i64 a0_0, .slice A0_1 l0_1.length c0_1] 24 (0, 0)) (by (with_reducible repeat (first | refine blk_drewN ?_ _ | refine blk_drew ?_ | refine blk_alloc ?_ _)); exact BK444.out) hb); have n3_ := Aside0.mk (below_step (by repeat (first | (with_reducible first | exact HB.out | apply below_alloc | apply pw_below_drewN | apply below_drew1 | refine below_set ?_ GE444.out) | exact HB.out)) hb); clear HO_2; clear BK444; clear HB; have HO_2 := n0_; have HO453 := n1_; have BK444 := n2_; have HB := n3_; clear n0_ n1_ n2_ n3_; (try clear hb); (try clear hb2); (try clear hk); (try clear hi); (try clear ho0); have hcz28_0 : w27.cell? ⟨gb444, 0, none⟩ = some (.int .i64 a0_0) := (blk_cell BK444.out 0).trans rfl; have hcz28_1 : w27.cell? ⟨gb444, 1, none⟩ = some (.slice A0_1 l0_1.length c0_1) := (blk_cell BK444.out 1).trans rfl; have hfz28_0 := blk_frozen BK444.out 0; have hfz28_1 := blk_frozen BK444.out 1; obtain ⟨Ao29, co29, eo29⟩ := Kd.V_slice HO453.out; subst eo29) | (go_at_call 12; (with_reducible refine (rival_Judge.calls a0_0 _ _ l0_1 _ _ l1 _ _ t451 _ _ l3 t454 t455 _ ?side1 ?side2 ?side3 ?side4 ?side5 ?side6 ?side7 ?side8 A23.out).mono ?_); (case side1 => repeat (first | exact (Kd.C_below HR0_1.out HB.out) | (with_reducible refine Kd.C_alloc ?_ _) | (with_reducible refine Kd.C_drewN ?_ _) | (with_reducible refine Kd.C_drew ?_))); (case side2 => exact HC0_1.out); (case side3 => repeat (first | exact (Kd.C_below HR1.out HB.out) | (with_reducible refine Kd.C_alloc ?_ _) | (with_reducible refine Kd.C_drewN ?_ _) | (with_reducible refine Kd.C_drew ?_))); (case side4 => exact HC1.out); (case side5 => repeat (first | exact (Kd.V_reads' HO453.out).2.2 | (with_reducible refine Kd.C_alloc ?_ _) | (with_reducible refine Kd.C_drewN ?_ _) | (with_reducible refine Kd.C_drew ?_))); (case side6 => exact (Kd.V_reads' HO453.out).2.1); (case side7 => repeat (first | exact (Kd.C_below HR3.out HB.out) | (with_reducible refine Kd.C_alloc ?_ _) | (with_reducible refine Kd.C_drewN ?_ _) | (with_reducible refine Kd.C_drew ?_))); (case side8 => exact HC3.out); rintro e w30 ⟨rfl, hb⟩; have n0_ := Aside0.mk (Kd.V_below (by (with_reducible repeat (first | apply Kd.V_alloc | apply Kd.V_drewN | apply Kd.V_drew)); exact HO_2.out) hb); have n1_ := Aside0.mk (Kd.V_below (by (with_reducible repeat (first | apply Kd.V_alloc | apply Kd.V_drewN | apply Kd.V_drew)); exact HO453.out) hb); have n2_ := Aside0.mk (blk_below (g := gb444) (o := .cells #[.int .i64 a0_0, .slice A0_1 l0_1.length c0_1] 24 (0, 0)) (by (with_reducible repeat (first | refine blk_drewN ?_ _ | refine blk_drew ?_ | refine blk_alloc ?_ _)); exact BK444.out) hb); have n3_ := Aside0.mk (below_step (by repeat (first | (with_reducible first | exact HB.out | apply below_alloc | apply pw_below_drewN | apply below_drew1 | refine below_set ?_ GE444.out) | exact HB.out)) hb); clear HO_2; clear HO453; clear BK444; clear HB; have HO_2 := n0_; have HO453 := n1_; have BK444 := n2_; have HB := n3_; clear n0_ n1_ n2_ n3_; (try clear hb); (try clear hb2); (try clear hk); (try clear hi))))
        go_loopg [15, 16] kj5 (fun kq v15 v16 w' => ∃ (x15_2 : List (S50)) (x16_2 : Int), v16 = .int .i64 x16_2 ∧ Aside0 (banksmanlaw14_RivalPast.l0 kq l1 l2 l3 t445 t449 t450 t451 t454 t455 x15_2 x16_2 a0_0 l0_1 = some r) ∧ Aside0 (kq ≤ kj5) ∧ Aside0 (Kd.V k50 50 w' w.heap.size (fun k_ => (P2_ k_ ∨ w.heap.size ≤ k_) ∧ some k_ ≠ (v15 : Value).ownBlock ∧ k_ ≠ gb444) (.slice A2 l2.length c2) l2) ∧ Aside0 (Kd.V k50 50 w' w.heap.size (fun k_ => (P2_ k_ ∨ w.heap.size ≤ k_) ∧ some k_ ≠ (v15 : Value).ownBlock ∧ k_ ≠ gb444) (.slice Ao29 t451.length co29) t451) ∧ Aside0 (Kd.N k50 50 w' w.heap.size (fun k_ => (P2_ k_ ∨ w.heap.size ≤ k_) ∧ k_ ≠ gb444) v15 x15_2) ∧ Aside0 (w'.heap[gb444]? = some (.cells #[.int .i64 a0_0, (.slice A0_1 l0_1.length c0_1)] 24 (0, 0))) ∧ Aside0 (Below w.heap.size w w'))
        case atStart => exact ⟨(([] : List (S50))), (wrap64 ((l2.length : Int) - 1)), (by first | rfl | (simp; done) | (simp [*]; done)), H', ⟨Nat.le_refl _⟩, ⟨by (with_reducible repeat (first | apply Kd.V_alloc | apply Kd.V_drewN | apply Kd.V_drew)); exact Kd.V_mono HO_2.out (fun _ hk => ⟨hk.1, ⟨(by simp [Value.ownBlock]), hk.2⟩⟩)⟩, ⟨by (with_reducible repeat (first | apply Kd.V_alloc | apply Kd.V_drewN | apply Kd.V_drew)); exact Kd.V_mono HO453.out (fun _ hk => ⟨hk.1, ⟨(by simp [Value.ownBlock]), hk.2⟩⟩)⟩, ⟨by first | exact Kd.R_nil _ _ _ _ _ | exact Kd.N_nil _ _ _ _ _ | exact Kd.V_nil _ _ _ _ _ | exact Kd.Q_nil _ _ _ _ _ | exact Kd.S_nil _ _ _ _ _⟩, ⟨by (with_reducible repeat (first | refine blk_drewN ?_ _ | refine blk_drew ?_ | refine blk_alloc ?_ _)); exact BK444.out⟩, ⟨by repeat (first | (with_reducible first | exact HB.out | apply below_alloc | apply pw_below_drewN | apply below_drew1 | refine below_set ?_ GE444.out) | exact HB.out)⟩⟩
        case round =>
          clear H'
          try clear c1
          try clear c2
          try clear p2
          try clear c3
          try clear p6
          try clear c7
          try clear c10
          try clear c12
          try clear c20
          try clear hcz14_0
          try clear hcz14_1
          try clear hcz17_0
          try clear hcz17_1
          try clear hcz19_0
          try clear hcz19_1
          try clear hcz24_0
          try clear hcz24_1
          try clear hcz26_0
          try clear hcz26_1
          try clear hcz28_0
          try clear hcz28_1
          try clear hfz14_0
          try clear hfz14_1
          try clear hfz17_0
          try clear hfz17_1
          try clear hfz19_0
          try clear hfz19_1
          try clear hfz24_0
          try clear hfz24_1
          try clear hfz26_0
          try clear hfz26_1
          try clear hfz28_0
          try clear hfz28_1
          try clear p2
          obtain ⟨x15_2, x16_2, rfl, HA, HK2, HO_2, HO_12, HO_15, BK444, HB⟩ := hrel
          cases gk with
          | zero => exact absurd HA.out (by simp [banksmanlaw14_RivalPast.l0])
          | succ k2 =>
            have H := HA.out
            clear HA
            simp only [banksmanlaw14_RivalPast.l0] at H
            by_cases c31 : x16_2 ≥ 0
            · rw [if_pos c31] at H
              have c31b0 : decide (0 ≤ x16_2) = true := decide_eq_true c31
              clear c31
              by_cases c32 : 0 ≤ x16_2
              · rw [if_pos c32] at H
                have c32b0 : decide (0 ≤ x16_2) = true := decide_eq_true c32
                clear c32
                by_cases c33 : x16_2 < (l2.length : Int)
                · rw [if_pos c33] at H
                  have c33b0 : decide (x16_2 < (l2.length : Int)) = true := decide_eq_true c33
                  clear c33
                  by_cases c34 : x15_2.length < 1759218604441
                  · rw [if_pos c34] at H
                    have LMc34 := Aside0.mk c34
                    clear c34
                    obtain ⟨y457, hy457⟩ : ∃ y_ : List (S50), y_ = (x15_2 ++ [(⟨(rd_T50 l2 x16_2).f0, (rd_T50 l2 x16_2).f1, (rd_T50 l2 x16_2).f2, (rd_T50 l2 x16_2).f3, (rd_T50 l2 x16_2).f4, (rd_T50 l2 x16_2).f5⟩ : S50)]) := ⟨_, rfl⟩
                    replace H : (banksmanlaw14_RivalPast.l0 k2 l1 l2 l3 t445 t449 t450 t451 t454 t455 y457 (wrap64 (x16_2 - 1)) a0_0 l0_1) = some r := by first | (rw [hy457]; with_reducible exact H) | (have H2_ := (Option.bind_some _ _).symm.trans H; rw [hy457]; with_reducible exact H2_) | (have H2_ := (Option.bind_some _ _).symm.trans H; with_reducible exact H2_) | with_reducible exact H | (rw [hy457]; exact H) | exact H
                    have Ny457 := Aside0.mk hy457
                    clear hy457
                    have H' := Aside0.mk H
                    clear H
                    have p456 : 0 ≤ (x16_2 : Int) := of_decide_eq_true (by first | (with_reducible assumption) | assumption)
                    have q456 : x16_2 < (l2.length : Int) := of_decide_eq_true (by first | (with_reducible assumption) | assumption)
                    obtain ⟨ad456, A456_3, c456_3, A456_4, c456_4, e456, hx456_0, hx456_1, hx456_2, hx456_3, hx456_4, hx456_5, hl456_3, hi456_3, hl456_4, hi456_4⟩ := at_T50 (Kd.V_reads' HO_2.out).2.2 x16_2 p456 q456
                    cases e456
                    obtain ⟨ce456, hce456, hMe456, hcc456⟩ := Kd.V_get HO_2.out z50 x16_2 p456 (by first | exact q456 | exact of_decide_eq_true (by first | (with_reducible assumption) | assumption) | (have e_ := (Kd.V_reads' HO_2.out).1; omega))
                    obtain ⟨ua456_3, uc456_3, ua456_4, uc456_4, rfl, ul456_3, ge456_3, ul456_4, ge456_4⟩ := k50_openF hMe456
                    have hv456_3 := hcc456 3 _ rfl
                    rw [add_field _ _ 3 (by omega)] at hv456_3
                    replace hv456_3 := Option.some.inj (hv456_3.symm.trans hx456_3)
                    injection hv456_3 with hva_ hvn_ hvc_
                    rw [hva_] at ge456_3
                    rw [hvc_] at ul456_3
                    have HL456_3 := Aside0.mk (show Kd.V k57 57 _ w.heap.size _ _ ((rd_T50 l2 x16_2).f3) from Kd.V_mk ul456_3 ge456_3)
                    clear hva_ hvn_ hvc_ ge456_3 ul456_3
                    have hv456_4 := hcc456 4 _ rfl
                    rw [add_field _ _ 4 (by omega)] at hv456_4
                    replace hv456_4 := Option.some.inj (hv456_4.symm.trans hx456_4)
                    injection hv456_4 with hva_ hvn_ hvc_
                    rw [hva_] at ge456_4
                    rw [hvc_] at ul456_4
                    have HL456_4 := Aside0.mk (show Kd.V k59 59 _ w.heap.size _ _ ((rd_T50 l2 x16_2).f4) from Kd.V_mk ul456_4 ge456_4)
                    clear hva_ hvn_ hvc_ ge456_4 ul456_4
                    clear hcc456 hce456
                    have HR456_3 := Aside0.mk hi456_3
                    have HC456_3 := Aside0.mk hl456_3
                    clear hi456_3 hl456_3
                    have HR456_4 := Aside0.mk hi456_4
                    have HC456_4 := Aside0.mk hl456_4
                    clear hi456_4 hl456_4
                    replace p456 := eq_true p456
                    replace q456 := eq_true q456
                    go_wp2_with (first | ((with_reducible refine gate_builtin (b := .append) (xs := #[.tmp 65, .tmp 70]) rfl ?_); at_builtin; refine Kd.N_append k50 (w0 := w) w.heap.size rfl (.tmp 65) (.tmp 70) 26 50 (.agg #[(.int .i64 0), (.int .i64 0), (.bool false), (.slice none 0 0), (.slice none 0 0), (.bool false)]) 80 rfl Try.underlying26 info50 rfl (by decide) (by omega) u15 x15_2 (⟨(rd_T50 l2 x16_2).f0, (rd_T50 l2 x16_2).f1, (rd_T50 l2 x16_2).f2, (rd_T50 l2 x16_2).f3, (rd_T50 l2 x16_2).f4, (rd_T50 l2 x16_2).f5⟩ : S50) [.int .i64 ((rd_T50 l2 x16_2).f0), .int .i64 ((rd_T50 l2 x16_2).f1), .bool ((rd_T50 l2 x16_2).f2), .slice A456_3 ((rd_T50 l2 x16_2).f3).length c456_3, .slice A456_4 ((rd_T50 l2 x16_2).f4).length c456_4, .bool ((rd_T50 l2 x16_2).f5)] (fun k_ => (P2_ k_ ∨ w.heap.size ≤ k_) ∧ k_ ≠ gb444) (fun k_ => ((fun k_ => (P2_ k_ ∨ w.heap.size ≤ k_) ∧ k_ ≠ gb444)) k_ ∧ some k_ ≠ (u15 : Value).ownBlock) rfl rfl ?aP (fun _ hk => hk) ?aF ?aO ?aB ?aS ?aL ?_; (case aP => exact (k50_mkF _ _ (⟨(rd_T50 l2 x16_2).f0, (rd_T50 l2 x16_2).f1, (rd_T50 l2 x16_2).f2, (rd_T50 l2 x16_2).f3, (rd_T50 l2 x16_2).f4, (rd_T50 l2 x16_2).f5⟩ : S50) (Kd.V_reads' (Kd.V_mono (ok' := (fun k_ => ((fun k_ => (P2_ k_ ∨ w.heap.size ≤ k_) ∧ k_ ≠ gb444)) k_ ∧ some k_ ≠ (u15 : Value).ownBlock)) (HL456_3.out) (fun k_ hk => ⟨⟨hk.1, hk.2.2⟩, hk.2.1⟩))).2.1 (Kd.V_F (Kd.V_mono (ok' := (fun k_ => ((fun k_ => (P2_ k_ ∨ w.heap.size ≤ k_) ∧ k_ ≠ gb444)) k_ ∧ some k_ ≠ (u15 : Value).ownBlock)) (HL456_3.out) (fun k_ hk => ⟨⟨hk.1, hk.2.2⟩, hk.2.1⟩))) (Kd.V_reads' (Kd.V_mono (ok' := (fun k_ => ((fun k_ => (P2_ k_ ∨ w.heap.size ≤ k_) ∧ k_ ≠ gb444)) k_ ∧ some k_ ≠ (u15 : Value).ownBlock)) (HL456_4.out) (fun k_ hk => ⟨⟨hk.1, hk.2.2⟩, hk.2.1⟩))).2.1 (Kd.V_F (Kd.V_mono (ok' := (fun k_ => ((fun k_ => (P2_ k_ ∨ w.heap.size ≤ k_) ∧ k_ ≠ gb444)) k_ ∧ some k_ ≠ (u15 : Value).ownBlock)) (HL456_4.out) (fun k_ hk => ⟨⟨hk.1, hk.2.2⟩, hk.2.1⟩))))); (case aB => exact (by repeat (first | (with_reducible first | exact HB.out | apply below_alloc | apply pw_below_drewN | apply below_drew1 | refine below_set ?_ GE444.out) | exact HB.out))); (case aF => exact (fun k_ hk => ⟨(.inr (Nat.le_trans (below_size (by repeat (first | (with_reducible first | exact HB.out | apply below_alloc | apply pw_below_drewN | apply below_drew1 | refine below_set ?_ GE444.out) | exact HB.out))) hk)), Kd.freshB (g := gb444) (o := .cells #[.int .i64 a0_0, .slice A0_1 l0_1.length c0_1] 24 (0, 0)) (by (with_reducible repeat (first | refine blk_drewN ?_ _ | refine blk_drew ?_ | refine blk_alloc ?_ _)); exact BK444.out) k_ hk⟩)); (case aO => exact (by (with_reducible repeat (first | apply Kd.N_alloc | apply Kd.N_drewN | apply Kd.N_drew)); exact HO_15.out)); (case aS => exact (below_size (by repeat (first | (with_reducible first | exact HB.out | apply below_alloc | apply pw_below_drewN | apply below_drew1 | refine below_set ?_ GE444.out) | exact HB.out)))); (case aL => have := LMc34.out; omega); intro v458 w35 ho hb hg hat; rw [← Ny457.out] at ho; have n0_ := Aside0.mk (Kd.V_afterv (ok := (fun k_ => (P2_ k_ ∨ w.heap.size ≤ k_) ∧ k_ ≠ gb444)) (by (with_reducible repeat (first | apply Kd.V_alloc | apply Kd.V_drewN | apply Kd.V_drew)); exact Kd.V_mono HO_2.out (fun _ hk => ⟨⟨hk.1, hk.2.2⟩, hk.2.1⟩)) hg hat); have n1_ := Aside0.mk (Kd.V_afterv (ok := (fun k_ => (P2_ k_ ∨ w.heap.size ≤ k_) ∧ k_ ≠ gb444)) (by (with_reducible repeat (first | apply Kd.V_alloc | apply Kd.V_drewN | apply Kd.V_drew)); exact Kd.V_mono HO_12.out (fun _ hk => ⟨⟨hk.1, hk.2.2⟩, hk.2.1⟩)) hg hat); have n2_ := Aside0.mk (blk_grown (g := gb444) (o := .cells #[.int .i64 a0_0, .slice A0_1 l0_1.length c0_1] 24 (0, 0)) (by (with_reducible repeat (first | refine blk_drewN ?_ _ | refine blk_drew ?_ | refine blk_alloc ?_ _)); exact BK444.out) hg (Kd.N_ne HO_15.out BK444.out (by decide))); have n3_ := Aside0.mk (Kd.V_afterv (ok := (fun k_ => (P2_ k_ ∨ w.heap.size ≤ k_) ∧ k_ ≠ gb444)) (by (with_reducible repeat (first | apply Kd.V_alloc | apply Kd.V_drewN | apply Kd.V_drew)); exact Kd.V_mono HL456_3.out (fun _ hk => ⟨⟨hk.1, hk.2.2⟩, hk.2.1⟩)) hg hat); have n4_ := Aside0.mk (Kd.V_afterv (ok := (fun k_ => (P2_ k_ ∨ w.heap.size ≤ k_) ∧ k_ ≠ gb444)) (by (with_reducible repeat (first | apply Kd.V_alloc | apply Kd.V_drewN | apply Kd.V_drew)); exact Kd.V_mono HL456_4.out (fun _ hk => ⟨⟨hk.1, hk.2.2⟩, hk.2.1⟩)) hg hat); have n5_ := Aside0.mk (hb); have n6_ := Aside0.mk (ho); clear HO_2; clear HO_12; clear BK444; clear HL456_3; clear HL456_4; clear HB; clear HO_15; have HO_2 := n0_; have HO_12 := n1_; have BK444 := n2_; have HL456_3 := n3_; have HL456_4 := n4_; have HB := n5_; have HO459 := n6_; clear n0_ n1_ n2_ n3_ n4_ n5_ n6_; clear ho hb hg hat))
                    repeat (go_quiet (first | ((with_reducible refine gate_builtin (b := .append) (xs := #[.tmp 65, .tmp 70]) rfl ?_); at_builtin; refine Kd.N_append k50 (w0 := w) w.heap.size rfl (.tmp 65) (.tmp 70) 26 50 (.agg #[(.int .i64 0), (.int .i64 0), (.bool false), (.slice none 0 0), (.slice none 0 0), (.bool false)]) 80 rfl Try.underlying26 info50 rfl (by decide) (by omega) u15 x15_2 (⟨(rd_T50 l2 x16_2).f0, (rd_T50 l2 x16_2).f1, (rd_T50 l2 x16_2).f2, (rd_T50 l2 x16_2).f3, (rd_T50 l2 x16_2).f4, (rd_T50 l2 x16_2).f5⟩ : S50) [.int .i64 ((rd_T50 l2 x16_2).f0), .int .i64 ((rd_T50 l2 x16_2).f1), .bool ((rd_T50 l2 x16_2).f2), .slice A456_3 ((rd_T50 l2 x16_2).f3).length c456_3, .slice A456_4 ((rd_T50 l2 x16_2).f4).length c456_4, .bool ((rd_T50 l2 x16_2).f5)] (fun k_ => (P2_ k_ ∨ w.heap.size ≤ k_) ∧ k_ ≠ gb444) (fun k_ => ((fun k_ => (P2_ k_ ∨ w.heap.size ≤ k_) ∧ k_ ≠ gb444)) k_ ∧ some k_ ≠ (u15 : Value).ownBlock) rfl rfl ?aP (fun _ hk => hk) ?aF ?aO ?aB ?aS ?aL ?_; (case aP => exact (k50_mkF _ _ (⟨(rd_T50 l2 x16_2).f0, (rd_T50 l2 x16_2).f1, (rd_T50 l2 x16_2).f2, (rd_T50 l2 x16_2).f3, (rd_T50 l2 x16_2).f4, (rd_T50 l2 x16_2).f5⟩ : S50) (Kd.V_reads' (Kd.V_mono (ok' := (fun k_ => ((fun k_ => (P2_ k_ ∨ w.heap.size ≤ k_) ∧ k_ ≠ gb444)) k_ ∧ some k_ ≠ (u15 : Value).ownBlock)) (HL456_3.out) (fun k_ hk => ⟨⟨hk.1, hk.2.2⟩, hk.2.1⟩))).2.1 (Kd.V_F (Kd.V_mono (ok' := (fun k_ => ((fun k_ => (P2_ k_ ∨ w.heap.size ≤ k_) ∧ k_ ≠ gb444)) k_ ∧ some k_ ≠ (u15 : Value).ownBlock)) (HL456_3.out) (fun k_ hk => ⟨⟨hk.1, hk.2.2⟩, hk.2.1⟩))) (Kd.V_reads' (Kd.V_mono (ok' := (fun k_ => ((fun k_ => (P2_ k_ ∨ w.heap.size ≤ k_) ∧ k_ ≠ gb444)) k_ ∧ some k_ ≠ (u15 : Value).ownBlock)) (HL456_4.out) (fun k_ hk => ⟨⟨hk.1, hk.2.2⟩, hk.2.1⟩))).2.1 (Kd.V_F (Kd.V_mono (ok' := (fun k_ => ((fun k_ => (P2_ k_ ∨ w.heap.size ≤ k_) ∧ k_ ≠ gb444)) k_ ∧ some k_ ≠ (u15 : Value).ownBlock)) (HL456_4.out) (fun k_ hk => ⟨⟨hk.1, hk.2.2⟩, hk.2.1⟩))))); (case aB => exact (by repeat (first | (with_reducible first | exact HB.out | apply below_alloc | apply pw_below_drewN | apply below_drew1 | refine below_set ?_ GE444.out) | exact HB.out))); (case aF => exact (fun k_ hk => ⟨(.inr (Nat.le_trans (below_size (by repeat (first | (with_reducible first | exact HB.out | apply below_alloc | apply pw_below_drewN | apply below_drew1 | refine below_set ?_ GE444.out) | exact HB.out))) hk)), Kd.freshB (g := gb444) (o := .cells #[.int .i64 a0_0, .slice A0_1 l0_1.length c0_1] 24 (0, 0)) (by (with_reducible repeat (first | refine blk_drewN ?_ _ | refine blk_drew ?_ | refine blk_alloc ?_ _)); exact BK444.out) k_ hk⟩)); (case aO => exact (by (with_reducible repeat (first | apply Kd.N_alloc | apply Kd.N_drewN | apply Kd.N_drew)); exact HO_15.out)); (case aS => exact (below_size (by repeat (first | (with_reducible first | exact HB.out | apply below_alloc | apply pw_below_drewN | apply below_drew1 | refine below_set ?_ GE444.out) | exact HB.out)))); (case aL => have := LMc34.out; omega); intro v458 w35 ho hb hg hat; rw [← Ny457.out] at ho; have n0_ := Aside0.mk (Kd.V_afterv (ok := (fun k_ => (P2_ k_ ∨ w.heap.size ≤ k_) ∧ k_ ≠ gb444)) (by (with_reducible repeat (first | apply Kd.V_alloc | apply Kd.V_drewN | apply Kd.V_drew)); exact Kd.V_mono HO_2.out (fun _ hk => ⟨⟨hk.1, hk.2.2⟩, hk.2.1⟩)) hg hat); have n1_ := Aside0.mk (Kd.V_afterv (ok := (fun k_ => (P2_ k_ ∨ w.heap.size ≤ k_) ∧ k_ ≠ gb444)) (by (with_reducible repeat (first | apply Kd.V_alloc | apply Kd.V_drewN | apply Kd.V_drew)); exact Kd.V_mono HO_12.out (fun _ hk => ⟨⟨hk.1, hk.2.2⟩, hk.2.1⟩)) hg hat); have n2_ := Aside0.mk (blk_grown (g := gb444) (o := .cells #[.int .i64 a0_0, .slice A0_1 l0_1.length c0_1] 24 (0, 0)) (by (with_reducible repeat (first | refine blk_drewN ?_ _ | refine blk_drew ?_ | refine blk_alloc ?_ _)); exact BK444.out) hg (Kd.N_ne HO_15.out BK444.out (by decide))); have n3_ := Aside0.mk (Kd.V_afterv (ok := (fun k_ => (P2_ k_ ∨ w.heap.size ≤ k_) ∧ k_ ≠ gb444)) (by (with_reducible repeat (first | apply Kd.V_alloc | apply Kd.V_drewN | apply Kd.V_drew)); exact Kd.V_mono HL456_3.out (fun _ hk => ⟨⟨hk.1, hk.2.2⟩, hk.2.1⟩)) hg hat); have n4_ := Aside0.mk (Kd.V_afterv (ok := (fun k_ => (P2_ k_ ∨ w.heap.size ≤ k_) ∧ k_ ≠ gb444)) (by (with_reducible repeat (first | apply Kd.V_alloc | apply Kd.V_drewN | apply Kd.V_drew)); exact Kd.V_mono HL456_4.out (fun _ hk => ⟨⟨hk.1, hk.2.2⟩, hk.2.1⟩)) hg hat); have n5_ := Aside0.mk (hb); have n6_ := Aside0.mk (ho); clear HO_2; clear HO_12; clear BK444; clear HL456_3; clear HL456_4; clear HB; clear HO_15; have HO_2 := n0_; have HO_12 := n1_; have BK444 := n2_; have HL456_3 := n3_; have HL456_4 := n4_; have HB := n5_; have HO459 := n6_; clear n0_ n1_ n2_ n3_ n4_ n5_ n6_; clear ho hb hg hat)); try go_wp2_with (first | ((with_reducible refine gate_builtin (b := .append) (xs := #[.tmp 65, .tmp 70]) rfl ?_); at_builtin; refine Kd.N_append k50 (w0 := w) w.heap.size rfl (.tmp 65) (.tmp 70) 26 50 (.agg #[(.int .i64 0), (.int .i64 0), (.bool false), (.slice none 0 0), (.slice none 0 0), (.bool false)]) 80 rfl Try.underlying26 info50 rfl (by decide) (by omega) u15 x15_2 (⟨(rd_T50 l2 x16_2).f0, (rd_T50 l2 x16_2).f1, (rd_T50 l2 x16_2).f2, (rd_T50 l2 x16_2).f3, (rd_T50 l2 x16_2).f4, (rd_T50 l2 x16_2).f5⟩ : S50) [.int .i64 ((rd_T50 l2 x16_2).f0), .int .i64 ((rd_T50 l2 x16_2).f1), .bool ((rd_T50 l2 x16_2).f2), .slice A456_3 ((rd_T50 l2 x16_2).f3).length c456_3, .slice A456_4 ((rd_T50 l2 x16_2).f4).length c456_4, .bool ((rd_T50 l2 x16_2).f5)] (fun k_ => (P2_ k_ ∨ w.heap.size ≤ k_) ∧ k_ ≠ gb444) (fun k_ => ((fun k_ => (P2_ k_ ∨ w.heap.size ≤ k_) ∧ k_ ≠ gb444)) k_ ∧ some k_ ≠ (u15 : Value).ownBlock) rfl rfl ?aP (fun _ hk => hk) ?aF ?aO ?aB ?aS ?aL ?_; (case aP => exact (k50_mkF _ _ (⟨(rd_T50 l2 x16_2).f0, (rd_T50 l2 x16_2).f1, (rd_T50 l2 x16_2).f2, (rd_T50 l2 x16_2).f3, (rd_T50 l2 x16_2).f4, (rd_T50 l2 x16_2).f5⟩ : S50) (Kd.V_reads' (Kd.V_mono (ok' := (fun k_ => ((fun k_ => (P2_ k_ ∨ w.heap.size ≤ k_) ∧ k_ ≠ gb444)) k_ ∧ some k_ ≠ (u15 : Value).ownBlock)) (HL456_3.out) (fun k_ hk => ⟨⟨hk.1, hk.2.2⟩, hk.2.1⟩))).2.1 (Kd.V_F (Kd.V_mono (ok' := (fun k_ => ((fun k_ => (P2_ k_ ∨ w.heap.size ≤ k_) ∧ k_ ≠ gb444)) k_ ∧ some k_ ≠ (u15 : Value).ownBlock)) (HL456_3.out) (fun k_ hk => ⟨⟨hk.1, hk.2.2⟩, hk.2.1⟩))) (Kd.V_reads' (Kd.V_mono (ok' := (fun k_ => ((fun k_ => (P2_ k_ ∨ w.heap.size ≤ k_) ∧ k_ ≠ gb444)) k_ ∧ some k_ ≠ (u15 : Value).ownBlock)) (HL456_4.out) (fun k_ hk => ⟨⟨hk.1, hk.2.2⟩, hk.2.1⟩))).2.1 (Kd.V_F (Kd.V_mono (ok' := (fun k_ => ((fun k_ => (P2_ k_ ∨ w.heap.size ≤ k_) ∧ k_ ≠ gb444)) k_ ∧ some k_ ≠ (u15 : Value).ownBlock)) (HL456_4.out) (fun k_ hk => ⟨⟨hk.1, hk.2.2⟩, hk.2.1⟩))))); (case aB => exact (by repeat (first | (with_reducible first | exact HB.out | apply below_alloc | apply pw_below_drewN | apply below_drew1 | refine below_set ?_ GE444.out) | exact HB.out))); (case aF => exact (fun k_ hk => ⟨(.inr (Nat.le_trans (below_size (by repeat (first | (with_reducible first | exact HB.out | apply below_alloc | apply pw_below_drewN | apply below_drew1 | refine below_set ?_ GE444.out) | exact HB.out))) hk)), Kd.freshB (g := gb444) (o := .cells #[.int .i64 a0_0, .slice A0_1 l0_1.length c0_1] 24 (0, 0)) (by (with_reducible repeat (first | refine blk_drewN ?_ _ | refine blk_drew ?_ | refine blk_alloc ?_ _)); exact BK444.out) k_ hk⟩)); (case aO => exact (by (with_reducible repeat (first | apply Kd.N_alloc | apply Kd.N_drewN | apply Kd.N_drew)); exact HO_15.out)); (case aS => exact (below_size (by repeat (first | (with_reducible first | exact HB.out | apply below_alloc | apply pw_below_drewN | apply below_drew1 | refine below_set ?_ GE444.out) | exact HB.out)))); (case aL => have := LMc34.out; omega); intro v458 w35 ho hb hg hat; rw [← Ny457.out] at ho; have n0_ := Aside0.mk (Kd.V_afterv (ok := (fun k_ => (P2_ k_ ∨ w.heap.size ≤ k_) ∧ k_ ≠ gb444)) (by (with_reducible repeat (first | apply Kd.V_alloc | apply Kd.V_drewN | apply Kd.V_drew)); exact Kd.V_mono HO_2.out (fun _ hk => ⟨⟨hk.1, hk.2.2⟩, hk.2.1⟩)) hg hat); have n1_ := Aside0.mk (Kd.V_afterv (ok := (fun k_ => (P2_ k_ ∨ w.heap.size ≤ k_) ∧ k_ ≠ gb444)) (by (with_reducible repeat (first | apply Kd.V_alloc | apply Kd.V_drewN | apply Kd.V_drew)); exact Kd.V_mono HO_12.out (fun _ hk => ⟨⟨hk.1, hk.2.2⟩, hk.2.1⟩)) hg hat); have n2_ := Aside0.mk (blk_grown (g := gb444) (o := .cells #[.int .i64 a0_0, .slice A0_1 l0_1.length c0_1] 24 (0, 0)) (by (with_reducible repeat (first | refine blk_drewN ?_ _ | refine blk_drew ?_ | refine blk_alloc ?_ _)); exact BK444.out) hg (Kd.N_ne HO_15.out BK444.out (by decide))); have n3_ := Aside0.mk (Kd.V_afterv (ok := (fun k_ => (P2_ k_ ∨ w.heap.size ≤ k_) ∧ k_ ≠ gb444)) (by (with_reducible repeat (first | apply Kd.V_alloc | apply Kd.V_drewN | apply Kd.V_drew)); exact Kd.V_mono HL456_3.out (fun _ hk => ⟨⟨hk.1, hk.2.2⟩, hk.2.1⟩)) hg hat); have n4_ := Aside0.mk (Kd.V_afterv (ok := (fun k_ => (P2_ k_ ∨ w.heap.size ≤ k_) ∧ k_ ≠ gb444)) (by (with_reducible repeat (first | apply Kd.V_alloc | apply Kd.V_drewN | apply Kd.V_drew)); exact Kd.V_mono HL456_4.out (fun _ hk => ⟨⟨hk.1, hk.2.2⟩, hk.2.1⟩)) hg hat); have n5_ := Aside0.mk (hb); have n6_ := Aside0.mk (ho); clear HO_2; clear HO_12; clear BK444; clear HL456_3; clear HL456_4; clear HB; clear HO_15; have HO_2 := n0_; have HO_12 := n1_; have BK444 := n2_; have HL456_3 := n3_; have HL456_4 := n4_; have HB := n5_; have HO459 := n6_; clear n0_ n1_ n2_ n3_ n4_ n5_ n6_; clear ho hb hg hat)))
                    go_roundg k2
                    case measure => have := HJ5.out; have := HK2.out; omega
                    case rel => exact ⟨(y457), (wrap64 (x16_2 - 1)), (by first | rfl | (simp; done) | (simp [*]; done)), H', ⟨by have := HJ5.out; have := HK2.out; omega⟩, ⟨by (with_reducible repeat (first | apply Kd.V_alloc | apply Kd.V_drewN | apply Kd.V_drew)); exact Kd.V_mono HO_2.out (fun _ hk => ⟨hk.1.1, ⟨hk.2, hk.1.2⟩⟩)⟩, ⟨by (with_reducible repeat (first | apply Kd.V_alloc | apply Kd.V_drewN | apply Kd.V_drew)); exact Kd.V_mono HO_12.out (fun _ hk => ⟨hk.1.1, ⟨hk.2, hk.1.2⟩⟩)⟩, ⟨by (with_reducible repeat (first | apply Kd.N_alloc | apply Kd.N_drewN | apply Kd.N_drew)); exact HO459.out⟩, ⟨by (with_reducible repeat (first | refine blk_drewN ?_ _ | refine blk_drew ?_ | refine blk_alloc ?_ _)); exact BK444.out⟩, ⟨by repeat (first | (with_reducible first | exact HB.out | apply below_alloc | apply pw_below_drewN | apply below_drew1 | refine below_set ?_ GE444.out) | exact HB.out)⟩⟩
                  · rw [if_neg c34] at H
                    exact absurd H (by simp)
                · rw [if_neg c33] at H
                  exact absurd H (by simp)
              · rw [if_neg c32] at H
                exact absurd H (by simp)
            · rw [if_neg c31] at H
              have c31b0 : decide (0 ≤ x16_2) = false := decide_eq_false c31
              clear c31
              replace H := Option.bind_eq_some_iff.mp H
              obtain ⟨⟨t460, t461⟩, A360, H⟩ := H
              replace H : (banksmanlaw14_RivalPast.l1 k2 t445 t449 t450 t451 t454 t455 t460 t461 0 a0_0 l0_1) = some r := H
              have A36 := Aside0.mk A360
              clear A360
              have H' := Aside0.mk H
              clear H
              have hcz37_0 : wr.cell? ⟨gb444, 0, none⟩ = some (.int .i64 a0_0) := (blk_cell BK444.out 0).trans rfl
              have hcz37_1 : wr.cell? ⟨gb444, 1, none⟩ = some (.slice A0_1 l0_1.length c0_1) := (blk_cell BK444.out 1).trans rfl
              have hfz37_0 := blk_frozen BK444.out 0
              have hfz37_1 := blk_frozen BK444.out 1
              obtain ⟨Ao38, co38, eo38⟩ := Kd.N_slice HO_15.out
              subst eo38
              go_wp2_with (first | (go_at_call 12; (with_reducible refine (rival_Judge.calls a0_0 _ _ l0_1 _ _ l1 _ _ x15_2 _ _ l3 t460 t461 _ ?side1 ?side2 ?side3 ?side4 ?side5 ?side6 ?side7 ?side8 A36.out).mono ?_); (case side1 => repeat (first | exact (Kd.C_below HR0_1.out HB.out) | (with_reducible refine Kd.C_alloc ?_ _) | (with_reducible refine Kd.C_drewN ?_ _) | (with_reducible refine Kd.C_drew ?_))); (case side2 => exact HC0_1.out); (case side3 => repeat (first | exact (Kd.C_below HR1.out HB.out) | (with_reducible refine Kd.C_alloc ?_ _) | (with_reducible refine Kd.C_drewN ?_ _) | (with_reducible refine Kd.C_drew ?_))); (case side4 => exact HC1.out); (case side5 => repeat (first | exact (Kd.N_reads' HO_15.out).2.2 | (with_reducible refine Kd.C_alloc ?_ _) | (with_reducible refine Kd.C_drewN ?_ _) | (with_reducible refine Kd.C_drew ?_))); (case side6 => exact (Kd.N_reads' HO_15.out).2.1); (case side7 => repeat (first | exact (Kd.C_below HR3.out HB.out) | (with_reducible refine Kd.C_alloc ?_ _) | (with_reducible refine Kd.C_drewN ?_ _) | (with_reducible refine Kd.C_drew ?_))); (case side8 => exact HC3.out); rintro e w39 ⟨rfl, hb⟩; have n0_ := Aside0.mk (Kd.V_below (by (with_reducible repeat (first | apply Kd.V_alloc | apply Kd.V_drewN | apply Kd.V_drew)); exact HO_2.out) hb); have n1_ := Aside0.mk (Kd.V_below (by (with_reducible repeat (first | apply Kd.V_alloc | apply Kd.V_drewN | apply Kd.V_drew)); exact HO_12.out) hb); have n2_ := Aside0.mk (Kd.N_below (by (with_reducible repeat (first | apply Kd.N_alloc | apply Kd.N_drewN | apply Kd.N_drew)); exact HO_15.out) hb); have n3_ := Aside0.mk (blk_below (g := gb444) (o := .cells #[.int .i64 a0_0, .slice A0_1 l0_1.length c0_1] 24 (0, 0)) (by (with_reducible repeat (first | refine blk_drewN ?_ _ | refine blk_drew ?_ | refine blk_alloc ?_ _)); exact BK444.out) hb); have n4_ := Aside0.mk (below_step (by repeat (first | (with_reducible first | exact HB.out | apply below_alloc | apply pw_below_drewN | apply below_drew1 | refine below_set ?_ GE444.out) | exact HB.out)) hb); clear HO_2; clear HO_12; clear HO_15; clear BK444; clear HB; have HO_2 := n0_; have HO_12 := n1_; have HO_15 := n2_; have BK444 := n3_; have HB := n4_; clear n0_ n1_ n2_ n3_ n4_; (try clear hb); (try clear hb2); (try clear hk); (try clear hi)))
              repeat (go_quiet (first | (go_at_call 12; (with_reducible refine (rival_Judge.calls a0_0 _ _ l0_1 _ _ l1 _ _ x15_2 _ _ l3 t460 t461 _ ?side1 ?side2 ?side3 ?side4 ?side5 ?side6 ?side7 ?side8 A36.out).mono ?_); (case side1 => repeat (first | exact (Kd.C_below HR0_1.out HB.out) | (with_reducible refine Kd.C_alloc ?_ _) | (with_reducible refine Kd.C_drewN ?_ _) | (with_reducible refine Kd.C_drew ?_))); (case side2 => exact HC0_1.out); (case side3 => repeat (first | exact (Kd.C_below HR1.out HB.out) | (with_reducible refine Kd.C_alloc ?_ _) | (with_reducible refine Kd.C_drewN ?_ _) | (with_reducible refine Kd.C_drew ?_))); (case side4 => exact HC1.out); (case side5 => repeat (first | exact (Kd.N_reads' HO_15.out).2.2 | (with_reducible refine Kd.C_alloc ?_ _) | (with_reducible refine Kd.C_drewN ?_ _) | (with_reducible refine Kd.C_drew ?_))); (case side6 => exact (Kd.N_reads' HO_15.out).2.1); (case side7 => repeat (first | exact (Kd.C_below HR3.out HB.out) | (with_reducible refine Kd.C_alloc ?_ _) | (with_reducible refine Kd.C_drewN ?_ _) | (with_reducible refine Kd.C_drew ?_))); (case side8 => exact HC3.out); rintro e w39 ⟨rfl, hb⟩; have n0_ := Aside0.mk (Kd.V_below (by (with_reducible repeat (first | apply Kd.V_alloc | apply Kd.V_drewN | apply Kd.V_drew)); exact HO_2.out) hb); have n1_ := Aside0.mk (Kd.V_below (by (with_reducible repeat (first | apply Kd.V_alloc | apply Kd.V_drewN | apply Kd.V_drew)); exact HO_12.out) hb); have n2_ := Aside0.mk (Kd.N_below (by (with_reducible repeat (first | apply Kd.N_alloc | apply Kd.N_drewN | apply Kd.N_drew)); exact HO_15.out) hb); have n3_ := Aside0.mk (blk_below (g := gb444) (o := .cells #[.int .i64 a0_0, .slice A0_1 l0_1.length c0_1] 24 (0, 0)) (by (with_reducible repeat (first | refine blk_drewN ?_ _ | refine blk_drew ?_ | refine blk_alloc ?_ _)); exact BK444.out) hb); have n4_ := Aside0.mk (below_step (by repeat (first | (with_reducible first | exact HB.out | apply below_alloc | apply pw_below_drewN | apply below_drew1 | refine below_set ?_ GE444.out) | exact HB.out)) hb); clear HO_2; clear HO_12; clear HO_15; clear BK444; clear HB; have HO_2 := n0_; have HO_12 := n1_; have HO_15 := n2_; have BK444 := n3_; have HB := n4_; clear n0_ n1_ n2_ n3_ n4_; (try clear hb); (try clear hb2); (try clear hk); (try clear hi))); try go_wp2_with (first | (go_at_call 12; (with_reducible refine (rival_Judge.calls a0_0 _ _ l0_1 _ _ l1 _ _ x15_2 _ _ l3 t460 t461 _ ?side1 ?side2 ?side3 ?side4 ?side5 ?side6 ?side7 ?side8 A36.out).mono ?_); (case side1 => repeat (first | exact (Kd.C_below HR0_1.out HB.out) | (with_reducible refine Kd.C_alloc ?_ _) | (with_reducible refine Kd.C_drewN ?_ _) | (with_reducible refine Kd.C_drew ?_))); (case side2 => exact HC0_1.out); (case side3 => repeat (first | exact (Kd.C_below HR1.out HB.out) | (with_reducible refine Kd.C_alloc ?_ _) | (with_reducible refine Kd.C_drewN ?_ _) | (with_reducible refine Kd.C_drew ?_))); (case side4 => exact HC1.out); (case side5 => repeat (first | exact (Kd.N_reads' HO_15.out).2.2 | (with_reducible refine Kd.C_alloc ?_ _) | (with_reducible refine Kd.C_drewN ?_ _) | (with_reducible refine Kd.C_drew ?_))); (case side6 => exact (Kd.N_reads' HO_15.out).2.1); (case side7 => repeat (first | exact (Kd.C_below HR3.out HB.out) | (with_reducible refine Kd.C_alloc ?_ _) | (with_reducible refine Kd.C_drewN ?_ _) | (with_reducible refine Kd.C_drew ?_))); (case side8 => exact HC3.out); rintro e w39 ⟨rfl, hb⟩; have n0_ := Aside0.mk (Kd.V_below (by (with_reducible repeat (first | apply Kd.V_alloc | apply Kd.V_drewN | apply Kd.V_drew)); exact HO_2.out) hb); have n1_ := Aside0.mk (Kd.V_below (by (with_reducible repeat (first | apply Kd.V_alloc | apply Kd.V_drewN | apply Kd.V_drew)); exact HO_12.out) hb); have n2_ := Aside0.mk (Kd.N_below (by (with_reducible repeat (first | apply Kd.N_alloc | apply Kd.N_drewN | apply Kd.N_drew)); exact HO_15.out) hb); have n3_ := Aside0.mk (blk_below (g := gb444) (o := .cells #[.int .i64 a0_0, .slice A0_1 l0_1.length c0_1] 24 (0, 0)) (by (with_reducible repeat (first | refine blk_drewN ?_ _ | refine blk_drew ?_ | refine blk_alloc ?_ _)); exact BK444.out) hb); have n4_ := Aside0.mk (below_step (by repeat (first | (with_reducible first | exact HB.out | apply below_alloc | apply pw_below_drewN | apply below_drew1 | refine below_set ?_ GE444.out) | exact HB.out)) hb); clear HO_2; clear HO_12; clear HO_15; clear BK444; clear HB; have HO_2 := n0_; have HO_12 := n1_; have HO_15 := n2_; have BK444 := n3_; have HB := n4_; clear n0_ n1_ n2_ n3_ n4_; (try clear hb); (try clear hb2); (try clear hk); (try clear hi))))
              go_loopg [19] k2 (fun kq v19 w' => ∃ (x19_3 : Int), v19 = .int .i64 x19_3 ∧ Aside0 (banksmanlaw14_RivalPast.l1 kq t445 t449 t450 t451 t454 t455 t460 t461 x19_3 a0_0 l0_1 = some r) ∧ Aside0 (kq ≤ k2) ∧ Aside0 (Kd.V k50 50 w' w.heap.size (fun k_ => (P2_ k_ ∨ w.heap.size ≤ k_) ∧ k_ ≠ gb444) (.slice Ao29 t451.length co29) t451) ∧ Aside0 (w'.heap[gb444]? = some (.cells #[.int .i64 a0_0, (.slice A0_1 l0_1.length c0_1)] 24 (0, 0))) ∧ Aside0 (Below w.heap.size w w'))
              case atStart => exact ⟨(0), (by first | rfl | (simp; done) | (simp [*]; done)), H', ⟨Nat.le_refl _⟩, ⟨by (with_reducible repeat (first | apply Kd.V_alloc | apply Kd.V_drewN | apply Kd.V_drew)); exact Kd.V_mono HO_12.out (fun _ hk => ⟨hk.1, hk.2.2⟩)⟩, ⟨by (with_reducible repeat (first | refine blk_drewN ?_ _ | refine blk_drew ?_ | refine blk_alloc ?_ _)); exact BK444.out⟩, ⟨by repeat (first | (with_reducible first | exact HB.out | apply below_alloc | apply pw_below_drewN | apply below_drew1 | refine below_set ?_ GE444.out) | exact HB.out)⟩⟩
              case round =>
                clear H'
                try clear c1
                try clear c2
                try clear p2
                try clear c3
                try clear c4
                try clear p4
                try clear q4
                try clear hx4
                try clear p6
                try clear c7
                try clear c10
                try clear c12
                try clear c20
                try clear c31
                try clear c31b0
                try clear c32
                try clear c32b0
                try clear c33
                try clear c33b0
                try clear c34
                try clear hcz14_0
                try clear hcz14_1
                try clear hcz17_0
                try clear hcz17_1
                try clear hcz19_0
                try clear hcz19_1
                try clear hcz24_0
                try clear hcz24_1
                try clear hcz26_0
                try clear hcz26_1
                try clear hcz28_0
                try clear hcz28_1
                try clear hcz37_0
                try clear hcz37_1
                try clear hfz14_0
                try clear hfz14_1
                try clear hfz17_0
                try clear hfz17_1
                try clear hfz19_0
                try clear hfz19_1
                try clear hfz24_0
                try clear hfz24_1
                try clear hfz26_0
                try clear hfz26_1
                try clear hfz28_0
                try clear hfz28_1
                try clear hfz37_0
                try clear hfz37_1
                try clear hx456_0
                try clear hx456_1
                try clear hx456_2
                try clear hx456_3
                try clear hx456_4
                try clear hx456_5
                try clear p2
                try clear p456
                try clear p6
                try clear q456
                obtain ⟨x19_3, rfl, HA, HK3, HO_12, BK444, HB⟩ := hrel
                cases gk with
                | zero => exact absurd HA.out (by simp [banksmanlaw14_RivalPast.l1])
                | succ k3 =>
                  have H := HA.out
                  clear HA
                  simp only [banksmanlaw14_RivalPast.l1] at H
                  by_cases c40 : x19_3 < (t451.length : Int)
                  · rw [if_pos c40] at H
                    have c40b0 : decide (x19_3 < (t451.length : Int)) = true := decide_eq_true c40
                    clear c40
                    by_cases c41 : 0 ≤ x19_3
                    · rw [if_pos c41] at H
                      have c41b0 : decide (0 ≤ x19_3) = true := decide_eq_true c41
                      clear c41
                      by_cases c42 : ((rd_T50 t451 x19_3).f1) ≤ a0_0
                      · rw [if_pos c42] at H
                        have c42b0 : decide (((rd_T50 t451 x19_3).f1) ≤ a0_0) = true := decide_eq_true c42
                        clear c42
                        first
                          | exact absurd (Option.some.inj (H.trans (congrArg some HTr_))) (by decide)
                          | skip
                            obtain rfl := Option.some.inj H
                            have p462 : 0 ≤ (x19_3 : Int) := of_decide_eq_true (by first | (with_reducible assumption) | assumption)
                            have q462 : x19_3 < (t451.length : Int) := of_decide_eq_true (by first | (with_reducible assumption) | assumption)
                            obtain ⟨ad462, A462_3, c462_3, A462_4, c462_4, e462, hx462_0, hx462_1, hx462_2, hx462_3, hx462_4, hx462_5, hl462_3, hi462_3, hl462_4, hi462_4⟩ := at_T50 (Kd.V_reads' HO_12.out).2.2 x19_3 p462 q462
                            cases e462
                            obtain ⟨ce462, hce462, hMe462, hcc462⟩ := Kd.V_get HO_12.out z50 x19_3 p462 (by first | exact q462 | exact of_decide_eq_true (by first | (with_reducible assumption) | assumption) | (have e_ := (Kd.V_reads' HO_12.out).1; omega))
                            obtain ⟨ua462_3, uc462_3, ua462_4, uc462_4, rfl, ul462_3, ge462_3, ul462_4, ge462_4⟩ := k50_openF hMe462
                            have hv462_3 := hcc462 3 _ rfl
                            rw [add_field _ _ 3 (by omega)] at hv462_3
                            replace hv462_3 := Option.some.inj (hv462_3.symm.trans hx462_3)
                            injection hv462_3 with hva_ hvn_ hvc_
                            rw [hva_] at ge462_3
                            rw [hvc_] at ul462_3
                            have HL462_3 := Aside0.mk (show Kd.V k57 57 _ w.heap.size _ _ ((rd_T50 t451 x19_3).f3) from Kd.V_mk ul462_3 ge462_3)
                            clear hva_ hvn_ hvc_ ge462_3 ul462_3
                            have hv462_4 := hcc462 4 _ rfl
                            rw [add_field _ _ 4 (by omega)] at hv462_4
                            replace hv462_4 := Option.some.inj (hv462_4.symm.trans hx462_4)
                            injection hv462_4 with hva_ hvn_ hvc_
                            rw [hva_] at ge462_4
                            rw [hvc_] at ul462_4
                            have HL462_4 := Aside0.mk (show Kd.V k59 59 _ w.heap.size _ _ ((rd_T50 t451 x19_3).f4) from Kd.V_mk ul462_4 ge462_4)
                            clear hva_ hvn_ hvc_ ge462_4 ul462_4
                            clear hcc462 hce462
                            have HR462_3 := Aside0.mk hi462_3
                            have HC462_3 := Aside0.mk hl462_3
                            clear hi462_3 hl462_3
                            have HR462_4 := Aside0.mk hi462_4
                            have HC462_4 := Aside0.mk hl462_4
                            clear hi462_4 hl462_4
                            replace p462 := eq_true p462
                            replace q462 := eq_true q462
                            have hcz43_0 : wr.cell? ⟨gb444, 0, none⟩ = some (.int .i64 a0_0) := (blk_cell BK444.out 0).trans rfl
                            have hcz43_1 : wr.cell? ⟨gb444, 1, none⟩ = some (.slice A0_1 l0_1.length c0_1) := (blk_cell BK444.out 1).trans rfl
                            have hfz43_0 := blk_frozen BK444.out 0
                            have hfz43_1 := blk_frozen BK444.out 1
                            go_wp2
                            repeat (go_quiet (fail); try go_wp2)
                            go_ret
                            exact ⟨by first | rfl | (simp [errW_none, errW_some] <;> rfl) | (simp [*, errW_none, errW_some] <;> rfl), by repeat (first | (with_reducible first | exact HB.out | apply below_alloc | apply pw_below_drewN | apply below_drew1 | refine below_set ?_ GE444.out) | exact HB.out)⟩
                      · rw [if_neg c42] at H
                        have c42b0 : decide (((rd_T50 t451 x19_3).f1) ≤ a0_0) = false := decide_eq_false c42
                        clear c42
                        have H' := Aside0.mk H
                        clear H
                        have p462 : 0 ≤ (x19_3 : Int) := of_decide_eq_true (by first | (with_reducible assumption) | assumption)
                        have q462 : x19_3 < (t451.length : Int) := of_decide_eq_true (by first | (with_reducible assumption) | assumption)
                        obtain ⟨ad462, A462_3, c462_3, A462_4, c462_4, e462, hx462_0, hx462_1, hx462_2, hx462_3, hx462_4, hx462_5, hl462_3, hi462_3, hl462_4, hi462_4⟩ := at_T50 (Kd.V_reads' HO_12.out).2.2 x19_3 p462 q462
                        cases e462
                        obtain ⟨ce462, hce462, hMe462, hcc462⟩ := Kd.V_get HO_12.out z50 x19_3 p462 (by first | exact q462 | exact of_decide_eq_true (by first | (with_reducible assumption) | assumption) | (have e_ := (Kd.V_reads' HO_12.out).1; omega))
                        obtain ⟨ua462_3, uc462_3, ua462_4, uc462_4, rfl, ul462_3, ge462_3, ul462_4, ge462_4⟩ := k50_openF hMe462
                        have hv462_3 := hcc462 3 _ rfl
                        rw [add_field _ _ 3 (by omega)] at hv462_3
                        replace hv462_3 := Option.some.inj (hv462_3.symm.trans hx462_3)
                        injection hv462_3 with hva_ hvn_ hvc_
                        rw [hva_] at ge462_3
                        rw [hvc_] at ul462_3
                        have HL462_3 := Aside0.mk (show Kd.V k57 57 _ w.heap.size _ _ ((rd_T50 t451 x19_3).f3) from Kd.V_mk ul462_3 ge462_3)
                        clear hva_ hvn_ hvc_ ge462_3 ul462_3
                        have hv462_4 := hcc462 4 _ rfl
                        rw [add_field _ _ 4 (by omega)] at hv462_4
                        replace hv462_4 := Option.some.inj (hv462_4.symm.trans hx462_4)
                        injection hv462_4 with hva_ hvn_ hvc_
                        rw [hva_] at ge462_4
                        rw [hvc_] at ul462_4
                        have HL462_4 := Aside0.mk (show Kd.V k59 59 _ w.heap.size _ _ ((rd_T50 t451 x19_3).f4) from Kd.V_mk ul462_4 ge462_4)
                        clear hva_ hvn_ hvc_ ge462_4 ul462_4
                        clear hcc462 hce462
                        have HR462_3 := Aside0.mk hi462_3
                        have HC462_3 := Aside0.mk hl462_3
                        clear hi462_3 hl462_3
                        have HR462_4 := Aside0.mk hi462_4
                        have HC462_4 := Aside0.mk hl462_4
                        clear hi462_4 hl462_4
                        replace p462 := eq_true p462
                        replace q462 := eq_true q462
                        have hcz44_0 : wr.cell? ⟨gb444, 0, none⟩ = some (.int .i64 a0_0) := (blk_cell BK444.out 0).trans rfl
                        have hcz44_1 : wr.cell? ⟨gb444, 1, none⟩ = some (.slice A0_1 l0_1.length c0_1) := (blk_cell BK444.out 1).trans rfl
                        have hfz44_0 := blk_frozen BK444.out 0
                        have hfz44_1 := blk_frozen BK444.out 1
                        go_wp2
                        repeat (go_quiet (fail); try go_wp2)
                        go_roundg k3
                        case measure => have := HJ5.out; have := HK2.out; have := HK3.out; omega
                        case rel => exact ⟨(wrap64 (x19_3 + 1)), (by first | rfl | (simp; done) | (simp [*]; done)), H', ⟨by have := HJ5.out; have := HK2.out; have := HK3.out; omega⟩, ⟨by (with_reducible repeat (first | apply Kd.V_alloc | apply Kd.V_drewN | apply Kd.V_drew)); exact HO_12.out⟩, ⟨by (with_reducible repeat (first | refine blk_drewN ?_ _ | refine blk_drew ?_ | refine blk_alloc ?_ _)); exact BK444.out⟩, ⟨by repeat (first | (with_reducible first | exact HB.out | apply below_alloc | apply pw_below_drewN | apply below_drew1 | refine below_set ?_ GE444.out) | exact HB.out)⟩⟩
                    · rw [if_neg c41] at H
                      exact absurd H (by simp)
                  · rw [if_neg c40] at H
                    have c40b0 : decide (x19_3 < (t451.length : Int)) = false := decide_eq_false c40
                    clear c40
                    by_cases c45 : t445 = true
                    · subst c45
                      have H1 : (if (t449 == t454) = true then (if t450 = t455 then (if (t449 == t460) = true then (some (t450 == t461)) else (some false)) else (some false)) else (some false)) = some r := by rw [if_pos rfl] at H; exact H
                      clear H
                      have H := H1
                      clear H1
                      by_cases c46 : (t449 == t454) = true
                      · rw [if_pos c46] at H
                        have c46b0 : (t449 == t454) = true := c46
                        (try (have c46b1 : decide (t449 = t454) = true := by simpa using c46))
                        (try (have c46b2 : (t449 == t454) = true := by simpa using c46))
                        clear c46
                        by_cases c47 : t450 = t455
                        · rw [if_pos c47] at H
                          have c47b0 : (t450 == t455) = true := beq_iff_eq.mpr c47
                          have c47b1 : (t450 != t455) = false := bne_eq_false_iff_eq.mpr c47
                          clear c47
                          by_cases c48 : (t449 == t460) = true
                          · rw [if_pos c48] at H
                            have c48b0 : (t449 == t460) = true := c48
                            (try (have c48b1 : decide (t449 = t460) = true := by simpa using c48))
                            (try (have c48b2 : (t449 == t460) = true := by simpa using c48))
                            clear c48
                            obtain rfl := Option.some.inj H
                            go_wp2
                            repeat (go_quiet (fail); try go_wp2)
                            go_ret
                            exact ⟨by first | rfl | (simp [errW_none, errW_some] <;> rfl) | (simp [*, errW_none, errW_some] <;> rfl), by repeat (first | (with_reducible first | exact HB.out | apply below_alloc | apply pw_below_drewN | apply below_drew1 | refine below_set ?_ GE444.out) | exact HB.out)⟩
                          · rw [if_neg c48] at H
                            rw [HTr_] at H
                            exact absurd (Option.some.inj H) (by decide)
                        · rw [if_neg c47] at H
                          rw [HTr_] at H
                          exact absurd (Option.some.inj H) (by decide)
                      · rw [if_neg c46] at H
                        rw [HTr_] at H
                        exact absurd (Option.some.inj H) (by decide)
                    · replace c45 := Bool.eq_false_iff.mpr c45
                      subst c45
                      have H1 : (some false) = some r := by rw [if_neg (show ¬ (false = true) by decide)] at H; exact H
                      rw [HTr_] at H1
                      exact absurd (Option.some.inj H1) (by decide)

/-- The law, plainly. -/
def banksmanlaw14_RivalPast.Pure : Prop := ∀ (a0_0 : Int) (l0_1 : List (S57)) (l1 : List (S59)) (l2 : List (S50)) (l3 : List (S24)), (fun n_ : Int => (Lit.int .i64 n_).wf = true) a0_0 → (fun xs_ : List (S57) => xs_.length ≤ maxLen ∧ ∀ x ∈ xs_, (fun x_ : S57 => (fun n_ : Int => (Lit.int .i64 n_).wf = true) x_.f0 ∧ (fun xs_ : List Int => xs_.length ≤ maxLen ∧ ∀ x ∈ xs_, (fun n_ : Int => (Lit.int .u8 n_).wf = true) x) x_.f1 ∧ (fun xs_ : List Int => xs_.length ≤ maxLen ∧ ∀ x ∈ xs_, (fun n_ : Int => (Lit.int .u8 n_).wf = true) x) x_.f2 ∧ (fun _ : Bool => True) x_.f3) x) l0_1 → (fun xs_ : List (S59) => xs_.length ≤ maxLen ∧ ∀ x ∈ xs_, (fun x_ : S59 => (fun n_ : Int => (Lit.int .i64 n_).wf = true) x_.f0 ∧ (fun xs_ : List Int => xs_.length ≤ maxLen ∧ ∀ x ∈ xs_, (fun n_ : Int => (Lit.int .u8 n_).wf = true) x) x_.f1 ∧ (fun _ : Bool => True) x_.f2 ∧ (fun xs_ : List Int => xs_.length ≤ maxLen ∧ ∀ x ∈ xs_, (fun n_ : Int => (Lit.int .u8 n_).wf = true) x) x_.f3) x) l1 → (fun xs_ : List (S50) => xs_.length ≤ maxLen ∧ ∀ x ∈ xs_, (fun x_ : S50 => (fun n_ : Int => (Lit.int .i64 n_).wf = true) x_.f0 ∧ (fun n_ : Int => (Lit.int .i64 n_).wf = true) x_.f1 ∧ (fun _ : Bool => True) x_.f2 ∧ (fun xs_ : List (S57) => xs_.length ≤ maxLen ∧ ∀ x ∈ xs_, (fun x_ : S57 => (fun n_ : Int => (Lit.int .i64 n_).wf = true) x_.f0 ∧ (fun xs_ : List Int => xs_.length ≤ maxLen ∧ ∀ x ∈ xs_, (fun n_ : Int => (Lit.int .u8 n_).wf = true) x) x_.f1 ∧ (fun xs_ : List Int => xs_.length ≤ maxLen ∧ ∀ x ∈ xs_, (fun n_ : Int => (Lit.int .u8 n_).wf = true) x) x_.f2 ∧ (fun _ : Bool => True) x_.f3) x) x_.f3 ∧ (fun xs_ : List (S59) => xs_.length ≤ maxLen ∧ ∀ x ∈ xs_, (fun x_ : S59 => (fun n_ : Int => (Lit.int .i64 n_).wf = true) x_.f0 ∧ (fun xs_ : List Int => xs_.length ≤ maxLen ∧ ∀ x ∈ xs_, (fun n_ : Int => (Lit.int .u8 n_).wf = true) x) x_.f1 ∧ (fun _ : Bool => True) x_.f2 ∧ (fun xs_ : List Int => xs_.length ≤ maxLen ∧ ∀ x ∈ xs_, (fun n_ : Int => (Lit.int .u8 n_).wf = true) x) x_.f3) x) x_.f4 ∧ (fun _ : Bool => True) x_.f5) x) l2 → (fun xs_ : List (S24) => xs_.length ≤ maxLen ∧ ∀ x ∈ xs_, (fun x_ : S24 => (fun n_ : Int => (Lit.int .i64 n_).wf = true) x_.f0 ∧ (fun xs_ : List (S57) => xs_.length ≤ maxLen ∧ ∀ x ∈ xs_, (fun x_ : S57 => (fun n_ : Int => (Lit.int .i64 n_).wf = true) x_.f0 ∧ (fun xs_ : List Int => xs_.length ≤ maxLen ∧ ∀ x ∈ xs_, (fun n_ : Int => (Lit.int .u8 n_).wf = true) x) x_.f1 ∧ (fun xs_ : List Int => xs_.length ≤ maxLen ∧ ∀ x ∈ xs_, (fun n_ : Int => (Lit.int .u8 n_).wf = true) x) x_.f2 ∧ (fun _ : Bool => True) x_.f3) x) x_.f1) x) l3 → ∃ k, banksmanlaw14_RivalPast.f k a0_0 l0_1 l1 l2 l3 = some true

end Go.Proofs.Ytpoaleejhdeclaa.P
