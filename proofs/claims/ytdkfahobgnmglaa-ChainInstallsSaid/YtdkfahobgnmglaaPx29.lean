-- Written by wip/gprint.py, a program of this session over the kit's print; Lean checks it.
import Derived.Test.YtdkfahobgnmglaaPx0
import Derived.Test.YtdkfahobgnmglaaPx10
import Derived.Test.YtdkfahobgnmglaaPx13
import Derived.Test.YtdkfahobgnmglaaPx15
import Derived.Test.YtdkfahobgnmglaaPx16
import Derived.Test.YtdkfahobgnmglaaPx17
import Derived.Test.YtdkfahobgnmglaaPx24
namespace Go.Proofs.Ytdkfahobgnmglaa.P
open Go.RowKit Go.Proofs.YtdkfahobgnmglaaW.PrintWords Go.Proofs.YtdkfahobgnmglaaW.PrintLast Go.Proofs.YtdkfahobgnmglaaW.PrintMore
attribute [local go_sem] max2_int min2_int max_two min_two max_three min_three max_four min_four   -- for this text's walks alone
set_option linter.unusedVariables false
set_option linter.unusedSimpArgs false

/-! ### banksmanlaw05_ChainInstalls: function 5 -/
def banksmanlaw05_ChainInstalls.j0 : Nat → List (S25) → Int → Bool → Bool → Int → Bool → List Int → Option (Bool)
  | 0, _, _, _, _, _, _, _ => none
  | k + 1, x0, x2, x7, x24, x345000, x345001, x345002 => if x24 = true then (some x7) else ((chain_Install.f k x0 x345000 x345001 x345002).bind fun bt347 => (if bt347.2 = 0 then ((chain_Read.f k bt347.1 x2).bind fun bt352 => ((chain_Read.f k x0 x2).bind fun bt356 => (if x2 ≥ x345000 then (if x7 = true then (if (bt352.2 == (!x345001)) = true then (if bt352.2 = true then (if (strOfNums bt352.1).toList = (strOfNums x345002).toList then ((chain_Newer.f k bt347.1 x2).bind fun t360 => (if t360 = true then (some false) else ((chain_Newer.f k bt347.1 (wrap64 (x345000 - 1))).bind fun t361 => (some t361)))) else (some false)) else ((chain_Newer.f k bt347.1 x2).bind fun t362 => (if t362 = true then (some false) else ((chain_Newer.f k bt347.1 (wrap64 (x345000 - 1))).bind fun t363 => (some t363))))) else (some false)) else (some false)) else (if x7 = true then (if (bt352.2 == bt356.2) = true then (if (strOfNums bt352.1).toList = (strOfNums bt356.1).toList then ((chain_Newer.f k bt347.1 x2).bind fun t364 => (some t364)) else (some false)) else (some false)) else (some false))))) else ((banksmanref05_Same.f k bt347.1 x0).bind fun t351 => (if x7 = true then (some t351) else (some false)))))
def banksmanlaw05_ChainInstalls.f (k : Nat) (l0 : List (S25)) (a1_0 : Int) (a1_1 : Bool) (l1_2 : List Int) (a2 : Int) : Option (Bool) := (banksmanlaw05_awake.f k).bind fun t345 => ((banksmanlaw05_few.f k l0).bind fun t346 => (if t346 = true then (banksmanlaw05_ChainInstalls.j0 k l0 a2 t345 (decide ((l1_2.length : Int) > 100)) a1_0 a1_1 l1_2) else (banksmanlaw05_ChainInstalls.j0 k l0 a2 t345 true a1_0 a1_1 l1_2)))
theorem banksmanlaw05_ChainInstalls.mono_l : ∀ k, (∀ y0 y1 y2 y3 y4 y5 y6, LeO (banksmanlaw05_ChainInstalls.j0 k y0 y1 y2 y3 y4 y5 y6) (banksmanlaw05_ChainInstalls.j0 (k + 1) y0 y1 y2 y3 y4 y5 y6))
  | 0 => fun _ _ _ _ _ _ _ r h => by simp [banksmanlaw05_ChainInstalls.j0] at h
  | k + 1 => by
    have ih0 := banksmanlaw05_ChainInstalls.mono_l k
    · intro y0 y1 y2 y3 y4 y5 y6
      unfold banksmanlaw05_ChainInstalls.j0
      repeat' first
      | (with_reducible exact ih0 _ _ _ _ _ _ _)
      | (with_reducible exact banksmanlaw05_awake.mono _)
      | (with_reducible exact banksmanlaw05_few.mono _ _)
      | (with_reducible exact banksmanref05_Same.mono _ _ _)
      | (with_reducible exact chain_Install.mono _ _ _ _ _)
      | (with_reducible exact chain_Newer.mono _ _ _)
      | (with_reducible exact chain_Read.mono _ _ _)
      | (with_reducible exact LeO.refl _)
      | (with_reducible exact LeO.none _)
      | (with_reducible refine LeO.ite ?_ ?_)
      | (with_reducible refine LeO.bind ?_ (fun _ => ?_))
      | exact ih0 _ _ _ _ _ _ _
      | exact banksmanlaw05_awake.mono _
      | exact banksmanlaw05_few.mono _ _
      | exact banksmanref05_Same.mono _ _ _
      | exact chain_Install.mono _ _ _ _ _
      | exact chain_Newer.mono _ _ _
      | exact chain_Read.mono _ _ _
      | exact LeO.none _
      | refine LeO.ite ?_ ?_
      | refine LeO.bind ?_ (fun _ => ?_)
theorem banksmanlaw05_ChainInstalls.mono : ∀ a0 a1 a2 a3 a4 k, LeO (banksmanlaw05_ChainInstalls.f k a0 a1 a2 a3 a4) (banksmanlaw05_ChainInstalls.f (k + 1) a0 a1 a2 a3 a4) := by
  intro a0 a1 a2 a3 a4 k
  have ih0 := banksmanlaw05_ChainInstalls.mono_l k
  unfold banksmanlaw05_ChainInstalls.f
  repeat' first
      | (with_reducible exact ih0 _ _ _ _ _ _ _)
      | (with_reducible exact banksmanlaw05_awake.mono _)
      | (with_reducible exact banksmanlaw05_few.mono _ _)
      | (with_reducible exact banksmanref05_Same.mono _ _ _)
      | (with_reducible exact chain_Install.mono _ _ _ _ _)
      | (with_reducible exact chain_Newer.mono _ _ _)
      | (with_reducible exact chain_Read.mono _ _ _)
      | (with_reducible exact LeO.refl _)
      | (with_reducible exact LeO.none _)
      | (with_reducible refine LeO.ite ?_ ?_)
      | (with_reducible refine LeO.bind ?_ (fun _ => ?_))
      | exact ih0 _ _ _ _ _ _ _
      | exact banksmanlaw05_awake.mono _
      | exact banksmanlaw05_few.mono _ _
      | exact banksmanref05_Same.mono _ _ _
      | exact chain_Install.mono _ _ _ _ _
      | exact chain_Newer.mono _ _ _
      | exact chain_Read.mono _ _ _
      | exact LeO.none _
      | refine LeO.ite ?_ ?_
      | refine LeO.bind ?_ (fun _ => ?_)
set_option maxHeartbeats 8000000 in
set_option maxRecDepth 100000 in
theorem banksmanlaw05_ChainInstalls.calls (k : Nat) (A0 : Option Addr) (c0 : Nat) (l0 : List (S25)) (a1_0 : Int) (a1_1 : Bool) (A1_2 : Option Addr) (c1_2 : Nat) (l1_2 : List Int) (a2 : Int) (r : Bool) (w : World) (hr0 : Kd.C k25 w A0 l0.length l0) (hc0 : l0.length ≤ c0) (hr1_2 : Kd.C (Kd.int .u8) w A1_2 l1_2.length l1_2) (hc1_2 : l1_2.length ≤ c1_2) (h : banksmanlaw05_ChainInstalls.f k l0 a1_0 a1_1 l1_2 a2 = some r) (HTr_ : r = true) :
    Calls Try.prog 5 #[.slice A0 l0.length c0, .agg #[.int .i64 a1_0, .bool a1_1, .slice A1_2 l1_2.length c1_2], .int .i64 a2] w fun e w' => e = .returned (.bool r) ∧ Below w.heap.size w w' := by
  have hu25 := Try.underlying25
  have HR0 := Aside0.mk hr0
  have HC0 := Aside0.mk hc0
  clear hr0 hc0
  have HR1_2 := Aside0.mk hr1_2
  have HC1_2 := Aside0.mk hc1_2
  clear hr1_2 hc1_2
  have HB := Aside0.mk (Below.refl w.heap.size w)
  have H : ((banksmanlaw05_awake.f k).bind fun t345 => ((banksmanlaw05_few.f k l0).bind fun t346 => (if t346 = true then (banksmanlaw05_ChainInstalls.j0 k l0 a2 t345 (decide ((l1_2.length : Int) > 100)) a1_0 a1_1 l1_2) else (banksmanlaw05_ChainInstalls.j0 k l0 a2 t345 true a1_0 a1_1 l1_2)))) = some r := h
  clear h
  replace H := Option.bind_eq_some_iff.mp H
  obtain ⟨t345, A40, H⟩ := H
  replace H : ((banksmanlaw05_few.f k l0).bind fun t346 => (if t346 = true then (banksmanlaw05_ChainInstalls.j0 k l0 a2 t345 (decide ((l1_2.length : Int) > 100)) a1_0 a1_1 l1_2) else (banksmanlaw05_ChainInstalls.j0 k l0 a2 t345 true a1_0 a1_1 l1_2))) = some r := H
  have A4 := Aside0.mk A40
  clear A40
  have HC5 := Aside0.mk H
  clear H
  go_enter Try.func5, Try.ntmps5
  go_upto_region 2 with (first | ((with_reducible refine gate_dst (N := 4) rfl ?_); (try (refine gate_guard (by rfl) ?_; dsimp only)); refine box_event ?hg (N := 4) ?hd (cs := #[.int .i64 a1_0, .bool a1_1, .slice A1_2 l1_2.length c1_2]) (t := 25) ?hr ?_; (case hd => rfl); (case hg => rfl); (case hr => first | (go_simp; done) | (go_simp; rfl)); intro gb344 hg w6 hbox hb; have n0_ := Aside0.mk (below_step (by repeat (first | (with_reducible first | exact HB.out | apply below_alloc | apply pw_below_drewN | apply below_drew1) | exact HB.out)) hb); have n1_ := Aside0.mk (hbox); have n2_ := Aside0.mk ((by rw [hg]; exact (below_size (by repeat (first | (with_reducible first | exact HB.out | apply below_alloc | apply pw_below_drewN | apply below_drew1) | exact HB.out))) : w.heap.size ≤ gb344)); have n3_ := Aside0.mk ((by rw [hg]; exact (below_size (by repeat (first | (with_reducible first | exact HB.out | apply below_alloc | apply pw_below_drewN | apply below_drew1) | exact HB.out))) : w.heap.size ≤ gb344)); clear HB; have HB := n0_; have BK344 := n1_; have GW344 := n2_; have GE344 := n3_; clear n0_ n1_ n2_ n3_; clear hb hbox hg) | ((with_reducible refine gate_callee (f := 10) rfl ?_); refine goesL_ (some 15) rfl rfl Try.func10 (by kernel_rfl) rfl #[] rfl (by (try simp only [List.map_toArray, List.map_cons, List.map_nil]); first | done | rfl | (simp only [List.length_drop, List.length_take]; rfl)) ?_; (with_reducible refine (banksmanlaw05_awake.calls k  t345 _ A4.out).mono ?_); rintro e w7 ⟨rfl, hb⟩; refine ⟨_, rfl, ?_⟩; have n0_ := Aside0.mk (blk_below (g := gb344) (o := .cells #[.int .i64 a1_0, .bool a1_1, .slice A1_2 l1_2.length c1_2] 25 (0, 0)) (by (with_reducible repeat (first | refine blk_drewN ?_ _ | refine blk_drew ?_ | refine blk_alloc ?_ _)); exact BK344.out) hb); have n1_ := Aside0.mk (below_step (by repeat (first | (with_reducible first | exact HB.out | apply below_alloc | apply pw_below_drewN | apply below_drew1 | refine below_set ?_ GE344.out) | exact HB.out)) hb); clear BK344; clear HB; have BK344 := n0_; have HB := n1_; clear n0_ n1_; (try clear hb); (try clear hb2); (try clear hk); (try clear hi)))
  (try simp only [Act.put, List.setIfInBounds_toArray, List.set_cons_zero, List.set_cons_succ])
  go_cut [24] (fun v24 wc => ∃ (kq : Nat) (x24_4 : Bool), v24 = .bool x24_4 ∧ Aside0 (banksmanlaw05_ChainInstalls.j0 kq l0 a2 t345 x24_4 a1_0 a1_1 l1_2 = some r) ∧ Aside0 (kq ≤ k) ∧ Aside0 (wc.heap[gb344]? = some (.cells #[.int .i64 a1_0, .bool a1_1, (.slice A1_2 l1_2.length c1_2)] 25 (0, 0))) ∧ Aside0 (Below w.heap.size w wc))
  case first =>
    have H := HC5.out
    clear HC5
    replace H := Option.bind_eq_some_iff.mp H
    obtain ⟨t346, A80, H⟩ := H
    replace H : (if t346 = true then (banksmanlaw05_ChainInstalls.j0 k l0 a2 t345 (decide ((l1_2.length : Int) > 100)) a1_0 a1_1 l1_2) else (banksmanlaw05_ChainInstalls.j0 k l0 a2 t345 true a1_0 a1_1 l1_2)) = some r := H
    have A8 := Aside0.mk A80
    clear A80
    by_cases c9 : t346 = true
    · subst c9
      have H1 : (banksmanlaw05_ChainInstalls.j0 k l0 a2 t345 (decide ((l1_2.length : Int) > 100)) a1_0 a1_1 l1_2) = some r := by rw [if_pos rfl] at H; exact H
      clear H
      have H := H1
      clear H1
      have H' := Aside0.mk H
      clear H
      go_wp2_with (first | ((with_reducible refine gate_callee (f := 11) rfl ?_); refine goesL_ (some 17) rfl rfl Try.func11 (by kernel_rfl) rfl #[.slice A0 l0.length c0] rfl (by (try simp only [List.map_toArray, List.map_cons, List.map_nil]); first | done | rfl | (simp only [List.length_drop, List.length_take]; rfl)) ?_; (with_reducible refine (banksmanlaw05_few.calls k _ _ l0 true _ ?side1 ?side2 A8.out).mono ?_); (case side1 => repeat (first | exact (Kd.C_below HR0.out HB.out) | (with_reducible refine Kd.C_alloc ?_ _) | (with_reducible refine Kd.C_drewN ?_ _) | (with_reducible refine Kd.C_drew ?_))); (case side2 => exact HC0.out); rintro e w' ⟨rfl, ⟨nd, rfl⟩⟩; refine ⟨_, rfl, ?_⟩; have hcz10_0 : w7.cell? ⟨gb344, 0, none⟩ = some (.int .i64 a1_0) := (blk_cell BK344.out 0).trans rfl; have hcz10_1 : w7.cell? ⟨gb344, 1, none⟩ = some (.bool a1_1) := (blk_cell BK344.out 1).trans rfl; have hcz10_2 : w7.cell? ⟨gb344, 2, none⟩ = some (.slice A1_2 l1_2.length c1_2) := (blk_cell BK344.out 2).trans rfl; have hfz10_0 := blk_frozen BK344.out 0; have hfz10_1 := blk_frozen BK344.out 1; have hfz10_2 := blk_frozen BK344.out 2))
      go_meet
      case rel => exact ⟨_, (decide ((l1_2.length : Int) > 100)), (by first | rfl | (simp; done) | (simp [*]; done)), H', ⟨by first | omega | exact Nat.le_refl _⟩, ⟨by (with_reducible repeat (first | refine blk_drewN ?_ _ | refine blk_drew ?_ | refine blk_alloc ?_ _)); exact BK344.out⟩, ⟨by repeat (first | (with_reducible first | exact HB.out | apply below_alloc | apply pw_below_drewN | apply below_drew1 | refine below_set ?_ GE344.out) | exact HB.out)⟩⟩
    · replace c9 := Bool.eq_false_iff.mpr c9
      subst c9
      have H1 : (banksmanlaw05_ChainInstalls.j0 k l0 a2 t345 true a1_0 a1_1 l1_2) = some r := by rw [if_neg (show ¬ (false = true) by decide)] at H; exact H
      clear H
      have H := H1
      clear H1
      have H' := Aside0.mk H
      clear H
      go_wp2_with (first | ((with_reducible refine gate_callee (f := 11) rfl ?_); refine goesL_ (some 17) rfl rfl Try.func11 (by kernel_rfl) rfl #[.slice A0 l0.length c0] rfl (by (try simp only [List.map_toArray, List.map_cons, List.map_nil]); first | done | rfl | (simp only [List.length_drop, List.length_take]; rfl)) ?_; (with_reducible refine (banksmanlaw05_few.calls k _ _ l0 false _ ?side1 ?side2 A8.out).mono ?_); (case side1 => repeat (first | exact (Kd.C_below HR0.out HB.out) | (with_reducible refine Kd.C_alloc ?_ _) | (with_reducible refine Kd.C_drewN ?_ _) | (with_reducible refine Kd.C_drew ?_))); (case side2 => exact HC0.out); rintro e w' ⟨rfl, ⟨nd, rfl⟩⟩; refine ⟨_, rfl, ?_⟩))
      go_meet
      case rel => exact ⟨_, (true), (by first | rfl | (simp; done) | (simp [*]; done)), H', ⟨by first | omega | exact Nat.le_refl _⟩, ⟨by (with_reducible repeat (first | refine blk_drewN ?_ _ | refine blk_drew ?_ | refine blk_alloc ?_ _)); exact BK344.out⟩, ⟨by repeat (first | (with_reducible first | exact HB.out | apply below_alloc | apply pw_below_drewN | apply below_drew1 | refine below_set ?_ GE344.out) | exact HB.out)⟩⟩
  case rest =>
    clear HC5
    try clear c1
    try clear p2
    try clear c5
    try clear c9
    try clear c10
    try clear hcz10_0
    try clear hcz10_1
    try clear hcz10_2
    try clear hfz10_0
    try clear hfz10_1
    try clear hfz10_2
    obtain ⟨kq, x24_4, rfl, HA, HJ4, BK344, HB⟩ := hcut
    cases kq with
    | zero => exact absurd HA.out (by simp [banksmanlaw05_ChainInstalls.j0])
    | succ kj4 =>
      have H := HA.out
      clear HA
      simp only [banksmanlaw05_ChainInstalls.j0] at H
      by_cases c11 : x24_4 = true
      · subst c11
        have H1 : (some t345) = some r := by rw [if_pos rfl] at H; exact H
        clear H
        have H := H1
        clear H1
        obtain rfl := Option.some.inj H
        go_wp2
        go_ret
        exact ⟨by first | rfl | (simp [errW_none, errW_some] <;> rfl) | (simp [*, errW_none, errW_some] <;> rfl), by repeat (first | (with_reducible first | exact HB.out | apply below_alloc | apply pw_below_drewN | apply below_drew1 | refine below_set ?_ GE344.out) | exact HB.out)⟩
      · replace c11 := Bool.eq_false_iff.mpr c11
        subst c11
        have H1 : ((chain_Install.f kj4 l0 a1_0 a1_1 l1_2).bind fun bt347 => (if bt347.2 = 0 then ((chain_Read.f kj4 bt347.1 a2).bind fun bt352 => ((chain_Read.f kj4 l0 a2).bind fun bt356 => (if a2 ≥ a1_0 then (if t345 = true then (if (bt352.2 == (!a1_1)) = true then (if bt352.2 = true then (if (strOfNums bt352.1).toList = (strOfNums l1_2).toList then ((chain_Newer.f kj4 bt347.1 a2).bind fun t360 => (if t360 = true then (some false) else ((chain_Newer.f kj4 bt347.1 (wrap64 (a1_0 - 1))).bind fun t361 => (some t361)))) else (some false)) else ((chain_Newer.f kj4 bt347.1 a2).bind fun t362 => (if t362 = true then (some false) else ((chain_Newer.f kj4 bt347.1 (wrap64 (a1_0 - 1))).bind fun t363 => (some t363))))) else (some false)) else (some false)) else (if t345 = true then (if (bt352.2 == bt356.2) = true then (if (strOfNums bt352.1).toList = (strOfNums bt356.1).toList then ((chain_Newer.f kj4 bt347.1 a2).bind fun t364 => (some t364)) else (some false)) else (some false)) else (some false))))) else ((banksmanref05_Same.f kj4 bt347.1 l0).bind fun t351 => (if t345 = true then (some t351) else (some false))))) = some r := by rw [if_neg (show ¬ (false = true) by decide)] at H; exact H
        clear H
        have H := H1
        clear H1
        replace H := Option.bind_eq_some_iff.mp H
        obtain ⟨⟨t347, t350⟩, A120, H⟩ := H
        replace H : (if t350 = 0 then ((chain_Read.f kj4 t347 a2).bind fun bt352 => ((chain_Read.f kj4 l0 a2).bind fun bt356 => (if a2 ≥ a1_0 then (if t345 = true then (if (bt352.2 == (!a1_1)) = true then (if bt352.2 = true then (if (strOfNums bt352.1).toList = (strOfNums l1_2).toList then ((chain_Newer.f kj4 t347 a2).bind fun t360 => (if t360 = true then (some false) else ((chain_Newer.f kj4 t347 (wrap64 (a1_0 - 1))).bind fun t361 => (some t361)))) else (some false)) else ((chain_Newer.f kj4 t347 a2).bind fun t362 => (if t362 = true then (some false) else ((chain_Newer.f kj4 t347 (wrap64 (a1_0 - 1))).bind fun t363 => (some t363))))) else (some false)) else (some false)) else (if t345 = true then (if (bt352.2 == bt356.2) = true then (if (strOfNums bt352.1).toList = (strOfNums bt356.1).toList then ((chain_Newer.f kj4 t347 a2).bind fun t364 => (some t364)) else (some false)) else (some false)) else (some false))))) else ((banksmanref05_Same.f kj4 t347 l0).bind fun t351 => (if t345 = true then (some t351) else (some false)))) = some r := H
        have A12 := Aside0.mk A120
        clear A120
        by_cases c13 : t350 = 0
        · rw [if_pos c13] at H
          have c13b0 : (t350 == 0) = true := beq_iff_eq.mpr c13
          have c13b1 : (t350 != 0) = false := bne_eq_false_iff_eq.mpr c13
          clear c13
          replace H := Option.bind_eq_some_iff.mp H
          obtain ⟨⟨t352, t353⟩, A140, H⟩ := H
          replace H : ((chain_Read.f kj4 l0 a2).bind fun bt356 => (if a2 ≥ a1_0 then (if t345 = true then (if (t353 == (!a1_1)) = true then (if t353 = true then (if (strOfNums t352).toList = (strOfNums l1_2).toList then ((chain_Newer.f kj4 t347 a2).bind fun t360 => (if t360 = true then (some false) else ((chain_Newer.f kj4 t347 (wrap64 (a1_0 - 1))).bind fun t361 => (some t361)))) else (some false)) else ((chain_Newer.f kj4 t347 a2).bind fun t362 => (if t362 = true then (some false) else ((chain_Newer.f kj4 t347 (wrap64 (a1_0 - 1))).bind fun t363 => (some t363))))) else (some false)) else (some false)) else (if t345 = true then (if (t353 == bt356.2) = true then (if (strOfNums t352).toList = (strOfNums bt356.1).toList then ((chain_Newer.f kj4 t347 a2).bind fun t364 => (some t364)) else (some false)) else (some false)) else (some false)))) = some r := H
          have A14 := Aside0.mk A140
          clear A140
          replace H := Option.bind_eq_some_iff.mp H
          obtain ⟨⟨t356, t357⟩, A150, H⟩ := H
          replace H : (if a2 ≥ a1_0 then (if t345 = true then (if (t353 == (!a1_1)) = true then (if t353 = true then (if (strOfNums t352).toList = (strOfNums l1_2).toList then ((chain_Newer.f kj4 t347 a2).bind fun t360 => (if t360 = true then (some false) else ((chain_Newer.f kj4 t347 (wrap64 (a1_0 - 1))).bind fun t361 => (some t361)))) else (some false)) else ((chain_Newer.f kj4 t347 a2).bind fun t362 => (if t362 = true then (some false) else ((chain_Newer.f kj4 t347 (wrap64 (a1_0 - 1))).bind fun t363 => (some t363))))) else (some false)) else (some false)) else (if t345 = true then (if (t353 == t357) = true then (if (strOfNums t352).toList = (strOfNums t356).toList then ((chain_Newer.f kj4 t347 a2).bind fun t364 => (some t364)) else (some false)) else (some false)) else (some false))) = some r := H
          have A15 := Aside0.mk A150
          clear A150
          by_cases c16 : a2 ≥ a1_0
          · rw [if_pos c16] at H
            have c16b0 : decide (a1_0 ≤ a2) = true := decide_eq_true c16
            clear c16
            by_cases c17 : t345 = true
            · subst c17
              have H1 : (if (t353 == (!a1_1)) = true then (if t353 = true then (if (strOfNums t352).toList = (strOfNums l1_2).toList then ((chain_Newer.f kj4 t347 a2).bind fun t360 => (if t360 = true then (some false) else ((chain_Newer.f kj4 t347 (wrap64 (a1_0 - 1))).bind fun t361 => (some t361)))) else (some false)) else ((chain_Newer.f kj4 t347 a2).bind fun t362 => (if t362 = true then (some false) else ((chain_Newer.f kj4 t347 (wrap64 (a1_0 - 1))).bind fun t363 => (some t363))))) else (some false)) = some r := by rw [if_pos rfl] at H; exact H
              clear H
              have H := H1
              clear H1
              by_cases c18 : (t353 == (!a1_1)) = true
              · rw [if_pos c18] at H
                have c18b0 : (t353 == (!a1_1)) = true := c18
                (try (have c18b1 : decide (t353 = (!a1_1)) = true := by simpa using c18))
                (try (have c18b2 : (t353 == (!a1_1)) = true := by simpa using c18))
                clear c18
                by_cases c19 : t353 = true
                · subst c19
                  have H1 : (if (strOfNums t352).toList = (strOfNums l1_2).toList then ((chain_Newer.f kj4 t347 a2).bind fun t360 => (if t360 = true then (some false) else ((chain_Newer.f kj4 t347 (wrap64 (a1_0 - 1))).bind fun t361 => (some t361)))) else (some false)) = some r := by rw [if_pos rfl] at H; exact H
                  clear H
                  have H := H1
                  clear H1
                  by_cases c20 : (strOfNums t352).toList = (strOfNums l1_2).toList
                  · rw [if_pos c20] at H
                    have c20b0 : ((strOfNums t352).toList == (strOfNums l1_2).toList) = true := beq_iff_eq.mpr c20
                    have c20b1 : ((strOfNums t352).toList != (strOfNums l1_2).toList) = false := bne_eq_false_iff_eq.mpr c20
                    clear c20
                    replace H := Option.bind_eq_some_iff.mp H
                    obtain ⟨t360, A210, H⟩ := H
                    replace H : (if t360 = true then (some false) else ((chain_Newer.f kj4 t347 (wrap64 (a1_0 - 1))).bind fun t361 => (some t361))) = some r := H
                    have A21 := Aside0.mk A210
                    clear A210
                    by_cases c22 : t360 = true
                    · subst c22
                      have H1 : (some false) = some r := by rw [if_pos rfl] at H; exact H
                      rw [HTr_] at H1
                      exact absurd (Option.some.inj H1) (by decide)
                    · replace c22 := Bool.eq_false_iff.mpr c22
                      subst c22
                      have H1 : ((chain_Newer.f kj4 t347 (wrap64 (a1_0 - 1))).bind fun t361 => (some t361)) = some r := by rw [if_neg (show ¬ (false = true) by decide)] at H; exact H
                      clear H
                      have H := H1
                      clear H1
                      replace H := Option.bind_eq_some_iff.mp H
                      obtain ⟨t361, A320, H⟩ := H
                      replace H : (some t361) = some r := H
                      have A32 := Aside0.mk A320
                      clear A320
                      obtain rfl := Option.some.inj H
                      have hcz33_0 : wc.cell? ⟨gb344, 0, none⟩ = some (.int .i64 a1_0) := (blk_cell BK344.out 0).trans rfl
                      have hcz33_1 : wc.cell? ⟨gb344, 1, none⟩ = some (.bool a1_1) := (blk_cell BK344.out 1).trans rfl
                      have hcz33_2 : wc.cell? ⟨gb344, 2, none⟩ = some (.slice A1_2 l1_2.length c1_2) := (blk_cell BK344.out 2).trans rfl
                      have hfz33_0 := blk_frozen BK344.out 0
                      have hfz33_1 := blk_frozen BK344.out 1
                      have hfz33_2 := blk_frozen BK344.out 2
                      go_wp2_with (first | ((with_reducible refine gate_callee (f := 14) rfl ?_); refine goesL_ (some 29) rfl rfl Try.func14 (by kernel_rfl) rfl #[.slice A0 l0.length c0, .agg #[.int .i64 a1_0, .bool a1_1, .slice A1_2 l1_2.length c1_2]] rfl (by (try simp only [List.map_toArray, List.map_cons, List.map_nil]); first | done | rfl | (simp only [List.length_drop, List.length_take]; rfl)) ?_; (with_reducible refine (chain_Install.calls kj4 (fun k_ => k_ < w.heap.size) _ _ l0 a1_0 a1_1 (fun k_ => k_ < w.heap.size) _ _ l1_2 t347 t350 _ ?side1 ?side2 A12.out).mono ?_); (case side1 => exact Kd.V_mk HC0.out (Kd.F_below (Kd.C_F k25_heap HR0.out) (by repeat (first | (with_reducible first | exact HB.out | apply below_alloc | apply pw_below_drewN | apply below_drew1 | refine below_set ?_ GE344.out) | exact HB.out)))); (case side2 => exact Kd.V_mk HC1_2.out (Kd.F_below (Kd.C_F (Kd.heap_int .u8) HR1_2.out) (by repeat (first | (with_reducible first | exact HB.out | apply below_alloc | apply pw_below_drewN | apply below_drew1 | refine below_set ?_ GE344.out) | exact HB.out)))); rintro e w34 ⟨v348, rfl, ho0, hb⟩; refine ⟨_, rfl, ?_⟩; have n0_ := Aside0.mk (Kd.V_lower (Kd.V_mono (ok' := fun k_ => k_ ≠ gb344) ho0 (fun k_ hk_ => Or.elim hk_ (fun hs_ => Or.elim hs_ (fun hs_ => fun e_ => Nat.not_le.2 hs_ (by rw [e_]; exact GW344.out)) (fun hs_ => fun e_ => Nat.not_le.2 hs_ (by rw [e_]; exact GW344.out))) (fun hn_ => (Kd.freshB (g := gb344) (o := .cells #[.int .i64 a1_0, .bool a1_1, .slice A1_2 l1_2.length c1_2] 25 (0, 0)) (by (with_reducible repeat (first | refine blk_drewN ?_ _ | refine blk_drew ?_ | refine blk_alloc ?_ _)); exact BK344.out) k_ hn_)))) (below_size (by repeat (first | (with_reducible first | exact HB.out | apply below_alloc | apply pw_below_drewN | apply below_drew1 | refine below_set ?_ GE344.out) | exact HB.out)))); have n1_ := Aside0.mk (blk_below (g := gb344) (o := .cells #[.int .i64 a1_0, .bool a1_1, .slice A1_2 l1_2.length c1_2] 25 (0, 0)) (by (with_reducible repeat (first | refine blk_drewN ?_ _ | refine blk_drew ?_ | refine blk_alloc ?_ _)); exact BK344.out) hb); have n2_ := Aside0.mk (below_step (by repeat (first | (with_reducible first | exact HB.out | apply below_alloc | apply pw_below_drewN | apply below_drew1 | refine below_set ?_ GE344.out) | exact HB.out)) hb); clear BK344; clear HB; have HO349 := n0_; have BK344 := n1_; have HB := n2_; clear n0_ n1_ n2_; (try clear hb); (try clear hb2); (try clear hk); (try clear hi); (try clear ho0); obtain ⟨Ao35, co35, eo35⟩ := Kd.V_slice HO349.out; subst eo35) | ((with_reducible refine gate_callee (f := 12) rfl ?_); refine goesL_ (some 44) rfl rfl Try.func12 (by kernel_rfl) rfl #[.slice Ao35 t347.length co35, .int .i64 a2] rfl (by (try simp only [List.map_toArray, List.map_cons, List.map_nil]); first | done | rfl | (simp only [List.length_drop, List.length_take]; rfl)) ?_; (with_reducible refine (chain_Read.calls kj4 _ _ t347 a2 t352 true _ ?side1 ?side2 A14.out).mono ?_); (case side1 => repeat (first | exact (Kd.V_reads' HO349.out).2.2 | (with_reducible refine Kd.C_alloc ?_ _) | (with_reducible refine Kd.C_drewN ?_ _) | (with_reducible refine Kd.C_drew ?_))); (case side2 => exact (Kd.V_reads' HO349.out).2.1); rintro e w36 ⟨v354, rfl, ho0, hb⟩; refine ⟨_, rfl, ?_⟩; have n0_ := Aside0.mk (Kd.V_elder' (by (with_reducible repeat (first | apply Kd.V_alloc | apply Kd.V_drewN | apply Kd.V_drew)); exact HO349.out) (Kd.R_base ho0) hb); have n1_ := Aside0.mk (Kd.R_lower ho0 (below_size (by repeat (first | (with_reducible first | exact HB.out | apply below_alloc | apply pw_below_drewN | apply below_drew1 | refine below_set ?_ GE344.out) | exact HB.out)))); have n2_ := Aside0.mk (blk_below (g := gb344) (o := .cells #[.int .i64 a1_0, .bool a1_1, .slice A1_2 l1_2.length c1_2] 25 (0, 0)) (by (with_reducible repeat (first | refine blk_drewN ?_ _ | refine blk_drew ?_ | refine blk_alloc ?_ _)); exact BK344.out) hb); have n3_ := Aside0.mk (below_step (by repeat (first | (with_reducible first | exact HB.out | apply below_alloc | apply pw_below_drewN | apply below_drew1 | refine below_set ?_ GE344.out) | exact HB.out)) hb); clear HO349; clear BK344; clear HB; have HO349 := n0_; have HO355 := n1_; have BK344 := n2_; have HB := n3_; clear n0_ n1_ n2_ n3_; (try clear hb); (try clear hb2); (try clear hk); (try clear hi); (try clear ho0)) | ((with_reducible refine gate_callee (f := 12) rfl ?_); refine goesL_ (some 50) rfl rfl Try.func12 (by kernel_rfl) rfl #[.slice A0 l0.length c0, .int .i64 a2] rfl (by (try simp only [List.map_toArray, List.map_cons, List.map_nil]); first | done | rfl | (simp only [List.length_drop, List.length_take]; rfl)) ?_; (with_reducible refine (chain_Read.calls kj4 _ _ l0 a2 t356 t357 _ ?side1 ?side2 A15.out).mono ?_); (case side1 => repeat (first | exact (Kd.C_below HR0.out HB.out) | (with_reducible refine Kd.C_alloc ?_ _) | (with_reducible refine Kd.C_drewN ?_ _) | (with_reducible refine Kd.C_drew ?_))); (case side2 => exact HC0.out); rintro e w37 ⟨v358, rfl, ho0, hb⟩; refine ⟨_, rfl, ?_⟩; have n0_ := Aside0.mk (Kd.V_elder' (by (with_reducible repeat (first | apply Kd.V_alloc | apply Kd.V_drewN | apply Kd.V_drew)); exact HO349.out) (Kd.R_base ho0) hb); have n1_ := Aside0.mk (Kd.R_elder' (by (with_reducible repeat (first | apply Kd.R_alloc | apply Kd.R_drewN | apply Kd.R_drew)); exact HO355.out) (Kd.R_base ho0) hb); have n2_ := Aside0.mk (Kd.R_lower (Kd.R_new' ho0 (Kd.R_lt (by (with_reducible repeat (first | apply Kd.R_alloc | apply Kd.R_drewN | apply Kd.R_drew)); exact HO355.out))) (below_size (by repeat (first | (with_reducible first | exact HB.out | apply below_alloc | apply pw_below_drewN | apply below_drew1 | refine below_set ?_ GE344.out) | exact HB.out)))); have n3_ := Aside0.mk (blk_below (g := gb344) (o := .cells #[.int .i64 a1_0, .bool a1_1, .slice A1_2 l1_2.length c1_2] 25 (0, 0)) (by (with_reducible repeat (first | refine blk_drewN ?_ _ | refine blk_drew ?_ | refine blk_alloc ?_ _)); exact BK344.out) hb); have n4_ := Aside0.mk (below_step (by repeat (first | (with_reducible first | exact HB.out | apply below_alloc | apply pw_below_drewN | apply below_drew1 | refine below_set ?_ GE344.out) | exact HB.out)) hb); clear HO349; clear HO355; clear BK344; clear HB; have HO349 := n0_; have HO355 := n1_; have HO359 := n2_; have BK344 := n3_; have HB := n4_; clear n0_ n1_ n2_ n3_ n4_; (try clear hb); (try clear hb2); (try clear hk); (try clear hi); (try clear ho0); have hcz38_0 : w37.cell? ⟨gb344, 0, none⟩ = some (.int .i64 a1_0) := (blk_cell BK344.out 0).trans rfl; have hcz38_1 : w37.cell? ⟨gb344, 1, none⟩ = some (.bool a1_1) := (blk_cell BK344.out 1).trans rfl; have hcz38_2 : w37.cell? ⟨gb344, 2, none⟩ = some (.slice A1_2 l1_2.length c1_2) := (blk_cell BK344.out 2).trans rfl; have hfz38_0 := blk_frozen BK344.out 0; have hfz38_1 := blk_frozen BK344.out 1; have hfz38_2 := blk_frozen BK344.out 2; have hcv39 := own_string (P := Try.prog) Try.underlying23 Try.underlying5 Try.underlying9 (Kd.own_of_R HO355.out); have hcv40 := Kd.C_string (P := Try.prog) (A := A1_2) (c := c1_2) Try.underlying23 Try.underlying5 Try.underlying9 (Kd.C_below HR1_2.out HB.out)) | (go_at_call 21; (with_reducible refine (chain_Newer.calls kj4 _ _ t347 a2 false _ ?side1 ?side2 A21.out).mono ?_); (case side1 => repeat (first | exact (Kd.V_reads' HO349.out).2.2 | (with_reducible refine Kd.C_alloc ?_ _) | (with_reducible refine Kd.C_drewN ?_ _) | (with_reducible refine Kd.C_drew ?_))); (case side2 => exact (Kd.V_reads' HO349.out).2.1); rintro e w41 ⟨rfl, hb⟩; have n0_ := Aside0.mk (Kd.V_below (by (with_reducible repeat (first | apply Kd.V_alloc | apply Kd.V_drewN | apply Kd.V_drew)); exact HO349.out) hb); have n1_ := Aside0.mk (Kd.R_below (by (with_reducible repeat (first | apply Kd.R_alloc | apply Kd.R_drewN | apply Kd.R_drew)); exact HO355.out) hb); have n2_ := Aside0.mk (Kd.R_below (by (with_reducible repeat (first | apply Kd.R_alloc | apply Kd.R_drewN | apply Kd.R_drew)); exact HO359.out) hb); have n3_ := Aside0.mk (blk_below (g := gb344) (o := .cells #[.int .i64 a1_0, .bool a1_1, .slice A1_2 l1_2.length c1_2] 25 (0, 0)) (by (with_reducible repeat (first | refine blk_drewN ?_ _ | refine blk_drew ?_ | refine blk_alloc ?_ _)); exact BK344.out) hb); have n4_ := Aside0.mk (below_step (by repeat (first | (with_reducible first | exact HB.out | apply below_alloc | apply pw_below_drewN | apply below_drew1 | refine below_set ?_ GE344.out) | exact HB.out)) hb); clear HO349; clear HO355; clear HO359; clear BK344; clear HB; have HO349 := n0_; have HO355 := n1_; have HO359 := n2_; have BK344 := n3_; have HB := n4_; clear n0_ n1_ n2_ n3_ n4_; (try clear hb); (try clear hb2); (try clear hk); (try clear hi); have hcz42_0 : w41.cell? ⟨gb344, 0, none⟩ = some (.int .i64 a1_0) := (blk_cell BK344.out 0).trans rfl; have hcz42_1 : w41.cell? ⟨gb344, 1, none⟩ = some (.bool a1_1) := (blk_cell BK344.out 1).trans rfl; have hcz42_2 : w41.cell? ⟨gb344, 2, none⟩ = some (.slice A1_2 l1_2.length c1_2) := (blk_cell BK344.out 2).trans rfl; have hfz42_0 := blk_frozen BK344.out 0; have hfz42_1 := blk_frozen BK344.out 1; have hfz42_2 := blk_frozen BK344.out 2) | (go_at_call 21; (with_reducible refine (chain_Newer.calls kj4 _ _ t347 (wrap64 (a1_0 - 1)) t361 _ ?side1 ?side2 A32.out).mono ?_); (case side1 => repeat (first | exact (Kd.V_reads' HO349.out).2.2 | (with_reducible refine Kd.C_alloc ?_ _) | (with_reducible refine Kd.C_drewN ?_ _) | (with_reducible refine Kd.C_drew ?_))); (case side2 => exact (Kd.V_reads' HO349.out).2.1); rintro e w43 ⟨rfl, hb⟩; have n0_ := Aside0.mk (Kd.V_below (by (with_reducible repeat (first | apply Kd.V_alloc | apply Kd.V_drewN | apply Kd.V_drew)); exact HO349.out) hb); have n1_ := Aside0.mk (Kd.R_below (by (with_reducible repeat (first | apply Kd.R_alloc | apply Kd.R_drewN | apply Kd.R_drew)); exact HO355.out) hb); have n2_ := Aside0.mk (Kd.R_below (by (with_reducible repeat (first | apply Kd.R_alloc | apply Kd.R_drewN | apply Kd.R_drew)); exact HO359.out) hb); have n3_ := Aside0.mk (blk_below (g := gb344) (o := .cells #[.int .i64 a1_0, .bool a1_1, .slice A1_2 l1_2.length c1_2] 25 (0, 0)) (by (with_reducible repeat (first | refine blk_drewN ?_ _ | refine blk_drew ?_ | refine blk_alloc ?_ _)); exact BK344.out) hb); have n4_ := Aside0.mk (below_step (by repeat (first | (with_reducible first | exact HB.out | apply below_alloc | apply pw_below_drewN | apply below_drew1 | refine below_set ?_ GE344.out) | exact HB.out)) hb); clear HO349; clear HO355; clear HO359; clear BK344; clear HB; have HO349 := n0_; have HO355 := n1_; have HO359 := n2_; have BK344 := n3_; have HB := n4_; clear n0_ n1_ n2_ n3_ n4_; (try clear hb); (try clear hb2); (try clear hk); (try clear hi)))
                      go_ret
                      exact ⟨by first | rfl | (simp [errW_none, errW_some] <;> rfl) | (simp [*, errW_none, errW_some] <;> rfl), by repeat (first | (with_reducible first | exact HB.out | apply below_alloc | apply pw_below_drewN | apply below_drew1 | refine below_set ?_ GE344.out) | exact HB.out)⟩
                  · rw [if_neg c20] at H
                    rw [HTr_] at H
                    exact absurd (Option.some.inj H) (by decide)
                · replace c19 := Bool.eq_false_iff.mpr c19
                  subst c19
                  have H1 : ((chain_Newer.f kj4 t347 a2).bind fun t362 => (if t362 = true then (some false) else ((chain_Newer.f kj4 t347 (wrap64 (a1_0 - 1))).bind fun t363 => (some t363)))) = some r := by rw [if_neg (show ¬ (false = true) by decide)] at H; exact H
                  clear H
                  have H := H1
                  clear H1
                  replace H := Option.bind_eq_some_iff.mp H
                  obtain ⟨t362, A520, H⟩ := H
                  replace H : (if t362 = true then (some false) else ((chain_Newer.f kj4 t347 (wrap64 (a1_0 - 1))).bind fun t363 => (some t363))) = some r := H
                  have A52 := Aside0.mk A520
                  clear A520
                  by_cases c53 : t362 = true
                  · subst c53
                    have H1 : (some false) = some r := by rw [if_pos rfl] at H; exact H
                    rw [HTr_] at H1
                    exact absurd (Option.some.inj H1) (by decide)
                  · replace c53 := Bool.eq_false_iff.mpr c53
                    subst c53
                    have H1 : ((chain_Newer.f kj4 t347 (wrap64 (a1_0 - 1))).bind fun t363 => (some t363)) = some r := by rw [if_neg (show ¬ (false = true) by decide)] at H; exact H
                    clear H
                    have H := H1
                    clear H1
                    replace H := Option.bind_eq_some_iff.mp H
                    obtain ⟨t363, A610, H⟩ := H
                    replace H : (some t363) = some r := H
                    have A61 := Aside0.mk A610
                    clear A610
                    obtain rfl := Option.some.inj H
                    have hcz62_0 : wc.cell? ⟨gb344, 0, none⟩ = some (.int .i64 a1_0) := (blk_cell BK344.out 0).trans rfl
                    have hcz62_1 : wc.cell? ⟨gb344, 1, none⟩ = some (.bool a1_1) := (blk_cell BK344.out 1).trans rfl
                    have hcz62_2 : wc.cell? ⟨gb344, 2, none⟩ = some (.slice A1_2 l1_2.length c1_2) := (blk_cell BK344.out 2).trans rfl
                    have hfz62_0 := blk_frozen BK344.out 0
                    have hfz62_1 := blk_frozen BK344.out 1
                    have hfz62_2 := blk_frozen BK344.out 2
                    go_wp2_with (first | ((with_reducible refine gate_callee (f := 14) rfl ?_); refine goesL_ (some 29) rfl rfl Try.func14 (by kernel_rfl) rfl #[.slice A0 l0.length c0, .agg #[.int .i64 a1_0, .bool a1_1, .slice A1_2 l1_2.length c1_2]] rfl (by (try simp only [List.map_toArray, List.map_cons, List.map_nil]); first | done | rfl | (simp only [List.length_drop, List.length_take]; rfl)) ?_; (with_reducible refine (chain_Install.calls kj4 (fun k_ => k_ < w.heap.size) _ _ l0 a1_0 a1_1 (fun k_ => k_ < w.heap.size) _ _ l1_2 t347 t350 _ ?side1 ?side2 A12.out).mono ?_); (case side1 => exact Kd.V_mk HC0.out (Kd.F_below (Kd.C_F k25_heap HR0.out) (by repeat (first | (with_reducible first | exact HB.out | apply below_alloc | apply pw_below_drewN | apply below_drew1 | refine below_set ?_ GE344.out) | exact HB.out)))); (case side2 => exact Kd.V_mk HC1_2.out (Kd.F_below (Kd.C_F (Kd.heap_int .u8) HR1_2.out) (by repeat (first | (with_reducible first | exact HB.out | apply below_alloc | apply pw_below_drewN | apply below_drew1 | refine below_set ?_ GE344.out) | exact HB.out)))); rintro e w63 ⟨v348, rfl, ho0, hb⟩; refine ⟨_, rfl, ?_⟩; have n0_ := Aside0.mk (Kd.V_lower (Kd.V_mono (ok' := fun k_ => k_ ≠ gb344) ho0 (fun k_ hk_ => Or.elim hk_ (fun hs_ => Or.elim hs_ (fun hs_ => fun e_ => Nat.not_le.2 hs_ (by rw [e_]; exact GW344.out)) (fun hs_ => fun e_ => Nat.not_le.2 hs_ (by rw [e_]; exact GW344.out))) (fun hn_ => (Kd.freshB (g := gb344) (o := .cells #[.int .i64 a1_0, .bool a1_1, .slice A1_2 l1_2.length c1_2] 25 (0, 0)) (by (with_reducible repeat (first | refine blk_drewN ?_ _ | refine blk_drew ?_ | refine blk_alloc ?_ _)); exact BK344.out) k_ hn_)))) (below_size (by repeat (first | (with_reducible first | exact HB.out | apply below_alloc | apply pw_below_drewN | apply below_drew1 | refine below_set ?_ GE344.out) | exact HB.out)))); have n1_ := Aside0.mk (blk_below (g := gb344) (o := .cells #[.int .i64 a1_0, .bool a1_1, .slice A1_2 l1_2.length c1_2] 25 (0, 0)) (by (with_reducible repeat (first | refine blk_drewN ?_ _ | refine blk_drew ?_ | refine blk_alloc ?_ _)); exact BK344.out) hb); have n2_ := Aside0.mk (below_step (by repeat (first | (with_reducible first | exact HB.out | apply below_alloc | apply pw_below_drewN | apply below_drew1 | refine below_set ?_ GE344.out) | exact HB.out)) hb); clear BK344; clear HB; have HO349 := n0_; have BK344 := n1_; have HB := n2_; clear n0_ n1_ n2_; (try clear hb); (try clear hb2); (try clear hk); (try clear hi); (try clear ho0); obtain ⟨Ao64, co64, eo64⟩ := Kd.V_slice HO349.out; subst eo64) | ((with_reducible refine gate_callee (f := 12) rfl ?_); refine goesL_ (some 44) rfl rfl Try.func12 (by kernel_rfl) rfl #[.slice Ao64 t347.length co64, .int .i64 a2] rfl (by (try simp only [List.map_toArray, List.map_cons, List.map_nil]); first | done | rfl | (simp only [List.length_drop, List.length_take]; rfl)) ?_; (with_reducible refine (chain_Read.calls kj4 _ _ t347 a2 t352 false _ ?side1 ?side2 A14.out).mono ?_); (case side1 => repeat (first | exact (Kd.V_reads' HO349.out).2.2 | (with_reducible refine Kd.C_alloc ?_ _) | (with_reducible refine Kd.C_drewN ?_ _) | (with_reducible refine Kd.C_drew ?_))); (case side2 => exact (Kd.V_reads' HO349.out).2.1); rintro e w65 ⟨v354, rfl, ho0, hb⟩; refine ⟨_, rfl, ?_⟩; have n0_ := Aside0.mk (Kd.V_elder' (by (with_reducible repeat (first | apply Kd.V_alloc | apply Kd.V_drewN | apply Kd.V_drew)); exact HO349.out) (Kd.R_base ho0) hb); have n1_ := Aside0.mk (Kd.R_lower ho0 (below_size (by repeat (first | (with_reducible first | exact HB.out | apply below_alloc | apply pw_below_drewN | apply below_drew1 | refine below_set ?_ GE344.out) | exact HB.out)))); have n2_ := Aside0.mk (blk_below (g := gb344) (o := .cells #[.int .i64 a1_0, .bool a1_1, .slice A1_2 l1_2.length c1_2] 25 (0, 0)) (by (with_reducible repeat (first | refine blk_drewN ?_ _ | refine blk_drew ?_ | refine blk_alloc ?_ _)); exact BK344.out) hb); have n3_ := Aside0.mk (below_step (by repeat (first | (with_reducible first | exact HB.out | apply below_alloc | apply pw_below_drewN | apply below_drew1 | refine below_set ?_ GE344.out) | exact HB.out)) hb); clear HO349; clear BK344; clear HB; have HO349 := n0_; have HO355 := n1_; have BK344 := n2_; have HB := n3_; clear n0_ n1_ n2_ n3_; (try clear hb); (try clear hb2); (try clear hk); (try clear hi); (try clear ho0)) | ((with_reducible refine gate_callee (f := 12) rfl ?_); refine goesL_ (some 50) rfl rfl Try.func12 (by kernel_rfl) rfl #[.slice A0 l0.length c0, .int .i64 a2] rfl (by (try simp only [List.map_toArray, List.map_cons, List.map_nil]); first | done | rfl | (simp only [List.length_drop, List.length_take]; rfl)) ?_; (with_reducible refine (chain_Read.calls kj4 _ _ l0 a2 t356 t357 _ ?side1 ?side2 A15.out).mono ?_); (case side1 => repeat (first | exact (Kd.C_below HR0.out HB.out) | (with_reducible refine Kd.C_alloc ?_ _) | (with_reducible refine Kd.C_drewN ?_ _) | (with_reducible refine Kd.C_drew ?_))); (case side2 => exact HC0.out); rintro e w66 ⟨v358, rfl, ho0, hb⟩; refine ⟨_, rfl, ?_⟩; have n0_ := Aside0.mk (Kd.V_elder' (by (with_reducible repeat (first | apply Kd.V_alloc | apply Kd.V_drewN | apply Kd.V_drew)); exact HO349.out) (Kd.R_base ho0) hb); have n1_ := Aside0.mk (Kd.R_elder' (by (with_reducible repeat (first | apply Kd.R_alloc | apply Kd.R_drewN | apply Kd.R_drew)); exact HO355.out) (Kd.R_base ho0) hb); have n2_ := Aside0.mk (Kd.R_lower (Kd.R_new' ho0 (Kd.R_lt (by (with_reducible repeat (first | apply Kd.R_alloc | apply Kd.R_drewN | apply Kd.R_drew)); exact HO355.out))) (below_size (by repeat (first | (with_reducible first | exact HB.out | apply below_alloc | apply pw_below_drewN | apply below_drew1 | refine below_set ?_ GE344.out) | exact HB.out)))); have n3_ := Aside0.mk (blk_below (g := gb344) (o := .cells #[.int .i64 a1_0, .bool a1_1, .slice A1_2 l1_2.length c1_2] 25 (0, 0)) (by (with_reducible repeat (first | refine blk_drewN ?_ _ | refine blk_drew ?_ | refine blk_alloc ?_ _)); exact BK344.out) hb); have n4_ := Aside0.mk (below_step (by repeat (first | (with_reducible first | exact HB.out | apply below_alloc | apply pw_below_drewN | apply below_drew1 | refine below_set ?_ GE344.out) | exact HB.out)) hb); clear HO349; clear HO355; clear BK344; clear HB; have HO349 := n0_; have HO355 := n1_; have HO359 := n2_; have BK344 := n3_; have HB := n4_; clear n0_ n1_ n2_ n3_ n4_; (try clear hb); (try clear hb2); (try clear hk); (try clear hi); (try clear ho0); have hcz67_0 : w66.cell? ⟨gb344, 0, none⟩ = some (.int .i64 a1_0) := (blk_cell BK344.out 0).trans rfl; have hcz67_1 : w66.cell? ⟨gb344, 1, none⟩ = some (.bool a1_1) := (blk_cell BK344.out 1).trans rfl; have hcz67_2 : w66.cell? ⟨gb344, 2, none⟩ = some (.slice A1_2 l1_2.length c1_2) := (blk_cell BK344.out 2).trans rfl; have hfz67_0 := blk_frozen BK344.out 0; have hfz67_1 := blk_frozen BK344.out 1; have hfz67_2 := blk_frozen BK344.out 2) | (go_at_call 21; (with_reducible refine (chain_Newer.calls kj4 _ _ t347 a2 false _ ?side1 ?side2 A52.out).mono ?_); (case side1 => repeat (first | exact (Kd.V_reads' HO349.out).2.2 | (with_reducible refine Kd.C_alloc ?_ _) | (with_reducible refine Kd.C_drewN ?_ _) | (with_reducible refine Kd.C_drew ?_))); (case side2 => exact (Kd.V_reads' HO349.out).2.1); rintro e w68 ⟨rfl, hb⟩; have n0_ := Aside0.mk (Kd.V_below (by (with_reducible repeat (first | apply Kd.V_alloc | apply Kd.V_drewN | apply Kd.V_drew)); exact HO349.out) hb); have n1_ := Aside0.mk (Kd.R_below (by (with_reducible repeat (first | apply Kd.R_alloc | apply Kd.R_drewN | apply Kd.R_drew)); exact HO355.out) hb); have n2_ := Aside0.mk (Kd.R_below (by (with_reducible repeat (first | apply Kd.R_alloc | apply Kd.R_drewN | apply Kd.R_drew)); exact HO359.out) hb); have n3_ := Aside0.mk (blk_below (g := gb344) (o := .cells #[.int .i64 a1_0, .bool a1_1, .slice A1_2 l1_2.length c1_2] 25 (0, 0)) (by (with_reducible repeat (first | refine blk_drewN ?_ _ | refine blk_drew ?_ | refine blk_alloc ?_ _)); exact BK344.out) hb); have n4_ := Aside0.mk (below_step (by repeat (first | (with_reducible first | exact HB.out | apply below_alloc | apply pw_below_drewN | apply below_drew1 | refine below_set ?_ GE344.out) | exact HB.out)) hb); clear HO349; clear HO355; clear HO359; clear BK344; clear HB; have HO349 := n0_; have HO355 := n1_; have HO359 := n2_; have BK344 := n3_; have HB := n4_; clear n0_ n1_ n2_ n3_ n4_; (try clear hb); (try clear hb2); (try clear hk); (try clear hi); have hcz69_0 : w68.cell? ⟨gb344, 0, none⟩ = some (.int .i64 a1_0) := (blk_cell BK344.out 0).trans rfl; have hcz69_1 : w68.cell? ⟨gb344, 1, none⟩ = some (.bool a1_1) := (blk_cell BK344.out 1).trans rfl; have hcz69_2 : w68.cell? ⟨gb344, 2, none⟩ = some (.slice A1_2 l1_2.length c1_2) := (blk_cell BK344.out 2).trans rfl; have hfz69_0 := blk_frozen BK344.out 0; have hfz69_1 := blk_frozen BK344.out 1; have hfz69_2 := blk_frozen BK344.out 2) | (go_at_call 21; (with_reducible refine (chain_Newer.calls kj4 _ _ t347 (wrap64 (a1_0 - 1)) t363 _ ?side1 ?side2 A61.out).mono ?_); (case side1 => repeat (first | exact (Kd.V_reads' HO349.out).2.2 | (with_reducible refine Kd.C_alloc ?_ _) | (with_reducible refine Kd.C_drewN ?_ _) | (with_reducible refine Kd.C_drew ?_))); (case side2 => exact (Kd.V_reads' HO349.out).2.1); rintro e w70 ⟨rfl, hb⟩; have n0_ := Aside0.mk (Kd.V_below (by (with_reducible repeat (first | apply Kd.V_alloc | apply Kd.V_drewN | apply Kd.V_drew)); exact HO349.out) hb); have n1_ := Aside0.mk (Kd.R_below (by (with_reducible repeat (first | apply Kd.R_alloc | apply Kd.R_drewN | apply Kd.R_drew)); exact HO355.out) hb); have n2_ := Aside0.mk (Kd.R_below (by (with_reducible repeat (first | apply Kd.R_alloc | apply Kd.R_drewN | apply Kd.R_drew)); exact HO359.out) hb); have n3_ := Aside0.mk (blk_below (g := gb344) (o := .cells #[.int .i64 a1_0, .bool a1_1, .slice A1_2 l1_2.length c1_2] 25 (0, 0)) (by (with_reducible repeat (first | refine blk_drewN ?_ _ | refine blk_drew ?_ | refine blk_alloc ?_ _)); exact BK344.out) hb); have n4_ := Aside0.mk (below_step (by repeat (first | (with_reducible first | exact HB.out | apply below_alloc | apply pw_below_drewN | apply below_drew1 | refine below_set ?_ GE344.out) | exact HB.out)) hb); clear HO349; clear HO355; clear HO359; clear BK344; clear HB; have HO349 := n0_; have HO355 := n1_; have HO359 := n2_; have BK344 := n3_; have HB := n4_; clear n0_ n1_ n2_ n3_ n4_; (try clear hb); (try clear hb2); (try clear hk); (try clear hi)))
                    go_ret
                    exact ⟨by first | rfl | (simp [errW_none, errW_some] <;> rfl) | (simp [*, errW_none, errW_some] <;> rfl), by repeat (first | (with_reducible first | exact HB.out | apply below_alloc | apply pw_below_drewN | apply below_drew1 | refine below_set ?_ GE344.out) | exact HB.out)⟩
              · rw [if_neg c18] at H
                rw [HTr_] at H
                exact absurd (Option.some.inj H) (by decide)
            · replace c17 := Bool.eq_false_iff.mpr c17
              subst c17
              have H1 : (some false) = some r := by rw [if_neg (show ¬ (false = true) by decide)] at H; exact H
              rw [HTr_] at H1
              exact absurd (Option.some.inj H1) (by decide)
          · rw [if_neg c16] at H
            have c16b0 : decide (a1_0 ≤ a2) = false := decide_eq_false c16
            clear c16
            by_cases c83 : t345 = true
            · subst c83
              have H1 : (if (t353 == t357) = true then (if (strOfNums t352).toList = (strOfNums t356).toList then ((chain_Newer.f kj4 t347 a2).bind fun t364 => (some t364)) else (some false)) else (some false)) = some r := by rw [if_pos rfl] at H; exact H
              clear H
              have H := H1
              clear H1
              by_cases c84 : (t353 == t357) = true
              · rw [if_pos c84] at H
                have c84b0 : (t353 == t357) = true := c84
                (try (have c84b1 : decide (t353 = t357) = true := by simpa using c84))
                (try (have c84b2 : (t353 == t357) = true := by simpa using c84))
                clear c84
                by_cases c85 : (strOfNums t352).toList = (strOfNums t356).toList
                · rw [if_pos c85] at H
                  have c85b0 : ((strOfNums t352).toList == (strOfNums t356).toList) = true := beq_iff_eq.mpr c85
                  have c85b1 : ((strOfNums t352).toList != (strOfNums t356).toList) = false := bne_eq_false_iff_eq.mpr c85
                  clear c85
                  replace H := Option.bind_eq_some_iff.mp H
                  obtain ⟨t364, A860, H⟩ := H
                  replace H : (some t364) = some r := H
                  have A86 := Aside0.mk A860
                  clear A860
                  obtain rfl := Option.some.inj H
                  have hcz87_0 : wc.cell? ⟨gb344, 0, none⟩ = some (.int .i64 a1_0) := (blk_cell BK344.out 0).trans rfl
                  have hcz87_1 : wc.cell? ⟨gb344, 1, none⟩ = some (.bool a1_1) := (blk_cell BK344.out 1).trans rfl
                  have hcz87_2 : wc.cell? ⟨gb344, 2, none⟩ = some (.slice A1_2 l1_2.length c1_2) := (blk_cell BK344.out 2).trans rfl
                  have hfz87_0 := blk_frozen BK344.out 0
                  have hfz87_1 := blk_frozen BK344.out 1
                  have hfz87_2 := blk_frozen BK344.out 2
                  go_wp2_with (first | ((with_reducible refine gate_callee (f := 14) rfl ?_); refine goesL_ (some 29) rfl rfl Try.func14 (by kernel_rfl) rfl #[.slice A0 l0.length c0, .agg #[.int .i64 a1_0, .bool a1_1, .slice A1_2 l1_2.length c1_2]] rfl (by (try simp only [List.map_toArray, List.map_cons, List.map_nil]); first | done | rfl | (simp only [List.length_drop, List.length_take]; rfl)) ?_; (with_reducible refine (chain_Install.calls kj4 (fun k_ => k_ < w.heap.size) _ _ l0 a1_0 a1_1 (fun k_ => k_ < w.heap.size) _ _ l1_2 t347 t350 _ ?side1 ?side2 A12.out).mono ?_); (case side1 => exact Kd.V_mk HC0.out (Kd.F_below (Kd.C_F k25_heap HR0.out) (by repeat (first | (with_reducible first | exact HB.out | apply below_alloc | apply pw_below_drewN | apply below_drew1 | refine below_set ?_ GE344.out) | exact HB.out)))); (case side2 => exact Kd.V_mk HC1_2.out (Kd.F_below (Kd.C_F (Kd.heap_int .u8) HR1_2.out) (by repeat (first | (with_reducible first | exact HB.out | apply below_alloc | apply pw_below_drewN | apply below_drew1 | refine below_set ?_ GE344.out) | exact HB.out)))); rintro e w88 ⟨v348, rfl, ho0, hb⟩; refine ⟨_, rfl, ?_⟩; have n0_ := Aside0.mk (Kd.V_lower (Kd.V_mono (ok' := fun k_ => k_ ≠ gb344) ho0 (fun k_ hk_ => Or.elim hk_ (fun hs_ => Or.elim hs_ (fun hs_ => fun e_ => Nat.not_le.2 hs_ (by rw [e_]; exact GW344.out)) (fun hs_ => fun e_ => Nat.not_le.2 hs_ (by rw [e_]; exact GW344.out))) (fun hn_ => (Kd.freshB (g := gb344) (o := .cells #[.int .i64 a1_0, .bool a1_1, .slice A1_2 l1_2.length c1_2] 25 (0, 0)) (by (with_reducible repeat (first | refine blk_drewN ?_ _ | refine blk_drew ?_ | refine blk_alloc ?_ _)); exact BK344.out) k_ hn_)))) (below_size (by repeat (first | (with_reducible first | exact HB.out | apply below_alloc | apply pw_below_drewN | apply below_drew1 | refine below_set ?_ GE344.out) | exact HB.out)))); have n1_ := Aside0.mk (blk_below (g := gb344) (o := .cells #[.int .i64 a1_0, .bool a1_1, .slice A1_2 l1_2.length c1_2] 25 (0, 0)) (by (with_reducible repeat (first | refine blk_drewN ?_ _ | refine blk_drew ?_ | refine blk_alloc ?_ _)); exact BK344.out) hb); have n2_ := Aside0.mk (below_step (by repeat (first | (with_reducible first | exact HB.out | apply below_alloc | apply pw_below_drewN | apply below_drew1 | refine below_set ?_ GE344.out) | exact HB.out)) hb); clear BK344; clear HB; have HO349 := n0_; have BK344 := n1_; have HB := n2_; clear n0_ n1_ n2_; (try clear hb); (try clear hb2); (try clear hk); (try clear hi); (try clear ho0); obtain ⟨Ao89, co89, eo89⟩ := Kd.V_slice HO349.out; subst eo89) | ((with_reducible refine gate_callee (f := 12) rfl ?_); refine goesL_ (some 44) rfl rfl Try.func12 (by kernel_rfl) rfl #[.slice Ao89 t347.length co89, .int .i64 a2] rfl (by (try simp only [List.map_toArray, List.map_cons, List.map_nil]); first | done | rfl | (simp only [List.length_drop, List.length_take]; rfl)) ?_; (with_reducible refine (chain_Read.calls kj4 _ _ t347 a2 t352 t353 _ ?side1 ?side2 A14.out).mono ?_); (case side1 => repeat (first | exact (Kd.V_reads' HO349.out).2.2 | (with_reducible refine Kd.C_alloc ?_ _) | (with_reducible refine Kd.C_drewN ?_ _) | (with_reducible refine Kd.C_drew ?_))); (case side2 => exact (Kd.V_reads' HO349.out).2.1); rintro e w90 ⟨v354, rfl, ho0, hb⟩; refine ⟨_, rfl, ?_⟩; have n0_ := Aside0.mk (Kd.V_elder' (by (with_reducible repeat (first | apply Kd.V_alloc | apply Kd.V_drewN | apply Kd.V_drew)); exact HO349.out) (Kd.R_base ho0) hb); have n1_ := Aside0.mk (Kd.R_lower ho0 (below_size (by repeat (first | (with_reducible first | exact HB.out | apply below_alloc | apply pw_below_drewN | apply below_drew1 | refine below_set ?_ GE344.out) | exact HB.out)))); have n2_ := Aside0.mk (blk_below (g := gb344) (o := .cells #[.int .i64 a1_0, .bool a1_1, .slice A1_2 l1_2.length c1_2] 25 (0, 0)) (by (with_reducible repeat (first | refine blk_drewN ?_ _ | refine blk_drew ?_ | refine blk_alloc ?_ _)); exact BK344.out) hb); have n3_ := Aside0.mk (below_step (by repeat (first | (with_reducible first | exact HB.out | apply below_alloc | apply pw_below_drewN | apply below_drew1 | refine below_set ?_ GE344.out) | exact HB.out)) hb); clear HO349; clear BK344; clear HB; have HO349 := n0_; have HO355 := n1_; have BK344 := n2_; have HB := n3_; clear n0_ n1_ n2_ n3_; (try clear hb); (try clear hb2); (try clear hk); (try clear hi); (try clear ho0)) | ((with_reducible refine gate_callee (f := 12) rfl ?_); refine goesL_ (some 50) rfl rfl Try.func12 (by kernel_rfl) rfl #[.slice A0 l0.length c0, .int .i64 a2] rfl (by (try simp only [List.map_toArray, List.map_cons, List.map_nil]); first | done | rfl | (simp only [List.length_drop, List.length_take]; rfl)) ?_; (with_reducible refine (chain_Read.calls kj4 _ _ l0 a2 t356 t357 _ ?side1 ?side2 A15.out).mono ?_); (case side1 => repeat (first | exact (Kd.C_below HR0.out HB.out) | (with_reducible refine Kd.C_alloc ?_ _) | (with_reducible refine Kd.C_drewN ?_ _) | (with_reducible refine Kd.C_drew ?_))); (case side2 => exact HC0.out); rintro e w91 ⟨v358, rfl, ho0, hb⟩; refine ⟨_, rfl, ?_⟩; have n0_ := Aside0.mk (Kd.V_elder' (by (with_reducible repeat (first | apply Kd.V_alloc | apply Kd.V_drewN | apply Kd.V_drew)); exact HO349.out) (Kd.R_base ho0) hb); have n1_ := Aside0.mk (Kd.R_elder' (by (with_reducible repeat (first | apply Kd.R_alloc | apply Kd.R_drewN | apply Kd.R_drew)); exact HO355.out) (Kd.R_base ho0) hb); have n2_ := Aside0.mk (Kd.R_lower (Kd.R_new' ho0 (Kd.R_lt (by (with_reducible repeat (first | apply Kd.R_alloc | apply Kd.R_drewN | apply Kd.R_drew)); exact HO355.out))) (below_size (by repeat (first | (with_reducible first | exact HB.out | apply below_alloc | apply pw_below_drewN | apply below_drew1 | refine below_set ?_ GE344.out) | exact HB.out)))); have n3_ := Aside0.mk (blk_below (g := gb344) (o := .cells #[.int .i64 a1_0, .bool a1_1, .slice A1_2 l1_2.length c1_2] 25 (0, 0)) (by (with_reducible repeat (first | refine blk_drewN ?_ _ | refine blk_drew ?_ | refine blk_alloc ?_ _)); exact BK344.out) hb); have n4_ := Aside0.mk (below_step (by repeat (first | (with_reducible first | exact HB.out | apply below_alloc | apply pw_below_drewN | apply below_drew1 | refine below_set ?_ GE344.out) | exact HB.out)) hb); clear HO349; clear HO355; clear BK344; clear HB; have HO349 := n0_; have HO355 := n1_; have HO359 := n2_; have BK344 := n3_; have HB := n4_; clear n0_ n1_ n2_ n3_ n4_; (try clear hb); (try clear hb2); (try clear hk); (try clear hi); (try clear ho0); have hcz92_0 : w91.cell? ⟨gb344, 0, none⟩ = some (.int .i64 a1_0) := (blk_cell BK344.out 0).trans rfl; have hcz92_1 : w91.cell? ⟨gb344, 1, none⟩ = some (.bool a1_1) := (blk_cell BK344.out 1).trans rfl; have hcz92_2 : w91.cell? ⟨gb344, 2, none⟩ = some (.slice A1_2 l1_2.length c1_2) := (blk_cell BK344.out 2).trans rfl; have hfz92_0 := blk_frozen BK344.out 0; have hfz92_1 := blk_frozen BK344.out 1; have hfz92_2 := blk_frozen BK344.out 2; have hcv93 := own_string (P := Try.prog) Try.underlying23 Try.underlying5 Try.underlying9 (Kd.own_of_R HO355.out); have hcv94 := own_string (P := Try.prog) Try.underlying23 Try.underlying5 Try.underlying9 (Kd.own_of_R HO359.out)) | (go_at_call 21; (with_reducible refine (chain_Newer.calls kj4 _ _ t347 a2 t364 _ ?side1 ?side2 A86.out).mono ?_); (case side1 => repeat (first | exact (Kd.V_reads' HO349.out).2.2 | (with_reducible refine Kd.C_alloc ?_ _) | (with_reducible refine Kd.C_drewN ?_ _) | (with_reducible refine Kd.C_drew ?_))); (case side2 => exact (Kd.V_reads' HO349.out).2.1); rintro e w95 ⟨rfl, hb⟩; have n0_ := Aside0.mk (Kd.V_below (by (with_reducible repeat (first | apply Kd.V_alloc | apply Kd.V_drewN | apply Kd.V_drew)); exact HO349.out) hb); have n1_ := Aside0.mk (Kd.R_below (by (with_reducible repeat (first | apply Kd.R_alloc | apply Kd.R_drewN | apply Kd.R_drew)); exact HO355.out) hb); have n2_ := Aside0.mk (Kd.R_below (by (with_reducible repeat (first | apply Kd.R_alloc | apply Kd.R_drewN | apply Kd.R_drew)); exact HO359.out) hb); have n3_ := Aside0.mk (blk_below (g := gb344) (o := .cells #[.int .i64 a1_0, .bool a1_1, .slice A1_2 l1_2.length c1_2] 25 (0, 0)) (by (with_reducible repeat (first | refine blk_drewN ?_ _ | refine blk_drew ?_ | refine blk_alloc ?_ _)); exact BK344.out) hb); have n4_ := Aside0.mk (below_step (by repeat (first | (with_reducible first | exact HB.out | apply below_alloc | apply pw_below_drewN | apply below_drew1 | refine below_set ?_ GE344.out) | exact HB.out)) hb); clear HO349; clear HO355; clear HO359; clear BK344; clear HB; have HO349 := n0_; have HO355 := n1_; have HO359 := n2_; have BK344 := n3_; have HB := n4_; clear n0_ n1_ n2_ n3_ n4_; (try clear hb); (try clear hb2); (try clear hk); (try clear hi)))
                  go_ret
                  exact ⟨by first | rfl | (simp [errW_none, errW_some] <;> rfl) | (simp [*, errW_none, errW_some] <;> rfl), by repeat (first | (with_reducible first | exact HB.out | apply below_alloc | apply pw_below_drewN | apply below_drew1 | refine below_set ?_ GE344.out) | exact HB.out)⟩
                · rw [if_neg c85] at H
                  rw [HTr_] at H
                  exact absurd (Option.some.inj H) (by decide)
              · rw [if_neg c84] at H
                rw [HTr_] at H
                exact absurd (Option.some.inj H) (by decide)
            · replace c83 := Bool.eq_false_iff.mpr c83
              subst c83
              have H1 : (some false) = some r := by rw [if_neg (show ¬ (false = true) by decide)] at H; exact H
              rw [HTr_] at H1
              exact absurd (Option.some.inj H1) (by decide)
        · rw [if_neg c13] at H
          have c13b0 : (t350 == 0) = false := beq_eq_false_iff_ne.mpr c13
          have c13b1 : (t350 != 0) = true := bne_iff_ne.mpr c13
          replace H := Option.bind_eq_some_iff.mp H
          obtain ⟨t351, A1160, H⟩ := H
          replace H : (if t345 = true then (some t351) else (some false)) = some r := H
          have A116 := Aside0.mk A1160
          clear A1160
          by_cases c117 : t345 = true
          · subst c117
            have H1 : (some t351) = some r := by rw [if_pos rfl] at H; exact H
            clear H
            have H := H1
            clear H1
            obtain rfl := Option.some.inj H
            have hcz118_0 : wc.cell? ⟨gb344, 0, none⟩ = some (.int .i64 a1_0) := (blk_cell BK344.out 0).trans rfl
            have hcz118_1 : wc.cell? ⟨gb344, 1, none⟩ = some (.bool a1_1) := (blk_cell BK344.out 1).trans rfl
            have hcz118_2 : wc.cell? ⟨gb344, 2, none⟩ = some (.slice A1_2 l1_2.length c1_2) := (blk_cell BK344.out 2).trans rfl
            have hfz118_0 := blk_frozen BK344.out 0
            have hfz118_1 := blk_frozen BK344.out 1
            have hfz118_2 := blk_frozen BK344.out 2
            go_wp2_with (first | ((with_reducible refine gate_callee (f := 14) rfl ?_); refine goesL_ (some 29) rfl rfl Try.func14 (by kernel_rfl) rfl #[.slice A0 l0.length c0, .agg #[.int .i64 a1_0, .bool a1_1, .slice A1_2 l1_2.length c1_2]] rfl (by (try simp only [List.map_toArray, List.map_cons, List.map_nil]); first | done | rfl | (simp only [List.length_drop, List.length_take]; rfl)) ?_; (with_reducible refine (chain_Install.calls kj4 (fun k_ => k_ < w.heap.size) _ _ l0 a1_0 a1_1 (fun k_ => k_ < w.heap.size) _ _ l1_2 t347 t350 _ ?side1 ?side2 A12.out).mono ?_); (case side1 => exact Kd.V_mk HC0.out (Kd.F_below (Kd.C_F k25_heap HR0.out) (by repeat (first | (with_reducible first | exact HB.out | apply below_alloc | apply pw_below_drewN | apply below_drew1 | refine below_set ?_ GE344.out) | exact HB.out)))); (case side2 => exact Kd.V_mk HC1_2.out (Kd.F_below (Kd.C_F (Kd.heap_int .u8) HR1_2.out) (by repeat (first | (with_reducible first | exact HB.out | apply below_alloc | apply pw_below_drewN | apply below_drew1 | refine below_set ?_ GE344.out) | exact HB.out)))); rintro e w119 ⟨v348, rfl, ho0, hb⟩; refine ⟨_, rfl, ?_⟩; have n0_ := Aside0.mk (Kd.V_lower (Kd.V_mono (ok' := fun k_ => k_ ≠ gb344) ho0 (fun k_ hk_ => Or.elim hk_ (fun hs_ => Or.elim hs_ (fun hs_ => fun e_ => Nat.not_le.2 hs_ (by rw [e_]; exact GW344.out)) (fun hs_ => fun e_ => Nat.not_le.2 hs_ (by rw [e_]; exact GW344.out))) (fun hn_ => (Kd.freshB (g := gb344) (o := .cells #[.int .i64 a1_0, .bool a1_1, .slice A1_2 l1_2.length c1_2] 25 (0, 0)) (by (with_reducible repeat (first | refine blk_drewN ?_ _ | refine blk_drew ?_ | refine blk_alloc ?_ _)); exact BK344.out) k_ hn_)))) (below_size (by repeat (first | (with_reducible first | exact HB.out | apply below_alloc | apply pw_below_drewN | apply below_drew1 | refine below_set ?_ GE344.out) | exact HB.out)))); have n1_ := Aside0.mk (blk_below (g := gb344) (o := .cells #[.int .i64 a1_0, .bool a1_1, .slice A1_2 l1_2.length c1_2] 25 (0, 0)) (by (with_reducible repeat (first | refine blk_drewN ?_ _ | refine blk_drew ?_ | refine blk_alloc ?_ _)); exact BK344.out) hb); have n2_ := Aside0.mk (below_step (by repeat (first | (with_reducible first | exact HB.out | apply below_alloc | apply pw_below_drewN | apply below_drew1 | refine below_set ?_ GE344.out) | exact HB.out)) hb); clear BK344; clear HB; have HO349 := n0_; have BK344 := n1_; have HB := n2_; clear n0_ n1_ n2_; (try clear hb); (try clear hb2); (try clear hk); (try clear hi); (try clear ho0); obtain ⟨Ao120, co120, eo120⟩ := Kd.V_slice HO349.out; subst eo120) | ((with_reducible refine gate_callee (f := 16) rfl ?_); refine goesL_ (some 36) rfl rfl Try.func16 (by kernel_rfl) rfl #[.slice Ao120 t347.length co120, .slice A0 l0.length c0] rfl (by (try simp only [List.map_toArray, List.map_cons, List.map_nil]); first | done | rfl | (simp only [List.length_drop, List.length_take]; rfl)) ?_; (with_reducible refine (banksmanref05_Same.calls kj4 _ _ t347 _ _ l0 t351 _ ?side1 ?side2 ?side3 ?side4 A116.out).mono ?_); (case side1 => repeat (first | exact (Kd.V_reads' HO349.out).2.2 | (with_reducible refine Kd.C_alloc ?_ _) | (with_reducible refine Kd.C_drewN ?_ _) | (with_reducible refine Kd.C_drew ?_))); (case side2 => exact (Kd.V_reads' HO349.out).2.1); (case side3 => repeat (first | exact (Kd.C_below HR0.out HB.out) | (with_reducible refine Kd.C_alloc ?_ _) | (with_reducible refine Kd.C_drewN ?_ _) | (with_reducible refine Kd.C_drew ?_))); (case side4 => exact HC0.out); rintro e w' ⟨rfl, ⟨nd, rfl⟩⟩; refine ⟨_, rfl, ?_⟩))
            go_ret
            exact ⟨by first | rfl | (simp [errW_none, errW_some] <;> rfl) | (simp [*, errW_none, errW_some] <;> rfl), by repeat (first | (with_reducible first | exact HB.out | apply below_alloc | apply pw_below_drewN | apply below_drew1 | refine below_set ?_ GE344.out) | exact HB.out)⟩
          · replace c117 := Bool.eq_false_iff.mpr c117
            subst c117
            have H1 : (some false) = some r := by rw [if_neg (show ¬ (false = true) by decide)] at H; exact H
            rw [HTr_] at H1
            exact absurd (Option.some.inj H1) (by decide)

/-- The law, plainly. -/
def banksmanlaw05_ChainInstalls.Pure : Prop := ∀ (l0 : List (S25)) (a1_0 : Int) (a1_1 : Bool) (l1_2 : List Int) (a2 : Int), (fun xs_ : List (S25) => xs_.length ≤ maxLen ∧ ∀ x ∈ xs_, (fun x_ : S25 => (fun n_ : Int => (Lit.int .i64 n_).wf = true) x_.f0 ∧ (fun _ : Bool => True) x_.f1 ∧ (fun xs_ : List Int => xs_.length ≤ maxLen ∧ ∀ x ∈ xs_, (fun n_ : Int => (Lit.int .u8 n_).wf = true) x) x_.f2) x) l0 → (fun n_ : Int => (Lit.int .i64 n_).wf = true) a1_0 → (fun xs_ : List Int => xs_.length ≤ maxLen ∧ ∀ x ∈ xs_, (fun n_ : Int => (Lit.int .u8 n_).wf = true) x) l1_2 → (fun n_ : Int => (Lit.int .i64 n_).wf = true) a2 → ∃ k, banksmanlaw05_ChainInstalls.f k l0 a1_0 a1_1 l1_2 a2 = some true

end Go.Proofs.Ytdkfahobgnmglaa.P
