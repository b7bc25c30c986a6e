-- Written by wip/gprint.py, a program of this session over the kit's print; Lean checks it.
import Derived.Test.YtdkfahobgnmglaaPx0
import Derived.Test.YtdkfahobgnmglaaPx6
import Derived.Test.YtdkfahobgnmglaaPx10
import Derived.Test.YtdkfahobgnmglaaPx13
import Derived.Test.YtdkfahobgnmglaaPx14
import Derived.Test.YtdkfahobgnmglaaPx15
import Derived.Test.YtdkfahobgnmglaaPx16
import Derived.Test.YtdkfahobgnmglaaPx17
import Derived.Test.YtdkfahobgnmglaaPx19
import Derived.Test.YtdkfahobgnmglaaPx21
import Derived.Test.YtdkfahobgnmglaaPx23
import Derived.Test.YtdkfahobgnmglaaPx24
import Derived.Test.YtdkfahobgnmglaaPx25
import Derived.Test.YtdkfahobgnmglaaPx26
namespace Go.Proofs.Ytdkfahobgnmglaa.P
open Go.RowKit Go.Proofs.YtdkfahobgnmglaaW.PrintWords Go.Proofs.YtdkfahobgnmglaaW.PrintLast Go.Proofs.YtdkfahobgnmglaaW.PrintMore
attribute [local go_sem] max2_int min2_int max_two min_two max_three min_three max_four min_four   -- for this text's walks alone
set_option linter.unusedVariables false
set_option linter.unusedSimpArgs false

/-! ### banksmanlaw05_ChainTells: function 3 -/
mutual
def banksmanlaw05_ChainTells.j0 : Nat → List (S25) → Int → Bool → Bool → Int → Bool → List Int → Option (Bool)
  | 0, _, _, _, _, _, _, _ => none
  | k + 1, x0, x2, x7, x26, x291000, x291001, x291002 => if x26 = true then (some x7) else ((chain_Read.f k x0 x2).bind fun bt293 => ((banksmanref05_Read.f k x0 x2).bind fun bt297 => ((chain_Install.f k x0 x291000 x291001 x291002).bind fun bt301 => ((banksmanref05_Install.f k x0 x291000 x291001 x291002).bind fun bt305 => ((banksmanref05_Same.f k bt301.1 bt305.1).bind fun t309 => (if t309 = true then ((chain_Vacuum.f k x0 x2).bind fun t310 => ((banksmanref05_Vacuum.f k x0 x2).bind fun t313 => ((banksmanref05_Same.f k t310 t313).bind fun t316 => (banksmanlaw05_ChainTells.j1 k x0 x2 x7 bt293.1 bt293.2 bt297.1 bt297.2 bt301.2 bt305.2 t316)))) else (banksmanlaw05_ChainTells.j1 k x0 x2 x7 bt293.1 bt293.2 bt297.1 bt297.2 bt301.2 bt305.2 false)))))))
def banksmanlaw05_ChainTells.j1 : Nat → List (S25) → Int → Bool → List Int → Bool → List Int → Bool → Int → Int → Bool → Option (Bool)
  | 0, _, _, _, _, _, _, _, _, _, _ => none
  | k + 1, x0, x2, x7, x8, x9, x10, x11, x13, x15, x16 => if x7 = true then ((chain_Check.f k x0).bind fun t317 => ((banksmanref05_Check.f k x0).bind fun t318 => (if (t317 == t318) = true then (if (strOfNums x8).toList = (strOfNums x10).toList then (if (x9 == x11) = true then (if x16 = true then (if x13 = x15 then ((chain_Newer.f k x0 x2).bind fun t319 => ((banksmanref05_Newer.f k x0 x2).bind fun t320 => (some (t319 == t320)))) else (some false)) else (some false)) else (some false)) else (some false)) else (some false)))) else (some false)
end
def banksmanlaw05_ChainTells.f (k : Nat) (l0 : List (S25)) (a1_0 : Int) (a1_1 : Bool) (l1_2 : List Int) (a2 : Int) : Option (Bool) := (banksmanlaw05_awake.f k).bind fun t291 => ((banksmanlaw05_few.f k l0).bind fun t292 => (if t292 = true then (banksmanlaw05_ChainTells.j0 k l0 a2 t291 (decide ((l1_2.length : Int) > 100)) a1_0 a1_1 l1_2) else (banksmanlaw05_ChainTells.j0 k l0 a2 t291 true a1_0 a1_1 l1_2)))
theorem banksmanlaw05_ChainTells.mono_l : ∀ k, (∀ y0 y1 y2 y3 y4 y5 y6, LeO (banksmanlaw05_ChainTells.j0 k y0 y1 y2 y3 y4 y5 y6) (banksmanlaw05_ChainTells.j0 (k + 1) y0 y1 y2 y3 y4 y5 y6)) ∧ (∀ y0 y1 y2 y3 y4 y5 y6 y7 y8 y9, LeO (banksmanlaw05_ChainTells.j1 k y0 y1 y2 y3 y4 y5 y6 y7 y8 y9) (banksmanlaw05_ChainTells.j1 (k + 1) y0 y1 y2 y3 y4 y5 y6 y7 y8 y9))
  | 0 => ⟨fun _ _ _ _ _ _ _ r h => by simp [banksmanlaw05_ChainTells.j0] at h, fun _ _ _ _ _ _ _ _ _ _ r h => by simp [banksmanlaw05_ChainTells.j1] at h⟩
  | k + 1 => by
    obtain ⟨ih0, ih1⟩ := banksmanlaw05_ChainTells.mono_l k
    refine ⟨?_, ?_⟩
    · intro y0 y1 y2 y3 y4 y5 y6
      unfold banksmanlaw05_ChainTells.j0
      repeat' first
      | (with_reducible exact ih0 _ _ _ _ _ _ _)
      | (with_reducible exact ih1 _ _ _ _ _ _ _ _ _ _)
      | (with_reducible exact banksmanlaw05_awake.mono _)
      | (with_reducible exact banksmanlaw05_few.mono _ _)
      | (with_reducible exact banksmanref05_Check.mono _ _)
      | (with_reducible exact banksmanref05_Install.mono _ _ _ _ _)
      | (with_reducible exact banksmanref05_Newer.mono _ _ _)
      | (with_reducible exact banksmanref05_Read.mono _ _ _)
      | (with_reducible exact banksmanref05_Same.mono _ _ _)
      | (with_reducible exact banksmanref05_Vacuum.mono _ _ _)
      | (with_reducible exact chain_Check.mono _ _)
      | (with_reducible exact chain_Install.mono _ _ _ _ _)
      | (with_reducible exact chain_Newer.mono _ _ _)
      | (with_reducible exact chain_Read.mono _ _ _)
      | (with_reducible exact chain_Vacuum.mono _ _ _)
      | (with_reducible exact LeO.refl _)
      | (with_reducible exact LeO.none _)
      | (with_reducible refine LeO.ite ?_ ?_)
      | (with_reducible refine LeO.bind ?_ (fun _ => ?_))
      | exact ih0 _ _ _ _ _ _ _
      | exact ih1 _ _ _ _ _ _ _ _ _ _
      | exact banksmanlaw05_awake.mono _
      | exact banksmanlaw05_few.mono _ _
      | exact banksmanref05_Check.mono _ _
      | exact banksmanref05_Install.mono _ _ _ _ _
      | exact banksmanref05_Newer.mono _ _ _
      | exact banksmanref05_Read.mono _ _ _
      | exact banksmanref05_Same.mono _ _ _
      | exact banksmanref05_Vacuum.mono _ _ _
      | exact chain_Check.mono _ _
      | exact chain_Install.mono _ _ _ _ _
      | exact chain_Newer.mono _ _ _
      | exact chain_Read.mono _ _ _
      | exact chain_Vacuum.mono _ _ _
      | exact LeO.none _
      | refine LeO.ite ?_ ?_
      | refine LeO.bind ?_ (fun _ => ?_)
    · intro y0 y1 y2 y3 y4 y5 y6 y7 y8 y9
      unfold banksmanlaw05_ChainTells.j1
      repeat' first
      | (with_reducible exact ih0 _ _ _ _ _ _ _)
      | (with_reducible exact ih1 _ _ _ _ _ _ _ _ _ _)
      | (with_reducible exact banksmanlaw05_awake.mono _)
      | (with_reducible exact banksmanlaw05_few.mono _ _)
      | (with_reducible exact banksmanref05_Check.mono _ _)
      | (with_reducible exact banksmanref05_Install.mono _ _ _ _ _)
      | (with_reducible exact banksmanref05_Newer.mono _ _ _)
      | (with_reducible exact banksmanref05_Read.mono _ _ _)
      | (with_reducible exact banksmanref05_Same.mono _ _ _)
      | (with_reducible exact banksmanref05_Vacuum.mono _ _ _)
      | (with_reducible exact chain_Check.mono _ _)
      | (with_reducible exact chain_Install.mono _ _ _ _ _)
      | (with_reducible exact chain_Newer.mono _ _ _)
      | (with_reducible exact chain_Read.mono _ _ _)
      | (with_reducible exact chain_Vacuum.mono _ _ _)
      | (with_reducible exact LeO.refl _)
      | (with_reducible exact LeO.none _)
      | (with_reducible refine LeO.ite ?_ ?_)
      | (with_reducible refine LeO.bind ?_ (fun _ => ?_))
      | exact ih0 _ _ _ _ _ _ _
      | exact ih1 _ _ _ _ _ _ _ _ _ _
      | exact banksmanlaw05_awake.mono _
      | exact banksmanlaw05_few.mono _ _
      | exact banksmanref05_Check.mono _ _
      | exact banksmanref05_Install.mono _ _ _ _ _
      | exact banksmanref05_Newer.mono _ _ _
      | exact banksmanref05_Read.mono _ _ _
      | exact banksmanref05_Same.mono _ _ _
      | exact banksmanref05_Vacuum.mono _ _ _
      | exact chain_Check.mono _ _
      | exact chain_Install.mono _ _ _ _ _
      | exact chain_Newer.mono _ _ _
      | exact chain_Read.mono _ _ _
      | exact chain_Vacuum.mono _ _ _
      | exact LeO.none _
      | refine LeO.ite ?_ ?_
      | refine LeO.bind ?_ (fun _ => ?_)
theorem banksmanlaw05_ChainTells.mono : ∀ a0 a1 a2 a3 a4 k, LeO (banksmanlaw05_ChainTells.f k a0 a1 a2 a3 a4) (banksmanlaw05_ChainTells.f (k + 1) a0 a1 a2 a3 a4) := by
  intro a0 a1 a2 a3 a4 k
  obtain ⟨ih0, ih1⟩ := banksmanlaw05_ChainTells.mono_l k
  unfold banksmanlaw05_ChainTells.f
  repeat' first
      | (with_reducible exact ih0 _ _ _ _ _ _ _)
      | (with_reducible exact ih1 _ _ _ _ _ _ _ _ _ _)
      | (with_reducible exact banksmanlaw05_awake.mono _)
      | (with_reducible exact banksmanlaw05_few.mono _ _)
      | (with_reducible exact banksmanref05_Check.mono _ _)
      | (with_reducible exact banksmanref05_Install.mono _ _ _ _ _)
      | (with_reducible exact banksmanref05_Newer.mono _ _ _)
      | (with_reducible exact banksmanref05_Read.mono _ _ _)
      | (with_reducible exact banksmanref05_Same.mono _ _ _)
      | (with_reducible exact banksmanref05_Vacuum.mono _ _ _)
      | (with_reducible exact chain_Check.mono _ _)
      | (with_reducible exact chain_Install.mono _ _ _ _ _)
      | (with_reducible exact chain_Newer.mono _ _ _)
      | (with_reducible exact chain_Read.mono _ _ _)
      | (with_reducible exact chain_Vacuum.mono _ _ _)
      | (with_reducible exact LeO.refl _)
      | (with_reducible exact LeO.none _)
      | (with_reducible refine LeO.ite ?_ ?_)
      | (with_reducible refine LeO.bind ?_ (fun _ => ?_))
      | exact ih0 _ _ _ _ _ _ _
      | exact ih1 _ _ _ _ _ _ _ _ _ _
      | exact banksmanlaw05_awake.mono _
      | exact banksmanlaw05_few.mono _ _
      | exact banksmanref05_Check.mono _ _
      | exact banksmanref05_Install.mono _ _ _ _ _
      | exact banksmanref05_Newer.mono _ _ _
      | exact banksmanref05_Read.mono _ _ _
      | exact banksmanref05_Same.mono _ _ _
      | exact banksmanref05_Vacuum.mono _ _ _
      | exact chain_Check.mono _ _
      | exact chain_Install.mono _ _ _ _ _
      | exact chain_Newer.mono _ _ _
      | exact chain_Read.mono _ _ _
      | exact chain_Vacuum.mono _ _ _
      | exact LeO.none _
      | refine LeO.ite ?_ ?_
      | refine LeO.bind ?_ (fun _ => ?_)
set_option maxHeartbeats 8000000 in
set_option maxRecDepth 100000 in
theorem banksmanlaw05_ChainTells.calls (k : Nat) (A0 : Option Addr) (c0 : Nat) (l0 : List (S25)) (a1_0 : Int) (a1_1 : Bool) (A1_2 : Option Addr) (c1_2 : Nat) (l1_2 : List Int) (a2 : Int) (r : Bool) (w : World) (hr0 : Kd.C k25 w A0 l0.length l0) (hc0 : l0.length ≤ c0) (hr1_2 : Kd.C (Kd.int .u8) w A1_2 l1_2.length l1_2) (hc1_2 : l1_2.length ≤ c1_2) (h : banksmanlaw05_ChainTells.f k l0 a1_0 a1_1 l1_2 a2 = some r) (HTr_ : r = true) :
    Calls Try.prog 3 #[.slice A0 l0.length c0, .agg #[.int .i64 a1_0, .bool a1_1, .slice A1_2 l1_2.length c1_2], .int .i64 a2] w fun e w' => e = .returned (.bool r) ∧ Below w.heap.size w w' := by
  have hu25 := Try.underlying25
  have HR0 := Aside0.mk hr0
  have HC0 := Aside0.mk hc0
  clear hr0 hc0
  have HR1_2 := Aside0.mk hr1_2
  have HC1_2 := Aside0.mk hc1_2
  clear hr1_2 hc1_2
  have HB := Aside0.mk (Below.refl w.heap.size w)
  have H : ((banksmanlaw05_awake.f k).bind fun t291 => ((banksmanlaw05_few.f k l0).bind fun t292 => (if t292 = true then (banksmanlaw05_ChainTells.j0 k l0 a2 t291 (decide ((l1_2.length : Int) > 100)) a1_0 a1_1 l1_2) else (banksmanlaw05_ChainTells.j0 k l0 a2 t291 true a1_0 a1_1 l1_2)))) = some r := h
  clear h
  replace H := Option.bind_eq_some_iff.mp H
  obtain ⟨t291, A40, H⟩ := H
  replace H : ((banksmanlaw05_few.f k l0).bind fun t292 => (if t292 = true then (banksmanlaw05_ChainTells.j0 k l0 a2 t291 (decide ((l1_2.length : Int) > 100)) a1_0 a1_1 l1_2) else (banksmanlaw05_ChainTells.j0 k l0 a2 t291 true a1_0 a1_1 l1_2))) = some r := H
  have A4 := Aside0.mk A40
  clear A40
  have HC5 := Aside0.mk H
  clear H
  go_enter Try.func3, Try.ntmps3
  go_upto_region 2 with (first | ((with_reducible refine gate_dst (N := 4) rfl ?_); (try (refine gate_guard (by rfl) ?_; dsimp only)); refine box_event ?hg (N := 4) ?hd (cs := #[.int .i64 a1_0, .bool a1_1, .slice A1_2 l1_2.length c1_2]) (t := 25) ?hr ?_; (case hd => rfl); (case hg => rfl); (case hr => first | (go_simp; done) | (go_simp; rfl)); intro gb290 hg w6 hbox hb; have n0_ := Aside0.mk (below_step (by repeat (first | (with_reducible first | exact HB.out | apply below_alloc | apply pw_below_drewN | apply below_drew1) | exact HB.out)) hb); have n1_ := Aside0.mk (hbox); have n2_ := Aside0.mk ((by rw [hg]; exact (below_size (by repeat (first | (with_reducible first | exact HB.out | apply below_alloc | apply pw_below_drewN | apply below_drew1) | exact HB.out))) : w.heap.size ≤ gb290)); have n3_ := Aside0.mk ((by rw [hg]; exact (below_size (by repeat (first | (with_reducible first | exact HB.out | apply below_alloc | apply pw_below_drewN | apply below_drew1) | exact HB.out))) : w.heap.size ≤ gb290)); clear HB; have HB := n0_; have BK290 := n1_; have GW290 := n2_; have GE290 := n3_; clear n0_ n1_ n2_ n3_; clear hb hbox hg) | ((with_reducible refine gate_callee (f := 10) rfl ?_); refine goesL_ (some 17) rfl rfl Try.func10 (by kernel_rfl) rfl #[] rfl (by (try simp only [List.map_toArray, List.map_cons, List.map_nil]); first | done | rfl | (simp only [List.length_drop, List.length_take]; rfl)) ?_; (with_reducible refine (banksmanlaw05_awake.calls k  t291 _ A4.out).mono ?_); rintro e w7 ⟨rfl, hb⟩; refine ⟨_, rfl, ?_⟩; have n0_ := Aside0.mk (blk_below (g := gb290) (o := .cells #[.int .i64 a1_0, .bool a1_1, .slice A1_2 l1_2.length c1_2] 25 (0, 0)) (by (with_reducible repeat (first | refine blk_drewN ?_ _ | refine blk_drew ?_ | refine blk_alloc ?_ _)); exact BK290.out) hb); have n1_ := Aside0.mk (below_step (by repeat (first | (with_reducible first | exact HB.out | apply below_alloc | apply pw_below_drewN | apply below_drew1 | refine below_set ?_ GE290.out) | exact HB.out)) hb); clear BK290; clear HB; have BK290 := n0_; have HB := n1_; clear n0_ n1_; (try clear hb); (try clear hb2); (try clear hk); (try clear hi)))
  (try simp only [Act.put, List.setIfInBounds_toArray, List.set_cons_zero, List.set_cons_succ])
  go_cut [26] (fun v26 wc => ∃ (kq : Nat) (x26_4 : Bool), v26 = .bool x26_4 ∧ Aside0 (banksmanlaw05_ChainTells.j0 kq l0 a2 t291 x26_4 a1_0 a1_1 l1_2 = some r) ∧ Aside0 (kq ≤ k) ∧ Aside0 (wc.heap[gb290]? = some (.cells #[.int .i64 a1_0, .bool a1_1, (.slice A1_2 l1_2.length c1_2)] 25 (0, 0))) ∧ Aside0 (Below w.heap.size w wc))
  case first =>
    have H := HC5.out
    clear HC5
    replace H := Option.bind_eq_some_iff.mp H
    obtain ⟨t292, A80, H⟩ := H
    replace H : (if t292 = true then (banksmanlaw05_ChainTells.j0 k l0 a2 t291 (decide ((l1_2.length : Int) > 100)) a1_0 a1_1 l1_2) else (banksmanlaw05_ChainTells.j0 k l0 a2 t291 true a1_0 a1_1 l1_2)) = some r := H
    have A8 := Aside0.mk A80
    clear A80
    by_cases c9 : t292 = true
    · subst c9
      have H1 : (banksmanlaw05_ChainTells.j0 k l0 a2 t291 (decide ((l1_2.length : Int) > 100)) a1_0 a1_1 l1_2) = some r := by rw [if_pos rfl] at H; exact H
      clear H
      have H := H1
      clear H1
      have H' := Aside0.mk H
      clear H
      go_wp2_with (first | ((with_reducible refine gate_callee (f := 11) rfl ?_); refine goesL_ (some 19) rfl rfl Try.func11 (by kernel_rfl) rfl #[.slice A0 l0.length c0] rfl (by (try simp only [List.map_toArray, List.map_cons, List.map_nil]); first | done | rfl | (simp only [List.length_drop, List.length_take]; rfl)) ?_; (with_reducible refine (banksmanlaw05_few.calls k _ _ l0 true _ ?side1 ?side2 A8.out).mono ?_); (case side1 => repeat (first | exact (Kd.C_below HR0.out HB.out) | (with_reducible refine Kd.C_alloc ?_ _) | (with_reducible refine Kd.C_drewN ?_ _) | (with_reducible refine Kd.C_drew ?_))); (case side2 => exact HC0.out); rintro e w' ⟨rfl, ⟨nd, rfl⟩⟩; refine ⟨_, rfl, ?_⟩; have hcz10_0 : w7.cell? ⟨gb290, 0, none⟩ = some (.int .i64 a1_0) := (blk_cell BK290.out 0).trans rfl; have hcz10_1 : w7.cell? ⟨gb290, 1, none⟩ = some (.bool a1_1) := (blk_cell BK290.out 1).trans rfl; have hcz10_2 : w7.cell? ⟨gb290, 2, none⟩ = some (.slice A1_2 l1_2.length c1_2) := (blk_cell BK290.out 2).trans rfl; have hfz10_0 := blk_frozen BK290.out 0; have hfz10_1 := blk_frozen BK290.out 1; have hfz10_2 := blk_frozen BK290.out 2))
      go_meet
      case rel => exact ⟨_, (decide ((l1_2.length : Int) > 100)), (by first | rfl | (simp; done) | (simp [*]; done)), H', ⟨by first | omega | exact Nat.le_refl _⟩, ⟨by (with_reducible repeat (first | refine blk_drewN ?_ _ | refine blk_drew ?_ | refine blk_alloc ?_ _)); exact BK290.out⟩, ⟨by repeat (first | (with_reducible first | exact HB.out | apply below_alloc | apply pw_below_drewN | apply below_drew1 | refine below_set ?_ GE290.out) | exact HB.out)⟩⟩
    · replace c9 := Bool.eq_false_iff.mpr c9
      subst c9
      have H1 : (banksmanlaw05_ChainTells.j0 k l0 a2 t291 true a1_0 a1_1 l1_2) = some r := by rw [if_neg (show ¬ (false = true) by decide)] at H; exact H
      clear H
      have H := H1
      clear H1
      have H' := Aside0.mk H
      clear H
      go_wp2_with (first | ((with_reducible refine gate_callee (f := 11) rfl ?_); refine goesL_ (some 19) rfl rfl Try.func11 (by kernel_rfl) rfl #[.slice A0 l0.length c0] rfl (by (try simp only [List.map_toArray, List.map_cons, List.map_nil]); first | done | rfl | (simp only [List.length_drop, List.length_take]; rfl)) ?_; (with_reducible refine (banksmanlaw05_few.calls k _ _ l0 false _ ?side1 ?side2 A8.out).mono ?_); (case side1 => repeat (first | exact (Kd.C_below HR0.out HB.out) | (with_reducible refine Kd.C_alloc ?_ _) | (with_reducible refine Kd.C_drewN ?_ _) | (with_reducible refine Kd.C_drew ?_))); (case side2 => exact HC0.out); rintro e w' ⟨rfl, ⟨nd, rfl⟩⟩; refine ⟨_, rfl, ?_⟩))
      go_meet
      case rel => exact ⟨_, (true), (by first | rfl | (simp; done) | (simp [*]; done)), H', ⟨by first | omega | exact Nat.le_refl _⟩, ⟨by (with_reducible repeat (first | refine blk_drewN ?_ _ | refine blk_drew ?_ | refine blk_alloc ?_ _)); exact BK290.out⟩, ⟨by repeat (first | (with_reducible first | exact HB.out | apply below_alloc | apply pw_below_drewN | apply below_drew1 | refine below_set ?_ GE290.out) | exact HB.out)⟩⟩
  case rest =>
    clear HC5
    try clear c1
    try clear p2
    try clear c3
    try clear c9
    try clear c10
    try clear hcz10_0
    try clear hcz10_1
    try clear hcz10_2
    try clear hfz10_0
    try clear hfz10_1
    try clear hfz10_2
    obtain ⟨kq, x26_4, rfl, HA, HJ4, BK290, HB⟩ := hcut
    cases kq with
    | zero => exact absurd HA.out (by simp [banksmanlaw05_ChainTells.j0])
    | succ kj4 =>
      have H := HA.out
      clear HA
      simp only [banksmanlaw05_ChainTells.j0] at H
      by_cases c11 : x26_4 = true
      · subst c11
        have H1 : (some t291) = some r := by rw [if_pos rfl] at H; exact H
        clear H
        have H := H1
        clear H1
        obtain rfl := Option.some.inj H
        go_wp2
        go_ret
        exact ⟨by first | rfl | (simp [errW_none, errW_some] <;> rfl) | (simp [*, errW_none, errW_some] <;> rfl), by repeat (first | (with_reducible first | exact HB.out | apply below_alloc | apply pw_below_drewN | apply below_drew1 | refine below_set ?_ GE290.out) | exact HB.out)⟩
      · replace c11 := Bool.eq_false_iff.mpr c11
        subst c11
        have H1 : ((chain_Read.f kj4 l0 a2).bind fun bt293 => ((banksmanref05_Read.f kj4 l0 a2).bind fun bt297 => ((chain_Install.f kj4 l0 a1_0 a1_1 l1_2).bind fun bt301 => ((banksmanref05_Install.f kj4 l0 a1_0 a1_1 l1_2).bind fun bt305 => ((banksmanref05_Same.f kj4 bt301.1 bt305.1).bind fun t309 => (if t309 = true then ((chain_Vacuum.f kj4 l0 a2).bind fun t310 => ((banksmanref05_Vacuum.f kj4 l0 a2).bind fun t313 => ((banksmanref05_Same.f kj4 t310 t313).bind fun t316 => (banksmanlaw05_ChainTells.j1 kj4 l0 a2 t291 bt293.1 bt293.2 bt297.1 bt297.2 bt301.2 bt305.2 t316)))) else (banksmanlaw05_ChainTells.j1 kj4 l0 a2 t291 bt293.1 bt293.2 bt297.1 bt297.2 bt301.2 bt305.2 false))))))) = some r := by rw [if_neg (show ¬ (false = true) by decide)] at H; exact H
        clear H
        have H := H1
        clear H1
        replace H := Option.bind_eq_some_iff.mp H
        obtain ⟨⟨t293, t294⟩, A120, H⟩ := H
        replace H : ((banksmanref05_Read.f kj4 l0 a2).bind fun bt297 => ((chain_Install.f kj4 l0 a1_0 a1_1 l1_2).bind fun bt301 => ((banksmanref05_Install.f kj4 l0 a1_0 a1_1 l1_2).bind fun bt305 => ((banksmanref05_Same.f kj4 bt301.1 bt305.1).bind fun t309 => (if t309 = true then ((chain_Vacuum.f kj4 l0 a2).bind fun t310 => ((banksmanref05_Vacuum.f kj4 l0 a2).bind fun t313 => ((banksmanref05_Same.f kj4 t310 t313).bind fun t316 => (banksmanlaw05_ChainTells.j1 kj4 l0 a2 t291 t293 t294 bt297.1 bt297.2 bt301.2 bt305.2 t316)))) else (banksmanlaw05_ChainTells.j1 kj4 l0 a2 t291 t293 t294 bt297.1 bt297.2 bt301.2 bt305.2 false)))))) = some r := H
        have A12 := Aside0.mk A120
        clear A120
        replace H := Option.bind_eq_some_iff.mp H
        obtain ⟨⟨t297, t298⟩, A130, H⟩ := H
        replace H : ((chain_Install.f kj4 l0 a1_0 a1_1 l1_2).bind fun bt301 => ((banksmanref05_Install.f kj4 l0 a1_0 a1_1 l1_2).bind fun bt305 => ((banksmanref05_Same.f kj4 bt301.1 bt305.1).bind fun t309 => (if t309 = true then ((chain_Vacuum.f kj4 l0 a2).bind fun t310 => ((banksmanref05_Vacuum.f kj4 l0 a2).bind fun t313 => ((banksmanref05_Same.f kj4 t310 t313).bind fun t316 => (banksmanlaw05_ChainTells.j1 kj4 l0 a2 t291 t293 t294 t297 t298 bt301.2 bt305.2 t316)))) else (banksmanlaw05_ChainTells.j1 kj4 l0 a2 t291 t293 t294 t297 t298 bt301.2 bt305.2 false))))) = some r := H
        have A13 := Aside0.mk A130
        clear A130
        replace H := Option.bind_eq_some_iff.mp H
        obtain ⟨⟨t301, t304⟩, A140, H⟩ := H
        replace H : ((banksmanref05_Install.f kj4 l0 a1_0 a1_1 l1_2).bind fun bt305 => ((banksmanref05_Same.f kj4 t301 bt305.1).bind fun t309 => (if t309 = true then ((chain_Vacuum.f kj4 l0 a2).bind fun t310 => ((banksmanref05_Vacuum.f kj4 l0 a2).bind fun t313 => ((banksmanref05_Same.f kj4 t310 t313).bind fun t316 => (banksmanlaw05_ChainTells.j1 kj4 l0 a2 t291 t293 t294 t297 t298 t304 bt305.2 t316)))) else (banksmanlaw05_ChainTells.j1 kj4 l0 a2 t291 t293 t294 t297 t298 t304 bt305.2 false)))) = some r := H
        have A14 := Aside0.mk A140
        clear A140
        replace H := Option.bind_eq_some_iff.mp H
        obtain ⟨⟨t305, t308⟩, A150, H⟩ := H
        replace H : ((banksmanref05_Same.f kj4 t301 t305).bind fun t309 => (if t309 = true then ((chain_Vacuum.f kj4 l0 a2).bind fun t310 => ((banksmanref05_Vacuum.f kj4 l0 a2).bind fun t313 => ((banksmanref05_Same.f kj4 t310 t313).bind fun t316 => (banksmanlaw05_ChainTells.j1 kj4 l0 a2 t291 t293 t294 t297 t298 t304 t308 t316)))) else (banksmanlaw05_ChainTells.j1 kj4 l0 a2 t291 t293 t294 t297 t298 t304 t308 false))) = some r := H
        have A15 := Aside0.mk A150
        clear A150
        have HC16 := Aside0.mk H
        clear H
        go_upto_region 8 with (first | ((with_reducible refine gate_callee (f := 12) rfl ?_); refine goesL_ (some 31) rfl rfl Try.func12 (by kernel_rfl) rfl #[.slice A0 l0.length c0, .int .i64 a2] rfl (by (try simp only [List.map_toArray, List.map_cons, List.map_nil]); first | done | rfl | (simp only [List.length_drop, List.length_take]; rfl)) ?_; (with_reducible refine (chain_Read.calls kj4 _ _ l0 a2 t293 t294 _ ?side1 ?side2 A12.out).mono ?_); (case side1 => repeat (first | exact (Kd.C_below HR0.out HB.out) | (with_reducible refine Kd.C_alloc ?_ _) | (with_reducible refine Kd.C_drewN ?_ _) | (with_reducible refine Kd.C_drew ?_))); (case side2 => exact HC0.out); rintro e w17 ⟨v295, rfl, ho0, hb⟩; refine ⟨_, rfl, ?_⟩; have n0_ := Aside0.mk (Kd.R_lower ho0 (below_size (by repeat (first | (with_reducible first | exact HB.out | apply below_alloc | apply pw_below_drewN | apply below_drew1 | refine below_set ?_ GE290.out) | exact HB.out)))); have n1_ := Aside0.mk (blk_below (g := gb290) (o := .cells #[.int .i64 a1_0, .bool a1_1, .slice A1_2 l1_2.length c1_2] 25 (0, 0)) (by (with_reducible repeat (first | refine blk_drewN ?_ _ | refine blk_drew ?_ | refine blk_alloc ?_ _)); exact BK290.out) hb); have n2_ := Aside0.mk (below_step (by repeat (first | (with_reducible first | exact HB.out | apply below_alloc | apply pw_below_drewN | apply below_drew1 | refine below_set ?_ GE290.out) | exact HB.out)) hb); clear BK290; clear HB; have HO296 := n0_; have BK290 := n1_; have HB := n2_; clear n0_ n1_ n2_; (try clear hb); (try clear hb2); (try clear hk); (try clear hi); (try clear ho0)) | ((with_reducible refine gate_callee (f := 13) rfl ?_); refine goesL_ (some 37) rfl rfl Try.func13 (by kernel_rfl) rfl #[.slice A0 l0.length c0, .int .i64 a2] rfl (by (try simp only [List.map_toArray, List.map_cons, List.map_nil]); first | done | rfl | (simp only [List.length_drop, List.length_take]; rfl)) ?_; (with_reducible refine (banksmanref05_Read.calls kj4 _ _ l0 a2 t297 t298 _ ?side1 ?side2 A13.out).mono ?_); (case side1 => repeat (first | exact (Kd.C_below HR0.out HB.out) | (with_reducible refine Kd.C_alloc ?_ _) | (with_reducible refine Kd.C_drewN ?_ _) | (with_reducible refine Kd.C_drew ?_))); (case side2 => exact HC0.out); rintro e w18 ⟨v299, rfl, ho0, hb⟩; refine ⟨_, rfl, ?_⟩; have n0_ := Aside0.mk (Kd.R_elder' (by (with_reducible repeat (first | apply Kd.R_alloc | apply Kd.R_drewN | apply Kd.R_drew)); exact HO296.out) (Kd.R_base ho0) hb); have n1_ := Aside0.mk (Kd.R_lower (Kd.R_new' ho0 (Kd.R_lt (by (with_reducible repeat (first | apply Kd.R_alloc | apply Kd.R_drewN | apply Kd.R_drew)); exact HO296.out))) (below_size (by repeat (first | (with_reducible first | exact HB.out | apply below_alloc | apply pw_below_drewN | apply below_drew1 | refine below_set ?_ GE290.out) | exact HB.out)))); have n2_ := Aside0.mk (blk_below (g := gb290) (o := .cells #[.int .i64 a1_0, .bool a1_1, .slice A1_2 l1_2.length c1_2] 25 (0, 0)) (by (with_reducible repeat (first | refine blk_drewN ?_ _ | refine blk_drew ?_ | refine blk_alloc ?_ _)); exact BK290.out) hb); have n3_ := Aside0.mk (below_step (by repeat (first | (with_reducible first | exact HB.out | apply below_alloc | apply pw_below_drewN | apply below_drew1 | refine below_set ?_ GE290.out) | exact HB.out)) hb); clear HO296; clear BK290; clear HB; have HO296 := n0_; have HO300 := n1_; have BK290 := n2_; have HB := n3_; clear n0_ n1_ n2_ n3_; (try clear hb); (try clear hb2); (try clear hk); (try clear hi); (try clear ho0); have hcz19_0 : w18.cell? ⟨gb290, 0, none⟩ = some (.int .i64 a1_0) := (blk_cell BK290.out 0).trans rfl; have hcz19_1 : w18.cell? ⟨gb290, 1, none⟩ = some (.bool a1_1) := (blk_cell BK290.out 1).trans rfl; have hcz19_2 : w18.cell? ⟨gb290, 2, none⟩ = some (.slice A1_2 l1_2.length c1_2) := (blk_cell BK290.out 2).trans rfl; have hfz19_0 := blk_frozen BK290.out 0; have hfz19_1 := blk_frozen BK290.out 1; have hfz19_2 := blk_frozen BK290.out 2) | ((with_reducible refine gate_callee (f := 14) rfl ?_); refine goesL_ (some 43) rfl rfl Try.func14 (by kernel_rfl) rfl #[.slice A0 l0.length c0, .agg #[.int .i64 a1_0, .bool a1_1, .slice A1_2 l1_2.length c1_2]] rfl (by (try simp only [List.map_toArray, List.map_cons, List.map_nil]); first | done | rfl | (simp only [List.length_drop, List.length_take]; rfl)) ?_; (with_reducible refine (chain_Install.calls kj4 (fun k_ => k_ < w.heap.size) _ _ l0 a1_0 a1_1 (fun k_ => k_ < w.heap.size) _ _ l1_2 t301 t304 _ ?side1 ?side2 A14.out).mono ?_); (case side1 => exact Kd.V_mk HC0.out (Kd.F_below (Kd.C_F k25_heap HR0.out) (by repeat (first | (with_reducible first | exact HB.out | apply below_alloc | apply pw_below_drewN | apply below_drew1 | refine below_set ?_ GE290.out) | exact HB.out)))); (case side2 => exact Kd.V_mk HC1_2.out (Kd.F_below (Kd.C_F (Kd.heap_int .u8) HR1_2.out) (by repeat (first | (with_reducible first | exact HB.out | apply below_alloc | apply pw_below_drewN | apply below_drew1 | refine below_set ?_ GE290.out) | exact HB.out)))); rintro e w20 ⟨v302, rfl, ho0, hb⟩; refine ⟨_, rfl, ?_⟩; have n0_ := Aside0.mk (Kd.R_below (by (with_reducible repeat (first | apply Kd.R_alloc | apply Kd.R_drewN | apply Kd.R_drew)); exact HO296.out) hb); have n1_ := Aside0.mk (Kd.R_below (by (with_reducible repeat (first | apply Kd.R_alloc | apply Kd.R_drewN | apply Kd.R_drew)); exact HO300.out) hb); have n2_ := Aside0.mk (Kd.V_lower (Kd.V_mono (ok' := fun k_ => some k_ ≠ (v295 : Value).ownBlock ∧ some k_ ≠ (v299 : Value).ownBlock ∧ k_ ≠ gb290) ho0 (fun k_ hk_ => ⟨Or.elim hk_ (fun hs_ => Or.elim hs_ (fun hs_ => fun e_ => Nat.not_le.2 hs_ (Kd.R_base HO296.out k_ e_.symm)) (fun hs_ => fun e_ => Nat.not_le.2 hs_ (Kd.R_base HO296.out k_ e_.symm))) (fun hn_ => (Kd.fresh' (Kd.R_lt (by (with_reducible repeat (first | apply Kd.R_alloc | apply Kd.R_drewN | apply Kd.R_drew)); exact HO296.out)) k_ hn_)), Or.elim hk_ (fun hs_ => Or.elim hs_ (fun hs_ => fun e_ => Nat.not_le.2 hs_ (Kd.R_base HO300.out k_ e_.symm)) (fun hs_ => fun e_ => Nat.not_le.2 hs_ (Kd.R_base HO300.out k_ e_.symm))) (fun hn_ => (Kd.fresh' (Kd.R_lt (by (with_reducible repeat (first | apply Kd.R_alloc | apply Kd.R_drewN | apply Kd.R_drew)); exact HO300.out)) k_ hn_)), Or.elim hk_ (fun hs_ => Or.elim hs_ (fun hs_ => fun e_ => Nat.not_le.2 hs_ (by rw [e_]; exact GW290.out)) (fun hs_ => fun e_ => Nat.not_le.2 hs_ (by rw [e_]; exact GW290.out))) (fun hn_ => (Kd.freshB (g := gb290) (o := .cells #[.int .i64 a1_0, .bool a1_1, .slice A1_2 l1_2.length c1_2] 25 (0, 0)) (by (with_reducible repeat (first | refine blk_drewN ?_ _ | refine blk_drew ?_ | refine blk_alloc ?_ _)); exact BK290.out) k_ hn_))⟩)) (below_size (by repeat (first | (with_reducible first | exact HB.out | apply below_alloc | apply pw_below_drewN | apply below_drew1 | refine below_set ?_ GE290.out) | exact HB.out)))); have n3_ := Aside0.mk (blk_below (g := gb290) (o := .cells #[.int .i64 a1_0, .bool a1_1, .slice A1_2 l1_2.length c1_2] 25 (0, 0)) (by (with_reducible repeat (first | refine blk_drewN ?_ _ | refine blk_drew ?_ | refine blk_alloc ?_ _)); exact BK290.out) hb); have n4_ := Aside0.mk (below_step (by repeat (first | (with_reducible first | exact HB.out | apply below_alloc | apply pw_below_drewN | apply below_drew1 | refine below_set ?_ GE290.out) | exact HB.out)) hb); clear HO296; clear HO300; clear BK290; clear HB; have HO296 := n0_; have HO300 := n1_; have HO303 := n2_; have BK290 := n3_; have HB := n4_; clear n0_ n1_ n2_ n3_ n4_; (try clear hb); (try clear hb2); (try clear hk); (try clear hi); (try clear ho0); have hcz21_0 : w20.cell? ⟨gb290, 0, none⟩ = some (.int .i64 a1_0) := (blk_cell BK290.out 0).trans rfl; have hcz21_1 : w20.cell? ⟨gb290, 1, none⟩ = some (.bool a1_1) := (blk_cell BK290.out 1).trans rfl; have hcz21_2 : w20.cell? ⟨gb290, 2, none⟩ = some (.slice A1_2 l1_2.length c1_2) := (blk_cell BK290.out 2).trans rfl; have hfz21_0 := blk_frozen BK290.out 0; have hfz21_1 := blk_frozen BK290.out 1; have hfz21_2 := blk_frozen BK290.out 2) | ((with_reducible refine gate_callee (f := 15) rfl ?_); refine goesL_ (some 49) rfl rfl Try.func15 (by kernel_rfl) rfl #[.slice A0 l0.length c0, .agg #[.int .i64 a1_0, .bool a1_1, .slice A1_2 l1_2.length c1_2]] rfl (by (try simp only [List.map_toArray, List.map_cons, List.map_nil]); first | done | rfl | (simp only [List.length_drop, List.length_take]; rfl)) ?_; (with_reducible refine (banksmanref05_Install.calls kj4 (fun k_ => k_ < w.heap.size) _ _ l0 a1_0 a1_1 (fun k_ => k_ < w.heap.size) _ _ l1_2 t305 t308 _ ?side1 ?side2 A15.out).mono ?_); (case side1 => exact Kd.V_mk HC0.out (Kd.F_below (Kd.C_F k25_heap HR0.out) (by repeat (first | (with_reducible first | exact HB.out | apply below_alloc | apply pw_below_drewN | apply below_drew1 | refine below_set ?_ GE290.out) | exact HB.out)))); (case side2 => exact Kd.V_mk HC1_2.out (Kd.F_below (Kd.C_F (Kd.heap_int .u8) HR1_2.out) (by repeat (first | (with_reducible first | exact HB.out | apply below_alloc | apply pw_below_drewN | apply below_drew1 | refine below_set ?_ GE290.out) | exact HB.out)))); rintro e w22 ⟨v306, rfl, ho0, hb⟩; refine ⟨_, rfl, ?_⟩; have n0_ := Aside0.mk (Kd.R_below (by (with_reducible repeat (first | apply Kd.R_alloc | apply Kd.R_drewN | apply Kd.R_drew)); exact HO296.out) hb); have n1_ := Aside0.mk (Kd.R_below (by (with_reducible repeat (first | apply Kd.R_alloc | apply Kd.R_drewN | apply Kd.R_drew)); exact HO300.out) hb); have n2_ := Aside0.mk (Kd.V_elder' (by (with_reducible repeat (first | apply Kd.V_alloc | apply Kd.V_drewN | apply Kd.V_drew)); exact HO303.out) (by first | exact Kd.N_base ho0 | exact Kd.S_base ho0 | exact Kd.R_base ho0) hb); have n3_ := Aside0.mk (Kd.N_lower (Kd.N_mono (ok' := fun k_ => some k_ ≠ (v295 : Value).ownBlock ∧ some k_ ≠ (v299 : Value).ownBlock ∧ k_ ≠ gb290) ho0 (fun k_ hk_ => ⟨Or.elim hk_ (fun hs_ => Or.elim hs_ (fun hs_ => fun e_ => Nat.not_le.2 hs_ (Kd.R_base HO296.out k_ e_.symm)) (fun hs_ => fun e_ => Nat.not_le.2 hs_ (Kd.R_base HO296.out k_ e_.symm))) (fun hn_ => (Kd.fresh' (Kd.R_lt (by (with_reducible repeat (first | apply Kd.R_alloc | apply Kd.R_drewN | apply Kd.R_drew)); exact HO296.out)) k_ hn_)), Or.elim hk_ (fun hs_ => Or.elim hs_ (fun hs_ => fun e_ => Nat.not_le.2 hs_ (Kd.R_base HO300.out k_ e_.symm)) (fun hs_ => fun e_ => Nat.not_le.2 hs_ (Kd.R_base HO300.out k_ e_.symm))) (fun hn_ => (Kd.fresh' (Kd.R_lt (by (with_reducible repeat (first | apply Kd.R_alloc | apply Kd.R_drewN | apply Kd.R_drew)); exact HO300.out)) k_ hn_)), Or.elim hk_ (fun hs_ => Or.elim hs_ (fun hs_ => fun e_ => Nat.not_le.2 hs_ (by rw [e_]; exact GW290.out)) (fun hs_ => fun e_ => Nat.not_le.2 hs_ (by rw [e_]; exact GW290.out))) (fun hn_ => (Kd.freshB (g := gb290) (o := .cells #[.int .i64 a1_0, .bool a1_1, .slice A1_2 l1_2.length c1_2] 25 (0, 0)) (by (with_reducible repeat (first | refine blk_drewN ?_ _ | refine blk_drew ?_ | refine blk_alloc ?_ _)); exact BK290.out) k_ hn_))⟩)) (below_size (by repeat (first | (with_reducible first | exact HB.out | apply below_alloc | apply pw_below_drewN | apply below_drew1 | refine below_set ?_ GE290.out) | exact HB.out)))); have n4_ := Aside0.mk (blk_below (g := gb290) (o := .cells #[.int .i64 a1_0, .bool a1_1, .slice A1_2 l1_2.length c1_2] 25 (0, 0)) (by (with_reducible repeat (first | refine blk_drewN ?_ _ | refine blk_drew ?_ | refine blk_alloc ?_ _)); exact BK290.out) hb); have n5_ := Aside0.mk (below_step (by repeat (first | (with_reducible first | exact HB.out | apply below_alloc | apply pw_below_drewN | apply below_drew1 | refine below_set ?_ GE290.out) | exact HB.out)) hb); clear HO296; clear HO300; clear HO303; clear BK290; clear HB; have HO296 := n0_; have HO300 := n1_; have HO303 := n2_; have HO307 := n3_; have BK290 := n4_; have HB := n5_; clear n0_ n1_ n2_ n3_ n4_ n5_; (try clear hb); (try clear hb2); (try clear hk); (try clear hi); (try clear ho0)))
        (try simp only [Act.put, List.setIfInBounds_toArray, List.set_cons_zero, List.set_cons_succ])
        go_cut [16] (fun v16 wc => ∃ (kq : Nat) (x16_15 : Bool), v16 = .bool x16_15 ∧ Aside0 (banksmanlaw05_ChainTells.j1 kq l0 a2 t291 t293 t294 t297 t298 t304 t308 x16_15 = some r) ∧ Aside0 (kq ≤ kj4) ∧ Aside0 (Kd.R (Kd.int .u8) 5 wc w.heap.size (fun k_ => some k_ ≠ (v299 : Value).ownBlock) v295 t293) ∧ Aside0 (Kd.R (Kd.int .u8) 5 wc w.heap.size (fun k_ => some k_ ≠ (v295 : Value).ownBlock) v299 t297) ∧ Aside0 (wc.heap[gb290]? = some (.cells #[.int .i64 a1_0, .bool a1_1, (.slice A1_2 l1_2.length c1_2)] 25 (0, 0))) ∧ Aside0 (Below w.heap.size w wc))
        case first =>
          have H := HC16.out
          clear HC16
          replace H := Option.bind_eq_some_iff.mp H
          obtain ⟨t309, A230, H⟩ := H
          replace H : (if t309 = true then ((chain_Vacuum.f kj4 l0 a2).bind fun t310 => ((banksmanref05_Vacuum.f kj4 l0 a2).bind fun t313 => ((banksmanref05_Same.f kj4 t310 t313).bind fun t316 => (banksmanlaw05_ChainTells.j1 kj4 l0 a2 t291 t293 t294 t297 t298 t304 t308 t316)))) else (banksmanlaw05_ChainTells.j1 kj4 l0 a2 t291 t293 t294 t297 t298 t304 t308 false)) = some r := H
          have A23 := Aside0.mk A230
          clear A230
          by_cases c24 : t309 = true
          · subst c24
            have H1 : ((chain_Vacuum.f kj4 l0 a2).bind fun t310 => ((banksmanref05_Vacuum.f kj4 l0 a2).bind fun t313 => ((banksmanref05_Same.f kj4 t310 t313).bind fun t316 => (banksmanlaw05_ChainTells.j1 kj4 l0 a2 t291 t293 t294 t297 t298 t304 t308 t316)))) = some r := by rw [if_pos rfl] at H; exact H
            clear H
            have H := H1
            clear H1
            replace H := Option.bind_eq_some_iff.mp H
            obtain ⟨t310, A250, H⟩ := H
            replace H : ((banksmanref05_Vacuum.f kj4 l0 a2).bind fun t313 => ((banksmanref05_Same.f kj4 t310 t313).bind fun t316 => (banksmanlaw05_ChainTells.j1 kj4 l0 a2 t291 t293 t294 t297 t298 t304 t308 t316))) = some r := H
            have A25 := Aside0.mk A250
            clear A250
            replace H := Option.bind_eq_some_iff.mp H
            obtain ⟨t313, A260, H⟩ := H
            replace H : ((banksmanref05_Same.f kj4 t310 t313).bind fun t316 => (banksmanlaw05_ChainTells.j1 kj4 l0 a2 t291 t293 t294 t297 t298 t304 t308 t316)) = some r := H
            have A26 := Aside0.mk A260
            clear A260
            replace H := Option.bind_eq_some_iff.mp H
            obtain ⟨t316, A270, H⟩ := H
            replace H : (banksmanlaw05_ChainTells.j1 kj4 l0 a2 t291 t293 t294 t297 t298 t304 t308 t316) = some r := H
            have A27 := Aside0.mk A270
            clear A270
            have H' := Aside0.mk H
            clear H
            obtain ⟨Ao28, co28, eo28⟩ := Kd.V_slice HO303.out
            subst eo28
            obtain ⟨Ao29, co29, eo29⟩ := Kd.N_slice HO307.out
            subst eo29
            go_wp2_with (first | ((with_reducible refine gate_callee (f := 16) rfl ?_); refine goesL_ (some 54) rfl rfl Try.func16 (by kernel_rfl) rfl #[.slice Ao28 t301.length co28, .slice Ao29 t305.length co29] rfl (by (try simp only [List.map_toArray, List.map_cons, List.map_nil]); first | done | rfl | (simp only [List.length_drop, List.length_take]; rfl)) ?_; (with_reducible refine (banksmanref05_Same.calls kj4 _ _ t301 _ _ t305 true _ ?side1 ?side2 ?side3 ?side4 A23.out).mono ?_); (case side1 => repeat (first | exact (Kd.V_reads' HO303.out).2.2 | (with_reducible refine Kd.C_alloc ?_ _) | (with_reducible refine Kd.C_drewN ?_ _) | (with_reducible refine Kd.C_drew ?_))); (case side2 => exact (Kd.V_reads' HO303.out).2.1); (case side3 => repeat (first | exact (Kd.N_reads' HO307.out).2.2 | (with_reducible refine Kd.C_alloc ?_ _) | (with_reducible refine Kd.C_drewN ?_ _) | (with_reducible refine Kd.C_drew ?_))); (case side4 => exact (Kd.N_reads' HO307.out).2.1); rintro e w' ⟨rfl, ⟨nd, rfl⟩⟩; refine ⟨_, rfl, ?_⟩) | (go_at_call 17; (with_reducible refine (chain_Vacuum.calls kj4 _ _ l0 a2 t310 _ ?side1 ?side2 A25.out).mono ?_); (case side1 => repeat (first | exact (Kd.C_below HR0.out (by repeat (first | (with_reducible first | exact HB.out | apply below_alloc | apply pw_below_drewN | apply below_drew1 | refine below_set ?_ GE290.out) | exact HB.out))) | (with_reducible refine Kd.C_alloc ?_ _) | (with_reducible refine Kd.C_drewN ?_ _) | (with_reducible refine Kd.C_drew ?_))); (case side2 => exact HC0.out); rintro e w30 ⟨v311, rfl, ho0, hb⟩; have n0_ := Aside0.mk (Kd.R_below (by (with_reducible repeat (first | apply Kd.R_alloc | apply Kd.R_drewN | apply Kd.R_drew)); exact HO296.out) hb); have n1_ := Aside0.mk (Kd.R_below (by (with_reducible repeat (first | apply Kd.R_alloc | apply Kd.R_drewN | apply Kd.R_drew)); exact HO300.out) hb); have n2_ := Aside0.mk (Kd.V_below (by (with_reducible repeat (first | apply Kd.V_alloc | apply Kd.V_drewN | apply Kd.V_drew)); exact HO303.out) hb); have n3_ := Aside0.mk (Kd.N_below (by (with_reducible repeat (first | apply Kd.N_alloc | apply Kd.N_drewN | apply Kd.N_drew)); exact HO307.out) hb); have n4_ := Aside0.mk (Kd.V_lower (Kd.V_mono (ok' := fun k_ => some k_ ≠ (v295 : Value).ownBlock ∧ some k_ ≠ (v299 : Value).ownBlock ∧ some k_ ≠ (.slice Ao29 t305.length co29 : Value).ownBlock ∧ k_ ≠ gb290) ho0 (fun k_ hk_ => ⟨(Kd.fresh' (Kd.R_lt (by (with_reducible repeat (first | apply Kd.R_alloc | apply Kd.R_drewN | apply Kd.R_drew)); exact HO296.out)) k_ hk_), (Kd.fresh' (Kd.R_lt (by (with_reducible repeat (first | apply Kd.R_alloc | apply Kd.R_drewN | apply Kd.R_drew)); exact HO300.out)) k_ hk_), (Kd.fresh' (Kd.N_lt (by (with_reducible repeat (first | apply Kd.N_alloc | apply Kd.N_drewN | apply Kd.N_drew)); exact HO307.out)) k_ hk_), (Kd.freshB (g := gb290) (o := .cells #[.int .i64 a1_0, .bool a1_1, .slice A1_2 l1_2.length c1_2] 25 (0, 0)) (by (with_reducible repeat (first | refine blk_drewN ?_ _ | refine blk_drew ?_ | refine blk_alloc ?_ _)); exact BK290.out) k_ hk_)⟩)) (below_size (by repeat (first | (with_reducible first | exact HB.out | apply below_alloc | apply pw_below_drewN | apply below_drew1 | refine below_set ?_ GE290.out) | exact HB.out)))); have n5_ := Aside0.mk (blk_below (g := gb290) (o := .cells #[.int .i64 a1_0, .bool a1_1, .slice A1_2 l1_2.length c1_2] 25 (0, 0)) (by (with_reducible repeat (first | refine blk_drewN ?_ _ | refine blk_drew ?_ | refine blk_alloc ?_ _)); exact BK290.out) hb); have n6_ := Aside0.mk (below_step (by repeat (first | (with_reducible first | exact HB.out | apply below_alloc | apply pw_below_drewN | apply below_drew1 | refine below_set ?_ GE290.out) | exact HB.out)) hb); clear HO296; clear HO300; clear HO303; clear HO307; clear BK290; clear HB; have HO296 := n0_; have HO300 := n1_; have HO303 := n2_; have HO307 := n3_; have HO312 := n4_; have BK290 := n5_; have HB := n6_; clear n0_ n1_ n2_ n3_ n4_ n5_ n6_; (try clear hb); (try clear hb2); (try clear hk); (try clear hi); (try clear ho0)) | (go_at_call 18; (with_reducible refine (banksmanref05_Vacuum.calls kj4 _ _ l0 a2 t313 _ ?side1 ?side2 A26.out).mono ?_); (case side1 => repeat (first | exact (Kd.C_below HR0.out HB.out) | (with_reducible refine Kd.C_alloc ?_ _) | (with_reducible refine Kd.C_drewN ?_ _) | (with_reducible refine Kd.C_drew ?_))); (case side2 => exact HC0.out); rintro e w31 ⟨v314, rfl, ho0, hb⟩; have n0_ := Aside0.mk (Kd.R_below (by (with_reducible repeat (first | apply Kd.R_alloc | apply Kd.R_drewN | apply Kd.R_drew)); exact HO296.out) hb); have n1_ := Aside0.mk (Kd.R_below (by (with_reducible repeat (first | apply Kd.R_alloc | apply Kd.R_drewN | apply Kd.R_drew)); exact HO300.out) hb); have n2_ := Aside0.mk (Kd.V_elder' (by (with_reducible repeat (first | apply Kd.V_alloc | apply Kd.V_drewN | apply Kd.V_drew)); exact HO303.out) (by first | exact Kd.N_base ho0 | exact Kd.S_base ho0 | exact Kd.R_base ho0) hb); have n3_ := Aside0.mk (Kd.N_elder' (by (with_reducible repeat (first | apply Kd.N_alloc | apply Kd.N_drewN | apply Kd.N_drew)); exact HO307.out) (by first | exact Kd.N_base ho0 | exact Kd.S_base ho0 | exact Kd.R_base ho0) hb); have n4_ := Aside0.mk (Kd.V_elder' (by (with_reducible repeat (first | apply Kd.V_alloc | apply Kd.V_drewN | apply Kd.V_drew)); exact HO312.out) (by first | exact Kd.N_base ho0 | exact Kd.S_base ho0 | exact Kd.R_base ho0) hb); have n5_ := Aside0.mk (Kd.N_lower (Kd.N_mono (ok' := fun k_ => some k_ ≠ (v295 : Value).ownBlock ∧ some k_ ≠ (v299 : Value).ownBlock ∧ some k_ ≠ (.slice Ao29 t305.length co29 : Value).ownBlock ∧ k_ ≠ gb290) (Kd.S_N (Kd.S_bound ho0)) (fun k_ hk_ => ⟨(Kd.fresh' (Kd.R_lt (by (with_reducible repeat (first | apply Kd.R_alloc | apply Kd.R_drewN | apply Kd.R_drew)); exact HO296.out)) k_ hk_.2.1), (Kd.fresh' (Kd.R_lt (by (with_reducible repeat (first | apply Kd.R_alloc | apply Kd.R_drewN | apply Kd.R_drew)); exact HO300.out)) k_ hk_.2.1), (Kd.fresh' (Kd.N_lt (by (with_reducible repeat (first | apply Kd.N_alloc | apply Kd.N_drewN | apply Kd.N_drew)); exact HO307.out)) k_ hk_.2.1), (Kd.freshB (g := gb290) (o := .cells #[.int .i64 a1_0, .bool a1_1, .slice A1_2 l1_2.length c1_2] 25 (0, 0)) (by (with_reducible repeat (first | refine blk_drewN ?_ _ | refine blk_drew ?_ | refine blk_alloc ?_ _)); exact BK290.out) k_ hk_.2.1)⟩)) (below_size (by repeat (first | (with_reducible first | exact HB.out | apply below_alloc | apply pw_below_drewN | apply below_drew1 | refine below_set ?_ GE290.out) | exact HB.out)))); have n6_ := Aside0.mk (blk_below (g := gb290) (o := .cells #[.int .i64 a1_0, .bool a1_1, .slice A1_2 l1_2.length c1_2] 25 (0, 0)) (by (with_reducible repeat (first | refine blk_drewN ?_ _ | refine blk_drew ?_ | refine blk_alloc ?_ _)); exact BK290.out) hb); have n7_ := Aside0.mk (below_step (by repeat (first | (with_reducible first | exact HB.out | apply below_alloc | apply pw_below_drewN | apply below_drew1 | refine below_set ?_ GE290.out) | exact HB.out)) hb); clear HO296; clear HO300; clear HO303; clear HO307; clear HO312; clear BK290; clear HB; have HO296 := n0_; have HO300 := n1_; have HO303 := n2_; have HO307 := n3_; have HO312 := n4_; have HO315 := n5_; have BK290 := n6_; have HB := n7_; clear n0_ n1_ n2_ n3_ n4_ n5_ n6_ n7_; (try clear hb); (try clear hb2); (try clear hk); (try clear hi); (try clear ho0); obtain ⟨Ao32, co32, eo32⟩ := Kd.V_slice HO312.out; subst eo32; obtain ⟨Ao33, co33, eo33⟩ := Kd.N_slice HO315.out; subst eo33) | (go_at_call 16; (with_reducible refine (banksmanref05_Same.calls kj4 _ _ t310 _ _ t313 t316 _ ?side1 ?side2 ?side3 ?side4 A27.out).mono ?_); (case side1 => repeat (first | exact (Kd.V_reads' HO312.out).2.2 | (with_reducible refine Kd.C_alloc ?_ _) | (with_reducible refine Kd.C_drewN ?_ _) | (with_reducible refine Kd.C_drew ?_))); (case side2 => exact (Kd.V_reads' HO312.out).2.1); (case side3 => repeat (first | exact (Kd.N_reads' HO315.out).2.2 | (with_reducible refine Kd.C_alloc ?_ _) | (with_reducible refine Kd.C_drewN ?_ _) | (with_reducible refine Kd.C_drew ?_))); (case side4 => exact (Kd.N_reads' HO315.out).2.1); rintro e w' ⟨rfl, ⟨nd, rfl⟩⟩))
            go_meet
            case rel => exact ⟨_, (t316), (by first | rfl | (simp; done) | (simp [*]; done)), H', ⟨by have := HJ4.out; first | omega | exact Nat.le_refl _⟩, ⟨by (with_reducible repeat (first | apply Kd.R_alloc | apply Kd.R_drewN | apply Kd.R_drew)); exact Kd.R_mono HO296.out (fun _ hk => hk.2)⟩, ⟨by (with_reducible repeat (first | apply Kd.R_alloc | apply Kd.R_drewN | apply Kd.R_drew)); exact Kd.R_mono HO300.out (fun _ hk => hk.2)⟩, ⟨by (with_reducible repeat (first | refine blk_drewN ?_ _ | refine blk_drew ?_ | refine blk_alloc ?_ _)); exact BK290.out⟩, ⟨by repeat (first | (with_reducible first | exact HB.out | apply below_alloc | apply pw_below_drewN | apply below_drew1 | refine below_set ?_ GE290.out) | exact HB.out)⟩⟩
          · replace c24 := Bool.eq_false_iff.mpr c24
            subst c24
            have H1 : (banksmanlaw05_ChainTells.j1 kj4 l0 a2 t291 t293 t294 t297 t298 t304 t308 false) = some r := by rw [if_neg (show ¬ (false = true) by decide)] at H; exact H
            clear H
            have H := H1
            clear H1
            have H' := Aside0.mk H
            clear H
            obtain ⟨Ao34, co34, eo34⟩ := Kd.V_slice HO303.out
            subst eo34
            obtain ⟨Ao35, co35, eo35⟩ := Kd.N_slice HO307.out
            subst eo35
            go_wp2_with (first | ((with_reducible refine gate_callee (f := 16) rfl ?_); refine goesL_ (some 54) rfl rfl Try.func16 (by kernel_rfl) rfl #[.slice Ao34 t301.length co34, .slice Ao35 t305.length co35] rfl (by (try simp only [List.map_toArray, List.map_cons, List.map_nil]); first | done | rfl | (simp only [List.length_drop, List.length_take]; rfl)) ?_; (with_reducible refine (banksmanref05_Same.calls kj4 _ _ t301 _ _ t305 false _ ?side1 ?side2 ?side3 ?side4 A23.out).mono ?_); (case side1 => repeat (first | exact (Kd.V_reads' HO303.out).2.2 | (with_reducible refine Kd.C_alloc ?_ _) | (with_reducible refine Kd.C_drewN ?_ _) | (with_reducible refine Kd.C_drew ?_))); (case side2 => exact (Kd.V_reads' HO303.out).2.1); (case side3 => repeat (first | exact (Kd.N_reads' HO307.out).2.2 | (with_reducible refine Kd.C_alloc ?_ _) | (with_reducible refine Kd.C_drewN ?_ _) | (with_reducible refine Kd.C_drew ?_))); (case side4 => exact (Kd.N_reads' HO307.out).2.1); rintro e w' ⟨rfl, ⟨nd, rfl⟩⟩; refine ⟨_, rfl, ?_⟩))
            go_meet
            case rel => exact ⟨_, (false), (by first | rfl | (simp; done) | (simp [*]; done)), H', ⟨by have := HJ4.out; first | omega | exact Nat.le_refl _⟩, ⟨by (with_reducible repeat (first | apply Kd.R_alloc | apply Kd.R_drewN | apply Kd.R_drew)); exact Kd.R_mono HO296.out (fun _ hk => hk.2)⟩, ⟨by (with_reducible repeat (first | apply Kd.R_alloc | apply Kd.R_drewN | apply Kd.R_drew)); exact Kd.R_mono HO300.out (fun _ hk => hk.2)⟩, ⟨by (with_reducible repeat (first | refine blk_drewN ?_ _ | refine blk_drew ?_ | refine blk_alloc ?_ _)); exact BK290.out⟩, ⟨by repeat (first | (with_reducible first | exact HB.out | apply below_alloc | apply pw_below_drewN | apply below_drew1 | refine below_set ?_ GE290.out) | exact HB.out)⟩⟩
        case rest =>
          clear HC16
          try clear c1
          try clear c2
          try clear p2
          try clear c3
          try clear c9
          try clear c10
          try clear c11
          try clear c12
          try clear c13
          try clear c14
          try clear c15
          try clear c16
          try clear c24
          try clear hcz10_0
          try clear hcz10_1
          try clear hcz10_2
          try clear hcz19_0
          try clear hcz19_1
          try clear hcz19_2
          try clear hcz21_0
          try clear hcz21_1
          try clear hcz21_2
          try clear hfz10_0
          try clear hfz10_1
          try clear hfz10_2
          try clear hfz19_0
          try clear hfz19_1
          try clear hfz19_2
          try clear hfz21_0
          try clear hfz21_1
          try clear hfz21_2
          try clear p2
          obtain ⟨kq, x16_15, rfl, HA, HJ15, HO_8, HO_10, BK290, HB⟩ := hcut
          cases kq with
          | zero => exact absurd HA.out (by simp [banksmanlaw05_ChainTells.j1])
          | succ kj15 =>
            have H := HA.out
            clear HA
            simp only [banksmanlaw05_ChainTells.j1] at H
            by_cases c36 : t291 = true
            · subst c36
              have H1 : ((chain_Check.f kj15 l0).bind fun t317 => ((banksmanref05_Check.f kj15 l0).bind fun t318 => (if (t317 == t318) = true then (if (strOfNums t293).toList = (strOfNums t297).toList then (if (t294 == t298) = true then (if x16_15 = true then (if t304 = t308 then ((chain_Newer.f kj15 l0 a2).bind fun t319 => ((banksmanref05_Newer.f kj15 l0 a2).bind fun t320 => (some (t319 == t320)))) else (some false)) else (some false)) else (some false)) else (some false)) else (some false)))) = some r := by rw [if_pos rfl] at H; exact H
              clear H
              have H := H1
              clear H1
              replace H := Option.bind_eq_some_iff.mp H
              obtain ⟨t317, A370, H⟩ := H
              replace H : ((banksmanref05_Check.f kj15 l0).bind fun t318 => (if (t317 == t318) = true then (if (strOfNums t293).toList = (strOfNums t297).toList then (if (t294 == t298) = true then (if x16_15 = true then (if t304 = t308 then ((chain_Newer.f kj15 l0 a2).bind fun t319 => ((banksmanref05_Newer.f kj15 l0 a2).bind fun t320 => (some (t319 == t320)))) else (some false)) else (some false)) else (some false)) else (some false)) else (some false))) = some r := H
              have A37 := Aside0.mk A370
              clear A370
              replace H := Option.bind_eq_some_iff.mp H
              obtain ⟨t318, A380, H⟩ := H
              replace H : (if (t317 == t318) = true then (if (strOfNums t293).toList = (strOfNums t297).toList then (if (t294 == t298) = true then (if x16_15 = true then (if t304 = t308 then ((chain_Newer.f kj15 l0 a2).bind fun t319 => ((banksmanref05_Newer.f kj15 l0 a2).bind fun t320 => (some (t319 == t320)))) else (some false)) else (some false)) else (some false)) else (some false)) else (some false)) = some r := H
              have A38 := Aside0.mk A380
              clear A380
              by_cases c39 : (t317 == t318) = true
              · rw [if_pos c39] at H
                have c39b0 : (t317 == t318) = true := c39
                (try (have c39b1 : decide (t317 = t318) = true := by simpa using c39))
                (try (have c39b2 : (t317 == t318) = true := by simpa using c39))
                clear c39
                by_cases c40 : (strOfNums t293).toList = (strOfNums t297).toList
                · rw [if_pos c40] at H
                  have c40b0 : ((strOfNums t293).toList == (strOfNums t297).toList) = true := beq_iff_eq.mpr c40
                  have c40b1 : ((strOfNums t293).toList != (strOfNums t297).toList) = false := bne_eq_false_iff_eq.mpr c40
                  clear c40
                  by_cases c41 : (t294 == t298) = true
                  · rw [if_pos c41] at H
                    have c41b0 : (t294 == t298) = true := c41
                    (try (have c41b1 : decide (t294 = t298) = true := by simpa using c41))
                    (try (have c41b2 : (t294 == t298) = true := by simpa using c41))
                    clear c41
                    by_cases c42 : x16_15 = true
                    · subst c42
                      have H1 : (if t304 = t308 then ((chain_Newer.f kj15 l0 a2).bind fun t319 => ((banksmanref05_Newer.f kj15 l0 a2).bind fun t320 => (some (t319 == t320)))) else (some false)) = some r := by rw [if_pos rfl] at H; exact H
                      clear H
                      have H := H1
                      clear H1
                      by_cases c43 : t304 = t308
                      · rw [if_pos c43] at H
                        have c43b0 : (t304 == t308) = true := beq_iff_eq.mpr c43
                        have c43b1 : (t304 != t308) = false := bne_eq_false_iff_eq.mpr c43
                        clear c43
                        replace H := Option.bind_eq_some_iff.mp H
                        obtain ⟨t319, A440, H⟩ := H
                        replace H : ((banksmanref05_Newer.f kj15 l0 a2).bind fun t320 => (some (t319 == t320))) = some r := H
                        have A44 := Aside0.mk A440
                        clear A440
                        replace H := Option.bind_eq_some_iff.mp H
                        obtain ⟨t320, A450, H⟩ := H
                        replace H : (some (t319 == t320)) = some r := H
                        have A45 := Aside0.mk A450
                        clear A450
                        obtain rfl := Option.some.inj H
                        go_wp2_with (first | (go_at_call 19; (with_reducible refine (chain_Check.calls kj15 _ _ l0 t317 _ ?side1 ?side2 A37.out).mono ?_); (case side1 => repeat (first | exact (Kd.C_below HR0.out HB.out) | (with_reducible refine Kd.C_alloc ?_ _) | (with_reducible refine Kd.C_drewN ?_ _) | (with_reducible refine Kd.C_drew ?_))); (case side2 => exact HC0.out); rintro e w46 ⟨rfl, hb⟩; have n0_ := Aside0.mk (Kd.R_below (by (with_reducible repeat (first | apply Kd.R_alloc | apply Kd.R_drewN | apply Kd.R_drew)); exact HO_8.out) hb); have n1_ := Aside0.mk (Kd.R_below (by (with_reducible repeat (first | apply Kd.R_alloc | apply Kd.R_drewN | apply Kd.R_drew)); exact HO_10.out) hb); have n2_ := Aside0.mk (blk_below (g := gb290) (o := .cells #[.int .i64 a1_0, .bool a1_1, .slice A1_2 l1_2.length c1_2] 25 (0, 0)) (by (with_reducible repeat (first | refine blk_drewN ?_ _ | refine blk_drew ?_ | refine blk_alloc ?_ _)); exact BK290.out) hb); have n3_ := Aside0.mk (below_step (by repeat (first | (with_reducible first | exact HB.out | apply below_alloc | apply pw_below_drewN | apply below_drew1 | refine below_set ?_ GE290.out) | exact HB.out)) hb); clear HO_8; clear HO_10; clear BK290; clear HB; have HO_8 := n0_; have HO_10 := n1_; have BK290 := n2_; have HB := n3_; clear n0_ n1_ n2_ n3_; (try clear hb); (try clear hb2); (try clear hk); (try clear hi)) | (go_at_call 20; (with_reducible refine (banksmanref05_Check.calls kj15 _ _ l0 t318 _ ?side1 ?side2 A38.out).mono ?_); (case side1 => repeat (first | exact (Kd.C_below HR0.out HB.out) | (with_reducible refine Kd.C_alloc ?_ _) | (with_reducible refine Kd.C_drewN ?_ _) | (with_reducible refine Kd.C_drew ?_))); (case side2 => exact HC0.out); rintro e w47 ⟨rfl, hb⟩; have n0_ := Aside0.mk (Kd.R_below (by (with_reducible repeat (first | apply Kd.R_alloc | apply Kd.R_drewN | apply Kd.R_drew)); exact HO_8.out) hb); have n1_ := Aside0.mk (Kd.R_below (by (with_reducible repeat (first | apply Kd.R_alloc | apply Kd.R_drewN | apply Kd.R_drew)); exact HO_10.out) hb); have n2_ := Aside0.mk (blk_below (g := gb290) (o := .cells #[.int .i64 a1_0, .bool a1_1, .slice A1_2 l1_2.length c1_2] 25 (0, 0)) (by (with_reducible repeat (first | refine blk_drewN ?_ _ | refine blk_drew ?_ | refine blk_alloc ?_ _)); exact BK290.out) hb); have n3_ := Aside0.mk (below_step (by repeat (first | (with_reducible first | exact HB.out | apply below_alloc | apply pw_below_drewN | apply below_drew1 | refine below_set ?_ GE290.out) | exact HB.out)) hb); clear HO_8; clear HO_10; clear BK290; clear HB; have HO_8 := n0_; have HO_10 := n1_; have BK290 := n2_; have HB := n3_; clear n0_ n1_ n2_ n3_; (try clear hb); (try clear hb2); (try clear hk); (try clear hi); have hcv48 := own_string (P := Try.prog) Try.underlying23 Try.underlying5 Try.underlying9 (Kd.own_of_R HO_8.out); have hcv49 := own_string (P := Try.prog) Try.underlying23 Try.underlying5 Try.underlying9 (Kd.own_of_R HO_10.out)) | (go_at_call 21; (with_reducible refine (chain_Newer.calls kj15 _ _ l0 a2 t319 _ ?side1 ?side2 A44.out).mono ?_); (case side1 => repeat (first | exact (Kd.C_below HR0.out HB.out) | (with_reducible refine Kd.C_alloc ?_ _) | (with_reducible refine Kd.C_drewN ?_ _) | (with_reducible refine Kd.C_drew ?_))); (case side2 => exact HC0.out); rintro e w50 ⟨rfl, hb⟩; have n0_ := Aside0.mk (Kd.R_below (by (with_reducible repeat (first | apply Kd.R_alloc | apply Kd.R_drewN | apply Kd.R_drew)); exact HO_8.out) hb); have n1_ := Aside0.mk (Kd.R_below (by (with_reducible repeat (first | apply Kd.R_alloc | apply Kd.R_drewN | apply Kd.R_drew)); exact HO_10.out) hb); have n2_ := Aside0.mk (blk_below (g := gb290) (o := .cells #[.int .i64 a1_0, .bool a1_1, .slice A1_2 l1_2.length c1_2] 25 (0, 0)) (by (with_reducible repeat (first | refine blk_drewN ?_ _ | refine blk_drew ?_ | refine blk_alloc ?_ _)); exact BK290.out) hb); have n3_ := Aside0.mk (below_step (by repeat (first | (with_reducible first | exact HB.out | apply below_alloc | apply pw_below_drewN | apply below_drew1 | refine below_set ?_ GE290.out) | exact HB.out)) hb); clear HO_8; clear HO_10; clear BK290; clear HB; have HO_8 := n0_; have HO_10 := n1_; have BK290 := n2_; have HB := n3_; clear n0_ n1_ n2_ n3_; (try clear hb); (try clear hb2); (try clear hk); (try clear hi)) | (go_at_call 22; (with_reducible refine (banksmanref05_Newer.calls kj15 _ _ l0 a2 t320 _ ?side1 ?side2 A45.out).mono ?_); (case side1 => repeat (first | exact (Kd.C_below HR0.out HB.out) | (with_reducible refine Kd.C_alloc ?_ _) | (with_reducible refine Kd.C_drewN ?_ _) | (with_reducible refine Kd.C_drew ?_))); (case side2 => exact HC0.out); rintro e w51 ⟨rfl, hb⟩; have n0_ := Aside0.mk (Kd.R_below (by (with_reducible repeat (first | apply Kd.R_alloc | apply Kd.R_drewN | apply Kd.R_drew)); exact HO_8.out) hb); have n1_ := Aside0.mk (Kd.R_below (by (with_reducible repeat (first | apply Kd.R_alloc | apply Kd.R_drewN | apply Kd.R_drew)); exact HO_10.out) hb); have n2_ := Aside0.mk (blk_below (g := gb290) (o := .cells #[.int .i64 a1_0, .bool a1_1, .slice A1_2 l1_2.length c1_2] 25 (0, 0)) (by (with_reducible repeat (first | refine blk_drewN ?_ _ | refine blk_drew ?_ | refine blk_alloc ?_ _)); exact BK290.out) hb); have n3_ := Aside0.mk (below_step (by repeat (first | (with_reducible first | exact HB.out | apply below_alloc | apply pw_below_drewN | apply below_drew1 | refine below_set ?_ GE290.out) | exact HB.out)) hb); clear HO_8; clear HO_10; clear BK290; clear HB; have HO_8 := n0_; have HO_10 := n1_; have BK290 := n2_; have HB := n3_; clear n0_ n1_ n2_ n3_; (try clear hb); (try clear hb2); (try clear hk); (try clear hi)))
                        go_ret
                        exact ⟨by first | rfl | (simp [errW_none, errW_some] <;> rfl) | (simp [*, errW_none, errW_some] <;> rfl), by repeat (first | (with_reducible first | exact HB.out | apply below_alloc | apply pw_below_drewN | apply below_drew1 | refine below_set ?_ GE290.out) | exact HB.out)⟩
                      · rw [if_neg c43] at H
                        rw [HTr_] at H
                        exact absurd (Option.some.inj H) (by decide)
                    · replace c42 := Bool.eq_false_iff.mpr c42
                      subst c42
                      have H1 : (some false) = some r := by rw [if_neg (show ¬ (false = true) by decide)] at H; exact H
                      rw [HTr_] at H1
                      exact absurd (Option.some.inj H1) (by decide)
                  · rw [if_neg c41] at H
                    rw [HTr_] at H
                    exact absurd (Option.some.inj H) (by decide)
                · rw [if_neg c40] at H
                  rw [HTr_] at H
                  exact absurd (Option.some.inj H) (by decide)
              · rw [if_neg c39] at H
                rw [HTr_] at H
                exact absurd (Option.some.inj H) (by decide)
            · replace c36 := Bool.eq_false_iff.mpr c36
              subst c36
              have H1 : (some false) = some r := by rw [if_neg (show ¬ (false = true) by decide)] at H; exact H
              rw [HTr_] at H1
              exact absurd (Option.some.inj H1) (by decide)

/-- The law, plainly. -/
def banksmanlaw05_ChainTells.Pure : Prop := ∀ (l0 : List (S25)) (a1_0 : Int) (a1_1 : Bool) (l1_2 : List Int) (a2 : Int), (fun xs_ : List (S25) => xs_.length ≤ maxLen ∧ ∀ x ∈ xs_, (fun x_ : S25 => (fun n_ : Int => (Lit.int .i64 n_).wf = true) x_.f0 ∧ (fun _ : Bool => True) x_.f1 ∧ (fun xs_ : List Int => xs_.length ≤ maxLen ∧ ∀ x ∈ xs_, (fun n_ : Int => (Lit.int .u8 n_).wf = true) x) x_.f2) x) l0 → (fun n_ : Int => (Lit.int .i64 n_).wf = true) a1_0 → (fun xs_ : List Int => xs_.length ≤ maxLen ∧ ∀ x ∈ xs_, (fun n_ : Int => (Lit.int .u8 n_).wf = true) x) l1_2 → (fun n_ : Int => (Lit.int .i64 n_).wf = true) a2 → ∃ k, banksmanlaw05_ChainTells.f k l0 a1_0 a1_1 l1_2 a2 = some true

end Go.Proofs.Ytdkfahobgnmglaa.P
