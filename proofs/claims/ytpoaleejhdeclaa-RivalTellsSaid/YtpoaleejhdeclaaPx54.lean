import Derived.Test.YtpoaleejhdeclaaPx0
import Derived.Test.YtpoaleejhdeclaaPx1
import Derived.Test.YtpoaleejhdeclaaPx46
namespace Go.Proofs.Ytpoaleejhdeclaa.P
open Go.RowKit Go.Proofs.YtpoaleejhdeclaaW.PrintWords Go.Proofs.YtpoaleejhdeclaaW.PrintLast Go.Proofs.YtpoaleejhdeclaaW.PrintMore
attribute [local go_sem] max2_int min2_int max_two min_two max_three min_three max_four min_four
set_option linter.unusedVariables false
set_option linter.unusedSimpArgs false
mutual
def banksmanref14_Judge.l0 : Nat → List (S59) → List (S24) → List (S50) → Bool → Bool → Int → Int → List (S57) → Option (Bool × Int)
 | 0, _, _, _, _, _, _, _, _ => none
 | k + 1, x1, x3, x10, x11, x12, x13, x298000, x298001 => if x13 < (x10.length : Int) then (if 0 ≤ x13 then ((banksmanref13_Same.f k ((rd_T50 x10 x13).f4) x1).bind fun t302 => ((banksmanref13_Hit.f k x298001 ((rd_T50 x10 x13).f4)).bind fun t304 => ((banksmanref13_Hit.f k ((rd_T50 x10 x13).f3) x1).bind fun t306 => (if t302 = true then (some (false, 140)) else (if t304 = true then (if (rd_T50 x10 x13).f5 = true then (some (false, 140)) else (if x11 = true then (if x12 = true then (banksmanref14_Judge.l0 k x1 x3 x10 true true (wrap64 (x13 + 1)) x298000 x298001) else (banksmanref14_Judge.l0 k x1 x3 x10 true t306 (wrap64 (x13 + 1)) x298000 x298001)) else (if x12 = true then (banksmanref14_Judge.l0 k x1 x3 x10 t304 true (wrap64 (x13 + 1)) x298000 x298001) else (banksmanref14_Judge.l0 k x1 x3 x10 t304 t306 (wrap64 (x13 + 1)) x298000 x298001)))) else (if x11 = true then (if x12 = true then (banksmanref14_Judge.l0 k x1 x3 x10 true true (wrap64 (x13 + 1)) x298000 x298001) else (banksmanref14_Judge.l0 k x1 x3 x10 true t306 (wrap64 (x13 + 1)) x298000 x298001)) else (if x12 = true then (banksmanref14_Judge.l0 k x1 x3 x10 t304 true (wrap64 (x13 + 1)) x298000 x298001) else (banksmanref14_Judge.l0 k x1 x3 x10 t304 t306 (wrap64 (x13 + 1)) x298000 x298001)))))))) else (none)) else (banksmanref14_Judge.l1 k x1 x3 x11 x12 0)
def banksmanref14_Judge.l1 : Nat → List (S59) → List (S24) → Bool → Bool → Int → Option (Bool × Int)
 | 0, _, _, _, _, _ => none
 | k + 1, x1, x3, x11, x12, x17 => if x17 < (x3.length : Int) then (if 0 ≤ x17 then ((banksmanref13_Hit.f k ((rd_T24 x3 x17).f1) x1).bind fun t309 => (if x12 = true then (banksmanref14_Judge.l1 k x1 x3 x11 true (wrap64 (x17 + 1))) else (banksmanref14_Judge.l1 k x1 x3 x11 t309 (wrap64 (x17 + 1))))) else (none)) else (if x11 = true then (if x12 = true then (some (false, 140)) else (some (x11, 0))) else (some (x11, 0)))
end
def banksmanref14_Judge.f (k : Nat) (a0_0 : Int) (l0_1 : List (S57)) (l1 : List (S59)) (l2 : List (S50)) (l3 : List (S24)) : Option (Bool × Int) := (banksmanref14_Meets.f k a0_0 l2).bind fun t298 => (banksmanref14_Judge.l0 k l1 l3 t298 false false 0 a0_0 l0_1)
def banksmanref14_Judge.T8 : Bool × List (List Nat × List Nat) := (true, [([], []), ([0], [0]), ([], []), ([], []), ([2, 3], [2, 3]), ([4], [4]), ([5], [5]), ([1, 6], [1, 6]), ([7, 7, 0, 1, 2, 3, 4, 5, 6, 7], [7])])
def banksmanref14_Judge.B8 : List Nat := [0, 1, 0, 0, 12, 28, 60, 127, 255]
theorem banksmanref14_Judge.tab8 : rtab .any (opsOf Try.f13 8) = banksmanref14_Judge.T8 := by kernel_rfl
theorem banksmanref14_Judge.bits8 : waitsOk banksmanref14_Judge.T8.2 banksmanref14_Judge.B8 = true := by kernel_rfl
set_option maxHeartbeats 8000000 in
set_option maxRecDepth 100000 in
theorem banksmanref14_Judge.calls (k : Nat) (a0_0 : Int) (A0_1 : Option Addr) (c0_1 : Nat) (l0_1 : List (S57)) (A1 : Option Addr) (c1 : Nat) (l1 : List (S59)) (A2 : Option Addr) (c2 : Nat) (l2 : List (S50)) (A3 : Option Addr) (c3 : Nat) (l3 : List (S24)) (r1 : Bool) (r2 : Int) (w : World) (hr0_1 : Kd.C k57 w A0_1 l0_1.length l0_1) (hc0_1 : l0_1.length ≤ c0_1) (hr1 : Kd.C k59 w A1 l1.length l1) (hc1 : l1.length ≤ c1) (hr2 : Kd.C k50 w A2 l2.length l2) (hc2 : l2.length ≤ c2) (hr3 : Kd.C k24 w A3 l3.length l3) (hc3 : l3.length ≤ c3) (h : banksmanref14_Judge.f k a0_0 l0_1 l1 l2 l3 = some (r1, r2)) :
  Calls Try.prog 13 #[.agg #[.int .i64 a0_0, .slice A0_1 l0_1.length c0_1], .slice A1 l1.length c1, .slice A2 l2.length c2, .slice A3 l3.length c3] w fun e w' => e = .returned (.tuple #[.bool r1, .int .i64 r2]) ∧ Below w.heap.size w w' := by
 have hu24 := Try.underlying24
 have HR0_1 := aM hr0_1
 have HC0_1 := aM hc0_1
 clear hr0_1 hc0_1
 have HR1 := aM hr1
 have HC1 := aM hc1
 clear hr1 hc1
 have HR2 := aM hr2
 have HC2 := aM hc2
 clear hr2 hc2
 have HR3 := aM hr3
 have HC3 := aM hc3
 clear hr3 hc3
 have HB := aM (Below.refl w.heap.size w)
 have H : ((banksmanref14_Meets.f k a0_0 l2).bind fun t298 => (banksmanref14_Judge.l0 k l1 l3 t298 false false 0 a0_0 l0_1)) = some (r1, r2) := h
 clear h
 replace H := Option.bind_eq_some_iff.mp H
 obtain ⟨t298, A50, H⟩ := H
 replace H : (banksmanref14_Judge.l0 k l1 l3 t298 false false 0 a0_0 l0_1) = some (r1, r2) := H
 have A5 := aM A50
 clear A50
 have H' := aM H
 clear H
 go_enter Try.func13, Try.ntmps13
 go_wp2_with (first | ((with_reducible refine gate_dst (N := 4) rfl ?_); refine box_event ?hg (N := 4) ?hd (cs := #[.int .i64 a0_0, .slice A0_1 l0_1.length c0_1]) (t := 24) ?hr ?_; (case hd => rfl); (case hg => rfl); (case hr => first | (go_simp; done) | (go_simp; rfl)); intro gb297 hg w6 hbox hb; have BK297 := aM (hbox); have GW297 := aM ((by rw [hg]; exact (below_size (by repeat (first | (with_reducible first | exact HB.out | apply bA | apply bN | apply bD) | exact HB.out))) : w.heap.size ≤ gb297)); have GE297 := aM ((by rw [hg]; exact (below_size (by repeat (first | (with_reducible first | exact HB.out | apply bA | apply bN | apply bD) | exact HB.out))) : w.heap.size ≤ gb297)); replace HB := aM (below_step (by repeat (first | (with_reducible first | exact HB.out | apply bA | apply bN | apply bD) | exact HB.out)) hb); clear hb hbox hg; have hcz7_0 : w6.cell? ⟨gb297, 0, none⟩ = some (.int .i64 a0_0) := (kC BK297.out 0).trans rfl; have hcz7_1 : w6.cell? ⟨gb297, 1, none⟩ = some (.slice A0_1 l0_1.length c0_1) := (kC BK297.out 1).trans rfl; have hfz7_0 := kF BK297.out 0; have hfz7_1 := kF BK297.out 1) | ((with_reducible refine gate_callee (f := 16) rfl ?_); refine goesL_ (some 22) rfl rfl Try.func16 (by kernel_rfl) rfl #[.int .i64 a0_0, .slice A2 l2.length c2] rfl (by (try simp only [mT_, mC_, mN_]); first | done | rfl | (simp only [lD_, lT_]; rfl)) ?_; (with_reducible refine (banksmanref14_Meets.calls k a0_0 _ _ l2 t298 _ ?side1 ?side2 A5.out).mono ?_); (case side1 => repeat (first | exact (kB_ HR2.out HB.out) | (with_reducible first | refine kA_ ?_ _ | refine kN_ ?_ _ | refine kD_ ?_))); (case side2 => exact HC2.out); rintro e w8 ⟨v299, rfl, ho0, hb⟩; refine ⟨_, rfl, ?_⟩; have HO300 := aM (Kd.R_lower ho0 (below_size (by repeat (first | (with_reducible first | exact HB.out | apply bA | apply bN | apply bD | refine bS ?_ GE297.out) | exact HB.out)))); replace BK297 := aM (kB (g := gb297) (o := .cells #[.int .i64 a0_0, .slice A0_1 l0_1.length c0_1] 24 (0, 0)) (bU BK297.out) hb); replace HB := aM (below_step (by repeat (first | (with_reducible first | exact HB.out | apply bA | apply bN | apply bD | refine bS ?_ GE297.out) | exact HB.out)) hb); (try clear hb); (try clear hk)))
 go_loopg [11, 12, 13] k (fun kq v11 v12 v13 w' => ∃ (x11_1 : Bool) (x12_1 : Bool) (x13_1 : Int), v11 = .bool x11_1 ∧ v12 = .bool x12_1 ∧ v13 = .int .i64 x13_1 ∧ Aside0 (banksmanref14_Judge.l0 kq l1 l3 t298 x11_1 x12_1 x13_1 a0_0 l0_1 = some (r1, r2)) ∧ Aside0 (kq ≤ k) ∧ Aside0 (Kd.R k50 50 w' w.heap.size (fun _ => True) v299 t298) ∧ Aside0 (w'.heap[gb297]? = some (.cells #[.int .i64 a0_0, (.slice A0_1 l0_1.length c0_1)] 24 (0, 0))) ∧ Aside0 (Below w.heap.size w w'))
 case atStart => exact ⟨(false), (false), (0), (by first | rfl | (simp; done) | (simp [*]; done)), (by first | rfl | (simp; done) | (simp [*]; done)), (by first | rfl | (simp; done) | (simp [*]; done)), H', ⟨Nat.le_refl _⟩, ⟨by (with_reducible repeat (first | apply Kd.R_alloc | apply Kd.R_drewN | apply Kd.R_drew)); exact HO300.out⟩, ⟨by (with_reducible repeat (first | refine blk_drewN ?_ _ | refine blk_drew ?_ | refine blk_alloc ?_ _)); exact BK297.out⟩, ⟨by repeat (first | (with_reducible first | exact HB.out | apply bA | apply bN | apply bD | refine bS ?_ GE297.out) | exact HB.out)⟩⟩
 case round =>
  clear H'
  try clear c1
  try clear c2
  try clear p2
  try clear c3
  try clear hcz7_0
  try clear hcz7_1
  try clear hfz7_0
  try clear hfz7_1
  obtain ⟨x11_1, x12_1, x13_1, rfl, rfl, rfl, HA, HK1, HO_10, BK297, HB⟩ := hrel
  cases gk with
  | zero => exact absurd HA.out (by simp [banksmanref14_Judge.l0])
  | succ k1 =>
   have H := HA.out
   clear HA
   simp only [banksmanref14_Judge.l0] at H
   by_cases c9 : x13_1 < (t298.length : Int)
   ·
    rw [if_pos c9] at H
    have c9b0 : decide (x13_1 < (t298.length : Int)) = true := decide_eq_true c9
    clear c9
    by_cases c10 : 0 ≤ x13_1
    ·
     rw [if_pos c10] at H
     have c10b0 : decide (0 ≤ x13_1) = true := decide_eq_true c10
     clear c10
     replace H := Option.bind_eq_some_iff.mp H
     obtain ⟨t302, A110, H⟩ := H
     replace H : ((banksmanref13_Hit.f k1 l0_1 ((rd_T50 t298 x13_1).f4)).bind fun t304 => ((banksmanref13_Hit.f k1 ((rd_T50 t298 x13_1).f3) l1).bind fun t306 => (if t302 = true then (some (false, 140)) else (if t304 = true then (if (rd_T50 t298 x13_1).f5 = true then (some (false, 140)) else (if x11_1 = true then (if x12_1 = true then (banksmanref14_Judge.l0 k1 l1 l3 t298 true true (wrap64 (x13_1 + 1)) a0_0 l0_1) else (banksmanref14_Judge.l0 k1 l1 l3 t298 true t306 (wrap64 (x13_1 + 1)) a0_0 l0_1)) else (if x12_1 = true then (banksmanref14_Judge.l0 k1 l1 l3 t298 t304 true (wrap64 (x13_1 + 1)) a0_0 l0_1) else (banksmanref14_Judge.l0 k1 l1 l3 t298 t304 t306 (wrap64 (x13_1 + 1)) a0_0 l0_1)))) else (if x11_1 = true then (if x12_1 = true then (banksmanref14_Judge.l0 k1 l1 l3 t298 true true (wrap64 (x13_1 + 1)) a0_0 l0_1) else (banksmanref14_Judge.l0 k1 l1 l3 t298 true t306 (wrap64 (x13_1 + 1)) a0_0 l0_1)) else (if x12_1 = true then (banksmanref14_Judge.l0 k1 l1 l3 t298 t304 true (wrap64 (x13_1 + 1)) a0_0 l0_1) else (banksmanref14_Judge.l0 k1 l1 l3 t298 t304 t306 (wrap64 (x13_1 + 1)) a0_0 l0_1))))))) = some (r1, r2) := H
     have A11 := aM A110
     clear A110
     replace H := Option.bind_eq_some_iff.mp H
     obtain ⟨t304, A120, H⟩ := H
     replace H : ((banksmanref13_Hit.f k1 ((rd_T50 t298 x13_1).f3) l1).bind fun t306 => (if t302 = true then (some (false, 140)) else (if t304 = true then (if (rd_T50 t298 x13_1).f5 = true then (some (false, 140)) else (if x11_1 = true then (if x12_1 = true then (banksmanref14_Judge.l0 k1 l1 l3 t298 true true (wrap64 (x13_1 + 1)) a0_0 l0_1) else (banksmanref14_Judge.l0 k1 l1 l3 t298 true t306 (wrap64 (x13_1 + 1)) a0_0 l0_1)) else (if x12_1 = true then (banksmanref14_Judge.l0 k1 l1 l3 t298 t304 true (wrap64 (x13_1 + 1)) a0_0 l0_1) else (banksmanref14_Judge.l0 k1 l1 l3 t298 t304 t306 (wrap64 (x13_1 + 1)) a0_0 l0_1)))) else (if x11_1 = true then (if x12_1 = true then (banksmanref14_Judge.l0 k1 l1 l3 t298 true true (wrap64 (x13_1 + 1)) a0_0 l0_1) else (banksmanref14_Judge.l0 k1 l1 l3 t298 true t306 (wrap64 (x13_1 + 1)) a0_0 l0_1)) else (if x12_1 = true then (banksmanref14_Judge.l0 k1 l1 l3 t298 t304 true (wrap64 (x13_1 + 1)) a0_0 l0_1) else (banksmanref14_Judge.l0 k1 l1 l3 t298 t304 t306 (wrap64 (x13_1 + 1)) a0_0 l0_1)))))) = some (r1, r2) := H
     have A12 := aM A120
     clear A120
     replace H := Option.bind_eq_some_iff.mp H
     obtain ⟨t306, A130, H⟩ := H
     replace H : (if t302 = true then (some (false, 140)) else (if t304 = true then (if (rd_T50 t298 x13_1).f5 = true then (some (false, 140)) else (if x11_1 = true then (if x12_1 = true then (banksmanref14_Judge.l0 k1 l1 l3 t298 true true (wrap64 (x13_1 + 1)) a0_0 l0_1) else (banksmanref14_Judge.l0 k1 l1 l3 t298 true t306 (wrap64 (x13_1 + 1)) a0_0 l0_1)) else (if x12_1 = true then (banksmanref14_Judge.l0 k1 l1 l3 t298 t304 true (wrap64 (x13_1 + 1)) a0_0 l0_1) else (banksmanref14_Judge.l0 k1 l1 l3 t298 t304 t306 (wrap64 (x13_1 + 1)) a0_0 l0_1)))) else (if x11_1 = true then (if x12_1 = true then (banksmanref14_Judge.l0 k1 l1 l3 t298 true true (wrap64 (x13_1 + 1)) a0_0 l0_1) else (banksmanref14_Judge.l0 k1 l1 l3 t298 true t306 (wrap64 (x13_1 + 1)) a0_0 l0_1)) else (if x12_1 = true then (banksmanref14_Judge.l0 k1 l1 l3 t298 t304 true (wrap64 (x13_1 + 1)) a0_0 l0_1) else (banksmanref14_Judge.l0 k1 l1 l3 t298 t304 t306 (wrap64 (x13_1 + 1)) a0_0 l0_1))))) = some (r1, r2) := H
     have A13 := aM A130
     clear A130
     by_cases c14 : t302 = true
     ·
      subst c14
      have H1 : (some (false, 140)) = some (r1, r2) := by rw [if_pos rfl] at H; exact H
      clear H
      have H := H1
      clear H1
      simp only [Option.some.injEq, Prod.mk.injEq] at H
      obtain ⟨rfl, rfl⟩ := H
      obtain ⟨Ao15, co15, eo15⟩ := Kd.R_slice HO_10.out
      subst eo15
      have p301 : 0 ≤ (x13_1 : Int) := dT_
      have q301 : x13_1 < (t298.length : Int) := dT_
      obtain ⟨ad301, A301_3, c301_3, A301_4, c301_4, e301, hx301_0, hx301_1, hx301_2, hx301_3, hx301_4, hx301_5, hl301_3, hi301_3, hl301_4, hi301_4⟩ := at_T50 (Kd.R_reads' HO_10.out).2.2 x13_1 p301 q301
      cases e301
      obtain ⟨ce301, hce301, hMe301, hcc301⟩ := Kd.R_get HO_10.out z50 x13_1 p301 (by first | exact q301 | exact dT_ | (have e_ := (Kd.R_reads' HO_10.out).1; omega))
      obtain ⟨ve301_3, ve301_4, rfl, ge301_3, ge301_4⟩ := k50_openM hMe301
      have hv301_3 := hcc301 3 _ rfl
      rw [add_field _ _ 3 (by omega)] at hv301_3
      replace hv301_3 := sO_ (hv301_3.symm.trans hx301_3)
      rw [hv301_3] at ge301_3
      have HLq0 := aM (show Kd.R k57 57 _ _ _ _ ((rd_T50 t298 x13_1).f3) from ge301_3)
      clear hv301_3 ge301_3
      have hv301_4 := hcc301 4 _ rfl
      rw [add_field _ _ 4 (by omega)] at hv301_4
      replace hv301_4 := sO_ (hv301_4.symm.trans hx301_4)
      rw [hv301_4] at ge301_4
      have HLq1 := aM (show Kd.R k59 59 _ _ _ _ ((rd_T50 t298 x13_1).f4) from ge301_4)
      clear hv301_4 ge301_4
      clear hcc301 hce301
      have HRq1 := aM hi301_3
      have HCq3 := aM hl301_3
      clear hi301_3 hl301_3
      have HRq0 := aM hi301_4
      have HCq0 := aM hl301_4
      clear hi301_4 hl301_4
      replace p301 := eq_true p301
      replace q301 := eq_true q301
      try go_wp2_with (first | ((with_reducible refine gate_callee (f := 20) rfl ?_); refine goesL_ (some 35) rfl rfl Try.func20 (by kernel_rfl) rfl #[.slice A301_4 ((rd_T50 t298 x13_1).f4).length c301_4, .slice A1 l1.length c1] rfl (by (try simp only [mT_, mC_, mN_]); first | done | rfl | (simp only [lD_, lT_]; rfl)) ?_; (with_reducible refine (banksmanref13_Same.calls k1 _ _ ((rd_T50 t298 x13_1).f4) _ _ l1 true _ ?side1 ?side2 ?side3 ?side4 A11.out).mono ?_); (case side1 => repeat (first | exact (cU HRq0.out) | (with_reducible first | refine kA_ ?_ _ | refine kN_ ?_ _ | refine kD_ ?_))); (case side2 => exact HCq0.out); (case side3 => repeat (first | exact (kB_ HR1.out HB.out) | (with_reducible first | refine kA_ ?_ _ | refine kN_ ?_ _ | refine kD_ ?_))); (case side4 => exact HC1.out); rintro e w' ⟨rfl, ⟨nd, rfl⟩⟩; refine ⟨_, rfl, ?_⟩))
      (try (rw [drewN_self wr]; generalize hq_ : World.drewN wr _ = wr; have n0_ : Aside0 (Kd.R k57 57 wr w.heap.size (fun k_ => some k_ ≠ (.slice (some ad301) t298.length co15 : Value).ownBlock) (.slice A301_3 ((rd_T50 t298 x13_1).f3).length c301_3) ((rd_T50 t298 x13_1).f3)) := ⟨by rw [← hq_]; exact (by (with_reducible repeat (first | apply Kd.R_alloc | apply Kd.R_drewN | apply Kd.R_drew)); exact Kd.R_mono HLq0.out (fun _ hk => hk.2))⟩; have n1_ : Aside0 (Kd.R k59 59 wr w.heap.size (fun k_ => some k_ ≠ (.slice (some ad301) t298.length co15 : Value).ownBlock) (.slice A301_4 ((rd_T50 t298 x13_1).f4).length c301_4) ((rd_T50 t298 x13_1).f4)) := ⟨by rw [← hq_]; exact (by (with_reducible repeat (first | apply Kd.R_alloc | apply Kd.R_drewN | apply Kd.R_drew)); exact Kd.R_mono HLq1.out (fun _ hk => hk.2))⟩; have n2_ : Aside0 (Kd.R k50 50 wr w.heap.size (fun _ => True) (.slice (some ad301) t298.length co15) t298) := ⟨by rw [← hq_]; exact (rU HO_10.out)⟩; have n3_ : Aside0 (wr.heap[gb297]? = some (.cells #[.int .i64 a0_0, .slice A0_1 l0_1.length c0_1] 24 (0, 0))) := ⟨by rw [← hq_]; exact (bU BK297.out)⟩; have n4_ : Aside0 (Below w.heap.size w wr) := ⟨by rw [← hq_]; exact (by repeat (first | (with_reducible first | exact HB.out | apply bA | apply bN | apply bD | refine bS ?_ GE297.out) | exact HB.out))⟩; have n5_ : Aside0 (Kd.C k57 wr A301_3 ((rd_T50 t298 x13_1).f3).length ((rd_T50 t298 x13_1).f3)) := ⟨by rw [← hq_]; exact (cU HRq1.out)⟩; have n6_ : Aside0 (Kd.C k59 wr A301_4 ((rd_T50 t298 x13_1).f4).length ((rd_T50 t298 x13_1).f4)) := ⟨by rw [← hq_]; exact (cU HRq0.out)⟩; clear HLq0 HLq1 HO_10 BK297 HB HRq1 HRq0 hq_; have HLq0 := n0_; have HLq1 := n1_; have HO_10 := n2_; have BK297 := n3_; have HB := n4_; have HRq1 := n5_; have HRq0 := n6_; clear n0_ n1_ n2_ n3_ n4_ n5_ n6_))
      have n0_ := aM (Kd.R_drew HO_10.out)
      have n1_ := aM (Kd.R_drew HLq0.out)
      have n2_ := aM (Kd.R_drew HLq1.out)
      have n3_ := aM (blk_drew BK297.out)
      have n4_ := aM (kD_ HRq1.out)
      have n5_ := aM (kD_ HRq0.out)
      have n6_ := aM (bD HB.out)
      clear HO_10
      clear HLq0
      clear HLq1
      clear BK297
      clear HRq1
      clear HRq0
      clear HB
      have HO_10 := n0_
      have HLq0 := n1_
      have HLq1 := n2_
      have BK297 := n3_
      have HRq1 := n4_
      have HRq0 := n5_
      have HB := n6_
      clear n0_ n1_ n2_ n3_ n4_ n5_ n6_
      have p303 : 0 ≤ (x13_1 : Int) := dT_
      have q303 : x13_1 < (t298.length : Int) := dT_
      obtain ⟨ad303, A303_3, c303_3, A303_4, c303_4, e303, hx303_0, hx303_1, hx303_2, hx303_3, hx303_4, hx303_5, hl303_3, hi303_3, hl303_4, hi303_4⟩ := at_T50 (Kd.R_reads' HO_10.out).2.2 x13_1 p303 q303
      obtain rfl : ad301 = ad303 := (by injection e303)
      (try obtain ⟨rfl, rfl⟩ := uE hx303_3 hx301_3)
      (try obtain ⟨rfl, rfl⟩ := uE hx303_4 hx301_4)
      obtain ⟨ce303, hce303, hMe303, hcc303⟩ := Kd.R_get HO_10.out z50 x13_1 p303 (by first | exact q303 | exact dT_ | (have e_ := (Kd.R_reads' HO_10.out).1; omega))
      obtain ⟨ve303_3, ve303_4, rfl, ge303_3, ge303_4⟩ := k50_openM hMe303
      have hv303_3 := hcc303 3 _ rfl
      rw [add_field _ _ 3 (by omega)] at hv303_3
      replace hv303_3 := sO_ (hv303_3.symm.trans hx303_3)
      rw [hv303_3] at ge303_3
      have HLq2 := aM (show Kd.R k57 57 _ _ _ _ ((rd_T50 t298 x13_1).f3) from ge303_3)
      clear hv303_3 ge303_3
      have hv303_4 := hcc303 4 _ rfl
      rw [add_field _ _ 4 (by omega)] at hv303_4
      replace hv303_4 := sO_ (hv303_4.symm.trans hx303_4)
      rw [hv303_4] at ge303_4
      have HLq3 := aM (show Kd.R k59 59 _ _ _ _ ((rd_T50 t298 x13_1).f4) from ge303_4)
      clear hv303_4 ge303_4
      clear hcc303 hce303
      have HRq2 := aM hi303_3
      have HCq1 := aM hl303_3
      clear hi303_3 hl303_3
      have HRq3 := aM hi303_4
      have HCq2 := aM hl303_4
      clear hi303_4 hl303_4
      replace p303 := eq_true p303
      replace q303 := eq_true q303
      refine start_ (n := 9) (S := fun w' => w'.cell? ⟨gb297, 0, none⟩ = some (.int .i64 a0_0) ∧ w'.cell? ⟨gb297, 1, none⟩ = some (.slice A0_1 l0_1.length c0_1) ∧ w'.cell? (ad301.add ((x13_1).toNat * 6)) = some (.int .i64 ((rd_T50 t298 x13_1).f0)) ∧ w'.cell? ⟨(ad301.add ((x13_1).toNat * 6)).block, (ad301.add ((x13_1).toNat * 6)).off + 1, none⟩ = some (.int .i64 ((rd_T50 t298 x13_1).f1)) ∧ w'.cell? ⟨(ad301.add ((x13_1).toNat * 6)).block, (ad301.add ((x13_1).toNat * 6)).off + 2, none⟩ = some (.bool ((rd_T50 t298 x13_1).f2)) ∧ w'.cell? ⟨(ad301.add ((x13_1).toNat * 6)).block, (ad301.add ((x13_1).toNat * 6)).off + 3, none⟩ = some (.slice A303_3 ((rd_T50 t298 x13_1).f3).length c303_3) ∧ w'.cell? ⟨(ad301.add ((x13_1).toNat * 6)).block, (ad301.add ((x13_1).toNat * 6)).off + 4, none⟩ = some (.slice A303_4 ((rd_T50 t298 x13_1).f4).length c303_4) ∧ w'.cell? ⟨(ad301.add ((x13_1).toNat * 6)).block, (ad301.add ((x13_1).toNat * 6)).off + 5, none⟩ = some (.bool ((rd_T50 t298 x13_1).f5))) (ds := []) #[F_,F_,F_,F_,F_,F_,F_,F_,F_] (by kernel_rfl) rfl rfl ⟨(kC BK297.out 0).trans rfl, (kC BK297.out 1).trans rfl, hx303_0, hx303_1, hx303_2, hx303_3, hx303_4, hx303_5⟩ (fun hHeld => ?_); refine with_tabW banksmanref14_Judge.tab8 banksmanref14_Judge.bits8 (fun HT_ HW_ => ?_)
      generalize wr.drew = w16 at HO_10 HLq0 HLq1 BK297 HRq1 HRq0 HB HLq2 HLq3 HRq2 HRq3 hx303_0 hx303_1 hx303_2 hx303_3 hx303_4 hx303_5 hHeld ⊢
      refine pure_ (i := 0) (N := some 36) (v := ?_) (a' := ?_) #[T_,F_,F_,F_,F_,F_,F_,F_,F_] rfl rfl (any_of HT_.out (by kernel_rfl)) (fun _ _ _ h => h) (Or.inl ⟨by rfl, ?_⟩) ?_ ?_
      rotate_left
      ·
       intro w'
       go_simp
       with_reducible rfl
      rotate_left
      ·
       simp only [Act.put, sI_, sZ_, sS_, i64_w, i32_w]
       rfl
      refine pure_ (i := 2) (N := some 38) (v := ?_) (a' := ?_) #[T_,F_,T_,F_,F_,F_,F_,F_,F_] rfl rfl (any_of HT_.out (by kernel_rfl)) (fun _ _ _ h => h) (Or.inl ⟨by rfl, ?_⟩) ?_ ?_
      rotate_left
      ·
       intro w'
       go_simp
       with_reducible rfl
      rotate_left
      ·
       simp only [Act.put, sI_, sZ_, sS_, i64_w, i32_w]
       rfl
      refine pure_ (i := 3) (N := some 39) (v := ?_) (a' := ?_) #[T_,F_,T_,T_,F_,F_,F_,F_,F_] rfl rfl (any_of HT_.out (by kernel_rfl)) (fun _ _ _ h => h) (Or.inl ⟨by rfl, ?_⟩) ?_ ?_
      rotate_left
      ·
       intro w'
       go_simp
       with_reducible rfl
      rotate_left
      ·
       simp only [Act.put, sI_, sZ_, sS_, i64_w, i32_w]
       rfl
      refine pure_ (i := 4) (N := some 40) (v := ?_) (a' := ?_) #[T_,F_,T_,T_,T_,F_,F_,F_,F_] rfl rfl (any_of HT_.out (by kernel_rfl)) (fun _ _ _ h => h) (Or.inl ⟨by rfl, ?_⟩) ?_ ?_
      rotate_left
      ·
       intro w'
       go_simp
       with_reducible rfl
      rotate_left
      ·
       simp only [Act.put, sI_, sZ_, sS_, i64_w, i32_w]
       rfl
      refine pure_ (i := 5) (N := some 41) (v := ?_) (a' := ?_) #[T_,F_,T_,T_,T_,T_,F_,F_,F_] rfl rfl (any_of HT_.out (by kernel_rfl)) (fun _ _ _ h => h) (Or.inl ⟨by rfl, ?_⟩) ?_ ?_
      rotate_left
      ·
       intro w'
       go_simp
       with_reducible rfl
      rotate_left
      ·
       simp only [Act.put, sI_, sZ_, sS_, i64_w, i32_w]
       rfl
      refine take_ (i := 1) (N := some 37) (v := ?_) (a' := ?_) #[T_,T_,T_,T_,T_,T_,F_,F_,F_] rfl rfl (take_ofW HT_.out HW_.out (by kernel_rfl)) (fun _ _ _ h => h) (Or.inl ⟨by rfl, ?_⟩) hHeld ?_ ?_
      rotate_left
      ·
       rintro w' ⟨s0, s1, s2, s3, s4, s5, s6, s7⟩
       go_simp
       with_reducible rfl
      rotate_left
      ·
       simp only [Act.put, sI_, sZ_, sS_, i64_w, i32_w]
       rfl
      refine take_ (i := 6) (N := some 42) (v := ?_) (a' := ?_) #[T_,T_,T_,T_,T_,T_,T_,F_,F_] rfl rfl (take_ofW HT_.out HW_.out (by kernel_rfl)) (fun _ _ _ h => h) (Or.inl ⟨by rfl, ?_⟩) hHeld ?_ ?_
      rotate_left
      ·
       rintro w' ⟨s0, s1, s2, s3, s4, s5, s6, s7⟩
       go_simp
       with_reducible rfl
      rotate_left
      ·
       simp only [Act.put, sI_, sZ_, sS_, i64_w, i32_w]
       rfl
      refine one_ (i := 7) (N := some 43) #[T_,T_,T_,T_,T_,T_,T_,T_,F_] rfl rfl (one_of HT_.out (by kernel_rfl)) (by decide) (fun K hK => ?_)
      refine goes_ Try.func19 (by kernel_rfl) rfl #[.slice A0_1 l0_1.length c0_1, .slice A303_4 ((rd_T50 t298 x13_1).f4).length c303_4] (by rfl) rfl rfl (by (try simp only [mT_, mC_, mN_]); first | done | rfl | (simp only [lD_, lT_]; rfl)) ?_
      with_reducible refine (banksmanref13_Hit.calls k1 _ _ l0_1 _ _ ((rd_T50 t298 x13_1).f4) t304 _ ?side1 ?side2 ?side3 ?side4 A12.out).mono ?_
      (case side1 => repeat (first | exact (kB_ HR0_1.out HB.out) | (with_reducible first | refine kA_ ?_ _ | refine kN_ ?_ _ | refine kD_ ?_)))
      (case side2 => exact HC0_1.out)
      (case side3 => repeat (first | exact (cU HRq3.out) | (with_reducible first | refine kA_ ?_ _ | refine kN_ ?_ _ | refine kD_ ?_)))
      (case side4 => exact HCq2.out)
      rintro e w17 ⟨rfl, hb⟩
      have HS2_ := (hb.cell (bL_ _ _ (hHeld.2.2.1))).trans (hHeld.2.2.1)
      have HS3_ := (hb.cell (bL_ _ _ (hHeld.2.2.2.1))).trans (hHeld.2.2.2.1)
      have HS4_ := (hb.cell (bL_ _ _ (hHeld.2.2.2.2.1))).trans (hHeld.2.2.2.2.1)
      have HS5_ := (hb.cell (bL_ _ _ (hHeld.2.2.2.2.2.1))).trans (hHeld.2.2.2.2.2.1)
      have HS6_ := (hb.cell (bL_ _ _ (hHeld.2.2.2.2.2.2.1))).trans (hHeld.2.2.2.2.2.2.1)
      have HS7_ := (hb.cell (bL_ _ _ (hHeld.2.2.2.2.2.2.2))).trans (hHeld.2.2.2.2.2.2.2)
      refine ⟨_, rfl, ?_⟩
      have n0_ := aM (Kd.R_below (rU HO_10.out) hb)
      have n1_ := aM (Kd.R_below (rU HLq0.out) hb)
      have n2_ := aM (Kd.R_below (rU HLq1.out) hb)
      have n3_ := aM (Kd.R_below (rU HLq2.out) hb)
      have n4_ := aM (Kd.R_below (rU HLq3.out) hb)
      have n5_ := aM (kB (g := gb297) (o := .cells #[.int .i64 a0_0, .slice A0_1 l0_1.length c0_1] 24 (0, 0)) (bU BK297.out) hb)
      have n6_ := aM (kB_ (cU HRq1.out) hb)
      have n7_ := aM (kB_ (cU HRq0.out) hb)
      have n8_ := aM (kB_ (cU HRq2.out) hb)
      have n9_ := aM (kB_ (cU HRq3.out) hb)
      have n10_ := aM (below_step (by repeat (first | (with_reducible first | exact HB.out | apply bA | apply bN | apply bD | refine bS ?_ GE297.out) | exact HB.out)) hb)
      clear HO_10
      clear HLq0
      clear HLq1
      clear HLq2
      clear HLq3
      clear BK297
      clear HRq1
      clear HRq0
      clear HRq2
      clear HRq3
      clear HB
      have HO_10 := n0_
      have HLq0 := n1_
      have HLq1 := n2_
      have HLq2 := n3_
      have HLq3 := n4_
      have BK297 := n5_
      have HRq1 := n6_
      have HRq0 := n7_
      have HRq2 := n8_
      have HRq3 := n9_
      have HB := n10_
      clear n0_ n1_ n2_ n3_ n4_ n5_ n6_ n7_ n8_ n9_ n10_
      (try clear hb)
      (try clear hb2)
      (try clear hk)
      (try clear hi)
      refine hK.out _ _ ⟨(kC BK297.out 0).trans rfl, (kC BK297.out 1).trans rfl, HS2_, HS3_, HS4_, HS5_, HS6_, HS7_⟩ (fun hHeld => ?_)
      clear hK K
      refine norm_ (a' := ?_) ?_ ?_
      rotate_left
      ·
       show Act.put _ (some 43) _ = _
       simp only [Act.put, sI_, sZ_, sS_, i64_w, i32_w]
       rfl
      refine pure_ (i := 8) (N := some 15) (v := ?_) (a' := ?_) #[T_,T_,T_,T_,T_,T_,T_,T_,T_] rfl rfl (any_of HT_.out (by kernel_rfl)) (fun _ _ _ h => h) (Or.inl ⟨by rfl, ?_⟩) ?_ ?_
      rotate_left
      ·
       intro w'
       go_simp
       with_reducible rfl
      rotate_left
      ·
       simp only [Act.put, sI_, sZ_, sS_, i64_w, i32_w]
       rfl
      refine done_ (done_of HT_.out (by kernel_rfl)) ?_
      have p305 : 0 ≤ (x13_1 : Int) := dT_
      have q305 : x13_1 < (t298.length : Int) := dT_
      obtain ⟨ad305, A305_3, c305_3, A305_4, c305_4, e305, hx305_0, hx305_1, hx305_2, hx305_3, hx305_4, hx305_5, hl305_3, hi305_3, hl305_4, hi305_4⟩ := at_T50 (Kd.R_reads' HO_10.out).2.2 x13_1 p305 q305
      obtain rfl : ad301 = ad305 := (by injection e305)
      (try obtain ⟨rfl, rfl⟩ := uE hx305_3 hx301_3)
      (try obtain ⟨rfl, rfl⟩ := uE hx305_4 hx301_4)
      (try obtain ⟨rfl, rfl⟩ := uE hx305_3 hx303_3)
      (try obtain ⟨rfl, rfl⟩ := uE hx305_4 hx303_4)
      obtain ⟨ce305, hce305, hMe305, hcc305⟩ := Kd.R_get HO_10.out z50 x13_1 p305 (by first | exact q305 | exact dT_ | (have e_ := (Kd.R_reads' HO_10.out).1; omega))
      obtain ⟨ve305_3, ve305_4, rfl, ge305_3, ge305_4⟩ := k50_openM hMe305
      have hv305_3 := hcc305 3 _ rfl
      rw [add_field _ _ 3 (by omega)] at hv305_3
      replace hv305_3 := sO_ (hv305_3.symm.trans hx305_3)
      rw [hv305_3] at ge305_3
      have HLq4 := aM (show Kd.R k57 57 _ _ _ _ ((rd_T50 t298 x13_1).f3) from ge305_3)
      clear hv305_3 ge305_3
      have hv305_4 := hcc305 4 _ rfl
      rw [add_field _ _ 4 (by omega)] at hv305_4
      replace hv305_4 := sO_ (hv305_4.symm.trans hx305_4)
      rw [hv305_4] at ge305_4
      have HLq5 := aM (show Kd.R k59 59 _ _ _ _ ((rd_T50 t298 x13_1).f4) from ge305_4)
      clear hv305_4 ge305_4
      clear hcc305 hce305
      have HRq4 := aM hi305_3
      have HCq4 := aM hl305_3
      clear hi305_3 hl305_3
      have HRq5 := aM hi305_4
      have HCq5 := aM hl305_4
      clear hi305_4 hl305_4
      replace p305 := eq_true p305
      replace q305 := eq_true q305
      try go_wp2_with (first | ((with_reducible refine gate_callee (f := 19) rfl ?_); refine goesL_ (some 50) rfl rfl Try.func19 (by kernel_rfl) rfl #[.slice A303_3 ((rd_T50 t298 x13_1).f3).length c303_3, .slice A1 l1.length c1] rfl (by (try simp only [mT_, mC_, mN_]); first | done | rfl | (simp only [lD_, lT_]; rfl)) ?_; (with_reducible refine (banksmanref13_Hit.calls k1 _ _ ((rd_T50 t298 x13_1).f3) _ _ l1 t306 _ ?side1 ?side2 ?side3 ?side4 A13.out).mono ?_); (case side1 => repeat (first | exact (cU HRq2.out) | (with_reducible first | refine kA_ ?_ _ | refine kN_ ?_ _ | refine kD_ ?_))); (case side2 => exact HCq1.out); (case side3 => repeat (first | exact (kB_ HR1.out HB.out) | (with_reducible first | refine kA_ ?_ _ | refine kN_ ?_ _ | refine kD_ ?_))); (case side4 => exact HC1.out); rintro e w18 ⟨rfl, hb⟩; refine ⟨_, rfl, ?_⟩; replace HO_10 := aM (Kd.R_below (rU HO_10.out) hb); replace HLq0 := aM (Kd.R_below (rU HLq0.out) hb); replace HLq1 := aM (Kd.R_below (rU HLq1.out) hb); replace HLq2 := aM (Kd.R_below (rU HLq2.out) hb); replace HLq3 := aM (Kd.R_below (rU HLq3.out) hb); replace HLq4 := aM (Kd.R_below (rU HLq4.out) hb); replace HLq5 := aM (Kd.R_below (rU HLq5.out) hb); replace BK297 := aM (kB (g := gb297) (o := .cells #[.int .i64 a0_0, .slice A0_1 l0_1.length c0_1] 24 (0, 0)) (bU BK297.out) hb); replace HRq1 := aM (kB_ (cU HRq1.out) hb); replace HRq0 := aM (kB_ (cU HRq0.out) hb); replace HRq2 := aM (kB_ (cU HRq2.out) hb); replace HRq3 := aM (kB_ (cU HRq3.out) hb); replace HRq4 := aM (kB_ (cU HRq4.out) hb); replace HRq5 := aM (kB_ (cU HRq5.out) hb); replace HB := aM (below_step (by repeat (first | (with_reducible first | exact HB.out | apply bA | apply bN | apply bD | refine bS ?_ GE297.out) | exact HB.out)) hb); (try clear hb); (try clear hb2); (try clear hk); (try clear hi)))
      go_ret2
      exact ⟨by first | rfl | (simp [errW_none, errW_some] <;> rfl) | (simp [*, errW_none, errW_some] <;> rfl), by repeat (first | (with_reducible first | exact HB.out | apply bA | apply bN | apply bD | refine bS ?_ GE297.out) | exact HB.out)⟩
     ·
      replace c14 := Bool.eq_false_iff.mpr c14
      subst c14
      have H1 : (if t304 = true then (if (rd_T50 t298 x13_1).f5 = true then (some (false, 140)) else (if x11_1 = true then (if x12_1 = true then (banksmanref14_Judge.l0 k1 l1 l3 t298 true true (wrap64 (x13_1 + 1)) a0_0 l0_1) else (banksmanref14_Judge.l0 k1 l1 l3 t298 true t306 (wrap64 (x13_1 + 1)) a0_0 l0_1)) else (if x12_1 = true then (banksmanref14_Judge.l0 k1 l1 l3 t298 t304 true (wrap64 (x13_1 + 1)) a0_0 l0_1) else (banksmanref14_Judge.l0 k1 l1 l3 t298 t304 t306 (wrap64 (x13_1 + 1)) a0_0 l0_1)))) else (if x11_1 = true then (if x12_1 = true then (banksmanref14_Judge.l0 k1 l1 l3 t298 true true (wrap64 (x13_1 + 1)) a0_0 l0_1) else (banksmanref14_Judge.l0 k1 l1 l3 t298 true t306 (wrap64 (x13_1 + 1)) a0_0 l0_1)) else (if x12_1 = true then (banksmanref14_Judge.l0 k1 l1 l3 t298 t304 true (wrap64 (x13_1 + 1)) a0_0 l0_1) else (banksmanref14_Judge.l0 k1 l1 l3 t298 t304 t306 (wrap64 (x13_1 + 1)) a0_0 l0_1)))) = some (r1, r2) := by rw [if_neg (show ¬ (false = true) by decide)] at H; exact H
      clear H
      have H := H1
      clear H1
      by_cases c19 : t304 = true
      ·
       subst c19
       have H1 : (if (rd_T50 t298 x13_1).f5 = true then (some (false, 140)) else (if x11_1 = true then (if x12_1 = true then (banksmanref14_Judge.l0 k1 l1 l3 t298 true true (wrap64 (x13_1 + 1)) a0_0 l0_1) else (banksmanref14_Judge.l0 k1 l1 l3 t298 true t306 (wrap64 (x13_1 + 1)) a0_0 l0_1)) else (if x12_1 = true then (banksmanref14_Judge.l0 k1 l1 l3 t298 true true (wrap64 (x13_1 + 1)) a0_0 l0_1) else (banksmanref14_Judge.l0 k1 l1 l3 t298 true t306 (wrap64 (x13_1 + 1)) a0_0 l0_1)))) = some (r1, r2) := by rw [if_pos rfl] at H; exact H
       clear H
       have H := H1
       clear H1
       obtain ⟨bq20, hbq20⟩ : ∃ b_ : Bool, b_ = ((rd_T50 t298 x13_1).f5) := ⟨_, rfl⟩
       replace H : (if bq20 = true then (some (false, 140)) else (if x11_1 = true then (if x12_1 = true then (banksmanref14_Judge.l0 k1 l1 l3 t298 true true (wrap64 (x13_1 + 1)) a0_0 l0_1) else (banksmanref14_Judge.l0 k1 l1 l3 t298 true t306 (wrap64 (x13_1 + 1)) a0_0 l0_1)) else (if x12_1 = true then (banksmanref14_Judge.l0 k1 l1 l3 t298 true true (wrap64 (x13_1 + 1)) a0_0 l0_1) else (banksmanref14_Judge.l0 k1 l1 l3 t298 true t306 (wrap64 (x13_1 + 1)) a0_0 l0_1)))) = some (r1, r2) := by rw [← hbq20] at H; exact H
       have Nbq20 := aM hbq20
       clear hbq20
       by_cases c21 : bq20 = true
       ·
        subst c21
        have H1 : (some (false, 140)) = some (r1, r2) := by rw [if_pos rfl] at H; exact H
        clear H
        have H := H1
        clear H1
        simp only [Option.some.injEq, Prod.mk.injEq] at H
        obtain ⟨rfl, rfl⟩ := H
        obtain ⟨Ao22, co22, eo22⟩ := Kd.R_slice HO_10.out
        subst eo22
        have p301 : 0 ≤ (x13_1 : Int) := dT_
        have q301 : x13_1 < (t298.length : Int) := dT_
        obtain ⟨ad301, A301_3, c301_3, A301_4, c301_4, e301, hx301_0, hx301_1, hx301_2, hx301_3, hx301_4, hx301_5, hl301_3, hi301_3, hl301_4, hi301_4⟩ := at_T50 (Kd.R_reads' HO_10.out).2.2 x13_1 p301 q301
        (try rw [← Nbq20.out] at hx301_2)
        (try rw [← Nbq20.out] at hx301_5)
        cases e301
        obtain ⟨ce301, hce301, hMe301, hcc301⟩ := Kd.R_get HO_10.out z50 x13_1 p301 (by first | exact q301 | exact dT_ | (have e_ := (Kd.R_reads' HO_10.out).1; omega))
        obtain ⟨ve301_3, ve301_4, rfl, ge301_3, ge301_4⟩ := k50_openM hMe301
        have hv301_3 := hcc301 3 _ rfl
        rw [add_field _ _ 3 (by omega)] at hv301_3
        replace hv301_3 := sO_ (hv301_3.symm.trans hx301_3)
        rw [hv301_3] at ge301_3
        have HLq0 := aM (show Kd.R k57 57 _ _ _ _ ((rd_T50 t298 x13_1).f3) from ge301_3)
        clear hv301_3 ge301_3
        have hv301_4 := hcc301 4 _ rfl
        rw [add_field _ _ 4 (by omega)] at hv301_4
        replace hv301_4 := sO_ (hv301_4.symm.trans hx301_4)
        rw [hv301_4] at ge301_4
        have HLq1 := aM (show Kd.R k59 59 _ _ _ _ ((rd_T50 t298 x13_1).f4) from ge301_4)
        clear hv301_4 ge301_4
        clear hcc301 hce301
        have HRq1 := aM hi301_3
        have HCq3 := aM hl301_3
        clear hi301_3 hl301_3
        have HRq0 := aM hi301_4
        have HCq0 := aM hl301_4
        clear hi301_4 hl301_4
        replace p301 := eq_true p301
        replace q301 := eq_true q301
        try go_wp2_with (first | ((with_reducible refine gate_callee (f := 20) rfl ?_); refine goesL_ (some 35) rfl rfl Try.func20 (by kernel_rfl) rfl #[.slice A301_4 ((rd_T50 t298 x13_1).f4).length c301_4, .slice A1 l1.length c1] rfl (by (try simp only [mT_, mC_, mN_]); first | done | rfl | (simp only [lD_, lT_]; rfl)) ?_; (with_reducible refine (banksmanref13_Same.calls k1 _ _ ((rd_T50 t298 x13_1).f4) _ _ l1 false _ ?side1 ?side2 ?side3 ?side4 A11.out).mono ?_); (case side1 => repeat (first | exact (cU HRq0.out) | (with_reducible first | refine kA_ ?_ _ | refine kN_ ?_ _ | refine kD_ ?_))); (case side2 => exact HCq0.out); (case side3 => repeat (first | exact (kB_ HR1.out HB.out) | (with_reducible first | refine kA_ ?_ _ | refine kN_ ?_ _ | refine kD_ ?_))); (case side4 => exact HC1.out); rintro e w' ⟨rfl, ⟨nd, rfl⟩⟩; refine ⟨_, rfl, ?_⟩))
        (try (rw [drewN_self wr]; generalize hq_ : World.drewN wr _ = wr; have n0_ : Aside0 (Kd.R k57 57 wr w.heap.size (fun k_ => some k_ ≠ (.slice (some ad301) t298.length co22 : Value).ownBlock) (.slice A301_3 ((rd_T50 t298 x13_1).f3).length c301_3) ((rd_T50 t298 x13_1).f3)) := ⟨by rw [← hq_]; exact (by (with_reducible repeat (first | apply Kd.R_alloc | apply Kd.R_drewN | apply Kd.R_drew)); exact Kd.R_mono HLq0.out (fun _ hk => hk.2))⟩; have n1_ : Aside0 (Kd.R k59 59 wr w.heap.size (fun k_ => some k_ ≠ (.slice (some ad301) t298.length co22 : Value).ownBlock) (.slice A301_4 ((rd_T50 t298 x13_1).f4).length c301_4) ((rd_T50 t298 x13_1).f4)) := ⟨by rw [← hq_]; exact (by (with_reducible repeat (first | apply Kd.R_alloc | apply Kd.R_drewN | apply Kd.R_drew)); exact Kd.R_mono HLq1.out (fun _ hk => hk.2))⟩; have n2_ : Aside0 (Kd.R k50 50 wr w.heap.size (fun _ => True) (.slice (some ad301) t298.length co22) t298) := ⟨by rw [← hq_]; exact (rU HO_10.out)⟩; have n3_ : Aside0 (wr.heap[gb297]? = some (.cells #[.int .i64 a0_0, .slice A0_1 l0_1.length c0_1] 24 (0, 0))) := ⟨by rw [← hq_]; exact (bU BK297.out)⟩; have n4_ : Aside0 (Below w.heap.size w wr) := ⟨by rw [← hq_]; exact (by repeat (first | (with_reducible first | exact HB.out | apply bA | apply bN | apply bD | refine bS ?_ GE297.out) | exact HB.out))⟩; have n5_ : Aside0 (Kd.C k57 wr A301_3 ((rd_T50 t298 x13_1).f3).length ((rd_T50 t298 x13_1).f3)) := ⟨by rw [← hq_]; exact (cU HRq1.out)⟩; have n6_ : Aside0 (Kd.C k59 wr A301_4 ((rd_T50 t298 x13_1).f4).length ((rd_T50 t298 x13_1).f4)) := ⟨by rw [← hq_]; exact (cU HRq0.out)⟩; clear HLq0 HLq1 HO_10 BK297 HB HRq1 HRq0 hq_; have HLq0 := n0_; have HLq1 := n1_; have HO_10 := n2_; have BK297 := n3_; have HB := n4_; have HRq1 := n5_; have HRq0 := n6_; clear n0_ n1_ n2_ n3_ n4_ n5_ n6_))
        have n0_ := aM (Kd.R_drew HO_10.out)
        have n1_ := aM (Kd.R_drew HLq0.out)
        have n2_ := aM (Kd.R_drew HLq1.out)
        have n3_ := aM (blk_drew BK297.out)
        have n4_ := aM (kD_ HRq1.out)
        have n5_ := aM (kD_ HRq0.out)
        have n6_ := aM (bD HB.out)
        clear HO_10
        clear HLq0
        clear HLq1
        clear BK297
        clear HRq1
        clear HRq0
        clear HB
        have HO_10 := n0_
        have HLq0 := n1_
        have HLq1 := n2_
        have BK297 := n3_
        have HRq1 := n4_
        have HRq0 := n5_
        have HB := n6_
        clear n0_ n1_ n2_ n3_ n4_ n5_ n6_
        have p303 : 0 ≤ (x13_1 : Int) := dT_
        have q303 : x13_1 < (t298.length : Int) := dT_
        obtain ⟨ad303, A303_3, c303_3, A303_4, c303_4, e303, hx303_0, hx303_1, hx303_2, hx303_3, hx303_4, hx303_5, hl303_3, hi303_3, hl303_4, hi303_4⟩ := at_T50 (Kd.R_reads' HO_10.out).2.2 x13_1 p303 q303
        (try rw [← Nbq20.out] at hx303_2)
        (try rw [← Nbq20.out] at hx303_5)
        obtain rfl : ad301 = ad303 := (by injection e303)
        (try obtain ⟨rfl, rfl⟩ := uE hx303_3 hx301_3)
        (try obtain ⟨rfl, rfl⟩ := uE hx303_4 hx301_4)
        (try obtain ⟨rfl, rfl⟩ := uE hx303_3 hx301_3)
        (try obtain ⟨rfl, rfl⟩ := uE hx303_4 hx301_4)
        obtain ⟨ce303, hce303, hMe303, hcc303⟩ := Kd.R_get HO_10.out z50 x13_1 p303 (by first | exact q303 | exact dT_ | (have e_ := (Kd.R_reads' HO_10.out).1; omega))
        obtain ⟨ve303_3, ve303_4, rfl, ge303_3, ge303_4⟩ := k50_openM hMe303
        have hv303_3 := hcc303 3 _ rfl
        rw [add_field _ _ 3 (by omega)] at hv303_3
        replace hv303_3 := sO_ (hv303_3.symm.trans hx303_3)
        rw [hv303_3] at ge303_3
        have HLq2 := aM (show Kd.R k57 57 _ _ _ _ ((rd_T50 t298 x13_1).f3) from ge303_3)
        clear hv303_3 ge303_3
        have hv303_4 := hcc303 4 _ rfl
        rw [add_field _ _ 4 (by omega)] at hv303_4
        replace hv303_4 := sO_ (hv303_4.symm.trans hx303_4)
        rw [hv303_4] at ge303_4
        have HLq3 := aM (show Kd.R k59 59 _ _ _ _ ((rd_T50 t298 x13_1).f4) from ge303_4)
        clear hv303_4 ge303_4
        clear hcc303 hce303
        have HRq2 := aM hi303_3
        have HCq1 := aM hl303_3
        clear hi303_3 hl303_3
        have HRq3 := aM hi303_4
        have HCq2 := aM hl303_4
        clear hi303_4 hl303_4
        replace p303 := eq_true p303
        replace q303 := eq_true q303
        refine start_ (n := 9) (S := fun w' => w'.cell? ⟨gb297, 0, none⟩ = some (.int .i64 a0_0) ∧ w'.cell? ⟨gb297, 1, none⟩ = some (.slice A0_1 l0_1.length c0_1) ∧ w'.cell? (ad301.add ((x13_1).toNat * 6)) = some (.int .i64 ((rd_T50 t298 x13_1).f0)) ∧ w'.cell? ⟨(ad301.add ((x13_1).toNat * 6)).block, (ad301.add ((x13_1).toNat * 6)).off + 1, none⟩ = some (.int .i64 ((rd_T50 t298 x13_1).f1)) ∧ w'.cell? ⟨(ad301.add ((x13_1).toNat * 6)).block, (ad301.add ((x13_1).toNat * 6)).off + 2, none⟩ = some (.bool ((rd_T50 t298 x13_1).f2)) ∧ w'.cell? ⟨(ad301.add ((x13_1).toNat * 6)).block, (ad301.add ((x13_1).toNat * 6)).off + 3, none⟩ = some (.slice A303_3 ((rd_T50 t298 x13_1).f3).length c303_3) ∧ w'.cell? ⟨(ad301.add ((x13_1).toNat * 6)).block, (ad301.add ((x13_1).toNat * 6)).off + 4, none⟩ = some (.slice A303_4 ((rd_T50 t298 x13_1).f4).length c303_4) ∧ w'.cell? ⟨(ad301.add ((x13_1).toNat * 6)).block, (ad301.add ((x13_1).toNat * 6)).off + 5, none⟩ = some (.bool true)) (ds := []) #[F_,F_,F_,F_,F_,F_,F_,F_,F_] (by kernel_rfl) rfl rfl ⟨(kC BK297.out 0).trans rfl, (kC BK297.out 1).trans rfl, hx303_0, hx303_1, hx303_2, hx303_3, hx303_4, hx303_5⟩ (fun hHeld => ?_); refine with_tabW banksmanref14_Judge.tab8 banksmanref14_Judge.bits8 (fun HT_ HW_ => ?_)
        generalize wr.drew = w23 at HO_10 HLq0 HLq1 BK297 HRq1 HRq0 HB HLq2 HLq3 HRq2 HRq3 hx303_0 hx303_1 hx303_2 hx303_3 hx303_4 hx303_5 hHeld ⊢
        refine pure_ (i := 0) (N := some 36) (v := ?_) (a' := ?_) #[T_,F_,F_,F_,F_,F_,F_,F_,F_] rfl rfl (any_of HT_.out (by kernel_rfl)) (fun _ _ _ h => h) (Or.inl ⟨by rfl, ?_⟩) ?_ ?_
        rotate_left
        ·
         intro w'
         go_simp
         with_reducible rfl
        rotate_left
        ·
         simp only [Act.put, sI_, sZ_, sS_, i64_w, i32_w]
         rfl
        refine pure_ (i := 2) (N := some 38) (v := ?_) (a' := ?_) #[T_,F_,T_,F_,F_,F_,F_,F_,F_] rfl rfl (any_of HT_.out (by kernel_rfl)) (fun _ _ _ h => h) (Or.inl ⟨by rfl, ?_⟩) ?_ ?_
        rotate_left
        ·
         intro w'
         go_simp
         with_reducible rfl
        rotate_left
        ·
         simp only [Act.put, sI_, sZ_, sS_, i64_w, i32_w]
         rfl
        refine pure_ (i := 3) (N := some 39) (v := ?_) (a' := ?_) #[T_,F_,T_,T_,F_,F_,F_,F_,F_] rfl rfl (any_of HT_.out (by kernel_rfl)) (fun _ _ _ h => h) (Or.inl ⟨by rfl, ?_⟩) ?_ ?_
        rotate_left
        ·
         intro w'
         go_simp
         with_reducible rfl
        rotate_left
        ·
         simp only [Act.put, sI_, sZ_, sS_, i64_w, i32_w]
         rfl
        refine pure_ (i := 4) (N := some 40) (v := ?_) (a' := ?_) #[T_,F_,T_,T_,T_,F_,F_,F_,F_] rfl rfl (any_of HT_.out (by kernel_rfl)) (fun _ _ _ h => h) (Or.inl ⟨by rfl, ?_⟩) ?_ ?_
        rotate_left
        ·
         intro w'
         go_simp
         with_reducible rfl
        rotate_left
        ·
         simp only [Act.put, sI_, sZ_, sS_, i64_w, i32_w]
         rfl
        refine pure_ (i := 5) (N := some 41) (v := ?_) (a' := ?_) #[T_,F_,T_,T_,T_,T_,F_,F_,F_] rfl rfl (any_of HT_.out (by kernel_rfl)) (fun _ _ _ h => h) (Or.inl ⟨by rfl, ?_⟩) ?_ ?_
        rotate_left
        ·
         intro w'
         go_simp
         with_reducible rfl
        rotate_left
        ·
         simp only [Act.put, sI_, sZ_, sS_, i64_w, i32_w]
         rfl
        refine take_ (i := 1) (N := some 37) (v := ?_) (a' := ?_) #[T_,T_,T_,T_,T_,T_,F_,F_,F_] rfl rfl (take_ofW HT_.out HW_.out (by kernel_rfl)) (fun _ _ _ h => h) (Or.inl ⟨by rfl, ?_⟩) hHeld ?_ ?_
        rotate_left
        ·
         rintro w' ⟨s0, s1, s2, s3, s4, s5, s6, s7⟩
         go_simp
         with_reducible rfl
        rotate_left
        ·
         simp only [Act.put, sI_, sZ_, sS_, i64_w, i32_w]
         rfl
        refine take_ (i := 6) (N := some 42) (v := ?_) (a' := ?_) #[T_,T_,T_,T_,T_,T_,T_,F_,F_] rfl rfl (take_ofW HT_.out HW_.out (by kernel_rfl)) (fun _ _ _ h => h) (Or.inl ⟨by rfl, ?_⟩) hHeld ?_ ?_
        rotate_left
        ·
         rintro w' ⟨s0, s1, s2, s3, s4, s5, s6, s7⟩
         go_simp
         with_reducible rfl
        rotate_left
        ·
         simp only [Act.put, sI_, sZ_, sS_, i64_w, i32_w]
         rfl
        refine one_ (i := 7) (N := some 43) #[T_,T_,T_,T_,T_,T_,T_,T_,F_] rfl rfl (one_of HT_.out (by kernel_rfl)) (by decide) (fun K hK => ?_)
        refine goes_ Try.func19 (by kernel_rfl) rfl #[.slice A0_1 l0_1.length c0_1, .slice A303_4 ((rd_T50 t298 x13_1).f4).length c303_4] (by rfl) rfl rfl (by (try simp only [mT_, mC_, mN_]); first | done | rfl | (simp only [lD_, lT_]; rfl)) ?_
        with_reducible refine (banksmanref13_Hit.calls k1 _ _ l0_1 _ _ ((rd_T50 t298 x13_1).f4) true _ ?side1 ?side2 ?side3 ?side4 A12.out).mono ?_
        (case side1 => repeat (first | exact (kB_ HR0_1.out HB.out) | (with_reducible first | refine kA_ ?_ _ | refine kN_ ?_ _ | refine kD_ ?_)))
        (case side2 => exact HC0_1.out)
        (case side3 => repeat (first | exact (cU HRq3.out) | (with_reducible first | refine kA_ ?_ _ | refine kN_ ?_ _ | refine kD_ ?_)))
        (case side4 => exact HCq2.out)
        rintro e w24 ⟨rfl, hb⟩
        have HS2_ := (hb.cell (bL_ _ _ (hHeld.2.2.1))).trans (hHeld.2.2.1)
        have HS3_ := (hb.cell (bL_ _ _ (hHeld.2.2.2.1))).trans (hHeld.2.2.2.1)
        have HS4_ := (hb.cell (bL_ _ _ (hHeld.2.2.2.2.1))).trans (hHeld.2.2.2.2.1)
        have HS5_ := (hb.cell (bL_ _ _ (hHeld.2.2.2.2.2.1))).trans (hHeld.2.2.2.2.2.1)
        have HS6_ := (hb.cell (bL_ _ _ (hHeld.2.2.2.2.2.2.1))).trans (hHeld.2.2.2.2.2.2.1)
        have HS7_ := (hb.cell (bL_ _ _ (hHeld.2.2.2.2.2.2.2))).trans (hHeld.2.2.2.2.2.2.2)
        refine ⟨_, rfl, ?_⟩
        have n0_ := aM (Kd.R_below (rU HO_10.out) hb)
        have n1_ := aM (Kd.R_below (rU HLq0.out) hb)
        have n2_ := aM (Kd.R_below (rU HLq1.out) hb)
        have n3_ := aM (Kd.R_below (rU HLq2.out) hb)
        have n4_ := aM (Kd.R_below (rU HLq3.out) hb)
        have n5_ := aM (kB (g := gb297) (o := .cells #[.int .i64 a0_0, .slice A0_1 l0_1.length c0_1] 24 (0, 0)) (bU BK297.out) hb)
        have n6_ := aM (kB_ (cU HRq1.out) hb)
        have n7_ := aM (kB_ (cU HRq0.out) hb)
        have n8_ := aM (kB_ (cU HRq2.out) hb)
        have n9_ := aM (kB_ (cU HRq3.out) hb)
        have n10_ := aM (below_step (by repeat (first | (with_reducible first | exact HB.out | apply bA | apply bN | apply bD | refine bS ?_ GE297.out) | exact HB.out)) hb)
        clear HO_10
        clear HLq0
        clear HLq1
        clear HLq2
        clear HLq3
        clear BK297
        clear HRq1
        clear HRq0
        clear HRq2
        clear HRq3
        clear HB
        have HO_10 := n0_
        have HLq0 := n1_
        have HLq1 := n2_
        have HLq2 := n3_
        have HLq3 := n4_
        have BK297 := n5_
        have HRq1 := n6_
        have HRq0 := n7_
        have HRq2 := n8_
        have HRq3 := n9_
        have HB := n10_
        clear n0_ n1_ n2_ n3_ n4_ n5_ n6_ n7_ n8_ n9_ n10_
        (try clear hb)
        (try clear hb2)
        (try clear hk)
        (try clear hi)
        refine hK.out _ _ ⟨(kC BK297.out 0).trans rfl, (kC BK297.out 1).trans rfl, HS2_, HS3_, HS4_, HS5_, HS6_, HS7_⟩ (fun hHeld => ?_)
        clear hK K
        refine norm_ (a' := ?_) ?_ ?_
        rotate_left
        ·
         show Act.put _ (some 43) _ = _
         simp only [Act.put, sI_, sZ_, sS_, i64_w, i32_w]
         rfl
        refine pure_ (i := 8) (N := some 15) (v := ?_) (a' := ?_) #[T_,T_,T_,T_,T_,T_,T_,T_,T_] rfl rfl (any_of HT_.out (by kernel_rfl)) (fun _ _ _ h => h) (Or.inl ⟨by rfl, ?_⟩) ?_ ?_
        rotate_left
        ·
         intro w'
         go_simp
         with_reducible rfl
        rotate_left
        ·
         simp only [Act.put, sI_, sZ_, sS_, i64_w, i32_w]
         rfl
        refine done_ (done_of HT_.out (by kernel_rfl)) ?_
        have p305 : 0 ≤ (x13_1 : Int) := dT_
        have q305 : x13_1 < (t298.length : Int) := dT_
        obtain ⟨ad305, A305_3, c305_3, A305_4, c305_4, e305, hx305_0, hx305_1, hx305_2, hx305_3, hx305_4, hx305_5, hl305_3, hi305_3, hl305_4, hi305_4⟩ := at_T50 (Kd.R_reads' HO_10.out).2.2 x13_1 p305 q305
        (try rw [← Nbq20.out] at hx305_2)
        (try rw [← Nbq20.out] at hx305_5)
        obtain rfl : ad301 = ad305 := (by injection e305)
        (try obtain ⟨rfl, rfl⟩ := uE hx305_3 hx301_3)
        (try obtain ⟨rfl, rfl⟩ := uE hx305_4 hx301_4)
        (try obtain ⟨rfl, rfl⟩ := uE hx305_3 hx303_3)
        (try obtain ⟨rfl, rfl⟩ := uE hx305_4 hx303_4)
        (try obtain ⟨rfl, rfl⟩ := uE hx305_3 hx301_3)
        (try obtain ⟨rfl, rfl⟩ := uE hx305_4 hx301_4)
        (try obtain ⟨rfl, rfl⟩ := uE hx305_3 hx303_3)
        (try obtain ⟨rfl, rfl⟩ := uE hx305_4 hx303_4)
        obtain ⟨ce305, hce305, hMe305, hcc305⟩ := Kd.R_get HO_10.out z50 x13_1 p305 (by first | exact q305 | exact dT_ | (have e_ := (Kd.R_reads' HO_10.out).1; omega))
        obtain ⟨ve305_3, ve305_4, rfl, ge305_3, ge305_4⟩ := k50_openM hMe305
        have hv305_3 := hcc305 3 _ rfl
        rw [add_field _ _ 3 (by omega)] at hv305_3
        replace hv305_3 := sO_ (hv305_3.symm.trans hx305_3)
        rw [hv305_3] at ge305_3
        have HLq4 := aM (show Kd.R k57 57 _ _ _ _ ((rd_T50 t298 x13_1).f3) from ge305_3)
        clear hv305_3 ge305_3
        have hv305_4 := hcc305 4 _ rfl
        rw [add_field _ _ 4 (by omega)] at hv305_4
        replace hv305_4 := sO_ (hv305_4.symm.trans hx305_4)
        rw [hv305_4] at ge305_4
        have HLq5 := aM (show Kd.R k59 59 _ _ _ _ ((rd_T50 t298 x13_1).f4) from ge305_4)
        clear hv305_4 ge305_4
        clear hcc305 hce305
        have HRq4 := aM hi305_3
        have HCq4 := aM hl305_3
        clear hi305_3 hl305_3
        have HRq5 := aM hi305_4
        have HCq5 := aM hl305_4
        clear hi305_4 hl305_4
        replace p305 := eq_true p305
        replace q305 := eq_true q305
        try go_wp2_with (first | ((with_reducible refine gate_callee (f := 19) rfl ?_); refine goesL_ (some 50) rfl rfl Try.func19 (by kernel_rfl) rfl #[.slice A303_3 ((rd_T50 t298 x13_1).f3).length c303_3, .slice A1 l1.length c1] rfl (by (try simp only [mT_, mC_, mN_]); first | done | rfl | (simp only [lD_, lT_]; rfl)) ?_; (with_reducible refine (banksmanref13_Hit.calls k1 _ _ ((rd_T50 t298 x13_1).f3) _ _ l1 t306 _ ?side1 ?side2 ?side3 ?side4 A13.out).mono ?_); (case side1 => repeat (first | exact (cU HRq2.out) | (with_reducible first | refine kA_ ?_ _ | refine kN_ ?_ _ | refine kD_ ?_))); (case side2 => exact HCq1.out); (case side3 => repeat (first | exact (kB_ HR1.out HB.out) | (with_reducible first | refine kA_ ?_ _ | refine kN_ ?_ _ | refine kD_ ?_))); (case side4 => exact HC1.out); rintro e w25 ⟨rfl, hb⟩; refine ⟨_, rfl, ?_⟩; replace HO_10 := aM (Kd.R_below (rU HO_10.out) hb); replace HLq0 := aM (Kd.R_below (rU HLq0.out) hb); replace HLq1 := aM (Kd.R_below (rU HLq1.out) hb); replace HLq2 := aM (Kd.R_below (rU HLq2.out) hb); replace HLq3 := aM (Kd.R_below (rU HLq3.out) hb); replace HLq4 := aM (Kd.R_below (rU HLq4.out) hb); replace HLq5 := aM (Kd.R_below (rU HLq5.out) hb); replace BK297 := aM (kB (g := gb297) (o := .cells #[.int .i64 a0_0, .slice A0_1 l0_1.length c0_1] 24 (0, 0)) (bU BK297.out) hb); replace HRq1 := aM (kB_ (cU HRq1.out) hb); replace HRq0 := aM (kB_ (cU HRq0.out) hb); replace HRq2 := aM (kB_ (cU HRq2.out) hb); replace HRq3 := aM (kB_ (cU HRq3.out) hb); replace HRq4 := aM (kB_ (cU HRq4.out) hb); replace HRq5 := aM (kB_ (cU HRq5.out) hb); replace HB := aM (below_step (by repeat (first | (with_reducible first | exact HB.out | apply bA | apply bN | apply bD | refine bS ?_ GE297.out) | exact HB.out)) hb); (try clear hb); (try clear hb2); (try clear hk); (try clear hi); have p307 : 0 ≤ (x13_1 : Int) := dT_; have q307 : x13_1 < (t298.length : Int) := dT_; obtain ⟨ad307, A307_3, c307_3, A307_4, c307_4, e307, hx307_0, hx307_1, hx307_2, hx307_3, hx307_4, hx307_5, hl307_3, hi307_3, hl307_4, hi307_4⟩ := at_T50 (Kd.R_reads' HO_10.out).2.2 x13_1 p307 q307; (try rw [← Nbq20.out] at hx307_2); (try rw [← Nbq20.out] at hx307_5); obtain rfl : ad301 = ad307 := (by injection e307); obtain ⟨ce307, hce307, hMe307, hcc307⟩ := Kd.R_get HO_10.out z50 x13_1 p307 (by first | exact q307 | exact dT_ | (have e_ := (Kd.R_reads' HO_10.out).1; omega)); obtain ⟨ve307_3, ve307_4, rfl, ge307_3, ge307_4⟩ := k50_openM hMe307; have hv307_3 := hcc307 3 _ rfl; rw [add_field _ _ 3 (by omega)] at hv307_3; replace hv307_3 := sO_ (hv307_3.symm.trans hx307_3); rw [hv307_3] at ge307_3; have HLq6 := aM (show Kd.R k57 57 _ _ _ _ ((rd_T50 t298 x13_1).f3) from ge307_3); clear hv307_3 ge307_3; have hv307_4 := hcc307 4 _ rfl; rw [add_field _ _ 4 (by omega)] at hv307_4; replace hv307_4 := sO_ (hv307_4.symm.trans hx307_4); rw [hv307_4] at ge307_4; have HLq7 := aM (show Kd.R k59 59 _ _ _ _ ((rd_T50 t298 x13_1).f4) from ge307_4); clear hv307_4 ge307_4; clear hcc307 hce307; have HRq6 := aM hi307_3; have HCq6 := aM hl307_3; clear hi307_3 hl307_3; have HRq7 := aM hi307_4; have HCq7 := aM hl307_4; clear hi307_4 hl307_4; replace p307 := eq_true p307; replace q307 := eq_true q307))
        go_ret2
        exact ⟨by first | rfl | (simp [errW_none, errW_some] <;> rfl) | (simp [*, errW_none, errW_some] <;> rfl), by repeat (first | (with_reducible first | exact HB.out | apply bA | apply bN | apply bD | refine bS ?_ GE297.out) | exact HB.out)⟩
       ·
        replace c21 := Bool.eq_false_iff.mpr c21
        subst c21
        have H1 : (if x11_1 = true then (if x12_1 = true then (banksmanref14_Judge.l0 k1 l1 l3 t298 true true (wrap64 (x13_1 + 1)) a0_0 l0_1) else (banksmanref14_Judge.l0 k1 l1 l3 t298 true t306 (wrap64 (x13_1 + 1)) a0_0 l0_1)) else (if x12_1 = true then (banksmanref14_Judge.l0 k1 l1 l3 t298 true true (wrap64 (x13_1 + 1)) a0_0 l0_1) else (banksmanref14_Judge.l0 k1 l1 l3 t298 true t306 (wrap64 (x13_1 + 1)) a0_0 l0_1))) = some (r1, r2) := by rw [if_neg (show ¬ (false = true) by decide)] at H; exact H
        clear H
        have H := H1
        clear H1
        by_cases c26 : x11_1 = true
        ·
         subst c26
         have H1 : (if x12_1 = true then (banksmanref14_Judge.l0 k1 l1 l3 t298 true true (wrap64 (x13_1 + 1)) a0_0 l0_1) else (banksmanref14_Judge.l0 k1 l1 l3 t298 true t306 (wrap64 (x13_1 + 1)) a0_0 l0_1)) = some (r1, r2) := by rw [if_pos rfl] at H; exact H
         clear H
         have H := H1
         clear H1
         by_cases c27 : x12_1 = true
         ·
          subst c27
          have H1 : (banksmanref14_Judge.l0 k1 l1 l3 t298 true true (wrap64 (x13_1 + 1)) a0_0 l0_1) = some (r1, r2) := by rw [if_pos rfl] at H; exact H
          clear H
          have H := H1
          clear H1
          have H' := aM H
          clear H
          obtain ⟨Ao28, co28, eo28⟩ := Kd.R_slice HO_10.out
          subst eo28
          have p301 : 0 ≤ (x13_1 : Int) := dT_
          have q301 : x13_1 < (t298.length : Int) := dT_
          obtain ⟨ad301, A301_3, c301_3, A301_4, c301_4, e301, hx301_0, hx301_1, hx301_2, hx301_3, hx301_4, hx301_5, hl301_3, hi301_3, hl301_4, hi301_4⟩ := at_T50 (Kd.R_reads' HO_10.out).2.2 x13_1 p301 q301
          (try rw [← Nbq20.out] at hx301_2)
          (try rw [← Nbq20.out] at hx301_5)
          cases e301
          obtain ⟨ce301, hce301, hMe301, hcc301⟩ := Kd.R_get HO_10.out z50 x13_1 p301 (by first | exact q301 | exact dT_ | (have e_ := (Kd.R_reads' HO_10.out).1; omega))
          obtain ⟨ve301_3, ve301_4, rfl, ge301_3, ge301_4⟩ := k50_openM hMe301
          have hv301_3 := hcc301 3 _ rfl
          rw [add_field _ _ 3 (by omega)] at hv301_3
          replace hv301_3 := sO_ (hv301_3.symm.trans hx301_3)
          rw [hv301_3] at ge301_3
          have HLq0 := aM (show Kd.R k57 57 _ _ _ _ ((rd_T50 t298 x13_1).f3) from ge301_3)
          clear hv301_3 ge301_3
          have hv301_4 := hcc301 4 _ rfl
          rw [add_field _ _ 4 (by omega)] at hv301_4
          replace hv301_4 := sO_ (hv301_4.symm.trans hx301_4)
          rw [hv301_4] at ge301_4
          have HLq1 := aM (show Kd.R k59 59 _ _ _ _ ((rd_T50 t298 x13_1).f4) from ge301_4)
          clear hv301_4 ge301_4
          clear hcc301 hce301
          have HRq1 := aM hi301_3
          have HCq3 := aM hl301_3
          clear hi301_3 hl301_3
          have HRq0 := aM hi301_4
          have HCq0 := aM hl301_4
          clear hi301_4 hl301_4
          replace p301 := eq_true p301
          replace q301 := eq_true q301
          try go_wp2_with (first | ((with_reducible refine gate_callee (f := 20) rfl ?_); refine goesL_ (some 35) rfl rfl Try.func20 (by kernel_rfl) rfl #[.slice A301_4 ((rd_T50 t298 x13_1).f4).length c301_4, .slice A1 l1.length c1] rfl (by (try simp only [mT_, mC_, mN_]); first | done | rfl | (simp only [lD_, lT_]; rfl)) ?_; (with_reducible refine (banksmanref13_Same.calls k1 _ _ ((rd_T50 t298 x13_1).f4) _ _ l1 false _ ?side1 ?side2 ?side3 ?side4 A11.out).mono ?_); (case side1 => repeat (first | exact (cU HRq0.out) | (with_reducible first | refine kA_ ?_ _ | refine kN_ ?_ _ | refine kD_ ?_))); (case side2 => exact HCq0.out); (case side3 => repeat (first | exact (kB_ HR1.out HB.out) | (with_reducible first | refine kA_ ?_ _ | refine kN_ ?_ _ | refine kD_ ?_))); (case side4 => exact HC1.out); rintro e w' ⟨rfl, ⟨nd, rfl⟩⟩; refine ⟨_, rfl, ?_⟩))
          (try (rw [drewN_self wr]; generalize hq_ : World.drewN wr _ = wr; have n0_ : Aside0 (Kd.R k57 57 wr w.heap.size (fun k_ => some k_ ≠ (.slice (some ad301) t298.length co28 : Value).ownBlock) (.slice A301_3 ((rd_T50 t298 x13_1).f3).length c301_3) ((rd_T50 t298 x13_1).f3)) := ⟨by rw [← hq_]; exact (by (with_reducible repeat (first | apply Kd.R_alloc | apply Kd.R_drewN | apply Kd.R_drew)); exact Kd.R_mono HLq0.out (fun _ hk => hk.2))⟩; have n1_ : Aside0 (Kd.R k59 59 wr w.heap.size (fun k_ => some k_ ≠ (.slice (some ad301) t298.length co28 : Value).ownBlock) (.slice A301_4 ((rd_T50 t298 x13_1).f4).length c301_4) ((rd_T50 t298 x13_1).f4)) := ⟨by rw [← hq_]; exact (by (with_reducible repeat (first | apply Kd.R_alloc | apply Kd.R_drewN | apply Kd.R_drew)); exact Kd.R_mono HLq1.out (fun _ hk => hk.2))⟩; have n2_ : Aside0 (Kd.R k50 50 wr w.heap.size (fun _ => True) (.slice (some ad301) t298.length co28) t298) := ⟨by rw [← hq_]; exact (rU HO_10.out)⟩; have n3_ : Aside0 (wr.heap[gb297]? = some (.cells #[.int .i64 a0_0, .slice A0_1 l0_1.length c0_1] 24 (0, 0))) := ⟨by rw [← hq_]; exact (bU BK297.out)⟩; have n4_ : Aside0 (Below w.heap.size w wr) := ⟨by rw [← hq_]; exact (by repeat (first | (with_reducible first | exact HB.out | apply bA | apply bN | apply bD | refine bS ?_ GE297.out) | exact HB.out))⟩; have n5_ : Aside0 (Kd.C k57 wr A301_3 ((rd_T50 t298 x13_1).f3).length ((rd_T50 t298 x13_1).f3)) := ⟨by rw [← hq_]; exact (cU HRq1.out)⟩; have n6_ : Aside0 (Kd.C k59 wr A301_4 ((rd_T50 t298 x13_1).f4).length ((rd_T50 t298 x13_1).f4)) := ⟨by rw [← hq_]; exact (cU HRq0.out)⟩; clear HLq0 HLq1 HO_10 BK297 HB HRq1 HRq0 hq_; have HLq0 := n0_; have HLq1 := n1_; have HO_10 := n2_; have BK297 := n3_; have HB := n4_; have HRq1 := n5_; have HRq0 := n6_; clear n0_ n1_ n2_ n3_ n4_ n5_ n6_))
          have n0_ := aM (Kd.R_drew HO_10.out)
          have n1_ := aM (Kd.R_drew HLq0.out)
          have n2_ := aM (Kd.R_drew HLq1.out)
          have n3_ := aM (blk_drew BK297.out)
          have n4_ := aM (kD_ HRq1.out)
          have n5_ := aM (kD_ HRq0.out)
          have n6_ := aM (bD HB.out)
          clear HO_10
          clear HLq0
          clear HLq1
          clear BK297
          clear HRq1
          clear HRq0
          clear HB
          have HO_10 := n0_
          have HLq0 := n1_
          have HLq1 := n2_
          have BK297 := n3_
          have HRq1 := n4_
          have HRq0 := n5_
          have HB := n6_
          clear n0_ n1_ n2_ n3_ n4_ n5_ n6_
          have p303 : 0 ≤ (x13_1 : Int) := dT_
          have q303 : x13_1 < (t298.length : Int) := dT_
          obtain ⟨ad303, A303_3, c303_3, A303_4, c303_4, e303, hx303_0, hx303_1, hx303_2, hx303_3, hx303_4, hx303_5, hl303_3, hi303_3, hl303_4, hi303_4⟩ := at_T50 (Kd.R_reads' HO_10.out).2.2 x13_1 p303 q303
          (try rw [← Nbq20.out] at hx303_2)
          (try rw [← Nbq20.out] at hx303_5)
          obtain rfl : ad301 = ad303 := (by injection e303)
          (try obtain ⟨rfl, rfl⟩ := uE hx303_3 hx301_3)
          (try obtain ⟨rfl, rfl⟩ := uE hx303_4 hx301_4)
          (try obtain ⟨rfl, rfl⟩ := uE hx303_3 hx301_3)
          (try obtain ⟨rfl, rfl⟩ := uE hx303_4 hx301_4)
          (try obtain ⟨rfl, rfl⟩ := uE hx303_3 hx301_3)
          (try obtain ⟨rfl, rfl⟩ := uE hx303_4 hx301_4)
          obtain ⟨ce303, hce303, hMe303, hcc303⟩ := Kd.R_get HO_10.out z50 x13_1 p303 (by first | exact q303 | exact dT_ | (have e_ := (Kd.R_reads' HO_10.out).1; omega))
          obtain ⟨ve303_3, ve303_4, rfl, ge303_3, ge303_4⟩ := k50_openM hMe303
          have hv303_3 := hcc303 3 _ rfl
          rw [add_field _ _ 3 (by omega)] at hv303_3
          replace hv303_3 := sO_ (hv303_3.symm.trans hx303_3)
          rw [hv303_3] at ge303_3
          have HLq2 := aM (show Kd.R k57 57 _ _ _ _ ((rd_T50 t298 x13_1).f3) from ge303_3)
          clear hv303_3 ge303_3
          have hv303_4 := hcc303 4 _ rfl
          rw [add_field _ _ 4 (by omega)] at hv303_4
          replace hv303_4 := sO_ (hv303_4.symm.trans hx303_4)
          rw [hv303_4] at ge303_4
          have HLq3 := aM (show Kd.R k59 59 _ _ _ _ ((rd_T50 t298 x13_1).f4) from ge303_4)
          clear hv303_4 ge303_4
          clear hcc303 hce303
          have HRq2 := aM hi303_3
          have HCq1 := aM hl303_3
          clear hi303_3 hl303_3
          have HRq3 := aM hi303_4
          have HCq2 := aM hl303_4
          clear hi303_4 hl303_4
          replace p303 := eq_true p303
          replace q303 := eq_true q303
          refine start_ (n := 9) (S := fun w' => w'.cell? ⟨gb297, 0, none⟩ = some (.int .i64 a0_0) ∧ w'.cell? ⟨gb297, 1, none⟩ = some (.slice A0_1 l0_1.length c0_1) ∧ w'.cell? (ad301.add ((x13_1).toNat * 6)) = some (.int .i64 ((rd_T50 t298 x13_1).f0)) ∧ w'.cell? ⟨(ad301.add ((x13_1).toNat * 6)).block, (ad301.add ((x13_1).toNat * 6)).off + 1, none⟩ = some (.int .i64 ((rd_T50 t298 x13_1).f1)) ∧ w'.cell? ⟨(ad301.add ((x13_1).toNat * 6)).block, (ad301.add ((x13_1).toNat * 6)).off + 2, none⟩ = some (.bool ((rd_T50 t298 x13_1).f2)) ∧ w'.cell? ⟨(ad301.add ((x13_1).toNat * 6)).block, (ad301.add ((x13_1).toNat * 6)).off + 3, none⟩ = some (.slice A303_3 ((rd_T50 t298 x13_1).f3).length c303_3) ∧ w'.cell? ⟨(ad301.add ((x13_1).toNat * 6)).block, (ad301.add ((x13_1).toNat * 6)).off + 4, none⟩ = some (.slice A303_4 ((rd_T50 t298 x13_1).f4).length c303_4) ∧ w'.cell? ⟨(ad301.add ((x13_1).toNat * 6)).block, (ad301.add ((x13_1).toNat * 6)).off + 5, none⟩ = some (.bool false)) (ds := []) #[F_,F_,F_,F_,F_,F_,F_,F_,F_] (by kernel_rfl) rfl rfl ⟨(kC BK297.out 0).trans rfl, (kC BK297.out 1).trans rfl, hx303_0, hx303_1, hx303_2, hx303_3, hx303_4, hx303_5⟩ (fun hHeld => ?_); refine with_tabW banksmanref14_Judge.tab8 banksmanref14_Judge.bits8 (fun HT_ HW_ => ?_)
          generalize wr.drew = w29 at HO_10 HLq0 HLq1 BK297 HRq1 HRq0 HB HLq2 HLq3 HRq2 HRq3 hx303_0 hx303_1 hx303_2 hx303_3 hx303_4 hx303_5 hHeld ⊢
          refine pure_ (i := 0) (N := some 36) (v := ?_) (a' := ?_) #[T_,F_,F_,F_,F_,F_,F_,F_,F_] rfl rfl (any_of HT_.out (by kernel_rfl)) (fun _ _ _ h => h) (Or.inl ⟨by rfl, ?_⟩) ?_ ?_
          rotate_left
          ·
           intro w'
           go_simp
           with_reducible rfl
          rotate_left
          ·
           simp only [Act.put, sI_, sZ_, sS_, i64_w, i32_w]
           rfl
          refine pure_ (i := 2) (N := some 38) (v := ?_) (a' := ?_) #[T_,F_,T_,F_,F_,F_,F_,F_,F_] rfl rfl (any_of HT_.out (by kernel_rfl)) (fun _ _ _ h => h) (Or.inl ⟨by rfl, ?_⟩) ?_ ?_
          rotate_left
          ·
           intro w'
           go_simp
           with_reducible rfl
          rotate_left
          ·
           simp only [Act.put, sI_, sZ_, sS_, i64_w, i32_w]
           rfl
          refine pure_ (i := 3) (N := some 39) (v := ?_) (a' := ?_) #[T_,F_,T_,T_,F_,F_,F_,F_,F_] rfl rfl (any_of HT_.out (by kernel_rfl)) (fun _ _ _ h => h) (Or.inl ⟨by rfl, ?_⟩) ?_ ?_
          rotate_left
          ·
           intro w'
           go_simp
           with_reducible rfl
          rotate_left
          ·
           simp only [Act.put, sI_, sZ_, sS_, i64_w, i32_w]
           rfl
          refine pure_ (i := 4) (N := some 40) (v := ?_) (a' := ?_) #[T_,F_,T_,T_,T_,F_,F_,F_,F_] rfl rfl (any_of HT_.out (by kernel_rfl)) (fun _ _ _ h => h) (Or.inl ⟨by rfl, ?_⟩) ?_ ?_
          rotate_left
          ·
           intro w'
           go_simp
           with_reducible rfl
          rotate_left
          ·
           simp only [Act.put, sI_, sZ_, sS_, i64_w, i32_w]
           rfl
          refine pure_ (i := 5) (N := some 41) (v := ?_) (a' := ?_) #[T_,F_,T_,T_,T_,T_,F_,F_,F_] rfl rfl (any_of HT_.out (by kernel_rfl)) (fun _ _ _ h => h) (Or.inl ⟨by rfl, ?_⟩) ?_ ?_
          rotate_left
          ·
           intro w'
           go_simp
           with_reducible rfl
          rotate_left
          ·
           simp only [Act.put, sI_, sZ_, sS_, i64_w, i32_w]
           rfl
          refine take_ (i := 1) (N := some 37) (v := ?_) (a' := ?_) #[T_,T_,T_,T_,T_,T_,F_,F_,F_] rfl rfl (take_ofW HT_.out HW_.out (by kernel_rfl)) (fun _ _ _ h => h) (Or.inl ⟨by rfl, ?_⟩) hHeld ?_ ?_
          rotate_left
          ·
           rintro w' ⟨s0, s1, s2, s3, s4, s5, s6, s7⟩
           go_simp
           with_reducible rfl
          rotate_left
          ·
           simp only [Act.put, sI_, sZ_, sS_, i64_w, i32_w]
           rfl
          refine take_ (i := 6) (N := some 42) (v := ?_) (a' := ?_) #[T_,T_,T_,T_,T_,T_,T_,F_,F_] rfl rfl (take_ofW HT_.out HW_.out (by kernel_rfl)) (fun _ _ _ h => h) (Or.inl ⟨by rfl, ?_⟩) hHeld ?_ ?_
          rotate_left
          ·
           rintro w' ⟨s0, s1, s2, s3, s4, s5, s6, s7⟩
           go_simp
           with_reducible rfl
          rotate_left
          ·
           simp only [Act.put, sI_, sZ_, sS_, i64_w, i32_w]
           rfl
          refine one_ (i := 7) (N := some 43) #[T_,T_,T_,T_,T_,T_,T_,T_,F_] rfl rfl (one_of HT_.out (by kernel_rfl)) (by decide) (fun K hK => ?_)
          refine goes_ Try.func19 (by kernel_rfl) rfl #[.slice A0_1 l0_1.length c0_1, .slice A303_4 ((rd_T50 t298 x13_1).f4).length c303_4] (by rfl) rfl rfl (by (try simp only [mT_, mC_, mN_]); first | done | rfl | (simp only [lD_, lT_]; rfl)) ?_
          with_reducible refine (banksmanref13_Hit.calls k1 _ _ l0_1 _ _ ((rd_T50 t298 x13_1).f4) true _ ?side1 ?side2 ?side3 ?side4 A12.out).mono ?_
          (case side1 => repeat (first | exact (kB_ HR0_1.out HB.out) | (with_reducible first | refine kA_ ?_ _ | refine kN_ ?_ _ | refine kD_ ?_)))
          (case side2 => exact HC0_1.out)
          (case side3 => repeat (first | exact (cU HRq3.out) | (with_reducible first | refine kA_ ?_ _ | refine kN_ ?_ _ | refine kD_ ?_)))
          (case side4 => exact HCq2.out)
          rintro e w30 ⟨rfl, hb⟩
          have HS2_ := (hb.cell (bL_ _ _ (hHeld.2.2.1))).trans (hHeld.2.2.1)
          have HS3_ := (hb.cell (bL_ _ _ (hHeld.2.2.2.1))).trans (hHeld.2.2.2.1)
          have HS4_ := (hb.cell (bL_ _ _ (hHeld.2.2.2.2.1))).trans (hHeld.2.2.2.2.1)
          have HS5_ := (hb.cell (bL_ _ _ (hHeld.2.2.2.2.2.1))).trans (hHeld.2.2.2.2.2.1)
          have HS6_ := (hb.cell (bL_ _ _ (hHeld.2.2.2.2.2.2.1))).trans (hHeld.2.2.2.2.2.2.1)
          have HS7_ := (hb.cell (bL_ _ _ (hHeld.2.2.2.2.2.2.2))).trans (hHeld.2.2.2.2.2.2.2)
          refine ⟨_, rfl, ?_⟩
          have n0_ := aM (Kd.R_below (rU HO_10.out) hb)
          have n1_ := aM (Kd.R_below (rU HLq0.out) hb)
          have n2_ := aM (Kd.R_below (rU HLq1.out) hb)
          have n3_ := aM (Kd.R_below (rU HLq2.out) hb)
          have n4_ := aM (Kd.R_below (rU HLq3.out) hb)
          have n5_ := aM (kB (g := gb297) (o := .cells #[.int .i64 a0_0, .slice A0_1 l0_1.length c0_1] 24 (0, 0)) (bU BK297.out) hb)
          have n6_ := aM (kB_ (cU HRq1.out) hb)
          have n7_ := aM (kB_ (cU HRq0.out) hb)
          have n8_ := aM (kB_ (cU HRq2.out) hb)
          have n9_ := aM (kB_ (cU HRq3.out) hb)
          have n10_ := aM (below_step (by repeat (first | (with_reducible first | exact HB.out | apply bA | apply bN | apply bD | refine bS ?_ GE297.out) | exact HB.out)) hb)
          clear HO_10
          clear HLq0
          clear HLq1
          clear HLq2
          clear HLq3
          clear BK297
          clear HRq1
          clear HRq0
          clear HRq2
          clear HRq3
          clear HB
          have HO_10 := n0_
          have HLq0 := n1_
          have HLq1 := n2_
          have HLq2 := n3_
          have HLq3 := n4_
          have BK297 := n5_
          have HRq1 := n6_
          have HRq0 := n7_
          have HRq2 := n8_
          have HRq3 := n9_
          have HB := n10_
          clear n0_ n1_ n2_ n3_ n4_ n5_ n6_ n7_ n8_ n9_ n10_
          (try clear hb)
          (try clear hb2)
          (try clear hk)
          (try clear hi)
          refine hK.out _ _ ⟨(kC BK297.out 0).trans rfl, (kC BK297.out 1).trans rfl, HS2_, HS3_, HS4_, HS5_, HS6_, HS7_⟩ (fun hHeld => ?_)
          clear hK K
          refine norm_ (a' := ?_) ?_ ?_
          rotate_left
          ·
           show Act.put _ (some 43) _ = _
           simp only [Act.put, sI_, sZ_, sS_, i64_w, i32_w]
           rfl
          refine pure_ (i := 8) (N := some 15) (v := ?_) (a' := ?_) #[T_,T_,T_,T_,T_,T_,T_,T_,T_] rfl rfl (any_of HT_.out (by kernel_rfl)) (fun _ _ _ h => h) (Or.inl ⟨by rfl, ?_⟩) ?_ ?_
          rotate_left
          ·
           intro w'
           go_simp
           with_reducible rfl
          rotate_left
          ·
           simp only [Act.put, sI_, sZ_, sS_, i64_w, i32_w]
           rfl
          refine done_ (done_of HT_.out (by kernel_rfl)) ?_
          have p305 : 0 ≤ (x13_1 : Int) := dT_
          have q305 : x13_1 < (t298.length : Int) := dT_
          obtain ⟨ad305, A305_3, c305_3, A305_4, c305_4, e305, hx305_0, hx305_1, hx305_2, hx305_3, hx305_4, hx305_5, hl305_3, hi305_3, hl305_4, hi305_4⟩ := at_T50 (Kd.R_reads' HO_10.out).2.2 x13_1 p305 q305
          (try rw [← Nbq20.out] at hx305_2)
          (try rw [← Nbq20.out] at hx305_5)
          obtain rfl : ad301 = ad305 := (by injection e305)
          (try obtain ⟨rfl, rfl⟩ := uE hx305_3 hx301_3)
          (try obtain ⟨rfl, rfl⟩ := uE hx305_4 hx301_4)
          (try obtain ⟨rfl, rfl⟩ := uE hx305_3 hx303_3)
          (try obtain ⟨rfl, rfl⟩ := uE hx305_4 hx303_4)
          (try obtain ⟨rfl, rfl⟩ := uE hx305_3 hx301_3)
          (try obtain ⟨rfl, rfl⟩ := uE hx305_4 hx301_4)
          (try obtain ⟨rfl, rfl⟩ := uE hx305_3 hx303_3)
          (try obtain ⟨rfl, rfl⟩ := uE hx305_4 hx303_4)
          (try obtain ⟨rfl, rfl⟩ := uE hx305_3 hx301_3)
          (try obtain ⟨rfl, rfl⟩ := uE hx305_4 hx301_4)
          (try obtain ⟨rfl, rfl⟩ := uE hx305_3 hx303_3)
          (try obtain ⟨rfl, rfl⟩ := uE hx305_4 hx303_4)
          obtain ⟨ce305, hce305, hMe305, hcc305⟩ := Kd.R_get HO_10.out z50 x13_1 p305 (by first | exact q305 | exact dT_ | (have e_ := (Kd.R_reads' HO_10.out).1; omega))
          obtain ⟨ve305_3, ve305_4, rfl, ge305_3, ge305_4⟩ := k50_openM hMe305
          have hv305_3 := hcc305 3 _ rfl
          rw [add_field _ _ 3 (by omega)] at hv305_3
          replace hv305_3 := sO_ (hv305_3.symm.trans hx305_3)
          rw [hv305_3] at ge305_3
          have HLq4 := aM (show Kd.R k57 57 _ _ _ _ ((rd_T50 t298 x13_1).f3) from ge305_3)
          clear hv305_3 ge305_3
          have hv305_4 := hcc305 4 _ rfl
          rw [add_field _ _ 4 (by omega)] at hv305_4
          replace hv305_4 := sO_ (hv305_4.symm.trans hx305_4)
          rw [hv305_4] at ge305_4
          have HLq5 := aM (show Kd.R k59 59 _ _ _ _ ((rd_T50 t298 x13_1).f4) from ge305_4)
          clear hv305_4 ge305_4
          clear hcc305 hce305
          have HRq4 := aM hi305_3
          have HCq4 := aM hl305_3
          clear hi305_3 hl305_3
          have HRq5 := aM hi305_4
          have HCq5 := aM hl305_4
          clear hi305_4 hl305_4
          replace p305 := eq_true p305
          replace q305 := eq_true q305
          try go_wp2_with (first | ((with_reducible refine gate_callee (f := 19) rfl ?_); refine goesL_ (some 50) rfl rfl Try.func19 (by kernel_rfl) rfl #[.slice A303_3 ((rd_T50 t298 x13_1).f3).length c303_3, .slice A1 l1.length c1] rfl (by (try simp only [mT_, mC_, mN_]); first | done | rfl | (simp only [lD_, lT_]; rfl)) ?_; (with_reducible refine (banksmanref13_Hit.calls k1 _ _ ((rd_T50 t298 x13_1).f3) _ _ l1 t306 _ ?side1 ?side2 ?side3 ?side4 A13.out).mono ?_); (case side1 => repeat (first | exact (cU HRq2.out) | (with_reducible first | refine kA_ ?_ _ | refine kN_ ?_ _ | refine kD_ ?_))); (case side2 => exact HCq1.out); (case side3 => repeat (first | exact (kB_ HR1.out HB.out) | (with_reducible first | refine kA_ ?_ _ | refine kN_ ?_ _ | refine kD_ ?_))); (case side4 => exact HC1.out); rintro e w31 ⟨rfl, hb⟩; refine ⟨_, rfl, ?_⟩; replace HO_10 := aM (Kd.R_below (rU HO_10.out) hb); replace HLq0 := aM (Kd.R_below (rU HLq0.out) hb); replace HLq1 := aM (Kd.R_below (rU HLq1.out) hb); replace HLq2 := aM (Kd.R_below (rU HLq2.out) hb); replace HLq3 := aM (Kd.R_below (rU HLq3.out) hb); replace HLq4 := aM (Kd.R_below (rU HLq4.out) hb); replace HLq5 := aM (Kd.R_below (rU HLq5.out) hb); replace BK297 := aM (kB (g := gb297) (o := .cells #[.int .i64 a0_0, .slice A0_1 l0_1.length c0_1] 24 (0, 0)) (bU BK297.out) hb); replace HRq1 := aM (kB_ (cU HRq1.out) hb); replace HRq0 := aM (kB_ (cU HRq0.out) hb); replace HRq2 := aM (kB_ (cU HRq2.out) hb); replace HRq3 := aM (kB_ (cU HRq3.out) hb); replace HRq4 := aM (kB_ (cU HRq4.out) hb); replace HRq5 := aM (kB_ (cU HRq5.out) hb); replace HB := aM (below_step (by repeat (first | (with_reducible first | exact HB.out | apply bA | apply bN | apply bD | refine bS ?_ GE297.out) | exact HB.out)) hb); (try clear hb); (try clear hb2); (try clear hk); (try clear hi); have p307 : 0 ≤ (x13_1 : Int) := dT_; have q307 : x13_1 < (t298.length : Int) := dT_; obtain ⟨ad307, A307_3, c307_3, A307_4, c307_4, e307, hx307_0, hx307_1, hx307_2, hx307_3, hx307_4, hx307_5, hl307_3, hi307_3, hl307_4, hi307_4⟩ := at_T50 (Kd.R_reads' HO_10.out).2.2 x13_1 p307 q307; (try rw [← Nbq20.out] at hx307_2); (try rw [← Nbq20.out] at hx307_5); obtain rfl : ad301 = ad307 := (by injection e307); obtain ⟨ce307, hce307, hMe307, hcc307⟩ := Kd.R_get HO_10.out z50 x13_1 p307 (by first | exact q307 | exact dT_ | (have e_ := (Kd.R_reads' HO_10.out).1; omega)); obtain ⟨ve307_3, ve307_4, rfl, ge307_3, ge307_4⟩ := k50_openM hMe307; have hv307_3 := hcc307 3 _ rfl; rw [add_field _ _ 3 (by omega)] at hv307_3; replace hv307_3 := sO_ (hv307_3.symm.trans hx307_3); rw [hv307_3] at ge307_3; have HLq6 := aM (show Kd.R k57 57 _ _ _ _ ((rd_T50 t298 x13_1).f3) from ge307_3); clear hv307_3 ge307_3; have hv307_4 := hcc307 4 _ rfl; rw [add_field _ _ 4 (by omega)] at hv307_4; replace hv307_4 := sO_ (hv307_4.symm.trans hx307_4); rw [hv307_4] at ge307_4; have HLq7 := aM (show Kd.R k59 59 _ _ _ _ ((rd_T50 t298 x13_1).f4) from ge307_4); clear hv307_4 ge307_4; clear hcc307 hce307; have HRq6 := aM hi307_3; have HCq6 := aM hl307_3; clear hi307_3 hl307_3; have HRq7 := aM hi307_4; have HCq7 := aM hl307_4; clear hi307_4 hl307_4; replace p307 := eq_true p307; replace q307 := eq_true q307))
          go_roundg k1
          case measure => have := HK1.out; omega
          case rel => exact ⟨(true), (true), (wrap64 (x13_1 + 1)), (by first | rfl | (simp; done) | (simp [*]; done)), (by first | rfl | (simp; done) | (simp [*]; done)), (by first | rfl | (simp; done) | (simp [*]; done)), H', ⟨by have := HK1.out; omega⟩, ⟨by (with_reducible repeat (first | apply Kd.R_alloc | apply Kd.R_drewN | apply Kd.R_drew)); exact HO_10.out⟩, ⟨by (with_reducible repeat (first | refine blk_drewN ?_ _ | refine blk_drew ?_ | refine blk_alloc ?_ _)); exact BK297.out⟩, ⟨by repeat (first | (with_reducible first | exact HB.out | apply bA | apply bN | apply bD | refine bS ?_ GE297.out) | exact HB.out)⟩⟩
         ·
          replace c27 := Bool.eq_false_iff.mpr c27
          subst c27
          have H1 : (banksmanref14_Judge.l0 k1 l1 l3 t298 true t306 (wrap64 (x13_1 + 1)) a0_0 l0_1) = some (r1, r2) := by rw [if_neg (show ¬ (false = true) by decide)] at H; exact H
          clear H
          have H := H1
          clear H1
          have H' := aM H
          clear H
          obtain ⟨Ao32, co32, eo32⟩ := Kd.R_slice HO_10.out
          subst eo32
          have p301 : 0 ≤ (x13_1 : Int) := dT_
          have q301 : x13_1 < (t298.length : Int) := dT_
          obtain ⟨ad301, A301_3, c301_3, A301_4, c301_4, e301, hx301_0, hx301_1, hx301_2, hx301_3, hx301_4, hx301_5, hl301_3, hi301_3, hl301_4, hi301_4⟩ := at_T50 (Kd.R_reads' HO_10.out).2.2 x13_1 p301 q301
          (try rw [← Nbq20.out] at hx301_2)
          (try rw [← Nbq20.out] at hx301_5)
          cases e301
          obtain ⟨ce301, hce301, hMe301, hcc301⟩ := Kd.R_get HO_10.out z50 x13_1 p301 (by first | exact q301 | exact dT_ | (have e_ := (Kd.R_reads' HO_10.out).1; omega))
          obtain ⟨ve301_3, ve301_4, rfl, ge301_3, ge301_4⟩ := k50_openM hMe301
          have hv301_3 := hcc301 3 _ rfl
          rw [add_field _ _ 3 (by omega)] at hv301_3
          replace hv301_3 := sO_ (hv301_3.symm.trans hx301_3)
          rw [hv301_3] at ge301_3
          have HLq0 := aM (show Kd.R k57 57 _ _ _ _ ((rd_T50 t298 x13_1).f3) from ge301_3)
          clear hv301_3 ge301_3
          have hv301_4 := hcc301 4 _ rfl
          rw [add_field _ _ 4 (by omega)] at hv301_4
          replace hv301_4 := sO_ (hv301_4.symm.trans hx301_4)
          rw [hv301_4] at ge301_4
          have HLq1 := aM (show Kd.R k59 59 _ _ _ _ ((rd_T50 t298 x13_1).f4) from ge301_4)
          clear hv301_4 ge301_4
          clear hcc301 hce301
          have HRq1 := aM hi301_3
          have HCq3 := aM hl301_3
          clear hi301_3 hl301_3
          have HRq0 := aM hi301_4
          have HCq0 := aM hl301_4
          clear hi301_4 hl301_4
          replace p301 := eq_true p301
          replace q301 := eq_true q301
          try go_wp2_with (first | ((with_reducible refine gate_callee (f := 20) rfl ?_); refine goesL_ (some 35) rfl rfl Try.func20 (by kernel_rfl) rfl #[.slice A301_4 ((rd_T50 t298 x13_1).f4).length c301_4, .slice A1 l1.length c1] rfl (by (try simp only [mT_, mC_, mN_]); first | done | rfl | (simp only [lD_, lT_]; rfl)) ?_; (with_reducible refine (banksmanref13_Same.calls k1 _ _ ((rd_T50 t298 x13_1).f4) _ _ l1 false _ ?side1 ?side2 ?side3 ?side4 A11.out).mono ?_); (case side1 => repeat (first | exact (cU HRq0.out) | (with_reducible first | refine kA_ ?_ _ | refine kN_ ?_ _ | refine kD_ ?_))); (case side2 => exact HCq0.out); (case side3 => repeat (first | exact (kB_ HR1.out HB.out) | (with_reducible first | refine kA_ ?_ _ | refine kN_ ?_ _ | refine kD_ ?_))); (case side4 => exact HC1.out); rintro e w' ⟨rfl, ⟨nd, rfl⟩⟩; refine ⟨_, rfl, ?_⟩))
          (try (rw [drewN_self wr]; generalize hq_ : World.drewN wr _ = wr; have n0_ : Aside0 (Kd.R k57 57 wr w.heap.size (fun k_ => some k_ ≠ (.slice (some ad301) t298.length co32 : Value).ownBlock) (.slice A301_3 ((rd_T50 t298 x13_1).f3).length c301_3) ((rd_T50 t298 x13_1).f3)) := ⟨by rw [← hq_]; exact (by (with_reducible repeat (first | apply Kd.R_alloc | apply Kd.R_drewN | apply Kd.R_drew)); exact Kd.R_mono HLq0.out (fun _ hk => hk.2))⟩; have n1_ : Aside0 (Kd.R k59 59 wr w.heap.size (fun k_ => some k_ ≠ (.slice (some ad301) t298.length co32 : Value).ownBlock) (.slice A301_4 ((rd_T50 t298 x13_1).f4).length c301_4) ((rd_T50 t298 x13_1).f4)) := ⟨by rw [← hq_]; exact (by (with_reducible repeat (first | apply Kd.R_alloc | apply Kd.R_drewN | apply Kd.R_drew)); exact Kd.R_mono HLq1.out (fun _ hk => hk.2))⟩; have n2_ : Aside0 (Kd.R k50 50 wr w.heap.size (fun _ => True) (.slice (some ad301) t298.length co32) t298) := ⟨by rw [← hq_]; exact (rU HO_10.out)⟩; have n3_ : Aside0 (wr.heap[gb297]? = some (.cells #[.int .i64 a0_0, .slice A0_1 l0_1.length c0_1] 24 (0, 0))) := ⟨by rw [← hq_]; exact (bU BK297.out)⟩; have n4_ : Aside0 (Below w.heap.size w wr) := ⟨by rw [← hq_]; exact (by repeat (first | (with_reducible first | exact HB.out | apply bA | apply bN | apply bD | refine bS ?_ GE297.out) | exact HB.out))⟩; have n5_ : Aside0 (Kd.C k57 wr A301_3 ((rd_T50 t298 x13_1).f3).length ((rd_T50 t298 x13_1).f3)) := ⟨by rw [← hq_]; exact (cU HRq1.out)⟩; have n6_ : Aside0 (Kd.C k59 wr A301_4 ((rd_T50 t298 x13_1).f4).length ((rd_T50 t298 x13_1).f4)) := ⟨by rw [← hq_]; exact (cU HRq0.out)⟩; clear HLq0 HLq1 HO_10 BK297 HB HRq1 HRq0 hq_; have HLq0 := n0_; have HLq1 := n1_; have HO_10 := n2_; have BK297 := n3_; have HB := n4_; have HRq1 := n5_; have HRq0 := n6_; clear n0_ n1_ n2_ n3_ n4_ n5_ n6_))
          have n0_ := aM (Kd.R_drew HO_10.out)
          have n1_ := aM (Kd.R_drew HLq0.out)
          have n2_ := aM (Kd.R_drew HLq1.out)
          have n3_ := aM (blk_drew BK297.out)
          have n4_ := aM (kD_ HRq1.out)
          have n5_ := aM (kD_ HRq0.out)
          have n6_ := aM (bD HB.out)
          clear HO_10
          clear HLq0
          clear HLq1
          clear BK297
          clear HRq1
          clear HRq0
          clear HB
          have HO_10 := n0_
          have HLq0 := n1_
          have HLq1 := n2_
          have BK297 := n3_
          have HRq1 := n4_
          have HRq0 := n5_
          have HB := n6_
          clear n0_ n1_ n2_ n3_ n4_ n5_ n6_
          have p303 : 0 ≤ (x13_1 : Int) := dT_
          have q303 : x13_1 < (t298.length : Int) := dT_
          obtain ⟨ad303, A303_3, c303_3, A303_4, c303_4, e303, hx303_0, hx303_1, hx303_2, hx303_3, hx303_4, hx303_5, hl303_3, hi303_3, hl303_4, hi303_4⟩ := at_T50 (Kd.R_reads' HO_10.out).2.2 x13_1 p303 q303
          (try rw [← Nbq20.out] at hx303_2)
          (try rw [← Nbq20.out] at hx303_5)
          obtain rfl : ad301 = ad303 := (by injection e303)
          (try obtain ⟨rfl, rfl⟩ := uE hx303_3 hx301_3)
          (try obtain ⟨rfl, rfl⟩ := uE hx303_4 hx301_4)
          (try obtain ⟨rfl, rfl⟩ := uE hx303_3 hx301_3)
          (try obtain ⟨rfl, rfl⟩ := uE hx303_4 hx301_4)
          (try obtain ⟨rfl, rfl⟩ := uE hx303_3 hx301_3)
          (try obtain ⟨rfl, rfl⟩ := uE hx303_4 hx301_4)
          (try obtain ⟨rfl, rfl⟩ := uE hx303_3 hx301_3)
          (try obtain ⟨rfl, rfl⟩ := uE hx303_4 hx301_4)
          obtain ⟨ce303, hce303, hMe303, hcc303⟩ := Kd.R_get HO_10.out z50 x13_1 p303 (by first | exact q303 | exact dT_ | (have e_ := (Kd.R_reads' HO_10.out).1; omega))
          obtain ⟨ve303_3, ve303_4, rfl, ge303_3, ge303_4⟩ := k50_openM hMe303
          have hv303_3 := hcc303 3 _ rfl
          rw [add_field _ _ 3 (by omega)] at hv303_3
          replace hv303_3 := sO_ (hv303_3.symm.trans hx303_3)
          rw [hv303_3] at ge303_3
          have HLq2 := aM (show Kd.R k57 57 _ _ _ _ ((rd_T50 t298 x13_1).f3) from ge303_3)
          clear hv303_3 ge303_3
          have hv303_4 := hcc303 4 _ rfl
          rw [add_field _ _ 4 (by omega)] at hv303_4
          replace hv303_4 := sO_ (hv303_4.symm.trans hx303_4)
          rw [hv303_4] at ge303_4
          have HLq3 := aM (show Kd.R k59 59 _ _ _ _ ((rd_T50 t298 x13_1).f4) from ge303_4)
          clear hv303_4 ge303_4
          clear hcc303 hce303
          have HRq2 := aM hi303_3
          have HCq1 := aM hl303_3
          clear hi303_3 hl303_3
          have HRq3 := aM hi303_4
          have HCq2 := aM hl303_4
          clear hi303_4 hl303_4
          replace p303 := eq_true p303
          replace q303 := eq_true q303
          refine start_ (n := 9) (S := fun w' => w'.cell? ⟨gb297, 0, none⟩ = some (.int .i64 a0_0) ∧ w'.cell? ⟨gb297, 1, none⟩ = some (.slice A0_1 l0_1.length c0_1) ∧ w'.cell? (ad301.add ((x13_1).toNat * 6)) = some (.int .i64 ((rd_T50 t298 x13_1).f0)) ∧ w'.cell? ⟨(ad301.add ((x13_1).toNat * 6)).block, (ad301.add ((x13_1).toNat * 6)).off + 1, none⟩ = some (.int .i64 ((rd_T50 t298 x13_1).f1)) ∧ w'.cell? ⟨(ad301.add ((x13_1).toNat * 6)).block, (ad301.add ((x13_1).toNat * 6)).off + 2, none⟩ = some (.bool ((rd_T50 t298 x13_1).f2)) ∧ w'.cell? ⟨(ad301.add ((x13_1).toNat * 6)).block, (ad301.add ((x13_1).toNat * 6)).off + 3, none⟩ = some (.slice A303_3 ((rd_T50 t298 x13_1).f3).length c303_3) ∧ w'.cell? ⟨(ad301.add ((x13_1).toNat * 6)).block, (ad301.add ((x13_1).toNat * 6)).off + 4, none⟩ = some (.slice A303_4 ((rd_T50 t298 x13_1).f4).length c303_4) ∧ w'.cell? ⟨(ad301.add ((x13_1).toNat * 6)).block, (ad301.add ((x13_1).toNat * 6)).off + 5, none⟩ = some (.bool false)) (ds := []) #[F_,F_,F_,F_,F_,F_,F_,F_,F_] (by kernel_rfl) rfl rfl ⟨(kC BK297.out 0).trans rfl, (kC BK297.out 1).trans rfl, hx303_0, hx303_1, hx303_2, hx303_3, hx303_4, hx303_5⟩ (fun hHeld => ?_); refine with_tabW banksmanref14_Judge.tab8 banksmanref14_Judge.bits8 (fun HT_ HW_ => ?_)
          generalize wr.drew = w33 at HO_10 HLq0 HLq1 BK297 HRq1 HRq0 HB HLq2 HLq3 HRq2 HRq3 hx303_0 hx303_1 hx303_2 hx303_3 hx303_4 hx303_5 hHeld ⊢
          refine pure_ (i := 0) (N := some 36) (v := ?_) (a' := ?_) #[T_,F_,F_,F_,F_,F_,F_,F_,F_] rfl rfl (any_of HT_.out (by kernel_rfl)) (fun _ _ _ h => h) (Or.inl ⟨by rfl, ?_⟩) ?_ ?_
          rotate_left
          ·
           intro w'
           go_simp
           with_reducible rfl
          rotate_left
          ·
           simp only [Act.put, sI_, sZ_, sS_, i64_w, i32_w]
           rfl
          refine pure_ (i := 2) (N := some 38) (v := ?_) (a' := ?_) #[T_,F_,T_,F_,F_,F_,F_,F_,F_] rfl rfl (any_of HT_.out (by kernel_rfl)) (fun _ _ _ h => h) (Or.inl ⟨by rfl, ?_⟩) ?_ ?_
          rotate_left
          ·
           intro w'
           go_simp
           with_reducible rfl
          rotate_left
          ·
           simp only [Act.put, sI_, sZ_, sS_, i64_w, i32_w]
           rfl
          refine pure_ (i := 3) (N := some 39) (v := ?_) (a' := ?_) #[T_,F_,T_,T_,F_,F_,F_,F_,F_] rfl rfl (any_of HT_.out (by kernel_rfl)) (fun _ _ _ h => h) (Or.inl ⟨by rfl, ?_⟩) ?_ ?_
          rotate_left
          ·
           intro w'
           go_simp
           with_reducible rfl
          rotate_left
          ·
           simp only [Act.put, sI_, sZ_, sS_, i64_w, i32_w]
           rfl
          refine pure_ (i := 4) (N := some 40) (v := ?_) (a' := ?_) #[T_,F_,T_,T_,T_,F_,F_,F_,F_] rfl rfl (any_of HT_.out (by kernel_rfl)) (fun _ _ _ h => h) (Or.inl ⟨by rfl, ?_⟩) ?_ ?_
          rotate_left
          ·
           intro w'
           go_simp
           with_reducible rfl
          rotate_left
          ·
           simp only [Act.put, sI_, sZ_, sS_, i64_w, i32_w]
           rfl
          refine pure_ (i := 5) (N := some 41) (v := ?_) (a' := ?_) #[T_,F_,T_,T_,T_,T_,F_,F_,F_] rfl rfl (any_of HT_.out (by kernel_rfl)) (fun _ _ _ h => h) (Or.inl ⟨by rfl, ?_⟩) ?_ ?_
          rotate_left
          ·
           intro w'
           go_simp
           with_reducible rfl
          rotate_left
          ·
           simp only [Act.put, sI_, sZ_, sS_, i64_w, i32_w]
           rfl
          refine take_ (i := 1) (N := some 37) (v := ?_) (a' := ?_) #[T_,T_,T_,T_,T_,T_,F_,F_,F_] rfl rfl (take_ofW HT_.out HW_.out (by kernel_rfl)) (fun _ _ _ h => h) (Or.inl ⟨by rfl, ?_⟩) hHeld ?_ ?_
          rotate_left
          ·
           rintro w' ⟨s0, s1, s2, s3, s4, s5, s6, s7⟩
           go_simp
           with_reducible rfl
          rotate_left
          ·
           simp only [Act.put, sI_, sZ_, sS_, i64_w, i32_w]
           rfl
          refine take_ (i := 6) (N := some 42) (v := ?_) (a' := ?_) #[T_,T_,T_,T_,T_,T_,T_,F_,F_] rfl rfl (take_ofW HT_.out HW_.out (by kernel_rfl)) (fun _ _ _ h => h) (Or.inl ⟨by rfl, ?_⟩) hHeld ?_ ?_
          rotate_left
          ·
           rintro w' ⟨s0, s1, s2, s3, s4, s5, s6, s7⟩
           go_simp
           with_reducible rfl
          rotate_left
          ·
           simp only [Act.put, sI_, sZ_, sS_, i64_w, i32_w]
           rfl
          refine one_ (i := 7) (N := some 43) #[T_,T_,T_,T_,T_,T_,T_,T_,F_] rfl rfl (one_of HT_.out (by kernel_rfl)) (by decide) (fun K hK => ?_)
          refine goes_ Try.func19 (by kernel_rfl) rfl #[.slice A0_1 l0_1.length c0_1, .slice A303_4 ((rd_T50 t298 x13_1).f4).length c303_4] (by rfl) rfl rfl (by (try simp only [mT_, mC_, mN_]); first | done | rfl | (simp only [lD_, lT_]; rfl)) ?_
          with_reducible refine (banksmanref13_Hit.calls k1 _ _ l0_1 _ _ ((rd_T50 t298 x13_1).f4) true _ ?side1 ?side2 ?side3 ?side4 A12.out).mono ?_
          (case side1 => repeat (first | exact (kB_ HR0_1.out HB.out) | (with_reducible first | refine kA_ ?_ _ | refine kN_ ?_ _ | refine kD_ ?_)))
          (case side2 => exact HC0_1.out)
          (case side3 => repeat (first | exact (cU HRq3.out) | (with_reducible first | refine kA_ ?_ _ | refine kN_ ?_ _ | refine kD_ ?_)))
          (case side4 => exact HCq2.out)
          rintro e w34 ⟨rfl, hb⟩
          have HS2_ := (hb.cell (bL_ _ _ (hHeld.2.2.1))).trans (hHeld.2.2.1)
          have HS3_ := (hb.cell (bL_ _ _ (hHeld.2.2.2.1))).trans (hHeld.2.2.2.1)
          have HS4_ := (hb.cell (bL_ _ _ (hHeld.2.2.2.2.1))).trans (hHeld.2.2.2.2.1)
          have HS5_ := (hb.cell (bL_ _ _ (hHeld.2.2.2.2.2.1))).trans (hHeld.2.2.2.2.2.1)
          have HS6_ := (hb.cell (bL_ _ _ (hHeld.2.2.2.2.2.2.1))).trans (hHeld.2.2.2.2.2.2.1)
          have HS7_ := (hb.cell (bL_ _ _ (hHeld.2.2.2.2.2.2.2))).trans (hHeld.2.2.2.2.2.2.2)
          refine ⟨_, rfl, ?_⟩
          have n0_ := aM (Kd.R_below (rU HO_10.out) hb)
          have n1_ := aM (Kd.R_below (rU HLq0.out) hb)
          have n2_ := aM (Kd.R_below (rU HLq1.out) hb)
          have n3_ := aM (Kd.R_below (rU HLq2.out) hb)
          have n4_ := aM (Kd.R_below (rU HLq3.out) hb)
          have n5_ := aM (kB (g := gb297) (o := .cells #[.int .i64 a0_0, .slice A0_1 l0_1.length c0_1] 24 (0, 0)) (bU BK297.out) hb)
          have n6_ := aM (kB_ (cU HRq1.out) hb)
          have n7_ := aM (kB_ (cU HRq0.out) hb)
          have n8_ := aM (kB_ (cU HRq2.out) hb)
          have n9_ := aM (kB_ (cU HRq3.out) hb)
          have n10_ := aM (below_step (by repeat (first | (with_reducible first | exact HB.out | apply bA | apply bN | apply bD | refine bS ?_ GE297.out) | exact HB.out)) hb)
          clear HO_10
          clear HLq0
          clear HLq1
          clear HLq2
          clear HLq3
          clear BK297
          clear HRq1
          clear HRq0
          clear HRq2
          clear HRq3
          clear HB
          have HO_10 := n0_
          have HLq0 := n1_
          have HLq1 := n2_
          have HLq2 := n3_
          have HLq3 := n4_
          have BK297 := n5_
          have HRq1 := n6_
          have HRq0 := n7_
          have HRq2 := n8_
          have HRq3 := n9_
          have HB := n10_
          clear n0_ n1_ n2_ n3_ n4_ n5_ n6_ n7_ n8_ n9_ n10_
          (try clear hb)
          (try clear hb2)
          (try clear hk)
          (try clear hi)
          refine hK.out _ _ ⟨(kC BK297.out 0).trans rfl, (kC BK297.out 1).trans rfl, HS2_, HS3_, HS4_, HS5_, HS6_, HS7_⟩ (fun hHeld => ?_)
          clear hK K
          refine norm_ (a' := ?_) ?_ ?_
          rotate_left
          ·
           show Act.put _ (some 43) _ = _
           simp only [Act.put, sI_, sZ_, sS_, i64_w, i32_w]
           rfl
          refine pure_ (i := 8) (N := some 15) (v := ?_) (a' := ?_) #[T_,T_,T_,T_,T_,T_,T_,T_,T_] rfl rfl (any_of HT_.out (by kernel_rfl)) (fun _ _ _ h => h) (Or.inl ⟨by rfl, ?_⟩) ?_ ?_
          rotate_left
          ·
           intro w'
           go_simp
           with_reducible rfl
          rotate_left
          ·
           simp only [Act.put, sI_, sZ_, sS_, i64_w, i32_w]
           rfl
          refine done_ (done_of HT_.out (by kernel_rfl)) ?_
          have p305 : 0 ≤ (x13_1 : Int) := dT_
          have q305 : x13_1 < (t298.length : Int) := dT_
          obtain ⟨ad305, A305_3, c305_3, A305_4, c305_4, e305, hx305_0, hx305_1, hx305_2, hx305_3, hx305_4, hx305_5, hl305_3, hi305_3, hl305_4, hi305_4⟩ := at_T50 (Kd.R_reads' HO_10.out).2.2 x13_1 p305 q305
          (try rw [← Nbq20.out] at hx305_2)
          (try rw [← Nbq20.out] at hx305_5)
          obtain rfl : ad301 = ad305 := (by injection e305)
          (try obtain ⟨rfl, rfl⟩ := uE hx305_3 hx301_3)
          (try obtain ⟨rfl, rfl⟩ := uE hx305_4 hx301_4)
          (try obtain ⟨rfl, rfl⟩ := uE hx305_3 hx303_3)
          (try obtain ⟨rfl, rfl⟩ := uE hx305_4 hx303_4)
          (try obtain ⟨rfl, rfl⟩ := uE hx305_3 hx301_3)
          (try obtain ⟨rfl, rfl⟩ := uE hx305_4 hx301_4)
          (try obtain ⟨rfl, rfl⟩ := uE hx305_3 hx303_3)
          (try obtain ⟨rfl, rfl⟩ := uE hx305_4 hx303_4)
          (try obtain ⟨rfl, rfl⟩ := uE hx305_3 hx301_3)
          (try obtain ⟨rfl, rfl⟩ := uE hx305_4 hx301_4)
          (try obtain ⟨rfl, rfl⟩ := uE hx305_3 hx303_3)
          (try obtain ⟨rfl, rfl⟩ := uE hx305_4 hx303_4)
          (try obtain ⟨rfl, rfl⟩ := uE hx305_3 hx301_3)
          (try obtain ⟨rfl, rfl⟩ := uE hx305_4 hx301_4)
          (try obtain ⟨rfl, rfl⟩ := uE hx305_3 hx303_3)
          (try obtain ⟨rfl, rfl⟩ := uE hx305_4 hx303_4)
          obtain ⟨ce305, hce305, hMe305, hcc305⟩ := Kd.R_get HO_10.out z50 x13_1 p305 (by first | exact q305 | exact dT_ | (have e_ := (Kd.R_reads' HO_10.out).1; omega))
          obtain ⟨ve305_3, ve305_4, rfl, ge305_3, ge305_4⟩ := k50_openM hMe305
          have hv305_3 := hcc305 3 _ rfl
          rw [add_field _ _ 3 (by omega)] at hv305_3
          replace hv305_3 := sO_ (hv305_3.symm.trans hx305_3)
          rw [hv305_3] at ge305_3
          have HLq4 := aM (show Kd.R k57 57 _ _ _ _ ((rd_T50 t298 x13_1).f3) from ge305_3)
          clear hv305_3 ge305_3
          have hv305_4 := hcc305 4 _ rfl
          rw [add_field _ _ 4 (by omega)] at hv305_4
          replace hv305_4 := sO_ (hv305_4.symm.trans hx305_4)
          rw [hv305_4] at ge305_4
          have HLq5 := aM (show Kd.R k59 59 _ _ _ _ ((rd_T50 t298 x13_1).f4) from ge305_4)
          clear hv305_4 ge305_4
          clear hcc305 hce305
          have HRq4 := aM hi305_3
          have HCq4 := aM hl305_3
          clear hi305_3 hl305_3
          have HRq5 := aM hi305_4
          have HCq5 := aM hl305_4
          clear hi305_4 hl305_4
          replace p305 := eq_true p305
          replace q305 := eq_true q305
          try go_wp2_with (first | ((with_reducible refine gate_callee (f := 19) rfl ?_); refine goesL_ (some 50) rfl rfl Try.func19 (by kernel_rfl) rfl #[.slice A303_3 ((rd_T50 t298 x13_1).f3).length c303_3, .slice A1 l1.length c1] rfl (by (try simp only [mT_, mC_, mN_]); first | done | rfl | (simp only [lD_, lT_]; rfl)) ?_; (with_reducible refine (banksmanref13_Hit.calls k1 _ _ ((rd_T50 t298 x13_1).f3) _ _ l1 t306 _ ?side1 ?side2 ?side3 ?side4 A13.out).mono ?_); (case side1 => repeat (first | exact (cU HRq2.out) | (with_reducible first | refine kA_ ?_ _ | refine kN_ ?_ _ | refine kD_ ?_))); (case side2 => exact HCq1.out); (case side3 => repeat (first | exact (kB_ HR1.out HB.out) | (with_reducible first | refine kA_ ?_ _ | refine kN_ ?_ _ | refine kD_ ?_))); (case side4 => exact HC1.out); rintro e w35 ⟨rfl, hb⟩; refine ⟨_, rfl, ?_⟩; replace HO_10 := aM (Kd.R_below (rU HO_10.out) hb); replace HLq0 := aM (Kd.R_below (rU HLq0.out) hb); replace HLq1 := aM (Kd.R_below (rU HLq1.out) hb); replace HLq2 := aM (Kd.R_below (rU HLq2.out) hb); replace HLq3 := aM (Kd.R_below (rU HLq3.out) hb); replace HLq4 := aM (Kd.R_below (rU HLq4.out) hb); replace HLq5 := aM (Kd.R_below (rU HLq5.out) hb); replace BK297 := aM (kB (g := gb297) (o := .cells #[.int .i64 a0_0, .slice A0_1 l0_1.length c0_1] 24 (0, 0)) (bU BK297.out) hb); replace HRq1 := aM (kB_ (cU HRq1.out) hb); replace HRq0 := aM (kB_ (cU HRq0.out) hb); replace HRq2 := aM (kB_ (cU HRq2.out) hb); replace HRq3 := aM (kB_ (cU HRq3.out) hb); replace HRq4 := aM (kB_ (cU HRq4.out) hb); replace HRq5 := aM (kB_ (cU HRq5.out) hb); replace HB := aM (below_step (by repeat (first | (with_reducible first | exact HB.out | apply bA | apply bN | apply bD | refine bS ?_ GE297.out) | exact HB.out)) hb); (try clear hb); (try clear hb2); (try clear hk); (try clear hi); have p307 : 0 ≤ (x13_1 : Int) := dT_; have q307 : x13_1 < (t298.length : Int) := dT_; obtain ⟨ad307, A307_3, c307_3, A307_4, c307_4, e307, hx307_0, hx307_1, hx307_2, hx307_3, hx307_4, hx307_5, hl307_3, hi307_3, hl307_4, hi307_4⟩ := at_T50 (Kd.R_reads' HO_10.out).2.2 x13_1 p307 q307; (try rw [← Nbq20.out] at hx307_2); (try rw [← Nbq20.out] at hx307_5); obtain rfl : ad301 = ad307 := (by injection e307); obtain ⟨ce307, hce307, hMe307, hcc307⟩ := Kd.R_get HO_10.out z50 x13_1 p307 (by first | exact q307 | exact dT_ | (have e_ := (Kd.R_reads' HO_10.out).1; omega)); obtain ⟨ve307_3, ve307_4, rfl, ge307_3, ge307_4⟩ := k50_openM hMe307; have hv307_3 := hcc307 3 _ rfl; rw [add_field _ _ 3 (by omega)] at hv307_3; replace hv307_3 := sO_ (hv307_3.symm.trans hx307_3); rw [hv307_3] at ge307_3; have HLq6 := aM (show Kd.R k57 57 _ _ _ _ ((rd_T50 t298 x13_1).f3) from ge307_3); clear hv307_3 ge307_3; have hv307_4 := hcc307 4 _ rfl; rw [add_field _ _ 4 (by omega)] at hv307_4; replace hv307_4 := sO_ (hv307_4.symm.trans hx307_4); rw [hv307_4] at ge307_4; have HLq7 := aM (show Kd.R k59 59 _ _ _ _ ((rd_T50 t298 x13_1).f4) from ge307_4); clear hv307_4 ge307_4; clear hcc307 hce307; have HRq6 := aM hi307_3; have HCq6 := aM hl307_3; clear hi307_3 hl307_3; have HRq7 := aM hi307_4; have HCq7 := aM hl307_4; clear hi307_4 hl307_4; replace p307 := eq_true p307; replace q307 := eq_true q307))
          go_roundg k1
          case measure => have := HK1.out; omega
          case rel => exact ⟨(true), (t306), (wrap64 (x13_1 + 1)), (by first | rfl | (simp; done) | (simp [*]; done)), (by first | rfl | (simp; done) | (simp [*]; done)), (by first | rfl | (simp; done) | (simp [*]; done)), H', ⟨by have := HK1.out; omega⟩, ⟨by (with_reducible repeat (first | apply Kd.R_alloc | apply Kd.R_drewN | apply Kd.R_drew)); exact HO_10.out⟩, ⟨by (with_reducible repeat (first | refine blk_drewN ?_ _ | refine blk_drew ?_ | refine blk_alloc ?_ _)); exact BK297.out⟩, ⟨by repeat (first | (with_reducible first | exact HB.out | apply bA | apply bN | apply bD | refine bS ?_ GE297.out) | exact HB.out)⟩⟩
        ·
         replace c26 := Bool.eq_false_iff.mpr c26
         subst c26
         have H1 : (if x12_1 = true then (banksmanref14_Judge.l0 k1 l1 l3 t298 true true (wrap64 (x13_1 + 1)) a0_0 l0_1) else (banksmanref14_Judge.l0 k1 l1 l3 t298 true t306 (wrap64 (x13_1 + 1)) a0_0 l0_1)) = some (r1, r2) := by rw [if_neg (show ¬ (false = true) by decide)] at H; exact H
         clear H
         have H := H1
         clear H1
         by_cases c36 : x12_1 = true
         ·
          subst c36
          have H1 : (banksmanref14_Judge.l0 k1 l1 l3 t298 true true (wrap64 (x13_1 + 1)) a0_0 l0_1) = some (r1, r2) := by rw [if_pos rfl] at H; exact H
          clear H
          have H := H1
          clear H1
          have H' := aM H
          clear H
          obtain ⟨Ao37, co37, eo37⟩ := Kd.R_slice HO_10.out
          subst eo37
          have p301 : 0 ≤ (x13_1 : Int) := dT_
          have q301 : x13_1 < (t298.length : Int) := dT_
          obtain ⟨ad301, A301_3, c301_3, A301_4, c301_4, e301, hx301_0, hx301_1, hx301_2, hx301_3, hx301_4, hx301_5, hl301_3, hi301_3, hl301_4, hi301_4⟩ := at_T50 (Kd.R_reads' HO_10.out).2.2 x13_1 p301 q301
          (try rw [← Nbq20.out] at hx301_2)
          (try rw [← Nbq20.out] at hx301_5)
          cases e301
          obtain ⟨ce301, hce301, hMe301, hcc301⟩ := Kd.R_get HO_10.out z50 x13_1 p301 (by first | exact q301 | exact dT_ | (have e_ := (Kd.R_reads' HO_10.out).1; omega))
          obtain ⟨ve301_3, ve301_4, rfl, ge301_3, ge301_4⟩ := k50_openM hMe301
          have hv301_3 := hcc301 3 _ rfl
          rw [add_field _ _ 3 (by omega)] at hv301_3
          replace hv301_3 := sO_ (hv301_3.symm.trans hx301_3)
          rw [hv301_3] at ge301_3
          have HLq0 := aM (show Kd.R k57 57 _ _ _ _ ((rd_T50 t298 x13_1).f3) from ge301_3)
          clear hv301_3 ge301_3
          have hv301_4 := hcc301 4 _ rfl
          rw [add_field _ _ 4 (by omega)] at hv301_4
          replace hv301_4 := sO_ (hv301_4.symm.trans hx301_4)
          rw [hv301_4] at ge301_4
          have HLq1 := aM (show Kd.R k59 59 _ _ _ _ ((rd_T50 t298 x13_1).f4) from ge301_4)
          clear hv301_4 ge301_4
          clear hcc301 hce301
          have HRq1 := aM hi301_3
          have HCq3 := aM hl301_3
          clear hi301_3 hl301_3
          have HRq0 := aM hi301_4
          have HCq0 := aM hl301_4
          clear hi301_4 hl301_4
          replace p301 := eq_true p301
          replace q301 := eq_true q301
          try go_wp2_with (first | ((with_reducible refine gate_callee (f := 20) rfl ?_); refine goesL_ (some 35) rfl rfl Try.func20 (by kernel_rfl) rfl #[.slice A301_4 ((rd_T50 t298 x13_1).f4).length c301_4, .slice A1 l1.length c1] rfl (by (try simp only [mT_, mC_, mN_]); first | done | rfl | (simp only [lD_, lT_]; rfl)) ?_; (with_reducible refine (banksmanref13_Same.calls k1 _ _ ((rd_T50 t298 x13_1).f4) _ _ l1 false _ ?side1 ?side2 ?side3 ?side4 A11.out).mono ?_); (case side1 => repeat (first | exact (cU HRq0.out) | (with_reducible first | refine kA_ ?_ _ | refine kN_ ?_ _ | refine kD_ ?_))); (case side2 => exact HCq0.out); (case side3 => repeat (first | exact (kB_ HR1.out HB.out) | (with_reducible first | refine kA_ ?_ _ | refine kN_ ?_ _ | refine kD_ ?_))); (case side4 => exact HC1.out); rintro e w' ⟨rfl, ⟨nd, rfl⟩⟩; refine ⟨_, rfl, ?_⟩))
          (try (rw [drewN_self wr]; generalize hq_ : World.drewN wr _ = wr; have n0_ : Aside0 (Kd.R k57 57 wr w.heap.size (fun k_ => some k_ ≠ (.slice (some ad301) t298.length co37 : Value).ownBlock) (.slice A301_3 ((rd_T50 t298 x13_1).f3).length c301_3) ((rd_T50 t298 x13_1).f3)) := ⟨by rw [← hq_]; exact (by (with_reducible repeat (first | apply Kd.R_alloc | apply Kd.R_drewN | apply Kd.R_drew)); exact Kd.R_mono HLq0.out (fun _ hk => hk.2))⟩; have n1_ : Aside0 (Kd.R k59 59 wr w.heap.size (fun k_ => some k_ ≠ (.slice (some ad301) t298.length co37 : Value).ownBlock) (.slice A301_4 ((rd_T50 t298 x13_1).f4).length c301_4) ((rd_T50 t298 x13_1).f4)) := ⟨by rw [← hq_]; exact (by (with_reducible repeat (first | apply Kd.R_alloc | apply Kd.R_drewN | apply Kd.R_drew)); exact Kd.R_mono HLq1.out (fun _ hk => hk.2))⟩; have n2_ : Aside0 (Kd.R k50 50 wr w.heap.size (fun _ => True) (.slice (some ad301) t298.length co37) t298) := ⟨by rw [← hq_]; exact (rU HO_10.out)⟩; have n3_ : Aside0 (wr.heap[gb297]? = some (.cells #[.int .i64 a0_0, .slice A0_1 l0_1.length c0_1] 24 (0, 0))) := ⟨by rw [← hq_]; exact (bU BK297.out)⟩; have n4_ : Aside0 (Below w.heap.size w wr) := ⟨by rw [← hq_]; exact (by repeat (first | (with_reducible first | exact HB.out | apply bA | apply bN | apply bD | refine bS ?_ GE297.out) | exact HB.out))⟩; have n5_ : Aside0 (Kd.C k57 wr A301_3 ((rd_T50 t298 x13_1).f3).length ((rd_T50 t298 x13_1).f3)) := ⟨by rw [← hq_]; exact (cU HRq1.out)⟩; have n6_ : Aside0 (Kd.C k59 wr A301_4 ((rd_T50 t298 x13_1).f4).length ((rd_T50 t298 x13_1).f4)) := ⟨by rw [← hq_]; exact (cU HRq0.out)⟩; clear HLq0 HLq1 HO_10 BK297 HB HRq1 HRq0 hq_; have HLq0 := n0_; have HLq1 := n1_; have HO_10 := n2_; have BK297 := n3_; have HB := n4_; have HRq1 := n5_; have HRq0 := n6_; clear n0_ n1_ n2_ n3_ n4_ n5_ n6_))
          have n0_ := aM (Kd.R_drew HO_10.out)
          have n1_ := aM (Kd.R_drew HLq0.out)
          have n2_ := aM (Kd.R_drew HLq1.out)
          have n3_ := aM (blk_drew BK297.out)
          have n4_ := aM (kD_ HRq1.out)
          have n5_ := aM (kD_ HRq0.out)
          have n6_ := aM (bD HB.out)
          clear HO_10
          clear HLq0
          clear HLq1
          clear BK297
          clear HRq1
          clear HRq0
          clear HB
          have HO_10 := n0_
          have HLq0 := n1_
          have HLq1 := n2_
          have BK297 := n3_
          have HRq1 := n4_
          have HRq0 := n5_
          have HB := n6_
          clear n0_ n1_ n2_ n3_ n4_ n5_ n6_
          have p303 : 0 ≤ (x13_1 : Int) := dT_
          have q303 : x13_1 < (t298.length : Int) := dT_
          obtain ⟨ad303, A303_3, c303_3, A303_4, c303_4, e303, hx303_0, hx303_1, hx303_2, hx303_3, hx303_4, hx303_5, hl303_3, hi303_3, hl303_4, hi303_4⟩ := at_T50 (Kd.R_reads' HO_10.out).2.2 x13_1 p303 q303
          (try rw [← Nbq20.out] at hx303_2)
          (try rw [← Nbq20.out] at hx303_5)
          obtain rfl : ad301 = ad303 := (by injection e303)
          (try obtain ⟨rfl, rfl⟩ := uE hx303_3 hx301_3)
          (try obtain ⟨rfl, rfl⟩ := uE hx303_4 hx301_4)
          (try obtain ⟨rfl, rfl⟩ := uE hx303_3 hx301_3)
          (try obtain ⟨rfl, rfl⟩ := uE hx303_4 hx301_4)
          (try obtain ⟨rfl, rfl⟩ := uE hx303_3 hx301_3)
          (try obtain ⟨rfl, rfl⟩ := uE hx303_4 hx301_4)
          (try obtain ⟨rfl, rfl⟩ := uE hx303_3 hx301_3)
          (try obtain ⟨rfl, rfl⟩ := uE hx303_4 hx301_4)
          (try obtain ⟨rfl, rfl⟩ := uE hx303_3 hx301_3)
          (try obtain ⟨rfl, rfl⟩ := uE hx303_4 hx301_4)
          obtain ⟨ce303, hce303, hMe303, hcc303⟩ := Kd.R_get HO_10.out z50 x13_1 p303 (by first | exact q303 | exact dT_ | (have e_ := (Kd.R_reads' HO_10.out).1; omega))
          obtain ⟨ve303_3, ve303_4, rfl, ge303_3, ge303_4⟩ := k50_openM hMe303
          have hv303_3 := hcc303 3 _ rfl
          rw [add_field _ _ 3 (by omega)] at hv303_3
          replace hv303_3 := sO_ (hv303_3.symm.trans hx303_3)
          rw [hv303_3] at ge303_3
          have HLq2 := aM (show Kd.R k57 57 _ _ _ _ ((rd_T50 t298 x13_1).f3) from ge303_3)
          clear hv303_3 ge303_3
          have hv303_4 := hcc303 4 _ rfl
          rw [add_field _ _ 4 (by omega)] at hv303_4
          replace hv303_4 := sO_ (hv303_4.symm.trans hx303_4)
          rw [hv303_4] at ge303_4
          have HLq3 := aM (show Kd.R k59 59 _ _ _ _ ((rd_T50 t298 x13_1).f4) from ge303_4)
          clear hv303_4 ge303_4
          clear hcc303 hce303
          have HRq2 := aM hi303_3
          have HCq1 := aM hl303_3
          clear hi303_3 hl303_3
          have HRq3 := aM hi303_4
          have HCq2 := aM hl303_4
          clear hi303_4 hl303_4
          replace p303 := eq_true p303
          replace q303 := eq_true q303
          refine start_ (n := 9) (S := fun w' => w'.cell? ⟨gb297, 0, none⟩ = some (.int .i64 a0_0) ∧ w'.cell? ⟨gb297, 1, none⟩ = some (.slice A0_1 l0_1.length c0_1) ∧ w'.cell? (ad301.add ((x13_1).toNat * 6)) = some (.int .i64 ((rd_T50 t298 x13_1).f0)) ∧ w'.cell? ⟨(ad301.add ((x13_1).toNat * 6)).block, (ad301.add ((x13_1).toNat * 6)).off + 1, none⟩ = some (.int .i64 ((rd_T50 t298 x13_1).f1)) ∧ w'.cell? ⟨(ad301.add ((x13_1).toNat * 6)).block, (ad301.add ((x13_1).toNat * 6)).off + 2, none⟩ = some (.bool ((rd_T50 t298 x13_1).f2)) ∧ w'.cell? ⟨(ad301.add ((x13_1).toNat * 6)).block, (ad301.add ((x13_1).toNat * 6)).off + 3, none⟩ = some (.slice A303_3 ((rd_T50 t298 x13_1).f3).length c303_3) ∧ w'.cell? ⟨(ad301.add ((x13_1).toNat * 6)).block, (ad301.add ((x13_1).toNat * 6)).off + 4, none⟩ = some (.slice A303_4 ((rd_T50 t298 x13_1).f4).length c303_4) ∧ w'.cell? ⟨(ad301.add ((x13_1).toNat * 6)).block, (ad301.add ((x13_1).toNat * 6)).off + 5, none⟩ = some (.bool false)) (ds := []) #[F_,F_,F_,F_,F_,F_,F_,F_,F_] (by kernel_rfl) rfl rfl ⟨(kC BK297.out 0).trans rfl, (kC BK297.out 1).trans rfl, hx303_0, hx303_1, hx303_2, hx303_3, hx303_4, hx303_5⟩ (fun hHeld => ?_); refine with_tabW banksmanref14_Judge.tab8 banksmanref14_Judge.bits8 (fun HT_ HW_ => ?_)
          generalize wr.drew = w38 at HO_10 HLq0 HLq1 BK297 HRq1 HRq0 HB HLq2 HLq3 HRq2 HRq3 hx303_0 hx303_1 hx303_2 hx303_3 hx303_4 hx303_5 hHeld ⊢
          refine pure_ (i := 0) (N := some 36) (v := ?_) (a' := ?_) #[T_,F_,F_,F_,F_,F_,F_,F_,F_] rfl rfl (any_of HT_.out (by kernel_rfl)) (fun _ _ _ h => h) (Or.inl ⟨by rfl, ?_⟩) ?_ ?_
          rotate_left
          ·
           intro w'
           go_simp
           with_reducible rfl
          rotate_left
          ·
           simp only [Act.put, sI_, sZ_, sS_, i64_w, i32_w]
           rfl
          refine pure_ (i := 2) (N := some 38) (v := ?_) (a' := ?_) #[T_,F_,T_,F_,F_,F_,F_,F_,F_] rfl rfl (any_of HT_.out (by kernel_rfl)) (fun _ _ _ h => h) (Or.inl ⟨by rfl, ?_⟩) ?_ ?_
          rotate_left
          ·
           intro w'
           go_simp
           with_reducible rfl
          rotate_left
          ·
           simp only [Act.put, sI_, sZ_, sS_, i64_w, i32_w]
           rfl
          refine pure_ (i := 3) (N := some 39) (v := ?_) (a' := ?_) #[T_,F_,T_,T_,F_,F_,F_,F_,F_] rfl rfl (any_of HT_.out (by kernel_rfl)) (fun _ _ _ h => h) (Or.inl ⟨by rfl, ?_⟩) ?_ ?_
          rotate_left
          ·
           intro w'
           go_simp
           with_reducible rfl
          rotate_left
          ·
           simp only [Act.put, sI_, sZ_, sS_, i64_w, i32_w]
           rfl
          refine pure_ (i := 4) (N := some 40) (v := ?_) (a' := ?_) #[T_,F_,T_,T_,T_,F_,F_,F_,F_] rfl rfl (any_of HT_.out (by kernel_rfl)) (fun _ _ _ h => h) (Or.inl ⟨by rfl, ?_⟩) ?_ ?_
          rotate_left
          ·
           intro w'
           go_simp
           with_reducible rfl
          rotate_left
          ·
           simp only [Act.put, sI_, sZ_, sS_, i64_w, i32_w]
           rfl
          refine pure_ (i := 5) (N := some 41) (v := ?_) (a' := ?_) #[T_,F_,T_,T_,T_,T_,F_,F_,F_] rfl rfl (any_of HT_.out (by kernel_rfl)) (fun _ _ _ h => h) (Or.inl ⟨by rfl, ?_⟩) ?_ ?_
          rotate_left
          ·
           intro w'
           go_simp
           with_reducible rfl
          rotate_left
          ·
           simp only [Act.put, sI_, sZ_, sS_, i64_w, i32_w]
           rfl
          refine take_ (i := 1) (N := some 37) (v := ?_) (a' := ?_) #[T_,T_,T_,T_,T_,T_,F_,F_,F_] rfl rfl (take_ofW HT_.out HW_.out (by kernel_rfl)) (fun _ _ _ h => h) (Or.inl ⟨by rfl, ?_⟩) hHeld ?_ ?_
          rotate_left
          ·
           rintro w' ⟨s0, s1, s2, s3, s4, s5, s6, s7⟩
           go_simp
           with_reducible rfl
          rotate_left
          ·
           simp only [Act.put, sI_, sZ_, sS_, i64_w, i32_w]
           rfl
          refine take_ (i := 6) (N := some 42) (v := ?_) (a' := ?_) #[T_,T_,T_,T_,T_,T_,T_,F_,F_] rfl rfl (take_ofW HT_.out HW_.out (by kernel_rfl)) (fun _ _ _ h => h) (Or.inl ⟨by rfl, ?_⟩) hHeld ?_ ?_
          rotate_left
          ·
           rintro w' ⟨s0, s1, s2, s3, s4, s5, s6, s7⟩
           go_simp
           with_reducible rfl
          rotate_left
          ·
           simp only [Act.put, sI_, sZ_, sS_, i64_w, i32_w]
           rfl
          refine one_ (i := 7) (N := some 43) #[T_,T_,T_,T_,T_,T_,T_,T_,F_] rfl rfl (one_of HT_.out (by kernel_rfl)) (by decide) (fun K hK => ?_)
          refine goes_ Try.func19 (by kernel_rfl) rfl #[.slice A0_1 l0_1.length c0_1, .slice A303_4 ((rd_T50 t298 x13_1).f4).length c303_4] (by rfl) rfl rfl (by (try simp only [mT_, mC_, mN_]); first | done | rfl | (simp only [lD_, lT_]; rfl)) ?_
          with_reducible refine (banksmanref13_Hit.calls k1 _ _ l0_1 _ _ ((rd_T50 t298 x13_1).f4) true _ ?side1 ?side2 ?side3 ?side4 A12.out).mono ?_
          (case side1 => repeat (first | exact (kB_ HR0_1.out HB.out) | (with_reducible first | refine kA_ ?_ _ | refine kN_ ?_ _ | refine kD_ ?_)))
          (case side2 => exact HC0_1.out)
          (case side3 => repeat (first | exact (cU HRq3.out) | (with_reducible first | refine kA_ ?_ _ | refine kN_ ?_ _ | refine kD_ ?_)))
          (case side4 => exact HCq2.out)
          rintro e w39 ⟨rfl, hb⟩
          have HS2_ := (hb.cell (bL_ _ _ (hHeld.2.2.1))).trans (hHeld.2.2.1)
          have HS3_ := (hb.cell (bL_ _ _ (hHeld.2.2.2.1))).trans (hHeld.2.2.2.1)
          have HS4_ := (hb.cell (bL_ _ _ (hHeld.2.2.2.2.1))).trans (hHeld.2.2.2.2.1)
          have HS5_ := (hb.cell (bL_ _ _ (hHeld.2.2.2.2.2.1))).trans (hHeld.2.2.2.2.2.1)
          have HS6_ := (hb.cell (bL_ _ _ (hHeld.2.2.2.2.2.2.1))).trans (hHeld.2.2.2.2.2.2.1)
          have HS7_ := (hb.cell (bL_ _ _ (hHeld.2.2.2.2.2.2.2))).trans (hHeld.2.2.2.2.2.2.2)
          refine ⟨_, rfl, ?_⟩
          have n0_ := aM (Kd.R_below (rU HO_10.out) hb)
          have n1_ := aM (Kd.R_below (rU HLq0.out) hb)
          have n2_ := aM (Kd.R_below (rU HLq1.out) hb)
          have n3_ := aM (Kd.R_below (rU HLq2.out) hb)
          have n4_ := aM (Kd.R_below (rU HLq3.out) hb)
          have n5_ := aM (kB (g := gb297) (o := .cells #[.int .i64 a0_0, .slice A0_1 l0_1.length c0_1] 24 (0, 0)) (bU BK297.out) hb)
          have n6_ := aM (kB_ (cU HRq1.out) hb)
          have n7_ := aM (kB_ (cU HRq0.out) hb)
          have n8_ := aM (kB_ (cU HRq2.out) hb)
          have n9_ := aM (kB_ (cU HRq3.out) hb)
          have n10_ := aM (below_step (by repeat (first | (with_reducible first | exact HB.out | apply bA | apply bN | apply bD | refine bS ?_ GE297.out) | exact HB.out)) hb)
          clear HO_10
          clear HLq0
          clear HLq1
          clear HLq2
          clear HLq3
          clear BK297
          clear HRq1
          clear HRq0
          clear HRq2
          clear HRq3
          clear HB
          have HO_10 := n0_
          have HLq0 := n1_
          have HLq1 := n2_
          have HLq2 := n3_
          have HLq3 := n4_
          have BK297 := n5_
          have HRq1 := n6_
          have HRq0 := n7_
          have HRq2 := n8_
          have HRq3 := n9_
          have HB := n10_
          clear n0_ n1_ n2_ n3_ n4_ n5_ n6_ n7_ n8_ n9_ n10_
          (try clear hb)
          (try clear hb2)
          (try clear hk)
          (try clear hi)
          refine hK.out _ _ ⟨(kC BK297.out 0).trans rfl, (kC BK297.out 1).trans rfl, HS2_, HS3_, HS4_, HS5_, HS6_, HS7_⟩ (fun hHeld => ?_)
          clear hK K
          refine norm_ (a' := ?_) ?_ ?_
          rotate_left
          ·
           show Act.put _ (some 43) _ = _
           simp only [Act.put, sI_, sZ_, sS_, i64_w, i32_w]
           rfl
          refine pure_ (i := 8) (N := some 15) (v := ?_) (a' := ?_) #[T_,T_,T_,T_,T_,T_,T_,T_,T_] rfl rfl (any_of HT_.out (by kernel_rfl)) (fun _ _ _ h => h) (Or.inl ⟨by rfl, ?_⟩) ?_ ?_
          rotate_left
          ·
           intro w'
           go_simp
           with_reducible rfl
          rotate_left
          ·
           simp only [Act.put, sI_, sZ_, sS_, i64_w, i32_w]
           rfl
          refine done_ (done_of HT_.out (by kernel_rfl)) ?_
          have p305 : 0 ≤ (x13_1 : Int) := dT_
          have q305 : x13_1 < (t298.length : Int) := dT_
          obtain ⟨ad305, A305_3, c305_3, A305_4, c305_4, e305, hx305_0, hx305_1, hx305_2, hx305_3, hx305_4, hx305_5, hl305_3, hi305_3, hl305_4, hi305_4⟩ := at_T50 (Kd.R_reads' HO_10.out).2.2 x13_1 p305 q305
          (try rw [← Nbq20.out] at hx305_2)
          (try rw [← Nbq20.out] at hx305_5)
          obtain rfl : ad301 = ad305 := (by injection e305)
          (try obtain ⟨rfl, rfl⟩ := uE hx305_3 hx301_3)
          (try obtain ⟨rfl, rfl⟩ := uE hx305_4 hx301_4)
          (try obtain ⟨rfl, rfl⟩ := uE hx305_3 hx303_3)
          (try obtain ⟨rfl, rfl⟩ := uE hx305_4 hx303_4)
          (try obtain ⟨rfl, rfl⟩ := uE hx305_3 hx301_3)
          (try obtain ⟨rfl, rfl⟩ := uE hx305_4 hx301_4)
          (try obtain ⟨rfl, rfl⟩ := uE hx305_3 hx303_3)
          (try obtain ⟨rfl, rfl⟩ := uE hx305_4 hx303_4)
          (try obtain ⟨rfl, rfl⟩ := uE hx305_3 hx301_3)
          (try obtain ⟨rfl, rfl⟩ := uE hx305_4 hx301_4)
          (try obtain ⟨rfl, rfl⟩ := uE hx305_3 hx303_3)
          (try obtain ⟨rfl, rfl⟩ := uE hx305_4 hx303_4)
          (try obtain ⟨rfl, rfl⟩ := uE hx305_3 hx301_3)
          (try obtain ⟨rfl, rfl⟩ := uE hx305_4 hx301_4)
          (try obtain ⟨rfl, rfl⟩ := uE hx305_3 hx303_3)
          (try obtain ⟨rfl, rfl⟩ := uE hx305_4 hx303_4)
          (try obtain ⟨rfl, rfl⟩ := uE hx305_3 hx301_3)
          (try obtain ⟨rfl, rfl⟩ := uE hx305_4 hx301_4)
          (try obtain ⟨rfl, rfl⟩ := uE hx305_3 hx303_3)
          (try obtain ⟨rfl, rfl⟩ := uE hx305_4 hx303_4)
          obtain ⟨ce305, hce305, hMe305, hcc305⟩ := Kd.R_get HO_10.out z50 x13_1 p305 (by first | exact q305 | exact dT_ | (have e_ := (Kd.R_reads' HO_10.out).1; omega))
          obtain ⟨ve305_3, ve305_4, rfl, ge305_3, ge305_4⟩ := k50_openM hMe305
          have hv305_3 := hcc305 3 _ rfl
          rw [add_field _ _ 3 (by omega)] at hv305_3
          replace hv305_3 := sO_ (hv305_3.symm.trans hx305_3)
          rw [hv305_3] at ge305_3
          have HLq4 := aM (show Kd.R k57 57 _ _ _ _ ((rd_T50 t298 x13_1).f3) from ge305_3)
          clear hv305_3 ge305_3
          have hv305_4 := hcc305 4 _ rfl
          rw [add_field _ _ 4 (by omega)] at hv305_4
          replace hv305_4 := sO_ (hv305_4.symm.trans hx305_4)
          rw [hv305_4] at ge305_4
          have HLq5 := aM (show Kd.R k59 59 _ _ _ _ ((rd_T50 t298 x13_1).f4) from ge305_4)
          clear hv305_4 ge305_4
          clear hcc305 hce305
          have HRq4 := aM hi305_3
          have HCq4 := aM hl305_3
          clear hi305_3 hl305_3
          have HRq5 := aM hi305_4
          have HCq5 := aM hl305_4
          clear hi305_4 hl305_4
          replace p305 := eq_true p305
          replace q305 := eq_true q305
          try go_wp2_with (first | ((with_reducible refine gate_callee (f := 19) rfl ?_); refine goesL_ (some 50) rfl rfl Try.func19 (by kernel_rfl) rfl #[.slice A303_3 ((rd_T50 t298 x13_1).f3).length c303_3, .slice A1 l1.length c1] rfl (by (try simp only [mT_, mC_, mN_]); first | done | rfl | (simp only [lD_, lT_]; rfl)) ?_; (with_reducible refine (banksmanref13_Hit.calls k1 _ _ ((rd_T50 t298 x13_1).f3) _ _ l1 t306 _ ?side1 ?side2 ?side3 ?side4 A13.out).mono ?_); (case side1 => repeat (first | exact (cU HRq2.out) | (with_reducible first | refine kA_ ?_ _ | refine kN_ ?_ _ | refine kD_ ?_))); (case side2 => exact HCq1.out); (case side3 => repeat (first | exact (kB_ HR1.out HB.out) | (with_reducible first | refine kA_ ?_ _ | refine kN_ ?_ _ | refine kD_ ?_))); (case side4 => exact HC1.out); rintro e w40 ⟨rfl, hb⟩; refine ⟨_, rfl, ?_⟩; replace HO_10 := aM (Kd.R_below (rU HO_10.out) hb); replace HLq0 := aM (Kd.R_below (rU HLq0.out) hb); replace HLq1 := aM (Kd.R_below (rU HLq1.out) hb); replace HLq2 := aM (Kd.R_below (rU HLq2.out) hb); replace HLq3 := aM (Kd.R_below (rU HLq3.out) hb); replace HLq4 := aM (Kd.R_below (rU HLq4.out) hb); replace HLq5 := aM (Kd.R_below (rU HLq5.out) hb); replace BK297 := aM (kB (g := gb297) (o := .cells #[.int .i64 a0_0, .slice A0_1 l0_1.length c0_1] 24 (0, 0)) (bU BK297.out) hb); replace HRq1 := aM (kB_ (cU HRq1.out) hb); replace HRq0 := aM (kB_ (cU HRq0.out) hb); replace HRq2 := aM (kB_ (cU HRq2.out) hb); replace HRq3 := aM (kB_ (cU HRq3.out) hb); replace HRq4 := aM (kB_ (cU HRq4.out) hb); replace HRq5 := aM (kB_ (cU HRq5.out) hb); replace HB := aM (below_step (by repeat (first | (with_reducible first | exact HB.out | apply bA | apply bN | apply bD | refine bS ?_ GE297.out) | exact HB.out)) hb); (try clear hb); (try clear hb2); (try clear hk); (try clear hi); have p307 : 0 ≤ (x13_1 : Int) := dT_; have q307 : x13_1 < (t298.length : Int) := dT_; obtain ⟨ad307, A307_3, c307_3, A307_4, c307_4, e307, hx307_0, hx307_1, hx307_2, hx307_3, hx307_4, hx307_5, hl307_3, hi307_3, hl307_4, hi307_4⟩ := at_T50 (Kd.R_reads' HO_10.out).2.2 x13_1 p307 q307; (try rw [← Nbq20.out] at hx307_2); (try rw [← Nbq20.out] at hx307_5); obtain rfl : ad301 = ad307 := (by injection e307); obtain ⟨ce307, hce307, hMe307, hcc307⟩ := Kd.R_get HO_10.out z50 x13_1 p307 (by first | exact q307 | exact dT_ | (have e_ := (Kd.R_reads' HO_10.out).1; omega)); obtain ⟨ve307_3, ve307_4, rfl, ge307_3, ge307_4⟩ := k50_openM hMe307; have hv307_3 := hcc307 3 _ rfl; rw [add_field _ _ 3 (by omega)] at hv307_3; replace hv307_3 := sO_ (hv307_3.symm.trans hx307_3); rw [hv307_3] at ge307_3; have HLq6 := aM (show Kd.R k57 57 _ _ _ _ ((rd_T50 t298 x13_1).f3) from ge307_3); clear hv307_3 ge307_3; have hv307_4 := hcc307 4 _ rfl; rw [add_field _ _ 4 (by omega)] at hv307_4; replace hv307_4 := sO_ (hv307_4.symm.trans hx307_4); rw [hv307_4] at ge307_4; have HLq7 := aM (show Kd.R k59 59 _ _ _ _ ((rd_T50 t298 x13_1).f4) from ge307_4); clear hv307_4 ge307_4; clear hcc307 hce307; have HRq6 := aM hi307_3; have HCq6 := aM hl307_3; clear hi307_3 hl307_3; have HRq7 := aM hi307_4; have HCq7 := aM hl307_4; clear hi307_4 hl307_4; replace p307 := eq_true p307; replace q307 := eq_true q307))
          go_roundg k1
          case measure => have := HK1.out; omega
          case rel => exact ⟨(true), (true), (wrap64 (x13_1 + 1)), (by first | rfl | (simp; done) | (simp [*]; done)), (by first | rfl | (simp; done) | (simp [*]; done)), (by first | rfl | (simp; done) | (simp [*]; done)), H', ⟨by have := HK1.out; omega⟩, ⟨by (with_reducible repeat (first | apply Kd.R_alloc | apply Kd.R_drewN | apply Kd.R_drew)); exact HO_10.out⟩, ⟨by (with_reducible repeat (first | refine blk_drewN ?_ _ | refine blk_drew ?_ | refine blk_alloc ?_ _)); exact BK297.out⟩, ⟨by repeat (first | (with_reducible first | exact HB.out | apply bA | apply bN | apply bD | refine bS ?_ GE297.out) | exact HB.out)⟩⟩
         ·
          replace c36 := Bool.eq_false_iff.mpr c36
          subst c36
          have H1 : (banksmanref14_Judge.l0 k1 l1 l3 t298 true t306 (wrap64 (x13_1 + 1)) a0_0 l0_1) = some (r1, r2) := by rw [if_neg (show ¬ (false = true) by decide)] at H; exact H
          clear H
          have H := H1
          clear H1
          have H' := aM H
          clear H
          obtain ⟨Ao41, co41, eo41⟩ := Kd.R_slice HO_10.out
          subst eo41
          have p301 : 0 ≤ (x13_1 : Int) := dT_
          have q301 : x13_1 < (t298.length : Int) := dT_
          obtain ⟨ad301, A301_3, c301_3, A301_4, c301_4, e301, hx301_0, hx301_1, hx301_2, hx301_3, hx301_4, hx301_5, hl301_3, hi301_3, hl301_4, hi301_4⟩ := at_T50 (Kd.R_reads' HO_10.out).2.2 x13_1 p301 q301
          (try rw [← Nbq20.out] at hx301_2)
          (try rw [← Nbq20.out] at hx301_5)
          cases e301
          obtain ⟨ce301, hce301, hMe301, hcc301⟩ := Kd.R_get HO_10.out z50 x13_1 p301 (by first | exact q301 | exact dT_ | (have e_ := (Kd.R_reads' HO_10.out).1; omega))
          obtain ⟨ve301_3, ve301_4, rfl, ge301_3, ge301_4⟩ := k50_openM hMe301
          have hv301_3 := hcc301 3 _ rfl
          rw [add_field _ _ 3 (by omega)] at hv301_3
          replace hv301_3 := sO_ (hv301_3.symm.trans hx301_3)
          rw [hv301_3] at ge301_3
          have HLq0 := aM (show Kd.R k57 57 _ _ _ _ ((rd_T50 t298 x13_1).f3) from ge301_3)
          clear hv301_3 ge301_3
          have hv301_4 := hcc301 4 _ rfl
          rw [add_field _ _ 4 (by omega)] at hv301_4
          replace hv301_4 := sO_ (hv301_4.symm.trans hx301_4)
          rw [hv301_4] at ge301_4
          have HLq1 := aM (show Kd.R k59 59 _ _ _ _ ((rd_T50 t298 x13_1).f4) from ge301_4)
          clear hv301_4 ge301_4
          clear hcc301 hce301
          have HRq1 := aM hi301_3
          have HCq3 := aM hl301_3
          clear hi301_3 hl301_3
          have HRq0 := aM hi301_4
          have HCq0 := aM hl301_4
          clear hi301_4 hl301_4
          replace p301 := eq_true p301
          replace q301 := eq_true q301
          try go_wp2_with (first | ((with_reducible refine gate_callee (f := 20) rfl ?_); refine goesL_ (some 35) rfl rfl Try.func20 (by kernel_rfl) rfl #[.slice A301_4 ((rd_T50 t298 x13_1).f4).length c301_4, .slice A1 l1.length c1] rfl (by (try simp only [mT_, mC_, mN_]); first | done | rfl | (simp only [lD_, lT_]; rfl)) ?_; (with_reducible refine (banksmanref13_Same.calls k1 _ _ ((rd_T50 t298 x13_1).f4) _ _ l1 false _ ?side1 ?side2 ?side3 ?side4 A11.out).mono ?_); (case side1 => repeat (first | exact (cU HRq0.out) | (with_reducible first | refine kA_ ?_ _ | refine kN_ ?_ _ | refine kD_ ?_))); (case side2 => exact HCq0.out); (case side3 => repeat (first | exact (kB_ HR1.out HB.out) | (with_reducible first | refine kA_ ?_ _ | refine kN_ ?_ _ | refine kD_ ?_))); (case side4 => exact HC1.out); rintro e w' ⟨rfl, ⟨nd, rfl⟩⟩; refine ⟨_, rfl, ?_⟩))
          (try (rw [drewN_self wr]; generalize hq_ : World.drewN wr _ = wr; have n0_ : Aside0 (Kd.R k57 57 wr w.heap.size (fun k_ => some k_ ≠ (.slice (some ad301) t298.length co41 : Value).ownBlock) (.slice A301_3 ((rd_T50 t298 x13_1).f3).length c301_3) ((rd_T50 t298 x13_1).f3)) := ⟨by rw [← hq_]; exact (by (with_reducible repeat (first | apply Kd.R_alloc | apply Kd.R_drewN | apply Kd.R_drew)); exact Kd.R_mono HLq0.out (fun _ hk => hk.2))⟩; have n1_ : Aside0 (Kd.R k59 59 wr w.heap.size (fun k_ => some k_ ≠ (.slice (some ad301) t298.length co41 : Value).ownBlock) (.slice A301_4 ((rd_T50 t298 x13_1).f4).length c301_4) ((rd_T50 t298 x13_1).f4)) := ⟨by rw [← hq_]; exact (by (with_reducible repeat (first | apply Kd.R_alloc | apply Kd.R_drewN | apply Kd.R_drew)); exact Kd.R_mono HLq1.out (fun _ hk => hk.2))⟩; have n2_ : Aside0 (Kd.R k50 50 wr w.heap.size (fun _ => True) (.slice (some ad301) t298.length co41) t298) := ⟨by rw [← hq_]; exact (rU HO_10.out)⟩; have n3_ : Aside0 (wr.heap[gb297]? = some (.cells #[.int .i64 a0_0, .slice A0_1 l0_1.length c0_1] 24 (0, 0))) := ⟨by rw [← hq_]; exact (bU BK297.out)⟩; have n4_ : Aside0 (Below w.heap.size w wr) := ⟨by rw [← hq_]; exact (by repeat (first | (with_reducible first | exact HB.out | apply bA | apply bN | apply bD | refine bS ?_ GE297.out) | exact HB.out))⟩; have n5_ : Aside0 (Kd.C k57 wr A301_3 ((rd_T50 t298 x13_1).f3).length ((rd_T50 t298 x13_1).f3)) := ⟨by rw [← hq_]; exact (cU HRq1.out)⟩; have n6_ : Aside0 (Kd.C k59 wr A301_4 ((rd_T50 t298 x13_1).f4).length ((rd_T50 t298 x13_1).f4)) := ⟨by rw [← hq_]; exact (cU HRq0.out)⟩; clear HLq0 HLq1 HO_10 BK297 HB HRq1 HRq0 hq_; have HLq0 := n0_; have HLq1 := n1_; have HO_10 := n2_; have BK297 := n3_; have HB := n4_; have HRq1 := n5_; have HRq0 := n6_; clear n0_ n1_ n2_ n3_ n4_ n5_ n6_))
          have n0_ := aM (Kd.R_drew HO_10.out)
          have n1_ := aM (Kd.R_drew HLq0.out)
          have n2_ := aM (Kd.R_drew HLq1.out)
          have n3_ := aM (blk_drew BK297.out)
          have n4_ := aM (kD_ HRq1.out)
          have n5_ := aM (kD_ HRq0.out)
          have n6_ := aM (bD HB.out)
          clear HO_10
          clear HLq0
          clear HLq1
          clear BK297
          clear HRq1
          clear HRq0
          clear HB
          have HO_10 := n0_
          have HLq0 := n1_
          have HLq1 := n2_
          have BK297 := n3_
          have HRq1 := n4_
          have HRq0 := n5_
          have HB := n6_
          clear n0_ n1_ n2_ n3_ n4_ n5_ n6_
          have p303 : 0 ≤ (x13_1 : Int) := dT_
          have q303 : x13_1 < (t298.length : Int) := dT_
          obtain ⟨ad303, A303_3, c303_3, A303_4, c303_4, e303, hx303_0, hx303_1, hx303_2, hx303_3, hx303_4, hx303_5, hl303_3, hi303_3, hl303_4, hi303_4⟩ := at_T50 (Kd.R_reads' HO_10.out).2.2 x13_1 p303 q303
          (try rw [← Nbq20.out] at hx303_2)
          (try rw [← Nbq20.out] at hx303_5)
          obtain rfl : ad301 = ad303 := (by injection e303)
          (try obtain ⟨rfl, rfl⟩ := uE hx303_3 hx301_3)
          (try obtain ⟨rfl, rfl⟩ := uE hx303_4 hx301_4)
          (try obtain ⟨rfl, rfl⟩ := uE hx303_3 hx301_3)
          (try obtain ⟨rfl, rfl⟩ := uE hx303_4 hx301_4)
          (try obtain ⟨rfl, rfl⟩ := uE hx303_3 hx301_3)
          (try obtain ⟨rfl, rfl⟩ := uE hx303_4 hx301_4)
          (try obtain ⟨rfl, rfl⟩ := uE hx303_3 hx301_3)
          (try obtain ⟨rfl, rfl⟩ := uE hx303_4 hx301_4)
          (try obtain ⟨rfl, rfl⟩ := uE hx303_3 hx301_3)
          (try obtain ⟨rfl, rfl⟩ := uE hx303_4 hx301_4)
          (try obtain ⟨rfl, rfl⟩ := uE hx303_3 hx301_3)
          (try obtain ⟨rfl, rfl⟩ := uE hx303_4 hx301_4)
          obtain ⟨ce303, hce303, hMe303, hcc303⟩ := Kd.R_get HO_10.out z50 x13_1 p303 (by first | exact q303 | exact dT_ | (have e_ := (Kd.R_reads' HO_10.out).1; omega))
          obtain ⟨ve303_3, ve303_4, rfl, ge303_3, ge303_4⟩ := k50_openM hMe303
          have hv303_3 := hcc303 3 _ rfl
          rw [add_field _ _ 3 (by omega)] at hv303_3
          replace hv303_3 := sO_ (hv303_3.symm.trans hx303_3)
          rw [hv303_3] at ge303_3
          have HLq2 := aM (show Kd.R k57 57 _ _ _ _ ((rd_T50 t298 x13_1).f3) from ge303_3)
          clear hv303_3 ge303_3
          have hv303_4 := hcc303 4 _ rfl
          rw [add_field _ _ 4 (by omega)] at hv303_4
          replace hv303_4 := sO_ (hv303_4.symm.trans hx303_4)
          rw [hv303_4] at ge303_4
          have HLq3 := aM (show Kd.R k59 59 _ _ _ _ ((rd_T50 t298 x13_1).f4) from ge303_4)
          clear hv303_4 ge303_4
          clear hcc303 hce303
          have HRq2 := aM hi303_3
          have HCq1 := aM hl303_3
          clear hi303_3 hl303_3
          have HRq3 := aM hi303_4
          have HCq2 := aM hl303_4
          clear hi303_4 hl303_4
          replace p303 := eq_true p303
          replace q303 := eq_true q303
          refine start_ (n := 9) (S := fun w' => w'.cell? ⟨gb297, 0, none⟩ = some (.int .i64 a0_0) ∧ w'.cell? ⟨gb297, 1, none⟩ = some (.slice A0_1 l0_1.length c0_1) ∧ w'.cell? (ad301.add ((x13_1).toNat * 6)) = some (.int .i64 ((rd_T50 t298 x13_1).f0)) ∧ w'.cell? ⟨(ad301.add ((x13_1).toNat * 6)).block, (ad301.add ((x13_1).toNat * 6)).off + 1, none⟩ = some (.int .i64 ((rd_T50 t298 x13_1).f1)) ∧ w'.cell? ⟨(ad301.add ((x13_1).toNat * 6)).block, (ad301.add ((x13_1).toNat * 6)).off + 2, none⟩ = some (.bool ((rd_T50 t298 x13_1).f2)) ∧ w'.cell? ⟨(ad301.add ((x13_1).toNat * 6)).block, (ad301.add ((x13_1).toNat * 6)).off + 3, none⟩ = some (.slice A303_3 ((rd_T50 t298 x13_1).f3).length c303_3) ∧ w'.cell? ⟨(ad301.add ((x13_1).toNat * 6)).block, (ad301.add ((x13_1).toNat * 6)).off + 4, none⟩ = some (.slice A303_4 ((rd_T50 t298 x13_1).f4).length c303_4) ∧ w'.cell? ⟨(ad301.add ((x13_1).toNat * 6)).block, (ad301.add ((x13_1).toNat * 6)).off + 5, none⟩ = some (.bool false)) (ds := []) #[F_,F_,F_,F_,F_,F_,F_,F_,F_] (by kernel_rfl) rfl rfl ⟨(kC BK297.out 0).trans rfl, (kC BK297.out 1).trans rfl, hx303_0, hx303_1, hx303_2, hx303_3, hx303_4, hx303_5⟩ (fun hHeld => ?_); refine with_tabW banksmanref14_Judge.tab8 banksmanref14_Judge.bits8 (fun HT_ HW_ => ?_)
          generalize wr.drew = w42 at HO_10 HLq0 HLq1 BK297 HRq1 HRq0 HB HLq2 HLq3 HRq2 HRq3 hx303_0 hx303_1 hx303_2 hx303_3 hx303_4 hx303_5 hHeld ⊢
          refine pure_ (i := 0) (N := some 36) (v := ?_) (a' := ?_) #[T_,F_,F_,F_,F_,F_,F_,F_,F_] rfl rfl (any_of HT_.out (by kernel_rfl)) (fun _ _ _ h => h) (Or.inl ⟨by rfl, ?_⟩) ?_ ?_
          rotate_left
          ·
           intro w'
           go_simp
           with_reducible rfl
          rotate_left
          ·
           simp only [Act.put, sI_, sZ_, sS_, i64_w, i32_w]
           rfl
          refine pure_ (i := 2) (N := some 38) (v := ?_) (a' := ?_) #[T_,F_,T_,F_,F_,F_,F_,F_,F_] rfl rfl (any_of HT_.out (by kernel_rfl)) (fun _ _ _ h => h) (Or.inl ⟨by rfl, ?_⟩) ?_ ?_
          rotate_left
          ·
           intro w'
           go_simp
           with_reducible rfl
          rotate_left
          ·
           simp only [Act.put, sI_, sZ_, sS_, i64_w, i32_w]
           rfl
          refine pure_ (i := 3) (N := some 39) (v := ?_) (a' := ?_) #[T_,F_,T_,T_,F_,F_,F_,F_,F_] rfl rfl (any_of HT_.out (by kernel_rfl)) (fun _ _ _ h => h) (Or.inl ⟨by rfl, ?_⟩) ?_ ?_
          rotate_left
          ·
           intro w'
           go_simp
           with_reducible rfl
          rotate_left
          ·
           simp only [Act.put, sI_, sZ_, sS_, i64_w, i32_w]
           rfl
          refine pure_ (i := 4) (N := some 40) (v := ?_) (a' := ?_) #[T_,F_,T_,T_,T_,F_,F_,F_,F_] rfl rfl (any_of HT_.out (by kernel_rfl)) (fun _ _ _ h => h) (Or.inl ⟨by rfl, ?_⟩) ?_ ?_
          rotate_left
          ·
           intro w'
           go_simp
           with_reducible rfl
          rotate_left
          ·
           simp only [Act.put, sI_, sZ_, sS_, i64_w, i32_w]
           rfl
          refine pure_ (i := 5) (N := some 41) (v := ?_) (a' := ?_) #[T_,F_,T_,T_,T_,T_,F_,F_,F_] rfl rfl (any_of HT_.out (by kernel_rfl)) (fun _ _ _ h => h) (Or.inl ⟨by rfl, ?_⟩) ?_ ?_
          rotate_left
          ·
           intro w'
           go_simp
           with_reducible rfl
          rotate_left
          ·
           simp only [Act.put, sI_, sZ_, sS_, i64_w, i32_w]
           rfl
          refine take_ (i := 1) (N := some 37) (v := ?_) (a' := ?_) #[T_,T_,T_,T_,T_,T_,F_,F_,F_] rfl rfl (take_ofW HT_.out HW_.out (by kernel_rfl)) (fun _ _ _ h => h) (Or.inl ⟨by rfl, ?_⟩) hHeld ?_ ?_
          rotate_left
          ·
           rintro w' ⟨s0, s1, s2, s3, s4, s5, s6, s7⟩
           go_simp
           with_reducible rfl
          rotate_left
          ·
           simp only [Act.put, sI_, sZ_, sS_, i64_w, i32_w]
           rfl
          refine take_ (i := 6) (N := some 42) (v := ?_) (a' := ?_) #[T_,T_,T_,T_,T_,T_,T_,F_,F_] rfl rfl (take_ofW HT_.out HW_.out (by kernel_rfl)) (fun _ _ _ h => h) (Or.inl ⟨by rfl, ?_⟩) hHeld ?_ ?_
          rotate_left
          ·
           rintro w' ⟨s0, s1, s2, s3, s4, s5, s6, s7⟩
           go_simp
           with_reducible rfl
          rotate_left
          ·
           simp only [Act.put, sI_, sZ_, sS_, i64_w, i32_w]
           rfl
          refine one_ (i := 7) (N := some 43) #[T_,T_,T_,T_,T_,T_,T_,T_,F_] rfl rfl (one_of HT_.out (by kernel_rfl)) (by decide) (fun K hK => ?_)
          refine goes_ Try.func19 (by kernel_rfl) rfl #[.slice A0_1 l0_1.length c0_1, .slice A303_4 ((rd_T50 t298 x13_1).f4).length c303_4] (by rfl) rfl rfl (by (try simp only [mT_, mC_, mN_]); first | done | rfl | (simp only [lD_, lT_]; rfl)) ?_
          with_reducible refine (banksmanref13_Hit.calls k1 _ _ l0_1 _ _ ((rd_T50 t298 x13_1).f4) true _ ?side1 ?side2 ?side3 ?side4 A12.out).mono ?_
          (case side1 => repeat (first | exact (kB_ HR0_1.out HB.out) | (with_reducible first | refine kA_ ?_ _ | refine kN_ ?_ _ | refine kD_ ?_)))
          (case side2 => exact HC0_1.out)
          (case side3 => repeat (first | exact (cU HRq3.out) | (with_reducible first | refine kA_ ?_ _ | refine kN_ ?_ _ | refine kD_ ?_)))
          (case side4 => exact HCq2.out)
          rintro e w43 ⟨rfl, hb⟩
          have HS2_ := (hb.cell (bL_ _ _ (hHeld.2.2.1))).trans (hHeld.2.2.1)
          have HS3_ := (hb.cell (bL_ _ _ (hHeld.2.2.2.1))).trans (hHeld.2.2.2.1)
          have HS4_ := (hb.cell (bL_ _ _ (hHeld.2.2.2.2.1))).trans (hHeld.2.2.2.2.1)
          have HS5_ := (hb.cell (bL_ _ _ (hHeld.2.2.2.2.2.1))).trans (hHeld.2.2.2.2.2.1)
          have HS6_ := (hb.cell (bL_ _ _ (hHeld.2.2.2.2.2.2.1))).trans (hHeld.2.2.2.2.2.2.1)
          have HS7_ := (hb.cell (bL_ _ _ (hHeld.2.2.2.2.2.2.2))).trans (hHeld.2.2.2.2.2.2.2)
          refine ⟨_, rfl, ?_⟩
          have n0_ := aM (Kd.R_below (rU HO_10.out) hb)
          have n1_ := aM (Kd.R_below (rU HLq0.out) hb)
          have n2_ := aM (Kd.R_below (rU HLq1.out) hb)
          have n3_ := aM (Kd.R_below (rU HLq2.out) hb)
          have n4_ := aM (Kd.R_below (rU HLq3.out) hb)
          have n5_ := aM (kB (g := gb297) (o := .cells #[.int .i64 a0_0, .slice A0_1 l0_1.length c0_1] 24 (0, 0)) (bU BK297.out) hb)
          have n6_ := aM (kB_ (cU HRq1.out) hb)
          have n7_ := aM (kB_ (cU HRq0.out) hb)
          have n8_ := aM (kB_ (cU HRq2.out) hb)
          have n9_ := aM (kB_ (cU HRq3.out) hb)
          have n10_ := aM (below_step (by repeat (first | (with_reducible first | exact HB.out | apply bA | apply bN | apply bD | refine bS ?_ GE297.out) | exact HB.out)) hb)
          clear HO_10
          clear HLq0
          clear HLq1
          clear HLq2
          clear HLq3
          clear BK297
          clear HRq1
          clear HRq0
          clear HRq2
          clear HRq3
          clear HB
          have HO_10 := n0_
          have HLq0 := n1_
          have HLq1 := n2_
          have HLq2 := n3_
          have HLq3 := n4_
          have BK297 := n5_
          have HRq1 := n6_
          have HRq0 := n7_
          have HRq2 := n8_
          have HRq3 := n9_
          have HB := n10_
          clear n0_ n1_ n2_ n3_ n4_ n5_ n6_ n7_ n8_ n9_ n10_
          (try clear hb)
          (try clear hb2)
          (try clear hk)
          (try clear hi)
          refine hK.out _ _ ⟨(kC BK297.out 0).trans rfl, (kC BK297.out 1).trans rfl, HS2_, HS3_, HS4_, HS5_, HS6_, HS7_⟩ (fun hHeld => ?_)
          clear hK K
          refine norm_ (a' := ?_) ?_ ?_
          rotate_left
          ·
           show Act.put _ (some 43) _ = _
           simp only [Act.put, sI_, sZ_, sS_, i64_w, i32_w]
           rfl
          refine pure_ (i := 8) (N := some 15) (v := ?_) (a' := ?_) #[T_,T_,T_,T_,T_,T_,T_,T_,T_] rfl rfl (any_of HT_.out (by kernel_rfl)) (fun _ _ _ h => h) (Or.inl ⟨by rfl, ?_⟩) ?_ ?_
          rotate_left
          ·
           intro w'
           go_simp
           with_reducible rfl
          rotate_left
          ·
           simp only [Act.put, sI_, sZ_, sS_, i64_w, i32_w]
           rfl
          refine done_ (done_of HT_.out (by kernel_rfl)) ?_
          have p305 : 0 ≤ (x13_1 : Int) := dT_
          have q305 : x13_1 < (t298.length : Int) := dT_
          obtain ⟨ad305, A305_3, c305_3, A305_4, c305_4, e305, hx305_0, hx305_1, hx305_2, hx305_3, hx305_4, hx305_5, hl305_3, hi305_3, hl305_4, hi305_4⟩ := at_T50 (Kd.R_reads' HO_10.out).2.2 x13_1 p305 q305
          (try rw [← Nbq20.out] at hx305_2)
          (try rw [← Nbq20.out] at hx305_5)
          obtain rfl : ad301 = ad305 := (by injection e305)
          (try obtain ⟨rfl, rfl⟩ := uE hx305_3 hx301_3)
          (try obtain ⟨rfl, rfl⟩ := uE hx305_4 hx301_4)
          (try obtain ⟨rfl, rfl⟩ := uE hx305_3 hx303_3)
          (try obtain ⟨rfl, rfl⟩ := uE hx305_4 hx303_4)
          (try obtain ⟨rfl, rfl⟩ := uE hx305_3 hx301_3)
          (try obtain ⟨rfl, rfl⟩ := uE hx305_4 hx301_4)
          (try obtain ⟨rfl, rfl⟩ := uE hx305_3 hx303_3)
          (try obtain ⟨rfl, rfl⟩ := uE hx305_4 hx303_4)
          (try obtain ⟨rfl, rfl⟩ := uE hx305_3 hx301_3)
          (try obtain ⟨rfl, rfl⟩ := uE hx305_4 hx301_4)
          (try obtain ⟨rfl, rfl⟩ := uE hx305_3 hx303_3)
          (try obtain ⟨rfl, rfl⟩ := uE hx305_4 hx303_4)
          (try obtain ⟨rfl, rfl⟩ := uE hx305_3 hx301_3)
          (try obtain ⟨rfl, rfl⟩ := uE hx305_4 hx301_4)
          (try obtain ⟨rfl, rfl⟩ := uE hx305_3 hx303_3)
          (try obtain ⟨rfl, rfl⟩ := uE hx305_4 hx303_4)
          (try obtain ⟨rfl, rfl⟩ := uE hx305_3 hx301_3)
          (try obtain ⟨rfl, rfl⟩ := uE hx305_4 hx301_4)
          (try obtain ⟨rfl, rfl⟩ := uE hx305_3 hx303_3)
          (try obtain ⟨rfl, rfl⟩ := uE hx305_4 hx303_4)
          (try obtain ⟨rfl, rfl⟩ := uE hx305_3 hx301_3)
          (try obtain ⟨rfl, rfl⟩ := uE hx305_4 hx301_4)
          (try obtain ⟨rfl, rfl⟩ := uE hx305_3 hx303_3)
          (try obtain ⟨rfl, rfl⟩ := uE hx305_4 hx303_4)
          obtain ⟨ce305, hce305, hMe305, hcc305⟩ := Kd.R_get HO_10.out z50 x13_1 p305 (by first | exact q305 | exact dT_ | (have e_ := (Kd.R_reads' HO_10.out).1; omega))
          obtain ⟨ve305_3, ve305_4, rfl, ge305_3, ge305_4⟩ := k50_openM hMe305
          have hv305_3 := hcc305 3 _ rfl
          rw [add_field _ _ 3 (by omega)] at hv305_3
          replace hv305_3 := sO_ (hv305_3.symm.trans hx305_3)
          rw [hv305_3] at ge305_3
          have HLq4 := aM (show Kd.R k57 57 _ _ _ _ ((rd_T50 t298 x13_1).f3) from ge305_3)
          clear hv305_3 ge305_3
          have hv305_4 := hcc305 4 _ rfl
          rw [add_field _ _ 4 (by omega)] at hv305_4
          replace hv305_4 := sO_ (hv305_4.symm.trans hx305_4)
          rw [hv305_4] at ge305_4
          have HLq5 := aM (show Kd.R k59 59 _ _ _ _ ((rd_T50 t298 x13_1).f4) from ge305_4)
          clear hv305_4 ge305_4
          clear hcc305 hce305
          have HRq4 := aM hi305_3
          have HCq4 := aM hl305_3
          clear hi305_3 hl305_3
          have HRq5 := aM hi305_4
          have HCq5 := aM hl305_4
          clear hi305_4 hl305_4
          replace p305 := eq_true p305
          replace q305 := eq_true q305
          try go_wp2_with (first | ((with_reducible refine gate_callee (f := 19) rfl ?_); refine goesL_ (some 50) rfl rfl Try.func19 (by kernel_rfl) rfl #[.slice A303_3 ((rd_T50 t298 x13_1).f3).length c303_3, .slice A1 l1.length c1] rfl (by (try simp only [mT_, mC_, mN_]); first | done | rfl | (simp only [lD_, lT_]; rfl)) ?_; (with_reducible refine (banksmanref13_Hit.calls k1 _ _ ((rd_T50 t298 x13_1).f3) _ _ l1 t306 _ ?side1 ?side2 ?side3 ?side4 A13.out).mono ?_); (case side1 => repeat (first | exact (cU HRq2.out) | (with_reducible first | refine kA_ ?_ _ | refine kN_ ?_ _ | refine kD_ ?_))); (case side2 => exact HCq1.out); (case side3 => repeat (first | exact (kB_ HR1.out HB.out) | (with_reducible first | refine kA_ ?_ _ | refine kN_ ?_ _ | refine kD_ ?_))); (case side4 => exact HC1.out); rintro e w44 ⟨rfl, hb⟩; refine ⟨_, rfl, ?_⟩; replace HO_10 := aM (Kd.R_below (rU HO_10.out) hb); replace HLq0 := aM (Kd.R_below (rU HLq0.out) hb); replace HLq1 := aM (Kd.R_below (rU HLq1.out) hb); replace HLq2 := aM (Kd.R_below (rU HLq2.out) hb); replace HLq3 := aM (Kd.R_below (rU HLq3.out) hb); replace HLq4 := aM (Kd.R_below (rU HLq4.out) hb); replace HLq5 := aM (Kd.R_below (rU HLq5.out) hb); replace BK297 := aM (kB (g := gb297) (o := .cells #[.int .i64 a0_0, .slice A0_1 l0_1.length c0_1] 24 (0, 0)) (bU BK297.out) hb); replace HRq1 := aM (kB_ (cU HRq1.out) hb); replace HRq0 := aM (kB_ (cU HRq0.out) hb); replace HRq2 := aM (kB_ (cU HRq2.out) hb); replace HRq3 := aM (kB_ (cU HRq3.out) hb); replace HRq4 := aM (kB_ (cU HRq4.out) hb); replace HRq5 := aM (kB_ (cU HRq5.out) hb); replace HB := aM (below_step (by repeat (first | (with_reducible first | exact HB.out | apply bA | apply bN | apply bD | refine bS ?_ GE297.out) | exact HB.out)) hb); (try clear hb); (try clear hb2); (try clear hk); (try clear hi); have p307 : 0 ≤ (x13_1 : Int) := dT_; have q307 : x13_1 < (t298.length : Int) := dT_; obtain ⟨ad307, A307_3, c307_3, A307_4, c307_4, e307, hx307_0, hx307_1, hx307_2, hx307_3, hx307_4, hx307_5, hl307_3, hi307_3, hl307_4, hi307_4⟩ := at_T50 (Kd.R_reads' HO_10.out).2.2 x13_1 p307 q307; (try rw [← Nbq20.out] at hx307_2); (try rw [← Nbq20.out] at hx307_5); obtain rfl : ad301 = ad307 := (by injection e307); obtain ⟨ce307, hce307, hMe307, hcc307⟩ := Kd.R_get HO_10.out z50 x13_1 p307 (by first | exact q307 | exact dT_ | (have e_ := (Kd.R_reads' HO_10.out).1; omega)); obtain ⟨ve307_3, ve307_4, rfl, ge307_3, ge307_4⟩ := k50_openM hMe307; have hv307_3 := hcc307 3 _ rfl; rw [add_field _ _ 3 (by omega)] at hv307_3; replace hv307_3 := sO_ (hv307_3.symm.trans hx307_3); rw [hv307_3] at ge307_3; have HLq6 := aM (show Kd.R k57 57 _ _ _ _ ((rd_T50 t298 x13_1).f3) from ge307_3); clear hv307_3 ge307_3; have hv307_4 := hcc307 4 _ rfl; rw [add_field _ _ 4 (by omega)] at hv307_4; replace hv307_4 := sO_ (hv307_4.symm.trans hx307_4); rw [hv307_4] at ge307_4; have HLq7 := aM (show Kd.R k59 59 _ _ _ _ ((rd_T50 t298 x13_1).f4) from ge307_4); clear hv307_4 ge307_4; clear hcc307 hce307; have HRq6 := aM hi307_3; have HCq6 := aM hl307_3; clear hi307_3 hl307_3; have HRq7 := aM hi307_4; have HCq7 := aM hl307_4; clear hi307_4 hl307_4; replace p307 := eq_true p307; replace q307 := eq_true q307))
          go_roundg k1
          case measure => have := HK1.out; omega
          case rel => exact ⟨(true), (t306), (wrap64 (x13_1 + 1)), (by first | rfl | (simp; done) | (simp [*]; done)), (by first | rfl | (simp; done) | (simp [*]; done)), (by first | rfl | (simp; done) | (simp [*]; done)), H', ⟨by have := HK1.out; omega⟩, ⟨by (with_reducible repeat (first | apply Kd.R_alloc | apply Kd.R_drewN | apply Kd.R_drew)); exact HO_10.out⟩, ⟨by (with_reducible repeat (first | refine blk_drewN ?_ _ | refine blk_drew ?_ | refine blk_alloc ?_ _)); exact BK297.out⟩, ⟨by repeat (first | (with_reducible first | exact HB.out | apply bA | apply bN | apply bD | refine bS ?_ GE297.out) | exact HB.out)⟩⟩
      ·
       replace c19 := Bool.eq_false_iff.mpr c19
       subst c19
       have H1 : (if x11_1 = true then (if x12_1 = true then (banksmanref14_Judge.l0 k1 l1 l3 t298 true true (wrap64 (x13_1 + 1)) a0_0 l0_1) else (banksmanref14_Judge.l0 k1 l1 l3 t298 true t306 (wrap64 (x13_1 + 1)) a0_0 l0_1)) else (if x12_1 = true then (banksmanref14_Judge.l0 k1 l1 l3 t298 false true (wrap64 (x13_1 + 1)) a0_0 l0_1) else (banksmanref14_Judge.l0 k1 l1 l3 t298 false t306 (wrap64 (x13_1 + 1)) a0_0 l0_1))) = some (r1, r2) := by rw [if_neg (show ¬ (false = true) by decide)] at H; exact H
       clear H
       have H := H1
       clear H1
       by_cases c45 : x11_1 = true
       ·
        subst c45
        have H1 : (if x12_1 = true then (banksmanref14_Judge.l0 k1 l1 l3 t298 true true (wrap64 (x13_1 + 1)) a0_0 l0_1) else (banksmanref14_Judge.l0 k1 l1 l3 t298 true t306 (wrap64 (x13_1 + 1)) a0_0 l0_1)) = some (r1, r2) := by rw [if_pos rfl] at H; exact H
        clear H
        have H := H1
        clear H1
        by_cases c46 : x12_1 = true
        ·
         subst c46
         have H1 : (banksmanref14_Judge.l0 k1 l1 l3 t298 true true (wrap64 (x13_1 + 1)) a0_0 l0_1) = some (r1, r2) := by rw [if_pos rfl] at H; exact H
         clear H
         have H := H1
         clear H1
         have H' := aM H
         clear H
         obtain ⟨Ao47, co47, eo47⟩ := Kd.R_slice HO_10.out
         subst eo47
         have p301 : 0 ≤ (x13_1 : Int) := dT_
         have q301 : x13_1 < (t298.length : Int) := dT_
         obtain ⟨ad301, A301_3, c301_3, A301_4, c301_4, e301, hx301_0, hx301_1, hx301_2, hx301_3, hx301_4, hx301_5, hl301_3, hi301_3, hl301_4, hi301_4⟩ := at_T50 (Kd.R_reads' HO_10.out).2.2 x13_1 p301 q301
         cases e301
         obtain ⟨ce301, hce301, hMe301, hcc301⟩ := Kd.R_get HO_10.out z50 x13_1 p301 (by first | exact q301 | exact dT_ | (have e_ := (Kd.R_reads' HO_10.out).1; omega))
         obtain ⟨ve301_3, ve301_4, rfl, ge301_3, ge301_4⟩ := k50_openM hMe301
         have hv301_3 := hcc301 3 _ rfl
         rw [add_field _ _ 3 (by omega)] at hv301_3
         replace hv301_3 := sO_ (hv301_3.symm.trans hx301_3)
         rw [hv301_3] at ge301_3
         have HLq0 := aM (show Kd.R k57 57 _ _ _ _ ((rd_T50 t298 x13_1).f3) from ge301_3)
         clear hv301_3 ge301_3
         have hv301_4 := hcc301 4 _ rfl
         rw [add_field _ _ 4 (by omega)] at hv301_4
         replace hv301_4 := sO_ (hv301_4.symm.trans hx301_4)
         rw [hv301_4] at ge301_4
         have HLq1 := aM (show Kd.R k59 59 _ _ _ _ ((rd_T50 t298 x13_1).f4) from ge301_4)
         clear hv301_4 ge301_4
         clear hcc301 hce301
         have HRq1 := aM hi301_3
         have HCq3 := aM hl301_3
         clear hi301_3 hl301_3
         have HRq0 := aM hi301_4
         have HCq0 := aM hl301_4
         clear hi301_4 hl301_4
         replace p301 := eq_true p301
         replace q301 := eq_true q301
         try go_wp2_with (first | ((with_reducible refine gate_callee (f := 20) rfl ?_); refine goesL_ (some 35) rfl rfl Try.func20 (by kernel_rfl) rfl #[.slice A301_4 ((rd_T50 t298 x13_1).f4).length c301_4, .slice A1 l1.length c1] rfl (by (try simp only [mT_, mC_, mN_]); first | done | rfl | (simp only [lD_, lT_]; rfl)) ?_; (with_reducible refine (banksmanref13_Same.calls k1 _ _ ((rd_T50 t298 x13_1).f4) _ _ l1 false _ ?side1 ?side2 ?side3 ?side4 A11.out).mono ?_); (case side1 => repeat (first | exact (cU HRq0.out) | (with_reducible first | refine kA_ ?_ _ | refine kN_ ?_ _ | refine kD_ ?_))); (case side2 => exact HCq0.out); (case side3 => repeat (first | exact (kB_ HR1.out HB.out) | (with_reducible first | refine kA_ ?_ _ | refine kN_ ?_ _ | refine kD_ ?_))); (case side4 => exact HC1.out); rintro e w' ⟨rfl, ⟨nd, rfl⟩⟩; refine ⟨_, rfl, ?_⟩))
         (try (rw [drewN_self wr]; generalize hq_ : World.drewN wr _ = wr; have n0_ : Aside0 (Kd.R k57 57 wr w.heap.size (fun k_ => some k_ ≠ (.slice (some ad301) t298.length co47 : Value).ownBlock) (.slice A301_3 ((rd_T50 t298 x13_1).f3).length c301_3) ((rd_T50 t298 x13_1).f3)) := ⟨by rw [← hq_]; exact (by (with_reducible repeat (first | apply Kd.R_alloc | apply Kd.R_drewN | apply Kd.R_drew)); exact Kd.R_mono HLq0.out (fun _ hk => hk.2))⟩; have n1_ : Aside0 (Kd.R k59 59 wr w.heap.size (fun k_ => some k_ ≠ (.slice (some ad301) t298.length co47 : Value).ownBlock) (.slice A301_4 ((rd_T50 t298 x13_1).f4).length c301_4) ((rd_T50 t298 x13_1).f4)) := ⟨by rw [← hq_]; exact (by (with_reducible repeat (first | apply Kd.R_alloc | apply Kd.R_drewN | apply Kd.R_drew)); exact Kd.R_mono HLq1.out (fun _ hk => hk.2))⟩; have n2_ : Aside0 (Kd.R k50 50 wr w.heap.size (fun _ => True) (.slice (some ad301) t298.length co47) t298) := ⟨by rw [← hq_]; exact (rU HO_10.out)⟩; have n3_ : Aside0 (wr.heap[gb297]? = some (.cells #[.int .i64 a0_0, .slice A0_1 l0_1.length c0_1] 24 (0, 0))) := ⟨by rw [← hq_]; exact (bU BK297.out)⟩; have n4_ : Aside0 (Below w.heap.size w wr) := ⟨by rw [← hq_]; exact (by repeat (first | (with_reducible first | exact HB.out | apply bA | apply bN | apply bD | refine bS ?_ GE297.out) | exact HB.out))⟩; have n5_ : Aside0 (Kd.C k57 wr A301_3 ((rd_T50 t298 x13_1).f3).length ((rd_T50 t298 x13_1).f3)) := ⟨by rw [← hq_]; exact (cU HRq1.out)⟩; have n6_ : Aside0 (Kd.C k59 wr A301_4 ((rd_T50 t298 x13_1).f4).length ((rd_T50 t298 x13_1).f4)) := ⟨by rw [← hq_]; exact (cU HRq0.out)⟩; clear HLq0 HLq1 HO_10 BK297 HB HRq1 HRq0 hq_; have HLq0 := n0_; have HLq1 := n1_; have HO_10 := n2_; have BK297 := n3_; have HB := n4_; have HRq1 := n5_; have HRq0 := n6_; clear n0_ n1_ n2_ n3_ n4_ n5_ n6_))
         have n0_ := aM (Kd.R_drew HO_10.out)
         have n1_ := aM (Kd.R_drew HLq0.out)
         have n2_ := aM (Kd.R_drew HLq1.out)
         have n3_ := aM (blk_drew BK297.out)
         have n4_ := aM (kD_ HRq1.out)
         have n5_ := aM (kD_ HRq0.out)
         have n6_ := aM (bD HB.out)
         clear HO_10
         clear HLq0
         clear HLq1
         clear BK297
         clear HRq1
         clear HRq0
         clear HB
         have HO_10 := n0_
         have HLq0 := n1_
         have HLq1 := n2_
         have BK297 := n3_
         have HRq1 := n4_
         have HRq0 := n5_
         have HB := n6_
         clear n0_ n1_ n2_ n3_ n4_ n5_ n6_
         have p303 : 0 ≤ (x13_1 : Int) := dT_
         have q303 : x13_1 < (t298.length : Int) := dT_
         obtain ⟨ad303, A303_3, c303_3, A303_4, c303_4, e303, hx303_0, hx303_1, hx303_2, hx303_3, hx303_4, hx303_5, hl303_3, hi303_3, hl303_4, hi303_4⟩ := at_T50 (Kd.R_reads' HO_10.out).2.2 x13_1 p303 q303
         obtain rfl : ad301 = ad303 := (by injection e303)
         (try obtain ⟨rfl, rfl⟩ := uE hx303_3 hx301_3)
         (try obtain ⟨rfl, rfl⟩ := uE hx303_4 hx301_4)
         (try obtain ⟨rfl, rfl⟩ := uE hx303_3 hx301_3)
         (try obtain ⟨rfl, rfl⟩ := uE hx303_4 hx301_4)
         (try obtain ⟨rfl, rfl⟩ := uE hx303_3 hx301_3)
         (try obtain ⟨rfl, rfl⟩ := uE hx303_4 hx301_4)
         (try obtain ⟨rfl, rfl⟩ := uE hx303_3 hx301_3)
         (try obtain ⟨rfl, rfl⟩ := uE hx303_4 hx301_4)
         (try obtain ⟨rfl, rfl⟩ := uE hx303_3 hx301_3)
         (try obtain ⟨rfl, rfl⟩ := uE hx303_4 hx301_4)
         (try obtain ⟨rfl, rfl⟩ := uE hx303_3 hx301_3)
         (try obtain ⟨rfl, rfl⟩ := uE hx303_4 hx301_4)
         (try obtain ⟨rfl, rfl⟩ := uE hx303_3 hx301_3)
         (try obtain ⟨rfl, rfl⟩ := uE hx303_4 hx301_4)
         obtain ⟨ce303, hce303, hMe303, hcc303⟩ := Kd.R_get HO_10.out z50 x13_1 p303 (by first | exact q303 | exact dT_ | (have e_ := (Kd.R_reads' HO_10.out).1; omega))
         obtain ⟨ve303_3, ve303_4, rfl, ge303_3, ge303_4⟩ := k50_openM hMe303
         have hv303_3 := hcc303 3 _ rfl
         rw [add_field _ _ 3 (by omega)] at hv303_3
         replace hv303_3 := sO_ (hv303_3.symm.trans hx303_3)
         rw [hv303_3] at ge303_3
         have HLq2 := aM (show Kd.R k57 57 _ _ _ _ ((rd_T50 t298 x13_1).f3) from ge303_3)
         clear hv303_3 ge303_3
         have hv303_4 := hcc303 4 _ rfl
         rw [add_field _ _ 4 (by omega)] at hv303_4
         replace hv303_4 := sO_ (hv303_4.symm.trans hx303_4)
         rw [hv303_4] at ge303_4
         have HLq3 := aM (show Kd.R k59 59 _ _ _ _ ((rd_T50 t298 x13_1).f4) from ge303_4)
         clear hv303_4 ge303_4
         clear hcc303 hce303
         have HRq2 := aM hi303_3
         have HCq1 := aM hl303_3
         clear hi303_3 hl303_3
         have HRq3 := aM hi303_4
         have HCq2 := aM hl303_4
         clear hi303_4 hl303_4
         replace p303 := eq_true p303
         replace q303 := eq_true q303
         refine start_ (n := 9) (S := fun w' => w'.cell? ⟨gb297, 0, none⟩ = some (.int .i64 a0_0) ∧ w'.cell? ⟨gb297, 1, none⟩ = some (.slice A0_1 l0_1.length c0_1) ∧ w'.cell? (ad301.add ((x13_1).toNat * 6)) = some (.int .i64 ((rd_T50 t298 x13_1).f0)) ∧ w'.cell? ⟨(ad301.add ((x13_1).toNat * 6)).block, (ad301.add ((x13_1).toNat * 6)).off + 1, none⟩ = some (.int .i64 ((rd_T50 t298 x13_1).f1)) ∧ w'.cell? ⟨(ad301.add ((x13_1).toNat * 6)).block, (ad301.add ((x13_1).toNat * 6)).off + 2, none⟩ = some (.bool ((rd_T50 t298 x13_1).f2)) ∧ w'.cell? ⟨(ad301.add ((x13_1).toNat * 6)).block, (ad301.add ((x13_1).toNat * 6)).off + 3, none⟩ = some (.slice A303_3 ((rd_T50 t298 x13_1).f3).length c303_3) ∧ w'.cell? ⟨(ad301.add ((x13_1).toNat * 6)).block, (ad301.add ((x13_1).toNat * 6)).off + 4, none⟩ = some (.slice A303_4 ((rd_T50 t298 x13_1).f4).length c303_4) ∧ w'.cell? ⟨(ad301.add ((x13_1).toNat * 6)).block, (ad301.add ((x13_1).toNat * 6)).off + 5, none⟩ = some (.bool ((rd_T50 t298 x13_1).f5))) (ds := []) #[F_,F_,F_,F_,F_,F_,F_,F_,F_] (by kernel_rfl) rfl rfl ⟨(kC BK297.out 0).trans rfl, (kC BK297.out 1).trans rfl, hx303_0, hx303_1, hx303_2, hx303_3, hx303_4, hx303_5⟩ (fun hHeld => ?_); refine with_tabW banksmanref14_Judge.tab8 banksmanref14_Judge.bits8 (fun HT_ HW_ => ?_)
         generalize wr.drew = w48 at HO_10 HLq0 HLq1 BK297 HRq1 HRq0 HB HLq2 HLq3 HRq2 HRq3 hx303_0 hx303_1 hx303_2 hx303_3 hx303_4 hx303_5 hHeld ⊢
         refine pure_ (i := 0) (N := some 36) (v := ?_) (a' := ?_) #[T_,F_,F_,F_,F_,F_,F_,F_,F_] rfl rfl (any_of HT_.out (by kernel_rfl)) (fun _ _ _ h => h) (Or.inl ⟨by rfl, ?_⟩) ?_ ?_
         rotate_left
         ·
          intro w'
          go_simp
          with_reducible rfl
         rotate_left
         ·
          simp only [Act.put, sI_, sZ_, sS_, i64_w, i32_w]
          rfl
         refine pure_ (i := 2) (N := some 38) (v := ?_) (a' := ?_) #[T_,F_,T_,F_,F_,F_,F_,F_,F_] rfl rfl (any_of HT_.out (by kernel_rfl)) (fun _ _ _ h => h) (Or.inl ⟨by rfl, ?_⟩) ?_ ?_
         rotate_left
         ·
          intro w'
          go_simp
          with_reducible rfl
         rotate_left
         ·
          simp only [Act.put, sI_, sZ_, sS_, i64_w, i32_w]
          rfl
         refine pure_ (i := 3) (N := some 39) (v := ?_) (a' := ?_) #[T_,F_,T_,T_,F_,F_,F_,F_,F_] rfl rfl (any_of HT_.out (by kernel_rfl)) (fun _ _ _ h => h) (Or.inl ⟨by rfl, ?_⟩) ?_ ?_
         rotate_left
         ·
          intro w'
          go_simp
          with_reducible rfl
         rotate_left
         ·
          simp only [Act.put, sI_, sZ_, sS_, i64_w, i32_w]
          rfl
         refine pure_ (i := 4) (N := some 40) (v := ?_) (a' := ?_) #[T_,F_,T_,T_,T_,F_,F_,F_,F_] rfl rfl (any_of HT_.out (by kernel_rfl)) (fun _ _ _ h => h) (Or.inl ⟨by rfl, ?_⟩) ?_ ?_
         rotate_left
         ·
          intro w'
          go_simp
          with_reducible rfl
         rotate_left
         ·
          simp only [Act.put, sI_, sZ_, sS_, i64_w, i32_w]
          rfl
         refine pure_ (i := 5) (N := some 41) (v := ?_) (a' := ?_) #[T_,F_,T_,T_,T_,T_,F_,F_,F_] rfl rfl (any_of HT_.out (by kernel_rfl)) (fun _ _ _ h => h) (Or.inl ⟨by rfl, ?_⟩) ?_ ?_
         rotate_left
         ·
          intro w'
          go_simp
          with_reducible rfl
         rotate_left
         ·
          simp only [Act.put, sI_, sZ_, sS_, i64_w, i32_w]
          rfl
         refine take_ (i := 1) (N := some 37) (v := ?_) (a' := ?_) #[T_,T_,T_,T_,T_,T_,F_,F_,F_] rfl rfl (take_ofW HT_.out HW_.out (by kernel_rfl)) (fun _ _ _ h => h) (Or.inl ⟨by rfl, ?_⟩) hHeld ?_ ?_
         rotate_left
         ·
          rintro w' ⟨s0, s1, s2, s3, s4, s5, s6, s7⟩
          go_simp
          with_reducible rfl
         rotate_left
         ·
          simp only [Act.put, sI_, sZ_, sS_, i64_w, i32_w]
          rfl
         refine take_ (i := 6) (N := some 42) (v := ?_) (a' := ?_) #[T_,T_,T_,T_,T_,T_,T_,F_,F_] rfl rfl (take_ofW HT_.out HW_.out (by kernel_rfl)) (fun _ _ _ h => h) (Or.inl ⟨by rfl, ?_⟩) hHeld ?_ ?_
         rotate_left
         ·
          rintro w' ⟨s0, s1, s2, s3, s4, s5, s6, s7⟩
          go_simp
          with_reducible rfl
         rotate_left
         ·
          simp only [Act.put, sI_, sZ_, sS_, i64_w, i32_w]
          rfl
         refine one_ (i := 7) (N := some 43) #[T_,T_,T_,T_,T_,T_,T_,T_,F_] rfl rfl (one_of HT_.out (by kernel_rfl)) (by decide) (fun K hK => ?_)
         refine goes_ Try.func19 (by kernel_rfl) rfl #[.slice A0_1 l0_1.length c0_1, .slice A303_4 ((rd_T50 t298 x13_1).f4).length c303_4] (by rfl) rfl rfl (by (try simp only [mT_, mC_, mN_]); first | done | rfl | (simp only [lD_, lT_]; rfl)) ?_
         with_reducible refine (banksmanref13_Hit.calls k1 _ _ l0_1 _ _ ((rd_T50 t298 x13_1).f4) false _ ?side1 ?side2 ?side3 ?side4 A12.out).mono ?_
         (case side1 => repeat (first | exact (kB_ HR0_1.out HB.out) | (with_reducible first | refine kA_ ?_ _ | refine kN_ ?_ _ | refine kD_ ?_)))
         (case side2 => exact HC0_1.out)
         (case side3 => repeat (first | exact (cU HRq3.out) | (with_reducible first | refine kA_ ?_ _ | refine kN_ ?_ _ | refine kD_ ?_)))
         (case side4 => exact HCq2.out)
         rintro e w49 ⟨rfl, hb⟩
         have HS2_ := (hb.cell (bL_ _ _ (hHeld.2.2.1))).trans (hHeld.2.2.1)
         have HS3_ := (hb.cell (bL_ _ _ (hHeld.2.2.2.1))).trans (hHeld.2.2.2.1)
         have HS4_ := (hb.cell (bL_ _ _ (hHeld.2.2.2.2.1))).trans (hHeld.2.2.2.2.1)
         have HS5_ := (hb.cell (bL_ _ _ (hHeld.2.2.2.2.2.1))).trans (hHeld.2.2.2.2.2.1)
         have HS6_ := (hb.cell (bL_ _ _ (hHeld.2.2.2.2.2.2.1))).trans (hHeld.2.2.2.2.2.2.1)
         have HS7_ := (hb.cell (bL_ _ _ (hHeld.2.2.2.2.2.2.2))).trans (hHeld.2.2.2.2.2.2.2)
         refine ⟨_, rfl, ?_⟩
         have n0_ := aM (Kd.R_below (rU HO_10.out) hb)
         have n1_ := aM (Kd.R_below (rU HLq0.out) hb)
         have n2_ := aM (Kd.R_below (rU HLq1.out) hb)
         have n3_ := aM (Kd.R_below (rU HLq2.out) hb)
         have n4_ := aM (Kd.R_below (rU HLq3.out) hb)
         have n5_ := aM (kB (g := gb297) (o := .cells #[.int .i64 a0_0, .slice A0_1 l0_1.length c0_1] 24 (0, 0)) (bU BK297.out) hb)
         have n6_ := aM (kB_ (cU HRq1.out) hb)
         have n7_ := aM (kB_ (cU HRq0.out) hb)
         have n8_ := aM (kB_ (cU HRq2.out) hb)
         have n9_ := aM (kB_ (cU HRq3.out) hb)
         have n10_ := aM (below_step (by repeat (first | (with_reducible first | exact HB.out | apply bA | apply bN | apply bD | refine bS ?_ GE297.out) | exact HB.out)) hb)
         clear HO_10
         clear HLq0
         clear HLq1
         clear HLq2
         clear HLq3
         clear BK297
         clear HRq1
         clear HRq0
         clear HRq2
         clear HRq3
         clear HB
         have HO_10 := n0_
         have HLq0 := n1_
         have HLq1 := n2_
         have HLq2 := n3_
         have HLq3 := n4_
         have BK297 := n5_
         have HRq1 := n6_
         have HRq0 := n7_
         have HRq2 := n8_
         have HRq3 := n9_
         have HB := n10_
         clear n0_ n1_ n2_ n3_ n4_ n5_ n6_ n7_ n8_ n9_ n10_
         (try clear hb)
         (try clear hb2)
         (try clear hk)
         (try clear hi)
         refine hK.out _ _ ⟨(kC BK297.out 0).trans rfl, (kC BK297.out 1).trans rfl, HS2_, HS3_, HS4_, HS5_, HS6_, HS7_⟩ (fun hHeld => ?_)
         clear hK K
         refine norm_ (a' := ?_) ?_ ?_
         rotate_left
         ·
          show Act.put _ (some 43) _ = _
          simp only [Act.put, sI_, sZ_, sS_, i64_w, i32_w]
          rfl
         refine pure_ (i := 8) (N := some 15) (v := ?_) (a' := ?_) #[T_,T_,T_,T_,T_,T_,T_,T_,T_] rfl rfl (any_of HT_.out (by kernel_rfl)) (fun _ _ _ h => h) (Or.inl ⟨by rfl, ?_⟩) ?_ ?_
         rotate_left
         ·
          intro w'
          go_simp
          with_reducible rfl
         rotate_left
         ·
          simp only [Act.put, sI_, sZ_, sS_, i64_w, i32_w]
          rfl
         refine done_ (done_of HT_.out (by kernel_rfl)) ?_
         have p305 : 0 ≤ (x13_1 : Int) := dT_
         have q305 : x13_1 < (t298.length : Int) := dT_
         obtain ⟨ad305, A305_3, c305_3, A305_4, c305_4, e305, hx305_0, hx305_1, hx305_2, hx305_3, hx305_4, hx305_5, hl305_3, hi305_3, hl305_4, hi305_4⟩ := at_T50 (Kd.R_reads' HO_10.out).2.2 x13_1 p305 q305
         obtain rfl : ad301 = ad305 := (by injection e305)
         (try obtain ⟨rfl, rfl⟩ := uE hx305_3 hx301_3)
         (try obtain ⟨rfl, rfl⟩ := uE hx305_4 hx301_4)
         (try obtain ⟨rfl, rfl⟩ := uE hx305_3 hx303_3)
         (try obtain ⟨rfl, rfl⟩ := uE hx305_4 hx303_4)
         (try obtain ⟨rfl, rfl⟩ := uE hx305_3 hx301_3)
         (try obtain ⟨rfl, rfl⟩ := uE hx305_4 hx301_4)
         (try obtain ⟨rfl, rfl⟩ := uE hx305_3 hx303_3)
         (try obtain ⟨rfl, rfl⟩ := uE hx305_4 hx303_4)
         (try obtain ⟨rfl, rfl⟩ := uE hx305_3 hx301_3)
         (try obtain ⟨rfl, rfl⟩ := uE hx305_4 hx301_4)
         (try obtain ⟨rfl, rfl⟩ := uE hx305_3 hx303_3)
         (try obtain ⟨rfl, rfl⟩ := uE hx305_4 hx303_4)
         (try obtain ⟨rfl, rfl⟩ := uE hx305_3 hx301_3)
         (try obtain ⟨rfl, rfl⟩ := uE hx305_4 hx301_4)
         (try obtain ⟨rfl, rfl⟩ := uE hx305_3 hx303_3)
         (try obtain ⟨rfl, rfl⟩ := uE hx305_4 hx303_4)
         (try obtain ⟨rfl, rfl⟩ := uE hx305_3 hx301_3)
         (try obtain ⟨rfl, rfl⟩ := uE hx305_4 hx301_4)
         (try obtain ⟨rfl, rfl⟩ := uE hx305_3 hx303_3)
         (try obtain ⟨rfl, rfl⟩ := uE hx305_4 hx303_4)
         (try obtain ⟨rfl, rfl⟩ := uE hx305_3 hx301_3)
         (try obtain ⟨rfl, rfl⟩ := uE hx305_4 hx301_4)
         (try obtain ⟨rfl, rfl⟩ := uE hx305_3 hx303_3)
         (try obtain ⟨rfl, rfl⟩ := uE hx305_4 hx303_4)
         (try obtain ⟨rfl, rfl⟩ := uE hx305_3 hx301_3)
         (try obtain ⟨rfl, rfl⟩ := uE hx305_4 hx301_4)
         (try obtain ⟨rfl, rfl⟩ := uE hx305_3 hx303_3)
         (try obtain ⟨rfl, rfl⟩ := uE hx305_4 hx303_4)
         obtain ⟨ce305, hce305, hMe305, hcc305⟩ := Kd.R_get HO_10.out z50 x13_1 p305 (by first | exact q305 | exact dT_ | (have e_ := (Kd.R_reads' HO_10.out).1; omega))
         obtain ⟨ve305_3, ve305_4, rfl, ge305_3, ge305_4⟩ := k50_openM hMe305
         have hv305_3 := hcc305 3 _ rfl
         rw [add_field _ _ 3 (by omega)] at hv305_3
         replace hv305_3 := sO_ (hv305_3.symm.trans hx305_3)
         rw [hv305_3] at ge305_3
         have HLq4 := aM (show Kd.R k57 57 _ _ _ _ ((rd_T50 t298 x13_1).f3) from ge305_3)
         clear hv305_3 ge305_3
         have hv305_4 := hcc305 4 _ rfl
         rw [add_field _ _ 4 (by omega)] at hv305_4
         replace hv305_4 := sO_ (hv305_4.symm.trans hx305_4)
         rw [hv305_4] at ge305_4
         have HLq5 := aM (show Kd.R k59 59 _ _ _ _ ((rd_T50 t298 x13_1).f4) from ge305_4)
         clear hv305_4 ge305_4
         clear hcc305 hce305
         have HRq4 := aM hi305_3
         have HCq4 := aM hl305_3
         clear hi305_3 hl305_3
         have HRq5 := aM hi305_4
         have HCq5 := aM hl305_4
         clear hi305_4 hl305_4
         replace p305 := eq_true p305
         replace q305 := eq_true q305
         try go_wp2_with (first | ((with_reducible refine gate_callee (f := 19) rfl ?_); refine goesL_ (some 50) rfl rfl Try.func19 (by kernel_rfl) rfl #[.slice A303_3 ((rd_T50 t298 x13_1).f3).length c303_3, .slice A1 l1.length c1] rfl (by (try simp only [mT_, mC_, mN_]); first | done | rfl | (simp only [lD_, lT_]; rfl)) ?_; (with_reducible refine (banksmanref13_Hit.calls k1 _ _ ((rd_T50 t298 x13_1).f3) _ _ l1 t306 _ ?side1 ?side2 ?side3 ?side4 A13.out).mono ?_); (case side1 => repeat (first | exact (cU HRq2.out) | (with_reducible first | refine kA_ ?_ _ | refine kN_ ?_ _ | refine kD_ ?_))); (case side2 => exact HCq1.out); (case side3 => repeat (first | exact (kB_ HR1.out HB.out) | (with_reducible first | refine kA_ ?_ _ | refine kN_ ?_ _ | refine kD_ ?_))); (case side4 => exact HC1.out); rintro e w50 ⟨rfl, hb⟩; refine ⟨_, rfl, ?_⟩; replace HO_10 := aM (Kd.R_below (rU HO_10.out) hb); replace HLq0 := aM (Kd.R_below (rU HLq0.out) hb); replace HLq1 := aM (Kd.R_below (rU HLq1.out) hb); replace HLq2 := aM (Kd.R_below (rU HLq2.out) hb); replace HLq3 := aM (Kd.R_below (rU HLq3.out) hb); replace HLq4 := aM (Kd.R_below (rU HLq4.out) hb); replace HLq5 := aM (Kd.R_below (rU HLq5.out) hb); replace BK297 := aM (kB (g := gb297) (o := .cells #[.int .i64 a0_0, .slice A0_1 l0_1.length c0_1] 24 (0, 0)) (bU BK297.out) hb); replace HRq1 := aM (kB_ (cU HRq1.out) hb); replace HRq0 := aM (kB_ (cU HRq0.out) hb); replace HRq2 := aM (kB_ (cU HRq2.out) hb); replace HRq3 := aM (kB_ (cU HRq3.out) hb); replace HRq4 := aM (kB_ (cU HRq4.out) hb); replace HRq5 := aM (kB_ (cU HRq5.out) hb); replace HB := aM (below_step (by repeat (first | (with_reducible first | exact HB.out | apply bA | apply bN | apply bD | refine bS ?_ GE297.out) | exact HB.out)) hb); (try clear hb); (try clear hb2); (try clear hk); (try clear hi)))
         go_roundg k1
         case measure => have := HK1.out; omega
         case rel => exact ⟨(true), (true), (wrap64 (x13_1 + 1)), (by first | rfl | (simp; done) | (simp [*]; done)), (by first | rfl | (simp; done) | (simp [*]; done)), (by first | rfl | (simp; done) | (simp [*]; done)), H', ⟨by have := HK1.out; omega⟩, ⟨by (with_reducible repeat (first | apply Kd.R_alloc | apply Kd.R_drewN | apply Kd.R_drew)); exact HO_10.out⟩, ⟨by (with_reducible repeat (first | refine blk_drewN ?_ _ | refine blk_drew ?_ | refine blk_alloc ?_ _)); exact BK297.out⟩, ⟨by repeat (first | (with_reducible first | exact HB.out | apply bA | apply bN | apply bD | refine bS ?_ GE297.out) | exact HB.out)⟩⟩
        ·
         replace c46 := Bool.eq_false_iff.mpr c46
         subst c46
         have H1 : (banksmanref14_Judge.l0 k1 l1 l3 t298 true t306 (wrap64 (x13_1 + 1)) a0_0 l0_1) = some (r1, r2) := by rw [if_neg (show ¬ (false = true) by decide)] at H; exact H
         clear H
         have H := H1
         clear H1
         have H' := aM H
         clear H
         obtain ⟨Ao51, co51, eo51⟩ := Kd.R_slice HO_10.out
         subst eo51
         have p301 : 0 ≤ (x13_1 : Int) := dT_
         have q301 : x13_1 < (t298.length : Int) := dT_
         obtain ⟨ad301, A301_3, c301_3, A301_4, c301_4, e301, hx301_0, hx301_1, hx301_2, hx301_3, hx301_4, hx301_5, hl301_3, hi301_3, hl301_4, hi301_4⟩ := at_T50 (Kd.R_reads' HO_10.out).2.2 x13_1 p301 q301
         cases e301
         obtain ⟨ce301, hce301, hMe301, hcc301⟩ := Kd.R_get HO_10.out z50 x13_1 p301 (by first | exact q301 | exact dT_ | (have e_ := (Kd.R_reads' HO_10.out).1; omega))
         obtain ⟨ve301_3, ve301_4, rfl, ge301_3, ge301_4⟩ := k50_openM hMe301
         have hv301_3 := hcc301 3 _ rfl
         rw [add_field _ _ 3 (by omega)] at hv301_3
         replace hv301_3 := sO_ (hv301_3.symm.trans hx301_3)
         rw [hv301_3] at ge301_3
         have HLq0 := aM (show Kd.R k57 57 _ _ _ _ ((rd_T50 t298 x13_1).f3) from ge301_3)
         clear hv301_3 ge301_3
         have hv301_4 := hcc301 4 _ rfl
         rw [add_field _ _ 4 (by omega)] at hv301_4
         replace hv301_4 := sO_ (hv301_4.symm.trans hx301_4)
         rw [hv301_4] at ge301_4
         have HLq1 := aM (show Kd.R k59 59 _ _ _ _ ((rd_T50 t298 x13_1).f4) from ge301_4)
         clear hv301_4 ge301_4
         clear hcc301 hce301
         have HRq1 := aM hi301_3
         have HCq3 := aM hl301_3
         clear hi301_3 hl301_3
         have HRq0 := aM hi301_4
         have HCq0 := aM hl301_4
         clear hi301_4 hl301_4
         replace p301 := eq_true p301
         replace q301 := eq_true q301
         try go_wp2_with (first | ((with_reducible refine gate_callee (f := 20) rfl ?_); refine goesL_ (some 35) rfl rfl Try.func20 (by kernel_rfl) rfl #[.slice A301_4 ((rd_T50 t298 x13_1).f4).length c301_4, .slice A1 l1.length c1] rfl (by (try simp only [mT_, mC_, mN_]); first | done | rfl | (simp only [lD_, lT_]; rfl)) ?_; (with_reducible refine (banksmanref13_Same.calls k1 _ _ ((rd_T50 t298 x13_1).f4) _ _ l1 false _ ?side1 ?side2 ?side3 ?side4 A11.out).mono ?_); (case side1 => repeat (first | exact (cU HRq0.out) | (with_reducible first | refine kA_ ?_ _ | refine kN_ ?_ _ | refine kD_ ?_))); (case side2 => exact HCq0.out); (case side3 => repeat (first | exact (kB_ HR1.out HB.out) | (with_reducible first | refine kA_ ?_ _ | refine kN_ ?_ _ | refine kD_ ?_))); (case side4 => exact HC1.out); rintro e w' ⟨rfl, ⟨nd, rfl⟩⟩; refine ⟨_, rfl, ?_⟩))
         (try (rw [drewN_self wr]; generalize hq_ : World.drewN wr _ = wr; have n0_ : Aside0 (Kd.R k57 57 wr w.heap.size (fun k_ => some k_ ≠ (.slice (some ad301) t298.length co51 : Value).ownBlock) (.slice A301_3 ((rd_T50 t298 x13_1).f3).length c301_3) ((rd_T50 t298 x13_1).f3)) := ⟨by rw [← hq_]; exact (by (with_reducible repeat (first | apply Kd.R_alloc | apply Kd.R_drewN | apply Kd.R_drew)); exact Kd.R_mono HLq0.out (fun _ hk => hk.2))⟩; have n1_ : Aside0 (Kd.R k59 59 wr w.heap.size (fun k_ => some k_ ≠ (.slice (some ad301) t298.length co51 : Value).ownBlock) (.slice A301_4 ((rd_T50 t298 x13_1).f4).length c301_4) ((rd_T50 t298 x13_1).f4)) := ⟨by rw [← hq_]; exact (by (with_reducible repeat (first | apply Kd.R_alloc | apply Kd.R_drewN | apply Kd.R_drew)); exact Kd.R_mono HLq1.out (fun _ hk => hk.2))⟩; have n2_ : Aside0 (Kd.R k50 50 wr w.heap.size (fun _ => True) (.slice (some ad301) t298.length co51) t298) := ⟨by rw [← hq_]; exact (rU HO_10.out)⟩; have n3_ : Aside0 (wr.heap[gb297]? = some (.cells #[.int .i64 a0_0, .slice A0_1 l0_1.length c0_1] 24 (0, 0))) := ⟨by rw [← hq_]; exact (bU BK297.out)⟩; have n4_ : Aside0 (Below w.heap.size w wr) := ⟨by rw [← hq_]; exact (by repeat (first | (with_reducible first | exact HB.out | apply bA | apply bN | apply bD | refine bS ?_ GE297.out) | exact HB.out))⟩; have n5_ : Aside0 (Kd.C k57 wr A301_3 ((rd_T50 t298 x13_1).f3).length ((rd_T50 t298 x13_1).f3)) := ⟨by rw [← hq_]; exact (cU HRq1.out)⟩; have n6_ : Aside0 (Kd.C k59 wr A301_4 ((rd_T50 t298 x13_1).f4).length ((rd_T50 t298 x13_1).f4)) := ⟨by rw [← hq_]; exact (cU HRq0.out)⟩; clear HLq0 HLq1 HO_10 BK297 HB HRq1 HRq0 hq_; have HLq0 := n0_; have HLq1 := n1_; have HO_10 := n2_; have BK297 := n3_; have HB := n4_; have HRq1 := n5_; have HRq0 := n6_; clear n0_ n1_ n2_ n3_ n4_ n5_ n6_))
         have n0_ := aM (Kd.R_drew HO_10.out)
         have n1_ := aM (Kd.R_drew HLq0.out)
         have n2_ := aM (Kd.R_drew HLq1.out)
         have n3_ := aM (blk_drew BK297.out)
         have n4_ := aM (kD_ HRq1.out)
         have n5_ := aM (kD_ HRq0.out)
         have n6_ := aM (bD HB.out)
         clear HO_10
         clear HLq0
         clear HLq1
         clear BK297
         clear HRq1
         clear HRq0
         clear HB
         have HO_10 := n0_
         have HLq0 := n1_
         have HLq1 := n2_
         have BK297 := n3_
         have HRq1 := n4_
         have HRq0 := n5_
         have HB := n6_
         clear n0_ n1_ n2_ n3_ n4_ n5_ n6_
         have p303 : 0 ≤ (x13_1 : Int) := dT_
         have q303 : x13_1 < (t298.length : Int) := dT_
         obtain ⟨ad303, A303_3, c303_3, A303_4, c303_4, e303, hx303_0, hx303_1, hx303_2, hx303_3, hx303_4, hx303_5, hl303_3, hi303_3, hl303_4, hi303_4⟩ := at_T50 (Kd.R_reads' HO_10.out).2.2 x13_1 p303 q303
         obtain rfl : ad301 = ad303 := (by injection e303)
         (try obtain ⟨rfl, rfl⟩ := uE hx303_3 hx301_3)
         (try obtain ⟨rfl, rfl⟩ := uE hx303_4 hx301_4)
         (try obtain ⟨rfl, rfl⟩ := uE hx303_3 hx301_3)
         (try obtain ⟨rfl, rfl⟩ := uE hx303_4 hx301_4)
         (try obtain ⟨rfl, rfl⟩ := uE hx303_3 hx301_3)
         (try obtain ⟨rfl, rfl⟩ := uE hx303_4 hx301_4)
         (try obtain ⟨rfl, rfl⟩ := uE hx303_3 hx301_3)
         (try obtain ⟨rfl, rfl⟩ := uE hx303_4 hx301_4)
         (try obtain ⟨rfl, rfl⟩ := uE hx303_3 hx301_3)
         (try obtain ⟨rfl, rfl⟩ := uE hx303_4 hx301_4)
         (try obtain ⟨rfl, rfl⟩ := uE hx303_3 hx301_3)
         (try obtain ⟨rfl, rfl⟩ := uE hx303_4 hx301_4)
         (try obtain ⟨rfl, rfl⟩ := uE hx303_3 hx301_3)
         (try obtain ⟨rfl, rfl⟩ := uE hx303_4 hx301_4)
         (try obtain ⟨rfl, rfl⟩ := uE hx303_3 hx301_3)
         (try obtain ⟨rfl, rfl⟩ := uE hx303_4 hx301_4)
         obtain ⟨ce303, hce303, hMe303, hcc303⟩ := Kd.R_get HO_10.out z50 x13_1 p303 (by first | exact q303 | exact dT_ | (have e_ := (Kd.R_reads' HO_10.out).1; omega))
         obtain ⟨ve303_3, ve303_4, rfl, ge303_3, ge303_4⟩ := k50_openM hMe303
         have hv303_3 := hcc303 3 _ rfl
         rw [add_field _ _ 3 (by omega)] at hv303_3
         replace hv303_3 := sO_ (hv303_3.symm.trans hx303_3)
         rw [hv303_3] at ge303_3
         have HLq2 := aM (show Kd.R k57 57 _ _ _ _ ((rd_T50 t298 x13_1).f3) from ge303_3)
         clear hv303_3 ge303_3
         have hv303_4 := hcc303 4 _ rfl
         rw [add_field _ _ 4 (by omega)] at hv303_4
         replace hv303_4 := sO_ (hv303_4.symm.trans hx303_4)
         rw [hv303_4] at ge303_4
         have HLq3 := aM (show Kd.R k59 59 _ _ _ _ ((rd_T50 t298 x13_1).f4) from ge303_4)
         clear hv303_4 ge303_4
         clear hcc303 hce303
         have HRq2 := aM hi303_3
         have HCq1 := aM hl303_3
         clear hi303_3 hl303_3
         have HRq3 := aM hi303_4
         have HCq2 := aM hl303_4
         clear hi303_4 hl303_4
         replace p303 := eq_true p303
         replace q303 := eq_true q303
         refine start_ (n := 9) (S := fun w' => w'.cell? ⟨gb297, 0, none⟩ = some (.int .i64 a0_0) ∧ w'.cell? ⟨gb297, 1, none⟩ = some (.slice A0_1 l0_1.length c0_1) ∧ w'.cell? (ad301.add ((x13_1).toNat * 6)) = some (.int .i64 ((rd_T50 t298 x13_1).f0)) ∧ w'.cell? ⟨(ad301.add ((x13_1).toNat * 6)).block, (ad301.add ((x13_1).toNat * 6)).off + 1, none⟩ = some (.int .i64 ((rd_T50 t298 x13_1).f1)) ∧ w'.cell? ⟨(ad301.add ((x13_1).toNat * 6)).block, (ad301.add ((x13_1).toNat * 6)).off + 2, none⟩ = some (.bool ((rd_T50 t298 x13_1).f2)) ∧ w'.cell? ⟨(ad301.add ((x13_1).toNat * 6)).block, (ad301.add ((x13_1).toNat * 6)).off + 3, none⟩ = some (.slice A303_3 ((rd_T50 t298 x13_1).f3).length c303_3) ∧ w'.cell? ⟨(ad301.add ((x13_1).toNat * 6)).block, (ad301.add ((x13_1).toNat * 6)).off + 4, none⟩ = some (.slice A303_4 ((rd_T50 t298 x13_1).f4).length c303_4) ∧ w'.cell? ⟨(ad301.add ((x13_1).toNat * 6)).block, (ad301.add ((x13_1).toNat * 6)).off + 5, none⟩ = some (.bool ((rd_T50 t298 x13_1).f5))) (ds := []) #[F_,F_,F_,F_,F_,F_,F_,F_,F_] (by kernel_rfl) rfl rfl ⟨(kC BK297.out 0).trans rfl, (kC BK297.out 1).trans rfl, hx303_0, hx303_1, hx303_2, hx303_3, hx303_4, hx303_5⟩ (fun hHeld => ?_); refine with_tabW banksmanref14_Judge.tab8 banksmanref14_Judge.bits8 (fun HT_ HW_ => ?_)
         generalize wr.drew = w52 at HO_10 HLq0 HLq1 BK297 HRq1 HRq0 HB HLq2 HLq3 HRq2 HRq3 hx303_0 hx303_1 hx303_2 hx303_3 hx303_4 hx303_5 hHeld ⊢
         refine pure_ (i := 0) (N := some 36) (v := ?_) (a' := ?_) #[T_,F_,F_,F_,F_,F_,F_,F_,F_] rfl rfl (any_of HT_.out (by kernel_rfl)) (fun _ _ _ h => h) (Or.inl ⟨by rfl, ?_⟩) ?_ ?_
         rotate_left
         ·
          intro w'
          go_simp
          with_reducible rfl
         rotate_left
         ·
          simp only [Act.put, sI_, sZ_, sS_, i64_w, i32_w]
          rfl
         refine pure_ (i := 2) (N := some 38) (v := ?_) (a' := ?_) #[T_,F_,T_,F_,F_,F_,F_,F_,F_] rfl rfl (any_of HT_.out (by kernel_rfl)) (fun _ _ _ h => h) (Or.inl ⟨by rfl, ?_⟩) ?_ ?_
         rotate_left
         ·
          intro w'
          go_simp
          with_reducible rfl
         rotate_left
         ·
          simp only [Act.put, sI_, sZ_, sS_, i64_w, i32_w]
          rfl
         refine pure_ (i := 3) (N := some 39) (v := ?_) (a' := ?_) #[T_,F_,T_,T_,F_,F_,F_,F_,F_] rfl rfl (any_of HT_.out (by kernel_rfl)) (fun _ _ _ h => h) (Or.inl ⟨by rfl, ?_⟩) ?_ ?_
         rotate_left
         ·
          intro w'
          go_simp
          with_reducible rfl
         rotate_left
         ·
          simp only [Act.put, sI_, sZ_, sS_, i64_w, i32_w]
          rfl
         refine pure_ (i := 4) (N := some 40) (v := ?_) (a' := ?_) #[T_,F_,T_,T_,T_,F_,F_,F_,F_] rfl rfl (any_of HT_.out (by kernel_rfl)) (fun _ _ _ h => h) (Or.inl ⟨by rfl, ?_⟩) ?_ ?_
         rotate_left
         ·
          intro w'
          go_simp
          with_reducible rfl
         rotate_left
         ·
          simp only [Act.put, sI_, sZ_, sS_, i64_w, i32_w]
          rfl
         refine pure_ (i := 5) (N := some 41) (v := ?_) (a' := ?_) #[T_,F_,T_,T_,T_,T_,F_,F_,F_] rfl rfl (any_of HT_.out (by kernel_rfl)) (fun _ _ _ h => h) (Or.inl ⟨by rfl, ?_⟩) ?_ ?_
         rotate_left
         ·
          intro w'
          go_simp
          with_reducible rfl
         rotate_left
         ·
          simp only [Act.put, sI_, sZ_, sS_, i64_w, i32_w]
          rfl
         refine take_ (i := 1) (N := some 37) (v := ?_) (a' := ?_) #[T_,T_,T_,T_,T_,T_,F_,F_,F_] rfl rfl (take_ofW HT_.out HW_.out (by kernel_rfl)) (fun _ _ _ h => h) (Or.inl ⟨by rfl, ?_⟩) hHeld ?_ ?_
         rotate_left
         ·
          rintro w' ⟨s0, s1, s2, s3, s4, s5, s6, s7⟩
          go_simp
          with_reducible rfl
         rotate_left
         ·
          simp only [Act.put, sI_, sZ_, sS_, i64_w, i32_w]
          rfl
         refine take_ (i := 6) (N := some 42) (v := ?_) (a' := ?_) #[T_,T_,T_,T_,T_,T_,T_,F_,F_] rfl rfl (take_ofW HT_.out HW_.out (by kernel_rfl)) (fun _ _ _ h => h) (Or.inl ⟨by rfl, ?_⟩) hHeld ?_ ?_
         rotate_left
         ·
          rintro w' ⟨s0, s1, s2, s3, s4, s5, s6, s7⟩
          go_simp
          with_reducible rfl
         rotate_left
         ·
          simp only [Act.put, sI_, sZ_, sS_, i64_w, i32_w]
          rfl
         refine one_ (i := 7) (N := some 43) #[T_,T_,T_,T_,T_,T_,T_,T_,F_] rfl rfl (one_of HT_.out (by kernel_rfl)) (by decide) (fun K hK => ?_)
         refine goes_ Try.func19 (by kernel_rfl) rfl #[.slice A0_1 l0_1.length c0_1, .slice A303_4 ((rd_T50 t298 x13_1).f4).length c303_4] (by rfl) rfl rfl (by (try simp only [mT_, mC_, mN_]); first | done | rfl | (simp only [lD_, lT_]; rfl)) ?_
         with_reducible refine (banksmanref13_Hit.calls k1 _ _ l0_1 _ _ ((rd_T50 t298 x13_1).f4) false _ ?side1 ?side2 ?side3 ?side4 A12.out).mono ?_
         (case side1 => repeat (first | exact (kB_ HR0_1.out HB.out) | (with_reducible first | refine kA_ ?_ _ | refine kN_ ?_ _ | refine kD_ ?_)))
         (case side2 => exact HC0_1.out)
         (case side3 => repeat (first | exact (cU HRq3.out) | (with_reducible first | refine kA_ ?_ _ | refine kN_ ?_ _ | refine kD_ ?_)))
         (case side4 => exact HCq2.out)
         rintro e w53 ⟨rfl, hb⟩
         have HS2_ := (hb.cell (bL_ _ _ (hHeld.2.2.1))).trans (hHeld.2.2.1)
         have HS3_ := (hb.cell (bL_ _ _ (hHeld.2.2.2.1))).trans (hHeld.2.2.2.1)
         have HS4_ := (hb.cell (bL_ _ _ (hHeld.2.2.2.2.1))).trans (hHeld.2.2.2.2.1)
         have HS5_ := (hb.cell (bL_ _ _ (hHeld.2.2.2.2.2.1))).trans (hHeld.2.2.2.2.2.1)
         have HS6_ := (hb.cell (bL_ _ _ (hHeld.2.2.2.2.2.2.1))).trans (hHeld.2.2.2.2.2.2.1)
         have HS7_ := (hb.cell (bL_ _ _ (hHeld.2.2.2.2.2.2.2))).trans (hHeld.2.2.2.2.2.2.2)
         refine ⟨_, rfl, ?_⟩
         have n0_ := aM (Kd.R_below (rU HO_10.out) hb)
         have n1_ := aM (Kd.R_below (rU HLq0.out) hb)
         have n2_ := aM (Kd.R_below (rU HLq1.out) hb)
         have n3_ := aM (Kd.R_below (rU HLq2.out) hb)
         have n4_ := aM (Kd.R_below (rU HLq3.out) hb)
         have n5_ := aM (kB (g := gb297) (o := .cells #[.int .i64 a0_0, .slice A0_1 l0_1.length c0_1] 24 (0, 0)) (bU BK297.out) hb)
         have n6_ := aM (kB_ (cU HRq1.out) hb)
         have n7_ := aM (kB_ (cU HRq0.out) hb)
         have n8_ := aM (kB_ (cU HRq2.out) hb)
         have n9_ := aM (kB_ (cU HRq3.out) hb)
         have n10_ := aM (below_step (by repeat (first | (with_reducible first | exact HB.out | apply bA | apply bN | apply bD | refine bS ?_ GE297.out) | exact HB.out)) hb)
         clear HO_10
         clear HLq0
         clear HLq1
         clear HLq2
         clear HLq3
         clear BK297
         clear HRq1
         clear HRq0
         clear HRq2
         clear HRq3
         clear HB
         have HO_10 := n0_
         have HLq0 := n1_
         have HLq1 := n2_
         have HLq2 := n3_
         have HLq3 := n4_
         have BK297 := n5_
         have HRq1 := n6_
         have HRq0 := n7_
         have HRq2 := n8_
         have HRq3 := n9_
         have HB := n10_
         clear n0_ n1_ n2_ n3_ n4_ n5_ n6_ n7_ n8_ n9_ n10_
         (try clear hb)
         (try clear hb2)
         (try clear hk)
         (try clear hi)
         refine hK.out _ _ ⟨(kC BK297.out 0).trans rfl, (kC BK297.out 1).trans rfl, HS2_, HS3_, HS4_, HS5_, HS6_, HS7_⟩ (fun hHeld => ?_)
         clear hK K
         refine norm_ (a' := ?_) ?_ ?_
         rotate_left
         ·
          show Act.put _ (some 43) _ = _
          simp only [Act.put, sI_, sZ_, sS_, i64_w, i32_w]
          rfl
         refine pure_ (i := 8) (N := some 15) (v := ?_) (a' := ?_) #[T_,T_,T_,T_,T_,T_,T_,T_,T_] rfl rfl (any_of HT_.out (by kernel_rfl)) (fun _ _ _ h => h) (Or.inl ⟨by rfl, ?_⟩) ?_ ?_
         rotate_left
         ·
          intro w'
          go_simp
          with_reducible rfl
         rotate_left
         ·
          simp only [Act.put, sI_, sZ_, sS_, i64_w, i32_w]
          rfl
         refine done_ (done_of HT_.out (by kernel_rfl)) ?_
         have p305 : 0 ≤ (x13_1 : Int) := dT_
         have q305 : x13_1 < (t298.length : Int) := dT_
         obtain ⟨ad305, A305_3, c305_3, A305_4, c305_4, e305, hx305_0, hx305_1, hx305_2, hx305_3, hx305_4, hx305_5, hl305_3, hi305_3, hl305_4, hi305_4⟩ := at_T50 (Kd.R_reads' HO_10.out).2.2 x13_1 p305 q305
         obtain rfl : ad301 = ad305 := (by injection e305)
         (try obtain ⟨rfl, rfl⟩ := uE hx305_3 hx301_3)
         (try obtain ⟨rfl, rfl⟩ := uE hx305_4 hx301_4)
         (try obtain ⟨rfl, rfl⟩ := uE hx305_3 hx303_3)
         (try obtain ⟨rfl, rfl⟩ := uE hx305_4 hx303_4)
         (try obtain ⟨rfl, rfl⟩ := uE hx305_3 hx301_3)
         (try obtain ⟨rfl, rfl⟩ := uE hx305_4 hx301_4)
         (try obtain ⟨rfl, rfl⟩ := uE hx305_3 hx303_3)
         (try obtain ⟨rfl, rfl⟩ := uE hx305_4 hx303_4)
         (try obtain ⟨rfl, rfl⟩ := uE hx305_3 hx301_3)
         (try obtain ⟨rfl, rfl⟩ := uE hx305_4 hx301_4)
         (try obtain ⟨rfl, rfl⟩ := uE hx305_3 hx303_3)
         (try obtain ⟨rfl, rfl⟩ := uE hx305_4 hx303_4)
         (try obtain ⟨rfl, rfl⟩ := uE hx305_3 hx301_3)
         (try obtain ⟨rfl, rfl⟩ := uE hx305_4 hx301_4)
         (try obtain ⟨rfl, rfl⟩ := uE hx305_3 hx303_3)
         (try obtain ⟨rfl, rfl⟩ := uE hx305_4 hx303_4)
         (try obtain ⟨rfl, rfl⟩ := uE hx305_3 hx301_3)
         (try obtain ⟨rfl, rfl⟩ := uE hx305_4 hx301_4)
         (try obtain ⟨rfl, rfl⟩ := uE hx305_3 hx303_3)
         (try obtain ⟨rfl, rfl⟩ := uE hx305_4 hx303_4)
         (try obtain ⟨rfl, rfl⟩ := uE hx305_3 hx301_3)
         (try obtain ⟨rfl, rfl⟩ := uE hx305_4 hx301_4)
         (try obtain ⟨rfl, rfl⟩ := uE hx305_3 hx303_3)
         (try obtain ⟨rfl, rfl⟩ := uE hx305_4 hx303_4)
         (try obtain ⟨rfl, rfl⟩ := uE hx305_3 hx301_3)
         (try obtain ⟨rfl, rfl⟩ := uE hx305_4 hx301_4)
         (try obtain ⟨rfl, rfl⟩ := uE hx305_3 hx303_3)
         (try obtain ⟨rfl, rfl⟩ := uE hx305_4 hx303_4)
         (try obtain ⟨rfl, rfl⟩ := uE hx305_3 hx301_3)
         (try obtain ⟨rfl, rfl⟩ := uE hx305_4 hx301_4)
         (try obtain ⟨rfl, rfl⟩ := uE hx305_3 hx303_3)
         (try obtain ⟨rfl, rfl⟩ := uE hx305_4 hx303_4)
         obtain ⟨ce305, hce305, hMe305, hcc305⟩ := Kd.R_get HO_10.out z50 x13_1 p305 (by first | exact q305 | exact dT_ | (have e_ := (Kd.R_reads' HO_10.out).1; omega))
         obtain ⟨ve305_3, ve305_4, rfl, ge305_3, ge305_4⟩ := k50_openM hMe305
         have hv305_3 := hcc305 3 _ rfl
         rw [add_field _ _ 3 (by omega)] at hv305_3
         replace hv305_3 := sO_ (hv305_3.symm.trans hx305_3)
         rw [hv305_3] at ge305_3
         have HLq4 := aM (show Kd.R k57 57 _ _ _ _ ((rd_T50 t298 x13_1).f3) from ge305_3)
         clear hv305_3 ge305_3
         have hv305_4 := hcc305 4 _ rfl
         rw [add_field _ _ 4 (by omega)] at hv305_4
         replace hv305_4 := sO_ (hv305_4.symm.trans hx305_4)
         rw [hv305_4] at ge305_4
         have HLq5 := aM (show Kd.R k59 59 _ _ _ _ ((rd_T50 t298 x13_1).f4) from ge305_4)
         clear hv305_4 ge305_4
         clear hcc305 hce305
         have HRq4 := aM hi305_3
         have HCq4 := aM hl305_3
         clear hi305_3 hl305_3
         have HRq5 := aM hi305_4
         have HCq5 := aM hl305_4
         clear hi305_4 hl305_4
         replace p305 := eq_true p305
         replace q305 := eq_true q305
         try go_wp2_with (first | ((with_reducible refine gate_callee (f := 19) rfl ?_); refine goesL_ (some 50) rfl rfl Try.func19 (by kernel_rfl) rfl #[.slice A303_3 ((rd_T50 t298 x13_1).f3).length c303_3, .slice A1 l1.length c1] rfl (by (try simp only [mT_, mC_, mN_]); first | done | rfl | (simp only [lD_, lT_]; rfl)) ?_; (with_reducible refine (banksmanref13_Hit.calls k1 _ _ ((rd_T50 t298 x13_1).f3) _ _ l1 t306 _ ?side1 ?side2 ?side3 ?side4 A13.out).mono ?_); (case side1 => repeat (first | exact (cU HRq2.out) | (with_reducible first | refine kA_ ?_ _ | refine kN_ ?_ _ | refine kD_ ?_))); (case side2 => exact HCq1.out); (case side3 => repeat (first | exact (kB_ HR1.out HB.out) | (with_reducible first | refine kA_ ?_ _ | refine kN_ ?_ _ | refine kD_ ?_))); (case side4 => exact HC1.out); rintro e w54 ⟨rfl, hb⟩; refine ⟨_, rfl, ?_⟩; replace HO_10 := aM (Kd.R_below (rU HO_10.out) hb); replace HLq0 := aM (Kd.R_below (rU HLq0.out) hb); replace HLq1 := aM (Kd.R_below (rU HLq1.out) hb); replace HLq2 := aM (Kd.R_below (rU HLq2.out) hb); replace HLq3 := aM (Kd.R_below (rU HLq3.out) hb); replace HLq4 := aM (Kd.R_below (rU HLq4.out) hb); replace HLq5 := aM (Kd.R_below (rU HLq5.out) hb); replace BK297 := aM (kB (g := gb297) (o := .cells #[.int .i64 a0_0, .slice A0_1 l0_1.length c0_1] 24 (0, 0)) (bU BK297.out) hb); replace HRq1 := aM (kB_ (cU HRq1.out) hb); replace HRq0 := aM (kB_ (cU HRq0.out) hb); replace HRq2 := aM (kB_ (cU HRq2.out) hb); replace HRq3 := aM (kB_ (cU HRq3.out) hb); replace HRq4 := aM (kB_ (cU HRq4.out) hb); replace HRq5 := aM (kB_ (cU HRq5.out) hb); replace HB := aM (below_step (by repeat (first | (with_reducible first | exact HB.out | apply bA | apply bN | apply bD | refine bS ?_ GE297.out) | exact HB.out)) hb); (try clear hb); (try clear hb2); (try clear hk); (try clear hi)))
         go_roundg k1
         case measure => have := HK1.out; omega
         case rel => exact ⟨(true), (t306), (wrap64 (x13_1 + 1)), (by first | rfl | (simp; done) | (simp [*]; done)), (by first | rfl | (simp; done) | (simp [*]; done)), (by first | rfl | (simp; done) | (simp [*]; done)), H', ⟨by have := HK1.out; omega⟩, ⟨by (with_reducible repeat (first | apply Kd.R_alloc | apply Kd.R_drewN | apply Kd.R_drew)); exact HO_10.out⟩, ⟨by (with_reducible repeat (first | refine blk_drewN ?_ _ | refine blk_drew ?_ | refine blk_alloc ?_ _)); exact BK297.out⟩, ⟨by repeat (first | (with_reducible first | exact HB.out | apply bA | apply bN | apply bD | refine bS ?_ GE297.out) | exact HB.out)⟩⟩
       ·
        replace c45 := Bool.eq_false_iff.mpr c45
        subst c45
        have H1 : (if x12_1 = true then (banksmanref14_Judge.l0 k1 l1 l3 t298 false true (wrap64 (x13_1 + 1)) a0_0 l0_1) else (banksmanref14_Judge.l0 k1 l1 l3 t298 false t306 (wrap64 (x13_1 + 1)) a0_0 l0_1)) = some (r1, r2) := by rw [if_neg (show ¬ (false = true) by decide)] at H; exact H
        clear H
        have H := H1
        clear H1
        by_cases c55 : x12_1 = true
        ·
         subst c55
         have H1 : (banksmanref14_Judge.l0 k1 l1 l3 t298 false true (wrap64 (x13_1 + 1)) a0_0 l0_1) = some (r1, r2) := by rw [if_pos rfl] at H; exact H
         clear H
         have H := H1
         clear H1
         have H' := aM H
         clear H
         obtain ⟨Ao56, co56, eo56⟩ := Kd.R_slice HO_10.out
         subst eo56
         have p301 : 0 ≤ (x13_1 : Int) := dT_
         have q301 : x13_1 < (t298.length : Int) := dT_
         obtain ⟨ad301, A301_3, c301_3, A301_4, c301_4, e301, hx301_0, hx301_1, hx301_2, hx301_3, hx301_4, hx301_5, hl301_3, hi301_3, hl301_4, hi301_4⟩ := at_T50 (Kd.R_reads' HO_10.out).2.2 x13_1 p301 q301
         cases e301
         obtain ⟨ce301, hce301, hMe301, hcc301⟩ := Kd.R_get HO_10.out z50 x13_1 p301 (by first | exact q301 | exact dT_ | (have e_ := (Kd.R_reads' HO_10.out).1; omega))
         obtain ⟨ve301_3, ve301_4, rfl, ge301_3, ge301_4⟩ := k50_openM hMe301
         have hv301_3 := hcc301 3 _ rfl
         rw [add_field _ _ 3 (by omega)] at hv301_3
         replace hv301_3 := sO_ (hv301_3.symm.trans hx301_3)
         rw [hv301_3] at ge301_3
         have HLq0 := aM (show Kd.R k57 57 _ _ _ _ ((rd_T50 t298 x13_1).f3) from ge301_3)
         clear hv301_3 ge301_3
         have hv301_4 := hcc301 4 _ rfl
         rw [add_field _ _ 4 (by omega)] at hv301_4
         replace hv301_4 := sO_ (hv301_4.symm.trans hx301_4)
         rw [hv301_4] at ge301_4
         have HLq1 := aM (show Kd.R k59 59 _ _ _ _ ((rd_T50 t298 x13_1).f4) from ge301_4)
         clear hv301_4 ge301_4
         clear hcc301 hce301
         have HRq1 := aM hi301_3
         have HCq3 := aM hl301_3
         clear hi301_3 hl301_3
         have HRq0 := aM hi301_4
         have HCq0 := aM hl301_4
         clear hi301_4 hl301_4
         replace p301 := eq_true p301
         replace q301 := eq_true q301
         try go_wp2_with (first | ((with_reducible refine gate_callee (f := 20) rfl ?_); refine goesL_ (some 35) rfl rfl Try.func20 (by kernel_rfl) rfl #[.slice A301_4 ((rd_T50 t298 x13_1).f4).length c301_4, .slice A1 l1.length c1] rfl (by (try simp only [mT_, mC_, mN_]); first | done | rfl | (simp only [lD_, lT_]; rfl)) ?_; (with_reducible refine (banksmanref13_Same.calls k1 _ _ ((rd_T50 t298 x13_1).f4) _ _ l1 false _ ?side1 ?side2 ?side3 ?side4 A11.out).mono ?_); (case side1 => repeat (first | exact (cU HRq0.out) | (with_reducible first | refine kA_ ?_ _ | refine kN_ ?_ _ | refine kD_ ?_))); (case side2 => exact HCq0.out); (case side3 => repeat (first | exact (kB_ HR1.out HB.out) | (with_reducible first | refine kA_ ?_ _ | refine kN_ ?_ _ | refine kD_ ?_))); (case side4 => exact HC1.out); rintro e w' ⟨rfl, ⟨nd, rfl⟩⟩; refine ⟨_, rfl, ?_⟩))
         (try (rw [drewN_self wr]; generalize hq_ : World.drewN wr _ = wr; have n0_ : Aside0 (Kd.R k57 57 wr w.heap.size (fun k_ => some k_ ≠ (.slice (some ad301) t298.length co56 : Value).ownBlock) (.slice A301_3 ((rd_T50 t298 x13_1).f3).length c301_3) ((rd_T50 t298 x13_1).f3)) := ⟨by rw [← hq_]; exact (by (with_reducible repeat (first | apply Kd.R_alloc | apply Kd.R_drewN | apply Kd.R_drew)); exact Kd.R_mono HLq0.out (fun _ hk => hk.2))⟩; have n1_ : Aside0 (Kd.R k59 59 wr w.heap.size (fun k_ => some k_ ≠ (.slice (some ad301) t298.length co56 : Value).ownBlock) (.slice A301_4 ((rd_T50 t298 x13_1).f4).length c301_4) ((rd_T50 t298 x13_1).f4)) := ⟨by rw [← hq_]; exact (by (with_reducible repeat (first | apply Kd.R_alloc | apply Kd.R_drewN | apply Kd.R_drew)); exact Kd.R_mono HLq1.out (fun _ hk => hk.2))⟩; have n2_ : Aside0 (Kd.R k50 50 wr w.heap.size (fun _ => True) (.slice (some ad301) t298.length co56) t298) := ⟨by rw [← hq_]; exact (rU HO_10.out)⟩; have n3_ : Aside0 (wr.heap[gb297]? = some (.cells #[.int .i64 a0_0, .slice A0_1 l0_1.length c0_1] 24 (0, 0))) := ⟨by rw [← hq_]; exact (bU BK297.out)⟩; have n4_ : Aside0 (Below w.heap.size w wr) := ⟨by rw [← hq_]; exact (by repeat (first | (with_reducible first | exact HB.out | apply bA | apply bN | apply bD | refine bS ?_ GE297.out) | exact HB.out))⟩; have n5_ : Aside0 (Kd.C k57 wr A301_3 ((rd_T50 t298 x13_1).f3).length ((rd_T50 t298 x13_1).f3)) := ⟨by rw [← hq_]; exact (cU HRq1.out)⟩; have n6_ : Aside0 (Kd.C k59 wr A301_4 ((rd_T50 t298 x13_1).f4).length ((rd_T50 t298 x13_1).f4)) := ⟨by rw [← hq_]; exact (cU HRq0.out)⟩; clear HLq0 HLq1 HO_10 BK297 HB HRq1 HRq0 hq_; have HLq0 := n0_; have HLq1 := n1_; have HO_10 := n2_; have BK297 := n3_; have HB := n4_; have HRq1 := n5_; have HRq0 := n6_; clear n0_ n1_ n2_ n3_ n4_ n5_ n6_))
         have n0_ := aM (Kd.R_drew HO_10.out)
         have n1_ := aM (Kd.R_drew HLq0.out)
         have n2_ := aM (Kd.R_drew HLq1.out)
         have n3_ := aM (blk_drew BK297.out)
         have n4_ := aM (kD_ HRq1.out)
         have n5_ := aM (kD_ HRq0.out)
         have n6_ := aM (bD HB.out)
         clear HO_10
         clear HLq0
         clear HLq1
         clear BK297
         clear HRq1
         clear HRq0
         clear HB
         have HO_10 := n0_
         have HLq0 := n1_
         have HLq1 := n2_
         have BK297 := n3_
         have HRq1 := n4_
         have HRq0 := n5_
         have HB := n6_
         clear n0_ n1_ n2_ n3_ n4_ n5_ n6_
         have p303 : 0 ≤ (x13_1 : Int) := dT_
         have q303 : x13_1 < (t298.length : Int) := dT_
         obtain ⟨ad303, A303_3, c303_3, A303_4, c303_4, e303, hx303_0, hx303_1, hx303_2, hx303_3, hx303_4, hx303_5, hl303_3, hi303_3, hl303_4, hi303_4⟩ := at_T50 (Kd.R_reads' HO_10.out).2.2 x13_1 p303 q303
         obtain rfl : ad301 = ad303 := (by injection e303)
         (try obtain ⟨rfl, rfl⟩ := uE hx303_3 hx301_3)
         (try obtain ⟨rfl, rfl⟩ := uE hx303_4 hx301_4)
         (try obtain ⟨rfl, rfl⟩ := uE hx303_3 hx301_3)
         (try obtain ⟨rfl, rfl⟩ := uE hx303_4 hx301_4)
         (try obtain ⟨rfl, rfl⟩ := uE hx303_3 hx301_3)
         (try obtain ⟨rfl, rfl⟩ := uE hx303_4 hx301_4)
         (try obtain ⟨rfl, rfl⟩ := uE hx303_3 hx301_3)
         (try obtain ⟨rfl, rfl⟩ := uE hx303_4 hx301_4)
         (try obtain ⟨rfl, rfl⟩ := uE hx303_3 hx301_3)
         (try obtain ⟨rfl, rfl⟩ := uE hx303_4 hx301_4)
         (try obtain ⟨rfl, rfl⟩ := uE hx303_3 hx301_3)
         (try obtain ⟨rfl, rfl⟩ := uE hx303_4 hx301_4)
         (try obtain ⟨rfl, rfl⟩ := uE hx303_3 hx301_3)
         (try obtain ⟨rfl, rfl⟩ := uE hx303_4 hx301_4)
         (try obtain ⟨rfl, rfl⟩ := uE hx303_3 hx301_3)
         (try obtain ⟨rfl, rfl⟩ := uE hx303_4 hx301_4)
         (try obtain ⟨rfl, rfl⟩ := uE hx303_3 hx301_3)
         (try obtain ⟨rfl, rfl⟩ := uE hx303_4 hx301_4)
         obtain ⟨ce303, hce303, hMe303, hcc303⟩ := Kd.R_get HO_10.out z50 x13_1 p303 (by first | exact q303 | exact dT_ | (have e_ := (Kd.R_reads' HO_10.out).1; omega))
         obtain ⟨ve303_3, ve303_4, rfl, ge303_3, ge303_4⟩ := k50_openM hMe303
         have hv303_3 := hcc303 3 _ rfl
         rw [add_field _ _ 3 (by omega)] at hv303_3
         replace hv303_3 := sO_ (hv303_3.symm.trans hx303_3)
         rw [hv303_3] at ge303_3
         have HLq2 := aM (show Kd.R k57 57 _ _ _ _ ((rd_T50 t298 x13_1).f3) from ge303_3)
         clear hv303_3 ge303_3
         have hv303_4 := hcc303 4 _ rfl
         rw [add_field _ _ 4 (by omega)] at hv303_4
         replace hv303_4 := sO_ (hv303_4.symm.trans hx303_4)
         rw [hv303_4] at ge303_4
         have HLq3 := aM (show Kd.R k59 59 _ _ _ _ ((rd_T50 t298 x13_1).f4) from ge303_4)
         clear hv303_4 ge303_4
         clear hcc303 hce303
         have HRq2 := aM hi303_3
         have HCq1 := aM hl303_3
         clear hi303_3 hl303_3
         have HRq3 := aM hi303_4
         have HCq2 := aM hl303_4
         clear hi303_4 hl303_4
         replace p303 := eq_true p303
         replace q303 := eq_true q303
         refine start_ (n := 9) (S := fun w' => w'.cell? ⟨gb297, 0, none⟩ = some (.int .i64 a0_0) ∧ w'.cell? ⟨gb297, 1, none⟩ = some (.slice A0_1 l0_1.length c0_1) ∧ w'.cell? (ad301.add ((x13_1).toNat * 6)) = some (.int .i64 ((rd_T50 t298 x13_1).f0)) ∧ w'.cell? ⟨(ad301.add ((x13_1).toNat * 6)).block, (ad301.add ((x13_1).toNat * 6)).off + 1, none⟩ = some (.int .i64 ((rd_T50 t298 x13_1).f1)) ∧ w'.cell? ⟨(ad301.add ((x13_1).toNat * 6)).block, (ad301.add ((x13_1).toNat * 6)).off + 2, none⟩ = some (.bool ((rd_T50 t298 x13_1).f2)) ∧ w'.cell? ⟨(ad301.add ((x13_1).toNat * 6)).block, (ad301.add ((x13_1).toNat * 6)).off + 3, none⟩ = some (.slice A303_3 ((rd_T50 t298 x13_1).f3).length c303_3) ∧ w'.cell? ⟨(ad301.add ((x13_1).toNat * 6)).block, (ad301.add ((x13_1).toNat * 6)).off + 4, none⟩ = some (.slice A303_4 ((rd_T50 t298 x13_1).f4).length c303_4) ∧ w'.cell? ⟨(ad301.add ((x13_1).toNat * 6)).block, (ad301.add ((x13_1).toNat * 6)).off + 5, none⟩ = some (.bool ((rd_T50 t298 x13_1).f5))) (ds := []) #[F_,F_,F_,F_,F_,F_,F_,F_,F_] (by kernel_rfl) rfl rfl ⟨(kC BK297.out 0).trans rfl, (kC BK297.out 1).trans rfl, hx303_0, hx303_1, hx303_2, hx303_3, hx303_4, hx303_5⟩ (fun hHeld => ?_); refine with_tabW banksmanref14_Judge.tab8 banksmanref14_Judge.bits8 (fun HT_ HW_ => ?_)
         generalize wr.drew = w57 at HO_10 HLq0 HLq1 BK297 HRq1 HRq0 HB HLq2 HLq3 HRq2 HRq3 hx303_0 hx303_1 hx303_2 hx303_3 hx303_4 hx303_5 hHeld ⊢
         refine pure_ (i := 0) (N := some 36) (v := ?_) (a' := ?_) #[T_,F_,F_,F_,F_,F_,F_,F_,F_] rfl rfl (any_of HT_.out (by kernel_rfl)) (fun _ _ _ h => h) (Or.inl ⟨by rfl, ?_⟩) ?_ ?_
         rotate_left
         ·
          intro w'
          go_simp
          with_reducible rfl
         rotate_left
         ·
          simp only [Act.put, sI_, sZ_, sS_, i64_w, i32_w]
          rfl
         refine pure_ (i := 2) (N := some 38) (v := ?_) (a' := ?_) #[T_,F_,T_,F_,F_,F_,F_,F_,F_] rfl rfl (any_of HT_.out (by kernel_rfl)) (fun _ _ _ h => h) (Or.inl ⟨by rfl, ?_⟩) ?_ ?_
         rotate_left
         ·
          intro w'
          go_simp
          with_reducible rfl
         rotate_left
         ·
          simp only [Act.put, sI_, sZ_, sS_, i64_w, i32_w]
          rfl
         refine pure_ (i := 3) (N := some 39) (v := ?_) (a' := ?_) #[T_,F_,T_,T_,F_,F_,F_,F_,F_] rfl rfl (any_of HT_.out (by kernel_rfl)) (fun _ _ _ h => h) (Or.inl ⟨by rfl, ?_⟩) ?_ ?_
         rotate_left
         ·
          intro w'
          go_simp
          with_reducible rfl
         rotate_left
         ·
          simp only [Act.put, sI_, sZ_, sS_, i64_w, i32_w]
          rfl
         refine pure_ (i := 4) (N := some 40) (v := ?_) (a' := ?_) #[T_,F_,T_,T_,T_,F_,F_,F_,F_] rfl rfl (any_of HT_.out (by kernel_rfl)) (fun _ _ _ h => h) (Or.inl ⟨by rfl, ?_⟩) ?_ ?_
         rotate_left
         ·
          intro w'
          go_simp
          with_reducible rfl
         rotate_left
         ·
          simp only [Act.put, sI_, sZ_, sS_, i64_w, i32_w]
          rfl
         refine pure_ (i := 5) (N := some 41) (v := ?_) (a' := ?_) #[T_,F_,T_,T_,T_,T_,F_,F_,F_] rfl rfl (any_of HT_.out (by kernel_rfl)) (fun _ _ _ h => h) (Or.inl ⟨by rfl, ?_⟩) ?_ ?_
         rotate_left
         ·
          intro w'
          go_simp
          with_reducible rfl
         rotate_left
         ·
          simp only [Act.put, sI_, sZ_, sS_, i64_w, i32_w]
          rfl
         refine take_ (i := 1) (N := some 37) (v := ?_) (a' := ?_) #[T_,T_,T_,T_,T_,T_,F_,F_,F_] rfl rfl (take_ofW HT_.out HW_.out (by kernel_rfl)) (fun _ _ _ h => h) (Or.inl ⟨by rfl, ?_⟩) hHeld ?_ ?_
         rotate_left
         ·
          rintro w' ⟨s0, s1, s2, s3, s4, s5, s6, s7⟩
          go_simp
          with_reducible rfl
         rotate_left
         ·
          simp only [Act.put, sI_, sZ_, sS_, i64_w, i32_w]
          rfl
         refine take_ (i := 6) (N := some 42) (v := ?_) (a' := ?_) #[T_,T_,T_,T_,T_,T_,T_,F_,F_] rfl rfl (take_ofW HT_.out HW_.out (by kernel_rfl)) (fun _ _ _ h => h) (Or.inl ⟨by rfl, ?_⟩) hHeld ?_ ?_
         rotate_left
         ·
          rintro w' ⟨s0, s1, s2, s3, s4, s5, s6, s7⟩
          go_simp
          with_reducible rfl
         rotate_left
         ·
          simp only [Act.put, sI_, sZ_, sS_, i64_w, i32_w]
          rfl
         refine one_ (i := 7) (N := some 43) #[T_,T_,T_,T_,T_,T_,T_,T_,F_] rfl rfl (one_of HT_.out (by kernel_rfl)) (by decide) (fun K hK => ?_)
         refine goes_ Try.func19 (by kernel_rfl) rfl #[.slice A0_1 l0_1.length c0_1, .slice A303_4 ((rd_T50 t298 x13_1).f4).length c303_4] (by rfl) rfl rfl (by (try simp only [mT_, mC_, mN_]); first | done | rfl | (simp only [lD_, lT_]; rfl)) ?_
         with_reducible refine (banksmanref13_Hit.calls k1 _ _ l0_1 _ _ ((rd_T50 t298 x13_1).f4) false _ ?side1 ?side2 ?side3 ?side4 A12.out).mono ?_
         (case side1 => repeat (first | exact (kB_ HR0_1.out HB.out) | (with_reducible first | refine kA_ ?_ _ | refine kN_ ?_ _ | refine kD_ ?_)))
         (case side2 => exact HC0_1.out)
         (case side3 => repeat (first | exact (cU HRq3.out) | (with_reducible first | refine kA_ ?_ _ | refine kN_ ?_ _ | refine kD_ ?_)))
         (case side4 => exact HCq2.out)
         rintro e w58 ⟨rfl, hb⟩
         have HS2_ := (hb.cell (bL_ _ _ (hHeld.2.2.1))).trans (hHeld.2.2.1)
         have HS3_ := (hb.cell (bL_ _ _ (hHeld.2.2.2.1))).trans (hHeld.2.2.2.1)
         have HS4_ := (hb.cell (bL_ _ _ (hHeld.2.2.2.2.1))).trans (hHeld.2.2.2.2.1)
         have HS5_ := (hb.cell (bL_ _ _ (hHeld.2.2.2.2.2.1))).trans (hHeld.2.2.2.2.2.1)
         have HS6_ := (hb.cell (bL_ _ _ (hHeld.2.2.2.2.2.2.1))).trans (hHeld.2.2.2.2.2.2.1)
         have HS7_ := (hb.cell (bL_ _ _ (hHeld.2.2.2.2.2.2.2))).trans (hHeld.2.2.2.2.2.2.2)
         refine ⟨_, rfl, ?_⟩
         have n0_ := aM (Kd.R_below (rU HO_10.out) hb)
         have n1_ := aM (Kd.R_below (rU HLq0.out) hb)
         have n2_ := aM (Kd.R_below (rU HLq1.out) hb)
         have n3_ := aM (Kd.R_below (rU HLq2.out) hb)
         have n4_ := aM (Kd.R_below (rU HLq3.out) hb)
         have n5_ := aM (kB (g := gb297) (o := .cells #[.int .i64 a0_0, .slice A0_1 l0_1.length c0_1] 24 (0, 0)) (bU BK297.out) hb)
         have n6_ := aM (kB_ (cU HRq1.out) hb)
         have n7_ := aM (kB_ (cU HRq0.out) hb)
         have n8_ := aM (kB_ (cU HRq2.out) hb)
         have n9_ := aM (kB_ (cU HRq3.out) hb)
         have n10_ := aM (below_step (by repeat (first | (with_reducible first | exact HB.out | apply bA | apply bN | apply bD | refine bS ?_ GE297.out) | exact HB.out)) hb)
         clear HO_10
         clear HLq0
         clear HLq1
         clear HLq2
         clear HLq3
         clear BK297
         clear HRq1
         clear HRq0
         clear HRq2
         clear HRq3
         clear HB
         have HO_10 := n0_
         have HLq0 := n1_
         have HLq1 := n2_
         have HLq2 := n3_
         have HLq3 := n4_
         have BK297 := n5_
         have HRq1 := n6_
         have HRq0 := n7_
         have HRq2 := n8_
         have HRq3 := n9_
         have HB := n10_
         clear n0_ n1_ n2_ n3_ n4_ n5_ n6_ n7_ n8_ n9_ n10_
         (try clear hb)
         (try clear hb2)
         (try clear hk)
         (try clear hi)
         refine hK.out _ _ ⟨(kC BK297.out 0).trans rfl, (kC BK297.out 1).trans rfl, HS2_, HS3_, HS4_, HS5_, HS6_, HS7_⟩ (fun hHeld => ?_)
         clear hK K
         refine norm_ (a' := ?_) ?_ ?_
         rotate_left
         ·
          show Act.put _ (some 43) _ = _
          simp only [Act.put, sI_, sZ_, sS_, i64_w, i32_w]
          rfl
         refine pure_ (i := 8) (N := some 15) (v := ?_) (a' := ?_) #[T_,T_,T_,T_,T_,T_,T_,T_,T_] rfl rfl (any_of HT_.out (by kernel_rfl)) (fun _ _ _ h => h) (Or.inl ⟨by rfl, ?_⟩) ?_ ?_
         rotate_left
         ·
          intro w'
          go_simp
          with_reducible rfl
         rotate_left
         ·
          simp only [Act.put, sI_, sZ_, sS_, i64_w, i32_w]
          rfl
         refine done_ (done_of HT_.out (by kernel_rfl)) ?_
         have p305 : 0 ≤ (x13_1 : Int) := dT_
         have q305 : x13_1 < (t298.length : Int) := dT_
         obtain ⟨ad305, A305_3, c305_3, A305_4, c305_4, e305, hx305_0, hx305_1, hx305_2, hx305_3, hx305_4, hx305_5, hl305_3, hi305_3, hl305_4, hi305_4⟩ := at_T50 (Kd.R_reads' HO_10.out).2.2 x13_1 p305 q305
         obtain rfl : ad301 = ad305 := (by injection e305)
         (try obtain ⟨rfl, rfl⟩ := uE hx305_3 hx301_3)
         (try obtain ⟨rfl, rfl⟩ := uE hx305_4 hx301_4)
         (try obtain ⟨rfl, rfl⟩ := uE hx305_3 hx303_3)
         (try obtain ⟨rfl, rfl⟩ := uE hx305_4 hx303_4)
         (try obtain ⟨rfl, rfl⟩ := uE hx305_3 hx301_3)
         (try obtain ⟨rfl, rfl⟩ := uE hx305_4 hx301_4)
         (try obtain ⟨rfl, rfl⟩ := uE hx305_3 hx303_3)
         (try obtain ⟨rfl, rfl⟩ := uE hx305_4 hx303_4)
         (try obtain ⟨rfl, rfl⟩ := uE hx305_3 hx301_3)
         (try obtain ⟨rfl, rfl⟩ := uE hx305_4 hx301_4)
         (try obtain ⟨rfl, rfl⟩ := uE hx305_3 hx303_3)
         (try obtain ⟨rfl, rfl⟩ := uE hx305_4 hx303_4)
         (try obtain ⟨rfl, rfl⟩ := uE hx305_3 hx301_3)
         (try obtain ⟨rfl, rfl⟩ := uE hx305_4 hx301_4)
         (try obtain ⟨rfl, rfl⟩ := uE hx305_3 hx303_3)
         (try obtain ⟨rfl, rfl⟩ := uE hx305_4 hx303_4)
         (try obtain ⟨rfl, rfl⟩ := uE hx305_3 hx301_3)
         (try obtain ⟨rfl, rfl⟩ := uE hx305_4 hx301_4)
         (try obtain ⟨rfl, rfl⟩ := uE hx305_3 hx303_3)
         (try obtain ⟨rfl, rfl⟩ := uE hx305_4 hx303_4)
         (try obtain ⟨rfl, rfl⟩ := uE hx305_3 hx301_3)
         (try obtain ⟨rfl, rfl⟩ := uE hx305_4 hx301_4)
         (try obtain ⟨rfl, rfl⟩ := uE hx305_3 hx303_3)
         (try obtain ⟨rfl, rfl⟩ := uE hx305_4 hx303_4)
         (try obtain ⟨rfl, rfl⟩ := uE hx305_3 hx301_3)
         (try obtain ⟨rfl, rfl⟩ := uE hx305_4 hx301_4)
         (try obtain ⟨rfl, rfl⟩ := uE hx305_3 hx303_3)
         (try obtain ⟨rfl, rfl⟩ := uE hx305_4 hx303_4)
         (try obtain ⟨rfl, rfl⟩ := uE hx305_3 hx301_3)
         (try obtain ⟨rfl, rfl⟩ := uE hx305_4 hx301_4)
         (try obtain ⟨rfl, rfl⟩ := uE hx305_3 hx303_3)
         (try obtain ⟨rfl, rfl⟩ := uE hx305_4 hx303_4)
         (try obtain ⟨rfl, rfl⟩ := uE hx305_3 hx301_3)
         (try obtain ⟨rfl, rfl⟩ := uE hx305_4 hx301_4)
         (try obtain ⟨rfl, rfl⟩ := uE hx305_3 hx303_3)
         (try obtain ⟨rfl, rfl⟩ := uE hx305_4 hx303_4)
         obtain ⟨ce305, hce305, hMe305, hcc305⟩ := Kd.R_get HO_10.out z50 x13_1 p305 (by first | exact q305 | exact dT_ | (have e_ := (Kd.R_reads' HO_10.out).1; omega))
         obtain ⟨ve305_3, ve305_4, rfl, ge305_3, ge305_4⟩ := k50_openM hMe305
         have hv305_3 := hcc305 3 _ rfl
         rw [add_field _ _ 3 (by omega)] at hv305_3
         replace hv305_3 := sO_ (hv305_3.symm.trans hx305_3)
         rw [hv305_3] at ge305_3
         have HLq4 := aM (show Kd.R k57 57 _ _ _ _ ((rd_T50 t298 x13_1).f3) from ge305_3)
         clear hv305_3 ge305_3
         have hv305_4 := hcc305 4 _ rfl
         rw [add_field _ _ 4 (by omega)] at hv305_4
         replace hv305_4 := sO_ (hv305_4.symm.trans hx305_4)
         rw [hv305_4] at ge305_4
         have HLq5 := aM (show Kd.R k59 59 _ _ _ _ ((rd_T50 t298 x13_1).f4) from ge305_4)
         clear hv305_4 ge305_4
         clear hcc305 hce305
         have HRq4 := aM hi305_3
         have HCq4 := aM hl305_3
         clear hi305_3 hl305_3
         have HRq5 := aM hi305_4
         have HCq5 := aM hl305_4
         clear hi305_4 hl305_4
         replace p305 := eq_true p305
         replace q305 := eq_true q305
         try go_wp2_with (first | ((with_reducible refine gate_callee (f := 19) rfl ?_); refine goesL_ (some 50) rfl rfl Try.func19 (by kernel_rfl) rfl #[.slice A303_3 ((rd_T50 t298 x13_1).f3).length c303_3, .slice A1 l1.length c1] rfl (by (try simp only [mT_, mC_, mN_]); first | done | rfl | (simp only [lD_, lT_]; rfl)) ?_; (with_reducible refine (banksmanref13_Hit.calls k1 _ _ ((rd_T50 t298 x13_1).f3) _ _ l1 t306 _ ?side1 ?side2 ?side3 ?side4 A13.out).mono ?_); (case side1 => repeat (first | exact (cU HRq2.out) | (with_reducible first | refine kA_ ?_ _ | refine kN_ ?_ _ | refine kD_ ?_))); (case side2 => exact HCq1.out); (case side3 => repeat (first | exact (kB_ HR1.out HB.out) | (with_reducible first | refine kA_ ?_ _ | refine kN_ ?_ _ | refine kD_ ?_))); (case side4 => exact HC1.out); rintro e w59 ⟨rfl, hb⟩; refine ⟨_, rfl, ?_⟩; replace HO_10 := aM (Kd.R_below (rU HO_10.out) hb); replace HLq0 := aM (Kd.R_below (rU HLq0.out) hb); replace HLq1 := aM (Kd.R_below (rU HLq1.out) hb); replace HLq2 := aM (Kd.R_below (rU HLq2.out) hb); replace HLq3 := aM (Kd.R_below (rU HLq3.out) hb); replace HLq4 := aM (Kd.R_below (rU HLq4.out) hb); replace HLq5 := aM (Kd.R_below (rU HLq5.out) hb); replace BK297 := aM (kB (g := gb297) (o := .cells #[.int .i64 a0_0, .slice A0_1 l0_1.length c0_1] 24 (0, 0)) (bU BK297.out) hb); replace HRq1 := aM (kB_ (cU HRq1.out) hb); replace HRq0 := aM (kB_ (cU HRq0.out) hb); replace HRq2 := aM (kB_ (cU HRq2.out) hb); replace HRq3 := aM (kB_ (cU HRq3.out) hb); replace HRq4 := aM (kB_ (cU HRq4.out) hb); replace HRq5 := aM (kB_ (cU HRq5.out) hb); replace HB := aM (below_step (by repeat (first | (with_reducible first | exact HB.out | apply bA | apply bN | apply bD | refine bS ?_ GE297.out) | exact HB.out)) hb); (try clear hb); (try clear hb2); (try clear hk); (try clear hi)))
         go_roundg k1
         case measure => have := HK1.out; omega
         case rel => exact ⟨(false), (true), (wrap64 (x13_1 + 1)), (by first | rfl | (simp; done) | (simp [*]; done)), (by first | rfl | (simp; done) | (simp [*]; done)), (by first | rfl | (simp; done) | (simp [*]; done)), H', ⟨by have := HK1.out; omega⟩, ⟨by (with_reducible repeat (first | apply Kd.R_alloc | apply Kd.R_drewN | apply Kd.R_drew)); exact HO_10.out⟩, ⟨by (with_reducible repeat (first | refine blk_drewN ?_ _ | refine blk_drew ?_ | refine blk_alloc ?_ _)); exact BK297.out⟩, ⟨by repeat (first | (with_reducible first | exact HB.out | apply bA | apply bN | apply bD | refine bS ?_ GE297.out) | exact HB.out)⟩⟩
        ·
         replace c55 := Bool.eq_false_iff.mpr c55
         subst c55
         have H1 : (banksmanref14_Judge.l0 k1 l1 l3 t298 false t306 (wrap64 (x13_1 + 1)) a0_0 l0_1) = some (r1, r2) := by rw [if_neg (show ¬ (false = true) by decide)] at H; exact H
         clear H
         have H := H1
         clear H1
         have H' := aM H
         clear H
         obtain ⟨Ao60, co60, eo60⟩ := Kd.R_slice HO_10.out
         subst eo60
         have p301 : 0 ≤ (x13_1 : Int) := dT_
         have q301 : x13_1 < (t298.length : Int) := dT_
         obtain ⟨ad301, A301_3, c301_3, A301_4, c301_4, e301, hx301_0, hx301_1, hx301_2, hx301_3, hx301_4, hx301_5, hl301_3, hi301_3, hl301_4, hi301_4⟩ := at_T50 (Kd.R_reads' HO_10.out).2.2 x13_1 p301 q301
         cases e301
         obtain ⟨ce301, hce301, hMe301, hcc301⟩ := Kd.R_get HO_10.out z50 x13_1 p301 (by first | exact q301 | exact dT_ | (have e_ := (Kd.R_reads' HO_10.out).1; omega))
         obtain ⟨ve301_3, ve301_4, rfl, ge301_3, ge301_4⟩ := k50_openM hMe301
         have hv301_3 := hcc301 3 _ rfl
         rw [add_field _ _ 3 (by omega)] at hv301_3
         replace hv301_3 := sO_ (hv301_3.symm.trans hx301_3)
         rw [hv301_3] at ge301_3
         have HLq0 := aM (show Kd.R k57 57 _ _ _ _ ((rd_T50 t298 x13_1).f3) from ge301_3)
         clear hv301_3 ge301_3
         have hv301_4 := hcc301 4 _ rfl
         rw [add_field _ _ 4 (by omega)] at hv301_4
         replace hv301_4 := sO_ (hv301_4.symm.trans hx301_4)
         rw [hv301_4] at ge301_4
         have HLq1 := aM (show Kd.R k59 59 _ _ _ _ ((rd_T50 t298 x13_1).f4) from ge301_4)
         clear hv301_4 ge301_4
         clear hcc301 hce301
         have HRq1 := aM hi301_3
         have HCq3 := aM hl301_3
         clear hi301_3 hl301_3
         have HRq0 := aM hi301_4
         have HCq0 := aM hl301_4
         clear hi301_4 hl301_4
         replace p301 := eq_true p301
         replace q301 := eq_true q301
         try go_wp2_with (first | ((with_reducible refine gate_callee (f := 20) rfl ?_); refine goesL_ (some 35) rfl rfl Try.func20 (by kernel_rfl) rfl #[.slice A301_4 ((rd_T50 t298 x13_1).f4).length c301_4, .slice A1 l1.length c1] rfl (by (try simp only [mT_, mC_, mN_]); first | done | rfl | (simp only [lD_, lT_]; rfl)) ?_; (with_reducible refine (banksmanref13_Same.calls k1 _ _ ((rd_T50 t298 x13_1).f4) _ _ l1 false _ ?side1 ?side2 ?side3 ?side4 A11.out).mono ?_); (case side1 => repeat (first | exact (cU HRq0.out) | (with_reducible first | refine kA_ ?_ _ | refine kN_ ?_ _ | refine kD_ ?_))); (case side2 => exact HCq0.out); (case side3 => repeat (first | exact (kB_ HR1.out HB.out) | (with_reducible first | refine kA_ ?_ _ | refine kN_ ?_ _ | refine kD_ ?_))); (case side4 => exact HC1.out); rintro e w' ⟨rfl, ⟨nd, rfl⟩⟩; refine ⟨_, rfl, ?_⟩))
         (try (rw [drewN_self wr]; generalize hq_ : World.drewN wr _ = wr; have n0_ : Aside0 (Kd.R k57 57 wr w.heap.size (fun k_ => some k_ ≠ (.slice (some ad301) t298.length co60 : Value).ownBlock) (.slice A301_3 ((rd_T50 t298 x13_1).f3).length c301_3) ((rd_T50 t298 x13_1).f3)) := ⟨by rw [← hq_]; exact (by (with_reducible repeat (first | apply Kd.R_alloc | apply Kd.R_drewN | apply Kd.R_drew)); exact Kd.R_mono HLq0.out (fun _ hk => hk.2))⟩; have n1_ : Aside0 (Kd.R k59 59 wr w.heap.size (fun k_ => some k_ ≠ (.slice (some ad301) t298.length co60 : Value).ownBlock) (.slice A301_4 ((rd_T50 t298 x13_1).f4).length c301_4) ((rd_T50 t298 x13_1).f4)) := ⟨by rw [← hq_]; exact (by (with_reducible repeat (first | apply Kd.R_alloc | apply Kd.R_drewN | apply Kd.R_drew)); exact Kd.R_mono HLq1.out (fun _ hk => hk.2))⟩; have n2_ : Aside0 (Kd.R k50 50 wr w.heap.size (fun _ => True) (.slice (some ad301) t298.length co60) t298) := ⟨by rw [← hq_]; exact (rU HO_10.out)⟩; have n3_ : Aside0 (wr.heap[gb297]? = some (.cells #[.int .i64 a0_0, .slice A0_1 l0_1.length c0_1] 24 (0, 0))) := ⟨by rw [← hq_]; exact (bU BK297.out)⟩; have n4_ : Aside0 (Below w.heap.size w wr) := ⟨by rw [← hq_]; exact (by repeat (first | (with_reducible first | exact HB.out | apply bA | apply bN | apply bD | refine bS ?_ GE297.out) | exact HB.out))⟩; have n5_ : Aside0 (Kd.C k57 wr A301_3 ((rd_T50 t298 x13_1).f3).length ((rd_T50 t298 x13_1).f3)) := ⟨by rw [← hq_]; exact (cU HRq1.out)⟩; have n6_ : Aside0 (Kd.C k59 wr A301_4 ((rd_T50 t298 x13_1).f4).length ((rd_T50 t298 x13_1).f4)) := ⟨by rw [← hq_]; exact (cU HRq0.out)⟩; clear HLq0 HLq1 HO_10 BK297 HB HRq1 HRq0 hq_; have HLq0 := n0_; have HLq1 := n1_; have HO_10 := n2_; have BK297 := n3_; have HB := n4_; have HRq1 := n5_; have HRq0 := n6_; clear n0_ n1_ n2_ n3_ n4_ n5_ n6_))
         have n0_ := aM (Kd.R_drew HO_10.out)
         have n1_ := aM (Kd.R_drew HLq0.out)
         have n2_ := aM (Kd.R_drew HLq1.out)
         have n3_ := aM (blk_drew BK297.out)
         have n4_ := aM (kD_ HRq1.out)
         have n5_ := aM (kD_ HRq0.out)
         have n6_ := aM (bD HB.out)
         clear HO_10
         clear HLq0
         clear HLq1
         clear BK297
         clear HRq1
         clear HRq0
         clear HB
         have HO_10 := n0_
         have HLq0 := n1_
         have HLq1 := n2_
         have BK297 := n3_
         have HRq1 := n4_
         have HRq0 := n5_
         have HB := n6_
         clear n0_ n1_ n2_ n3_ n4_ n5_ n6_
         have p303 : 0 ≤ (x13_1 : Int) := dT_
         have q303 : x13_1 < (t298.length : Int) := dT_
         obtain ⟨ad303, A303_3, c303_3, A303_4, c303_4, e303, hx303_0, hx303_1, hx303_2, hx303_3, hx303_4, hx303_5, hl303_3, hi303_3, hl303_4, hi303_4⟩ := at_T50 (Kd.R_reads' HO_10.out).2.2 x13_1 p303 q303
         obtain rfl : ad301 = ad303 := (by injection e303)
         (try obtain ⟨rfl, rfl⟩ := uE hx303_3 hx301_3)
         (try obtain ⟨rfl, rfl⟩ := uE hx303_4 hx301_4)
         (try obtain ⟨rfl, rfl⟩ := uE hx303_3 hx301_3)
         (try obtain ⟨rfl, rfl⟩ := uE hx303_4 hx301_4)
         (try obtain ⟨rfl, rfl⟩ := uE hx303_3 hx301_3)
         (try obtain ⟨rfl, rfl⟩ := uE hx303_4 hx301_4)
         (try obtain ⟨rfl, rfl⟩ := uE hx303_3 hx301_3)
         (try obtain ⟨rfl, rfl⟩ := uE hx303_4 hx301_4)
         (try obtain ⟨rfl, rfl⟩ := uE hx303_3 hx301_3)
         (try obtain ⟨rfl, rfl⟩ := uE hx303_4 hx301_4)
         (try obtain ⟨rfl, rfl⟩ := uE hx303_3 hx301_3)
         (try obtain ⟨rfl, rfl⟩ := uE hx303_4 hx301_4)
         (try obtain ⟨rfl, rfl⟩ := uE hx303_3 hx301_3)
         (try obtain ⟨rfl, rfl⟩ := uE hx303_4 hx301_4)
         (try obtain ⟨rfl, rfl⟩ := uE hx303_3 hx301_3)
         (try obtain ⟨rfl, rfl⟩ := uE hx303_4 hx301_4)
         (try obtain ⟨rfl, rfl⟩ := uE hx303_3 hx301_3)
         (try obtain ⟨rfl, rfl⟩ := uE hx303_4 hx301_4)
         (try obtain ⟨rfl, rfl⟩ := uE hx303_3 hx301_3)
         (try obtain ⟨rfl, rfl⟩ := uE hx303_4 hx301_4)
         obtain ⟨ce303, hce303, hMe303, hcc303⟩ := Kd.R_get HO_10.out z50 x13_1 p303 (by first | exact q303 | exact dT_ | (have e_ := (Kd.R_reads' HO_10.out).1; omega))
         obtain ⟨ve303_3, ve303_4, rfl, ge303_3, ge303_4⟩ := k50_openM hMe303
         have hv303_3 := hcc303 3 _ rfl
         rw [add_field _ _ 3 (by omega)] at hv303_3
         replace hv303_3 := sO_ (hv303_3.symm.trans hx303_3)
         rw [hv303_3] at ge303_3
         have HLq2 := aM (show Kd.R k57 57 _ _ _ _ ((rd_T50 t298 x13_1).f3) from ge303_3)
         clear hv303_3 ge303_3
         have hv303_4 := hcc303 4 _ rfl
         rw [add_field _ _ 4 (by omega)] at hv303_4
         replace hv303_4 := sO_ (hv303_4.symm.trans hx303_4)
         rw [hv303_4] at ge303_4
         have HLq3 := aM (show Kd.R k59 59 _ _ _ _ ((rd_T50 t298 x13_1).f4) from ge303_4)
         clear hv303_4 ge303_4
         clear hcc303 hce303
         have HRq2 := aM hi303_3
         have HCq1 := aM hl303_3
         clear hi303_3 hl303_3
         have HRq3 := aM hi303_4
         have HCq2 := aM hl303_4
         clear hi303_4 hl303_4
         replace p303 := eq_true p303
         replace q303 := eq_true q303
         refine start_ (n := 9) (S := fun w' => w'.cell? ⟨gb297, 0, none⟩ = some (.int .i64 a0_0) ∧ w'.cell? ⟨gb297, 1, none⟩ = some (.slice A0_1 l0_1.length c0_1) ∧ w'.cell? (ad301.add ((x13_1).toNat * 6)) = some (.int .i64 ((rd_T50 t298 x13_1).f0)) ∧ w'.cell? ⟨(ad301.add ((x13_1).toNat * 6)).block, (ad301.add ((x13_1).toNat * 6)).off + 1, none⟩ = some (.int .i64 ((rd_T50 t298 x13_1).f1)) ∧ w'.cell? ⟨(ad301.add ((x13_1).toNat * 6)).block, (ad301.add ((x13_1).toNat * 6)).off + 2, none⟩ = some (.bool ((rd_T50 t298 x13_1).f2)) ∧ w'.cell? ⟨(ad301.add ((x13_1).toNat * 6)).block, (ad301.add ((x13_1).toNat * 6)).off + 3, none⟩ = some (.slice A303_3 ((rd_T50 t298 x13_1).f3).length c303_3) ∧ w'.cell? ⟨(ad301.add ((x13_1).toNat * 6)).block, (ad301.add ((x13_1).toNat * 6)).off + 4, none⟩ = some (.slice A303_4 ((rd_T50 t298 x13_1).f4).length c303_4) ∧ w'.cell? ⟨(ad301.add ((x13_1).toNat * 6)).block, (ad301.add ((x13_1).toNat * 6)).off + 5, none⟩ = some (.bool ((rd_T50 t298 x13_1).f5))) (ds := []) #[F_,F_,F_,F_,F_,F_,F_,F_,F_] (by kernel_rfl) rfl rfl ⟨(kC BK297.out 0).trans rfl, (kC BK297.out 1).trans rfl, hx303_0, hx303_1, hx303_2, hx303_3, hx303_4, hx303_5⟩ (fun hHeld => ?_); refine with_tabW banksmanref14_Judge.tab8 banksmanref14_Judge.bits8 (fun HT_ HW_ => ?_)
         generalize wr.drew = w61 at HO_10 HLq0 HLq1 BK297 HRq1 HRq0 HB HLq2 HLq3 HRq2 HRq3 hx303_0 hx303_1 hx303_2 hx303_3 hx303_4 hx303_5 hHeld ⊢
         refine pure_ (i := 0) (N := some 36) (v := ?_) (a' := ?_) #[T_,F_,F_,F_,F_,F_,F_,F_,F_] rfl rfl (any_of HT_.out (by kernel_rfl)) (fun _ _ _ h => h) (Or.inl ⟨by rfl, ?_⟩) ?_ ?_
         rotate_left
         ·
          intro w'
          go_simp
          with_reducible rfl
         rotate_left
         ·
          simp only [Act.put, sI_, sZ_, sS_, i64_w, i32_w]
          rfl
         refine pure_ (i := 2) (N := some 38) (v := ?_) (a' := ?_) #[T_,F_,T_,F_,F_,F_,F_,F_,F_] rfl rfl (any_of HT_.out (by kernel_rfl)) (fun _ _ _ h => h) (Or.inl ⟨by rfl, ?_⟩) ?_ ?_
         rotate_left
         ·
          intro w'
          go_simp
          with_reducible rfl
         rotate_left
         ·
          simp only [Act.put, sI_, sZ_, sS_, i64_w, i32_w]
          rfl
         refine pure_ (i := 3) (N := some 39) (v := ?_) (a' := ?_) #[T_,F_,T_,T_,F_,F_,F_,F_,F_] rfl rfl (any_of HT_.out (by kernel_rfl)) (fun _ _ _ h => h) (Or.inl ⟨by rfl, ?_⟩) ?_ ?_
         rotate_left
         ·
          intro w'
          go_simp
          with_reducible rfl
         rotate_left
         ·
          simp only [Act.put, sI_, sZ_, sS_, i64_w, i32_w]
          rfl
         refine pure_ (i := 4) (N := some 40) (v := ?_) (a' := ?_) #[T_,F_,T_,T_,T_,F_,F_,F_,F_] rfl rfl (any_of HT_.out (by kernel_rfl)) (fun _ _ _ h => h) (Or.inl ⟨by rfl, ?_⟩) ?_ ?_
         rotate_left
         ·
          intro w'
          go_simp
          with_reducible rfl
         rotate_left
         ·
          simp only [Act.put, sI_, sZ_, sS_, i64_w, i32_w]
          rfl
         refine pure_ (i := 5) (N := some 41) (v := ?_) (a' := ?_) #[T_,F_,T_,T_,T_,T_,F_,F_,F_] rfl rfl (any_of HT_.out (by kernel_rfl)) (fun _ _ _ h => h) (Or.inl ⟨by rfl, ?_⟩) ?_ ?_
         rotate_left
         ·
          intro w'
          go_simp
          with_reducible rfl
         rotate_left
         ·
          simp only [Act.put, sI_, sZ_, sS_, i64_w, i32_w]
          rfl
         refine take_ (i := 1) (N := some 37) (v := ?_) (a' := ?_) #[T_,T_,T_,T_,T_,T_,F_,F_,F_] rfl rfl (take_ofW HT_.out HW_.out (by kernel_rfl)) (fun _ _ _ h => h) (Or.inl ⟨by rfl, ?_⟩) hHeld ?_ ?_
         rotate_left
         ·
          rintro w' ⟨s0, s1, s2, s3, s4, s5, s6, s7⟩
          go_simp
          with_reducible rfl
         rotate_left
         ·
          simp only [Act.put, sI_, sZ_, sS_, i64_w, i32_w]
          rfl
         refine take_ (i := 6) (N := some 42) (v := ?_) (a' := ?_) #[T_,T_,T_,T_,T_,T_,T_,F_,F_] rfl rfl (take_ofW HT_.out HW_.out (by kernel_rfl)) (fun _ _ _ h => h) (Or.inl ⟨by rfl, ?_⟩) hHeld ?_ ?_
         rotate_left
         ·
          rintro w' ⟨s0, s1, s2, s3, s4, s5, s6, s7⟩
          go_simp
          with_reducible rfl
         rotate_left
         ·
          simp only [Act.put, sI_, sZ_, sS_, i64_w, i32_w]
          rfl
         refine one_ (i := 7) (N := some 43) #[T_,T_,T_,T_,T_,T_,T_,T_,F_] rfl rfl (one_of HT_.out (by kernel_rfl)) (by decide) (fun K hK => ?_)
         refine goes_ Try.func19 (by kernel_rfl) rfl #[.slice A0_1 l0_1.length c0_1, .slice A303_4 ((rd_T50 t298 x13_1).f4).length c303_4] (by rfl) rfl rfl (by (try simp only [mT_, mC_, mN_]); first | done | rfl | (simp only [lD_, lT_]; rfl)) ?_
         with_reducible refine (banksmanref13_Hit.calls k1 _ _ l0_1 _ _ ((rd_T50 t298 x13_1).f4) false _ ?side1 ?side2 ?side3 ?side4 A12.out).mono ?_
         (case side1 => repeat (first | exact (kB_ HR0_1.out HB.out) | (with_reducible first | refine kA_ ?_ _ | refine kN_ ?_ _ | refine kD_ ?_)))
         (case side2 => exact HC0_1.out)
         (case side3 => repeat (first | exact (cU HRq3.out) | (with_reducible first | refine kA_ ?_ _ | refine kN_ ?_ _ | refine kD_ ?_)))
         (case side4 => exact HCq2.out)
         rintro e w62 ⟨rfl, hb⟩
         have HS2_ := (hb.cell (bL_ _ _ (hHeld.2.2.1))).trans (hHeld.2.2.1)
         have HS3_ := (hb.cell (bL_ _ _ (hHeld.2.2.2.1))).trans (hHeld.2.2.2.1)
         have HS4_ := (hb.cell (bL_ _ _ (hHeld.2.2.2.2.1))).trans (hHeld.2.2.2.2.1)
         have HS5_ := (hb.cell (bL_ _ _ (hHeld.2.2.2.2.2.1))).trans (hHeld.2.2.2.2.2.1)
         have HS6_ := (hb.cell (bL_ _ _ (hHeld.2.2.2.2.2.2.1))).trans (hHeld.2.2.2.2.2.2.1)
         have HS7_ := (hb.cell (bL_ _ _ (hHeld.2.2.2.2.2.2.2))).trans (hHeld.2.2.2.2.2.2.2)
         refine ⟨_, rfl, ?_⟩
         have n0_ := aM (Kd.R_below (rU HO_10.out) hb)
         have n1_ := aM (Kd.R_below (rU HLq0.out) hb)
         have n2_ := aM (Kd.R_below (rU HLq1.out) hb)
         have n3_ := aM (Kd.R_below (rU HLq2.out) hb)
         have n4_ := aM (Kd.R_below (rU HLq3.out) hb)
         have n5_ := aM (kB (g := gb297) (o := .cells #[.int .i64 a0_0, .slice A0_1 l0_1.length c0_1] 24 (0, 0)) (bU BK297.out) hb)
         have n6_ := aM (kB_ (cU HRq1.out) hb)
         have n7_ := aM (kB_ (cU HRq0.out) hb)
         have n8_ := aM (kB_ (cU HRq2.out) hb)
         have n9_ := aM (kB_ (cU HRq3.out) hb)
         have n10_ := aM (below_step (by repeat (first | (with_reducible first | exact HB.out | apply bA | apply bN | apply bD | refine bS ?_ GE297.out) | exact HB.out)) hb)
         clear HO_10
         clear HLq0
         clear HLq1
         clear HLq2
         clear HLq3
         clear BK297
         clear HRq1
         clear HRq0
         clear HRq2
         clear HRq3
         clear HB
         have HO_10 := n0_
         have HLq0 := n1_
         have HLq1 := n2_
         have HLq2 := n3_
         have HLq3 := n4_
         have BK297 := n5_
         have HRq1 := n6_
         have HRq0 := n7_
         have HRq2 := n8_
         have HRq3 := n9_
         have HB := n10_
         clear n0_ n1_ n2_ n3_ n4_ n5_ n6_ n7_ n8_ n9_ n10_
         (try clear hb)
         (try clear hb2)
         (try clear hk)
         (try clear hi)
         refine hK.out _ _ ⟨(kC BK297.out 0).trans rfl, (kC BK297.out 1).trans rfl, HS2_, HS3_, HS4_, HS5_, HS6_, HS7_⟩ (fun hHeld => ?_)
         clear hK K
         refine norm_ (a' := ?_) ?_ ?_
         rotate_left
         ·
          show Act.put _ (some 43) _ = _
          simp only [Act.put, sI_, sZ_, sS_, i64_w, i32_w]
          rfl
         refine pure_ (i := 8) (N := some 15) (v := ?_) (a' := ?_) #[T_,T_,T_,T_,T_,T_,T_,T_,T_] rfl rfl (any_of HT_.out (by kernel_rfl)) (fun _ _ _ h => h) (Or.inl ⟨by rfl, ?_⟩) ?_ ?_
         rotate_left
         ·
          intro w'
          go_simp
          with_reducible rfl
         rotate_left
         ·
          simp only [Act.put, sI_, sZ_, sS_, i64_w, i32_w]
          rfl
         refine done_ (done_of HT_.out (by kernel_rfl)) ?_
         have p305 : 0 ≤ (x13_1 : Int) := dT_
         have q305 : x13_1 < (t298.length : Int) := dT_
         obtain ⟨ad305, A305_3, c305_3, A305_4, c305_4, e305, hx305_0, hx305_1, hx305_2, hx305_3, hx305_4, hx305_5, hl305_3, hi305_3, hl305_4, hi305_4⟩ := at_T50 (Kd.R_reads' HO_10.out).2.2 x13_1 p305 q305
         obtain rfl : ad301 = ad305 := (by injection e305)
         (try obtain ⟨rfl, rfl⟩ := uE hx305_3 hx301_3)
         (try obtain ⟨rfl, rfl⟩ := uE hx305_4 hx301_4)
         (try obtain ⟨rfl, rfl⟩ := uE hx305_3 hx303_3)
         (try obtain ⟨rfl, rfl⟩ := uE hx305_4 hx303_4)
         (try obtain ⟨rfl, rfl⟩ := uE hx305_3 hx301_3)
         (try obtain ⟨rfl, rfl⟩ := uE hx305_4 hx301_4)
         (try obtain ⟨rfl, rfl⟩ := uE hx305_3 hx303_3)
         (try obtain ⟨rfl, rfl⟩ := uE hx305_4 hx303_4)
         (try obtain ⟨rfl, rfl⟩ := uE hx305_3 hx301_3)
         (try obtain ⟨rfl, rfl⟩ := uE hx305_4 hx301_4)
         (try obtain ⟨rfl, rfl⟩ := uE hx305_3 hx303_3)
         (try obtain ⟨rfl, rfl⟩ := uE hx305_4 hx303_4)
         (try obtain ⟨rfl, rfl⟩ := uE hx305_3 hx301_3)
         (try obtain ⟨rfl, rfl⟩ := uE hx305_4 hx301_4)
         (try obtain ⟨rfl, rfl⟩ := uE hx305_3 hx303_3)
         (try obtain ⟨rfl, rfl⟩ := uE hx305_4 hx303_4)
         (try obtain ⟨rfl, rfl⟩ := uE hx305_3 hx301_3)
         (try obtain ⟨rfl, rfl⟩ := uE hx305_4 hx301_4)
         (try obtain ⟨rfl, rfl⟩ := uE hx305_3 hx303_3)
         (try obtain ⟨rfl, rfl⟩ := uE hx305_4 hx303_4)
         (try obtain ⟨rfl, rfl⟩ := uE hx305_3 hx301_3)
         (try obtain ⟨rfl, rfl⟩ := uE hx305_4 hx301_4)
         (try obtain ⟨rfl, rfl⟩ := uE hx305_3 hx303_3)
         (try obtain ⟨rfl, rfl⟩ := uE hx305_4 hx303_4)
         (try obtain ⟨rfl, rfl⟩ := uE hx305_3 hx301_3)
         (try obtain ⟨rfl, rfl⟩ := uE hx305_4 hx301_4)
         (try obtain ⟨rfl, rfl⟩ := uE hx305_3 hx303_3)
         (try obtain ⟨rfl, rfl⟩ := uE hx305_4 hx303_4)
         (try obtain ⟨rfl, rfl⟩ := uE hx305_3 hx301_3)
         (try obtain ⟨rfl, rfl⟩ := uE hx305_4 hx301_4)
         (try obtain ⟨rfl, rfl⟩ := uE hx305_3 hx303_3)
         (try obtain ⟨rfl, rfl⟩ := uE hx305_4 hx303_4)
         (try obtain ⟨rfl, rfl⟩ := uE hx305_3 hx301_3)
         (try obtain ⟨rfl, rfl⟩ := uE hx305_4 hx301_4)
         (try obtain ⟨rfl, rfl⟩ := uE hx305_3 hx303_3)
         (try obtain ⟨rfl, rfl⟩ := uE hx305_4 hx303_4)
         (try obtain ⟨rfl, rfl⟩ := uE hx305_3 hx301_3)
         (try obtain ⟨rfl, rfl⟩ := uE hx305_4 hx301_4)
         (try obtain ⟨rfl, rfl⟩ := uE hx305_3 hx303_3)
         (try obtain ⟨rfl, rfl⟩ := uE hx305_4 hx303_4)
         obtain ⟨ce305, hce305, hMe305, hcc305⟩ := Kd.R_get HO_10.out z50 x13_1 p305 (by first | exact q305 | exact dT_ | (have e_ := (Kd.R_reads' HO_10.out).1; omega))
         obtain ⟨ve305_3, ve305_4, rfl, ge305_3, ge305_4⟩ := k50_openM hMe305
         have hv305_3 := hcc305 3 _ rfl
         rw [add_field _ _ 3 (by omega)] at hv305_3
         replace hv305_3 := sO_ (hv305_3.symm.trans hx305_3)
         rw [hv305_3] at ge305_3
         have HLq4 := aM (show Kd.R k57 57 _ _ _ _ ((rd_T50 t298 x13_1).f3) from ge305_3)
         clear hv305_3 ge305_3
         have hv305_4 := hcc305 4 _ rfl
         rw [add_field _ _ 4 (by omega)] at hv305_4
         replace hv305_4 := sO_ (hv305_4.symm.trans hx305_4)
         rw [hv305_4] at ge305_4
         have HLq5 := aM (show Kd.R k59 59 _ _ _ _ ((rd_T50 t298 x13_1).f4) from ge305_4)
         clear hv305_4 ge305_4
         clear hcc305 hce305
         have HRq4 := aM hi305_3
         have HCq4 := aM hl305_3
         clear hi305_3 hl305_3
         have HRq5 := aM hi305_4
         have HCq5 := aM hl305_4
         clear hi305_4 hl305_4
         replace p305 := eq_true p305
         replace q305 := eq_true q305
         try go_wp2_with (first | ((with_reducible refine gate_callee (f := 19) rfl ?_); refine goesL_ (some 50) rfl rfl Try.func19 (by kernel_rfl) rfl #[.slice A303_3 ((rd_T50 t298 x13_1).f3).length c303_3, .slice A1 l1.length c1] rfl (by (try simp only [mT_, mC_, mN_]); first | done | rfl | (simp only [lD_, lT_]; rfl)) ?_; (with_reducible refine (banksmanref13_Hit.calls k1 _ _ ((rd_T50 t298 x13_1).f3) _ _ l1 t306 _ ?side1 ?side2 ?side3 ?side4 A13.out).mono ?_); (case side1 => repeat (first | exact (cU HRq2.out) | (with_reducible first | refine kA_ ?_ _ | refine kN_ ?_ _ | refine kD_ ?_))); (case side2 => exact HCq1.out); (case side3 => repeat (first | exact (kB_ HR1.out HB.out) | (with_reducible first | refine kA_ ?_ _ | refine kN_ ?_ _ | refine kD_ ?_))); (case side4 => exact HC1.out); rintro e w63 ⟨rfl, hb⟩; refine ⟨_, rfl, ?_⟩; replace HO_10 := aM (Kd.R_below (rU HO_10.out) hb); replace HLq0 := aM (Kd.R_below (rU HLq0.out) hb); replace HLq1 := aM (Kd.R_below (rU HLq1.out) hb); replace HLq2 := aM (Kd.R_below (rU HLq2.out) hb); replace HLq3 := aM (Kd.R_below (rU HLq3.out) hb); replace HLq4 := aM (Kd.R_below (rU HLq4.out) hb); replace HLq5 := aM (Kd.R_below (rU HLq5.out) hb); replace BK297 := aM (kB (g := gb297) (o := .cells #[.int .i64 a0_0, .slice A0_1 l0_1.length c0_1] 24 (0, 0)) (bU BK297.out) hb); replace HRq1 := aM (kB_ (cU HRq1.out) hb); replace HRq0 := aM (kB_ (cU HRq0.out) hb); replace HRq2 := aM (kB_ (cU HRq2.out) hb); replace HRq3 := aM (kB_ (cU HRq3.out) hb); replace HRq4 := aM (kB_ (cU HRq4.out) hb); replace HRq5 := aM (kB_ (cU HRq5.out) hb); replace HB := aM (below_step (by repeat (first | (with_reducible first | exact HB.out | apply bA | apply bN | apply bD | refine bS ?_ GE297.out) | exact HB.out)) hb); (try clear hb); (try clear hb2); (try clear hk); (try clear hi)))
         go_roundg k1
         case measure => have := HK1.out; omega
         case rel => exact ⟨(false), (t306), (wrap64 (x13_1 + 1)), (by first | rfl | (simp; done) | (simp [*]; done)), (by first | rfl | (simp; done) | (simp [*]; done)), (by first | rfl | (simp; done) | (simp [*]; done)), H', ⟨by have := HK1.out; omega⟩, ⟨by (with_reducible repeat (first | apply Kd.R_alloc | apply Kd.R_drewN | apply Kd.R_drew)); exact HO_10.out⟩, ⟨by (with_reducible repeat (first | refine blk_drewN ?_ _ | refine blk_drew ?_ | refine blk_alloc ?_ _)); exact BK297.out⟩, ⟨by repeat (first | (with_reducible first | exact HB.out | apply bA | apply bN | apply bD | refine bS ?_ GE297.out) | exact HB.out)⟩⟩
    ·
     rw [if_neg c10] at H
     exact absurd H (by simp)
   ·
    rw [if_neg c9] at H
    have c9b0 : decide (x13_1 < (t298.length : Int)) = false := decide_eq_false c9
    clear c9
    have H' := aM H
    clear H
    obtain ⟨Ao64, co64, eo64⟩ := Kd.R_slice HO_10.out
    subst eo64
    go_wp2
    go_loopg [12, 17] k1 (fun kq v12 v17 w' => ∃ (x12_2 : Bool) (x17_2 : Int), v12 = .bool x12_2 ∧ v17 = .int .i64 x17_2 ∧ Aside0 (banksmanref14_Judge.l1 kq l1 l3 x11_1 x12_2 x17_2 = some (r1, r2)) ∧ Aside0 (kq ≤ k1) ∧ Aside0 (w'.heap[gb297]? = some (.cells #[.int .i64 a0_0, (.slice A0_1 l0_1.length c0_1)] 24 (0, 0))) ∧ Aside0 (Below w.heap.size w w'))
    case atStart => exact ⟨(x12_1), (0), (by first | rfl | (simp; done) | (simp [*]; done)), (by first | rfl | (simp; done) | (simp [*]; done)), H', ⟨Nat.le_refl _⟩, ⟨by (with_reducible repeat (first | refine blk_drewN ?_ _ | refine blk_drew ?_ | refine blk_alloc ?_ _)); exact BK297.out⟩, ⟨by repeat (first | (with_reducible first | exact HB.out | apply bA | apply bN | apply bD | refine bS ?_ GE297.out) | exact HB.out)⟩⟩
    case round =>
     clear H'
     try clear c1
     try clear c2
     try clear p2
     try clear c3
     try clear p3
     try clear q3
     try clear hx3
     try clear c4
     try clear c5
     try clear p6
     try clear c9
     try clear c9b0
     try clear c10
     try clear c19
     try clear c20
     try clear c30
     try clear p30
     try clear q30
     try clear hx30
     try clear c45
     try clear c55
     try clear p64
     try clear hx301_0
     try clear hx301_1
     try clear hx301_2
     try clear hx301_3
     try clear hx301_4
     try clear hx301_5
     try clear hx303_0
     try clear hx303_1
     try clear hx303_2
     try clear hx303_3
     try clear hx303_4
     try clear hx303_5
     try clear hx305_0
     try clear hx305_1
     try clear hx305_2
     try clear hx305_3
     try clear hx305_4
     try clear hx305_5
     try clear p301
     try clear p303
     try clear p305
     try clear q301
     try clear q303
     try clear q305
     obtain ⟨x12_2, x17_2, rfl, rfl, HA, HK2, BK297, HB⟩ := hrel
     cases gk with
     | zero => exact absurd HA.out (by simp [banksmanref14_Judge.l1])
     | succ k2 =>
      have H := HA.out
      clear HA
      simp only [banksmanref14_Judge.l1] at H
      by_cases c65 : x17_2 < (l3.length : Int)
      ·
       rw [if_pos c65] at H
       have c65b0 : decide (x17_2 < (l3.length : Int)) = true := decide_eq_true c65
       clear c65
       by_cases c66 : 0 ≤ x17_2
       ·
        rw [if_pos c66] at H
        have c66b0 : decide (0 ≤ x17_2) = true := decide_eq_true c66
        clear c66
        replace H := Option.bind_eq_some_iff.mp H
        obtain ⟨t309, A670, H⟩ := H
        replace H : (if x12_2 = true then (banksmanref14_Judge.l1 k2 l1 l3 x11_1 true (wrap64 (x17_2 + 1))) else (banksmanref14_Judge.l1 k2 l1 l3 x11_1 t309 (wrap64 (x17_2 + 1)))) = some (r1, r2) := H
        have A67 := aM A670
        clear A670
        by_cases c68 : x12_2 = true
        ·
         subst c68
         have H1 : (banksmanref14_Judge.l1 k2 l1 l3 x11_1 true (wrap64 (x17_2 + 1))) = some (r1, r2) := by rw [if_pos rfl] at H; exact H
         clear H
         have H := H1
         clear H1
         have H' := aM H
         clear H
         have p308 : 0 ≤ (x17_2 : Int) := dT_
         have q308 : x17_2 < (l3.length : Int) := dT_
         obtain ⟨ad308, A308_1, c308_1, e308, hx308_0, hx308_1, hl308_1, hi308_1⟩ := at_T24 HR3.out x17_2 p308 q308
         cases e308
         replace hx308_0 := (HB.out.cell (bL_ w _ hx308_0)).trans hx308_0
         replace hx308_1 := (HB.out.cell (bL_ w _ hx308_1)).trans hx308_1
         have HRq8 := aM hi308_1
         have HCq8 := aM hl308_1
         clear hi308_1 hl308_1
         replace p308 := eq_true p308
         replace q308 := eq_true q308
         go_wp2_with (first | ((with_reducible refine gate_callee (f := 19) rfl ?_); refine goesL_ (some 82) rfl rfl Try.func19 (by kernel_rfl) rfl #[.slice A308_1 ((rd_T24 l3 x17_2).f1).length c308_1, .slice A1 l1.length c1] rfl (by (try simp only [mT_, mC_, mN_]); first | done | rfl | (simp only [lD_, lT_]; rfl)) ?_; (with_reducible refine (banksmanref13_Hit.calls k2 _ _ ((rd_T24 l3 x17_2).f1) _ _ l1 t309 _ ?side1 ?side2 ?side3 ?side4 A67.out).mono ?_); (case side1 => repeat (first | exact (kB_ HRq8.out HB.out) | (with_reducible first | refine kA_ ?_ _ | refine kN_ ?_ _ | refine kD_ ?_))); (case side2 => exact HCq8.out); (case side3 => repeat (first | exact (kB_ HR1.out HB.out) | (with_reducible first | refine kA_ ?_ _ | refine kN_ ?_ _ | refine kD_ ?_))); (case side4 => exact HC1.out); rintro e w69 ⟨rfl, hb⟩; refine ⟨_, rfl, ?_⟩; replace BK297 := aM (kB (g := gb297) (o := .cells #[.int .i64 a0_0, .slice A0_1 l0_1.length c0_1] 24 (0, 0)) (bU BK297.out) hb); replace HB := aM (below_step (by repeat (first | (with_reducible first | exact HB.out | apply bA | apply bN | apply bD | refine bS ?_ GE297.out) | exact HB.out)) hb); (try clear hb); (try clear hb2); (try clear hk); (try clear hi)))
         go_roundg k2
         case measure => have := HK1.out; have := HK2.out; omega
         case rel => exact ⟨(true), (wrap64 (x17_2 + 1)), (by first | rfl | (simp; done) | (simp [*]; done)), (by first | rfl | (simp; done) | (simp [*]; done)), H', ⟨by have := HK1.out; have := HK2.out; omega⟩, ⟨by (with_reducible repeat (first | refine blk_drewN ?_ _ | refine blk_drew ?_ | refine blk_alloc ?_ _)); exact BK297.out⟩, ⟨by repeat (first | (with_reducible first | exact HB.out | apply bA | apply bN | apply bD | refine bS ?_ GE297.out) | exact HB.out)⟩⟩
        ·
         replace c68 := Bool.eq_false_iff.mpr c68
         subst c68
         have H1 : (banksmanref14_Judge.l1 k2 l1 l3 x11_1 t309 (wrap64 (x17_2 + 1))) = some (r1, r2) := by rw [if_neg (show ¬ (false = true) by decide)] at H; exact H
         clear H
         have H := H1
         clear H1
         have H' := aM H
         clear H
         have p308 : 0 ≤ (x17_2 : Int) := dT_
         have q308 : x17_2 < (l3.length : Int) := dT_
         obtain ⟨ad308, A308_1, c308_1, e308, hx308_0, hx308_1, hl308_1, hi308_1⟩ := at_T24 HR3.out x17_2 p308 q308
         cases e308
         replace hx308_0 := (HB.out.cell (bL_ w _ hx308_0)).trans hx308_0
         replace hx308_1 := (HB.out.cell (bL_ w _ hx308_1)).trans hx308_1
         have HRq8 := aM hi308_1
         have HCq8 := aM hl308_1
         clear hi308_1 hl308_1
         replace p308 := eq_true p308
         replace q308 := eq_true q308
         go_wp2_with (first | ((with_reducible refine gate_callee (f := 19) rfl ?_); refine goesL_ (some 82) rfl rfl Try.func19 (by kernel_rfl) rfl #[.slice A308_1 ((rd_T24 l3 x17_2).f1).length c308_1, .slice A1 l1.length c1] rfl (by (try simp only [mT_, mC_, mN_]); first | done | rfl | (simp only [lD_, lT_]; rfl)) ?_; (with_reducible refine (banksmanref13_Hit.calls k2 _ _ ((rd_T24 l3 x17_2).f1) _ _ l1 t309 _ ?side1 ?side2 ?side3 ?side4 A67.out).mono ?_); (case side1 => repeat (first | exact (kB_ HRq8.out HB.out) | (with_reducible first | refine kA_ ?_ _ | refine kN_ ?_ _ | refine kD_ ?_))); (case side2 => exact HCq8.out); (case side3 => repeat (first | exact (kB_ HR1.out HB.out) | (with_reducible first | refine kA_ ?_ _ | refine kN_ ?_ _ | refine kD_ ?_))); (case side4 => exact HC1.out); rintro e w70 ⟨rfl, hb⟩; refine ⟨_, rfl, ?_⟩; replace BK297 := aM (kB (g := gb297) (o := .cells #[.int .i64 a0_0, .slice A0_1 l0_1.length c0_1] 24 (0, 0)) (bU BK297.out) hb); replace HB := aM (below_step (by repeat (first | (with_reducible first | exact HB.out | apply bA | apply bN | apply bD | refine bS ?_ GE297.out) | exact HB.out)) hb); (try clear hb); (try clear hb2); (try clear hk); (try clear hi)))
         go_roundg k2
         case measure => have := HK1.out; have := HK2.out; omega
         case rel => exact ⟨(t309), (wrap64 (x17_2 + 1)), (by first | rfl | (simp; done) | (simp [*]; done)), (by first | rfl | (simp; done) | (simp [*]; done)), H', ⟨by have := HK1.out; have := HK2.out; omega⟩, ⟨by (with_reducible repeat (first | refine blk_drewN ?_ _ | refine blk_drew ?_ | refine blk_alloc ?_ _)); exact BK297.out⟩, ⟨by repeat (first | (with_reducible first | exact HB.out | apply bA | apply bN | apply bD | refine bS ?_ GE297.out) | exact HB.out)⟩⟩
       ·
        rw [if_neg c66] at H
        exact absurd H (by simp)
      ·
       rw [if_neg c65] at H
       have c65b0 : decide (x17_2 < (l3.length : Int)) = false := decide_eq_false c65
       clear c65
       by_cases c71 : x11_1 = true
       ·
        subst c71
        have H1 : (if x12_2 = true then (some (false, 140)) else (some (true, 0))) = some (r1, r2) := by rw [if_pos rfl] at H; exact H
        clear H
        have H := H1
        clear H1
        by_cases c72 : x12_2 = true
        ·
         subst c72
         have H1 : (some (false, 140)) = some (r1, r2) := by rw [if_pos rfl] at H; exact H
         clear H
         have H := H1
         clear H1
         simp only [Option.some.injEq, Prod.mk.injEq] at H
         obtain ⟨rfl, rfl⟩ := H
         go_wp2
         go_ret2
         exact ⟨by first | rfl | (simp [errW_none, errW_some] <;> rfl) | (simp [*, errW_none, errW_some] <;> rfl), by repeat (first | (with_reducible first | exact HB.out | apply bA | apply bN | apply bD | refine bS ?_ GE297.out) | exact HB.out)⟩
        ·
         replace c72 := Bool.eq_false_iff.mpr c72
         subst c72
         have H1 : (some (true, 0)) = some (r1, r2) := by rw [if_neg (show ¬ (false = true) by decide)] at H; exact H
         clear H
         have H := H1
         clear H1
         simp only [Option.some.injEq, Prod.mk.injEq] at H
         obtain ⟨rfl, rfl⟩ := H
         go_wp2
         go_ret2
         exact ⟨by first | rfl | (simp [errW_none, errW_some] <;> rfl) | (simp [*, errW_none, errW_some] <;> rfl), by repeat (first | (with_reducible first | exact HB.out | apply bA | apply bN | apply bD | refine bS ?_ GE297.out) | exact HB.out)⟩
       ·
        replace c71 := Bool.eq_false_iff.mpr c71
        subst c71
        have H1 : (some (false, 0)) = some (r1, r2) := by rw [if_neg (show ¬ (false = true) by decide)] at H; exact H
        clear H
        have H := H1
        clear H1
        simp only [Option.some.injEq, Prod.mk.injEq] at H
        obtain ⟨rfl, rfl⟩ := H
        go_wp2
        go_ret2
        exact ⟨by first | rfl | (simp [errW_none, errW_some] <;> rfl) | (simp [*, errW_none, errW_some] <;> rfl), by repeat (first | (with_reducible first | exact HB.out | apply bA | apply bN | apply bD | refine bS ?_ GE297.out) | exact HB.out)⟩
def banksmanref10_One.f (a0_0 : Int) (l0_1 : List Int) (l0_2 : List Int) (a0_3 : Bool) (a1_0 : Int) (l1_1 : List Int) (l1_2 : List Int) (a1_3 : Bool) : Option (Bool) := if a0_0 = a1_0 then (if (strOfNums l0_1).toList = (strOfNums l1_1).toList then (if (strOfNums l0_2).toList = (strOfNums l1_2).toList then (some (a0_3 == a1_3)) else (some false)) else (some false)) else (some false)
set_option maxHeartbeats 8000000 in
set_option maxRecDepth 100000 in
theorem banksmanref10_One.calls (a0_0 : Int) (A0_1 : Option Addr) (c0_1 : Nat) (l0_1 : List Int) (A0_2 : Option Addr) (c0_2 : Nat) (l0_2 : List Int) (a0_3 : Bool) (a1_0 : Int) (A1_1 : Option Addr) (c1_1 : Nat) (l1_1 : List Int) (A1_2 : Option Addr) (c1_2 : Nat) (l1_2 : List Int) (a1_3 : Bool) (r : Bool) (w : World) (hr0_1 : Kd.C (Kd.int .u8) w A0_1 l0_1.length l0_1) (hc0_1 : l0_1.length ≤ c0_1) (hr0_2 : Kd.C (Kd.int .u8) w A0_2 l0_2.length l0_2) (hc0_2 : l0_2.length ≤ c0_2) (hr1_1 : Kd.C (Kd.int .u8) w A1_1 l1_1.length l1_1) (hc1_1 : l1_1.length ≤ c1_1) (hr1_2 : Kd.C (Kd.int .u8) w A1_2 l1_2.length l1_2) (hc1_2 : l1_2.length ≤ c1_2) (h : banksmanref10_One.f a0_0 l0_1 l0_2 a0_3 a1_0 l1_1 l1_2 a1_3 = some r) :
   Calls Try.prog 57 #[.agg #[.int .i64 a0_0, .slice A0_1 l0_1.length c0_1, .slice A0_2 l0_2.length c0_2, .bool a0_3], .agg #[.int .i64 a1_0, .slice A1_1 l1_1.length c1_1, .slice A1_2 l1_2.length c1_2, .bool a1_3]] w fun e w' => e = .returned (.bool r) ∧ Below w.heap.size w w' := by
 have hu57 := Try.underlying57
 have HR0_1 := m0_ hr0_1
 have HC0_1 := m0_ hc0_1
 clear hr0_1 hc0_1
 have HR0_2 := m0_ hr0_2
 have HC0_2 := m0_ hc0_2
 clear hr0_2 hc0_2
 have HR1_1 := m0_ hr1_1
 have HC1_1 := m0_ hc1_1
 clear hr1_1 hc1_1
 have HR1_2 := m0_ hr1_2
 have HC1_2 := m0_ hc1_2
 clear hr1_2 hc1_2
 have HB := m0_ (Below.refl w.heap.size w)
 have H : (if a0_0 = a1_0 then (if (strOfNums l0_1).toList = (strOfNums l1_1).toList then (if (strOfNums l0_2).toList = (strOfNums l1_2).toList then (some (a0_3 == a1_3)) else (some false)) else (some false)) else (some false)) = some r := h
 clear h
 by_cases c3 : a0_0 = a1_0
 · rw [if_pos c3] at H
   have c3b0 : (a0_0 == a1_0) = true := beq_iff_eq.mpr c3
   have c3b1 : (a0_0 != a1_0) = false := bne_eq_false_iff_eq.mpr c3
   clear c3
   by_cases c4 : (strOfNums l0_1).toList = (strOfNums l1_1).toList
   · rw [if_pos c4] at H
     have c4b0 : ((strOfNums l0_1).toList == (strOfNums l1_1).toList) = true := beq_iff_eq.mpr c4
     have c4b1 : ((strOfNums l0_1).toList != (strOfNums l1_1).toList) = false := bne_eq_false_iff_eq.mpr c4
     clear c4
     by_cases c5 : (strOfNums l0_2).toList = (strOfNums l1_2).toList
     · rw [if_pos c5] at H
       have c5b0 : ((strOfNums l0_2).toList == (strOfNums l1_2).toList) = true := beq_iff_eq.mpr c5
       have c5b1 : ((strOfNums l0_2).toList != (strOfNums l1_2).toList) = false := bne_eq_false_iff_eq.mpr c5
       clear c5
       obtain rfl := sO_ H
       go_enter Try.func57, Try.ntmps57
       go_wp2_with (first | ((with_reducible refine gate_dst (N := 2) rfl ?_); refine box_event ?hg (N := 2) ?hd (cs := #[.int .i64 a0_0, .slice A0_1 l0_1.length c0_1, .slice A0_2 l0_2.length c0_2, .bool a0_3]) (t := 57) ?hr ?_; (case hd => rfl); (case hg => rfl); (case hr => first | (go_simp; done) | (go_simp; rfl)); intro gb310 hg w6 hbox hb; have n0_ := m0_ (below_step (by repeat (first | (with_reducible first | exact HB.out | apply bA_ | apply dN_ | apply b1_) | exact HB.out)) hb); have n1_ := m0_ (hbox); have n2_ := m0_ ((by rw [hg]; exact (below_size (by repeat (first | (with_reducible first | exact HB.out | apply bA_ | apply dN_ | apply b1_) | exact HB.out))) : w.heap.size ≤ gb310)); have n3_ := m0_ ((by rw [hg]; exact (below_size (by repeat (first | (with_reducible first | exact HB.out | apply bA_ | apply dN_ | apply b1_) | exact HB.out))) : w.heap.size ≤ gb310)); clear HB; have HB := n0_; have BK310 := n1_; have GW310 := n2_; have GE310 := n3_; clear n0_ n1_ n2_ n3_; clear hb hbox hg) | ((with_reducible refine gate_dst (N := 3) rfl ?_); refine box_event ?hg (N := 3) ?hd (cs := #[.int .i64 a1_0, .slice A1_1 l1_1.length c1_1, .slice A1_2 l1_2.length c1_2, .bool a1_3]) (t := 57) ?hr ?_; (case hd => rfl); (case hg => rfl); (case hr => first | (go_simp; done) | (go_simp; rfl)); intro gb311 hg w7 hbox hb; have n0_ := m0_ (blk_below (g := gb310) (o := .cells #[.int .i64 a0_0, .slice A0_1 l0_1.length c0_1, .slice A0_2 l0_2.length c0_2, .bool a0_3] 57 (0, 0)) (by (with_reducible repeat (first | refine blk_drewN ?_ _ | refine blk_drew ?_ | refine blk_alloc ?_ _)); exact BK310.out) hb); have n1_ := m0_ (below_step (by repeat (first | (with_reducible first | exact HB.out | apply bA_ | apply dN_ | apply b1_ | refine below_set ?_ GE310.out) | exact HB.out)) hb); have n2_ := m0_ (hbox); have n3_ := m0_ ((by rw [hg]; exact (below_size (by repeat (first | (with_reducible first | exact HB.out | apply bA_ | apply dN_ | apply b1_ | refine below_set ?_ GE310.out) | exact HB.out))) : w.heap.size ≤ gb311)); have n4_ := m0_ ((by rw [hg]; exact (below_size (by repeat (first | (with_reducible first | exact HB.out | apply bA_ | apply dN_ | apply b1_ | refine below_set ?_ GE310.out) | exact HB.out))) : w.heap.size ≤ gb311)); have n5_ := m0_ ((by rw [hg]; exact Nat.ne_of_lt (blk_lt (g := gb310) (o := .cells #[.int .i64 a0_0, .slice A0_1 l0_1.length c0_1, .slice A0_2 l0_2.length c0_2, .bool a0_3] 57 (0, 0)) (by (with_reducible repeat (first | refine blk_drewN ?_ _ | refine blk_drew ?_ | refine blk_alloc ?_ _)); exact BK310.out)) : gb310 ≠ gb311)); have n6_ := m0_ ((by rw [hg]; exact Nat.ne_of_gt (blk_lt (g := gb310) (o := .cells #[.int .i64 a0_0, .slice A0_1 l0_1.length c0_1, .slice A0_2 l0_2.length c0_2, .bool a0_3] 57 (0, 0)) (by (with_reducible repeat (first | refine blk_drewN ?_ _ | refine blk_drew ?_ | refine blk_alloc ?_ _)); exact BK310.out)) : gb311 ≠ gb310)); clear BK310; clear HB; have BK310 := n0_; have HB := n1_; have BK311 := n2_; have GW311 := n3_; have GE311 := n4_; have NB310_311 := n5_; have NB311_310 := n6_; clear n0_ n1_ n2_ n3_ n4_ n5_ n6_; clear hb hbox hg; have hnb8 := NB310_311.out; have hnc8 := NB311_310.out; have hcz9_0 : w7.cell? ⟨gb310, 0, none⟩ = some (.int .i64 a0_0) := (blk_cell BK310.out 0).trans rfl; have hcz9_1 : w7.cell? ⟨gb310, 1, none⟩ = some (.slice A0_1 l0_1.length c0_1) := (blk_cell BK310.out 1).trans rfl; have hcz9_2 : w7.cell? ⟨gb310, 2, none⟩ = some (.slice A0_2 l0_2.length c0_2) := (blk_cell BK310.out 2).trans rfl; have hcz9_3 : w7.cell? ⟨gb310, 3, none⟩ = some (.bool a0_3) := (blk_cell BK310.out 3).trans rfl; have hfz9_0 := bf_ BK310.out 0; have hfz9_1 := bf_ BK310.out 1; have hfz9_2 := bf_ BK310.out 2; have hfz9_3 := bf_ BK310.out 3; have hcz10_0 : w7.cell? ⟨gb311, 0, none⟩ = some (.int .i64 a1_0) := (blk_cell BK311.out 0).trans rfl; have hcz10_1 : w7.cell? ⟨gb311, 1, none⟩ = some (.slice A1_1 l1_1.length c1_1) := (blk_cell BK311.out 1).trans rfl; have hcz10_2 : w7.cell? ⟨gb311, 2, none⟩ = some (.slice A1_2 l1_2.length c1_2) := (blk_cell BK311.out 2).trans rfl; have hcz10_3 : w7.cell? ⟨gb311, 3, none⟩ = some (.bool a1_3) := (blk_cell BK311.out 3).trans rfl; have hfz10_0 := bf_ BK311.out 0; have hfz10_1 := bf_ BK311.out 1; have hfz10_2 := bf_ BK311.out 2; have hfz10_3 := bf_ BK311.out 3; have hcv11 := Kd.C_string (P := Try.prog) (A := A0_1) (c := c0_1) Try.underlying55 Try.underlying5 Try.underlying9 (kB_ HR0_1.out HB.out); have hcv12 := Kd.C_string (P := Try.prog) (A := A1_1) (c := c1_1) Try.underlying55 Try.underlying5 Try.underlying9 (kB_ HR1_1.out HB.out); have hcv13 := Kd.C_string (P := Try.prog) (A := A0_2) (c := c0_2) Try.underlying55 Try.underlying5 Try.underlying9 (kB_ HR0_2.out HB.out); have hcv14 := Kd.C_string (P := Try.prog) (A := A1_2) (c := c1_2) Try.underlying55 Try.underlying5 Try.underlying9 (kB_ HR1_2.out HB.out)))
       go_ret
       exact ⟨by first | rfl | (simp [errW_none, errW_some] <;> rfl) | (simp [*, errW_none, errW_some] <;> rfl), by repeat (first | (with_reducible first | exact HB.out | apply bA_ | apply dN_ | apply b1_ | refine below_set ?_ GE310.out | refine below_set ?_ GE311.out) | exact HB.out)⟩
     · rw [if_neg c5] at H
       have c5b0 : ((strOfNums l0_2).toList == (strOfNums l1_2).toList) = false := beq_eq_false_iff_ne.mpr c5
       have c5b1 : ((strOfNums l0_2).toList != (strOfNums l1_2).toList) = true := bne_iff_ne.mpr c5
       obtain rfl := sO_ H
       go_enter Try.func57, Try.ntmps57
       go_wp2_with (first | ((with_reducible refine gate_dst (N := 2) rfl ?_); refine box_event ?hg (N := 2) ?hd (cs := #[.int .i64 a0_0, .slice A0_1 l0_1.length c0_1, .slice A0_2 l0_2.length c0_2, .bool a0_3]) (t := 57) ?hr ?_; (case hd => rfl); (case hg => rfl); (case hr => first | (go_simp; done) | (go_simp; rfl)); intro gb310 hg w15 hbox hb; have n0_ := m0_ (below_step (by repeat (first | (with_reducible first | exact HB.out | apply bA_ | apply dN_ | apply b1_) | exact HB.out)) hb); have n1_ := m0_ (hbox); have n2_ := m0_ ((by rw [hg]; exact (below_size (by repeat (first | (with_reducible first | exact HB.out | apply bA_ | apply dN_ | apply b1_) | exact HB.out))) : w.heap.size ≤ gb310)); have n3_ := m0_ ((by rw [hg]; exact (below_size (by repeat (first | (with_reducible first | exact HB.out | apply bA_ | apply dN_ | apply b1_) | exact HB.out))) : w.heap.size ≤ gb310)); clear HB; have HB := n0_; have BK310 := n1_; have GW310 := n2_; have GE310 := n3_; clear n0_ n1_ n2_ n3_; clear hb hbox hg) | ((with_reducible refine gate_dst (N := 3) rfl ?_); refine box_event ?hg (N := 3) ?hd (cs := #[.int .i64 a1_0, .slice A1_1 l1_1.length c1_1, .slice A1_2 l1_2.length c1_2, .bool a1_3]) (t := 57) ?hr ?_; (case hd => rfl); (case hg => rfl); (case hr => first | (go_simp; done) | (go_simp; rfl)); intro gb311 hg w16 hbox hb; have n0_ := m0_ (blk_below (g := gb310) (o := .cells #[.int .i64 a0_0, .slice A0_1 l0_1.length c0_1, .slice A0_2 l0_2.length c0_2, .bool a0_3] 57 (0, 0)) (by (with_reducible repeat (first | refine blk_drewN ?_ _ | refine blk_drew ?_ | refine blk_alloc ?_ _)); exact BK310.out) hb); have n1_ := m0_ (below_step (by repeat (first | (with_reducible first | exact HB.out | apply bA_ | apply dN_ | apply b1_ | refine below_set ?_ GE310.out) | exact HB.out)) hb); have n2_ := m0_ (hbox); have n3_ := m0_ ((by rw [hg]; exact (below_size (by repeat (first | (with_reducible first | exact HB.out | apply bA_ | apply dN_ | apply b1_ | refine below_set ?_ GE310.out) | exact HB.out))) : w.heap.size ≤ gb311)); have n4_ := m0_ ((by rw [hg]; exact (below_size (by repeat (first | (with_reducible first | exact HB.out | apply bA_ | apply dN_ | apply b1_ | refine below_set ?_ GE310.out) | exact HB.out))) : w.heap.size ≤ gb311)); have n5_ := m0_ ((by rw [hg]; exact Nat.ne_of_lt (blk_lt (g := gb310) (o := .cells #[.int .i64 a0_0, .slice A0_1 l0_1.length c0_1, .slice A0_2 l0_2.length c0_2, .bool a0_3] 57 (0, 0)) (by (with_reducible repeat (first | refine blk_drewN ?_ _ | refine blk_drew ?_ | refine blk_alloc ?_ _)); exact BK310.out)) : gb310 ≠ gb311)); have n6_ := m0_ ((by rw [hg]; exact Nat.ne_of_gt (blk_lt (g := gb310) (o := .cells #[.int .i64 a0_0, .slice A0_1 l0_1.length c0_1, .slice A0_2 l0_2.length c0_2, .bool a0_3] 57 (0, 0)) (by (with_reducible repeat (first | refine blk_drewN ?_ _ | refine blk_drew ?_ | refine blk_alloc ?_ _)); exact BK310.out)) : gb311 ≠ gb310)); clear BK310; clear HB; have BK310 := n0_; have HB := n1_; have BK311 := n2_; have GW311 := n3_; have GE311 := n4_; have NB310_311 := n5_; have NB311_310 := n6_; clear n0_ n1_ n2_ n3_ n4_ n5_ n6_; clear hb hbox hg; have hnb17 := NB310_311.out; have hnc17 := NB311_310.out; have hcz18_0 : w16.cell? ⟨gb310, 0, none⟩ = some (.int .i64 a0_0) := (blk_cell BK310.out 0).trans rfl; have hcz18_1 : w16.cell? ⟨gb310, 1, none⟩ = some (.slice A0_1 l0_1.length c0_1) := (blk_cell BK310.out 1).trans rfl; have hcz18_2 : w16.cell? ⟨gb310, 2, none⟩ = some (.slice A0_2 l0_2.length c0_2) := (blk_cell BK310.out 2).trans rfl; have hcz18_3 : w16.cell? ⟨gb310, 3, none⟩ = some (.bool a0_3) := (blk_cell BK310.out 3).trans rfl; have hfz18_0 := bf_ BK310.out 0; have hfz18_1 := bf_ BK310.out 1; have hfz18_2 := bf_ BK310.out 2; have hfz18_3 := bf_ BK310.out 3; have hcz19_0 : w16.cell? ⟨gb311, 0, none⟩ = some (.int .i64 a1_0) := (blk_cell BK311.out 0).trans rfl; have hcz19_1 : w16.cell? ⟨gb311, 1, none⟩ = some (.slice A1_1 l1_1.length c1_1) := (blk_cell BK311.out 1).trans rfl; have hcz19_2 : w16.cell? ⟨gb311, 2, none⟩ = some (.slice A1_2 l1_2.length c1_2) := (blk_cell BK311.out 2).trans rfl; have hcz19_3 : w16.cell? ⟨gb311, 3, none⟩ = some (.bool a1_3) := (blk_cell BK311.out 3).trans rfl; have hfz19_0 := bf_ BK311.out 0; have hfz19_1 := bf_ BK311.out 1; have hfz19_2 := bf_ BK311.out 2; have hfz19_3 := bf_ BK311.out 3; have hcv20 := Kd.C_string (P := Try.prog) (A := A0_1) (c := c0_1) Try.underlying55 Try.underlying5 Try.underlying9 (kB_ HR0_1.out HB.out); have hcv21 := Kd.C_string (P := Try.prog) (A := A1_1) (c := c1_1) Try.underlying55 Try.underlying5 Try.underlying9 (kB_ HR1_1.out HB.out); have hcv22 := Kd.C_string (P := Try.prog) (A := A0_2) (c := c0_2) Try.underlying55 Try.underlying5 Try.underlying9 (kB_ HR0_2.out HB.out); have hcv23 := Kd.C_string (P := Try.prog) (A := A1_2) (c := c1_2) Try.underlying55 Try.underlying5 Try.underlying9 (kB_ HR1_2.out HB.out)))
       go_ret
       exact ⟨by first | rfl | (simp [errW_none, errW_some] <;> rfl) | (simp [*, errW_none, errW_some] <;> rfl), by repeat (first | (with_reducible first | exact HB.out | apply bA_ | apply dN_ | apply b1_ | refine below_set ?_ GE310.out | refine below_set ?_ GE311.out) | exact HB.out)⟩
   · rw [if_neg c4] at H
     have c4b0 : ((strOfNums l0_1).toList == (strOfNums l1_1).toList) = false := beq_eq_false_iff_ne.mpr c4
     have c4b1 : ((strOfNums l0_1).toList != (strOfNums l1_1).toList) = true := bne_iff_ne.mpr c4
     obtain rfl := sO_ H
     go_enter Try.func57, Try.ntmps57
     go_wp2_with (first | ((with_reducible refine gate_dst (N := 2) rfl ?_); refine box_event ?hg (N := 2) ?hd (cs := #[.int .i64 a0_0, .slice A0_1 l0_1.length c0_1, .slice A0_2 l0_2.length c0_2, .bool a0_3]) (t := 57) ?hr ?_; (case hd => rfl); (case hg => rfl); (case hr => first | (go_simp; done) | (go_simp; rfl)); intro gb310 hg w24 hbox hb; have n0_ := m0_ (below_step (by repeat (first | (with_reducible first | exact HB.out | apply bA_ | apply dN_ | apply b1_) | exact HB.out)) hb); have n1_ := m0_ (hbox); have n2_ := m0_ ((by rw [hg]; exact (below_size (by repeat (first | (with_reducible first | exact HB.out | apply bA_ | apply dN_ | apply b1_) | exact HB.out))) : w.heap.size ≤ gb310)); have n3_ := m0_ ((by rw [hg]; exact (below_size (by repeat (first | (with_reducible first | exact HB.out | apply bA_ | apply dN_ | apply b1_) | exact HB.out))) : w.heap.size ≤ gb310)); clear HB; have HB := n0_; have BK310 := n1_; have GW310 := n2_; have GE310 := n3_; clear n0_ n1_ n2_ n3_; clear hb hbox hg) | ((with_reducible refine gate_dst (N := 3) rfl ?_); refine box_event ?hg (N := 3) ?hd (cs := #[.int .i64 a1_0, .slice A1_1 l1_1.length c1_1, .slice A1_2 l1_2.length c1_2, .bool a1_3]) (t := 57) ?hr ?_; (case hd => rfl); (case hg => rfl); (case hr => first | (go_simp; done) | (go_simp; rfl)); intro gb311 hg w25 hbox hb; have n0_ := m0_ (blk_below (g := gb310) (o := .cells #[.int .i64 a0_0, .slice A0_1 l0_1.length c0_1, .slice A0_2 l0_2.length c0_2, .bool a0_3] 57 (0, 0)) (by (with_reducible repeat (first | refine blk_drewN ?_ _ | refine blk_drew ?_ | refine blk_alloc ?_ _)); exact BK310.out) hb); have n1_ := m0_ (below_step (by repeat (first | (with_reducible first | exact HB.out | apply bA_ | apply dN_ | apply b1_ | refine below_set ?_ GE310.out) | exact HB.out)) hb); have n2_ := m0_ (hbox); have n3_ := m0_ ((by rw [hg]; exact (below_size (by repeat (first | (with_reducible first | exact HB.out | apply bA_ | apply dN_ | apply b1_ | refine below_set ?_ GE310.out) | exact HB.out))) : w.heap.size ≤ gb311)); have n4_ := m0_ ((by rw [hg]; exact (below_size (by repeat (first | (with_reducible first | exact HB.out | apply bA_ | apply dN_ | apply b1_ | refine below_set ?_ GE310.out) | exact HB.out))) : w.heap.size ≤ gb311)); have n5_ := m0_ ((by rw [hg]; exact Nat.ne_of_lt (blk_lt (g := gb310) (o := .cells #[.int .i64 a0_0, .slice A0_1 l0_1.length c0_1, .slice A0_2 l0_2.length c0_2, .bool a0_3] 57 (0, 0)) (by (with_reducible repeat (first | refine blk_drewN ?_ _ | refine blk_drew ?_ | refine blk_alloc ?_ _)); exact BK310.out)) : gb310 ≠ gb311)); have n6_ := m0_ ((by rw [hg]; exact Nat.ne_of_gt (blk_lt (g := gb310) (o := .cells #[.int .i64 a0_0, .slice A0_1 l0_1.length c0_1, .slice A0_2 l0_2.length c0_2, .bool a0_3] 57 (0, 0)) (by (with_reducible repeat (first | refine blk_drewN ?_ _ | refine blk_drew ?_ | refine blk_alloc ?_ _)); exact BK310.out)) : gb311 ≠ gb310)); clear BK310; clear HB; have BK310 := n0_; have HB := n1_; have BK311 := n2_; have GW311 := n3_; have GE311 := n4_; have NB310_311 := n5_; have NB311_310 := n6_; clear n0_ n1_ n2_ n3_ n4_ n5_ n6_; clear hb hbox hg; have hnb26 := NB310_311.out; have hnc26 := NB311_310.out; have hcz27_0 : w25.cell? ⟨gb310, 0, none⟩ = some (.int .i64 a0_0) := (blk_cell BK310.out 0).trans rfl; have hcz27_1 : w25.cell? ⟨gb310, 1, none⟩ = some (.slice A0_1 l0_1.length c0_1) := (blk_cell BK310.out 1).trans rfl; have hcz27_2 : w25.cell? ⟨gb310, 2, none⟩ = some (.slice A0_2 l0_2.length c0_2) := (blk_cell BK310.out 2).trans rfl; have hcz27_3 : w25.cell? ⟨gb310, 3, none⟩ = some (.bool a0_3) := (blk_cell BK310.out 3).trans rfl; have hfz27_0 := bf_ BK310.out 0; have hfz27_1 := bf_ BK310.out 1; have hfz27_2 := bf_ BK310.out 2; have hfz27_3 := bf_ BK310.out 3; have hcz28_0 : w25.cell? ⟨gb311, 0, none⟩ = some (.int .i64 a1_0) := (blk_cell BK311.out 0).trans rfl; have hcz28_1 : w25.cell? ⟨gb311, 1, none⟩ = some (.slice A1_1 l1_1.length c1_1) := (blk_cell BK311.out 1).trans rfl; have hcz28_2 : w25.cell? ⟨gb311, 2, none⟩ = some (.slice A1_2 l1_2.length c1_2) := (blk_cell BK311.out 2).trans rfl; have hcz28_3 : w25.cell? ⟨gb311, 3, none⟩ = some (.bool a1_3) := (blk_cell BK311.out 3).trans rfl; have hfz28_0 := bf_ BK311.out 0; have hfz28_1 := bf_ BK311.out 1; have hfz28_2 := bf_ BK311.out 2; have hfz28_3 := bf_ BK311.out 3; have hcv29 := Kd.C_string (P := Try.prog) (A := A0_1) (c := c0_1) Try.underlying55 Try.underlying5 Try.underlying9 (kB_ HR0_1.out HB.out); have hcv30 := Kd.C_string (P := Try.prog) (A := A1_1) (c := c1_1) Try.underlying55 Try.underlying5 Try.underlying9 (kB_ HR1_1.out HB.out)))
     go_ret
     exact ⟨by first | rfl | (simp [errW_none, errW_some] <;> rfl) | (simp [*, errW_none, errW_some] <;> rfl), by repeat (first | (with_reducible first | exact HB.out | apply bA_ | apply dN_ | apply b1_ | refine below_set ?_ GE310.out | refine below_set ?_ GE311.out) | exact HB.out)⟩
 · rw [if_neg c3] at H
   have c3b0 : (a0_0 == a1_0) = false := beq_eq_false_iff_ne.mpr c3
   have c3b1 : (a0_0 != a1_0) = true := bne_iff_ne.mpr c3
   obtain rfl := sO_ H
   go_enter Try.func57, Try.ntmps57
   go_wp2_with (first | ((with_reducible refine gate_dst (N := 2) rfl ?_); refine box_event ?hg (N := 2) ?hd (cs := #[.int .i64 a0_0, .slice A0_1 l0_1.length c0_1, .slice A0_2 l0_2.length c0_2, .bool a0_3]) (t := 57) ?hr ?_; (case hd => rfl); (case hg => rfl); (case hr => first | (go_simp; done) | (go_simp; rfl)); intro gb310 hg w31 hbox hb; have n0_ := m0_ (below_step (by repeat (first | (with_reducible first | exact HB.out | apply bA_ | apply dN_ | apply b1_) | exact HB.out)) hb); have n1_ := m0_ (hbox); have n2_ := m0_ ((by rw [hg]; exact (below_size (by repeat (first | (with_reducible first | exact HB.out | apply bA_ | apply dN_ | apply b1_) | exact HB.out))) : w.heap.size ≤ gb310)); have n3_ := m0_ ((by rw [hg]; exact (below_size (by repeat (first | (with_reducible first | exact HB.out | apply bA_ | apply dN_ | apply b1_) | exact HB.out))) : w.heap.size ≤ gb310)); clear HB; have HB := n0_; have BK310 := n1_; have GW310 := n2_; have GE310 := n3_; clear n0_ n1_ n2_ n3_; clear hb hbox hg) | ((with_reducible refine gate_dst (N := 3) rfl ?_); refine box_event ?hg (N := 3) ?hd (cs := #[.int .i64 a1_0, .slice A1_1 l1_1.length c1_1, .slice A1_2 l1_2.length c1_2, .bool a1_3]) (t := 57) ?hr ?_; (case hd => rfl); (case hg => rfl); (case hr => first | (go_simp; done) | (go_simp; rfl)); intro gb311 hg w32 hbox hb; have n0_ := m0_ (blk_below (g := gb310) (o := .cells #[.int .i64 a0_0, .slice A0_1 l0_1.length c0_1, .slice A0_2 l0_2.length c0_2, .bool a0_3] 57 (0, 0)) (by (with_reducible repeat (first | refine blk_drewN ?_ _ | refine blk_drew ?_ | refine blk_alloc ?_ _)); exact BK310.out) hb); have n1_ := m0_ (below_step (by repeat (first | (with_reducible first | exact HB.out | apply bA_ | apply dN_ | apply b1_ | refine below_set ?_ GE310.out) | exact HB.out)) hb); have n2_ := m0_ (hbox); have n3_ := m0_ ((by rw [hg]; exact (below_size (by repeat (first | (with_reducible first | exact HB.out | apply bA_ | apply dN_ | apply b1_ | refine below_set ?_ GE310.out) | exact HB.out))) : w.heap.size ≤ gb311)); have n4_ := m0_ ((by rw [hg]; exact (below_size (by repeat (first | (with_reducible first | exact HB.out | apply bA_ | apply dN_ | apply b1_ | refine below_set ?_ GE310.out) | exact HB.out))) : w.heap.size ≤ gb311)); have n5_ := m0_ ((by rw [hg]; exact Nat.ne_of_lt (blk_lt (g := gb310) (o := .cells #[.int .i64 a0_0, .slice A0_1 l0_1.length c0_1, .slice A0_2 l0_2.length c0_2, .bool a0_3] 57 (0, 0)) (by (with_reducible repeat (first | refine blk_drewN ?_ _ | refine blk_drew ?_ | refine blk_alloc ?_ _)); exact BK310.out)) : gb310 ≠ gb311)); have n6_ := m0_ ((by rw [hg]; exact Nat.ne_of_gt (blk_lt (g := gb310) (o := .cells #[.int .i64 a0_0, .slice A0_1 l0_1.length c0_1, .slice A0_2 l0_2.length c0_2, .bool a0_3] 57 (0, 0)) (by (with_reducible repeat (first | refine blk_drewN ?_ _ | refine blk_drew ?_ | refine blk_alloc ?_ _)); exact BK310.out)) : gb311 ≠ gb310)); clear BK310; clear HB; have BK310 := n0_; have HB := n1_; have BK311 := n2_; have GW311 := n3_; have GE311 := n4_; have NB310_311 := n5_; have NB311_310 := n6_; clear n0_ n1_ n2_ n3_ n4_ n5_ n6_; clear hb hbox hg; have hnb33 := NB310_311.out; have hnc33 := NB311_310.out; have hcz34_0 : w32.cell? ⟨gb310, 0, none⟩ = some (.int .i64 a0_0) := (blk_cell BK310.out 0).trans rfl; have hcz34_1 : w32.cell? ⟨gb310, 1, none⟩ = some (.slice A0_1 l0_1.length c0_1) := (blk_cell BK310.out 1).trans rfl; have hcz34_2 : w32.cell? ⟨gb310, 2, none⟩ = some (.slice A0_2 l0_2.length c0_2) := (blk_cell BK310.out 2).trans rfl; have hcz34_3 : w32.cell? ⟨gb310, 3, none⟩ = some (.bool a0_3) := (blk_cell BK310.out 3).trans rfl; have hfz34_0 := bf_ BK310.out 0; have hfz34_1 := bf_ BK310.out 1; have hfz34_2 := bf_ BK310.out 2; have hfz34_3 := bf_ BK310.out 3; have hcz35_0 : w32.cell? ⟨gb311, 0, none⟩ = some (.int .i64 a1_0) := (blk_cell BK311.out 0).trans rfl; have hcz35_1 : w32.cell? ⟨gb311, 1, none⟩ = some (.slice A1_1 l1_1.length c1_1) := (blk_cell BK311.out 1).trans rfl; have hcz35_2 : w32.cell? ⟨gb311, 2, none⟩ = some (.slice A1_2 l1_2.length c1_2) := (blk_cell BK311.out 2).trans rfl; have hcz35_3 : w32.cell? ⟨gb311, 3, none⟩ = some (.bool a1_3) := (blk_cell BK311.out 3).trans rfl; have hfz35_0 := bf_ BK311.out 0; have hfz35_1 := bf_ BK311.out 1; have hfz35_2 := bf_ BK311.out 2; have hfz35_3 := bf_ BK311.out 3))
   go_ret
   exact ⟨by first | rfl | (simp [errW_none, errW_some] <;> rfl) | (simp [*, errW_none, errW_some] <;> rfl), by repeat (first | (with_reducible first | exact HB.out | apply bA_ | apply dN_ | apply b1_ | refine below_set ?_ GE310.out | refine below_set ?_ GE311.out) | exact HB.out)⟩
end Go.Proofs.Ytpoaleejhdeclaa.P
