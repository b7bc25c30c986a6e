-- Written by wip/gprint.py, a program of this session over the kit's print; Lean checks it.
import Derived.Test.YtpoaleejhdeclaaPx0
import Derived.Test.YtpoaleejhdeclaaPx1
namespace Go.Proofs.Ytpoaleejhdeclaa.P
open Go.RowKit Go.Proofs.YtpoaleejhdeclaaW.PrintWords Go.Proofs.YtpoaleejhdeclaaW.PrintLast Go.Proofs.YtpoaleejhdeclaaW.PrintMore
attribute [local go_sem] max2_int min2_int max_two min_two max_three min_three max_four min_four   -- for this text's walks alone
set_option linter.unusedVariables false
set_option linter.unusedSimpArgs false

/-! ### banksmanlaw14_committed: function 17 -/
mutual
def banksmanlaw14_committed.l0 : Nat → List (S43) → List (S50) → Int → Option ((List (S50)))
  | 0, _, _, _ => none
  | k + 1, x0, x3, x4 => if x4 < (x0.length : Int) then (if 0 ≤ x4 then (if (wrap64 ((x3.length : Int) + 1)) = 0 then (none) else (if (rd_T43 x0 x4).f1 = true then (if x3.length < 1759218604441 then (banksmanlaw14_committed.l0 k x0 (x3 ++ [(⟨wrap64 ((wrap64 ((x3.length : Int) + 1)) - 1), wrap64 ((x3.length : Int) + 1), (rd_T43 x0 x4).f1, (rd_T43 x0 x4).f2, (rd_T43 x0 x4).f3, false⟩ : S50)]) (wrap64 (x4 + 1))) else (none)) else (banksmanlaw14_committed.l1 k x0 x3 x4 (wrap64 ((x3.length : Int) + 1)) (wrap64 ((wrap64 ((wrap64 ((x3.length : Int) + 1)) - 1)) - (Int.tmod (wrap64 ((rd_T43 x0 x4).f0)) (wrap64 ((x3.length : Int) + 1))))) ([] : List (S24)) (wrap64 (x4 + 1))))) else (none)) else (some x3)
def banksmanlaw14_committed.l1 : Nat → List (S43) → List (S50) → Int → Int → Int → List (S24) → Int → Option ((List (S50)))
  | 0, _, _, _, _, _, _, _ => none
  | k + 1, x0, x3, x4, x5, x6, x8, x9 => if x9 < (x0.length : Int) then (if 0 ≤ x9 then (if (wrap64 ((((rd_T43 x0 x9).f2).length : Int) + 1)) = 0 then (none) else (if ((rd_T43 x0 x9).f1 = true) then (banksmanlaw14_committed.l1 k x0 x3 x4 x5 x6 x8 (wrap64 (x9 + 1))) else (if 0 ≤ (Int.tmod (wrap64 ((rd_T43 x0 x9).f4)) (wrap64 ((((rd_T43 x0 x9).f2).length : Int) + 1))) then (if (Int.tmod (wrap64 ((rd_T43 x0 x9).f4)) (wrap64 ((((rd_T43 x0 x9).f2).length : Int) + 1))) ≤ (((rd_T43 x0 x9).f2).length : Int) then (if x8.length < 4398046511104 then (banksmanlaw14_committed.l1 k x0 x3 x4 x5 x6 (x8 ++ [(⟨0, (((rd_T43 x0 x9).f2).take ((Int.tmod (wrap64 ((rd_T43 x0 x9).f4)) (wrap64 ((((rd_T43 x0 x9).f2).length : Int) + 1))) : Int).toNat)⟩ : S24)]) (wrap64 (x9 + 1))) else (none)) else (none)) else (none)))) else (none)) else (if 0 ≤ x4 then (if x4 < (x0.length : Int) then ((rival_Judge.f x6 ((rd_T43 x0 x4).f2) ((rd_T43 x0 x4).f3) x3 x8).bind fun bt368 => (if bt368.2 = 0 then (if x3.length < 1759218604441 then (banksmanlaw14_committed.l0 k x0 (x3 ++ [(⟨x6, x5, (rd_T43 x0 x4).f1, (rd_T43 x0 x4).f2, (rd_T43 x0 x4).f3, bt368.1⟩ : S50)]) (wrap64 (x4 + 1))) else (none)) else (banksmanlaw14_committed.l0 k x0 x3 (wrap64 (x4 + 1))))) else (none)) else (none))
end
def banksmanlaw14_committed.f (k : Nat) (l0 : List (S43)) : Option ((List (S50))) := banksmanlaw14_committed.l0 k l0 ([] : List (S50)) 0
theorem banksmanlaw14_committed.mono_l : ∀ k, (∀ y0 y1 y2, LeO (banksmanlaw14_committed.l0 k y0 y1 y2) (banksmanlaw14_committed.l0 (k + 1) y0 y1 y2)) ∧ (∀ y0 y1 y2 y3 y4 y5 y6, LeO (banksmanlaw14_committed.l1 k y0 y1 y2 y3 y4 y5 y6) (banksmanlaw14_committed.l1 (k + 1) y0 y1 y2 y3 y4 y5 y6))
  | 0 => ⟨fun _ _ _ r h => by simp [banksmanlaw14_committed.l0] at h, fun _ _ _ _ _ _ _ r h => by simp [banksmanlaw14_committed.l1] at h⟩
  | k + 1 => by
    obtain ⟨ih0, ih1⟩ := banksmanlaw14_committed.mono_l k
    refine ⟨?_, ?_⟩
    · intro y0 y1 y2
      unfold banksmanlaw14_committed.l0
      repeat' first
      | (with_reducible exact ih0 _ _ _)
      | (with_reducible exact ih1 _ _ _ _ _ _ _)
      | (with_reducible exact LeO.refl _)
      | (with_reducible exact LeO.none _)
      | (with_reducible refine LeO.ite ?_ ?_)
      | (with_reducible refine LeO.bind ?_ (fun _ => ?_))
      | exact ih0 _ _ _
      | exact ih1 _ _ _ _ _ _ _
      | exact LeO.none _
      | refine LeO.ite ?_ ?_
      | refine LeO.bind ?_ (fun _ => ?_)
    · intro y0 y1 y2 y3 y4 y5 y6
      unfold banksmanlaw14_committed.l1
      repeat' first
      | (with_reducible exact ih0 _ _ _)
      | (with_reducible exact ih1 _ _ _ _ _ _ _)
      | (with_reducible exact LeO.refl _)
      | (with_reducible exact LeO.none _)
      | (with_reducible refine LeO.ite ?_ ?_)
      | (with_reducible refine LeO.bind ?_ (fun _ => ?_))
      | exact ih0 _ _ _
      | exact ih1 _ _ _ _ _ _ _
      | exact LeO.none _
      | refine LeO.ite ?_ ?_
      | refine LeO.bind ?_ (fun _ => ?_)
theorem banksmanlaw14_committed.mono : ∀ a0 k, LeO (banksmanlaw14_committed.f k a0) (banksmanlaw14_committed.f (k + 1) a0) := by
  intro a0 k
  obtain ⟨ih0, ih1⟩ := banksmanlaw14_committed.mono_l k
  unfold banksmanlaw14_committed.f
  repeat' first
      | (with_reducible exact ih0 _ _ _)
      | (with_reducible exact ih1 _ _ _ _ _ _ _)
      | (with_reducible exact LeO.refl _)
      | (with_reducible exact LeO.none _)
      | (with_reducible refine LeO.ite ?_ ?_)
      | (with_reducible refine LeO.bind ?_ (fun _ => ?_))
      | exact ih0 _ _ _
      | exact ih1 _ _ _ _ _ _ _
      | exact LeO.none _
      | refine LeO.ite ?_ ?_
      | refine LeO.bind ?_ (fun _ => ?_)
def banksmanlaw14_committed.T14 : Bool × List (List Nat × List Nat) := (true, [([], []), ([], []), ([0, 1], [0, 1]), ([2], [2]), ([3], [3]), ([4], [4]), ([], []), ([], []), ([6, 7], [6, 7]), ([8], [8]), ([9], [9]), ([10], [10]), ([11], [11]), ([5, 12], [5, 12]), ([13, 0, 1, 2, 3, 4, 5, 6, 7, 8, 9, 10, 11, 12, 13], [13])])
def banksmanlaw14_committed.B14 : List Nat := [0, 0, 3, 7, 15, 31, 0, 0, 192, 448, 960, 1984, 4032, 8191, 16383]
theorem banksmanlaw14_committed.tab14 : rtab .any (opsOf Try.f17 14) = banksmanlaw14_committed.T14 := by kernel_rfl
theorem banksmanlaw14_committed.bits14 : waitsOk banksmanlaw14_committed.T14.2 banksmanlaw14_committed.B14 = true := by kernel_rfl
def banksmanlaw14_committed.T17 : Bool × List (List Nat × List Nat) := (true, [([], []), ([], []), ([], []), ([1, 2], [1, 2]), ([3], [3]), ([4], [4]), ([0, 5], [0, 5]), ([], []), ([], []), ([7, 8], [7, 8]), ([9], [9]), ([10], [10]), ([], []), ([], []), ([6, 11, 12, 13], [6, 11, 12, 13]), ([14], [14]), ([15], [15]), ([15], [15]), ([16, 14, 0, 1, 2, 3, 4, 5, 6, 7, 8, 9, 10, 11, 12, 13, 14, 15, 16], [16]), ([17, 18, 0, 1, 2, 3, 4, 5, 6, 7, 8, 9, 10, 11, 12, 13, 14, 15, 16, 17, 18], [17])])
def banksmanlaw14_committed.B17 : List Nat := [0, 0, 0, 6, 14, 30, 63, 0, 0, 384, 896, 1920, 0, 0, 16383, 32767, 65535, 65535, 131071, 524287]
theorem banksmanlaw14_committed.tab17 : rtab .any (opsOf Try.f17 17) = banksmanlaw14_committed.T17 := by kernel_rfl
theorem banksmanlaw14_committed.bits17 : waitsOk banksmanlaw14_committed.T17.2 banksmanlaw14_committed.B17 = true := by kernel_rfl
def banksmanlaw14_committed.T20 : Bool × List (List Nat × List Nat) := (true, [([], []), ([], []), ([], []), ([], []), ([], []), ([3, 4], [3, 4]), ([5], [5]), ([6], [6]), ([], []), ([], []), ([8, 9], [8, 9]), ([10], [10]), ([11], [11]), ([], []), ([], []), ([13, 14], [13, 14]), ([15], [15]), ([16], [16]), ([], []), ([1, 2, 7, 12, 17, 18], [1, 2, 7, 12, 17, 18]), ([19], [19]), ([0, 20], [0, 20]), ([21, 21, 0, 1, 2, 3, 4, 5, 6, 7, 8, 9, 10, 11, 12, 13, 14, 15, 16, 17, 18, 19, 20, 21], [0, 21])])
def banksmanlaw14_committed.B20 : List Nat := [0, 0, 0, 0, 0, 24, 56, 120, 0, 0, 768, 1792, 3840, 0, 0, 24576, 57344, 122880, 0, 524286, 1048574, 2097151, 4194303]
theorem banksmanlaw14_committed.tab20 : rtab .any (opsOf Try.f17 20) = banksmanlaw14_committed.T20 := by kernel_rfl
theorem banksmanlaw14_committed.bits20 : waitsOk banksmanlaw14_committed.T20.2 banksmanlaw14_committed.B20 = true := by kernel_rfl
set_option maxHeartbeats 8000000 in
set_option maxRecDepth 100000 in
theorem banksmanlaw14_committed.calls (k : Nat) (P0_ : Nat → Prop) (A0 : Option Addr) (c0 : Nat) (l0 : List (S43)) (r : List (S50)) (w : World) (hs0 : Kd.V k43 43 w w.heap.size (fun k_ => P0_ k_) (.slice A0 l0.length c0) l0) (h : banksmanlaw14_committed.f k l0 = some r) :
  Calls Try.prog 17 #[.slice A0 l0.length c0] w fun e w' => ∃ v0_ : Value, e = .returned (v0_) ∧ Kd.N k50 50 w' w.heap.size (fun k_ => (P0_ k_ ∨ w.heap.size ≤ k_)) v0_ r ∧ Below w.heap.size w w' := by
 have hu24 := Try.underlying24
 have hu50 := Try.underlying50
 have HO0 := aM (show Kd.V k43 43 w w.heap.size (fun k_ => (P0_ k_ ∨ w.heap.size ≤ k_)) (.slice A0 l0.length c0) l0 from Kd.V_mono hs0 (fun k_ hk => .inl hk))
 have HB := aM (Below.refl w.heap.size w)
 have H : (banksmanlaw14_committed.l0 k l0 ([] : List (S50)) 0) = some r := h
 clear h
 have H' := aM H
 clear H
 go_enter Try.func17, Try.ntmps17
 go_wp2
 go_loopg [3, 4] k (fun kq v3 v4 w' => ∃ (x3_1 : List (S50)) (x4_1 : Int), v4 = .int .i64 x4_1 ∧ Aside0 (banksmanlaw14_committed.l0 kq l0 x3_1 x4_1 = some r) ∧ Aside0 (kq ≤ k) ∧ Aside0 (Kd.V k43 43 w' w.heap.size (fun k_ => (P0_ k_ ∨ w.heap.size ≤ k_) ∧ some k_ ≠ (v3 : Value).ownBlock) (.slice A0 l0.length c0) l0) ∧ Aside0 (Kd.N k50 50 w' w.heap.size (fun k_ => (P0_ k_ ∨ w.heap.size ≤ k_)) v3 x3_1) ∧ Aside0 (Below w.heap.size w w'))
 case atStart => exact ⟨(([] : List (S50))), (0), (by first | rfl | (simp; done) | (simp [*]; done)), H', ⟨Nat.le_refl _⟩, ⟨by (with_reducible repeat (first | apply Kd.V_alloc | apply Kd.V_drewN | apply Kd.V_drew)); exact Kd.V_mono HO0.out (fun _ hk => ⟨hk, (by simp [Value.ownBlock])⟩)⟩, ⟨by first | exact Kd.R_nil _ _ _ _ _ | exact Kd.N_nil _ _ _ _ _ | exact Kd.V_nil _ _ _ _ _ | exact Kd.Q_nil _ _ _ _ _ | exact Kd.S_nil _ _ _ _ _⟩, ⟨by repeat (first | (with_reducible first | exact HB.out | apply bA | apply bN | apply bD) | exact HB.out)⟩⟩
 case round =>
  clear H'
  try clear c1
  obtain ⟨x3_1, x4_1, rfl, HA, HK1, HO_0, HO_3, HB⟩ := hrel
  cases gk with
  | zero => exact absurd HA.out (by simp [banksmanlaw14_committed.l0])
  | succ k1 =>
   have H := HA.out
   clear HA
   simp only [banksmanlaw14_committed.l0] at H
   by_cases c2 : x4_1 < (l0.length : Int)
   ·
    rw [if_pos c2] at H
    have c2b0 : decide (x4_1 < (l0.length : Int)) = true := decide_eq_true c2
    clear c2
    by_cases c3 : 0 ≤ x4_1
    ·
     rw [if_pos c3] at H
     have c3b0 : decide (0 ≤ x4_1) = true := decide_eq_true c3
     clear c3
     by_cases c4 : (wrap64 ((x3_1.length : Int) + 1)) = 0
     ·
      rw [if_pos c4] at H
      exact absurd H (by simp)
     ·
      rw [if_neg c4] at H
      have c4b0 : ((wrap64 ((x3_1.length : Int) + 1)) == 0) = false := beq_eq_false_iff_ne.mpr c4
      have c4b1 : ((wrap64 ((x3_1.length : Int) + 1)) != 0) = true := bne_iff_ne.mpr c4
      obtain ⟨bq5, hbq5⟩ : ∃ b_ : Bool, b_ = ((rd_T43 l0 x4_1).f1) := ⟨_, rfl⟩
      replace H : (if bq5 = true then (if x3_1.length < 1759218604441 then (banksmanlaw14_committed.l0 k1 l0 (x3_1 ++ [(⟨wrap64 ((wrap64 ((x3_1.length : Int) + 1)) - 1), wrap64 ((x3_1.length : Int) + 1), bq5, (rd_T43 l0 x4_1).f2, (rd_T43 l0 x4_1).f3, false⟩ : S50)]) (wrap64 (x4_1 + 1))) else (none)) else (banksmanlaw14_committed.l1 k1 l0 x3_1 x4_1 (wrap64 ((x3_1.length : Int) + 1)) (wrap64 ((wrap64 ((wrap64 ((x3_1.length : Int) + 1)) - 1)) - (Int.tmod (wrap64 ((rd_T43 l0 x4_1).f0)) (wrap64 ((x3_1.length : Int) + 1))))) ([] : List (S24)) (wrap64 (x4_1 + 1)))) = some r := by rw [← hbq5] at H; exact H
      have Nbq5 := aM hbq5
      clear hbq5
      by_cases c6 : bq5 = true
      ·
       subst c6
       have H1 : (if x3_1.length < 1759218604441 then (banksmanlaw14_committed.l0 k1 l0 (x3_1 ++ [(⟨wrap64 ((wrap64 ((x3_1.length : Int) + 1)) - 1), wrap64 ((x3_1.length : Int) + 1), true, (rd_T43 l0 x4_1).f2, (rd_T43 l0 x4_1).f3, false⟩ : S50)]) (wrap64 (x4_1 + 1))) else (none)) = some r := by rw [if_pos rfl] at H; exact H
       clear H
       have H := H1
       clear H1
       by_cases c7 : x3_1.length < 1759218604441
       ·
        rw [if_pos c7] at H
        have LMc7 := aM c7
        clear c7
        obtain ⟨y351, hy351⟩ : ∃ y_ : List (S50), y_ = (x3_1 ++ [(⟨wrap64 ((wrap64 ((x3_1.length : Int) + 1)) - 1), wrap64 ((x3_1.length : Int) + 1), true, (rd_T43 l0 x4_1).f2, (rd_T43 l0 x4_1).f3, false⟩ : S50)]) := ⟨_, rfl⟩
        replace H : (banksmanlaw14_committed.l0 k1 l0 y351 (wrap64 (x4_1 + 1))) = some r := by first | (rw [hy351]; with_reducible exact H) | (have H2_ := (Option.bind_some _ _).symm.trans H; rw [hy351]; with_reducible exact H2_) | (have H2_ := (Option.bind_some _ _).symm.trans H; with_reducible exact H2_) | with_reducible exact H | (rw [hy351]; exact H) | exact H
        have Ny351 := aM hy351
        clear hy351
        have H' := aM H
        clear H
        obtain ⟨Ao8, co8, eo8⟩ := Kd.N_slice HO_3.out
        subst eo8
        have p346 : 0 ≤ (x4_1 : Int) := of_decide_eq_true (by first | (with_reducible assumption) | assumption)
        have q346 : x4_1 < (l0.length : Int) := of_decide_eq_true (by first | (with_reducible assumption) | assumption)
        obtain ⟨ad346, A346_2, c346_2, A346_3, c346_3, e346, hx346_0, hx346_1, hx346_2, hx346_3, hx346_4, hl346_2, hi346_2, hl346_3, hi346_3⟩ := at_T43 (Kd.V_reads' HO_0.out).2.2 x4_1 p346 q346
        (try rw [← Nbq5.out] at hx346_1)
        cases e346
        obtain ⟨ce346, hce346, hMe346, hcc346⟩ := Kd.V_get HO_0.out z43 x4_1 p346 (by first | exact q346 | exact of_decide_eq_true (by first | (with_reducible assumption) | assumption) | (have e_ := (Kd.V_reads' HO_0.out).1; omega))
        obtain ⟨ua346_2, uc346_2, ua346_3, uc346_3, rfl, ul346_2, ge346_2, ul346_3, ge346_3⟩ := k43_openF hMe346
        have hv346_2 := hcc346 2 _ rfl
        rw [add_field _ _ 2 (by omega)] at hv346_2
        replace hv346_2 := Option.some.inj (hv346_2.symm.trans hx346_2)
        injection hv346_2 with hva_ hvn_ hvc_
        rw [hva_] at ge346_2
        rw [hvc_] at ul346_2
        have HLq4 := aM (show Kd.V k57 57 _ w.heap.size _ _ ((rd_T43 l0 x4_1).f2) from Kd.V_mk ul346_2 ge346_2)
        clear hva_ hvn_ hvc_ ge346_2 ul346_2
        have hv346_3 := hcc346 3 _ rfl
        rw [add_field _ _ 3 (by omega)] at hv346_3
        replace hv346_3 := Option.some.inj (hv346_3.symm.trans hx346_3)
        injection hv346_3 with hva_ hvn_ hvc_
        rw [hva_] at ge346_3
        rw [hvc_] at ul346_3
        have HLq5 := aM (show Kd.V k59 59 _ w.heap.size _ _ ((rd_T43 l0 x4_1).f3) from Kd.V_mk ul346_3 ge346_3)
        clear hva_ hvn_ hvc_ ge346_3 ul346_3
        clear hcc346 hce346
        have HRq4 := aM hi346_2
        have HCq2 := aM hl346_2
        clear hi346_2 hl346_2
        have HRq5 := aM hi346_3
        have HCq3 := aM hl346_3
        clear hi346_3 hl346_3
        replace p346 := eq_true p346
        replace q346 := eq_true q346
        have p347 : 0 ≤ (x4_1 : Int) := of_decide_eq_true (by first | (with_reducible assumption) | assumption)
        have q347 : x4_1 < (l0.length : Int) := of_decide_eq_true (by first | (with_reducible assumption) | assumption)
        obtain ⟨ad347, A347_2, c347_2, A347_3, c347_3, e347, hx347_0, hx347_1, hx347_2, hx347_3, hx347_4, hl347_2, hi347_2, hl347_3, hi347_3⟩ := at_T43 (Kd.V_reads' HO_0.out).2.2 x4_1 p347 q347
        (try rw [← Nbq5.out] at hx347_1)
        obtain rfl : ad346 = ad347 := (by injection e347)
        obtain ⟨ce347, hce347, hMe347, hcc347⟩ := Kd.V_get HO_0.out z43 x4_1 p347 (by first | exact q347 | exact of_decide_eq_true (by first | (with_reducible assumption) | assumption) | (have e_ := (Kd.V_reads' HO_0.out).1; omega))
        obtain ⟨ua347_2, uc347_2, ua347_3, uc347_3, rfl, ul347_2, ge347_2, ul347_3, ge347_3⟩ := k43_openF hMe347
        have hv347_2 := hcc347 2 _ rfl
        rw [add_field _ _ 2 (by omega)] at hv347_2
        replace hv347_2 := Option.some.inj (hv347_2.symm.trans hx347_2)
        injection hv347_2 with hva_ hvn_ hvc_
        rw [hva_] at ge347_2
        rw [hvc_] at ul347_2
        have HLq6 := aM (show Kd.V k57 57 _ w.heap.size _ _ ((rd_T43 l0 x4_1).f2) from Kd.V_mk ul347_2 ge347_2)
        clear hva_ hvn_ hvc_ ge347_2 ul347_2
        have hv347_3 := hcc347 3 _ rfl
        rw [add_field _ _ 3 (by omega)] at hv347_3
        replace hv347_3 := Option.some.inj (hv347_3.symm.trans hx347_3)
        injection hv347_3 with hva_ hvn_ hvc_
        rw [hva_] at ge347_3
        rw [hvc_] at ul347_3
        have HLq7 := aM (show Kd.V k59 59 _ w.heap.size _ _ ((rd_T43 l0 x4_1).f3) from Kd.V_mk ul347_3 ge347_3)
        clear hva_ hvn_ hvc_ ge347_3 ul347_3
        clear hcc347 hce347
        have HRq6 := aM hi347_2
        have HCq4 := aM hl347_2
        clear hi347_2 hl347_2
        have HRq7 := aM hi347_3
        have HCq5 := aM hl347_3
        clear hi347_3 hl347_3
        replace p347 := eq_true p347
        replace q347 := eq_true q347
        have ea_ := Option.some.inj (hx346_2.symm.trans hx347_2)
        injection ea_ with ea_ en_ ec_
        subst ea_
        subst ec_
        clear en_
        have ea_ := Option.some.inj (hx346_3.symm.trans hx347_3)
        injection ea_ with ea_ en_ ec_
        subst ea_
        subst ec_
        clear en_
        try go_wp2
        have n0_ := aM (Kd.V_drew HO_0.out)
        have n1_ := aM (Kd.N_drew HO_3.out)
        have n2_ := aM (Kd.V_drew HLq4.out)
        have n3_ := aM (Kd.V_drew HLq5.out)
        have n4_ := aM (Kd.V_drew HLq6.out)
        have n5_ := aM (Kd.V_drew HLq7.out)
        have n6_ := aM (Kd.C_drew HRq4.out)
        have n7_ := aM (Kd.C_drew HRq5.out)
        have n8_ := aM (Kd.C_drew HRq6.out)
        have n9_ := aM (Kd.C_drew HRq7.out)
        have n10_ := aM (bD HB.out)
        clear HO_0
        clear HO_3
        clear HLq4
        clear HLq5
        clear HLq6
        clear HLq7
        clear HRq4
        clear HRq5
        clear HRq6
        clear HRq7
        clear HB
        have HO_0 := n0_
        have HO_3 := n1_
        have HLq4 := n2_
        have HLq5 := n3_
        have HLq6 := n4_
        have HLq7 := n5_
        have HRq4 := n6_
        have HRq5 := n7_
        have HRq6 := n8_
        have HRq7 := n9_
        have HB := n10_
        clear n0_ n1_ n2_ n3_ n4_ n5_ n6_ n7_ n8_ n9_ n10_
        have p348 : 0 ≤ (x4_1 : Int) := of_decide_eq_true (by first | (with_reducible assumption) | assumption)
        have q348 : x4_1 < (l0.length : Int) := of_decide_eq_true (by first | (with_reducible assumption) | assumption)
        obtain ⟨ad348, A348_2, c348_2, A348_3, c348_3, e348, hx348_0, hx348_1, hx348_2, hx348_3, hx348_4, hl348_2, hi348_2, hl348_3, hi348_3⟩ := at_T43 (Kd.V_reads' HO_0.out).2.2 x4_1 p348 q348
        (try rw [← Nbq5.out] at hx348_1)
        obtain rfl : ad346 = ad348 := (by injection e348)
        obtain ⟨ce348, hce348, hMe348, hcc348⟩ := Kd.V_get HO_0.out z43 x4_1 p348 (by first | exact q348 | exact of_decide_eq_true (by first | (with_reducible assumption) | assumption) | (have e_ := (Kd.V_reads' HO_0.out).1; omega))
        obtain ⟨ua348_2, uc348_2, ua348_3, uc348_3, rfl, ul348_2, ge348_2, ul348_3, ge348_3⟩ := k43_openF hMe348
        have hv348_2 := hcc348 2 _ rfl
        rw [add_field _ _ 2 (by omega)] at hv348_2
        replace hv348_2 := Option.some.inj (hv348_2.symm.trans hx348_2)
        injection hv348_2 with hva_ hvn_ hvc_
        rw [hva_] at ge348_2
        rw [hvc_] at ul348_2
        have HLq16 := aM (show Kd.V k57 57 _ w.heap.size _ _ ((rd_T43 l0 x4_1).f2) from Kd.V_mk ul348_2 ge348_2)
        clear hva_ hvn_ hvc_ ge348_2 ul348_2
        have hv348_3 := hcc348 3 _ rfl
        rw [add_field _ _ 3 (by omega)] at hv348_3
        replace hv348_3 := Option.some.inj (hv348_3.symm.trans hx348_3)
        injection hv348_3 with hva_ hvn_ hvc_
        rw [hva_] at ge348_3
        rw [hvc_] at ul348_3
        have HLq17 := aM (show Kd.V k59 59 _ w.heap.size _ _ ((rd_T43 l0 x4_1).f3) from Kd.V_mk ul348_3 ge348_3)
        clear hva_ hvn_ hvc_ ge348_3 ul348_3
        clear hcc348 hce348
        have HRq12 := aM hi348_2
        have HCq15 := aM hl348_2
        clear hi348_2 hl348_2
        have HRq13 := aM hi348_3
        have HCq16 := aM hl348_3
        clear hi348_3 hl348_3
        replace p348 := eq_true p348
        replace q348 := eq_true q348
        have p349 : 0 ≤ (x4_1 : Int) := of_decide_eq_true (by first | (with_reducible assumption) | assumption)
        have q349 : x4_1 < (l0.length : Int) := of_decide_eq_true (by first | (with_reducible assumption) | assumption)
        obtain ⟨ad349, A349_2, c349_2, A349_3, c349_3, e349, hx349_0, hx349_1, hx349_2, hx349_3, hx349_4, hl349_2, hi349_2, hl349_3, hi349_3⟩ := at_T43 (Kd.V_reads' HO_0.out).2.2 x4_1 p349 q349
        (try rw [← Nbq5.out] at hx349_1)
        obtain rfl : ad346 = ad349 := (by injection e349)
        obtain ⟨ce349, hce349, hMe349, hcc349⟩ := Kd.V_get HO_0.out z43 x4_1 p349 (by first | exact q349 | exact of_decide_eq_true (by first | (with_reducible assumption) | assumption) | (have e_ := (Kd.V_reads' HO_0.out).1; omega))
        obtain ⟨ua349_2, uc349_2, ua349_3, uc349_3, rfl, ul349_2, ge349_2, ul349_3, ge349_3⟩ := k43_openF hMe349
        have hv349_2 := hcc349 2 _ rfl
        rw [add_field _ _ 2 (by omega)] at hv349_2
        replace hv349_2 := Option.some.inj (hv349_2.symm.trans hx349_2)
        injection hv349_2 with hva_ hvn_ hvc_
        rw [hva_] at ge349_2
        rw [hvc_] at ul349_2
        have HLq8 := aM (show Kd.V k57 57 _ w.heap.size _ _ ((rd_T43 l0 x4_1).f2) from Kd.V_mk ul349_2 ge349_2)
        clear hva_ hvn_ hvc_ ge349_2 ul349_2
        have hv349_3 := hcc349 3 _ rfl
        rw [add_field _ _ 3 (by omega)] at hv349_3
        replace hv349_3 := Option.some.inj (hv349_3.symm.trans hx349_3)
        injection hv349_3 with hva_ hvn_ hvc_
        rw [hva_] at ge349_3
        rw [hvc_] at ul349_3
        have HLq18 := aM (show Kd.V k59 59 _ w.heap.size _ _ ((rd_T43 l0 x4_1).f3) from Kd.V_mk ul349_3 ge349_3)
        clear hva_ hvn_ hvc_ ge349_3 ul349_3
        clear hcc349 hce349
        have HRq14 := aM hi349_2
        have HCq17 := aM hl349_2
        clear hi349_2 hl349_2
        have HRq15 := aM hi349_3
        have HCq18 := aM hl349_3
        clear hi349_3 hl349_3
        replace p349 := eq_true p349
        replace q349 := eq_true q349
        have ea_ := Option.some.inj (hx348_2.symm.trans hx349_2)
        injection ea_ with ea_ en_ ec_
        subst ea_
        subst ec_
        clear en_
        have ea_ := Option.some.inj (hx348_3.symm.trans hx349_3)
        injection ea_ with ea_ en_ ec_
        subst ea_
        subst ec_
        clear en_
        have p350 : 0 ≤ (x4_1 : Int) := of_decide_eq_true (by first | (with_reducible assumption) | assumption)
        have q350 : x4_1 < (l0.length : Int) := of_decide_eq_true (by first | (with_reducible assumption) | assumption)
        obtain ⟨ad350, A350_2, c350_2, A350_3, c350_3, e350, hx350_0, hx350_1, hx350_2, hx350_3, hx350_4, hl350_2, hi350_2, hl350_3, hi350_3⟩ := at_T43 (Kd.V_reads' HO_0.out).2.2 x4_1 p350 q350
        (try rw [← Nbq5.out] at hx350_1)
        obtain rfl : ad346 = ad350 := (by injection e350)
        obtain ⟨ce350, hce350, hMe350, hcc350⟩ := Kd.V_get HO_0.out z43 x4_1 p350 (by first | exact q350 | exact of_decide_eq_true (by first | (with_reducible assumption) | assumption) | (have e_ := (Kd.V_reads' HO_0.out).1; omega))
        obtain ⟨ua350_2, uc350_2, ua350_3, uc350_3, rfl, ul350_2, ge350_2, ul350_3, ge350_3⟩ := k43_openF hMe350
        have hv350_2 := hcc350 2 _ rfl
        rw [add_field _ _ 2 (by omega)] at hv350_2
        replace hv350_2 := Option.some.inj (hv350_2.symm.trans hx350_2)
        injection hv350_2 with hva_ hvn_ hvc_
        rw [hva_] at ge350_2
        rw [hvc_] at ul350_2
        have HLq19 := aM (show Kd.V k57 57 _ w.heap.size _ _ ((rd_T43 l0 x4_1).f2) from Kd.V_mk ul350_2 ge350_2)
        clear hva_ hvn_ hvc_ ge350_2 ul350_2
        have hv350_3 := hcc350 3 _ rfl
        rw [add_field _ _ 3 (by omega)] at hv350_3
        replace hv350_3 := Option.some.inj (hv350_3.symm.trans hx350_3)
        injection hv350_3 with hva_ hvn_ hvc_
        rw [hva_] at ge350_3
        rw [hvc_] at ul350_3
        have HLq9 := aM (show Kd.V k59 59 _ w.heap.size _ _ ((rd_T43 l0 x4_1).f3) from Kd.V_mk ul350_3 ge350_3)
        clear hva_ hvn_ hvc_ ge350_3 ul350_3
        clear hcc350 hce350
        have HRq16 := aM hi350_2
        have HCq19 := aM hl350_2
        clear hi350_2 hl350_2
        have HRq17 := aM hi350_3
        have HCq20 := aM hl350_3
        clear hi350_3 hl350_3
        replace p350 := eq_true p350
        replace q350 := eq_true q350
        have ea_ := Option.some.inj (hx348_2.symm.trans hx350_2)
        injection ea_ with ea_ en_ ec_
        subst ea_
        subst ec_
        clear en_
        have ea_ := Option.some.inj (hx348_3.symm.trans hx350_3)
        injection ea_ with ea_ en_ ec_
        subst ea_
        subst ec_
        clear en_
        refine start_ (n := 23) (S := fun w' => w'.cell? (ad346.add ((x4_1).toNat * 5)) = some (.int .u8 ((rd_T43 l0 x4_1).f0)) ∧ w'.cell? ⟨(ad346.add ((x4_1).toNat * 5)).block, (ad346.add ((x4_1).toNat * 5)).off + 1, none⟩ = some (.bool (true)) ∧ w'.cell? ⟨(ad346.add ((x4_1).toNat * 5)).block, (ad346.add ((x4_1).toNat * 5)).off + 2, none⟩ = some (.slice A348_2 ((rd_T43 l0 x4_1).f2).length c348_2) ∧ w'.cell? ⟨(ad346.add ((x4_1).toNat * 5)).block, (ad346.add ((x4_1).toNat * 5)).off + 3, none⟩ = some (.slice A348_3 ((rd_T43 l0 x4_1).f3).length c348_3) ∧ w'.cell? ⟨(ad346.add ((x4_1).toNat * 5)).block, (ad346.add ((x4_1).toNat * 5)).off + 4, none⟩ = some (.int .u8 ((rd_T43 l0 x4_1).f4)) ∧ w'.cell? (ad346.add ((x4_1).toNat * 5)) = some (.int .u8 ((rd_T43 l0 x4_1).f0)) ∧ w'.cell? ⟨(ad346.add ((x4_1).toNat * 5)).block, (ad346.add ((x4_1).toNat * 5)).off + 1, none⟩ = some (.bool (true)) ∧ w'.cell? ⟨(ad346.add ((x4_1).toNat * 5)).block, (ad346.add ((x4_1).toNat * 5)).off + 2, none⟩ = some (.slice A348_2 ((rd_T43 l0 x4_1).f2).length c348_2) ∧ w'.cell? ⟨(ad346.add ((x4_1).toNat * 5)).block, (ad346.add ((x4_1).toNat * 5)).off + 3, none⟩ = some (.slice A348_3 ((rd_T43 l0 x4_1).f3).length c348_3) ∧ w'.cell? ⟨(ad346.add ((x4_1).toNat * 5)).block, (ad346.add ((x4_1).toNat * 5)).off + 4, none⟩ = some (.int .u8 ((rd_T43 l0 x4_1).f4)) ∧ w'.cell? (ad346.add ((x4_1).toNat * 5)) = some (.int .u8 ((rd_T43 l0 x4_1).f0)) ∧ w'.cell? ⟨(ad346.add ((x4_1).toNat * 5)).block, (ad346.add ((x4_1).toNat * 5)).off + 1, none⟩ = some (.bool (true)) ∧ w'.cell? ⟨(ad346.add ((x4_1).toNat * 5)).block, (ad346.add ((x4_1).toNat * 5)).off + 2, none⟩ = some (.slice A348_2 ((rd_T43 l0 x4_1).f2).length c348_2) ∧ w'.cell? ⟨(ad346.add ((x4_1).toNat * 5)).block, (ad346.add ((x4_1).toNat * 5)).off + 3, none⟩ = some (.slice A348_3 ((rd_T43 l0 x4_1).f3).length c348_3) ∧ w'.cell? ⟨(ad346.add ((x4_1).toNat * 5)).block, (ad346.add ((x4_1).toNat * 5)).off + 4, none⟩ = some (.int .u8 ((rd_T43 l0 x4_1).f4))) (ds := [20, 21]) #[F_,F_,F_,F_,F_,F_,F_,F_,F_,F_,F_,F_,F_,F_,F_,F_,F_,F_,F_,F_,F_,F_,F_] (by kernel_rfl) rfl rfl ⟨hx348_0, hx348_1, hx348_2, hx348_3, hx348_4, hx349_0, hx349_1, hx349_2, hx349_3, hx349_4, hx350_0, hx350_1, hx350_2, hx350_3, hx350_4⟩ (fun hHeld => ?_); refine with_tabW banksmanlaw14_committed.tab20 banksmanlaw14_committed.bits20 (fun HT_ HW_ => ?_)
        generalize wr.drew = w9 at HO_0 HO_3 HLq4 HLq5 HLq6 HLq7 HRq4 HRq5 HRq6 HRq7 HB HLq16 HLq17 HLq8 HLq18 HLq19 HLq9 HRq12 HRq13 HRq14 HRq15 HRq16 HRq17 hx348_0 hx348_1 hx348_2 hx348_3 hx348_4 hx349_0 hx349_1 hx349_2 hx349_3 hx349_4 hx350_0 hx350_1 hx350_2 hx350_3 hx350_4 hHeld ⊢
        refine pure_ (i := 0) (N := some 100) (v := ?_) (a' := ?_) #[T_,F_,F_,F_,F_,F_,F_,F_,F_,F_,F_,F_,F_,F_,F_,F_,F_,F_,F_,F_,F_,F_,F_] rfl rfl (any_of HT_.out (by kernel_rfl)) (fun _ _ _ h => h) (Or.inl ⟨by rfl, ?_⟩) ?_ ?_
        rotate_left
        ·
         intro w'
         go_simp
         with_reducible rfl
        rotate_left
        ·
         simp only [Act.put, List.setIfInBounds_toArray, List.set_cons_zero, List.set_cons_succ, i64_w, i32_w]
         rfl
        refine pure_ (i := 1) (N := some 101) (v := ?_) (a' := ?_) #[T_,T_,F_,F_,F_,F_,F_,F_,F_,F_,F_,F_,F_,F_,F_,F_,F_,F_,F_,F_,F_,F_,F_] rfl rfl (any_of HT_.out (by kernel_rfl)) (fun _ _ _ h => h) (Or.inl ⟨by rfl, ?_⟩) ?_ ?_
        rotate_left
        ·
         intro w'
         go_simp
         with_reducible rfl
        rotate_left
        ·
         simp only [Act.put, List.setIfInBounds_toArray, List.set_cons_zero, List.set_cons_succ, i64_w, i32_w]
         rfl
        refine pure_ (i := 2) (N := some 102) (v := ?_) (a' := ?_) #[T_,T_,T_,F_,F_,F_,F_,F_,F_,F_,F_,F_,F_,F_,F_,F_,F_,F_,F_,F_,F_,F_,F_] rfl rfl (any_of HT_.out (by kernel_rfl)) (fun _ _ _ h => h) (Or.inl ⟨by rfl, ?_⟩) ?_ ?_
        rotate_left
        ·
         intro w'
         go_simp
         with_reducible rfl
        rotate_left
        ·
         simp only [Act.put, List.setIfInBounds_toArray, List.set_cons_zero, List.set_cons_succ, i64_w, i32_w]
         rfl
        refine pure_ (i := 3) (N := some 103) (v := ?_) (a' := ?_) #[T_,T_,T_,T_,F_,F_,F_,F_,F_,F_,F_,F_,F_,F_,F_,F_,F_,F_,F_,F_,F_,F_,F_] rfl rfl (any_of HT_.out (by kernel_rfl)) (fun _ _ _ h => h) (Or.inl ⟨by rfl, ?_⟩) ?_ ?_
        rotate_left
        ·
         intro w'
         go_simp
         with_reducible rfl
        rotate_left
        ·
         simp only [Act.put, List.setIfInBounds_toArray, List.set_cons_zero, List.set_cons_succ, i64_w, i32_w]
         rfl
        refine pure_ (i := 4) (N := some 104) (v := ?_) (a' := ?_) #[T_,T_,T_,T_,T_,F_,F_,F_,F_,F_,F_,F_,F_,F_,F_,F_,F_,F_,F_,F_,F_,F_,F_] rfl rfl (any_of HT_.out (by kernel_rfl)) (fun _ _ _ h => h) (Or.inl ⟨by rfl, ?_⟩) ?_ ?_
        rotate_left
        ·
         intro w'
         go_simp
         with_reducible rfl
        rotate_left
        ·
         simp only [Act.put, List.setIfInBounds_toArray, List.set_cons_zero, List.set_cons_succ, i64_w, i32_w]
         rfl
        refine pure_ (i := 5) (N := some 105) (v := ?_) (a' := ?_) #[T_,T_,T_,T_,T_,T_,F_,F_,F_,F_,F_,F_,F_,F_,F_,F_,F_,F_,F_,F_,F_,F_,F_] rfl rfl (any_of HT_.out (by kernel_rfl)) (fun _ _ _ h => h) (Or.inl ⟨by rfl, ?_⟩) ?_ ?_
        rotate_left
        ·
         intro w'
         go_simp
         with_reducible rfl
        rotate_left
        ·
         simp only [Act.put, List.setIfInBounds_toArray, List.set_cons_zero, List.set_cons_succ, i64_w, i32_w]
         rfl
        refine pure_ (i := 6) (N := some 106) (v := ?_) (a' := ?_) #[T_,T_,T_,T_,T_,T_,T_,F_,F_,F_,F_,F_,F_,F_,F_,F_,F_,F_,F_,F_,F_,F_,F_] rfl rfl (any_of HT_.out (by kernel_rfl)) (fun _ _ _ h => h) (Or.inl ⟨by rfl, ?_⟩) ?_ ?_
        rotate_left
        ·
         intro w'
         go_simp
         with_reducible rfl
        rotate_left
        ·
         simp only [Act.put, List.setIfInBounds_toArray, List.set_cons_zero, List.set_cons_succ, i64_w, i32_w]
         rfl
        refine pure_ (i := 8) (N := some 108) (v := ?_) (a' := ?_) #[T_,T_,T_,T_,T_,T_,T_,F_,T_,F_,F_,F_,F_,F_,F_,F_,F_,F_,F_,F_,F_,F_,F_] rfl rfl (any_of HT_.out (by kernel_rfl)) (fun _ _ _ h => h) (Or.inl ⟨by rfl, ?_⟩) ?_ ?_
        rotate_left
        ·
         intro w'
         go_simp
         with_reducible rfl
        rotate_left
        ·
         simp only [Act.put, List.setIfInBounds_toArray, List.set_cons_zero, List.set_cons_succ, i64_w, i32_w]
         rfl
        refine pure_ (i := 9) (N := some 109) (v := ?_) (a' := ?_) #[T_,T_,T_,T_,T_,T_,T_,F_,T_,T_,F_,F_,F_,F_,F_,F_,F_,F_,F_,F_,F_,F_,F_] rfl rfl (any_of HT_.out (by kernel_rfl)) (fun _ _ _ h => h) (Or.inl ⟨by rfl, ?_⟩) ?_ ?_
        rotate_left
        ·
         intro w'
         go_simp
         with_reducible rfl
        rotate_left
        ·
         simp only [Act.put, List.setIfInBounds_toArray, List.set_cons_zero, List.set_cons_succ, i64_w, i32_w]
         rfl
        refine pure_ (i := 10) (N := some 110) (v := ?_) (a' := ?_) #[T_,T_,T_,T_,T_,T_,T_,F_,T_,T_,T_,F_,F_,F_,F_,F_,F_,F_,F_,F_,F_,F_,F_] rfl rfl (any_of HT_.out (by kernel_rfl)) (fun _ _ _ h => h) (Or.inl ⟨by rfl, ?_⟩) ?_ ?_
        rotate_left
        ·
         intro w'
         go_simp
         with_reducible rfl
        rotate_left
        ·
         simp only [Act.put, List.setIfInBounds_toArray, List.set_cons_zero, List.set_cons_succ, i64_w, i32_w]
         rfl
        refine pure_ (i := 11) (N := some 111) (v := ?_) (a' := ?_) #[T_,T_,T_,T_,T_,T_,T_,F_,T_,T_,T_,T_,F_,F_,F_,F_,F_,F_,F_,F_,F_,F_,F_] rfl rfl (any_of HT_.out (by kernel_rfl)) (fun _ _ _ h => h) (Or.inl ⟨by rfl, ?_⟩) ?_ ?_
        rotate_left
        ·
         intro w'
         go_simp
         with_reducible rfl
        rotate_left
        ·
         simp only [Act.put, List.setIfInBounds_toArray, List.set_cons_zero, List.set_cons_succ, i64_w, i32_w]
         rfl
        refine pure_ (i := 13) (N := some 113) (v := ?_) (a' := ?_) #[T_,T_,T_,T_,T_,T_,T_,F_,T_,T_,T_,T_,F_,T_,F_,F_,F_,F_,F_,F_,F_,F_,F_] rfl rfl (any_of HT_.out (by kernel_rfl)) (fun _ _ _ h => h) (Or.inl ⟨by rfl, ?_⟩) ?_ ?_
        rotate_left
        ·
         intro w'
         go_simp
         with_reducible rfl
        rotate_left
        ·
         simp only [Act.put, List.setIfInBounds_toArray, List.set_cons_zero, List.set_cons_succ, i64_w, i32_w]
         rfl
        refine pure_ (i := 14) (N := some 114) (v := ?_) (a' := ?_) #[T_,T_,T_,T_,T_,T_,T_,F_,T_,T_,T_,T_,F_,T_,T_,F_,F_,F_,F_,F_,F_,F_,F_] rfl rfl (any_of HT_.out (by kernel_rfl)) (fun _ _ _ h => h) (Or.inl ⟨by rfl, ?_⟩) ?_ ?_
        rotate_left
        ·
         intro w'
         go_simp
         with_reducible rfl
        rotate_left
        ·
         simp only [Act.put, List.setIfInBounds_toArray, List.set_cons_zero, List.set_cons_succ, i64_w, i32_w]
         rfl
        refine pure_ (i := 15) (N := some 115) (v := ?_) (a' := ?_) #[T_,T_,T_,T_,T_,T_,T_,F_,T_,T_,T_,T_,F_,T_,T_,T_,F_,F_,F_,F_,F_,F_,F_] rfl rfl (any_of HT_.out (by kernel_rfl)) (fun _ _ _ h => h) (Or.inl ⟨by rfl, ?_⟩) ?_ ?_
        rotate_left
        ·
         intro w'
         go_simp
         with_reducible rfl
        rotate_left
        ·
         simp only [Act.put, List.setIfInBounds_toArray, List.set_cons_zero, List.set_cons_succ, i64_w, i32_w]
         rfl
        refine pure_ (i := 16) (N := some 116) (v := ?_) (a' := ?_) #[T_,T_,T_,T_,T_,T_,T_,F_,T_,T_,T_,T_,F_,T_,T_,T_,T_,F_,F_,F_,F_,F_,F_] rfl rfl (any_of HT_.out (by kernel_rfl)) (fun _ _ _ h => h) (Or.inl ⟨by rfl, ?_⟩) ?_ ?_
        rotate_left
        ·
         intro w'
         go_simp
         with_reducible rfl
        rotate_left
        ·
         simp only [Act.put, List.setIfInBounds_toArray, List.set_cons_zero, List.set_cons_succ, i64_w, i32_w]
         rfl
        refine pure_ (i := 18) (N := some 118) (v := ?_) (a' := ?_) #[T_,T_,T_,T_,T_,T_,T_,F_,T_,T_,T_,T_,F_,T_,T_,T_,T_,F_,T_,F_,F_,F_,F_] rfl rfl (any_of HT_.out (by kernel_rfl)) (fun _ _ _ h => h) (Or.inl ⟨by rfl, ?_⟩) ?_ ?_
        rotate_left
        ·
         intro w'
         go_simp
         with_reducible rfl
        rotate_left
        ·
         simp only [Act.put, List.setIfInBounds_toArray, List.set_cons_zero, List.set_cons_succ, i64_w, i32_w]
         rfl
        refine take_ (i := 7) (N := some 107) (v := ?_) (a' := ?_) #[T_,T_,T_,T_,T_,T_,T_,T_,T_,T_,T_,T_,F_,T_,T_,T_,T_,F_,T_,F_,F_,F_,F_] rfl rfl (take_ofW HT_.out HW_.out (by kernel_rfl)) (fun _ _ _ h => h) (Or.inl ⟨by rfl, ?_⟩) hHeld ?_ ?_
        rotate_left
        ·
         rintro w' ⟨s0, s1, s2, s3, s4, s5, s6, s7, s8, s9, s10, s11, s12, s13, s14⟩
         go_simp
         with_reducible rfl
        rotate_left
        ·
         simp only [Act.put, List.setIfInBounds_toArray, List.set_cons_zero, List.set_cons_succ, i64_w, i32_w]
         rfl
        refine take_ (i := 12) (N := some 112) (v := ?_) (a' := ?_) #[T_,T_,T_,T_,T_,T_,T_,T_,T_,T_,T_,T_,T_,T_,T_,T_,T_,F_,T_,F_,F_,F_,F_] rfl rfl (take_ofW HT_.out HW_.out (by kernel_rfl)) (fun _ _ _ h => h) (Or.inl ⟨by rfl, ?_⟩) hHeld ?_ ?_
        rotate_left
        ·
         rintro w' ⟨s0, s1, s2, s3, s4, s5, s6, s7, s8, s9, s10, s11, s12, s13, s14⟩
         go_simp
         with_reducible rfl
        rotate_left
        ·
         simp only [Act.put, List.setIfInBounds_toArray, List.set_cons_zero, List.set_cons_succ, i64_w, i32_w]
         rfl
        refine take_ (i := 17) (N := some 117) (v := ?_) (a' := ?_) #[T_,T_,T_,T_,T_,T_,T_,T_,T_,T_,T_,T_,T_,T_,T_,T_,T_,T_,T_,F_,F_,F_,F_] rfl rfl (take_ofW HT_.out HW_.out (by kernel_rfl)) (fun _ _ _ h => h) (Or.inl ⟨by rfl, ?_⟩) hHeld ?_ ?_
        rotate_left
        ·
         rintro w' ⟨s0, s1, s2, s3, s4, s5, s6, s7, s8, s9, s10, s11, s12, s13, s14⟩
         go_simp
         with_reducible rfl
        rotate_left
        ·
         simp only [Act.put, List.setIfInBounds_toArray, List.set_cons_zero, List.set_cons_succ, i64_w, i32_w]
         rfl
        refine pure_ (i := 19) (N := some 119) (v := ?_) (a' := ?_) #[T_,T_,T_,T_,T_,T_,T_,T_,T_,T_,T_,T_,T_,T_,T_,T_,T_,T_,T_,T_,F_,F_,F_] rfl rfl (any_of HT_.out (by kernel_rfl)) (fun _ _ _ h => h) (Or.inl ⟨by rfl, ?_⟩) ?_ ?_
        rotate_left
        ·
         intro w'
         go_simp
         with_reducible rfl
        rotate_left
        ·
         simp only [Act.put, List.setIfInBounds_toArray, List.set_cons_zero, List.set_cons_succ, i64_w, i32_w]
         rfl
        refine last_ (i := 20) (N := some 120) #[T_,T_,T_,T_,T_,T_,T_,T_,T_,T_,T_,T_,T_,T_,T_,T_,T_,T_,T_,T_,T_,F_,F_] rfl rfl (one_of HT_.out (by kernel_rfl)) (by decide) (fun K hK => ?_)
        refine value_ (w1 := ?_) (v := ?_) (by rfl) rfl ?_ ?_
        rotate_left 2
        ·
         go_simp
         constructor
         ·
          rfl
         ·
          rfl
        refine hK.out _ _ ?_
        clear hK K
        refine norm_ (a' := ?_) ?_ ?_
        rotate_left
        ·
         show Act.put _ (some 120) _ = _
         simp only [Act.put, List.setIfInBounds_toArray, List.set_cons_zero, List.set_cons_succ, i64_w, i32_w]
         rfl
        refine last_ (i := 21) (N := some 121) #[T_,T_,T_,T_,T_,T_,T_,T_,T_,T_,T_,T_,T_,T_,T_,T_,T_,T_,T_,T_,T_,T_,F_] rfl rfl (one_of HT_.out (by kernel_rfl)) (by decide) (fun K hK => ?_)
        refine Kd.N_append_step k50 (w0 := w) w.heap.size (by rfl) (.tmp 100) (.tmp 120) 26 50 (.agg #[(.int .i64 0), (.int .i64 0), (.bool false), (.slice none 0 0), (.slice none 0 0), (.bool false)]) 80 rfl Try.underlying26 info50 rfl (by decide) (by omega) (.slice Ao8 x3_1.length co8) x3_1 (⟨wrap64 ((wrap64 ((x3_1.length : Int) + 1)) - 1), wrap64 ((x3_1.length : Int) + 1), true, (rd_T43 l0 x4_1).f2, (rd_T43 l0 x4_1).f3, false⟩ : S50) [.int .i64 (wrap64 ((wrap64 ((x3_1.length : Int) + 1)) - 1)), .int .i64 (wrap64 ((x3_1.length : Int) + 1)), .bool true, .slice A348_2 ((rd_T43 l0 x4_1).f2).length c348_2, .slice A348_3 ((rd_T43 l0 x4_1).f3).length c348_3, .bool false] (fun k_ => (P0_ k_ ∨ w.heap.size ≤ k_)) (fun k_ => ((fun k_ => (P0_ k_ ∨ w.heap.size ≤ k_))) k_ ∧ some k_ ≠ (.slice Ao8 x3_1.length co8 : Value).ownBlock) rfl rfl ?aP (fun _ hk => hk) ?aF ?aO ?aB ?aS ?aL ?_
        (case aP => exact (k50_mkF _ _ (⟨wrap64 ((wrap64 ((x3_1.length : Int) + 1)) - 1), wrap64 ((x3_1.length : Int) + 1), true, (rd_T43 l0 x4_1).f2, (rd_T43 l0 x4_1).f3, false⟩ : S50) (Kd.V_reads' (Kd.V_mono (ok' := (fun k_ => ((fun k_ => (P0_ k_ ∨ w.heap.size ≤ k_))) k_ ∧ some k_ ≠ (.slice Ao8 x3_1.length co8 : Value).ownBlock)) (HLq8.out) (fun k_ hk => ⟨hk.1, hk.2⟩))).2.1 (Kd.V_F (Kd.V_mono (ok' := (fun k_ => ((fun k_ => (P0_ k_ ∨ w.heap.size ≤ k_))) k_ ∧ some k_ ≠ (.slice Ao8 x3_1.length co8 : Value).ownBlock)) (HLq8.out) (fun k_ hk => ⟨hk.1, hk.2⟩))) (Kd.V_reads' (Kd.V_mono (ok' := (fun k_ => ((fun k_ => (P0_ k_ ∨ w.heap.size ≤ k_))) k_ ∧ some k_ ≠ (.slice Ao8 x3_1.length co8 : Value).ownBlock)) (HLq9.out) (fun k_ hk => ⟨hk.1, hk.2⟩))).2.1 (Kd.V_F (Kd.V_mono (ok' := (fun k_ => ((fun k_ => (P0_ k_ ∨ w.heap.size ≤ k_))) k_ ∧ some k_ ≠ (.slice Ao8 x3_1.length co8 : Value).ownBlock)) (HLq9.out) (fun k_ hk => ⟨hk.1, hk.2⟩)))))
        (case aB => exact (by repeat (first | (with_reducible first | exact HB.out | apply bA | apply bN | apply bD) | exact HB.out)))
        (case aF => exact (fun k_ hk => (.inr (Nat.le_trans (below_size (by repeat (first | (with_reducible first | exact HB.out | apply bA | apply bN | apply bD) | exact HB.out))) hk))))
        (case aO => exact (nU HO_3.out))
        (case aS => exact (below_size (by repeat (first | (with_reducible first | exact HB.out | apply bA | apply bN | apply bD) | exact HB.out))))
        (case aL => have := LMc7.out; omega)
        intro v352 w10 ho hb hg hat
        rw [← Ny351.out] at ho
        have n0_ := aM (Kd.V_afterv (ok := (fun k_ => (P0_ k_ ∨ w.heap.size ≤ k_))) (vU HO_0.out) hg hat)
        have n1_ := aM (Kd.V_afterv (ok := (fun k_ => (P0_ k_ ∨ w.heap.size ≤ k_))) (vU HLq4.out) hg hat)
        have n2_ := aM (Kd.V_afterv (ok := (fun k_ => (P0_ k_ ∨ w.heap.size ≤ k_))) (vU HLq5.out) hg hat)
        have n3_ := aM (Kd.V_afterv (ok := (fun k_ => (P0_ k_ ∨ w.heap.size ≤ k_))) (vU HLq6.out) hg hat)
        have n4_ := aM (Kd.V_afterv (ok := (fun k_ => (P0_ k_ ∨ w.heap.size ≤ k_))) (vU HLq7.out) hg hat)
        have n5_ := aM (Kd.V_afterv (ok := (fun k_ => (P0_ k_ ∨ w.heap.size ≤ k_))) (vU HLq16.out) hg hat)
        have n6_ := aM (Kd.V_afterv (ok := (fun k_ => (P0_ k_ ∨ w.heap.size ≤ k_))) (vU HLq17.out) hg hat)
        have n7_ := aM (Kd.V_afterv (ok := (fun k_ => (P0_ k_ ∨ w.heap.size ≤ k_))) (vU HLq8.out) hg hat)
        have n8_ := aM (Kd.V_afterv (ok := (fun k_ => (P0_ k_ ∨ w.heap.size ≤ k_))) (vU HLq18.out) hg hat)
        have n9_ := aM (Kd.V_afterv (ok := (fun k_ => (P0_ k_ ∨ w.heap.size ≤ k_))) (vU HLq19.out) hg hat)
        have n10_ := aM (Kd.V_afterv (ok := (fun k_ => (P0_ k_ ∨ w.heap.size ≤ k_))) (vU HLq9.out) hg hat)
        have n11_ := aM (hb)
        have n12_ := aM (ho)
        clear HO_0
        clear HLq4
        clear HLq5
        clear HLq6
        clear HLq7
        clear HLq16
        clear HLq17
        clear HLq8
        clear HLq18
        clear HLq19
        clear HLq9
        clear HB
        clear HO_3
        have HO_0 := n0_
        have HLq4 := n1_
        have HLq5 := n2_
        have HLq6 := n3_
        have HLq7 := n4_
        have HLq16 := n5_
        have HLq17 := n6_
        have HLq8 := n7_
        have HLq18 := n8_
        have HLq19 := n9_
        have HLq9 := n10_
        have HB := n11_
        have HO353 := n12_
        clear n0_ n1_ n2_ n3_ n4_ n5_ n6_ n7_ n8_ n9_ n10_ n11_ n12_
        clear ho hb hg hat
        refine hK.out _ _ ?_
        clear hK K
        refine norm_ (a' := ?_) ?_ ?_
        rotate_left
        ·
         show Act.put _ (some 121) _ = _
         simp only [Act.put, List.setIfInBounds_toArray, List.set_cons_zero, List.set_cons_succ, i64_w, i32_w]
         rfl
        refine pure_ (i := 22) (N := some 3) (v := ?_) (a' := ?_) #[T_,T_,T_,T_,T_,T_,T_,T_,T_,T_,T_,T_,T_,T_,T_,T_,T_,T_,T_,T_,T_,T_,T_] rfl rfl (any_of HT_.out (by kernel_rfl)) (fun _ _ _ h => h) (Or.inl ⟨by rfl, ?_⟩) ?_ ?_
        rotate_left
        ·
         intro w'
         go_simp
         with_reducible rfl
        rotate_left
        ·
         simp only [Act.put, List.setIfInBounds_toArray, List.set_cons_zero, List.set_cons_succ, i64_w, i32_w]
         rfl
        refine done_ (done_of HT_.out (by kernel_rfl)) ?_
        try go_wp2
        go_roundg k1
        case measure => have := HK1.out; omega
        case rel => exact ⟨(y351), (wrap64 (x4_1 + 1)), (by first | rfl | (simp; done) | (simp [*]; done)), H', ⟨by have := HK1.out; omega⟩, ⟨by (with_reducible repeat (first | apply Kd.V_alloc | apply Kd.V_drewN | apply Kd.V_drew)); exact HO_0.out⟩, ⟨by (with_reducible repeat (first | apply Kd.N_alloc | apply Kd.N_drewN | apply Kd.N_drew)); exact HO353.out⟩, ⟨by repeat (first | (with_reducible first | exact HB.out | apply bA | apply bN | apply bD) | exact HB.out)⟩⟩
       ·
        rw [if_neg c7] at H
        exact absurd H (by simp)
      ·
       replace c6 := Bool.eq_false_iff.mpr c6
       subst c6
       have H1 : (banksmanlaw14_committed.l1 k1 l0 x3_1 x4_1 (wrap64 ((x3_1.length : Int) + 1)) (wrap64 ((wrap64 ((wrap64 ((x3_1.length : Int) + 1)) - 1)) - (Int.tmod (wrap64 ((rd_T43 l0 x4_1).f0)) (wrap64 ((x3_1.length : Int) + 1))))) ([] : List (S24)) (wrap64 (x4_1 + 1))) = some r := by rw [if_neg (show ¬ (false = true) by decide)] at H; exact H
       clear H
       have H := H1
       clear H1
       have H' := aM H
       clear H
       obtain ⟨Ao11, co11, eo11⟩ := Kd.N_slice HO_3.out
       subst eo11
       have p346 : 0 ≤ (x4_1 : Int) := of_decide_eq_true (by first | (with_reducible assumption) | assumption)
       have q346 : x4_1 < (l0.length : Int) := of_decide_eq_true (by first | (with_reducible assumption) | assumption)
       obtain ⟨ad346, A346_2, c346_2, A346_3, c346_3, e346, hx346_0, hx346_1, hx346_2, hx346_3, hx346_4, hl346_2, hi346_2, hl346_3, hi346_3⟩ := at_T43 (Kd.V_reads' HO_0.out).2.2 x4_1 p346 q346
       (try rw [← Nbq5.out] at hx346_1)
       cases e346
       obtain ⟨ce346, hce346, hMe346, hcc346⟩ := Kd.V_get HO_0.out z43 x4_1 p346 (by first | exact q346 | exact of_decide_eq_true (by first | (with_reducible assumption) | assumption) | (have e_ := (Kd.V_reads' HO_0.out).1; omega))
       obtain ⟨ua346_2, uc346_2, ua346_3, uc346_3, rfl, ul346_2, ge346_2, ul346_3, ge346_3⟩ := k43_openF hMe346
       have hv346_2 := hcc346 2 _ rfl
       rw [add_field _ _ 2 (by omega)] at hv346_2
       replace hv346_2 := Option.some.inj (hv346_2.symm.trans hx346_2)
       injection hv346_2 with hva_ hvn_ hvc_
       rw [hva_] at ge346_2
       rw [hvc_] at ul346_2
       have HLq4 := aM (show Kd.V k57 57 _ w.heap.size _ _ ((rd_T43 l0 x4_1).f2) from Kd.V_mk ul346_2 ge346_2)
       clear hva_ hvn_ hvc_ ge346_2 ul346_2
       have hv346_3 := hcc346 3 _ rfl
       rw [add_field _ _ 3 (by omega)] at hv346_3
       replace hv346_3 := Option.some.inj (hv346_3.symm.trans hx346_3)
       injection hv346_3 with hva_ hvn_ hvc_
       rw [hva_] at ge346_3
       rw [hvc_] at ul346_3
       have HLq5 := aM (show Kd.V k59 59 _ w.heap.size _ _ ((rd_T43 l0 x4_1).f3) from Kd.V_mk ul346_3 ge346_3)
       clear hva_ hvn_ hvc_ ge346_3 ul346_3
       clear hcc346 hce346
       have HRq4 := aM hi346_2
       have HCq2 := aM hl346_2
       clear hi346_2 hl346_2
       have HRq5 := aM hi346_3
       have HCq3 := aM hl346_3
       clear hi346_3 hl346_3
       replace p346 := eq_true p346
       replace q346 := eq_true q346
       have p347 : 0 ≤ (x4_1 : Int) := of_decide_eq_true (by first | (with_reducible assumption) | assumption)
       have q347 : x4_1 < (l0.length : Int) := of_decide_eq_true (by first | (with_reducible assumption) | assumption)
       obtain ⟨ad347, A347_2, c347_2, A347_3, c347_3, e347, hx347_0, hx347_1, hx347_2, hx347_3, hx347_4, hl347_2, hi347_2, hl347_3, hi347_3⟩ := at_T43 (Kd.V_reads' HO_0.out).2.2 x4_1 p347 q347
       (try rw [← Nbq5.out] at hx347_1)
       obtain rfl : ad346 = ad347 := (by injection e347)
       obtain ⟨ce347, hce347, hMe347, hcc347⟩ := Kd.V_get HO_0.out z43 x4_1 p347 (by first | exact q347 | exact of_decide_eq_true (by first | (with_reducible assumption) | assumption) | (have e_ := (Kd.V_reads' HO_0.out).1; omega))
       obtain ⟨ua347_2, uc347_2, ua347_3, uc347_3, rfl, ul347_2, ge347_2, ul347_3, ge347_3⟩ := k43_openF hMe347
       have hv347_2 := hcc347 2 _ rfl
       rw [add_field _ _ 2 (by omega)] at hv347_2
       replace hv347_2 := Option.some.inj (hv347_2.symm.trans hx347_2)
       injection hv347_2 with hva_ hvn_ hvc_
       rw [hva_] at ge347_2
       rw [hvc_] at ul347_2
       have HLq6 := aM (show Kd.V k57 57 _ w.heap.size _ _ ((rd_T43 l0 x4_1).f2) from Kd.V_mk ul347_2 ge347_2)
       clear hva_ hvn_ hvc_ ge347_2 ul347_2
       have hv347_3 := hcc347 3 _ rfl
       rw [add_field _ _ 3 (by omega)] at hv347_3
       replace hv347_3 := Option.some.inj (hv347_3.symm.trans hx347_3)
       injection hv347_3 with hva_ hvn_ hvc_
       rw [hva_] at ge347_3
       rw [hvc_] at ul347_3
       have HLq7 := aM (show Kd.V k59 59 _ w.heap.size _ _ ((rd_T43 l0 x4_1).f3) from Kd.V_mk ul347_3 ge347_3)
       clear hva_ hvn_ hvc_ ge347_3 ul347_3
       clear hcc347 hce347
       have HRq6 := aM hi347_2
       have HCq4 := aM hl347_2
       clear hi347_2 hl347_2
       have HRq7 := aM hi347_3
       have HCq5 := aM hl347_3
       clear hi347_3 hl347_3
       replace p347 := eq_true p347
       replace q347 := eq_true q347
       have ea_ := Option.some.inj (hx346_2.symm.trans hx347_2)
       injection ea_ with ea_ en_ ec_
       subst ea_
       subst ec_
       clear en_
       have ea_ := Option.some.inj (hx346_3.symm.trans hx347_3)
       injection ea_ with ea_ en_ ec_
       subst ea_
       subst ec_
       clear en_
       go_wp2
       go_loopg [8, 9] k1 (fun kq v8 v9 w' => ∃ (x8_2 : List (S24)) (x9_2 : Int), v9 = .int .i64 x9_2 ∧ Aside0 (banksmanlaw14_committed.l1 kq l0 x3_1 x4_1 (wrap64 ((x3_1.length : Int) + 1)) (wrap64 ((wrap64 ((wrap64 ((x3_1.length : Int) + 1)) - 1)) - (Int.tmod (wrap64 ((rd_T43 l0 x4_1).f0)) (wrap64 ((x3_1.length : Int) + 1))))) x8_2 x9_2 = some r) ∧ Aside0 (kq ≤ k1) ∧ Aside0 (Kd.V k43 43 w' w.heap.size (fun k_ => (P0_ k_ ∨ w.heap.size ≤ k_) ∧ some k_ ≠ ((.slice Ao11 x3_1.length co11) : Value).ownBlock ∧ some k_ ≠ (v8 : Value).ownBlock) (.slice (some ad346) l0.length c0) l0) ∧ Aside0 (Kd.N k50 50 w' w.heap.size (fun k_ => (P0_ k_ ∨ w.heap.size ≤ k_) ∧ some k_ ≠ (v8 : Value).ownBlock) (.slice Ao11 x3_1.length co11) x3_1) ∧ Aside0 (Kd.N k24 24 w' w.heap.size (fun k_ => (P0_ k_ ∨ w.heap.size ≤ k_) ∧ some k_ ≠ ((.slice Ao11 x3_1.length co11) : Value).ownBlock) v8 x8_2) ∧ Aside0 (Below w.heap.size w w'))
       case atStart => exact ⟨(([] : List (S24))), (wrap64 (x4_1 + 1)), (by first | rfl | (simp; done) | (simp [*]; done)), H', ⟨Nat.le_refl _⟩, ⟨by (with_reducible repeat (first | apply Kd.V_alloc | apply Kd.V_drewN | apply Kd.V_drew)); exact Kd.V_mono HO_0.out (fun _ hk => ⟨hk.1, ⟨hk.2, (by simp [Value.ownBlock])⟩⟩)⟩, ⟨by (with_reducible repeat (first | apply Kd.N_alloc | apply Kd.N_drewN | apply Kd.N_drew)); exact Kd.N_mono HO_3.out (fun _ hk => ⟨hk, (by simp [Value.ownBlock])⟩)⟩, ⟨by first | exact Kd.R_nil _ _ _ _ _ | exact Kd.N_nil _ _ _ _ _ | exact Kd.V_nil _ _ _ _ _ | exact Kd.Q_nil _ _ _ _ _ | exact Kd.S_nil _ _ _ _ _⟩, ⟨by repeat (first | (with_reducible first | exact HB.out | apply bA | apply bN | apply bD) | exact HB.out)⟩⟩
       case round =>
        clear H'
        try clear c2
        try clear c2b0
        try clear p2
        try clear c3
        try clear c3b0
        try clear p3
        try clear q3
        try clear hx3
        try clear c4
        try clear c4b0
        try clear c4b1
        try clear q5
        try clear c6
        try clear p6
        try clear c7
        try clear hx346_0
        try clear hx346_1
        try clear hx346_2
        try clear hx346_3
        try clear hx346_4
        try clear hx347_0
        try clear hx347_1
        try clear hx347_2
        try clear hx347_3
        try clear hx347_4
        try clear hx348_0
        try clear hx348_1
        try clear hx348_2
        try clear hx348_3
        try clear hx348_4
        try clear hx349_0
        try clear hx349_1
        try clear hx349_2
        try clear hx349_3
        try clear hx349_4
        try clear hx350_0
        try clear hx350_1
        try clear hx350_2
        try clear hx350_3
        try clear hx350_4
        try clear p346
        try clear p347
        try clear p348
        try clear p349
        try clear p350
        try clear q346
        try clear q347
        try clear q348
        try clear q349
        try clear q350
        obtain ⟨x8_2, x9_2, rfl, HA, HK2, HO_0, HO_3, HO_8, HB⟩ := hrel
        cases gk with
        | zero => exact absurd HA.out (by simp [banksmanlaw14_committed.l1])
        | succ k2 =>
         have H := HA.out
         clear HA
         simp only [banksmanlaw14_committed.l1] at H
         by_cases c12 : x9_2 < (l0.length : Int)
         ·
          rw [if_pos c12] at H
          have c12b0 : decide (x9_2 < (l0.length : Int)) = true := decide_eq_true c12
          clear c12
          by_cases c13 : 0 ≤ x9_2
          ·
           rw [if_pos c13] at H
           have c13b0 : decide (0 ≤ x9_2) = true := decide_eq_true c13
           clear c13
           by_cases c14 : (wrap64 ((((rd_T43 l0 x9_2).f2).length : Int) + 1)) = 0
           ·
            rw [if_pos c14] at H
            exact absurd H (by simp)
           ·
            rw [if_neg c14] at H
            have c14b0 : ((wrap64 ((((rd_T43 l0 x9_2).f2).length : Int) + 1)) == 0) = false := beq_eq_false_iff_ne.mpr c14
            have c14b1 : ((wrap64 ((((rd_T43 l0 x9_2).f2).length : Int) + 1)) != 0) = true := bne_iff_ne.mpr c14
            obtain ⟨bq15, hbq15⟩ : ∃ b_ : Bool, b_ = ((rd_T43 l0 x9_2).f1) := ⟨_, rfl⟩
            replace H : (if (bq15 = true) then (banksmanlaw14_committed.l1 k2 l0 x3_1 x4_1 (wrap64 ((x3_1.length : Int) + 1)) (wrap64 ((wrap64 ((wrap64 ((x3_1.length : Int) + 1)) - 1)) - (Int.tmod (wrap64 ((rd_T43 l0 x4_1).f0)) (wrap64 ((x3_1.length : Int) + 1))))) x8_2 (wrap64 (x9_2 + 1))) else (if 0 ≤ (Int.tmod (wrap64 ((rd_T43 l0 x9_2).f4)) (wrap64 ((((rd_T43 l0 x9_2).f2).length : Int) + 1))) then (if (Int.tmod (wrap64 ((rd_T43 l0 x9_2).f4)) (wrap64 ((((rd_T43 l0 x9_2).f2).length : Int) + 1))) ≤ (((rd_T43 l0 x9_2).f2).length : Int) then (if x8_2.length < 4398046511104 then (banksmanlaw14_committed.l1 k2 l0 x3_1 x4_1 (wrap64 ((x3_1.length : Int) + 1)) (wrap64 ((wrap64 ((wrap64 ((x3_1.length : Int) + 1)) - 1)) - (Int.tmod (wrap64 ((rd_T43 l0 x4_1).f0)) (wrap64 ((x3_1.length : Int) + 1))))) (x8_2 ++ [(⟨0, (((rd_T43 l0 x9_2).f2).take ((Int.tmod (wrap64 ((rd_T43 l0 x9_2).f4)) (wrap64 ((((rd_T43 l0 x9_2).f2).length : Int) + 1))) : Int).toNat)⟩ : S24)]) (wrap64 (x9_2 + 1))) else (none)) else (none)) else (none))) = some r := by rw [← hbq15] at H; exact H
            have Nbq15 := aM hbq15
            clear hbq15
            by_cases c16 : (bq15 = true)
            ·
             subst c16
             have H1 : (banksmanlaw14_committed.l1 k2 l0 x3_1 x4_1 (wrap64 ((x3_1.length : Int) + 1)) (wrap64 ((wrap64 ((wrap64 ((x3_1.length : Int) + 1)) - 1)) - (Int.tmod (wrap64 ((rd_T43 l0 x4_1).f0)) (wrap64 ((x3_1.length : Int) + 1))))) x8_2 (wrap64 (x9_2 + 1))) = some r := by rw [if_pos rfl] at H; exact H
             clear H
             have H := H1
             clear H1
             have H' := aM H
             clear H
             try go_wp2
             have n0_ := aM (Kd.V_drew HO_0.out)
             have n1_ := aM (Kd.N_drew HO_3.out)
             have n2_ := aM (Kd.N_drew HO_8.out)
             have n3_ := aM (bD HB.out)
             clear HO_0
             clear HO_3
             clear HO_8
             clear HB
             have HO_0 := n0_
             have HO_3 := n1_
             have HO_8 := n2_
             have HB := n3_
             clear n0_ n1_ n2_ n3_
             have p354 : 0 ≤ (x9_2 : Int) := of_decide_eq_true (by first | (with_reducible assumption) | assumption)
             have q354 : x9_2 < (l0.length : Int) := of_decide_eq_true (by first | (with_reducible assumption) | assumption)
             obtain ⟨ad354, A354_2, c354_2, A354_3, c354_3, e354, hx354_0, hx354_1, hx354_2, hx354_3, hx354_4, hl354_2, hi354_2, hl354_3, hi354_3⟩ := at_T43 (Kd.V_reads' HO_0.out).2.2 x9_2 p354 q354
             (try rw [← Nbq5.out] at hx354_1)
             (try rw [← Nbq15.out] at hx354_1)
             obtain rfl : ad346 = ad354 := (by injection e354)
             obtain ⟨ce354, hce354, hMe354, hcc354⟩ := Kd.V_get HO_0.out z43 x9_2 p354 (by first | exact q354 | exact of_decide_eq_true (by first | (with_reducible assumption) | assumption) | (have e_ := (Kd.V_reads' HO_0.out).1; omega))
             obtain ⟨ua354_2, uc354_2, ua354_3, uc354_3, rfl, ul354_2, ge354_2, ul354_3, ge354_3⟩ := k43_openF hMe354
             have hv354_2 := hcc354 2 _ rfl
             rw [add_field _ _ 2 (by omega)] at hv354_2
             replace hv354_2 := Option.some.inj (hv354_2.symm.trans hx354_2)
             injection hv354_2 with hva_ hvn_ hvc_
             rw [hva_] at ge354_2
             rw [hvc_] at ul354_2
             have HLq10 := aM (show Kd.V k57 57 _ w.heap.size _ _ ((rd_T43 l0 x9_2).f2) from Kd.V_mk ul354_2 ge354_2)
             clear hva_ hvn_ hvc_ ge354_2 ul354_2
             have hv354_3 := hcc354 3 _ rfl
             rw [add_field _ _ 3 (by omega)] at hv354_3
             replace hv354_3 := Option.some.inj (hv354_3.symm.trans hx354_3)
             injection hv354_3 with hva_ hvn_ hvc_
             rw [hva_] at ge354_3
             rw [hvc_] at ul354_3
             have HLq11 := aM (show Kd.V k59 59 _ w.heap.size _ _ ((rd_T43 l0 x9_2).f3) from Kd.V_mk ul354_3 ge354_3)
             clear hva_ hvn_ hvc_ ge354_3 ul354_3
             clear hcc354 hce354
             have HRq8 := aM hi354_2
             have HCq6 := aM hl354_2
             clear hi354_2 hl354_2
             have HRq9 := aM hi354_3
             have HCq7 := aM hl354_3
             clear hi354_3 hl354_3
             replace p354 := eq_true p354
             replace q354 := eq_true q354
             have p355 : 0 ≤ (x9_2 : Int) := of_decide_eq_true (by first | (with_reducible assumption) | assumption)
             have q355 : x9_2 < (l0.length : Int) := of_decide_eq_true (by first | (with_reducible assumption) | assumption)
             obtain ⟨ad355, A355_2, c355_2, A355_3, c355_3, e355, hx355_0, hx355_1, hx355_2, hx355_3, hx355_4, hl355_2, hi355_2, hl355_3, hi355_3⟩ := at_T43 (Kd.V_reads' HO_0.out).2.2 x9_2 p355 q355
             (try rw [← Nbq5.out] at hx355_1)
             (try rw [← Nbq15.out] at hx355_1)
             obtain rfl : ad346 = ad355 := (by injection e355)
             obtain ⟨ce355, hce355, hMe355, hcc355⟩ := Kd.V_get HO_0.out z43 x9_2 p355 (by first | exact q355 | exact of_decide_eq_true (by first | (with_reducible assumption) | assumption) | (have e_ := (Kd.V_reads' HO_0.out).1; omega))
             obtain ⟨ua355_2, uc355_2, ua355_3, uc355_3, rfl, ul355_2, ge355_2, ul355_3, ge355_3⟩ := k43_openF hMe355
             have hv355_2 := hcc355 2 _ rfl
             rw [add_field _ _ 2 (by omega)] at hv355_2
             replace hv355_2 := Option.some.inj (hv355_2.symm.trans hx355_2)
             injection hv355_2 with hva_ hvn_ hvc_
             rw [hva_] at ge355_2
             rw [hvc_] at ul355_2
             have HLq12 := aM (show Kd.V k57 57 _ w.heap.size _ _ ((rd_T43 l0 x9_2).f2) from Kd.V_mk ul355_2 ge355_2)
             clear hva_ hvn_ hvc_ ge355_2 ul355_2
             have hv355_3 := hcc355 3 _ rfl
             rw [add_field _ _ 3 (by omega)] at hv355_3
             replace hv355_3 := Option.some.inj (hv355_3.symm.trans hx355_3)
             injection hv355_3 with hva_ hvn_ hvc_
             rw [hva_] at ge355_3
             rw [hvc_] at ul355_3
             have HLq13 := aM (show Kd.V k59 59 _ w.heap.size _ _ ((rd_T43 l0 x9_2).f3) from Kd.V_mk ul355_3 ge355_3)
             clear hva_ hvn_ hvc_ ge355_3 ul355_3
             clear hcc355 hce355
             have HRq10 := aM hi355_2
             have HCq8 := aM hl355_2
             clear hi355_2 hl355_2
             have HRq11 := aM hi355_3
             have HCq9 := aM hl355_3
             clear hi355_3 hl355_3
             replace p355 := eq_true p355
             replace q355 := eq_true q355
             have ea_ := Option.some.inj (hx354_2.symm.trans hx355_2)
             injection ea_ with ea_ en_ ec_
             subst ea_
             subst ec_
             clear en_
             have ea_ := Option.some.inj (hx354_3.symm.trans hx355_3)
             injection ea_ with ea_ en_ ec_
             subst ea_
             subst ec_
             clear en_
             refine start_ (n := 15) (S := fun w' => w'.cell? (ad346.add ((x9_2).toNat * 5)) = some (.int .u8 ((rd_T43 l0 x9_2).f0)) ∧ w'.cell? ⟨(ad346.add ((x9_2).toNat * 5)).block, (ad346.add ((x9_2).toNat * 5)).off + 1, none⟩ = some (.bool true) ∧ w'.cell? ⟨(ad346.add ((x9_2).toNat * 5)).block, (ad346.add ((x9_2).toNat * 5)).off + 2, none⟩ = some (.slice A354_2 ((rd_T43 l0 x9_2).f2).length c354_2) ∧ w'.cell? ⟨(ad346.add ((x9_2).toNat * 5)).block, (ad346.add ((x9_2).toNat * 5)).off + 3, none⟩ = some (.slice A354_3 ((rd_T43 l0 x9_2).f3).length c354_3) ∧ w'.cell? ⟨(ad346.add ((x9_2).toNat * 5)).block, (ad346.add ((x9_2).toNat * 5)).off + 4, none⟩ = some (.int .u8 ((rd_T43 l0 x9_2).f4)) ∧ w'.cell? (ad346.add ((x9_2).toNat * 5)) = some (.int .u8 ((rd_T43 l0 x9_2).f0)) ∧ w'.cell? ⟨(ad346.add ((x9_2).toNat * 5)).block, (ad346.add ((x9_2).toNat * 5)).off + 1, none⟩ = some (.bool true) ∧ w'.cell? ⟨(ad346.add ((x9_2).toNat * 5)).block, (ad346.add ((x9_2).toNat * 5)).off + 2, none⟩ = some (.slice A354_2 ((rd_T43 l0 x9_2).f2).length c354_2) ∧ w'.cell? ⟨(ad346.add ((x9_2).toNat * 5)).block, (ad346.add ((x9_2).toNat * 5)).off + 3, none⟩ = some (.slice A354_3 ((rd_T43 l0 x9_2).f3).length c354_3) ∧ w'.cell? ⟨(ad346.add ((x9_2).toNat * 5)).block, (ad346.add ((x9_2).toNat * 5)).off + 4, none⟩ = some (.int .u8 ((rd_T43 l0 x9_2).f4))) (ds := []) #[F_,F_,F_,F_,F_,F_,F_,F_,F_,F_,F_,F_,F_,F_,F_] (by kernel_rfl) rfl rfl ⟨hx354_0, hx354_1, hx354_2, hx354_3, hx354_4, hx355_0, hx355_1, hx355_2, hx355_3, hx355_4⟩ (fun hHeld => ?_); refine with_tabW banksmanlaw14_committed.tab14 banksmanlaw14_committed.bits14 (fun HT_ HW_ => ?_)
             generalize wr.drew = w17 at HO_0 HO_3 HO_8 HB HLq10 HLq11 HLq12 HLq13 HRq8 HRq9 HRq10 HRq11 hx354_0 hx354_1 hx354_2 hx354_3 hx354_4 hx355_0 hx355_1 hx355_2 hx355_3 hx355_4 hHeld ⊢
             refine pure_ (i := 0) (N := some 48) (v := ?_) (a' := ?_) #[T_,F_,F_,F_,F_,F_,F_,F_,F_,F_,F_,F_,F_,F_,F_] rfl rfl (any_of HT_.out (by kernel_rfl)) (fun _ _ _ h => h) (Or.inl ⟨by rfl, ?_⟩) ?_ ?_
             rotate_left
             ·
              intro w'
              go_simp
              with_reducible rfl
             rotate_left
             ·
              simp only [Act.put, List.setIfInBounds_toArray, List.set_cons_zero, List.set_cons_succ, i64_w, i32_w]
              rfl
             refine pure_ (i := 1) (N := some 49) (v := ?_) (a' := ?_) #[T_,T_,F_,F_,F_,F_,F_,F_,F_,F_,F_,F_,F_,F_,F_] rfl rfl (any_of HT_.out (by kernel_rfl)) (fun _ _ _ h => h) (Or.inl ⟨by rfl, ?_⟩) ?_ ?_
             rotate_left
             ·
              intro w'
              go_simp
              with_reducible rfl
             rotate_left
             ·
              simp only [Act.put, List.setIfInBounds_toArray, List.set_cons_zero, List.set_cons_succ, i64_w, i32_w]
              rfl
             refine pure_ (i := 2) (N := some 50) (v := ?_) (a' := ?_) #[T_,T_,T_,F_,F_,F_,F_,F_,F_,F_,F_,F_,F_,F_,F_] rfl rfl (any_of HT_.out (by kernel_rfl)) (fun _ _ _ h => h) (Or.inl ⟨by rfl, ?_⟩) ?_ ?_
             rotate_left
             ·
              intro w'
              go_simp
              with_reducible rfl
             rotate_left
             ·
              simp only [Act.put, List.setIfInBounds_toArray, List.set_cons_zero, List.set_cons_succ, i64_w, i32_w]
              rfl
             refine pure_ (i := 3) (N := some 51) (v := ?_) (a' := ?_) #[T_,T_,T_,T_,F_,F_,F_,F_,F_,F_,F_,F_,F_,F_,F_] rfl rfl (any_of HT_.out (by kernel_rfl)) (fun _ _ _ h => h) (Or.inl ⟨by rfl, ?_⟩) ?_ ?_
             rotate_left
             ·
              intro w'
              go_simp
              with_reducible rfl
             rotate_left
             ·
              simp only [Act.put, List.setIfInBounds_toArray, List.set_cons_zero, List.set_cons_succ, i64_w, i32_w]
              rfl
             refine pure_ (i := 6) (N := some 54) (v := ?_) (a' := ?_) #[T_,T_,T_,T_,F_,F_,T_,F_,F_,F_,F_,F_,F_,F_,F_] rfl rfl (any_of HT_.out (by kernel_rfl)) (fun _ _ _ h => h) (Or.inl ⟨by rfl, ?_⟩) ?_ ?_
             rotate_left
             ·
              intro w'
              go_simp
              with_reducible rfl
             rotate_left
             ·
              simp only [Act.put, List.setIfInBounds_toArray, List.set_cons_zero, List.set_cons_succ, i64_w, i32_w]
              rfl
             refine pure_ (i := 7) (N := some 55) (v := ?_) (a' := ?_) #[T_,T_,T_,T_,F_,F_,T_,T_,F_,F_,F_,F_,F_,F_,F_] rfl rfl (any_of HT_.out (by kernel_rfl)) (fun _ _ _ h => h) (Or.inl ⟨by rfl, ?_⟩) ?_ ?_
             rotate_left
             ·
              intro w'
              go_simp
              with_reducible rfl
             rotate_left
             ·
              simp only [Act.put, List.setIfInBounds_toArray, List.set_cons_zero, List.set_cons_succ, i64_w, i32_w]
              rfl
             refine pure_ (i := 8) (N := some 56) (v := ?_) (a' := ?_) #[T_,T_,T_,T_,F_,F_,T_,T_,T_,F_,F_,F_,F_,F_,F_] rfl rfl (any_of HT_.out (by kernel_rfl)) (fun _ _ _ h => h) (Or.inl ⟨by rfl, ?_⟩) ?_ ?_
             rotate_left
             ·
              intro w'
              go_simp
              with_reducible rfl
             rotate_left
             ·
              simp only [Act.put, List.setIfInBounds_toArray, List.set_cons_zero, List.set_cons_succ, i64_w, i32_w]
              rfl
             refine pure_ (i := 9) (N := some 57) (v := ?_) (a' := ?_) #[T_,T_,T_,T_,F_,F_,T_,T_,T_,T_,F_,F_,F_,F_,F_] rfl rfl (any_of HT_.out (by kernel_rfl)) (fun _ _ _ h => h) (Or.inl ⟨by rfl, ?_⟩) ?_ ?_
             rotate_left
             ·
              intro w'
              go_simp
              with_reducible rfl
             rotate_left
             ·
              simp only [Act.put, List.setIfInBounds_toArray, List.set_cons_zero, List.set_cons_succ, i64_w, i32_w]
              rfl
             refine take_ (i := 4) (N := some 52) (v := ?_) (a' := ?_) #[T_,T_,T_,T_,T_,F_,T_,T_,T_,T_,F_,F_,F_,F_,F_] rfl rfl (take_ofW HT_.out HW_.out (by kernel_rfl)) (fun _ _ _ h => h) (Or.inl ⟨by rfl, ?_⟩) hHeld ?_ ?_
             rotate_left
             ·
              rintro w' ⟨s0, s1, s2, s3, s4, s5, s6, s7, s8, s9⟩
              go_simp
              with_reducible rfl
             rotate_left
             ·
              simp only [Act.put, List.setIfInBounds_toArray, List.set_cons_zero, List.set_cons_succ, i64_w, i32_w]
              rfl
             refine pure_ (i := 5) (N := some 53) (v := ?_) (a' := ?_) #[T_,T_,T_,T_,T_,T_,T_,T_,T_,T_,F_,F_,F_,F_,F_] rfl rfl (any_of HT_.out (by kernel_rfl)) (fun _ _ _ h => h) (Or.inl ⟨by rfl, ?_⟩) ?_ ?_
             rotate_left
             ·
              intro w'
              go_simp
              with_reducible rfl
             rotate_left
             ·
              simp only [Act.put, List.setIfInBounds_toArray, List.set_cons_zero, List.set_cons_succ, i64_w, i32_w]
              rfl
             refine take_ (i := 10) (N := some 58) (v := ?_) (a' := ?_) #[T_,T_,T_,T_,T_,T_,T_,T_,T_,T_,T_,F_,F_,F_,F_] rfl rfl (take_ofW HT_.out HW_.out (by kernel_rfl)) (fun _ _ _ h => h) (Or.inl ⟨by rfl, ?_⟩) hHeld ?_ ?_
             rotate_left
             ·
              rintro w' ⟨s0, s1, s2, s3, s4, s5, s6, s7, s8, s9⟩
              go_simp
              with_reducible rfl
             rotate_left
             ·
              simp only [Act.put, List.setIfInBounds_toArray, List.set_cons_zero, List.set_cons_succ, i64_w, i32_w]
              rfl
             refine pure_ (i := 11) (N := some 59) (v := ?_) (a' := ?_) #[T_,T_,T_,T_,T_,T_,T_,T_,T_,T_,T_,T_,F_,F_,F_] rfl rfl (any_of HT_.out (by kernel_rfl)) (fun _ _ _ h => h) (Or.inl ⟨by rfl, ?_⟩) ?_ ?_
             rotate_left
             ·
              intro w'
              go_simp
              with_reducible rfl
             rotate_left
             ·
              simp only [Act.put, List.setIfInBounds_toArray, List.set_cons_zero, List.set_cons_succ, i64_w, i32_w]
              rfl
             refine pure_ (i := 12) (N := some 60) (v := ?_) (a' := ?_) #[T_,T_,T_,T_,T_,T_,T_,T_,T_,T_,T_,T_,T_,F_,F_] rfl rfl (any_of HT_.out (by kernel_rfl)) (fun _ _ _ h => h) (Or.inl ⟨by rfl, ?_⟩) ?_ ?_
             rotate_left
             ·
              intro w'
              go_simp
              with_reducible rfl
             rotate_left
             ·
              simp only [Act.put, List.setIfInBounds_toArray, List.set_cons_zero, List.set_cons_succ, i64_w, i32_w]
              rfl
             refine pure_ (i := 13) (N := some 61) (v := ?_) (a' := ?_) #[T_,T_,T_,T_,T_,T_,T_,T_,T_,T_,T_,T_,T_,T_,F_] rfl rfl (any_of HT_.out (by kernel_rfl)) (fun _ _ _ h => h) (Or.inl ⟨by rfl, ?_⟩) ?_ ?_
             rotate_left
             ·
              intro w'
              go_simp
              with_reducible rfl
             rotate_left
             ·
              simp only [Act.put, List.setIfInBounds_toArray, List.set_cons_zero, List.set_cons_succ, i64_w, i32_w]
              rfl
             refine pure_ (i := 14) (N := some 10) (v := ?_) (a' := ?_) #[T_,T_,T_,T_,T_,T_,T_,T_,T_,T_,T_,T_,T_,T_,T_] rfl rfl (any_of HT_.out (by kernel_rfl)) (fun _ _ _ h => h) (Or.inl ⟨by rfl, ?_⟩) ?_ ?_
             rotate_left
             ·
              intro w'
              go_simp
              with_reducible rfl
             rotate_left
             ·
              simp only [Act.put, List.setIfInBounds_toArray, List.set_cons_zero, List.set_cons_succ, i64_w, i32_w]
              rfl
             refine done_ (done_of HT_.out (by kernel_rfl)) ?_
             have p356 : 0 ≤ (x9_2 : Int) := of_decide_eq_true (by first | (with_reducible assumption) | assumption)
             have q356 : x9_2 < (l0.length : Int) := of_decide_eq_true (by first | (with_reducible assumption) | assumption)
             obtain ⟨ad356, A356_2, c356_2, A356_3, c356_3, e356, hx356_0, hx356_1, hx356_2, hx356_3, hx356_4, hl356_2, hi356_2, hl356_3, hi356_3⟩ := at_T43 (Kd.V_reads' HO_0.out).2.2 x9_2 p356 q356
             (try rw [← Nbq5.out] at hx356_1)
             (try rw [← Nbq15.out] at hx356_1)
             obtain rfl : ad346 = ad356 := (by injection e356)
             obtain ⟨ce356, hce356, hMe356, hcc356⟩ := Kd.V_get HO_0.out z43 x9_2 p356 (by first | exact q356 | exact of_decide_eq_true (by first | (with_reducible assumption) | assumption) | (have e_ := (Kd.V_reads' HO_0.out).1; omega))
             obtain ⟨ua356_2, uc356_2, ua356_3, uc356_3, rfl, ul356_2, ge356_2, ul356_3, ge356_3⟩ := k43_openF hMe356
             have hv356_2 := hcc356 2 _ rfl
             rw [add_field _ _ 2 (by omega)] at hv356_2
             replace hv356_2 := Option.some.inj (hv356_2.symm.trans hx356_2)
             injection hv356_2 with hva_ hvn_ hvc_
             rw [hva_] at ge356_2
             rw [hvc_] at ul356_2
             have HLq20 := aM (show Kd.V k57 57 _ w.heap.size _ _ ((rd_T43 l0 x9_2).f2) from Kd.V_mk ul356_2 ge356_2)
             clear hva_ hvn_ hvc_ ge356_2 ul356_2
             have hv356_3 := hcc356 3 _ rfl
             rw [add_field _ _ 3 (by omega)] at hv356_3
             replace hv356_3 := Option.some.inj (hv356_3.symm.trans hx356_3)
             injection hv356_3 with hva_ hvn_ hvc_
             rw [hva_] at ge356_3
             rw [hvc_] at ul356_3
             have HLq21 := aM (show Kd.V k59 59 _ w.heap.size _ _ ((rd_T43 l0 x9_2).f3) from Kd.V_mk ul356_3 ge356_3)
             clear hva_ hvn_ hvc_ ge356_3 ul356_3
             clear hcc356 hce356
             have HRq18 := aM hi356_2
             have HCq10 := aM hl356_2
             clear hi356_2 hl356_2
             have HRq19 := aM hi356_3
             have HCq11 := aM hl356_3
             clear hi356_3 hl356_3
             replace p356 := eq_true p356
             replace q356 := eq_true q356
             have ea_ := Option.some.inj (hx354_2.symm.trans hx356_2)
             injection ea_ with ea_ en_ ec_
             subst ea_
             subst ec_
             clear en_
             have ea_ := Option.some.inj (hx354_3.symm.trans hx356_3)
             injection ea_ with ea_ en_ ec_
             subst ea_
             subst ec_
             clear en_
             try go_wp2
             go_roundg k2
             case measure => have := HK1.out; have := HK2.out; omega
             case rel => exact ⟨(x8_2), (wrap64 (x9_2 + 1)), (by first | rfl | (simp; done) | (simp [*]; done)), H', ⟨by have := HK1.out; have := HK2.out; omega⟩, ⟨by (with_reducible repeat (first | apply Kd.V_alloc | apply Kd.V_drewN | apply Kd.V_drew)); exact HO_0.out⟩, ⟨by (with_reducible repeat (first | apply Kd.N_alloc | apply Kd.N_drewN | apply Kd.N_drew)); exact HO_3.out⟩, ⟨by (with_reducible repeat (first | apply Kd.N_alloc | apply Kd.N_drewN | apply Kd.N_drew)); exact HO_8.out⟩, ⟨by repeat (first | (with_reducible first | exact HB.out | apply bA | apply bN | apply bD) | exact HB.out)⟩⟩
            ·
             replace c16 := Bool.eq_false_iff.mpr c16
             subst c16
             have H1 : (if 0 ≤ (Int.tmod (wrap64 ((rd_T43 l0 x9_2).f4)) (wrap64 ((((rd_T43 l0 x9_2).f2).length : Int) + 1))) then (if (Int.tmod (wrap64 ((rd_T43 l0 x9_2).f4)) (wrap64 ((((rd_T43 l0 x9_2).f2).length : Int) + 1))) ≤ (((rd_T43 l0 x9_2).f2).length : Int) then (if x8_2.length < 4398046511104 then (banksmanlaw14_committed.l1 k2 l0 x3_1 x4_1 (wrap64 ((x3_1.length : Int) + 1)) (wrap64 ((wrap64 ((wrap64 ((x3_1.length : Int) + 1)) - 1)) - (Int.tmod (wrap64 ((rd_T43 l0 x4_1).f0)) (wrap64 ((x3_1.length : Int) + 1))))) (x8_2 ++ [(⟨0, (((rd_T43 l0 x9_2).f2).take ((Int.tmod (wrap64 ((rd_T43 l0 x9_2).f4)) (wrap64 ((((rd_T43 l0 x9_2).f2).length : Int) + 1))) : Int).toNat)⟩ : S24)]) (wrap64 (x9_2 + 1))) else (none)) else (none)) else (none)) = some r := by rw [if_neg (show ¬ (false = true) by decide)] at H; exact H
             clear H
             have H := H1
             clear H1
             obtain ⟨ji18, hji18⟩ : ∃ j_ : Int, (Int.tmod (wrap64 ((rd_T43 l0 x9_2).f4)) (wrap64 ((((rd_T43 l0 x9_2).f2).length : Int) + 1))) = j_ := ⟨_, rfl⟩
             replace H : (if 0 ≤ (ji18) then (if (ji18) ≤ (((rd_T43 l0 x9_2).f2).length : Int) then (if x8_2.length < 4398046511104 then (banksmanlaw14_committed.l1 k2 l0 x3_1 x4_1 (wrap64 ((x3_1.length : Int) + 1)) (wrap64 ((wrap64 ((wrap64 ((x3_1.length : Int) + 1)) - 1)) - (Int.tmod (wrap64 ((rd_T43 l0 x4_1).f0)) (wrap64 ((x3_1.length : Int) + 1))))) (x8_2 ++ [(⟨0, (((rd_T43 l0 x9_2).f2).take ((ji18) : Int).toNat)⟩ : S24)]) (wrap64 (x9_2 + 1))) else (none)) else (none)) else (none)) = some r := by first | (rw [hji18] at H; exact H) | (simp only [hji18] at H ⊢; exact H)
             by_cases c19 : 0 ≤ (ji18)
             ·
              rw [if_pos c19] at H
              have c19b0 := eq_true c19
              have c19b1 : decide (0 ≤ (ji18)) = true := decide_eq_true c19
              clear c19
              by_cases c20 : (ji18) ≤ (((rd_T43 l0 x9_2).f2).length : Int)
              ·
               rw [if_pos c20] at H
               have c20b0 := eq_true c20
               have c20b1 : decide ((ji18) ≤ (((rd_T43 l0 x9_2).f2).length : Int)) = true := decide_eq_true c20
               clear c20
               obtain ⟨y358, hy358⟩ : ∃ y_ : List (S57), y_ = (((rd_T43 l0 x9_2).f2).take ((ji18) : Int).toNat) := ⟨_, rfl⟩
               replace H : (if x8_2.length < 4398046511104 then (banksmanlaw14_committed.l1 k2 l0 x3_1 x4_1 (wrap64 ((x3_1.length : Int) + 1)) (wrap64 ((wrap64 ((wrap64 ((x3_1.length : Int) + 1)) - 1)) - (Int.tmod (wrap64 ((rd_T43 l0 x4_1).f0)) (wrap64 ((x3_1.length : Int) + 1))))) (x8_2 ++ [(⟨0, y358⟩ : S24)]) (wrap64 (x9_2 + 1))) else (none)) = some r := by first | (rw [hy358]; with_reducible exact H) | (have H2_ := (Option.bind_some _ _).symm.trans H; rw [hy358]; with_reducible exact H2_) | (have H2_ := (Option.bind_some _ _).symm.trans H; with_reducible exact H2_) | with_reducible exact H | (rw [hy358]; exact H) | exact H
               have Ny358 := aM hy358
               clear hy358
               by_cases c21 : x8_2.length < 4398046511104
               ·
                rw [if_pos c21] at H
                have LMc21 := aM c21
                clear c21
                obtain ⟨y363, hy363⟩ : ∃ y_ : List (S24), y_ = (x8_2 ++ [(⟨0, y358⟩ : S24)]) := ⟨_, rfl⟩
                replace H : (banksmanlaw14_committed.l1 k2 l0 x3_1 x4_1 (wrap64 ((x3_1.length : Int) + 1)) (wrap64 ((wrap64 ((wrap64 ((x3_1.length : Int) + 1)) - 1)) - (Int.tmod (wrap64 ((rd_T43 l0 x4_1).f0)) (wrap64 ((x3_1.length : Int) + 1))))) y363 (wrap64 (x9_2 + 1))) = some r := by first | (rw [hy363]; with_reducible exact H) | (have H2_ := (Option.bind_some _ _).symm.trans H; rw [hy363]; with_reducible exact H2_) | (have H2_ := (Option.bind_some _ _).symm.trans H; with_reducible exact H2_) | with_reducible exact H | (rw [hy363]; exact H) | exact H
                have Ny363 := aM hy363
                clear hy363
                have H' := aM H
                clear H
                try go_wp2
                have n0_ := aM (Kd.V_drew HO_0.out)
                have n1_ := aM (Kd.N_drew HO_3.out)
                have n2_ := aM (Kd.N_drew HO_8.out)
                have n3_ := aM (bD HB.out)
                clear HO_0
                clear HO_3
                clear HO_8
                clear HB
                have HO_0 := n0_
                have HO_3 := n1_
                have HO_8 := n2_
                have HB := n3_
                clear n0_ n1_ n2_ n3_
                have p354 : 0 ≤ (x9_2 : Int) := of_decide_eq_true (by first | (with_reducible assumption) | assumption)
                have q354 : x9_2 < (l0.length : Int) := of_decide_eq_true (by first | (with_reducible assumption) | assumption)
                obtain ⟨ad354, A354_2, c354_2, A354_3, c354_3, e354, hx354_0, hx354_1, hx354_2, hx354_3, hx354_4, hl354_2, hi354_2, hl354_3, hi354_3⟩ := at_T43 (Kd.V_reads' HO_0.out).2.2 x9_2 p354 q354
                (try rw [← Nbq5.out] at hx354_1)
                (try rw [← Nbq15.out] at hx354_1)
                obtain rfl : ad346 = ad354 := (by injection e354)
                obtain ⟨ce354, hce354, hMe354, hcc354⟩ := Kd.V_get HO_0.out z43 x9_2 p354 (by first | exact q354 | exact of_decide_eq_true (by first | (with_reducible assumption) | assumption) | (have e_ := (Kd.V_reads' HO_0.out).1; omega))
                obtain ⟨ua354_2, uc354_2, ua354_3, uc354_3, rfl, ul354_2, ge354_2, ul354_3, ge354_3⟩ := k43_openF hMe354
                have hv354_2 := hcc354 2 _ rfl
                rw [add_field _ _ 2 (by omega)] at hv354_2
                replace hv354_2 := Option.some.inj (hv354_2.symm.trans hx354_2)
                injection hv354_2 with hva_ hvn_ hvc_
                rw [hva_] at ge354_2
                rw [hvc_] at ul354_2
                have HLq10 := aM (show Kd.V k57 57 _ w.heap.size _ _ ((rd_T43 l0 x9_2).f2) from Kd.V_mk ul354_2 ge354_2)
                clear hva_ hvn_ hvc_ ge354_2 ul354_2
                have hv354_3 := hcc354 3 _ rfl
                rw [add_field _ _ 3 (by omega)] at hv354_3
                replace hv354_3 := Option.some.inj (hv354_3.symm.trans hx354_3)
                injection hv354_3 with hva_ hvn_ hvc_
                rw [hva_] at ge354_3
                rw [hvc_] at ul354_3
                have HLq11 := aM (show Kd.V k59 59 _ w.heap.size _ _ ((rd_T43 l0 x9_2).f3) from Kd.V_mk ul354_3 ge354_3)
                clear hva_ hvn_ hvc_ ge354_3 ul354_3
                clear hcc354 hce354
                have HRq8 := aM hi354_2
                have HCq6 := aM hl354_2
                clear hi354_2 hl354_2
                have HRq9 := aM hi354_3
                have HCq7 := aM hl354_3
                clear hi354_3 hl354_3
                replace p354 := eq_true p354
                replace q354 := eq_true q354
                have p355 : 0 ≤ (x9_2 : Int) := of_decide_eq_true (by first | (with_reducible assumption) | assumption)
                have q355 : x9_2 < (l0.length : Int) := of_decide_eq_true (by first | (with_reducible assumption) | assumption)
                obtain ⟨ad355, A355_2, c355_2, A355_3, c355_3, e355, hx355_0, hx355_1, hx355_2, hx355_3, hx355_4, hl355_2, hi355_2, hl355_3, hi355_3⟩ := at_T43 (Kd.V_reads' HO_0.out).2.2 x9_2 p355 q355
                (try rw [← Nbq5.out] at hx355_1)
                (try rw [← Nbq15.out] at hx355_1)
                obtain rfl : ad346 = ad355 := (by injection e355)
                obtain ⟨ce355, hce355, hMe355, hcc355⟩ := Kd.V_get HO_0.out z43 x9_2 p355 (by first | exact q355 | exact of_decide_eq_true (by first | (with_reducible assumption) | assumption) | (have e_ := (Kd.V_reads' HO_0.out).1; omega))
                obtain ⟨ua355_2, uc355_2, ua355_3, uc355_3, rfl, ul355_2, ge355_2, ul355_3, ge355_3⟩ := k43_openF hMe355
                have hv355_2 := hcc355 2 _ rfl
                rw [add_field _ _ 2 (by omega)] at hv355_2
                replace hv355_2 := Option.some.inj (hv355_2.symm.trans hx355_2)
                injection hv355_2 with hva_ hvn_ hvc_
                rw [hva_] at ge355_2
                rw [hvc_] at ul355_2
                have HLq12 := aM (show Kd.V k57 57 _ w.heap.size _ _ ((rd_T43 l0 x9_2).f2) from Kd.V_mk ul355_2 ge355_2)
                clear hva_ hvn_ hvc_ ge355_2 ul355_2
                have hv355_3 := hcc355 3 _ rfl
                rw [add_field _ _ 3 (by omega)] at hv355_3
                replace hv355_3 := Option.some.inj (hv355_3.symm.trans hx355_3)
                injection hv355_3 with hva_ hvn_ hvc_
                rw [hva_] at ge355_3
                rw [hvc_] at ul355_3
                have HLq13 := aM (show Kd.V k59 59 _ w.heap.size _ _ ((rd_T43 l0 x9_2).f3) from Kd.V_mk ul355_3 ge355_3)
                clear hva_ hvn_ hvc_ ge355_3 ul355_3
                clear hcc355 hce355
                have HRq10 := aM hi355_2
                have HCq8 := aM hl355_2
                clear hi355_2 hl355_2
                have HRq11 := aM hi355_3
                have HCq9 := aM hl355_3
                clear hi355_3 hl355_3
                replace p355 := eq_true p355
                replace q355 := eq_true q355
                have ea_ := Option.some.inj (hx354_2.symm.trans hx355_2)
                injection ea_ with ea_ en_ ec_
                subst ea_
                subst ec_
                clear en_
                have ea_ := Option.some.inj (hx354_3.symm.trans hx355_3)
                injection ea_ with ea_ en_ ec_
                subst ea_
                subst ec_
                clear en_
                refine start_ (n := 15) (S := fun w' => w'.cell? (ad346.add ((x9_2).toNat * 5)) = some (.int .u8 ((rd_T43 l0 x9_2).f0)) ∧ w'.cell? ⟨(ad346.add ((x9_2).toNat * 5)).block, (ad346.add ((x9_2).toNat * 5)).off + 1, none⟩ = some (.bool false) ∧ w'.cell? ⟨(ad346.add ((x9_2).toNat * 5)).block, (ad346.add ((x9_2).toNat * 5)).off + 2, none⟩ = some (.slice A354_2 ((rd_T43 l0 x9_2).f2).length c354_2) ∧ w'.cell? ⟨(ad346.add ((x9_2).toNat * 5)).block, (ad346.add ((x9_2).toNat * 5)).off + 3, none⟩ = some (.slice A354_3 ((rd_T43 l0 x9_2).f3).length c354_3) ∧ w'.cell? ⟨(ad346.add ((x9_2).toNat * 5)).block, (ad346.add ((x9_2).toNat * 5)).off + 4, none⟩ = some (.int .u8 ((rd_T43 l0 x9_2).f4)) ∧ w'.cell? (ad346.add ((x9_2).toNat * 5)) = some (.int .u8 ((rd_T43 l0 x9_2).f0)) ∧ w'.cell? ⟨(ad346.add ((x9_2).toNat * 5)).block, (ad346.add ((x9_2).toNat * 5)).off + 1, none⟩ = some (.bool false) ∧ w'.cell? ⟨(ad346.add ((x9_2).toNat * 5)).block, (ad346.add ((x9_2).toNat * 5)).off + 2, none⟩ = some (.slice A354_2 ((rd_T43 l0 x9_2).f2).length c354_2) ∧ w'.cell? ⟨(ad346.add ((x9_2).toNat * 5)).block, (ad346.add ((x9_2).toNat * 5)).off + 3, none⟩ = some (.slice A354_3 ((rd_T43 l0 x9_2).f3).length c354_3) ∧ w'.cell? ⟨(ad346.add ((x9_2).toNat * 5)).block, (ad346.add ((x9_2).toNat * 5)).off + 4, none⟩ = some (.int .u8 ((rd_T43 l0 x9_2).f4))) (ds := []) #[F_,F_,F_,F_,F_,F_,F_,F_,F_,F_,F_,F_,F_,F_,F_] (by kernel_rfl) rfl rfl ⟨hx354_0, hx354_1, hx354_2, hx354_3, hx354_4, hx355_0, hx355_1, hx355_2, hx355_3, hx355_4⟩ (fun hHeld => ?_); refine with_tabW banksmanlaw14_committed.tab14 banksmanlaw14_committed.bits14 (fun HT_ HW_ => ?_)
                generalize wr.drew = w22 at HO_0 HO_3 HO_8 HB HLq10 HLq11 HLq12 HLq13 HRq8 HRq9 HRq10 HRq11 hx354_0 hx354_1 hx354_2 hx354_3 hx354_4 hx355_0 hx355_1 hx355_2 hx355_3 hx355_4 hHeld ⊢
                refine pure_ (i := 0) (N := some 48) (v := ?_) (a' := ?_) #[T_,F_,F_,F_,F_,F_,F_,F_,F_,F_,F_,F_,F_,F_,F_] rfl rfl (any_of HT_.out (by kernel_rfl)) (fun _ _ _ h => h) (Or.inl ⟨by rfl, ?_⟩) ?_ ?_
                rotate_left
                ·
                 intro w'
                 go_simp
                 with_reducible rfl
                rotate_left
                ·
                 simp only [Act.put, List.setIfInBounds_toArray, List.set_cons_zero, List.set_cons_succ, i64_w, i32_w]
                 rfl
                refine pure_ (i := 1) (N := some 49) (v := ?_) (a' := ?_) #[T_,T_,F_,F_,F_,F_,F_,F_,F_,F_,F_,F_,F_,F_,F_] rfl rfl (any_of HT_.out (by kernel_rfl)) (fun _ _ _ h => h) (Or.inl ⟨by rfl, ?_⟩) ?_ ?_
                rotate_left
                ·
                 intro w'
                 go_simp
                 with_reducible rfl
                rotate_left
                ·
                 simp only [Act.put, List.setIfInBounds_toArray, List.set_cons_zero, List.set_cons_succ, i64_w, i32_w]
                 rfl
                refine pure_ (i := 2) (N := some 50) (v := ?_) (a' := ?_) #[T_,T_,T_,F_,F_,F_,F_,F_,F_,F_,F_,F_,F_,F_,F_] rfl rfl (any_of HT_.out (by kernel_rfl)) (fun _ _ _ h => h) (Or.inl ⟨by rfl, ?_⟩) ?_ ?_
                rotate_left
                ·
                 intro w'
                 go_simp
                 with_reducible rfl
                rotate_left
                ·
                 simp only [Act.put, List.setIfInBounds_toArray, List.set_cons_zero, List.set_cons_succ, i64_w, i32_w]
                 rfl
                refine pure_ (i := 3) (N := some 51) (v := ?_) (a' := ?_) #[T_,T_,T_,T_,F_,F_,F_,F_,F_,F_,F_,F_,F_,F_,F_] rfl rfl (any_of HT_.out (by kernel_rfl)) (fun _ _ _ h => h) (Or.inl ⟨by rfl, ?_⟩) ?_ ?_
                rotate_left
                ·
                 intro w'
                 go_simp
                 with_reducible rfl
                rotate_left
                ·
                 simp only [Act.put, List.setIfInBounds_toArray, List.set_cons_zero, List.set_cons_succ, i64_w, i32_w]
                 rfl
                refine pure_ (i := 6) (N := some 54) (v := ?_) (a' := ?_) #[T_,T_,T_,T_,F_,F_,T_,F_,F_,F_,F_,F_,F_,F_,F_] rfl rfl (any_of HT_.out (by kernel_rfl)) (fun _ _ _ h => h) (Or.inl ⟨by rfl, ?_⟩) ?_ ?_
                rotate_left
                ·
                 intro w'
                 go_simp
                 with_reducible rfl
                rotate_left
                ·
                 simp only [Act.put, List.setIfInBounds_toArray, List.set_cons_zero, List.set_cons_succ, i64_w, i32_w]
                 rfl
                refine pure_ (i := 7) (N := some 55) (v := ?_) (a' := ?_) #[T_,T_,T_,T_,F_,F_,T_,T_,F_,F_,F_,F_,F_,F_,F_] rfl rfl (any_of HT_.out (by kernel_rfl)) (fun _ _ _ h => h) (Or.inl ⟨by rfl, ?_⟩) ?_ ?_
                rotate_left
                ·
                 intro w'
                 go_simp
                 with_reducible rfl
                rotate_left
                ·
                 simp only [Act.put, List.setIfInBounds_toArray, List.set_cons_zero, List.set_cons_succ, i64_w, i32_w]
                 rfl
                refine pure_ (i := 8) (N := some 56) (v := ?_) (a' := ?_) #[T_,T_,T_,T_,F_,F_,T_,T_,T_,F_,F_,F_,F_,F_,F_] rfl rfl (any_of HT_.out (by kernel_rfl)) (fun _ _ _ h => h) (Or.inl ⟨by rfl, ?_⟩) ?_ ?_
                rotate_left
                ·
                 intro w'
                 go_simp
                 with_reducible rfl
                rotate_left
                ·
                 simp only [Act.put, List.setIfInBounds_toArray, List.set_cons_zero, List.set_cons_succ, i64_w, i32_w]
                 rfl
                refine pure_ (i := 9) (N := some 57) (v := ?_) (a' := ?_) #[T_,T_,T_,T_,F_,F_,T_,T_,T_,T_,F_,F_,F_,F_,F_] rfl rfl (any_of HT_.out (by kernel_rfl)) (fun _ _ _ h => h) (Or.inl ⟨by rfl, ?_⟩) ?_ ?_
                rotate_left
                ·
                 intro w'
                 go_simp
                 with_reducible rfl
                rotate_left
                ·
                 simp only [Act.put, List.setIfInBounds_toArray, List.set_cons_zero, List.set_cons_succ, i64_w, i32_w]
                 rfl
                refine take_ (i := 4) (N := some 52) (v := ?_) (a' := ?_) #[T_,T_,T_,T_,T_,F_,T_,T_,T_,T_,F_,F_,F_,F_,F_] rfl rfl (take_ofW HT_.out HW_.out (by kernel_rfl)) (fun _ _ _ h => h) (Or.inl ⟨by rfl, ?_⟩) hHeld ?_ ?_
                rotate_left
                ·
                 rintro w' ⟨s0, s1, s2, s3, s4, s5, s6, s7, s8, s9⟩
                 go_simp
                 with_reducible rfl
                rotate_left
                ·
                 simp only [Act.put, List.setIfInBounds_toArray, List.set_cons_zero, List.set_cons_succ, i64_w, i32_w]
                 rfl
                refine pure_ (i := 5) (N := some 53) (v := ?_) (a' := ?_) #[T_,T_,T_,T_,T_,T_,T_,T_,T_,T_,F_,F_,F_,F_,F_] rfl rfl (any_of HT_.out (by kernel_rfl)) (fun _ _ _ h => h) (Or.inl ⟨by rfl, ?_⟩) ?_ ?_
                rotate_left
                ·
                 intro w'
                 go_simp
                 with_reducible rfl
                rotate_left
                ·
                 simp only [Act.put, List.setIfInBounds_toArray, List.set_cons_zero, List.set_cons_succ, i64_w, i32_w]
                 rfl
                refine take_ (i := 10) (N := some 58) (v := ?_) (a' := ?_) #[T_,T_,T_,T_,T_,T_,T_,T_,T_,T_,T_,F_,F_,F_,F_] rfl rfl (take_ofW HT_.out HW_.out (by kernel_rfl)) (fun _ _ _ h => h) (Or.inl ⟨by rfl, ?_⟩) hHeld ?_ ?_
                rotate_left
                ·
                 rintro w' ⟨s0, s1, s2, s3, s4, s5, s6, s7, s8, s9⟩
                 go_simp
                 with_reducible rfl
                rotate_left
                ·
                 simp only [Act.put, List.setIfInBounds_toArray, List.set_cons_zero, List.set_cons_succ, i64_w, i32_w]
                 rfl
                refine pure_ (i := 11) (N := some 59) (v := ?_) (a' := ?_) #[T_,T_,T_,T_,T_,T_,T_,T_,T_,T_,T_,T_,F_,F_,F_] rfl rfl (any_of HT_.out (by kernel_rfl)) (fun _ _ _ h => h) (Or.inl ⟨by rfl, ?_⟩) ?_ ?_
                rotate_left
                ·
                 intro w'
                 go_simp
                 with_reducible rfl
                rotate_left
                ·
                 simp only [Act.put, List.setIfInBounds_toArray, List.set_cons_zero, List.set_cons_succ, i64_w, i32_w]
                 rfl
                refine pure_ (i := 12) (N := some 60) (v := ?_) (a' := ?_) #[T_,T_,T_,T_,T_,T_,T_,T_,T_,T_,T_,T_,T_,F_,F_] rfl rfl (any_of HT_.out (by kernel_rfl)) (fun _ _ _ h => h) (Or.inl ⟨by rfl, ?_⟩) ?_ ?_
                rotate_left
                ·
                 intro w'
                 go_simp
                 with_reducible rfl
                rotate_left
                ·
                 simp only [Act.put, List.setIfInBounds_toArray, List.set_cons_zero, List.set_cons_succ, i64_w, i32_w]
                 rfl
                refine pure_ (i := 13) (N := some 61) (v := ?_) (a' := ?_) #[T_,T_,T_,T_,T_,T_,T_,T_,T_,T_,T_,T_,T_,T_,F_] rfl rfl (any_of HT_.out (by kernel_rfl)) (fun _ _ _ h => h) (Or.inl ⟨by rfl, ?_⟩) ?_ ?_
                rotate_left
                ·
                 intro w'
                 go_simp
                 with_reducible rfl
                rotate_left
                ·
                 simp only [Act.put, List.setIfInBounds_toArray, List.set_cons_zero, List.set_cons_succ, i64_w, i32_w]
                 rfl
                refine pure_ (i := 14) (N := some 10) (v := ?_) (a' := ?_) #[T_,T_,T_,T_,T_,T_,T_,T_,T_,T_,T_,T_,T_,T_,T_] rfl rfl (any_of HT_.out (by kernel_rfl)) (fun _ _ _ h => h) (Or.inl ⟨by rfl, ?_⟩) ?_ ?_
                rotate_left
                ·
                 intro w'
                 go_simp
                 with_reducible rfl
                rotate_left
                ·
                 simp only [Act.put, List.setIfInBounds_toArray, List.set_cons_zero, List.set_cons_succ, i64_w, i32_w]
                 rfl
                refine done_ (done_of HT_.out (by kernel_rfl)) ?_
                have p356 : 0 ≤ (x9_2 : Int) := of_decide_eq_true (by first | (with_reducible assumption) | assumption)
                have q356 : x9_2 < (l0.length : Int) := of_decide_eq_true (by first | (with_reducible assumption) | assumption)
                obtain ⟨ad356, A356_2, c356_2, A356_3, c356_3, e356, hx356_0, hx356_1, hx356_2, hx356_3, hx356_4, hl356_2, hi356_2, hl356_3, hi356_3⟩ := at_T43 (Kd.V_reads' HO_0.out).2.2 x9_2 p356 q356
                (try rw [← Nbq5.out] at hx356_1)
                (try rw [← Nbq15.out] at hx356_1)
                obtain rfl : ad346 = ad356 := (by injection e356)
                obtain ⟨ce356, hce356, hMe356, hcc356⟩ := Kd.V_get HO_0.out z43 x9_2 p356 (by first | exact q356 | exact of_decide_eq_true (by first | (with_reducible assumption) | assumption) | (have e_ := (Kd.V_reads' HO_0.out).1; omega))
                obtain ⟨ua356_2, uc356_2, ua356_3, uc356_3, rfl, ul356_2, ge356_2, ul356_3, ge356_3⟩ := k43_openF hMe356
                have hv356_2 := hcc356 2 _ rfl
                rw [add_field _ _ 2 (by omega)] at hv356_2
                replace hv356_2 := Option.some.inj (hv356_2.symm.trans hx356_2)
                injection hv356_2 with hva_ hvn_ hvc_
                rw [hva_] at ge356_2
                rw [hvc_] at ul356_2
                have HLq20 := aM (show Kd.V k57 57 _ w.heap.size _ _ ((rd_T43 l0 x9_2).f2) from Kd.V_mk ul356_2 ge356_2)
                clear hva_ hvn_ hvc_ ge356_2 ul356_2
                have hv356_3 := hcc356 3 _ rfl
                rw [add_field _ _ 3 (by omega)] at hv356_3
                replace hv356_3 := Option.some.inj (hv356_3.symm.trans hx356_3)
                injection hv356_3 with hva_ hvn_ hvc_
                rw [hva_] at ge356_3
                rw [hvc_] at ul356_3
                have HLq21 := aM (show Kd.V k59 59 _ w.heap.size _ _ ((rd_T43 l0 x9_2).f3) from Kd.V_mk ul356_3 ge356_3)
                clear hva_ hvn_ hvc_ ge356_3 ul356_3
                clear hcc356 hce356
                have HRq18 := aM hi356_2
                have HCq10 := aM hl356_2
                clear hi356_2 hl356_2
                have HRq19 := aM hi356_3
                have HCq11 := aM hl356_3
                clear hi356_3 hl356_3
                replace p356 := eq_true p356
                replace q356 := eq_true q356
                have ea_ := Option.some.inj (hx354_2.symm.trans hx356_2)
                injection ea_ with ea_ en_ ec_
                subst ea_
                subst ec_
                clear en_
                have ea_ := Option.some.inj (hx354_3.symm.trans hx356_3)
                injection ea_ with ea_ en_ ec_
                subst ea_
                subst ec_
                clear en_
                have p357 : 0 ≤ (x9_2 : Int) := of_decide_eq_true (by first | (with_reducible assumption) | assumption)
                have q357 : x9_2 < (l0.length : Int) := of_decide_eq_true (by first | (with_reducible assumption) | assumption)
                obtain ⟨ad357, A357_2, c357_2, A357_3, c357_3, e357, hx357_0, hx357_1, hx357_2, hx357_3, hx357_4, hl357_2, hi357_2, hl357_3, hi357_3⟩ := at_T43 (Kd.V_reads' HO_0.out).2.2 x9_2 p357 q357
                (try rw [← Nbq5.out] at hx357_1)
                (try rw [← Nbq15.out] at hx357_1)
                obtain rfl : ad346 = ad357 := (by injection e357)
                obtain ⟨ce357, hce357, hMe357, hcc357⟩ := Kd.V_get HO_0.out z43 x9_2 p357 (by first | exact q357 | exact of_decide_eq_true (by first | (with_reducible assumption) | assumption) | (have e_ := (Kd.V_reads' HO_0.out).1; omega))
                obtain ⟨ua357_2, uc357_2, ua357_3, uc357_3, rfl, ul357_2, ge357_2, ul357_3, ge357_3⟩ := k43_openF hMe357
                have hv357_2 := hcc357 2 _ rfl
                rw [add_field _ _ 2 (by omega)] at hv357_2
                replace hv357_2 := Option.some.inj (hv357_2.symm.trans hx357_2)
                injection hv357_2 with hva_ hvn_ hvc_
                rw [hva_] at ge357_2
                rw [hvc_] at ul357_2
                have HLq22 := aM (show Kd.V k57 57 _ w.heap.size _ _ ((rd_T43 l0 x9_2).f2) from Kd.V_mk ul357_2 ge357_2)
                clear hva_ hvn_ hvc_ ge357_2 ul357_2
                have hv357_3 := hcc357 3 _ rfl
                rw [add_field _ _ 3 (by omega)] at hv357_3
                replace hv357_3 := Option.some.inj (hv357_3.symm.trans hx357_3)
                injection hv357_3 with hva_ hvn_ hvc_
                rw [hva_] at ge357_3
                rw [hvc_] at ul357_3
                have HLq27 := aM (show Kd.V k59 59 _ w.heap.size _ _ ((rd_T43 l0 x9_2).f3) from Kd.V_mk ul357_3 ge357_3)
                clear hva_ hvn_ hvc_ ge357_3 ul357_3
                clear hcc357 hce357
                have HRq26 := aM hi357_2
                have HCq12 := aM hl357_2
                clear hi357_2 hl357_2
                have HRq27 := aM hi357_3
                have HCq21 := aM hl357_3
                clear hi357_3 hl357_3
                replace p357 := eq_true p357
                replace q357 := eq_true q357
                have ea_ := Option.some.inj (hx354_2.symm.trans hx357_2)
                injection ea_ with ea_ en_ ec_
                subst ea_
                subst ec_
                clear en_
                have ea_ := Option.some.inj (hx354_3.symm.trans hx357_3)
                injection ea_ with ea_ en_ ec_
                subst ea_
                subst ec_
                clear en_
                have q23 : ((ji18) : Int) ≤ ((((rd_T43 l0 x9_2).f2).length : Int) : Int) := of_decide_eq_true (by first | (with_reducible assumption) | assumption)
                obtain ⟨i023, hi023, _, hsz23, _⟩ := info_parts info57
                have hroom23 : ((rd_T43 l0 x9_2).f2).length ≤ c354_2 := HCq12.out
                have hC23 : Kd.F k57 _ _ A354_2 ((rd_T43 l0 x9_2).f2).length ((rd_T43 l0 x9_2).f2) := (Kd.V_at (base := w.heap.size) HLq22.out).2.2
                have hcut23 := cut_to (P := Try.prog) 22 57 .i64 Try.underlying22 hi023 A354_2 ((rd_T43 l0 x9_2).f2).length c354_2 (ji18) (of_decide_eq_true (by first | (with_reducible assumption) | assumption)) q23 hroom23
                have hr23 := Kd.F_take (m := ((ji18) : Int).toNat) hC23 (by omega)
                have hy23 : y358.length = ((ji18) : Int).toNat := (by rw [Ny358.out, List.length_take]; omega)
                rw [← Ny358.out] at hr23
                rw [← hy23] at hcut23
                have HO362 := aM (show Kd.V k57 57 _ w.heap.size _ (.slice A354_2 y358.length c354_2) y358 from Kd.V_mk (by omega) hr23)
                have HC362 := aM (show y358.length ≤ c354_2 from by omega)
                clear hr23 hC23 hroom23 hi023 hsz23
                have KY23 := aM hy23
                clear hy23
                replace q23 := eq_true q23
                try go_wp2_with (first | ((with_reducible refine gate_builtin (b := .append) (xs := #[.tmp 68, .tmp 77]) rfl ?_); at_builtin; refine Kd.N_append k24 (w0 := w) w.heap.size rfl (.tmp 68) (.tmp 77) 27 24 (.agg #[(.int .i64 0), (.slice none 0 0)]) 32 rfl Try.underlying27 info24 rfl (by decide) (by omega) u8 x8_2 (⟨0, y358⟩ : S24) [.int .i64 0, .slice A354_2 y358.length c354_2] (fun k_ => (P0_ k_ ∨ w.heap.size ≤ k_) ∧ some k_ ≠ (.slice Ao11 x3_1.length co11 : Value).ownBlock) (fun k_ => ((fun k_ => (P0_ k_ ∨ w.heap.size ≤ k_) ∧ some k_ ≠ (.slice Ao11 x3_1.length co11 : Value).ownBlock)) k_ ∧ some k_ ≠ (u8 : Value).ownBlock) rfl rfl ?aP (fun _ hk => hk) ?aF ?aO ?aB ?aS ?aL ?_; (case aP => exact (k24_mkF _ _ (⟨0, y358⟩ : S24) (Kd.V_reads' (Kd.V_mono (ok' := (fun k_ => ((fun k_ => (P0_ k_ ∨ w.heap.size ≤ k_) ∧ some k_ ≠ (.slice Ao11 x3_1.length co11 : Value).ownBlock)) k_ ∧ some k_ ≠ (u8 : Value).ownBlock)) (HO362.out) (fun k_ hk => ⟨⟨hk.1, hk.2.1⟩, hk.2.2⟩))).2.1 (Kd.V_F (Kd.V_mono (ok' := (fun k_ => ((fun k_ => (P0_ k_ ∨ w.heap.size ≤ k_) ∧ some k_ ≠ (.slice Ao11 x3_1.length co11 : Value).ownBlock)) k_ ∧ some k_ ≠ (u8 : Value).ownBlock)) (HO362.out) (fun k_ hk => ⟨⟨hk.1, hk.2.1⟩, hk.2.2⟩))))); (case aB => exact (by repeat (first | (with_reducible first | exact HB.out | apply bA | apply bN | apply bD) | exact HB.out))); (case aF => exact (fun k_ hk => ⟨(.inr (Nat.le_trans (below_size (by repeat (first | (with_reducible first | exact HB.out | apply bA | apply bN | apply bD) | exact HB.out))) hk)), Kd.fresh' (Kd.N_lt (nU HO_3.out)) k_ hk⟩)); (case aO => exact (nU HO_8.out)); (case aS => exact (below_size (by repeat (first | (with_reducible first | exact HB.out | apply bA | apply bN | apply bD) | exact HB.out)))); (case aL => have := LMc21.out; omega); intro v364 w24 ho hb hg hat; rw [← Ny363.out] at ho; have n0_ := aM (Kd.V_afterv (ok := (fun k_ => (P0_ k_ ∨ w.heap.size ≤ k_) ∧ some k_ ≠ (.slice Ao11 x3_1.length co11 : Value).ownBlock)) (by (with_reducible repeat (first | apply Kd.V_alloc | apply Kd.V_drewN | apply Kd.V_drew)); exact Kd.V_mono HO_0.out (fun _ hk => ⟨⟨hk.1, hk.2.1⟩, hk.2.2⟩)) hg hat); have n1_ := aM (Kd.N_afterv (ok := (fun k_ => (P0_ k_ ∨ w.heap.size ≤ k_))) (nU HO_3.out) hg hat); have n2_ := aM (Kd.V_afterv (ok := (fun k_ => (P0_ k_ ∨ w.heap.size ≤ k_) ∧ some k_ ≠ (.slice Ao11 x3_1.length co11 : Value).ownBlock)) (by (with_reducible repeat (first | apply Kd.V_alloc | apply Kd.V_drewN | apply Kd.V_drew)); exact Kd.V_mono HLq10.out (fun _ hk => ⟨⟨hk.1, hk.2.1⟩, hk.2.2⟩)) hg hat); have n3_ := aM (Kd.V_afterv (ok := (fun k_ => (P0_ k_ ∨ w.heap.size ≤ k_) ∧ some k_ ≠ (.slice Ao11 x3_1.length co11 : Value).ownBlock)) (by (with_reducible repeat (first | apply Kd.V_alloc | apply Kd.V_drewN | apply Kd.V_drew)); exact Kd.V_mono HLq11.out (fun _ hk => ⟨⟨hk.1, hk.2.1⟩, hk.2.2⟩)) hg hat); have n4_ := aM (Kd.V_afterv (ok := (fun k_ => (P0_ k_ ∨ w.heap.size ≤ k_) ∧ some k_ ≠ (.slice Ao11 x3_1.length co11 : Value).ownBlock)) (by (with_reducible repeat (first | apply Kd.V_alloc | apply Kd.V_drewN | apply Kd.V_drew)); exact Kd.V_mono HLq12.out (fun _ hk => ⟨⟨hk.1, hk.2.1⟩, hk.2.2⟩)) hg hat); have n5_ := aM (Kd.V_afterv (ok := (fun k_ => (P0_ k_ ∨ w.heap.size ≤ k_) ∧ some k_ ≠ (.slice Ao11 x3_1.length co11 : Value).ownBlock)) (by (with_reducible repeat (first | apply Kd.V_alloc | apply Kd.V_drewN | apply Kd.V_drew)); exact Kd.V_mono HLq13.out (fun _ hk => ⟨⟨hk.1, hk.2.1⟩, hk.2.2⟩)) hg hat); have n6_ := aM (Kd.V_afterv (ok := (fun k_ => (P0_ k_ ∨ w.heap.size ≤ k_) ∧ some k_ ≠ (.slice Ao11 x3_1.length co11 : Value).ownBlock)) (by (with_reducible repeat (first | apply Kd.V_alloc | apply Kd.V_drewN | apply Kd.V_drew)); exact Kd.V_mono HLq20.out (fun _ hk => ⟨⟨hk.1, hk.2.1⟩, hk.2.2⟩)) hg hat); have n7_ := aM (Kd.V_afterv (ok := (fun k_ => (P0_ k_ ∨ w.heap.size ≤ k_) ∧ some k_ ≠ (.slice Ao11 x3_1.length co11 : Value).ownBlock)) (by (with_reducible repeat (first | apply Kd.V_alloc | apply Kd.V_drewN | apply Kd.V_drew)); exact Kd.V_mono HLq21.out (fun _ hk => ⟨⟨hk.1, hk.2.1⟩, hk.2.2⟩)) hg hat); have n8_ := aM (Kd.V_afterv (ok := (fun k_ => (P0_ k_ ∨ w.heap.size ≤ k_) ∧ some k_ ≠ (.slice Ao11 x3_1.length co11 : Value).ownBlock)) (by (with_reducible repeat (first | apply Kd.V_alloc | apply Kd.V_drewN | apply Kd.V_drew)); exact Kd.V_mono HLq22.out (fun _ hk => ⟨⟨hk.1, hk.2.1⟩, hk.2.2⟩)) hg hat); have n9_ := aM (Kd.V_afterv (ok := (fun k_ => (P0_ k_ ∨ w.heap.size ≤ k_) ∧ some k_ ≠ (.slice Ao11 x3_1.length co11 : Value).ownBlock)) (by (with_reducible repeat (first | apply Kd.V_alloc | apply Kd.V_drewN | apply Kd.V_drew)); exact Kd.V_mono HLq27.out (fun _ hk => ⟨⟨hk.1, hk.2.1⟩, hk.2.2⟩)) hg hat); have n10_ := aM (Kd.V_afterv (ok := (fun k_ => (P0_ k_ ∨ w.heap.size ≤ k_) ∧ some k_ ≠ (.slice Ao11 x3_1.length co11 : Value).ownBlock)) (by (with_reducible repeat (first | apply Kd.V_alloc | apply Kd.V_drewN | apply Kd.V_drew)); exact Kd.V_mono HO362.out (fun _ hk => ⟨⟨hk.1, hk.2.1⟩, hk.2.2⟩)) hg hat); have n11_ := aM (hb); have n12_ := aM (ho); clear HO_0; clear HO_3; clear HLq10; clear HLq11; clear HLq12; clear HLq13; clear HLq20; clear HLq21; clear HLq22; clear HLq27; clear HO362; clear HB; clear HO_8; have HO_0 := n0_; have HO_3 := n1_; have HLq10 := n2_; have HLq11 := n3_; have HLq12 := n4_; have HLq13 := n5_; have HLq20 := n6_; have HLq21 := n7_; have HLq22 := n8_; have HLq27 := n9_; have HO362 := n10_; have HB := n11_; have HO365 := n12_; clear n0_ n1_ n2_ n3_ n4_ n5_ n6_ n7_ n8_ n9_ n10_ n11_ n12_; clear ho hb hg hat))
                go_roundg k2
                case measure => have := HK1.out; have := HK2.out; omega
                case rel => exact ⟨(y363), (wrap64 (x9_2 + 1)), (by first | rfl | (simp; done) | (simp [*]; done)), H', ⟨by have := HK1.out; have := HK2.out; omega⟩, ⟨by (with_reducible repeat (first | apply Kd.V_alloc | apply Kd.V_drewN | apply Kd.V_drew)); exact Kd.V_mono HO_0.out (fun _ hk => ⟨hk.1.1, ⟨hk.1.2, hk.2⟩⟩)⟩, ⟨by (with_reducible repeat (first | apply Kd.N_alloc | apply Kd.N_drewN | apply Kd.N_drew)); exact HO_3.out⟩, ⟨by (with_reducible repeat (first | apply Kd.N_alloc | apply Kd.N_drewN | apply Kd.N_drew)); exact HO365.out⟩, ⟨by repeat (first | (with_reducible first | exact HB.out | apply bA | apply bN | apply bD) | exact HB.out)⟩⟩
               ·
                rw [if_neg c21] at H
                exact absurd H (by simp)
              ·
               rw [if_neg c20] at H
               exact absurd H (by simp)
             ·
              rw [if_neg c19] at H
              exact absurd H (by simp)
          ·
           rw [if_neg c13] at H
           exact absurd H (by simp)
         ·
          rw [if_neg c12] at H
          have c12b0 : decide (x9_2 < (l0.length : Int)) = false := decide_eq_false c12
          clear c12
          by_cases c25 : 0 ≤ x4_1
          ·
           rw [if_pos c25] at H
           have c25b0 : decide (0 ≤ x4_1) = true := decide_eq_true c25
           clear c25
           by_cases c26 : x4_1 < (l0.length : Int)
           ·
            rw [if_pos c26] at H
            have c26b0 : decide (x4_1 < (l0.length : Int)) = true := decide_eq_true c26
            clear c26
            replace H := Option.bind_eq_some_iff.mp H
            obtain ⟨⟨t368, t369⟩, A270, H⟩ := H
            replace H : (if t369 = 0 then (if x3_1.length < 1759218604441 then (banksmanlaw14_committed.l0 k2 l0 (x3_1 ++ [(⟨(wrap64 ((wrap64 ((wrap64 ((x3_1.length : Int) + 1)) - 1)) - (Int.tmod (wrap64 ((rd_T43 l0 x4_1).f0)) (wrap64 ((x3_1.length : Int) + 1))))), (wrap64 ((x3_1.length : Int) + 1)), (rd_T43 l0 x4_1).f1, (rd_T43 l0 x4_1).f2, (rd_T43 l0 x4_1).f3, t368⟩ : S50)]) (wrap64 (x4_1 + 1))) else (none)) else (banksmanlaw14_committed.l0 k2 l0 x3_1 (wrap64 (x4_1 + 1)))) = some r := H
            have A27 := aM A270
            clear A270
            by_cases c28 : t369 = 0
            ·
             rw [if_pos c28] at H
             have c28b0 : (t369 == 0) = true := beq_iff_eq.mpr c28
             have c28b1 : (t369 != 0) = false := bne_eq_false_iff_eq.mpr c28
             clear c28
             by_cases c29 : x3_1.length < 1759218604441
             ·
              rw [if_pos c29] at H
              have LMc29 := aM c29
              clear c29
              obtain ⟨y373, hy373⟩ : ∃ y_ : List (S50), y_ = (x3_1 ++ [(⟨(wrap64 ((wrap64 ((wrap64 ((x3_1.length : Int) + 1)) - 1)) - (Int.tmod (wrap64 ((rd_T43 l0 x4_1).f0)) (wrap64 ((x3_1.length : Int) + 1))))), (wrap64 ((x3_1.length : Int) + 1)), (rd_T43 l0 x4_1).f1, (rd_T43 l0 x4_1).f2, (rd_T43 l0 x4_1).f3, t368⟩ : S50)]) := ⟨_, rfl⟩
              replace H : (banksmanlaw14_committed.l0 k2 l0 y373 (wrap64 (x4_1 + 1))) = some r := by first | (rw [hy373]; with_reducible exact H) | (have H2_ := (Option.bind_some _ _).symm.trans H; rw [hy373]; with_reducible exact H2_) | (have H2_ := (Option.bind_some _ _).symm.trans H; with_reducible exact H2_) | with_reducible exact H | (rw [hy373]; exact H) | exact H
              have Ny373 := aM hy373
              clear hy373
              have H' := aM H
              clear H
              try go_wp2
              have n0_ := aM (Kd.V_drew HO_0.out)
              have n1_ := aM (Kd.N_drew HO_3.out)
              have n2_ := aM (Kd.N_drew HO_8.out)
              have n3_ := aM (bD HB.out)
              clear HO_0
              clear HO_3
              clear HO_8
              clear HB
              have HO_0 := n0_
              have HO_3 := n1_
              have HO_8 := n2_
              have HB := n3_
              clear n0_ n1_ n2_ n3_
              have p366 : 0 ≤ (x4_1 : Int) := of_decide_eq_true (by first | (with_reducible assumption) | assumption)
              have q366 : x4_1 < (l0.length : Int) := of_decide_eq_true (by first | (with_reducible assumption) | assumption)
              obtain ⟨ad366, A366_2, c366_2, A366_3, c366_3, e366, hx366_0, hx366_1, hx366_2, hx366_3, hx366_4, hl366_2, hi366_2, hl366_3, hi366_3⟩ := at_T43 (Kd.V_reads' HO_0.out).2.2 x4_1 p366 q366
              (try rw [← Nbq5.out] at hx366_1)
              obtain rfl : ad346 = ad366 := (by injection e366)
              obtain ⟨ce366, hce366, hMe366, hcc366⟩ := Kd.V_get HO_0.out z43 x4_1 p366 (by first | exact q366 | exact of_decide_eq_true (by first | (with_reducible assumption) | assumption) | (have e_ := (Kd.V_reads' HO_0.out).1; omega))
              obtain ⟨ua366_2, uc366_2, ua366_3, uc366_3, rfl, ul366_2, ge366_2, ul366_3, ge366_3⟩ := k43_openF hMe366
              have hv366_2 := hcc366 2 _ rfl
              rw [add_field _ _ 2 (by omega)] at hv366_2
              replace hv366_2 := Option.some.inj (hv366_2.symm.trans hx366_2)
              injection hv366_2 with hva_ hvn_ hvc_
              rw [hva_] at ge366_2
              rw [hvc_] at ul366_2
              have HLq0 := aM (show Kd.V k57 57 _ w.heap.size _ _ ((rd_T43 l0 x4_1).f2) from Kd.V_mk ul366_2 ge366_2)
              clear hva_ hvn_ hvc_ ge366_2 ul366_2
              have hv366_3 := hcc366 3 _ rfl
              rw [add_field _ _ 3 (by omega)] at hv366_3
              replace hv366_3 := Option.some.inj (hv366_3.symm.trans hx366_3)
              injection hv366_3 with hva_ hvn_ hvc_
              rw [hva_] at ge366_3
              rw [hvc_] at ul366_3
              have HLq1 := aM (show Kd.V k59 59 _ w.heap.size _ _ ((rd_T43 l0 x4_1).f3) from Kd.V_mk ul366_3 ge366_3)
              clear hva_ hvn_ hvc_ ge366_3 ul366_3
              clear hcc366 hce366
              have HRq0 := aM hi366_2
              have HCq0 := aM hl366_2
              clear hi366_2 hl366_2
              have HRq2 := aM hi366_3
              have HCq13 := aM hl366_3
              clear hi366_3 hl366_3
              replace p366 := eq_true p366
              replace q366 := eq_true q366
              have p367 : 0 ≤ (x4_1 : Int) := of_decide_eq_true (by first | (with_reducible assumption) | assumption)
              have q367 : x4_1 < (l0.length : Int) := of_decide_eq_true (by first | (with_reducible assumption) | assumption)
              obtain ⟨ad367, A367_2, c367_2, A367_3, c367_3, e367, hx367_0, hx367_1, hx367_2, hx367_3, hx367_4, hl367_2, hi367_2, hl367_3, hi367_3⟩ := at_T43 (Kd.V_reads' HO_0.out).2.2 x4_1 p367 q367
              (try rw [← Nbq5.out] at hx367_1)
              obtain rfl : ad346 = ad367 := (by injection e367)
              obtain ⟨ce367, hce367, hMe367, hcc367⟩ := Kd.V_get HO_0.out z43 x4_1 p367 (by first | exact q367 | exact of_decide_eq_true (by first | (with_reducible assumption) | assumption) | (have e_ := (Kd.V_reads' HO_0.out).1; omega))
              obtain ⟨ua367_2, uc367_2, ua367_3, uc367_3, rfl, ul367_2, ge367_2, ul367_3, ge367_3⟩ := k43_openF hMe367
              have hv367_2 := hcc367 2 _ rfl
              rw [add_field _ _ 2 (by omega)] at hv367_2
              replace hv367_2 := Option.some.inj (hv367_2.symm.trans hx367_2)
              injection hv367_2 with hva_ hvn_ hvc_
              rw [hva_] at ge367_2
              rw [hvc_] at ul367_2
              have HLq2 := aM (show Kd.V k57 57 _ w.heap.size _ _ ((rd_T43 l0 x4_1).f2) from Kd.V_mk ul367_2 ge367_2)
              clear hva_ hvn_ hvc_ ge367_2 ul367_2
              have hv367_3 := hcc367 3 _ rfl
              rw [add_field _ _ 3 (by omega)] at hv367_3
              replace hv367_3 := Option.some.inj (hv367_3.symm.trans hx367_3)
              injection hv367_3 with hva_ hvn_ hvc_
              rw [hva_] at ge367_3
              rw [hvc_] at ul367_3
              have HLq3 := aM (show Kd.V k59 59 _ w.heap.size _ _ ((rd_T43 l0 x4_1).f3) from Kd.V_mk ul367_3 ge367_3)
              clear hva_ hvn_ hvc_ ge367_3 ul367_3
              clear hcc367 hce367
              have HRq3 := aM hi367_2
              have HCq14 := aM hl367_2
              clear hi367_2 hl367_2
              have HRq1 := aM hi367_3
              have HCq1 := aM hl367_3
              clear hi367_3 hl367_3
              replace p367 := eq_true p367
              replace q367 := eq_true q367
              have ea_ := Option.some.inj (hx366_2.symm.trans hx367_2)
              injection ea_ with ea_ en_ ec_
              subst ea_
              subst ec_
              clear en_
              have ea_ := Option.some.inj (hx366_3.symm.trans hx367_3)
              injection ea_ with ea_ en_ ec_
              subst ea_
              subst ec_
              clear en_
              obtain ⟨Ao31, co31, eo31⟩ := Kd.N_slice HO_8.out
              (first | subst eo31 | (injection eo31 with f1_ f2_ f3_; have f4_ := f1_.symm; have f5_ := f3_.symm; clear f1_ f2_ f3_; subst f4_; subst f5_))
              refine start_ (n := 20) (S := fun w' => w'.cell? (ad346.add ((x4_1).toNat * 5)) = some (.int .u8 ((rd_T43 l0 x4_1).f0)) ∧ w'.cell? ⟨(ad346.add ((x4_1).toNat * 5)).block, (ad346.add ((x4_1).toNat * 5)).off + 1, none⟩ = some (.bool (false)) ∧ w'.cell? ⟨(ad346.add ((x4_1).toNat * 5)).block, (ad346.add ((x4_1).toNat * 5)).off + 2, none⟩ = some (.slice A366_2 ((rd_T43 l0 x4_1).f2).length c366_2) ∧ w'.cell? ⟨(ad346.add ((x4_1).toNat * 5)).block, (ad346.add ((x4_1).toNat * 5)).off + 3, none⟩ = some (.slice A366_3 ((rd_T43 l0 x4_1).f3).length c366_3) ∧ w'.cell? ⟨(ad346.add ((x4_1).toNat * 5)).block, (ad346.add ((x4_1).toNat * 5)).off + 4, none⟩ = some (.int .u8 ((rd_T43 l0 x4_1).f4)) ∧ w'.cell? (ad346.add ((x4_1).toNat * 5)) = some (.int .u8 ((rd_T43 l0 x4_1).f0)) ∧ w'.cell? ⟨(ad346.add ((x4_1).toNat * 5)).block, (ad346.add ((x4_1).toNat * 5)).off + 1, none⟩ = some (.bool (false)) ∧ w'.cell? ⟨(ad346.add ((x4_1).toNat * 5)).block, (ad346.add ((x4_1).toNat * 5)).off + 2, none⟩ = some (.slice A366_2 ((rd_T43 l0 x4_1).f2).length c366_2) ∧ w'.cell? ⟨(ad346.add ((x4_1).toNat * 5)).block, (ad346.add ((x4_1).toNat * 5)).off + 3, none⟩ = some (.slice A366_3 ((rd_T43 l0 x4_1).f3).length c366_3) ∧ w'.cell? ⟨(ad346.add ((x4_1).toNat * 5)).block, (ad346.add ((x4_1).toNat * 5)).off + 4, none⟩ = some (.int .u8 ((rd_T43 l0 x4_1).f4))) (ds := []) #[F_,F_,F_,F_,F_,F_,F_,F_,F_,F_,F_,F_,F_,F_,F_,F_,F_,F_,F_,F_] (by kernel_rfl) rfl rfl ⟨hx366_0, hx366_1, hx366_2, hx366_3, hx366_4, hx367_0, hx367_1, hx367_2, hx367_3, hx367_4⟩ (fun hHeld => ?_); refine with_tabW banksmanlaw14_committed.tab17 banksmanlaw14_committed.bits17 (fun HT_ HW_ => ?_)
              generalize wr.drew = w30 at HO_0 HO_3 HO_8 HB HLq0 HLq1 HLq2 HLq3 HRq0 HRq2 HRq3 HRq1 hx366_0 hx366_1 hx366_2 hx366_3 hx366_4 hx367_0 hx367_1 hx367_2 hx367_3 hx367_4 hHeld ⊢
              refine pure_ (i := 0) (N := some 80) (v := ?_) (a' := ?_) #[T_,F_,F_,F_,F_,F_,F_,F_,F_,F_,F_,F_,F_,F_,F_,F_,F_,F_,F_,F_] rfl rfl (any_of HT_.out (by kernel_rfl)) (fun _ _ _ h => h) (Or.inl ⟨by rfl, ?_⟩) ?_ ?_
              rotate_left
              ·
               intro w'
               go_simp
               with_reducible rfl
              rotate_left
              ·
               simp only [Act.put, List.setIfInBounds_toArray, List.set_cons_zero, List.set_cons_succ, i64_w, i32_w]
               rfl
              refine pure_ (i := 1) (N := some 81) (v := ?_) (a' := ?_) #[T_,T_,F_,F_,F_,F_,F_,F_,F_,F_,F_,F_,F_,F_,F_,F_,F_,F_,F_,F_] rfl rfl (any_of HT_.out (by kernel_rfl)) (fun _ _ _ h => h) (Or.inl ⟨by rfl, ?_⟩) ?_ ?_
              rotate_left
              ·
               intro w'
               go_simp
               with_reducible rfl
              rotate_left
              ·
               simp only [Act.put, List.setIfInBounds_toArray, List.set_cons_zero, List.set_cons_succ, i64_w, i32_w]
               rfl
              refine pure_ (i := 2) (N := some 82) (v := ?_) (a' := ?_) #[T_,T_,T_,F_,F_,F_,F_,F_,F_,F_,F_,F_,F_,F_,F_,F_,F_,F_,F_,F_] rfl rfl (any_of HT_.out (by kernel_rfl)) (fun _ _ _ h => h) (Or.inl ⟨by rfl, ?_⟩) ?_ ?_
              rotate_left
              ·
               intro w'
               go_simp
               with_reducible rfl
              rotate_left
              ·
               simp only [Act.put, List.setIfInBounds_toArray, List.set_cons_zero, List.set_cons_succ, i64_w, i32_w]
               rfl
              refine pure_ (i := 3) (N := some 83) (v := ?_) (a' := ?_) #[T_,T_,T_,T_,F_,F_,F_,F_,F_,F_,F_,F_,F_,F_,F_,F_,F_,F_,F_,F_] rfl rfl (any_of HT_.out (by kernel_rfl)) (fun _ _ _ h => h) (Or.inl ⟨by rfl, ?_⟩) ?_ ?_
              rotate_left
              ·
               intro w'
               go_simp
               with_reducible rfl
              rotate_left
              ·
               simp only [Act.put, List.setIfInBounds_toArray, List.set_cons_zero, List.set_cons_succ, i64_w, i32_w]
               rfl
              refine pure_ (i := 4) (N := some 84) (v := ?_) (a' := ?_) #[T_,T_,T_,T_,T_,F_,F_,F_,F_,F_,F_,F_,F_,F_,F_,F_,F_,F_,F_,F_] rfl rfl (any_of HT_.out (by kernel_rfl)) (fun _ _ _ h => h) (Or.inl ⟨by rfl, ?_⟩) ?_ ?_
              rotate_left
              ·
               intro w'
               go_simp
               with_reducible rfl
              rotate_left
              ·
               simp only [Act.put, List.setIfInBounds_toArray, List.set_cons_zero, List.set_cons_succ, i64_w, i32_w]
               rfl
              refine pure_ (i := 7) (N := some 87) (v := ?_) (a' := ?_) #[T_,T_,T_,T_,T_,F_,F_,T_,F_,F_,F_,F_,F_,F_,F_,F_,F_,F_,F_,F_] rfl rfl (any_of HT_.out (by kernel_rfl)) (fun _ _ _ h => h) (Or.inl ⟨by rfl, ?_⟩) ?_ ?_
              rotate_left
              ·
               intro w'
               go_simp
               with_reducible rfl
              rotate_left
              ·
               simp only [Act.put, List.setIfInBounds_toArray, List.set_cons_zero, List.set_cons_succ, i64_w, i32_w]
               rfl
              refine pure_ (i := 8) (N := some 88) (v := ?_) (a' := ?_) #[T_,T_,T_,T_,T_,F_,F_,T_,T_,F_,F_,F_,F_,F_,F_,F_,F_,F_,F_,F_] rfl rfl (any_of HT_.out (by kernel_rfl)) (fun _ _ _ h => h) (Or.inl ⟨by rfl, ?_⟩) ?_ ?_
              rotate_left
              ·
               intro w'
               go_simp
               with_reducible rfl
              rotate_left
              ·
               simp only [Act.put, List.setIfInBounds_toArray, List.set_cons_zero, List.set_cons_succ, i64_w, i32_w]
               rfl
              refine pure_ (i := 9) (N := some 89) (v := ?_) (a' := ?_) #[T_,T_,T_,T_,T_,F_,F_,T_,T_,T_,F_,F_,F_,F_,F_,F_,F_,F_,F_,F_] rfl rfl (any_of HT_.out (by kernel_rfl)) (fun _ _ _ h => h) (Or.inl ⟨by rfl, ?_⟩) ?_ ?_
              rotate_left
              ·
               intro w'
               go_simp
               with_reducible rfl
              rotate_left
              ·
               simp only [Act.put, List.setIfInBounds_toArray, List.set_cons_zero, List.set_cons_succ, i64_w, i32_w]
               rfl
              refine pure_ (i := 10) (N := some 90) (v := ?_) (a' := ?_) #[T_,T_,T_,T_,T_,F_,F_,T_,T_,T_,T_,F_,F_,F_,F_,F_,F_,F_,F_,F_] rfl rfl (any_of HT_.out (by kernel_rfl)) (fun _ _ _ h => h) (Or.inl ⟨by rfl, ?_⟩) ?_ ?_
              rotate_left
              ·
               intro w'
               go_simp
               with_reducible rfl
              rotate_left
              ·
               simp only [Act.put, List.setIfInBounds_toArray, List.set_cons_zero, List.set_cons_succ, i64_w, i32_w]
               rfl
              refine pure_ (i := 12) (N := some 92) (v := ?_) (a' := ?_) #[T_,T_,T_,T_,T_,F_,F_,T_,T_,T_,T_,F_,T_,F_,F_,F_,F_,F_,F_,F_] rfl rfl (any_of HT_.out (by kernel_rfl)) (fun _ _ _ h => h) (Or.inl ⟨by rfl, ?_⟩) ?_ ?_
              rotate_left
              ·
               intro w'
               go_simp
               with_reducible rfl
              rotate_left
              ·
               simp only [Act.put, List.setIfInBounds_toArray, List.set_cons_zero, List.set_cons_succ, i64_w, i32_w]
               rfl
              refine pure_ (i := 13) (N := some 93) (v := ?_) (a' := ?_) #[T_,T_,T_,T_,T_,F_,F_,T_,T_,T_,T_,F_,T_,T_,F_,F_,F_,F_,F_,F_] rfl rfl (any_of HT_.out (by kernel_rfl)) (fun _ _ _ h => h) (Or.inl ⟨by rfl, ?_⟩) ?_ ?_
              rotate_left
              ·
               intro w'
               go_simp
               with_reducible rfl
              rotate_left
              ·
               simp only [Act.put, List.setIfInBounds_toArray, List.set_cons_zero, List.set_cons_succ, i64_w, i32_w]
               rfl
              refine take_ (i := 5) (N := some 85) (v := ?_) (a' := ?_) #[T_,T_,T_,T_,T_,T_,F_,T_,T_,T_,T_,F_,T_,T_,F_,F_,F_,F_,F_,F_] rfl rfl (take_ofW HT_.out HW_.out (by kernel_rfl)) (fun _ _ _ h => h) (Or.inl ⟨by rfl, ?_⟩) hHeld ?_ ?_
              rotate_left
              ·
               rintro w' ⟨s0, s1, s2, s3, s4, s5, s6, s7, s8, s9⟩
               go_simp
               with_reducible rfl
              rotate_left
              ·
               simp only [Act.put, List.setIfInBounds_toArray, List.set_cons_zero, List.set_cons_succ, i64_w, i32_w]
               rfl
              refine pure_ (i := 6) (N := some 86) (v := ?_) (a' := ?_) #[T_,T_,T_,T_,T_,T_,T_,T_,T_,T_,T_,F_,T_,T_,F_,F_,F_,F_,F_,F_] rfl rfl (any_of HT_.out (by kernel_rfl)) (fun _ _ _ h => h) (Or.inl ⟨by rfl, ?_⟩) ?_ ?_
              rotate_left
              ·
               intro w'
               go_simp
               with_reducible rfl
              rotate_left
              ·
               simp only [Act.put, List.setIfInBounds_toArray, List.set_cons_zero, List.set_cons_succ, i64_w, i32_w]
               rfl
              refine take_ (i := 11) (N := some 91) (v := ?_) (a' := ?_) #[T_,T_,T_,T_,T_,T_,T_,T_,T_,T_,T_,T_,T_,T_,F_,F_,F_,F_,F_,F_] rfl rfl (take_ofW HT_.out HW_.out (by kernel_rfl)) (fun _ _ _ h => h) (Or.inl ⟨by rfl, ?_⟩) hHeld ?_ ?_
              rotate_left
              ·
               rintro w' ⟨s0, s1, s2, s3, s4, s5, s6, s7, s8, s9⟩
               go_simp
               with_reducible rfl
              rotate_left
              ·
               simp only [Act.put, List.setIfInBounds_toArray, List.set_cons_zero, List.set_cons_succ, i64_w, i32_w]
               rfl
              refine one_ (i := 14) (N := some 94) #[T_,T_,T_,T_,T_,T_,T_,T_,T_,T_,T_,T_,T_,T_,T_,F_,F_,F_,F_,F_] rfl rfl (one_of HT_.out (by kernel_rfl)) (by decide) (fun K hK => ?_)
              refine goes_ Try.func12 (by kernel_rfl) rfl #[.agg #[.int .i64 (wrap64 ((wrap64 ((wrap64 ((x3_1.length : Int) + 1)) - 1)) - (Int.tmod (wrap64 ((rd_T43 l0 x4_1).f0)) (wrap64 ((x3_1.length : Int) + 1))))), .slice A366_2 ((rd_T43 l0 x4_1).f2).length c366_2], .slice A366_3 ((rd_T43 l0 x4_1).f3).length c366_3, .slice Ao11 x3_1.length co11, .slice Ao31 x8_2.length co31] (by rfl) rfl rfl (by (try simp only [List.map_toArray, List.map_cons, List.map_nil]); first | done | rfl | (simp only [List.length_drop, List.length_take]; rfl)) ?_
              with_reducible refine (rival_Judge.calls (wrap64 ((wrap64 ((wrap64 ((x3_1.length : Int) + 1)) - 1)) - (Int.tmod (wrap64 ((rd_T43 l0 x4_1).f0)) (wrap64 ((x3_1.length : Int) + 1))))) _ _ ((rd_T43 l0 x4_1).f2) _ _ ((rd_T43 l0 x4_1).f3) _ _ x3_1 _ _ x8_2 t368 t369 _ ?side1 ?side2 ?side3 ?side4 ?side5 ?side6 ?side7 ?side8 A27.out).mono ?_
              (case side1 => repeat (first | exact (cU HRq0.out) | (with_reducible refine Kd.C_alloc ?_ _) | (with_reducible refine Kd.C_drewN ?_ _) | (with_reducible refine Kd.C_drew ?_)))
              (case side2 => exact HCq0.out)
              (case side3 => repeat (first | exact (cU HRq1.out) | (with_reducible refine Kd.C_alloc ?_ _) | (with_reducible refine Kd.C_drewN ?_ _) | (with_reducible refine Kd.C_drew ?_)))
              (case side4 => exact HCq1.out)
              (case side5 => repeat (first | exact (Kd.N_reads' HO_3.out).2.2 | (with_reducible refine Kd.C_alloc ?_ _) | (with_reducible refine Kd.C_drewN ?_ _) | (with_reducible refine Kd.C_drew ?_)))
              (case side6 => exact (Kd.N_reads' HO_3.out).2.1)
              (case side7 => repeat (first | exact (Kd.N_reads' HO_8.out).2.2 | (with_reducible refine Kd.C_alloc ?_ _) | (with_reducible refine Kd.C_drewN ?_ _) | (with_reducible refine Kd.C_drew ?_)))
              (case side8 => exact (Kd.N_reads' HO_8.out).2.1)
              rintro e w32 ⟨rfl, hb⟩
              have HS0_ := (hb.cell (World.block_lt_of_cell? _ _ (hHeld.1))).trans (hHeld.1)
              have HS1_ := (hb.cell (World.block_lt_of_cell? _ _ (hHeld.2.1))).trans (hHeld.2.1)
              have HS2_ := (hb.cell (World.block_lt_of_cell? _ _ (hHeld.2.2.1))).trans (hHeld.2.2.1)
              have HS3_ := (hb.cell (World.block_lt_of_cell? _ _ (hHeld.2.2.2.1))).trans (hHeld.2.2.2.1)
              have HS4_ := (hb.cell (World.block_lt_of_cell? _ _ (hHeld.2.2.2.2.1))).trans (hHeld.2.2.2.2.1)
              have HS5_ := (hb.cell (World.block_lt_of_cell? _ _ (hHeld.2.2.2.2.2.1))).trans (hHeld.2.2.2.2.2.1)
              have HS6_ := (hb.cell (World.block_lt_of_cell? _ _ (hHeld.2.2.2.2.2.2.1))).trans (hHeld.2.2.2.2.2.2.1)
              have HS7_ := (hb.cell (World.block_lt_of_cell? _ _ (hHeld.2.2.2.2.2.2.2.1))).trans (hHeld.2.2.2.2.2.2.2.1)
              have HS8_ := (hb.cell (World.block_lt_of_cell? _ _ (hHeld.2.2.2.2.2.2.2.2.1))).trans (hHeld.2.2.2.2.2.2.2.2.1)
              have HS9_ := (hb.cell (World.block_lt_of_cell? _ _ (hHeld.2.2.2.2.2.2.2.2.2))).trans (hHeld.2.2.2.2.2.2.2.2.2)
              refine ⟨_, rfl, ?_⟩
              have n0_ := aM (vB (vU HO_0.out) hb)
              have n1_ := aM (Kd.N_below (nU HO_3.out) hb)
              have n2_ := aM (Kd.N_below (nU HO_8.out) hb)
              have n3_ := aM (vB (vU HLq0.out) hb)
              have n4_ := aM (vB (vU HLq1.out) hb)
              have n5_ := aM (vB (vU HLq2.out) hb)
              have n6_ := aM (vB (vU HLq3.out) hb)
              have n7_ := aM (Kd.C_below (cU HRq0.out) hb)
              have n8_ := aM (Kd.C_below (cU HRq2.out) hb)
              have n9_ := aM (Kd.C_below (cU HRq3.out) hb)
              have n10_ := aM (Kd.C_below (cU HRq1.out) hb)
              have n11_ := aM (below_step (by repeat (first | (with_reducible first | exact HB.out | apply bA | apply bN | apply bD) | exact HB.out)) hb)
              clear HO_0
              clear HO_3
              clear HO_8
              clear HLq0
              clear HLq1
              clear HLq2
              clear HLq3
              clear HRq0
              clear HRq2
              clear HRq3
              clear HRq1
              clear HB
              have HO_0 := n0_
              have HO_3 := n1_
              have HO_8 := n2_
              have HLq0 := n3_
              have HLq1 := n4_
              have HLq2 := n5_
              have HLq3 := n6_
              have HRq0 := n7_
              have HRq2 := n8_
              have HRq3 := n9_
              have HRq1 := n10_
              have HB := n11_
              clear n0_ n1_ n2_ n3_ n4_ n5_ n6_ n7_ n8_ n9_ n10_ n11_
              (try clear hb)
              (try clear hb2)
              (try clear hk)
              (try clear hi)
              refine hK.out _ _ ⟨HS0_, HS1_, HS2_, HS3_, HS4_, HS5_, HS6_, HS7_, HS8_, HS9_⟩ (fun hHeld => ?_)
              clear hK K
              refine norm_ (a' := ?_) ?_ ?_
              rotate_left
              ·
               show Act.put _ (some 94) _ = _
               simp only [Act.put, List.setIfInBounds_toArray, List.set_cons_zero, List.set_cons_succ, i64_w, i32_w]
               rfl
              refine pure_ (i := 15) (N := some 79) (v := ?_) (a' := ?_) #[T_,T_,T_,T_,T_,T_,T_,T_,T_,T_,T_,T_,T_,T_,T_,T_,F_,F_,F_,F_] rfl rfl (any_of HT_.out (by kernel_rfl)) (fun _ _ _ h => h) (Or.inl ⟨by rfl, ?_⟩) ?_ ?_
              rotate_left
              ·
               intro w'
               go_simp
               with_reducible rfl
              rotate_left
              ·
               simp only [Act.put, List.setIfInBounds_toArray, List.set_cons_zero, List.set_cons_succ, i64_w, i32_w]
               rfl
              refine pure_ (i := 16) (N := some 95) (v := ?_) (a' := ?_) #[T_,T_,T_,T_,T_,T_,T_,T_,T_,T_,T_,T_,T_,T_,T_,T_,T_,F_,F_,F_] rfl rfl (any_of HT_.out (by kernel_rfl)) (fun _ _ _ h => h) (Or.inl ⟨by rfl, ?_⟩) ?_ ?_
              rotate_left
              ·
               intro w'
               go_simp
               with_reducible rfl
              rotate_left
              ·
               simp only [Act.put, List.setIfInBounds_toArray, List.set_cons_zero, List.set_cons_succ, i64_w, i32_w]
               rfl
              refine pure_ (i := 17) (N := some 96) (v := ?_) (a' := ?_) #[T_,T_,T_,T_,T_,T_,T_,T_,T_,T_,T_,T_,T_,T_,T_,T_,T_,T_,F_,F_] rfl rfl (any_of HT_.out (by kernel_rfl)) (fun _ _ _ h => h) (Or.inl ⟨by rfl, ?_⟩) ?_ ?_
              rotate_left
              ·
               intro w'
               go_simp
               with_reducible rfl
              rotate_left
              ·
               simp only [Act.put, List.setIfInBounds_toArray, List.set_cons_zero, List.set_cons_succ, i64_w, i32_w]
               rfl
              refine pure_ (i := 18) (N := some 11) (v := ?_) (a' := ?_) #[T_,T_,T_,T_,T_,T_,T_,T_,T_,T_,T_,T_,T_,T_,T_,T_,T_,T_,T_,F_] rfl rfl (any_of HT_.out (by kernel_rfl)) (fun _ _ _ h => h) (Or.inl ⟨by rfl, ?_⟩) ?_ ?_
              rotate_left
              ·
               intro w'
               go_simp
               with_reducible rfl
              rotate_left
              ·
               simp only [Act.put, List.setIfInBounds_toArray, List.set_cons_zero, List.set_cons_succ, i64_w, i32_w]
               rfl
              refine pure_ (i := 19) (N := some 12) (v := ?_) (a' := ?_) #[T_,T_,T_,T_,T_,T_,T_,T_,T_,T_,T_,T_,T_,T_,T_,T_,T_,T_,T_,T_] rfl rfl (any_of HT_.out (by kernel_rfl)) (fun _ _ _ h => h) (Or.inl ⟨by rfl, ?_⟩) ?_ ?_
              rotate_left
              ·
               intro w'
               go_simp
               with_reducible rfl
              rotate_left
              ·
               simp only [Act.put, List.setIfInBounds_toArray, List.set_cons_zero, List.set_cons_succ, i64_w, i32_w]
               rfl
              refine done_ (done_of HT_.out (by kernel_rfl)) ?_
              try go_wp2
              have n0_ := aM (Kd.V_drew HO_0.out)
              have n1_ := aM (Kd.N_drew HO_3.out)
              have n2_ := aM (Kd.N_drew HO_8.out)
              have n3_ := aM (Kd.V_drew HLq0.out)
              have n4_ := aM (Kd.V_drew HLq1.out)
              have n5_ := aM (Kd.V_drew HLq2.out)
              have n6_ := aM (Kd.V_drew HLq3.out)
              have n7_ := aM (Kd.C_drew HRq0.out)
              have n8_ := aM (Kd.C_drew HRq2.out)
              have n9_ := aM (Kd.C_drew HRq3.out)
              have n10_ := aM (Kd.C_drew HRq1.out)
              have n11_ := aM (bD HB.out)
              clear HO_0
              clear HO_3
              clear HO_8
              clear HLq0
              clear HLq1
              clear HLq2
              clear HLq3
              clear HRq0
              clear HRq2
              clear HRq3
              clear HRq1
              clear HB
              have HO_0 := n0_
              have HO_3 := n1_
              have HO_8 := n2_
              have HLq0 := n3_
              have HLq1 := n4_
              have HLq2 := n5_
              have HLq3 := n6_
              have HRq0 := n7_
              have HRq2 := n8_
              have HRq3 := n9_
              have HRq1 := n10_
              have HB := n11_
              clear n0_ n1_ n2_ n3_ n4_ n5_ n6_ n7_ n8_ n9_ n10_ n11_
              have p370 : 0 ≤ (x4_1 : Int) := of_decide_eq_true (by first | (with_reducible assumption) | assumption)
              have q370 : x4_1 < (l0.length : Int) := of_decide_eq_true (by first | (with_reducible assumption) | assumption)
              obtain ⟨ad370, A370_2, c370_2, A370_3, c370_3, e370, hx370_0, hx370_1, hx370_2, hx370_3, hx370_4, hl370_2, hi370_2, hl370_3, hi370_3⟩ := at_T43 (Kd.V_reads' HO_0.out).2.2 x4_1 p370 q370
              (try rw [← Nbq5.out] at hx370_1)
              obtain rfl : ad346 = ad370 := (by injection e370)
              obtain ⟨ce370, hce370, hMe370, hcc370⟩ := Kd.V_get HO_0.out z43 x4_1 p370 (by first | exact q370 | exact of_decide_eq_true (by first | (with_reducible assumption) | assumption) | (have e_ := (Kd.V_reads' HO_0.out).1; omega))
              obtain ⟨ua370_2, uc370_2, ua370_3, uc370_3, rfl, ul370_2, ge370_2, ul370_3, ge370_3⟩ := k43_openF hMe370
              have hv370_2 := hcc370 2 _ rfl
              rw [add_field _ _ 2 (by omega)] at hv370_2
              replace hv370_2 := Option.some.inj (hv370_2.symm.trans hx370_2)
              injection hv370_2 with hva_ hvn_ hvc_
              rw [hva_] at ge370_2
              rw [hvc_] at ul370_2
              have HLq23 := aM (show Kd.V k57 57 _ w.heap.size _ _ ((rd_T43 l0 x4_1).f2) from Kd.V_mk ul370_2 ge370_2)
              clear hva_ hvn_ hvc_ ge370_2 ul370_2
              have hv370_3 := hcc370 3 _ rfl
              rw [add_field _ _ 3 (by omega)] at hv370_3
              replace hv370_3 := Option.some.inj (hv370_3.symm.trans hx370_3)
              injection hv370_3 with hva_ hvn_ hvc_
              rw [hva_] at ge370_3
              rw [hvc_] at ul370_3
              have HLq24 := aM (show Kd.V k59 59 _ w.heap.size _ _ ((rd_T43 l0 x4_1).f3) from Kd.V_mk ul370_3 ge370_3)
              clear hva_ hvn_ hvc_ ge370_3 ul370_3
              clear hcc370 hce370
              have HRq20 := aM hi370_2
              have HCq22 := aM hl370_2
              clear hi370_2 hl370_2
              have HRq21 := aM hi370_3
              have HCq23 := aM hl370_3
              clear hi370_3 hl370_3
              replace p370 := eq_true p370
              replace q370 := eq_true q370
              have p371 : 0 ≤ (x4_1 : Int) := of_decide_eq_true (by first | (with_reducible assumption) | assumption)
              have q371 : x4_1 < (l0.length : Int) := of_decide_eq_true (by first | (with_reducible assumption) | assumption)
              obtain ⟨ad371, A371_2, c371_2, A371_3, c371_3, e371, hx371_0, hx371_1, hx371_2, hx371_3, hx371_4, hl371_2, hi371_2, hl371_3, hi371_3⟩ := at_T43 (Kd.V_reads' HO_0.out).2.2 x4_1 p371 q371
              (try rw [← Nbq5.out] at hx371_1)
              obtain rfl : ad346 = ad371 := (by injection e371)
              obtain ⟨ce371, hce371, hMe371, hcc371⟩ := Kd.V_get HO_0.out z43 x4_1 p371 (by first | exact q371 | exact of_decide_eq_true (by first | (with_reducible assumption) | assumption) | (have e_ := (Kd.V_reads' HO_0.out).1; omega))
              obtain ⟨ua371_2, uc371_2, ua371_3, uc371_3, rfl, ul371_2, ge371_2, ul371_3, ge371_3⟩ := k43_openF hMe371
              have hv371_2 := hcc371 2 _ rfl
              rw [add_field _ _ 2 (by omega)] at hv371_2
              replace hv371_2 := Option.some.inj (hv371_2.symm.trans hx371_2)
              injection hv371_2 with hva_ hvn_ hvc_
              rw [hva_] at ge371_2
              rw [hvc_] at ul371_2
              have HLq14 := aM (show Kd.V k57 57 _ w.heap.size _ _ ((rd_T43 l0 x4_1).f2) from Kd.V_mk ul371_2 ge371_2)
              clear hva_ hvn_ hvc_ ge371_2 ul371_2
              have hv371_3 := hcc371 3 _ rfl
              rw [add_field _ _ 3 (by omega)] at hv371_3
              replace hv371_3 := Option.some.inj (hv371_3.symm.trans hx371_3)
              injection hv371_3 with hva_ hvn_ hvc_
              rw [hva_] at ge371_3
              rw [hvc_] at ul371_3
              have HLq25 := aM (show Kd.V k59 59 _ w.heap.size _ _ ((rd_T43 l0 x4_1).f3) from Kd.V_mk ul371_3 ge371_3)
              clear hva_ hvn_ hvc_ ge371_3 ul371_3
              clear hcc371 hce371
              have HRq22 := aM hi371_2
              have HCq24 := aM hl371_2
              clear hi371_2 hl371_2
              have HRq23 := aM hi371_3
              have HCq25 := aM hl371_3
              clear hi371_3 hl371_3
              replace p371 := eq_true p371
              replace q371 := eq_true q371
              have ea_ := Option.some.inj (hx370_2.symm.trans hx371_2)
              injection ea_ with ea_ en_ ec_
              subst ea_
              subst ec_
              clear en_
              have ea_ := Option.some.inj (hx370_3.symm.trans hx371_3)
              injection ea_ with ea_ en_ ec_
              subst ea_
              subst ec_
              clear en_
              have p372 : 0 ≤ (x4_1 : Int) := of_decide_eq_true (by first | (with_reducible assumption) | assumption)
              have q372 : x4_1 < (l0.length : Int) := of_decide_eq_true (by first | (with_reducible assumption) | assumption)
              obtain ⟨ad372, A372_2, c372_2, A372_3, c372_3, e372, hx372_0, hx372_1, hx372_2, hx372_3, hx372_4, hl372_2, hi372_2, hl372_3, hi372_3⟩ := at_T43 (Kd.V_reads' HO_0.out).2.2 x4_1 p372 q372
              (try rw [← Nbq5.out] at hx372_1)
              obtain rfl : ad346 = ad372 := (by injection e372)
              obtain ⟨ce372, hce372, hMe372, hcc372⟩ := Kd.V_get HO_0.out z43 x4_1 p372 (by first | exact q372 | exact of_decide_eq_true (by first | (with_reducible assumption) | assumption) | (have e_ := (Kd.V_reads' HO_0.out).1; omega))
              obtain ⟨ua372_2, uc372_2, ua372_3, uc372_3, rfl, ul372_2, ge372_2, ul372_3, ge372_3⟩ := k43_openF hMe372
              have hv372_2 := hcc372 2 _ rfl
              rw [add_field _ _ 2 (by omega)] at hv372_2
              replace hv372_2 := Option.some.inj (hv372_2.symm.trans hx372_2)
              injection hv372_2 with hva_ hvn_ hvc_
              rw [hva_] at ge372_2
              rw [hvc_] at ul372_2
              have HLq26 := aM (show Kd.V k57 57 _ w.heap.size _ _ ((rd_T43 l0 x4_1).f2) from Kd.V_mk ul372_2 ge372_2)
              clear hva_ hvn_ hvc_ ge372_2 ul372_2
              have hv372_3 := hcc372 3 _ rfl
              rw [add_field _ _ 3 (by omega)] at hv372_3
              replace hv372_3 := Option.some.inj (hv372_3.symm.trans hx372_3)
              injection hv372_3 with hva_ hvn_ hvc_
              rw [hva_] at ge372_3
              rw [hvc_] at ul372_3
              have HLq15 := aM (show Kd.V k59 59 _ w.heap.size _ _ ((rd_T43 l0 x4_1).f3) from Kd.V_mk ul372_3 ge372_3)
              clear hva_ hvn_ hvc_ ge372_3 ul372_3
              clear hcc372 hce372
              have HRq24 := aM hi372_2
              have HCq26 := aM hl372_2
              clear hi372_2 hl372_2
              have HRq25 := aM hi372_3
              have HCq27 := aM hl372_3
              clear hi372_3 hl372_3
              replace p372 := eq_true p372
              replace q372 := eq_true q372
              have ea_ := Option.some.inj (hx370_2.symm.trans hx372_2)
              injection ea_ with ea_ en_ ec_
              subst ea_
              subst ec_
              clear en_
              have ea_ := Option.some.inj (hx370_3.symm.trans hx372_3)
              injection ea_ with ea_ en_ ec_
              subst ea_
              subst ec_
              clear en_
              refine start_ (n := 23) (S := fun w' => w'.cell? (ad346.add ((x4_1).toNat * 5)) = some (.int .u8 ((rd_T43 l0 x4_1).f0)) ∧ w'.cell? ⟨(ad346.add ((x4_1).toNat * 5)).block, (ad346.add ((x4_1).toNat * 5)).off + 1, none⟩ = some (.bool (false)) ∧ w'.cell? ⟨(ad346.add ((x4_1).toNat * 5)).block, (ad346.add ((x4_1).toNat * 5)).off + 2, none⟩ = some (.slice A370_2 ((rd_T43 l0 x4_1).f2).length c370_2) ∧ w'.cell? ⟨(ad346.add ((x4_1).toNat * 5)).block, (ad346.add ((x4_1).toNat * 5)).off + 3, none⟩ = some (.slice A370_3 ((rd_T43 l0 x4_1).f3).length c370_3) ∧ w'.cell? ⟨(ad346.add ((x4_1).toNat * 5)).block, (ad346.add ((x4_1).toNat * 5)).off + 4, none⟩ = some (.int .u8 ((rd_T43 l0 x4_1).f4)) ∧ w'.cell? (ad346.add ((x4_1).toNat * 5)) = some (.int .u8 ((rd_T43 l0 x4_1).f0)) ∧ w'.cell? ⟨(ad346.add ((x4_1).toNat * 5)).block, (ad346.add ((x4_1).toNat * 5)).off + 1, none⟩ = some (.bool (false)) ∧ w'.cell? ⟨(ad346.add ((x4_1).toNat * 5)).block, (ad346.add ((x4_1).toNat * 5)).off + 2, none⟩ = some (.slice A370_2 ((rd_T43 l0 x4_1).f2).length c370_2) ∧ w'.cell? ⟨(ad346.add ((x4_1).toNat * 5)).block, (ad346.add ((x4_1).toNat * 5)).off + 3, none⟩ = some (.slice A370_3 ((rd_T43 l0 x4_1).f3).length c370_3) ∧ w'.cell? ⟨(ad346.add ((x4_1).toNat * 5)).block, (ad346.add ((x4_1).toNat * 5)).off + 4, none⟩ = some (.int .u8 ((rd_T43 l0 x4_1).f4)) ∧ w'.cell? (ad346.add ((x4_1).toNat * 5)) = some (.int .u8 ((rd_T43 l0 x4_1).f0)) ∧ w'.cell? ⟨(ad346.add ((x4_1).toNat * 5)).block, (ad346.add ((x4_1).toNat * 5)).off + 1, none⟩ = some (.bool (false)) ∧ w'.cell? ⟨(ad346.add ((x4_1).toNat * 5)).block, (ad346.add ((x4_1).toNat * 5)).off + 2, none⟩ = some (.slice A370_2 ((rd_T43 l0 x4_1).f2).length c370_2) ∧ w'.cell? ⟨(ad346.add ((x4_1).toNat * 5)).block, (ad346.add ((x4_1).toNat * 5)).off + 3, none⟩ = some (.slice A370_3 ((rd_T43 l0 x4_1).f3).length c370_3) ∧ w'.cell? ⟨(ad346.add ((x4_1).toNat * 5)).block, (ad346.add ((x4_1).toNat * 5)).off + 4, none⟩ = some (.int .u8 ((rd_T43 l0 x4_1).f4))) (ds := [20, 21]) #[F_,F_,F_,F_,F_,F_,F_,F_,F_,F_,F_,F_,F_,F_,F_,F_,F_,F_,F_,F_,F_,F_,F_] (by kernel_rfl) rfl rfl ⟨hx370_0, hx370_1, hx370_2, hx370_3, hx370_4, hx371_0, hx371_1, hx371_2, hx371_3, hx371_4, hx372_0, hx372_1, hx372_2, hx372_3, hx372_4⟩ (fun hHeld => ?_); refine with_tabW banksmanlaw14_committed.tab20 banksmanlaw14_committed.bits20 (fun HT_ HW_ => ?_)
              generalize w32.drew = w33 at HO_0 HO_3 HO_8 HLq0 HLq1 HLq2 HLq3 HRq0 HRq2 HRq3 HRq1 HB HLq23 HLq24 HLq14 HLq25 HLq26 HLq15 HRq20 HRq21 HRq22 HRq23 HRq24 HRq25 hx370_0 hx370_1 hx370_2 hx370_3 hx370_4 hx371_0 hx371_1 hx371_2 hx371_3 hx371_4 hx372_0 hx372_1 hx372_2 hx372_3 hx372_4 hHeld ⊢
              refine pure_ (i := 0) (N := some 100) (v := ?_) (a' := ?_) #[T_,F_,F_,F_,F_,F_,F_,F_,F_,F_,F_,F_,F_,F_,F_,F_,F_,F_,F_,F_,F_,F_,F_] rfl rfl (any_of HT_.out (by kernel_rfl)) (fun _ _ _ h => h) (Or.inl ⟨by rfl, ?_⟩) ?_ ?_
              rotate_left
              ·
               intro w'
               go_simp
               with_reducible rfl
              rotate_left
              ·
               simp only [Act.put, List.setIfInBounds_toArray, List.set_cons_zero, List.set_cons_succ, i64_w, i32_w]
               rfl
              refine pure_ (i := 1) (N := some 101) (v := ?_) (a' := ?_) #[T_,T_,F_,F_,F_,F_,F_,F_,F_,F_,F_,F_,F_,F_,F_,F_,F_,F_,F_,F_,F_,F_,F_] rfl rfl (any_of HT_.out (by kernel_rfl)) (fun _ _ _ h => h) (Or.inl ⟨by rfl, ?_⟩) ?_ ?_
              rotate_left
              ·
               intro w'
               go_simp
               with_reducible rfl
              rotate_left
              ·
               simp only [Act.put, List.setIfInBounds_toArray, List.set_cons_zero, List.set_cons_succ, i64_w, i32_w]
               rfl
              refine pure_ (i := 2) (N := some 102) (v := ?_) (a' := ?_) #[T_,T_,T_,F_,F_,F_,F_,F_,F_,F_,F_,F_,F_,F_,F_,F_,F_,F_,F_,F_,F_,F_,F_] rfl rfl (any_of HT_.out (by kernel_rfl)) (fun _ _ _ h => h) (Or.inl ⟨by rfl, ?_⟩) ?_ ?_
              rotate_left
              ·
               intro w'
               go_simp
               with_reducible rfl
              rotate_left
              ·
               simp only [Act.put, List.setIfInBounds_toArray, List.set_cons_zero, List.set_cons_succ, i64_w, i32_w]
               rfl
              refine pure_ (i := 3) (N := some 103) (v := ?_) (a' := ?_) #[T_,T_,T_,T_,F_,F_,F_,F_,F_,F_,F_,F_,F_,F_,F_,F_,F_,F_,F_,F_,F_,F_,F_] rfl rfl (any_of HT_.out (by kernel_rfl)) (fun _ _ _ h => h) (Or.inl ⟨by rfl, ?_⟩) ?_ ?_
              rotate_left
              ·
               intro w'
               go_simp
               with_reducible rfl
              rotate_left
              ·
               simp only [Act.put, List.setIfInBounds_toArray, List.set_cons_zero, List.set_cons_succ, i64_w, i32_w]
               rfl
              refine pure_ (i := 4) (N := some 104) (v := ?_) (a' := ?_) #[T_,T_,T_,T_,T_,F_,F_,F_,F_,F_,F_,F_,F_,F_,F_,F_,F_,F_,F_,F_,F_,F_,F_] rfl rfl (any_of HT_.out (by kernel_rfl)) (fun _ _ _ h => h) (Or.inl ⟨by rfl, ?_⟩) ?_ ?_
              rotate_left
              ·
               intro w'
               go_simp
               with_reducible rfl
              rotate_left
              ·
               simp only [Act.put, List.setIfInBounds_toArray, List.set_cons_zero, List.set_cons_succ, i64_w, i32_w]
               rfl
              refine pure_ (i := 5) (N := some 105) (v := ?_) (a' := ?_) #[T_,T_,T_,T_,T_,T_,F_,F_,F_,F_,F_,F_,F_,F_,F_,F_,F_,F_,F_,F_,F_,F_,F_] rfl rfl (any_of HT_.out (by kernel_rfl)) (fun _ _ _ h => h) (Or.inl ⟨by rfl, ?_⟩) ?_ ?_
              rotate_left
              ·
               intro w'
               go_simp
               with_reducible rfl
              rotate_left
              ·
               simp only [Act.put, List.setIfInBounds_toArray, List.set_cons_zero, List.set_cons_succ, i64_w, i32_w]
               rfl
              refine pure_ (i := 6) (N := some 106) (v := ?_) (a' := ?_) #[T_,T_,T_,T_,T_,T_,T_,F_,F_,F_,F_,F_,F_,F_,F_,F_,F_,F_,F_,F_,F_,F_,F_] rfl rfl (any_of HT_.out (by kernel_rfl)) (fun _ _ _ h => h) (Or.inl ⟨by rfl, ?_⟩) ?_ ?_
              rotate_left
              ·
               intro w'
               go_simp
               with_reducible rfl
              rotate_left
              ·
               simp only [Act.put, List.setIfInBounds_toArray, List.set_cons_zero, List.set_cons_succ, i64_w, i32_w]
               rfl
              refine pure_ (i := 8) (N := some 108) (v := ?_) (a' := ?_) #[T_,T_,T_,T_,T_,T_,T_,F_,T_,F_,F_,F_,F_,F_,F_,F_,F_,F_,F_,F_,F_,F_,F_] rfl rfl (any_of HT_.out (by kernel_rfl)) (fun _ _ _ h => h) (Or.inl ⟨by rfl, ?_⟩) ?_ ?_
              rotate_left
              ·
               intro w'
               go_simp
               with_reducible rfl
              rotate_left
              ·
               simp only [Act.put, List.setIfInBounds_toArray, List.set_cons_zero, List.set_cons_succ, i64_w, i32_w]
               rfl
              refine pure_ (i := 9) (N := some 109) (v := ?_) (a' := ?_) #[T_,T_,T_,T_,T_,T_,T_,F_,T_,T_,F_,F_,F_,F_,F_,F_,F_,F_,F_,F_,F_,F_,F_] rfl rfl (any_of HT_.out (by kernel_rfl)) (fun _ _ _ h => h) (Or.inl ⟨by rfl, ?_⟩) ?_ ?_
              rotate_left
              ·
               intro w'
               go_simp
               with_reducible rfl
              rotate_left
              ·
               simp only [Act.put, List.setIfInBounds_toArray, List.set_cons_zero, List.set_cons_succ, i64_w, i32_w]
               rfl
              refine pure_ (i := 10) (N := some 110) (v := ?_) (a' := ?_) #[T_,T_,T_,T_,T_,T_,T_,F_,T_,T_,T_,F_,F_,F_,F_,F_,F_,F_,F_,F_,F_,F_,F_] rfl rfl (any_of HT_.out (by kernel_rfl)) (fun _ _ _ h => h) (Or.inl ⟨by rfl, ?_⟩) ?_ ?_
              rotate_left
              ·
               intro w'
               go_simp
               with_reducible rfl
              rotate_left
              ·
               simp only [Act.put, List.setIfInBounds_toArray, List.set_cons_zero, List.set_cons_succ, i64_w, i32_w]
               rfl
              refine pure_ (i := 11) (N := some 111) (v := ?_) (a' := ?_) #[T_,T_,T_,T_,T_,T_,T_,F_,T_,T_,T_,T_,F_,F_,F_,F_,F_,F_,F_,F_,F_,F_,F_] rfl rfl (any_of HT_.out (by kernel_rfl)) (fun _ _ _ h => h) (Or.inl ⟨by rfl, ?_⟩) ?_ ?_
              rotate_left
              ·
               intro w'
               go_simp
               with_reducible rfl
              rotate_left
              ·
               simp only [Act.put, List.setIfInBounds_toArray, List.set_cons_zero, List.set_cons_succ, i64_w, i32_w]
               rfl
              refine pure_ (i := 13) (N := some 113) (v := ?_) (a' := ?_) #[T_,T_,T_,T_,T_,T_,T_,F_,T_,T_,T_,T_,F_,T_,F_,F_,F_,F_,F_,F_,F_,F_,F_] rfl rfl (any_of HT_.out (by kernel_rfl)) (fun _ _ _ h => h) (Or.inl ⟨by rfl, ?_⟩) ?_ ?_
              rotate_left
              ·
               intro w'
               go_simp
               with_reducible rfl
              rotate_left
              ·
               simp only [Act.put, List.setIfInBounds_toArray, List.set_cons_zero, List.set_cons_succ, i64_w, i32_w]
               rfl
              refine pure_ (i := 14) (N := some 114) (v := ?_) (a' := ?_) #[T_,T_,T_,T_,T_,T_,T_,F_,T_,T_,T_,T_,F_,T_,T_,F_,F_,F_,F_,F_,F_,F_,F_] rfl rfl (any_of HT_.out (by kernel_rfl)) (fun _ _ _ h => h) (Or.inl ⟨by rfl, ?_⟩) ?_ ?_
              rotate_left
              ·
               intro w'
               go_simp
               with_reducible rfl
              rotate_left
              ·
               simp only [Act.put, List.setIfInBounds_toArray, List.set_cons_zero, List.set_cons_succ, i64_w, i32_w]
               rfl
              refine pure_ (i := 15) (N := some 115) (v := ?_) (a' := ?_) #[T_,T_,T_,T_,T_,T_,T_,F_,T_,T_,T_,T_,F_,T_,T_,T_,F_,F_,F_,F_,F_,F_,F_] rfl rfl (any_of HT_.out (by kernel_rfl)) (fun _ _ _ h => h) (Or.inl ⟨by rfl, ?_⟩) ?_ ?_
              rotate_left
              ·
               intro w'
               go_simp
               with_reducible rfl
              rotate_left
              ·
               simp only [Act.put, List.setIfInBounds_toArray, List.set_cons_zero, List.set_cons_succ, i64_w, i32_w]
               rfl
              refine pure_ (i := 16) (N := some 116) (v := ?_) (a' := ?_) #[T_,T_,T_,T_,T_,T_,T_,F_,T_,T_,T_,T_,F_,T_,T_,T_,T_,F_,F_,F_,F_,F_,F_] rfl rfl (any_of HT_.out (by kernel_rfl)) (fun _ _ _ h => h) (Or.inl ⟨by rfl, ?_⟩) ?_ ?_
              rotate_left
              ·
               intro w'
               go_simp
               with_reducible rfl
              rotate_left
              ·
               simp only [Act.put, List.setIfInBounds_toArray, List.set_cons_zero, List.set_cons_succ, i64_w, i32_w]
               rfl
              refine pure_ (i := 18) (N := some 118) (v := ?_) (a' := ?_) #[T_,T_,T_,T_,T_,T_,T_,F_,T_,T_,T_,T_,F_,T_,T_,T_,T_,F_,T_,F_,F_,F_,F_] rfl rfl (any_of HT_.out (by kernel_rfl)) (fun _ _ _ h => h) (Or.inl ⟨by rfl, ?_⟩) ?_ ?_
              rotate_left
              ·
               intro w'
               go_simp
               with_reducible rfl
              rotate_left
              ·
               simp only [Act.put, List.setIfInBounds_toArray, List.set_cons_zero, List.set_cons_succ, i64_w, i32_w]
               rfl
              refine take_ (i := 7) (N := some 107) (v := ?_) (a' := ?_) #[T_,T_,T_,T_,T_,T_,T_,T_,T_,T_,T_,T_,F_,T_,T_,T_,T_,F_,T_,F_,F_,F_,F_] rfl rfl (take_ofW HT_.out HW_.out (by kernel_rfl)) (fun _ _ _ h => h) (Or.inl ⟨by rfl, ?_⟩) hHeld ?_ ?_
              rotate_left
              ·
               rintro w' ⟨s0, s1, s2, s3, s4, s5, s6, s7, s8, s9, s10, s11, s12, s13, s14⟩
               go_simp
               with_reducible rfl
              rotate_left
              ·
               simp only [Act.put, List.setIfInBounds_toArray, List.set_cons_zero, List.set_cons_succ, i64_w, i32_w]
               rfl
              refine take_ (i := 12) (N := some 112) (v := ?_) (a' := ?_) #[T_,T_,T_,T_,T_,T_,T_,T_,T_,T_,T_,T_,T_,T_,T_,T_,T_,F_,T_,F_,F_,F_,F_] rfl rfl (take_ofW HT_.out HW_.out (by kernel_rfl)) (fun _ _ _ h => h) (Or.inl ⟨by rfl, ?_⟩) hHeld ?_ ?_
              rotate_left
              ·
               rintro w' ⟨s0, s1, s2, s3, s4, s5, s6, s7, s8, s9, s10, s11, s12, s13, s14⟩
               go_simp
               with_reducible rfl
              rotate_left
              ·
               simp only [Act.put, List.setIfInBounds_toArray, List.set_cons_zero, List.set_cons_succ, i64_w, i32_w]
               rfl
              refine take_ (i := 17) (N := some 117) (v := ?_) (a' := ?_) #[T_,T_,T_,T_,T_,T_,T_,T_,T_,T_,T_,T_,T_,T_,T_,T_,T_,T_,T_,F_,F_,F_,F_] rfl rfl (take_ofW HT_.out HW_.out (by kernel_rfl)) (fun _ _ _ h => h) (Or.inl ⟨by rfl, ?_⟩) hHeld ?_ ?_
              rotate_left
              ·
               rintro w' ⟨s0, s1, s2, s3, s4, s5, s6, s7, s8, s9, s10, s11, s12, s13, s14⟩
               go_simp
               with_reducible rfl
              rotate_left
              ·
               simp only [Act.put, List.setIfInBounds_toArray, List.set_cons_zero, List.set_cons_succ, i64_w, i32_w]
               rfl
              refine pure_ (i := 19) (N := some 119) (v := ?_) (a' := ?_) #[T_,T_,T_,T_,T_,T_,T_,T_,T_,T_,T_,T_,T_,T_,T_,T_,T_,T_,T_,T_,F_,F_,F_] rfl rfl (any_of HT_.out (by kernel_rfl)) (fun _ _ _ h => h) (Or.inl ⟨by rfl, ?_⟩) ?_ ?_
              rotate_left
              ·
               intro w'
               go_simp
               with_reducible rfl
              rotate_left
              ·
               simp only [Act.put, List.setIfInBounds_toArray, List.set_cons_zero, List.set_cons_succ, i64_w, i32_w]
               rfl
              refine last_ (i := 20) (N := some 120) #[T_,T_,T_,T_,T_,T_,T_,T_,T_,T_,T_,T_,T_,T_,T_,T_,T_,T_,T_,T_,T_,F_,F_] rfl rfl (one_of HT_.out (by kernel_rfl)) (by decide) (fun K hK => ?_)
              refine value_ (w1 := ?_) (v := ?_) (by rfl) rfl ?_ ?_
              rotate_left 2
              ·
               go_simp
               constructor
               ·
                rfl
               ·
                rfl
              refine hK.out _ _ ?_
              clear hK K
              refine norm_ (a' := ?_) ?_ ?_
              rotate_left
              ·
               show Act.put _ (some 120) _ = _
               simp only [Act.put, List.setIfInBounds_toArray, List.set_cons_zero, List.set_cons_succ, i64_w, i32_w]
               rfl
              refine last_ (i := 21) (N := some 121) #[T_,T_,T_,T_,T_,T_,T_,T_,T_,T_,T_,T_,T_,T_,T_,T_,T_,T_,T_,T_,T_,T_,F_] rfl rfl (one_of HT_.out (by kernel_rfl)) (by decide) (fun K hK => ?_)
              (try rw [show (Obj.cells #[.int .i64 (wrap64 ((wrap64 ((wrap64 ((x3_1.length : Int) + 1)) - 1)) - (Int.tmod (wrap64 ((rd_T43 l0 x4_1).f0)) (wrap64 ((x3_1.length : Int) + 1))))), .int .i64 (wrap64 ((x3_1.length : Int) + 1)), .bool false, .slice A370_2 ((rd_T43 l0 x4_1).f2).length c370_2, .slice A370_3 ((rd_T43 l0 x4_1).f3).length c370_3, .bool t368] 50) = Obj.cells #[.int .i64 (wrap64 ((wrap64 ((wrap64 ((x3_1.length : Int) + 1)) - 1)) - (Int.tmod (wrap64 ((rd_T43 l0 x4_1).f0)) (wrap64 ((x3_1.length : Int) + 1))))), .int .i64 (wrap64 ((x3_1.length : Int) + 1)), .bool ((rd_T43 l0 x4_1).f1), .slice A370_2 ((rd_T43 l0 x4_1).f2).length c370_2, .slice A370_3 ((rd_T43 l0 x4_1).f3).length c370_3, .bool t368] 50 from by rw [← Nbq5.out]])
              refine Kd.N_append_step k50 (w0 := w) w.heap.size (by rfl) (.tmp 100) (.tmp 120) 26 50 (.agg #[(.int .i64 0), (.int .i64 0), (.bool false), (.slice none 0 0), (.slice none 0 0), (.bool false)]) 80 rfl Try.underlying26 info50 rfl (by decide) (by omega) (.slice Ao11 x3_1.length co11) x3_1 (⟨(wrap64 ((wrap64 ((wrap64 ((x3_1.length : Int) + 1)) - 1)) - (Int.tmod (wrap64 ((rd_T43 l0 x4_1).f0)) (wrap64 ((x3_1.length : Int) + 1))))), (wrap64 ((x3_1.length : Int) + 1)), (rd_T43 l0 x4_1).f1, (rd_T43 l0 x4_1).f2, (rd_T43 l0 x4_1).f3, t368⟩ : S50) [.int .i64 (wrap64 ((wrap64 ((wrap64 ((x3_1.length : Int) + 1)) - 1)) - (Int.tmod (wrap64 ((rd_T43 l0 x4_1).f0)) (wrap64 ((x3_1.length : Int) + 1))))), .int .i64 (wrap64 ((x3_1.length : Int) + 1)), .bool ((rd_T43 l0 x4_1).f1), .slice A370_2 ((rd_T43 l0 x4_1).f2).length c370_2, .slice A370_3 ((rd_T43 l0 x4_1).f3).length c370_3, .bool t368] (fun k_ => (P0_ k_ ∨ w.heap.size ≤ k_) ∧ some k_ ≠ (.slice Ao31 x8_2.length co31 : Value).ownBlock) (fun k_ => ((fun k_ => (P0_ k_ ∨ w.heap.size ≤ k_) ∧ some k_ ≠ (.slice Ao31 x8_2.length co31 : Value).ownBlock)) k_ ∧ some k_ ≠ (.slice Ao11 x3_1.length co11 : Value).ownBlock) rfl rfl ?aP (fun _ hk => hk) ?aF ?aO ?aB ?aS ?aL ?_
              (case aP => exact (k50_mkF _ _ (⟨(wrap64 ((wrap64 ((wrap64 ((x3_1.length : Int) + 1)) - 1)) - (Int.tmod (wrap64 ((rd_T43 l0 x4_1).f0)) (wrap64 ((x3_1.length : Int) + 1))))), (wrap64 ((x3_1.length : Int) + 1)), (rd_T43 l0 x4_1).f1, (rd_T43 l0 x4_1).f2, (rd_T43 l0 x4_1).f3, t368⟩ : S50) (Kd.V_reads' (Kd.V_mono (ok' := (fun k_ => ((fun k_ => (P0_ k_ ∨ w.heap.size ≤ k_) ∧ some k_ ≠ (.slice Ao31 x8_2.length co31 : Value).ownBlock)) k_ ∧ some k_ ≠ (.slice Ao11 x3_1.length co11 : Value).ownBlock)) (HLq14.out) (fun k_ hk => ⟨⟨hk.1, hk.2.2⟩, hk.2.1⟩))).2.1 (Kd.V_F (Kd.V_mono (ok' := (fun k_ => ((fun k_ => (P0_ k_ ∨ w.heap.size ≤ k_) ∧ some k_ ≠ (.slice Ao31 x8_2.length co31 : Value).ownBlock)) k_ ∧ some k_ ≠ (.slice Ao11 x3_1.length co11 : Value).ownBlock)) (HLq14.out) (fun k_ hk => ⟨⟨hk.1, hk.2.2⟩, hk.2.1⟩))) (Kd.V_reads' (Kd.V_mono (ok' := (fun k_ => ((fun k_ => (P0_ k_ ∨ w.heap.size ≤ k_) ∧ some k_ ≠ (.slice Ao31 x8_2.length co31 : Value).ownBlock)) k_ ∧ some k_ ≠ (.slice Ao11 x3_1.length co11 : Value).ownBlock)) (HLq15.out) (fun k_ hk => ⟨⟨hk.1, hk.2.2⟩, hk.2.1⟩))).2.1 (Kd.V_F (Kd.V_mono (ok' := (fun k_ => ((fun k_ => (P0_ k_ ∨ w.heap.size ≤ k_) ∧ some k_ ≠ (.slice Ao31 x8_2.length co31 : Value).ownBlock)) k_ ∧ some k_ ≠ (.slice Ao11 x3_1.length co11 : Value).ownBlock)) (HLq15.out) (fun k_ hk => ⟨⟨hk.1, hk.2.2⟩, hk.2.1⟩)))))
              (case aB => exact (by repeat (first | (with_reducible first | exact HB.out | apply bA | apply bN | apply bD) | exact HB.out)))
              (case aF => exact (fun k_ hk => ⟨(.inr (Nat.le_trans (below_size (by repeat (first | (with_reducible first | exact HB.out | apply bA | apply bN | apply bD) | exact HB.out))) hk)), Kd.fresh' (Kd.N_lt (nU HO_8.out)) k_ hk⟩))
              (case aO => exact (nU HO_3.out))
              (case aS => exact (below_size (by repeat (first | (with_reducible first | exact HB.out | apply bA | apply bN | apply bD) | exact HB.out))))
              (case aL => have := LMc29.out; omega)
              intro v374 w34 ho hb hg hat
              rw [← Ny373.out] at ho
              have n0_ := aM (Kd.V_afterv (ok := (fun k_ => (P0_ k_ ∨ w.heap.size ≤ k_) ∧ some k_ ≠ (.slice Ao31 x8_2.length co31 : Value).ownBlock)) (by (with_reducible repeat (first | apply Kd.V_alloc | apply Kd.V_drewN | apply Kd.V_drew)); exact Kd.V_mono HO_0.out (fun _ hk => ⟨⟨hk.1, hk.2.2⟩, hk.2.1⟩)) hg hat)
              have n1_ := aM (Kd.N_afterv (ok := (fun k_ => (P0_ k_ ∨ w.heap.size ≤ k_))) (nU HO_8.out) hg hat)
              have n2_ := aM (Kd.V_afterv (ok := (fun k_ => (P0_ k_ ∨ w.heap.size ≤ k_) ∧ some k_ ≠ (.slice Ao31 x8_2.length co31 : Value).ownBlock)) (by (with_reducible repeat (first | apply Kd.V_alloc | apply Kd.V_drewN | apply Kd.V_drew)); exact Kd.V_mono HLq0.out (fun _ hk => ⟨⟨hk.1, hk.2.2⟩, hk.2.1⟩)) hg hat)
              have n3_ := aM (Kd.V_afterv (ok := (fun k_ => (P0_ k_ ∨ w.heap.size ≤ k_) ∧ some k_ ≠ (.slice Ao31 x8_2.length co31 : Value).ownBlock)) (by (with_reducible repeat (first | apply Kd.V_alloc | apply Kd.V_drewN | apply Kd.V_drew)); exact Kd.V_mono HLq1.out (fun _ hk => ⟨⟨hk.1, hk.2.2⟩, hk.2.1⟩)) hg hat)
              have n4_ := aM (Kd.V_afterv (ok := (fun k_ => (P0_ k_ ∨ w.heap.size ≤ k_) ∧ some k_ ≠ (.slice Ao31 x8_2.length co31 : Value).ownBlock)) (by (with_reducible repeat (first | apply Kd.V_alloc | apply Kd.V_drewN | apply Kd.V_drew)); exact Kd.V_mono HLq2.out (fun _ hk => ⟨⟨hk.1, hk.2.2⟩, hk.2.1⟩)) hg hat)
              have n5_ := aM (Kd.V_afterv (ok := (fun k_ => (P0_ k_ ∨ w.heap.size ≤ k_) ∧ some k_ ≠ (.slice Ao31 x8_2.length co31 : Value).ownBlock)) (by (with_reducible repeat (first | apply Kd.V_alloc | apply Kd.V_drewN | apply Kd.V_drew)); exact Kd.V_mono HLq3.out (fun _ hk => ⟨⟨hk.1, hk.2.2⟩, hk.2.1⟩)) hg hat)
              have n6_ := aM (Kd.V_afterv (ok := (fun k_ => (P0_ k_ ∨ w.heap.size ≤ k_) ∧ some k_ ≠ (.slice Ao31 x8_2.length co31 : Value).ownBlock)) (by (with_reducible repeat (first | apply Kd.V_alloc | apply Kd.V_drewN | apply Kd.V_drew)); exact Kd.V_mono HLq23.out (fun _ hk => ⟨⟨hk.1, hk.2.2⟩, hk.2.1⟩)) hg hat)
              have n7_ := aM (Kd.V_afterv (ok := (fun k_ => (P0_ k_ ∨ w.heap.size ≤ k_) ∧ some k_ ≠ (.slice Ao31 x8_2.length co31 : Value).ownBlock)) (by (with_reducible repeat (first | apply Kd.V_alloc | apply Kd.V_drewN | apply Kd.V_drew)); exact Kd.V_mono HLq24.out (fun _ hk => ⟨⟨hk.1, hk.2.2⟩, hk.2.1⟩)) hg hat)
              have n8_ := aM (Kd.V_afterv (ok := (fun k_ => (P0_ k_ ∨ w.heap.size ≤ k_) ∧ some k_ ≠ (.slice Ao31 x8_2.length co31 : Value).ownBlock)) (by (with_reducible repeat (first | apply Kd.V_alloc | apply Kd.V_drewN | apply Kd.V_drew)); exact Kd.V_mono HLq14.out (fun _ hk => ⟨⟨hk.1, hk.2.2⟩, hk.2.1⟩)) hg hat)
              have n9_ := aM (Kd.V_afterv (ok := (fun k_ => (P0_ k_ ∨ w.heap.size ≤ k_) ∧ some k_ ≠ (.slice Ao31 x8_2.length co31 : Value).ownBlock)) (by (with_reducible repeat (first | apply Kd.V_alloc | apply Kd.V_drewN | apply Kd.V_drew)); exact Kd.V_mono HLq25.out (fun _ hk => ⟨⟨hk.1, hk.2.2⟩, hk.2.1⟩)) hg hat)
              have n10_ := aM (Kd.V_afterv (ok := (fun k_ => (P0_ k_ ∨ w.heap.size ≤ k_) ∧ some k_ ≠ (.slice Ao31 x8_2.length co31 : Value).ownBlock)) (by (with_reducible repeat (first | apply Kd.V_alloc | apply Kd.V_drewN | apply Kd.V_drew)); exact Kd.V_mono HLq26.out (fun _ hk => ⟨⟨hk.1, hk.2.2⟩, hk.2.1⟩)) hg hat)
              have n11_ := aM (Kd.V_afterv (ok := (fun k_ => (P0_ k_ ∨ w.heap.size ≤ k_) ∧ some k_ ≠ (.slice Ao31 x8_2.length co31 : Value).ownBlock)) (by (with_reducible repeat (first | apply Kd.V_alloc | apply Kd.V_drewN | apply Kd.V_drew)); exact Kd.V_mono HLq15.out (fun _ hk => ⟨⟨hk.1, hk.2.2⟩, hk.2.1⟩)) hg hat)
              have n12_ := aM (hb)
              have n13_ := aM (ho)
              clear HO_0
              clear HO_8
              clear HLq0
              clear HLq1
              clear HLq2
              clear HLq3
              clear HLq23
              clear HLq24
              clear HLq14
              clear HLq25
              clear HLq26
              clear HLq15
              clear HB
              clear HO_3
              have HO_0 := n0_
              have HO_8 := n1_
              have HLq0 := n2_
              have HLq1 := n3_
              have HLq2 := n4_
              have HLq3 := n5_
              have HLq23 := n6_
              have HLq24 := n7_
              have HLq14 := n8_
              have HLq25 := n9_
              have HLq26 := n10_
              have HLq15 := n11_
              have HB := n12_
              have HO375 := n13_
              clear n0_ n1_ n2_ n3_ n4_ n5_ n6_ n7_ n8_ n9_ n10_ n11_ n12_ n13_
              clear ho hb hg hat
              refine hK.out _ _ ?_
              clear hK K
              refine norm_ (a' := ?_) ?_ ?_
              rotate_left
              ·
               show Act.put _ (some 121) _ = _
               simp only [Act.put, List.setIfInBounds_toArray, List.set_cons_zero, List.set_cons_succ, i64_w, i32_w]
               rfl
              refine pure_ (i := 22) (N := some 3) (v := ?_) (a' := ?_) #[T_,T_,T_,T_,T_,T_,T_,T_,T_,T_,T_,T_,T_,T_,T_,T_,T_,T_,T_,T_,T_,T_,T_] rfl rfl (any_of HT_.out (by kernel_rfl)) (fun _ _ _ h => h) (Or.inl ⟨by rfl, ?_⟩) ?_ ?_
              rotate_left
              ·
               intro w'
               go_simp
               with_reducible rfl
              rotate_left
              ·
               simp only [Act.put, List.setIfInBounds_toArray, List.set_cons_zero, List.set_cons_succ, i64_w, i32_w]
               rfl
              refine done_ (done_of HT_.out (by kernel_rfl)) ?_
              try go_wp2
              go_roundg k2
              case measure => have := HK1.out; have := HK2.out; omega
              case rel => exact ⟨(y373), (wrap64 (x4_1 + 1)), (by first | rfl | (simp; done) | (simp [*]; done)), H', ⟨by have := HK1.out; have := HK2.out; omega⟩, ⟨by (with_reducible repeat (first | apply Kd.V_alloc | apply Kd.V_drewN | apply Kd.V_drew)); exact Kd.V_mono HO_0.out (fun _ hk => ⟨hk.1.1, hk.2⟩)⟩, ⟨by (with_reducible repeat (first | apply Kd.N_alloc | apply Kd.N_drewN | apply Kd.N_drew)); exact Kd.N_mono HO375.out (fun _ hk => hk.1)⟩, ⟨by repeat (first | (with_reducible first | exact HB.out | apply bA | apply bN | apply bD) | exact HB.out)⟩⟩
             ·
              rw [if_neg c29] at H
              exact absurd H (by simp)
            ·
             rw [if_neg c28] at H
             have c28b0 : (t369 == 0) = false := beq_eq_false_iff_ne.mpr c28
             have c28b1 : (t369 != 0) = true := bne_iff_ne.mpr c28
             have H' := aM H
             clear H
             try go_wp2
             have n0_ := aM (Kd.V_drew HO_0.out)
             have n1_ := aM (Kd.N_drew HO_3.out)
             have n2_ := aM (Kd.N_drew HO_8.out)
             have n3_ := aM (bD HB.out)
             clear HO_0
             clear HO_3
             clear HO_8
             clear HB
             have HO_0 := n0_
             have HO_3 := n1_
             have HO_8 := n2_
             have HB := n3_
             clear n0_ n1_ n2_ n3_
             have p366 : 0 ≤ (x4_1 : Int) := of_decide_eq_true (by first | (with_reducible assumption) | assumption)
             have q366 : x4_1 < (l0.length : Int) := of_decide_eq_true (by first | (with_reducible assumption) | assumption)
             obtain ⟨ad366, A366_2, c366_2, A366_3, c366_3, e366, hx366_0, hx366_1, hx366_2, hx366_3, hx366_4, hl366_2, hi366_2, hl366_3, hi366_3⟩ := at_T43 (Kd.V_reads' HO_0.out).2.2 x4_1 p366 q366
             (try rw [← Nbq5.out] at hx366_1)
             obtain rfl : ad346 = ad366 := (by injection e366)
             obtain ⟨ce366, hce366, hMe366, hcc366⟩ := Kd.V_get HO_0.out z43 x4_1 p366 (by first | exact q366 | exact of_decide_eq_true (by first | (with_reducible assumption) | assumption) | (have e_ := (Kd.V_reads' HO_0.out).1; omega))
             obtain ⟨ua366_2, uc366_2, ua366_3, uc366_3, rfl, ul366_2, ge366_2, ul366_3, ge366_3⟩ := k43_openF hMe366
             have hv366_2 := hcc366 2 _ rfl
             rw [add_field _ _ 2 (by omega)] at hv366_2
             replace hv366_2 := Option.some.inj (hv366_2.symm.trans hx366_2)
             injection hv366_2 with hva_ hvn_ hvc_
             rw [hva_] at ge366_2
             rw [hvc_] at ul366_2
             have HLq0 := aM (show Kd.V k57 57 _ w.heap.size _ _ ((rd_T43 l0 x4_1).f2) from Kd.V_mk ul366_2 ge366_2)
             clear hva_ hvn_ hvc_ ge366_2 ul366_2
             have hv366_3 := hcc366 3 _ rfl
             rw [add_field _ _ 3 (by omega)] at hv366_3
             replace hv366_3 := Option.some.inj (hv366_3.symm.trans hx366_3)
             injection hv366_3 with hva_ hvn_ hvc_
             rw [hva_] at ge366_3
             rw [hvc_] at ul366_3
             have HLq1 := aM (show Kd.V k59 59 _ w.heap.size _ _ ((rd_T43 l0 x4_1).f3) from Kd.V_mk ul366_3 ge366_3)
             clear hva_ hvn_ hvc_ ge366_3 ul366_3
             clear hcc366 hce366
             have HRq0 := aM hi366_2
             have HCq0 := aM hl366_2
             clear hi366_2 hl366_2
             have HRq2 := aM hi366_3
             have HCq13 := aM hl366_3
             clear hi366_3 hl366_3
             replace p366 := eq_true p366
             replace q366 := eq_true q366
             have p367 : 0 ≤ (x4_1 : Int) := of_decide_eq_true (by first | (with_reducible assumption) | assumption)
             have q367 : x4_1 < (l0.length : Int) := of_decide_eq_true (by first | (with_reducible assumption) | assumption)
             obtain ⟨ad367, A367_2, c367_2, A367_3, c367_3, e367, hx367_0, hx367_1, hx367_2, hx367_3, hx367_4, hl367_2, hi367_2, hl367_3, hi367_3⟩ := at_T43 (Kd.V_reads' HO_0.out).2.2 x4_1 p367 q367
             (try rw [← Nbq5.out] at hx367_1)
             obtain rfl : ad346 = ad367 := (by injection e367)
             obtain ⟨ce367, hce367, hMe367, hcc367⟩ := Kd.V_get HO_0.out z43 x4_1 p367 (by first | exact q367 | exact of_decide_eq_true (by first | (with_reducible assumption) | assumption) | (have e_ := (Kd.V_reads' HO_0.out).1; omega))
             obtain ⟨ua367_2, uc367_2, ua367_3, uc367_3, rfl, ul367_2, ge367_2, ul367_3, ge367_3⟩ := k43_openF hMe367
             have hv367_2 := hcc367 2 _ rfl
             rw [add_field _ _ 2 (by omega)] at hv367_2
             replace hv367_2 := Option.some.inj (hv367_2.symm.trans hx367_2)
             injection hv367_2 with hva_ hvn_ hvc_
             rw [hva_] at ge367_2
             rw [hvc_] at ul367_2
             have HLq2 := aM (show Kd.V k57 57 _ w.heap.size _ _ ((rd_T43 l0 x4_1).f2) from Kd.V_mk ul367_2 ge367_2)
             clear hva_ hvn_ hvc_ ge367_2 ul367_2
             have hv367_3 := hcc367 3 _ rfl
             rw [add_field _ _ 3 (by omega)] at hv367_3
             replace hv367_3 := Option.some.inj (hv367_3.symm.trans hx367_3)
             injection hv367_3 with hva_ hvn_ hvc_
             rw [hva_] at ge367_3
             rw [hvc_] at ul367_3
             have HLq3 := aM (show Kd.V k59 59 _ w.heap.size _ _ ((rd_T43 l0 x4_1).f3) from Kd.V_mk ul367_3 ge367_3)
             clear hva_ hvn_ hvc_ ge367_3 ul367_3
             clear hcc367 hce367
             have HRq3 := aM hi367_2
             have HCq14 := aM hl367_2
             clear hi367_2 hl367_2
             have HRq1 := aM hi367_3
             have HCq1 := aM hl367_3
             clear hi367_3 hl367_3
             replace p367 := eq_true p367
             replace q367 := eq_true q367
             have ea_ := Option.some.inj (hx366_2.symm.trans hx367_2)
             injection ea_ with ea_ en_ ec_
             subst ea_
             subst ec_
             clear en_
             have ea_ := Option.some.inj (hx366_3.symm.trans hx367_3)
             injection ea_ with ea_ en_ ec_
             subst ea_
             subst ec_
             clear en_
             obtain ⟨Ao36, co36, eo36⟩ := Kd.N_slice HO_8.out
             (first | subst eo36 | (injection eo36 with f1_ f2_ f3_; have f4_ := f1_.symm; have f5_ := f3_.symm; clear f1_ f2_ f3_; subst f4_; subst f5_))
             refine start_ (n := 20) (S := fun w' => w'.cell? (ad346.add ((x4_1).toNat * 5)) = some (.int .u8 ((rd_T43 l0 x4_1).f0)) ∧ w'.cell? ⟨(ad346.add ((x4_1).toNat * 5)).block, (ad346.add ((x4_1).toNat * 5)).off + 1, none⟩ = some (.bool (false)) ∧ w'.cell? ⟨(ad346.add ((x4_1).toNat * 5)).block, (ad346.add ((x4_1).toNat * 5)).off + 2, none⟩ = some (.slice A366_2 ((rd_T43 l0 x4_1).f2).length c366_2) ∧ w'.cell? ⟨(ad346.add ((x4_1).toNat * 5)).block, (ad346.add ((x4_1).toNat * 5)).off + 3, none⟩ = some (.slice A366_3 ((rd_T43 l0 x4_1).f3).length c366_3) ∧ w'.cell? ⟨(ad346.add ((x4_1).toNat * 5)).block, (ad346.add ((x4_1).toNat * 5)).off + 4, none⟩ = some (.int .u8 ((rd_T43 l0 x4_1).f4)) ∧ w'.cell? (ad346.add ((x4_1).toNat * 5)) = some (.int .u8 ((rd_T43 l0 x4_1).f0)) ∧ w'.cell? ⟨(ad346.add ((x4_1).toNat * 5)).block, (ad346.add ((x4_1).toNat * 5)).off + 1, none⟩ = some (.bool (false)) ∧ w'.cell? ⟨(ad346.add ((x4_1).toNat * 5)).block, (ad346.add ((x4_1).toNat * 5)).off + 2, none⟩ = some (.slice A366_2 ((rd_T43 l0 x4_1).f2).length c366_2) ∧ w'.cell? ⟨(ad346.add ((x4_1).toNat * 5)).block, (ad346.add ((x4_1).toNat * 5)).off + 3, none⟩ = some (.slice A366_3 ((rd_T43 l0 x4_1).f3).length c366_3) ∧ w'.cell? ⟨(ad346.add ((x4_1).toNat * 5)).block, (ad346.add ((x4_1).toNat * 5)).off + 4, none⟩ = some (.int .u8 ((rd_T43 l0 x4_1).f4))) (ds := []) #[F_,F_,F_,F_,F_,F_,F_,F_,F_,F_,F_,F_,F_,F_,F_,F_,F_,F_,F_,F_] (by kernel_rfl) rfl rfl ⟨hx366_0, hx366_1, hx366_2, hx366_3, hx366_4, hx367_0, hx367_1, hx367_2, hx367_3, hx367_4⟩ (fun hHeld => ?_); refine with_tabW banksmanlaw14_committed.tab17 banksmanlaw14_committed.bits17 (fun HT_ HW_ => ?_)
             generalize wr.drew = w35 at HO_0 HO_3 HO_8 HB HLq0 HLq1 HLq2 HLq3 HRq0 HRq2 HRq3 HRq1 hx366_0 hx366_1 hx366_2 hx366_3 hx366_4 hx367_0 hx367_1 hx367_2 hx367_3 hx367_4 hHeld ⊢
             refine pure_ (i := 0) (N := some 80) (v := ?_) (a' := ?_) #[T_,F_,F_,F_,F_,F_,F_,F_,F_,F_,F_,F_,F_,F_,F_,F_,F_,F_,F_,F_] rfl rfl (any_of HT_.out (by kernel_rfl)) (fun _ _ _ h => h) (Or.inl ⟨by rfl, ?_⟩) ?_ ?_
             rotate_left
             ·
              intro w'
              go_simp
              with_reducible rfl
             rotate_left
             ·
              simp only [Act.put, List.setIfInBounds_toArray, List.set_cons_zero, List.set_cons_succ, i64_w, i32_w]
              rfl
             refine pure_ (i := 1) (N := some 81) (v := ?_) (a' := ?_) #[T_,T_,F_,F_,F_,F_,F_,F_,F_,F_,F_,F_,F_,F_,F_,F_,F_,F_,F_,F_] rfl rfl (any_of HT_.out (by kernel_rfl)) (fun _ _ _ h => h) (Or.inl ⟨by rfl, ?_⟩) ?_ ?_
             rotate_left
             ·
              intro w'
              go_simp
              with_reducible rfl
             rotate_left
             ·
              simp only [Act.put, List.setIfInBounds_toArray, List.set_cons_zero, List.set_cons_succ, i64_w, i32_w]
              rfl
             refine pure_ (i := 2) (N := some 82) (v := ?_) (a' := ?_) #[T_,T_,T_,F_,F_,F_,F_,F_,F_,F_,F_,F_,F_,F_,F_,F_,F_,F_,F_,F_] rfl rfl (any_of HT_.out (by kernel_rfl)) (fun _ _ _ h => h) (Or.inl ⟨by rfl, ?_⟩) ?_ ?_
             rotate_left
             ·
              intro w'
              go_simp
              with_reducible rfl
             rotate_left
             ·
              simp only [Act.put, List.setIfInBounds_toArray, List.set_cons_zero, List.set_cons_succ, i64_w, i32_w]
              rfl
             refine pure_ (i := 3) (N := some 83) (v := ?_) (a' := ?_) #[T_,T_,T_,T_,F_,F_,F_,F_,F_,F_,F_,F_,F_,F_,F_,F_,F_,F_,F_,F_] rfl rfl (any_of HT_.out (by kernel_rfl)) (fun _ _ _ h => h) (Or.inl ⟨by rfl, ?_⟩) ?_ ?_
             rotate_left
             ·
              intro w'
              go_simp
              with_reducible rfl
             rotate_left
             ·
              simp only [Act.put, List.setIfInBounds_toArray, List.set_cons_zero, List.set_cons_succ, i64_w, i32_w]
              rfl
             refine pure_ (i := 4) (N := some 84) (v := ?_) (a' := ?_) #[T_,T_,T_,T_,T_,F_,F_,F_,F_,F_,F_,F_,F_,F_,F_,F_,F_,F_,F_,F_] rfl rfl (any_of HT_.out (by kernel_rfl)) (fun _ _ _ h => h) (Or.inl ⟨by rfl, ?_⟩) ?_ ?_
             rotate_left
             ·
              intro w'
              go_simp
              with_reducible rfl
             rotate_left
             ·
              simp only [Act.put, List.setIfInBounds_toArray, List.set_cons_zero, List.set_cons_succ, i64_w, i32_w]
              rfl
             refine pure_ (i := 7) (N := some 87) (v := ?_) (a' := ?_) #[T_,T_,T_,T_,T_,F_,F_,T_,F_,F_,F_,F_,F_,F_,F_,F_,F_,F_,F_,F_] rfl rfl (any_of HT_.out (by kernel_rfl)) (fun _ _ _ h => h) (Or.inl ⟨by rfl, ?_⟩) ?_ ?_
             rotate_left
             ·
              intro w'
              go_simp
              with_reducible rfl
             rotate_left
             ·
              simp only [Act.put, List.setIfInBounds_toArray, List.set_cons_zero, List.set_cons_succ, i64_w, i32_w]
              rfl
             refine pure_ (i := 8) (N := some 88) (v := ?_) (a' := ?_) #[T_,T_,T_,T_,T_,F_,F_,T_,T_,F_,F_,F_,F_,F_,F_,F_,F_,F_,F_,F_] rfl rfl (any_of HT_.out (by kernel_rfl)) (fun _ _ _ h => h) (Or.inl ⟨by rfl, ?_⟩) ?_ ?_
             rotate_left
             ·
              intro w'
              go_simp
              with_reducible rfl
             rotate_left
             ·
              simp only [Act.put, List.setIfInBounds_toArray, List.set_cons_zero, List.set_cons_succ, i64_w, i32_w]
              rfl
             refine pure_ (i := 9) (N := some 89) (v := ?_) (a' := ?_) #[T_,T_,T_,T_,T_,F_,F_,T_,T_,T_,F_,F_,F_,F_,F_,F_,F_,F_,F_,F_] rfl rfl (any_of HT_.out (by kernel_rfl)) (fun _ _ _ h => h) (Or.inl ⟨by rfl, ?_⟩) ?_ ?_
             rotate_left
             ·
              intro w'
              go_simp
              with_reducible rfl
             rotate_left
             ·
              simp only [Act.put, List.setIfInBounds_toArray, List.set_cons_zero, List.set_cons_succ, i64_w, i32_w]
              rfl
             refine pure_ (i := 10) (N := some 90) (v := ?_) (a' := ?_) #[T_,T_,T_,T_,T_,F_,F_,T_,T_,T_,T_,F_,F_,F_,F_,F_,F_,F_,F_,F_] rfl rfl (any_of HT_.out (by kernel_rfl)) (fun _ _ _ h => h) (Or.inl ⟨by rfl, ?_⟩) ?_ ?_
             rotate_left
             ·
              intro w'
              go_simp
              with_reducible rfl
             rotate_left
             ·
              simp only [Act.put, List.setIfInBounds_toArray, List.set_cons_zero, List.set_cons_succ, i64_w, i32_w]
              rfl
             refine pure_ (i := 12) (N := some 92) (v := ?_) (a' := ?_) #[T_,T_,T_,T_,T_,F_,F_,T_,T_,T_,T_,F_,T_,F_,F_,F_,F_,F_,F_,F_] rfl rfl (any_of HT_.out (by kernel_rfl)) (fun _ _ _ h => h) (Or.inl ⟨by rfl, ?_⟩) ?_ ?_
             rotate_left
             ·
              intro w'
              go_simp
              with_reducible rfl
             rotate_left
             ·
              simp only [Act.put, List.setIfInBounds_toArray, List.set_cons_zero, List.set_cons_succ, i64_w, i32_w]
              rfl
             refine pure_ (i := 13) (N := some 93) (v := ?_) (a' := ?_) #[T_,T_,T_,T_,T_,F_,F_,T_,T_,T_,T_,F_,T_,T_,F_,F_,F_,F_,F_,F_] rfl rfl (any_of HT_.out (by kernel_rfl)) (fun _ _ _ h => h) (Or.inl ⟨by rfl, ?_⟩) ?_ ?_
             rotate_left
             ·
              intro w'
              go_simp
              with_reducible rfl
             rotate_left
             ·
              simp only [Act.put, List.setIfInBounds_toArray, List.set_cons_zero, List.set_cons_succ, i64_w, i32_w]
              rfl
             refine take_ (i := 5) (N := some 85) (v := ?_) (a' := ?_) #[T_,T_,T_,T_,T_,T_,F_,T_,T_,T_,T_,F_,T_,T_,F_,F_,F_,F_,F_,F_] rfl rfl (take_ofW HT_.out HW_.out (by kernel_rfl)) (fun _ _ _ h => h) (Or.inl ⟨by rfl, ?_⟩) hHeld ?_ ?_
             rotate_left
             ·
              rintro w' ⟨s0, s1, s2, s3, s4, s5, s6, s7, s8, s9⟩
              go_simp
              with_reducible rfl
             rotate_left
             ·
              simp only [Act.put, List.setIfInBounds_toArray, List.set_cons_zero, List.set_cons_succ, i64_w, i32_w]
              rfl
             refine pure_ (i := 6) (N := some 86) (v := ?_) (a' := ?_) #[T_,T_,T_,T_,T_,T_,T_,T_,T_,T_,T_,F_,T_,T_,F_,F_,F_,F_,F_,F_] rfl rfl (any_of HT_.out (by kernel_rfl)) (fun _ _ _ h => h) (Or.inl ⟨by rfl, ?_⟩) ?_ ?_
             rotate_left
             ·
              intro w'
              go_simp
              with_reducible rfl
             rotate_left
             ·
              simp only [Act.put, List.setIfInBounds_toArray, List.set_cons_zero, List.set_cons_succ, i64_w, i32_w]
              rfl
             refine take_ (i := 11) (N := some 91) (v := ?_) (a' := ?_) #[T_,T_,T_,T_,T_,T_,T_,T_,T_,T_,T_,T_,T_,T_,F_,F_,F_,F_,F_,F_] rfl rfl (take_ofW HT_.out HW_.out (by kernel_rfl)) (fun _ _ _ h => h) (Or.inl ⟨by rfl, ?_⟩) hHeld ?_ ?_
             rotate_left
             ·
              rintro w' ⟨s0, s1, s2, s3, s4, s5, s6, s7, s8, s9⟩
              go_simp
              with_reducible rfl
             rotate_left
             ·
              simp only [Act.put, List.setIfInBounds_toArray, List.set_cons_zero, List.set_cons_succ, i64_w, i32_w]
              rfl
             refine one_ (i := 14) (N := some 94) #[T_,T_,T_,T_,T_,T_,T_,T_,T_,T_,T_,T_,T_,T_,T_,F_,F_,F_,F_,F_] rfl rfl (one_of HT_.out (by kernel_rfl)) (by decide) (fun K hK => ?_)
             refine goes_ Try.func12 (by kernel_rfl) rfl #[.agg #[.int .i64 (wrap64 ((wrap64 ((wrap64 ((x3_1.length : Int) + 1)) - 1)) - (Int.tmod (wrap64 ((rd_T43 l0 x4_1).f0)) (wrap64 ((x3_1.length : Int) + 1))))), .slice A366_2 ((rd_T43 l0 x4_1).f2).length c366_2], .slice A366_3 ((rd_T43 l0 x4_1).f3).length c366_3, .slice Ao11 x3_1.length co11, .slice Ao36 x8_2.length co36] (by rfl) rfl rfl (by (try simp only [List.map_toArray, List.map_cons, List.map_nil]); first | done | rfl | (simp only [List.length_drop, List.length_take]; rfl)) ?_
             with_reducible refine (rival_Judge.calls (wrap64 ((wrap64 ((wrap64 ((x3_1.length : Int) + 1)) - 1)) - (Int.tmod (wrap64 ((rd_T43 l0 x4_1).f0)) (wrap64 ((x3_1.length : Int) + 1))))) _ _ ((rd_T43 l0 x4_1).f2) _ _ ((rd_T43 l0 x4_1).f3) _ _ x3_1 _ _ x8_2 t368 t369 _ ?side1 ?side2 ?side3 ?side4 ?side5 ?side6 ?side7 ?side8 A27.out).mono ?_
             (case side1 => repeat (first | exact (cU HRq0.out) | (with_reducible refine Kd.C_alloc ?_ _) | (with_reducible refine Kd.C_drewN ?_ _) | (with_reducible refine Kd.C_drew ?_)))
             (case side2 => exact HCq0.out)
             (case side3 => repeat (first | exact (cU HRq1.out) | (with_reducible refine Kd.C_alloc ?_ _) | (with_reducible refine Kd.C_drewN ?_ _) | (with_reducible refine Kd.C_drew ?_)))
             (case side4 => exact HCq1.out)
             (case side5 => repeat (first | exact (Kd.N_reads' HO_3.out).2.2 | (with_reducible refine Kd.C_alloc ?_ _) | (with_reducible refine Kd.C_drewN ?_ _) | (with_reducible refine Kd.C_drew ?_)))
             (case side6 => exact (Kd.N_reads' HO_3.out).2.1)
             (case side7 => repeat (first | exact (Kd.N_reads' HO_8.out).2.2 | (with_reducible refine Kd.C_alloc ?_ _) | (with_reducible refine Kd.C_drewN ?_ _) | (with_reducible refine Kd.C_drew ?_)))
             (case side8 => exact (Kd.N_reads' HO_8.out).2.1)
             rintro e w37 ⟨rfl, hb⟩
             have HS0_ := (hb.cell (World.block_lt_of_cell? _ _ (hHeld.1))).trans (hHeld.1)
             have HS1_ := (hb.cell (World.block_lt_of_cell? _ _ (hHeld.2.1))).trans (hHeld.2.1)
             have HS2_ := (hb.cell (World.block_lt_of_cell? _ _ (hHeld.2.2.1))).trans (hHeld.2.2.1)
             have HS3_ := (hb.cell (World.block_lt_of_cell? _ _ (hHeld.2.2.2.1))).trans (hHeld.2.2.2.1)
             have HS4_ := (hb.cell (World.block_lt_of_cell? _ _ (hHeld.2.2.2.2.1))).trans (hHeld.2.2.2.2.1)
             have HS5_ := (hb.cell (World.block_lt_of_cell? _ _ (hHeld.2.2.2.2.2.1))).trans (hHeld.2.2.2.2.2.1)
             have HS6_ := (hb.cell (World.block_lt_of_cell? _ _ (hHeld.2.2.2.2.2.2.1))).trans (hHeld.2.2.2.2.2.2.1)
             have HS7_ := (hb.cell (World.block_lt_of_cell? _ _ (hHeld.2.2.2.2.2.2.2.1))).trans (hHeld.2.2.2.2.2.2.2.1)
             have HS8_ := (hb.cell (World.block_lt_of_cell? _ _ (hHeld.2.2.2.2.2.2.2.2.1))).trans (hHeld.2.2.2.2.2.2.2.2.1)
             have HS9_ := (hb.cell (World.block_lt_of_cell? _ _ (hHeld.2.2.2.2.2.2.2.2.2))).trans (hHeld.2.2.2.2.2.2.2.2.2)
             refine ⟨_, rfl, ?_⟩
             have n0_ := aM (vB (vU HO_0.out) hb)
             have n1_ := aM (Kd.N_below (nU HO_3.out) hb)
             have n2_ := aM (Kd.N_below (nU HO_8.out) hb)
             have n3_ := aM (vB (vU HLq0.out) hb)
             have n4_ := aM (vB (vU HLq1.out) hb)
             have n5_ := aM (vB (vU HLq2.out) hb)
             have n6_ := aM (vB (vU HLq3.out) hb)
             have n7_ := aM (Kd.C_below (cU HRq0.out) hb)
             have n8_ := aM (Kd.C_below (cU HRq2.out) hb)
             have n9_ := aM (Kd.C_below (cU HRq3.out) hb)
             have n10_ := aM (Kd.C_below (cU HRq1.out) hb)
             have n11_ := aM (below_step (by repeat (first | (with_reducible first | exact HB.out | apply bA | apply bN | apply bD) | exact HB.out)) hb)
             clear HO_0
             clear HO_3
             clear HO_8
             clear HLq0
             clear HLq1
             clear HLq2
             clear HLq3
             clear HRq0
             clear HRq2
             clear HRq3
             clear HRq1
             clear HB
             have HO_0 := n0_
             have HO_3 := n1_
             have HO_8 := n2_
             have HLq0 := n3_
             have HLq1 := n4_
             have HLq2 := n5_
             have HLq3 := n6_
             have HRq0 := n7_
             have HRq2 := n8_
             have HRq3 := n9_
             have HRq1 := n10_
             have HB := n11_
             clear n0_ n1_ n2_ n3_ n4_ n5_ n6_ n7_ n8_ n9_ n10_ n11_
             (try clear hb)
             (try clear hb2)
             (try clear hk)
             (try clear hi)
             refine hK.out _ _ ⟨HS0_, HS1_, HS2_, HS3_, HS4_, HS5_, HS6_, HS7_, HS8_, HS9_⟩ (fun hHeld => ?_)
             clear hK K
             refine norm_ (a' := ?_) ?_ ?_
             rotate_left
             ·
              show Act.put _ (some 94) _ = _
              simp only [Act.put, List.setIfInBounds_toArray, List.set_cons_zero, List.set_cons_succ, i64_w, i32_w]
              rfl
             refine pure_ (i := 15) (N := some 79) (v := ?_) (a' := ?_) #[T_,T_,T_,T_,T_,T_,T_,T_,T_,T_,T_,T_,T_,T_,T_,T_,F_,F_,F_,F_] rfl rfl (any_of HT_.out (by kernel_rfl)) (fun _ _ _ h => h) (Or.inl ⟨by rfl, ?_⟩) ?_ ?_
             rotate_left
             ·
              intro w'
              go_simp
              with_reducible rfl
             rotate_left
             ·
              simp only [Act.put, List.setIfInBounds_toArray, List.set_cons_zero, List.set_cons_succ, i64_w, i32_w]
              rfl
             refine pure_ (i := 16) (N := some 95) (v := ?_) (a' := ?_) #[T_,T_,T_,T_,T_,T_,T_,T_,T_,T_,T_,T_,T_,T_,T_,T_,T_,F_,F_,F_] rfl rfl (any_of HT_.out (by kernel_rfl)) (fun _ _ _ h => h) (Or.inl ⟨by rfl, ?_⟩) ?_ ?_
             rotate_left
             ·
              intro w'
              go_simp
              with_reducible rfl
             rotate_left
             ·
              simp only [Act.put, List.setIfInBounds_toArray, List.set_cons_zero, List.set_cons_succ, i64_w, i32_w]
              rfl
             refine pure_ (i := 17) (N := some 96) (v := ?_) (a' := ?_) #[T_,T_,T_,T_,T_,T_,T_,T_,T_,T_,T_,T_,T_,T_,T_,T_,T_,T_,F_,F_] rfl rfl (any_of HT_.out (by kernel_rfl)) (fun _ _ _ h => h) (Or.inl ⟨by rfl, ?_⟩) ?_ ?_
             rotate_left
             ·
              intro w'
              go_simp
              with_reducible rfl
             rotate_left
             ·
              simp only [Act.put, List.setIfInBounds_toArray, List.set_cons_zero, List.set_cons_succ, i64_w, i32_w]
              rfl
             refine pure_ (i := 18) (N := some 11) (v := ?_) (a' := ?_) #[T_,T_,T_,T_,T_,T_,T_,T_,T_,T_,T_,T_,T_,T_,T_,T_,T_,T_,T_,F_] rfl rfl (any_of HT_.out (by kernel_rfl)) (fun _ _ _ h => h) (Or.inl ⟨by rfl, ?_⟩) ?_ ?_
             rotate_left
             ·
              intro w'
              go_simp
              with_reducible rfl
             rotate_left
             ·
              simp only [Act.put, List.setIfInBounds_toArray, List.set_cons_zero, List.set_cons_succ, i64_w, i32_w]
              rfl
             refine pure_ (i := 19) (N := some 12) (v := ?_) (a' := ?_) #[T_,T_,T_,T_,T_,T_,T_,T_,T_,T_,T_,T_,T_,T_,T_,T_,T_,T_,T_,T_] rfl rfl (any_of HT_.out (by kernel_rfl)) (fun _ _ _ h => h) (Or.inl ⟨by rfl, ?_⟩) ?_ ?_
             rotate_left
             ·
              intro w'
              go_simp
              with_reducible rfl
             rotate_left
             ·
              simp only [Act.put, List.setIfInBounds_toArray, List.set_cons_zero, List.set_cons_succ, i64_w, i32_w]
              rfl
             refine done_ (done_of HT_.out (by kernel_rfl)) ?_
             try go_wp2
             go_roundg k2
             case measure => have := HK1.out; have := HK2.out; omega
             case rel => exact ⟨(x3_1), (wrap64 (x4_1 + 1)), (by first | rfl | (simp; done) | (simp [*]; done)), H', ⟨by have := HK1.out; have := HK2.out; omega⟩, ⟨by (with_reducible repeat (first | apply Kd.V_alloc | apply Kd.V_drewN | apply Kd.V_drew)); exact Kd.V_mono HO_0.out (fun _ hk => ⟨hk.1, hk.2.1⟩)⟩, ⟨by (with_reducible repeat (first | apply Kd.N_alloc | apply Kd.N_drewN | apply Kd.N_drew)); exact Kd.N_mono HO_3.out (fun _ hk => hk.1)⟩, ⟨by repeat (first | (with_reducible first | exact HB.out | apply bA | apply bN | apply bD) | exact HB.out)⟩⟩
           ·
            rw [if_neg c26] at H
            exact absurd H (by simp)
          ·
           rw [if_neg c25] at H
           exact absurd H (by simp)
    ·
     rw [if_neg c3] at H
     exact absurd H (by simp)
   ·
    rw [if_neg c2] at H
    have c2b0 : decide (x4_1 < (l0.length : Int)) = false := decide_eq_false c2
    clear c2
    obtain rfl := Option.some.inj H
    go_wp2
    go_ret
    exact ⟨_, by first | rfl | (simp [errW_none, errW_some] <;> rfl) | (simp [*, errW_none, errW_some] <;> rfl), by (with_reducible repeat (first | apply Kd.N_alloc | apply Kd.N_drewN | apply Kd.N_drew)); exact HO_3.out, by repeat (first | (with_reducible first | exact HB.out | apply bA | apply bN | apply bD) | exact HB.out)⟩

end Go.Proofs.Ytpoaleejhdeclaa.P
