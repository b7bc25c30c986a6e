-- Written by wip/gprint.py, a program of this session over the kit's print; Lean checks it.
import Derived.Test.YtbenenpkbdldmaaPx0
import Derived.Test.YtbenenpkbdldmaaPx9
import Derived.Test.YtbenenpkbdldmaaPx10
import Derived.Test.YtbenenpkbdldmaaPx22
import Derived.Test.YtbenenpkbdldmaaPx27
import Derived.Test.YtbenenpkbdldmaaPx31
import Derived.Test.YtbenenpkbdldmaaPx33
import Derived.Test.YtbenenpkbdldmaaPx35
import Derived.Test.YtbenenpkbdldmaaPx36
namespace Go.Proofs.Ytbenenpkbdldmaa.P
open Go.RowKit Go.Proofs.YtbenenpkbdldmaaW.PrintWords Go.Proofs.YtbenenpkbdldmaaW.PrintLast Go.Proofs.YtbenenpkbdldmaaW.PrintMore
attribute [local go_sem] max2_int min2_int max_two min_two max_three min_three max_four min_four   -- for this text's walks alone
set_option linter.unusedVariables false
set_option linter.unusedSimpArgs false

/-! ### banksmanlaw04_WalParts: function 4 -/
def banksmanlaw04_WalParts.l0 : Nat → List (List Int) → Bool → Int → Int → Int → List Int → Int → List Int → Int → List Int → Int → List Int → Int → Option (Bool)
  | 0, _, _, _, _, _, _, _, _, _, _, _, _, _ => none
  | k + 1, x1, x5, x8, x10, x11, x302000, x302001, x309000, x309001, x315000, x315001, x316000, x316001 => if x11 < (x1.length : Int) then (if x10 = 0 then (if 0 ≤ x11 then ((wal_Append.f x316000 x316001 (([rd_L1 x1 x11] : List (List Int)))).bind fun bt320 => (banksmanlaw04_WalParts.l0 k x1 x5 x8 bt320.2.2 (wrap64 (x11 + 1)) x302000 x302001 x309000 x309001 x315000 x315001 bt320.1 bt320.2.1)) else (none)) else ((wal_Sync.f x302000 x302001).bind fun bt326 => ((banksmanref04_Same.f x302000 x302001 x309000 x309001).bind fun t331 => (if t331 = true then (if x5 = true then (if (strOfNums bt326.1).toList = (strOfNums x302000).toList then (if (x1.length : Int) = 0 then (if x8 = 0 then ((banksmanref04_Same.f x315000 x315001 x316000 x316001).bind fun t332 => (some t332)) else (some true)) else (if ((x8 == 0) == (x10 == 0)) = true then (if x8 = 0 then ((banksmanref04_Same.f x315000 x315001 x316000 x316001).bind fun t333 => (some t333)) else (some true)) else (some false))) else (some false)) else (some false)) else (if x5 = true then (some false) else (some false)))))) else ((wal_Sync.f x302000 x302001).bind fun bt334 => ((banksmanref04_Same.f x302000 x302001 x309000 x309001).bind fun t339 => (if t339 = true then (if x5 = true then (if (strOfNums bt334.1).toList = (strOfNums x302000).toList then (if (x1.length : Int) = 0 then (if x8 = 0 then ((banksmanref04_Same.f x315000 x315001 x316000 x316001).bind fun t340 => (some t340)) else (some true)) else (if ((x8 == 0) == (x10 == 0)) = true then (if x8 = 0 then ((banksmanref04_Same.f x315000 x315001 x316000 x316001).bind fun t341 => (some t341)) else (some true)) else (some false))) else (some false)) else (some false)) else (if x5 = true then (some false) else (some false)))))
def banksmanlaw04_WalParts.f (k : Nat) (l0_0 : List Int) (a0_1 : Int) (l1 : List (List Int)) : Option (Bool) := (banksmanlaw04_awake.f).bind fun t302 => ((banksmanlaw04_small.f k l0_0 a0_1 l1).bind fun t303 => (if t303 = true then ((banksmanref04_Copy.f l0_0 a0_1).bind fun bt304 => ((wal_Append.f l0_0 a0_1 l1).bind fun bt309 => (banksmanlaw04_WalParts.l0 k l1 t302 bt309.2.2 0 0 l0_0 a0_1 bt304.1 bt304.2 bt309.1 bt309.2.1 l0_0 a0_1))) else (some t302)))
theorem banksmanlaw04_WalParts.mono_l : ∀ k, (∀ y0 y1 y2 y3 y4 y5 y6 y7 y8 y9 y10 y11 y12, LeO (banksmanlaw04_WalParts.l0 k y0 y1 y2 y3 y4 y5 y6 y7 y8 y9 y10 y11 y12) (banksmanlaw04_WalParts.l0 (k + 1) y0 y1 y2 y3 y4 y5 y6 y7 y8 y9 y10 y11 y12))
  | 0 => fun _ _ _ _ _ _ _ _ _ _ _ _ _ r h => by simp [banksmanlaw04_WalParts.l0] at h
  | k + 1 => by
    have ih0 := banksmanlaw04_WalParts.mono_l k
    · intro y0 y1 y2 y3 y4 y5 y6 y7 y8 y9 y10 y11 y12
      unfold banksmanlaw04_WalParts.l0
      repeat' first
      | (with_reducible exact ih0 _ _ _ _ _ _ _ _ _ _ _ _ _)
      | (with_reducible exact banksmanlaw04_small.mono _ _ _ _)
      | (with_reducible exact LeO.refl _)
      | (with_reducible exact LeO.none _)
      | (with_reducible refine LeO.ite ?_ ?_)
      | (with_reducible refine LeO.bind ?_ (fun _ => ?_))
      | exact ih0 _ _ _ _ _ _ _ _ _ _ _ _ _
      | exact banksmanlaw04_small.mono _ _ _ _
      | exact LeO.none _
      | refine LeO.ite ?_ ?_
      | refine LeO.bind ?_ (fun _ => ?_)
theorem banksmanlaw04_WalParts.mono : ∀ a0 a1 a2 k, LeO (banksmanlaw04_WalParts.f k a0 a1 a2) (banksmanlaw04_WalParts.f (k + 1) a0 a1 a2) := by
  intro a0 a1 a2 k
  have ih0 := banksmanlaw04_WalParts.mono_l k
  unfold banksmanlaw04_WalParts.f
  repeat' first
      | (with_reducible exact ih0 _ _ _ _ _ _ _ _ _ _ _ _ _)
      | (with_reducible exact banksmanlaw04_small.mono _ _ _ _)
      | (with_reducible exact LeO.refl _)
      | (with_reducible exact LeO.none _)
      | (with_reducible refine LeO.ite ?_ ?_)
      | (with_reducible refine LeO.bind ?_ (fun _ => ?_))
      | exact ih0 _ _ _ _ _ _ _ _ _ _ _ _ _
      | exact banksmanlaw04_small.mono _ _ _ _
      | exact LeO.none _
      | refine LeO.ite ?_ ?_
      | refine LeO.bind ?_ (fun _ => ?_)
def banksmanlaw04_WalParts.T11 : Bool × List (List Nat × List Nat) := (true, [([], []), ([], []), ([], []), ([1, 2], [1, 2]), ([3], [3]), ([4], [4]), ([0, 5], [0, 5]), ([6], [6]), ([7], [7]), ([7], [7]), ([], []), ([10, 8, 6, 0, 1, 2, 3, 4, 5, 6, 7, 8, 10], [8, 10]), ([9, 11, 0, 1, 2, 3, 4, 5, 6, 7, 8, 9, 10, 11], [9])])
def banksmanlaw04_WalParts.B11 : List Nat := [0, 0, 0, 6, 14, 30, 63, 127, 255, 255, 0, 1535, 4095]
theorem banksmanlaw04_WalParts.tab11 : rtab .any (opsOf Try.f4 11) = banksmanlaw04_WalParts.T11 := by kernel_rfl
theorem banksmanlaw04_WalParts.bits11 : waitsOk banksmanlaw04_WalParts.T11.2 banksmanlaw04_WalParts.B11 = true := by kernel_rfl
set_option maxHeartbeats 8000000 in
set_option maxRecDepth 100000 in
theorem banksmanlaw04_WalParts.calls (k : Nat) (P0_0_ : Nat → Prop) (A0_0 : Option Addr) (c0_0 : Nat) (l0_0 : List Int) (a0_1 : Int) (P1_ : Nat → Prop) (A1 : Option Addr) (c1 : Nat) (l1 : List (List Int)) (r : Bool) (w : World) (hs0_0 : Kd.V (Kd.int .u8) 5 w w.heap.size (fun k_ => P0_0_ k_) (.slice A0_0 l0_0.length c0_0) l0_0) (hs1 : Kd.V (Kd.slice 5 (Kd.int .u8)) 23 w w.heap.size (fun k_ => P1_ k_) (.slice A1 l1.length c1) l1) (h : banksmanlaw04_WalParts.f k l0_0 a0_1 l1 = some r) (HTr_ : r = true) :
  Calls Try.prog 4 #[.agg #[.slice A0_0 l0_0.length c0_0, .int .i64 a0_1], .slice A1 l1.length c1] w fun e w' => e = .returned (.bool r) ∧ Below w.heap.size w w' := by
 have hu26 := Try.underlying26
 have HO0_0 := aM (show Kd.V (Kd.int .u8) 5 w w.heap.size (fun k_ => ((P0_0_ k_ ∨ P1_ k_) ∨ w.heap.size ≤ k_)) (.slice A0_0 l0_0.length c0_0) l0_0 from Kd.V_mono hs0_0 (fun k_ hk => .inl (.inl hk)))
 have HO1 := aM (show Kd.V (Kd.slice 5 (Kd.int .u8)) 23 w w.heap.size (fun k_ => ((P0_0_ k_ ∨ P1_ k_) ∨ w.heap.size ≤ k_)) (.slice A1 l1.length c1) l1 from Kd.V_mono hs1 (fun k_ hk => .inl (.inr hk)))
 have HB := aM (Below.refl w.heap.size w)
 have H : ((banksmanlaw04_awake.f).bind fun t302 => ((banksmanlaw04_small.f k l0_0 a0_1 l1).bind fun t303 => (if t303 = true then ((banksmanref04_Copy.f l0_0 a0_1).bind fun bt304 => ((wal_Append.f l0_0 a0_1 l1).bind fun bt309 => (banksmanlaw04_WalParts.l0 k l1 t302 bt309.2.2 0 0 l0_0 a0_1 bt304.1 bt304.2 bt309.1 bt309.2.1 l0_0 a0_1))) else (some t302)))) = some r := h
 clear h
 replace H := Option.bind_eq_some_iff.mp H
 obtain ⟨t302, A30, H⟩ := H
 replace H : ((banksmanlaw04_small.f k l0_0 a0_1 l1).bind fun t303 => (if t303 = true then ((banksmanref04_Copy.f l0_0 a0_1).bind fun bt304 => ((wal_Append.f l0_0 a0_1 l1).bind fun bt309 => (banksmanlaw04_WalParts.l0 k l1 t302 bt309.2.2 0 0 l0_0 a0_1 bt304.1 bt304.2 bt309.1 bt309.2.1 l0_0 a0_1))) else (some t302))) = some r := H
 have A3 := aM A30
 clear A30
 replace H := Option.bind_eq_some_iff.mp H
 obtain ⟨t303, A40, H⟩ := H
 replace H : (if t303 = true then ((banksmanref04_Copy.f l0_0 a0_1).bind fun bt304 => ((wal_Append.f l0_0 a0_1 l1).bind fun bt309 => (banksmanlaw04_WalParts.l0 k l1 t302 bt309.2.2 0 0 l0_0 a0_1 bt304.1 bt304.2 bt309.1 bt309.2.1 l0_0 a0_1))) else (some t302)) = some r := H
 have A4 := aM A40
 clear A40
 by_cases c5 : t303 = true
 ·
  subst c5
  have H1 : ((banksmanref04_Copy.f l0_0 a0_1).bind fun bt304 => ((wal_Append.f l0_0 a0_1 l1).bind fun bt309 => (banksmanlaw04_WalParts.l0 k l1 t302 bt309.2.2 0 0 l0_0 a0_1 bt304.1 bt304.2 bt309.1 bt309.2.1 l0_0 a0_1))) = some r := by rw [if_pos rfl] at H; exact H
  clear H
  have H := H1
  clear H1
  replace H := Option.bind_eq_some_iff.mp H
  obtain ⟨⟨t304, t307⟩, A60, H⟩ := H
  replace H : ((wal_Append.f l0_0 a0_1 l1).bind fun bt309 => (banksmanlaw04_WalParts.l0 k l1 t302 bt309.2.2 0 0 l0_0 a0_1 t304 t307 bt309.1 bt309.2.1 l0_0 a0_1)) = some r := H
  have A6 := aM A60
  clear A60
  replace H := Option.bind_eq_some_iff.mp H
  obtain ⟨⟨t309, t312, t313⟩, A70, H⟩ := H
  replace H : (banksmanlaw04_WalParts.l0 k l1 t302 t313 0 0 l0_0 a0_1 t304 t307 t309 t312 l0_0 a0_1) = some r := H
  have A7 := aM A70
  clear A70
  have H' := aM H
  clear H
  go_enter Try.func4, Try.ntmps4
  go_wp2_with (first | ((with_reducible refine gate_dst (N := 2) rfl ?_); (try (refine gate_guard (by rfl) ?_; dsimp only)); refine box_event ?hg (N := 2) ?hd (cs := #[.slice A0_0 l0_0.length c0_0, .int .i64 a0_1]) (t := 26) ?hr ?_; (case hd => rfl); (case hg => rfl); (case hr => first | (go_simp; done) | (go_simp; rfl)); intro gb301 hg w8 hbox hb; replace HO0_0 := aM (vB (vE (vU HO0_0.out) gb301 (Nat.le_of_eq hg.symm)) hb); replace HO1 := aM (vB (vE (vU HO1.out) gb301 (Nat.le_of_eq hg.symm)) hb); have BK301 := aM (hbox); have GW301 := aM ((by rw [hg]; exact (below_size (by repeat (first | (with_reducible first | exact HB.out | apply bA | apply bN | apply bD) | exact HB.out))) : w.heap.size ≤ gb301)); have GE301 := aM ((by rw [hg]; exact (below_size (by repeat (first | (with_reducible first | exact HB.out | apply bA | apply bN | apply bD) | exact HB.out))) : w.heap.size ≤ gb301)); replace HB := aM (below_step (by repeat (first | (with_reducible first | exact HB.out | apply bA | apply bN | apply bD) | exact HB.out)) hb); clear hb hbox hg) | ((with_reducible refine gate_callee (f := 8) rfl ?_); refine goesL_ (some 16) rfl rfl Try.func8 (by kernel_rfl) rfl #[] rfl (by (try simp only [List.map_toArray, List.map_cons, List.map_nil]); first | done | rfl | (simp only [List.length_drop, List.length_take]; rfl)) ?_; (with_reducible refine (banksmanlaw04_awake.calls  t302 _ A3.out).mono ?_); rintro e w9 ⟨rfl, hb⟩; refine ⟨_, rfl, ?_⟩; replace HO0_0 := aM (vB (vU HO0_0.out) hb); replace HO1 := aM (vB (vU HO1.out) hb); replace BK301 := aM (kB (g := gb301) (o := .cells #[.slice A0_0 l0_0.length c0_0, .int .i64 a0_1] 26 (0, 0)) (bU BK301.out) hb); replace HB := aM (below_step (by repeat (first | (with_reducible first | exact HB.out | apply bA | apply bN | apply bD | refine bS ?_ GE301.out) | exact HB.out)) hb); (try clear hb); (try clear hb2); (try clear hk); (try clear hi); have hcz10_0 : w9.cell? ⟨gb301, 0, none⟩ = some (.slice A0_0 l0_0.length c0_0) := (kC BK301.out 0).trans rfl; have hcz10_1 : w9.cell? ⟨gb301, 1, none⟩ = some (.int .i64 a0_1) := (kC BK301.out 1).trans rfl; have hfz10_0 := kF BK301.out 0; have hfz10_1 := kF BK301.out 1) | ((with_reducible refine gate_callee (f := 16) rfl ?_); refine goesL_ (some 19) rfl rfl Try.func16 (by kernel_rfl) rfl #[.agg #[.slice A0_0 l0_0.length c0_0, .int .i64 a0_1], .slice A1 l1.length c1] rfl (by (try simp only [List.map_toArray, List.map_cons, List.map_nil]); first | done | rfl | (simp only [List.length_drop, List.length_take]; rfl)) ?_; (with_reducible refine (banksmanlaw04_small.calls k _ _ l0_0 a0_1 _ _ l1 true _ ?side1 ?side2 ?side3 ?side4 A4.out).mono ?_); (case side1 => repeat (first | exact (Kd.V_reads' HO0_0.out).2.2 | (with_reducible refine Kd.C_alloc ?_ _) | (with_reducible refine Kd.C_drewN ?_ _) | (with_reducible refine Kd.C_drew ?_))); (case side2 => exact (Kd.V_reads' HO0_0.out).2.1); (case side3 => repeat (first | exact (Kd.V_reads' HO1.out).2.2 | (with_reducible refine Kd.C_alloc ?_ _) | (with_reducible refine Kd.C_drewN ?_ _) | (with_reducible refine Kd.C_drew ?_))); (case side4 => exact (Kd.V_reads' HO1.out).2.1); rintro e w11 ⟨rfl, hb⟩; refine ⟨_, rfl, ?_⟩; replace HO0_0 := aM (vB (vU HO0_0.out) hb); replace HO1 := aM (vB (vU HO1.out) hb); replace BK301 := aM (kB (g := gb301) (o := .cells #[.slice A0_0 l0_0.length c0_0, .int .i64 a0_1] 26 (0, 0)) (bU BK301.out) hb); replace HB := aM (below_step (by repeat (first | (with_reducible first | exact HB.out | apply bA | apply bN | apply bD | refine bS ?_ GE301.out) | exact HB.out)) hb); (try clear hb); (try clear hb2); (try clear hk); (try clear hi); have hcz12_0 : w11.cell? ⟨gb301, 0, none⟩ = some (.slice A0_0 l0_0.length c0_0) := (kC BK301.out 0).trans rfl; have hcz12_1 : w11.cell? ⟨gb301, 1, none⟩ = some (.int .i64 a0_1) := (kC BK301.out 1).trans rfl; have hfz12_0 := kF BK301.out 0; have hfz12_1 := kF BK301.out 1) | ((with_reducible refine gate_callee (f := 17) rfl ?_); refine goesL_ (some 23) rfl rfl Try.func17 (by kernel_rfl) rfl #[.agg #[.slice A0_0 l0_0.length c0_0, .int .i64 a0_1]] rfl (by (try simp only [List.map_toArray, List.map_cons, List.map_nil]); first | done | rfl | (simp only [List.length_drop, List.length_take]; rfl)) ?_; (with_reducible refine (banksmanref04_Copy.calls _ _ l0_0 a0_1 t304 t307 _ ?side1 ?side2 A6.out).mono ?_); (case side1 => repeat (first | exact (Kd.V_reads' HO0_0.out).2.2 | (with_reducible refine Kd.C_alloc ?_ _) | (with_reducible refine Kd.C_drewN ?_ _) | (with_reducible refine Kd.C_drew ?_))); (case side2 => exact (Kd.V_reads' HO0_0.out).2.1); rintro e w13 ⟨v305, rfl, ho0, hb⟩; refine ⟨_, rfl, ?_⟩; replace HO0_0 := aM (Kd.V_elder' (vU HO0_0.out) (Kd.R_base ho0) hb); replace HO1 := aM (Kd.V_elder' (vU HO1.out) (Kd.R_base ho0) hb); have HO306 := aM (Kd.R_lower (Kd.R_newM (M := fun k_ => (w.heap.size ≤ k_)) ho0 (below_size (by repeat (first | (with_reducible first | exact HB.out | apply bA | apply bN | apply bD | refine bS ?_ GE301.out) | exact HB.out))) (fun k_ h_ => h_)) (below_size (by repeat (first | (with_reducible first | exact HB.out | apply bA | apply bN | apply bD | refine bS ?_ GE301.out) | exact HB.out)))); replace BK301 := aM (kB (g := gb301) (o := .cells #[.slice A0_0 l0_0.length c0_0, .int .i64 a0_1] 26 (0, 0)) (bU BK301.out) hb); replace HB := aM (below_step (by repeat (first | (with_reducible first | exact HB.out | apply bA | apply bN | apply bD | refine bS ?_ GE301.out) | exact HB.out)) hb); (try clear hb); (try clear hk)) | ((with_reducible refine gate_dst (N := 6) rfl ?_); (try (refine gate_guard (by rfl) ?_; dsimp only)); refine box_event ?hg (N := 6) ?hd (cs := #[.slice none 0 0, .int .i64 0]) (t := 26) ?hr ?_; (case hd => rfl); (case hg => rfl); (case hr => first | (go_simp; done) | (go_simp; rfl)); intro gb308 hg w14 hbox hb; replace HO0_0 := aM (vB (vE (vU HO0_0.out) gb308 (Nat.le_of_eq hg.symm)) hb); replace HO1 := aM (vB (vE (vU HO1.out) gb308 (Nat.le_of_eq hg.symm)) hb); replace HO306 := aM (Kd.R_below (rU HO306.out) hb); have BK308 := aM (hbox); have GW308 := aM ((by rw [hg]; exact (below_size (by repeat (first | (with_reducible first | exact HB.out | apply bA | apply bN | apply bD | refine bS ?_ GE301.out) | exact HB.out))) : w.heap.size ≤ gb308)); have GE308 := aM ((by rw [hg]; exact (below_size (by repeat (first | (with_reducible first | exact HB.out | apply bA | apply bN | apply bD | refine bS ?_ GE301.out) | exact HB.out))) : w.heap.size ≤ gb308)); replace HB := aM (below_step (by repeat (first | (with_reducible first | exact HB.out | apply bA | apply bN | apply bD | refine bS ?_ GE301.out) | exact HB.out)) hb); have NBq13 := aM ((by rw [hg]; exact Nat.ne_of_lt (blk_lt (g := gb301) (o := .cells #[.slice A0_0 l0_0.length c0_0, .int .i64 a0_1] 26 (0, 0)) (bU BK301.out)) : gb301 ≠ gb308)); have NBq20 := aM ((by rw [hg]; exact Nat.ne_of_gt (blk_lt (g := gb301) (o := .cells #[.slice A0_0 l0_0.length c0_0, .int .i64 a0_1] 26 (0, 0)) (bU BK301.out)) : gb308 ≠ gb301)); replace BK301 := aM (kB (g := gb301) (o := .cells #[.slice A0_0 l0_0.length c0_0, .int .i64 a0_1] 26 (0, 0)) (bU BK301.out) hb); clear hb hbox hg; obtain ⟨Ao15, co15, eo15⟩ := Kd.R_slice HO306.out; subst eo15; have hnb16 := NBq20.out; have hnc16 := NBq13.out; have hcz17_0 : w14.cell? ⟨gb308, 0, none⟩ = some (.slice none 0 0) := (kC BK308.out 0).trans rfl; have hcz17_1 : w14.cell? ⟨gb308, 1, none⟩ = some (.int .i64 0) := (kC BK308.out 1).trans rfl; have hfz17_0 := kF BK308.out 0; have hfz17_1 := kF BK308.out 1; have hcz18_0 : w14.cell? ⟨gb301, 0, none⟩ = some (.slice A0_0 l0_0.length c0_0) := (kC BK301.out 0).trans rfl; have hcz18_1 : w14.cell? ⟨gb301, 1, none⟩ = some (.int .i64 a0_1) := (kC BK301.out 1).trans rfl; have hfz18_0 := kF BK301.out 0; have hfz18_1 := kF BK301.out 1) | ((with_reducible refine gate_callee (f := 10) rfl ?_); refine goesL_ (some 27) rfl rfl Try.func10 (by kernel_rfl) rfl #[.agg #[.slice A0_0 l0_0.length c0_0, .int .i64 a0_1], .slice A1 l1.length c1] rfl (by (try simp only [List.map_toArray, List.map_cons, List.map_nil]); first | done | rfl | (simp only [List.length_drop, List.length_take]; rfl)) ?_; (with_reducible refine (wal_Append.calls _ _ l0_0 a0_1 _ _ l1 t309 t312 t313 _ ?side1 ?side2 ?side3 ?side4 A7.out).mono ?_); (case side1 => refine (Kd.V_reads' (e := 5) (base := w.heap.size) (ok := fun k_ => (((((P0_0_ k_ ∨ P1_ k_) ∨ w.heap.size ≤ k_) ∧ k_ ≠ gb301) ∧ some k_ ≠ (.slice Ao15 t304.length co15 : Value).ownBlock) ∧ k_ ≠ gb308)) (n := l0_0.length) (c := c0_0) ?_).2.2; exact (by (with_reducible repeat (first | apply Kd.V_alloc | apply Kd.V_drewN | apply Kd.V_drew)); exact (Kd.V_mono (Kd.V_far (p := ⟨gb308, 1, none⟩) (Kd.V_far (p := ⟨gb308, 0, none⟩) (Kd.V_mono HO0_0.out (fun k_ hk => (⟨hk, hk.2⟩ : _ ∧ k_ ≠ gb308))) (fun _ hk => hk.2) (.slice Ao15 t304.length co15)) (fun _ hk => hk.2) (.int .i64 t307)) (fun _ h_ => h_.1)))); (case side2 => exact (Kd.V_reads' HO0_0.out).2.1); (case side3 => refine (Kd.V_reads' (e := 23) (base := w.heap.size) (ok := fun k_ => (((((P0_0_ k_ ∨ P1_ k_) ∨ w.heap.size ≤ k_) ∧ k_ ≠ gb301) ∧ some k_ ≠ (.slice Ao15 t304.length co15 : Value).ownBlock) ∧ k_ ≠ gb308)) (n := l1.length) (c := c1) ?_).2.2; exact (by (with_reducible repeat (first | apply Kd.V_alloc | apply Kd.V_drewN | apply Kd.V_drew)); exact (Kd.V_mono (Kd.V_far (p := ⟨gb308, 1, none⟩) (Kd.V_far (p := ⟨gb308, 0, none⟩) (Kd.V_mono HO1.out (fun k_ hk => (⟨hk, hk.2⟩ : _ ∧ k_ ≠ gb308))) (fun _ hk => hk.2) (.slice Ao15 t304.length co15)) (fun _ hk => hk.2) (.int .i64 t307)) (fun _ h_ => h_.1)))); (case side4 => exact (Kd.V_reads' HO1.out).2.1); rintro e w19 ⟨v310, rfl, ho0, hb⟩; refine ⟨_, rfl, ?_⟩; replace HO0_0 := aM (vB (by (with_reducible repeat (first | apply Kd.V_alloc | apply Kd.V_drewN | apply Kd.V_drew)); exact (Kd.V_mono (Kd.V_far (p := ⟨gb308, 1, none⟩) (Kd.V_far (p := ⟨gb308, 0, none⟩) (Kd.V_mono HO0_0.out (fun k_ hk => (⟨hk, hk.2⟩ : _ ∧ k_ ≠ gb308))) (fun _ hk => hk.2) (.slice Ao15 t304.length co15)) (fun _ hk => hk.2) (.int .i64 t307)) (fun _ h_ => h_.1))) hb); replace HO1 := aM (vB (by (with_reducible repeat (first | apply Kd.V_alloc | apply Kd.V_drewN | apply Kd.V_drew)); exact (Kd.V_mono (Kd.V_far (p := ⟨gb308, 1, none⟩) (Kd.V_far (p := ⟨gb308, 0, none⟩) (Kd.V_mono HO1.out (fun k_ hk => (⟨hk, hk.2⟩ : _ ∧ k_ ≠ gb308))) (fun _ hk => hk.2) (.slice Ao15 t304.length co15)) (fun _ hk => hk.2) (.int .i64 t307)) (fun _ h_ => h_.1))) hb); have HO311 := aM (Kd.V_lower (Kd.V_mono (ok' := fun k_ => ((P0_0_ k_ ∨ P1_ k_) ∨ w.heap.size ≤ k_) ∧ some k_ ≠ (.slice Ao15 t304.length co15 : Value).ownBlock ∧ k_ ≠ gb301 ∧ k_ ≠ gb308) ho0 (fun k_ hk_ => ⟨(.inr (Nat.le_trans (below_size (by repeat (first | (with_reducible first | exact HB.out | apply bA | apply bN | apply bD | refine bS ?_ GE301.out | refine bS ?_ GE308.out) | exact HB.out))) hk_)), (Kd.fresh' (Kd.R_lt (by (with_reducible repeat (first | apply Kd.R_alloc | apply Kd.R_drewN | apply Kd.R_drew)); exact (Kd.R_mono (Kd.R_far (p := ⟨gb308, 1, none⟩) (Kd.R_far (p := ⟨gb308, 0, none⟩) (Kd.R_types HO306.out BK308.out (by decide)) (fun _ hk => hk.2) (.slice Ao15 t304.length co15)) (fun _ hk => hk.2) (.int .i64 t307)) (fun _ h_ => h_.1)))) k_ hk_), (Kd.freshB (g := gb301) (o := .cells #[.slice A0_0 l0_0.length c0_0, .int .i64 a0_1] 26 (0, 0)) (by (with_reducible repeat (first | refine blk_drewN ?_ _ | refine blk_drew ?_ | refine blk_alloc ?_ _)); refine blk_far ?_ NBq13.out _; (with_reducible repeat (first | refine blk_drewN ?_ _ | refine blk_drew ?_ | refine blk_alloc ?_ _)); refine blk_far ?_ NBq13.out _; (with_reducible repeat (first | refine blk_drewN ?_ _ | refine blk_drew ?_ | refine blk_alloc ?_ _)); exact BK301.out) k_ hk_), (Kd.freshB (g := gb308) (o := .cells #[.slice Ao15 t304.length co15, .int .i64 t307] 26 (0, 0)) (by (with_reducible repeat (first | refine blk_drewN ?_ _ | refine blk_drew ?_ | refine blk_alloc ?_ _)); refine blk_put (cs := #[.slice Ao15 t304.length co15, .int .i64 0]) ?_ 1 _ rfl; (with_reducible repeat (first | refine blk_drewN ?_ _ | refine blk_drew ?_ | refine blk_alloc ?_ _)); refine blk_put (cs := #[.slice none 0 0, .int .i64 0]) ?_ 0 _ rfl; (with_reducible repeat (first | refine blk_drewN ?_ _ | refine blk_drew ?_ | refine blk_alloc ?_ _)); exact BK308.out) k_ hk_)⟩)) (below_size (by repeat (first | (with_reducible first | exact HB.out | apply bA | apply bN | apply bD | refine bS ?_ GE301.out | refine bS ?_ GE308.out) | exact HB.out)))); replace HO306 := aM (Kd.R_below (by (with_reducible repeat (first | apply Kd.R_alloc | apply Kd.R_drewN | apply Kd.R_drew)); exact (Kd.R_mono (Kd.R_far (p := ⟨gb308, 1, none⟩) (Kd.R_far (p := ⟨gb308, 0, none⟩) (Kd.R_types HO306.out BK308.out (by decide)) (fun _ hk => hk.2) (.slice Ao15 t304.length co15)) (fun _ hk => hk.2) (.int .i64 t307)) (fun _ h_ => h_.1))) hb); replace BK301 := aM (kB (g := gb301) (o := .cells #[.slice A0_0 l0_0.length c0_0, .int .i64 a0_1] 26 (0, 0)) (by (with_reducible repeat (first | refine blk_drewN ?_ _ | refine blk_drew ?_ | refine blk_alloc ?_ _)); refine blk_far ?_ NBq13.out _; (with_reducible repeat (first | refine blk_drewN ?_ _ | refine blk_drew ?_ | refine blk_alloc ?_ _)); refine blk_far ?_ NBq13.out _; (with_reducible repeat (first | refine blk_drewN ?_ _ | refine blk_drew ?_ | refine blk_alloc ?_ _)); exact BK301.out) hb); replace BK308 := aM (kB (g := gb308) (o := .cells #[.slice Ao15 t304.length co15, .int .i64 t307] 26 (0, 0)) (by (with_reducible repeat (first | refine blk_drewN ?_ _ | refine blk_drew ?_ | refine blk_alloc ?_ _)); refine blk_put (cs := #[.slice Ao15 t304.length co15, .int .i64 0]) ?_ 1 _ rfl; (with_reducible repeat (first | refine blk_drewN ?_ _ | refine blk_drew ?_ | refine blk_alloc ?_ _)); refine blk_put (cs := #[.slice none 0 0, .int .i64 0]) ?_ 0 _ rfl; (with_reducible repeat (first | refine blk_drewN ?_ _ | refine blk_drew ?_ | refine blk_alloc ?_ _)); exact BK308.out) hb); replace HB := aM (below_step (by repeat (first | (with_reducible first | exact HB.out | apply bA | apply bN | apply bD | refine bS ?_ GE301.out | refine bS ?_ GE308.out) | exact HB.out)) hb); (try clear hb); (try clear hk)) | ((with_reducible refine gate_dst (N := 7) rfl ?_); (try (refine gate_guard (by rfl) ?_; dsimp only)); refine box_event ?hg (N := 7) ?hd (cs := #[.slice none 0 0, .int .i64 0]) (t := 26) ?hr ?_; (case hd => rfl); (case hg => rfl); (case hr => first | (go_simp; done) | (go_simp; rfl)); intro gb314 hg w20 hbox hb; replace HO0_0 := aM (vB (vE (vU HO0_0.out) gb314 (Nat.le_of_eq hg.symm)) hb); replace HO1 := aM (vB (vE (vU HO1.out) gb314 (Nat.le_of_eq hg.symm)) hb); replace HO306 := aM (Kd.R_below (rU HO306.out) hb); replace HO311 := aM (vB (vE (vU HO311.out) gb314 (Nat.le_of_eq hg.symm)) hb); have BK314 := aM (hbox); have GW314 := aM ((by rw [hg]; exact (below_size (by repeat (first | (with_reducible first | exact HB.out | apply bA | apply bN | apply bD | refine bS ?_ GE301.out | refine bS ?_ GE308.out) | exact HB.out))) : w.heap.size ≤ gb314)); have GE314 := aM ((by rw [hg]; exact (below_size (by repeat (first | (with_reducible first | exact HB.out | apply bA | apply bN | apply bD | refine bS ?_ GE301.out | refine bS ?_ GE308.out) | exact HB.out))) : w.heap.size ≤ gb314)); replace HB := aM (below_step (by repeat (first | (with_reducible first | exact HB.out | apply bA | apply bN | apply bD | refine bS ?_ GE301.out | refine bS ?_ GE308.out) | exact HB.out)) hb); have NBq0 := aM ((by rw [hg]; exact Nat.ne_of_lt (blk_lt (g := gb301) (o := .cells #[.slice A0_0 l0_0.length c0_0, .int .i64 a0_1] 26 (0, 0)) (bU BK301.out)) : gb301 ≠ gb314)); have NBq21 := aM ((by rw [hg]; exact Nat.ne_of_gt (blk_lt (g := gb301) (o := .cells #[.slice A0_0 l0_0.length c0_0, .int .i64 a0_1] 26 (0, 0)) (bU BK301.out)) : gb314 ≠ gb301)); replace BK301 := aM (kB (g := gb301) (o := .cells #[.slice A0_0 l0_0.length c0_0, .int .i64 a0_1] 26 (0, 0)) (bU BK301.out) hb); have NBq1 := aM ((by rw [hg]; exact Nat.ne_of_lt (blk_lt (g := gb308) (o := .cells #[.slice Ao15 t304.length co15, .int .i64 t307] 26 (0, 0)) (bU BK308.out)) : gb308 ≠ gb314)); have NBq22 := aM ((by rw [hg]; exact Nat.ne_of_gt (blk_lt (g := gb308) (o := .cells #[.slice Ao15 t304.length co15, .int .i64 t307] 26 (0, 0)) (bU BK308.out)) : gb314 ≠ gb308)); replace BK308 := aM (kB (g := gb308) (o := .cells #[.slice Ao15 t304.length co15, .int .i64 t307] 26 (0, 0)) (bU BK308.out) hb); clear hb hbox hg; obtain ⟨Ao21, co21, eo21⟩ := Kd.V_slice HO311.out; subst eo21; have hnb22 := NBq21.out; have hnc22 := NBq0.out; have hnb23 := NBq22.out; have hnc23 := NBq1.out; have hcz24_0 : w20.cell? ⟨gb314, 0, none⟩ = some (.slice none 0 0) := (kC BK314.out 0).trans rfl; have hcz24_1 : w20.cell? ⟨gb314, 1, none⟩ = some (.int .i64 0) := (kC BK314.out 1).trans rfl; have hfz24_0 := kF BK314.out 0; have hfz24_1 := kF BK314.out 1; have hcz25_0 : w20.cell? ⟨gb301, 0, none⟩ = some (.slice A0_0 l0_0.length c0_0) := (kC BK301.out 0).trans rfl; have hcz25_1 : w20.cell? ⟨gb301, 1, none⟩ = some (.int .i64 a0_1) := (kC BK301.out 1).trans rfl; have hfz25_0 := kF BK301.out 0; have hfz25_1 := kF BK301.out 1) | ((with_reducible refine gate_dst (N := 9) rfl ?_); (try (refine gate_guard (by rfl) ?_; dsimp only)); refine box_event ?hg (N := 9) ?hd (cs := #[.slice none 0 0, .int .i64 0]) (t := 26) ?hr ?_; (case hd => rfl); (case hg => rfl); (case hr => first | (go_simp; done) | (go_simp; rfl)); intro gb315 hg w26 hbox hb; replace HO0_0 := aM (vB (vE (by (with_reducible repeat (first | apply Kd.V_alloc | apply Kd.V_drewN | apply Kd.V_drew)); exact (Kd.V_mono (Kd.V_far (p := ⟨gb314, 1, none⟩) (Kd.V_far (p := ⟨gb314, 0, none⟩) (Kd.V_mono HO0_0.out (fun k_ hk => (⟨hk, hk.2⟩ : _ ∧ k_ ≠ gb314))) (fun _ hk => hk.2) (.slice Ao21 t309.length co21)) (fun _ hk => hk.2) (.int .i64 t312)) (fun _ h_ => h_.1))) gb315 (Nat.le_of_eq hg.symm)) hb); replace HO1 := aM (vB (vE (by (with_reducible repeat (first | apply Kd.V_alloc | apply Kd.V_drewN | apply Kd.V_drew)); exact (Kd.V_mono (Kd.V_far (p := ⟨gb314, 1, none⟩) (Kd.V_far (p := ⟨gb314, 0, none⟩) (Kd.V_mono HO1.out (fun k_ hk => (⟨hk, hk.2⟩ : _ ∧ k_ ≠ gb314))) (fun _ hk => hk.2) (.slice Ao21 t309.length co21)) (fun _ hk => hk.2) (.int .i64 t312)) (fun _ h_ => h_.1))) gb315 (Nat.le_of_eq hg.symm)) hb); replace HO306 := aM (Kd.R_below (by (with_reducible repeat (first | apply Kd.R_alloc | apply Kd.R_drewN | apply Kd.R_drew)); exact (Kd.R_mono (Kd.R_far (p := ⟨gb314, 1, none⟩) (Kd.R_far (p := ⟨gb314, 0, none⟩) (Kd.R_types HO306.out BK314.out (by decide)) (fun _ hk => hk.2) (.slice Ao21 t309.length co21)) (fun _ hk => hk.2) (.int .i64 t312)) (fun _ h_ => h_.1))) hb); replace HO311 := aM (vB (vE (by (with_reducible repeat (first | apply Kd.V_alloc | apply Kd.V_drewN | apply Kd.V_drew)); exact (Kd.V_mono (Kd.V_far (p := ⟨gb314, 1, none⟩) (Kd.V_far (p := ⟨gb314, 0, none⟩) (Kd.V_mono HO311.out (fun k_ hk => (⟨hk, hk.2⟩ : _ ∧ k_ ≠ gb314))) (fun _ hk => hk.2) (.slice Ao21 t309.length co21)) (fun _ hk => hk.2) (.int .i64 t312)) (fun _ h_ => h_.1))) gb315 (Nat.le_of_eq hg.symm)) hb); have BK315 := aM (hbox); have GW315 := aM ((by rw [hg]; exact (below_size (by repeat (first | (with_reducible first | exact HB.out | apply bA | apply bN | apply bD | refine bS ?_ GE301.out | refine bS ?_ GE308.out | refine bS ?_ GE314.out) | exact HB.out))) : w.heap.size ≤ gb315)); have GE315 := aM ((by rw [hg]; exact (below_size (by repeat (first | (with_reducible first | exact HB.out | apply bA | apply bN | apply bD | refine bS ?_ GE301.out | refine bS ?_ GE308.out | refine bS ?_ GE314.out) | exact HB.out))) : w.heap.size ≤ gb315)); replace HB := aM (below_step (by repeat (first | (with_reducible first | exact HB.out | apply bA | apply bN | apply bD | refine bS ?_ GE301.out | refine bS ?_ GE308.out | refine bS ?_ GE314.out) | exact HB.out)) hb); have NBq11 := aM ((by rw [hg]; exact Nat.ne_of_lt (blk_lt (g := gb301) (o := .cells #[.slice A0_0 l0_0.length c0_0, .int .i64 a0_1] 26 (0, 0)) (by (with_reducible repeat (first | refine blk_drewN ?_ _ | refine blk_drew ?_ | refine blk_alloc ?_ _)); refine blk_far ?_ NBq0.out _; (with_reducible repeat (first | refine blk_drewN ?_ _ | refine blk_drew ?_ | refine blk_alloc ?_ _)); refine blk_far ?_ NBq0.out _; (with_reducible repeat (first | refine blk_drewN ?_ _ | refine blk_drew ?_ | refine blk_alloc ?_ _)); exact BK301.out)) : gb301 ≠ gb315)); have NBq17 := aM ((by rw [hg]; exact Nat.ne_of_gt (blk_lt (g := gb301) (o := .cells #[.slice A0_0 l0_0.length c0_0, .int .i64 a0_1] 26 (0, 0)) (by (with_reducible repeat (first | refine blk_drewN ?_ _ | refine blk_drew ?_ | refine blk_alloc ?_ _)); refine blk_far ?_ NBq0.out _; (with_reducible repeat (first | refine blk_drewN ?_ _ | refine blk_drew ?_ | refine blk_alloc ?_ _)); refine blk_far ?_ NBq0.out _; (with_reducible repeat (first | refine blk_drewN ?_ _ | refine blk_drew ?_ | refine blk_alloc ?_ _)); exact BK301.out)) : gb315 ≠ gb301)); replace BK301 := aM (kB (g := gb301) (o := .cells #[.slice A0_0 l0_0.length c0_0, .int .i64 a0_1] 26 (0, 0)) (by (with_reducible repeat (first | refine blk_drewN ?_ _ | refine blk_drew ?_ | refine blk_alloc ?_ _)); refine blk_far ?_ NBq0.out _; (with_reducible repeat (first | refine blk_drewN ?_ _ | refine blk_drew ?_ | refine blk_alloc ?_ _)); refine blk_far ?_ NBq0.out _; (with_reducible repeat (first | refine blk_drewN ?_ _ | refine blk_drew ?_ | refine blk_alloc ?_ _)); exact BK301.out) hb); have NBq12 := aM ((by rw [hg]; exact Nat.ne_of_lt (blk_lt (g := gb308) (o := .cells #[.slice Ao15 t304.length co15, .int .i64 t307] 26 (0, 0)) (by (with_reducible repeat (first | refine blk_drewN ?_ _ | refine blk_drew ?_ | refine blk_alloc ?_ _)); refine blk_far ?_ NBq1.out _; (with_reducible repeat (first | refine blk_drewN ?_ _ | refine blk_drew ?_ | refine blk_alloc ?_ _)); refine blk_far ?_ NBq1.out _; (with_reducible repeat (first | refine blk_drewN ?_ _ | refine blk_drew ?_ | refine blk_alloc ?_ _)); exact BK308.out)) : gb308 ≠ gb315)); have NBq18 := aM ((by rw [hg]; exact Nat.ne_of_gt (blk_lt (g := gb308) (o := .cells #[.slice Ao15 t304.length co15, .int .i64 t307] 26 (0, 0)) (by (with_reducible repeat (first | refine blk_drewN ?_ _ | refine blk_drew ?_ | refine blk_alloc ?_ _)); refine blk_far ?_ NBq1.out _; (with_reducible repeat (first | refine blk_drewN ?_ _ | refine blk_drew ?_ | refine blk_alloc ?_ _)); refine blk_far ?_ NBq1.out _; (with_reducible repeat (first | refine blk_drewN ?_ _ | refine blk_drew ?_ | refine blk_alloc ?_ _)); exact BK308.out)) : gb315 ≠ gb308)); replace BK308 := aM (kB (g := gb308) (o := .cells #[.slice Ao15 t304.length co15, .int .i64 t307] 26 (0, 0)) (by (with_reducible repeat (first | refine blk_drewN ?_ _ | refine blk_drew ?_ | refine blk_alloc ?_ _)); refine blk_far ?_ NBq1.out _; (with_reducible repeat (first | refine blk_drewN ?_ _ | refine blk_drew ?_ | refine blk_alloc ?_ _)); refine blk_far ?_ NBq1.out _; (with_reducible repeat (first | refine blk_drewN ?_ _ | refine blk_drew ?_ | refine blk_alloc ?_ _)); exact BK308.out) hb); have NBq19 := aM ((by rw [hg]; exact Nat.ne_of_lt (blk_lt (g := gb314) (o := .cells #[.slice Ao21 t309.length co21, .int .i64 t312] 26 (0, 0)) (by (with_reducible repeat (first | refine blk_drewN ?_ _ | refine blk_drew ?_ | refine blk_alloc ?_ _)); refine blk_put (cs := #[.slice Ao21 t309.length co21, .int .i64 0]) ?_ 1 _ rfl; (with_reducible repeat (first | refine blk_drewN ?_ _ | refine blk_drew ?_ | refine blk_alloc ?_ _)); refine blk_put (cs := #[.slice none 0 0, .int .i64 0]) ?_ 0 _ rfl; (with_reducible repeat (first | refine blk_drewN ?_ _ | refine blk_drew ?_ | refine blk_alloc ?_ _)); exact BK314.out)) : gb314 ≠ gb315)); have NBq35 := aM ((by rw [hg]; exact Nat.ne_of_gt (blk_lt (g := gb314) (o := .cells #[.slice Ao21 t309.length co21, .int .i64 t312] 26 (0, 0)) (by (with_reducible repeat (first | refine blk_drewN ?_ _ | refine blk_drew ?_ | refine blk_alloc ?_ _)); refine blk_put (cs := #[.slice Ao21 t309.length co21, .int .i64 0]) ?_ 1 _ rfl; (with_reducible repeat (first | refine blk_drewN ?_ _ | refine blk_drew ?_ | refine blk_alloc ?_ _)); refine blk_put (cs := #[.slice none 0 0, .int .i64 0]) ?_ 0 _ rfl; (with_reducible repeat (first | refine blk_drewN ?_ _ | refine blk_drew ?_ | refine blk_alloc ?_ _)); exact BK314.out)) : gb315 ≠ gb314)); replace BK314 := aM (kB (g := gb314) (o := .cells #[.slice Ao21 t309.length co21, .int .i64 t312] 26 (0, 0)) (by (with_reducible repeat (first | refine blk_drewN ?_ _ | refine blk_drew ?_ | refine blk_alloc ?_ _)); refine blk_put (cs := #[.slice Ao21 t309.length co21, .int .i64 0]) ?_ 1 _ rfl; (with_reducible repeat (first | refine blk_drewN ?_ _ | refine blk_drew ?_ | refine blk_alloc ?_ _)); refine blk_put (cs := #[.slice none 0 0, .int .i64 0]) ?_ 0 _ rfl; (with_reducible repeat (first | refine blk_drewN ?_ _ | refine blk_drew ?_ | refine blk_alloc ?_ _)); exact BK314.out) hb); clear hb hbox hg; have hnb27 := NBq17.out; have hnc27 := NBq11.out; have hnb28 := NBq18.out; have hnc28 := NBq12.out; have hnb29 := NBq35.out; have hnc29 := NBq19.out; have hcz30_0 : w26.cell? ⟨gb315, 0, none⟩ = some (.slice none 0 0) := (kC BK315.out 0).trans rfl; have hcz30_1 : w26.cell? ⟨gb315, 1, none⟩ = some (.int .i64 0) := (kC BK315.out 1).trans rfl; have hfz30_0 := kF BK315.out 0; have hfz30_1 := kF BK315.out 1))
  go_loopg [10, 11] k (fun kq v10 v11 w' => ∃ (x10_1 : Int) (x11_1 : Int) (x316000_1 : List Int) (x316001_1 : Int) (u316000 : Value), v10 = .int .i64 x10_1 ∧ v11 = .int .i64 x11_1 ∧ Aside0 (banksmanlaw04_WalParts.l0 kq l1 t302 t313 x10_1 x11_1 l0_0 a0_1 t304 t307 t309 t312 x316000_1 x316001_1 = some r) ∧ Aside0 (kq ≤ k) ∧ Aside0 (Kd.V (Kd.slice 5 (Kd.int .u8)) 23 w' w.heap.size (fun k_ => ((P0_0_ k_ ∨ P1_ k_) ∨ w.heap.size ≤ k_) ∧ some k_ ≠ ((.slice Ao15 t304.length co15) : Value).ownBlock ∧ k_ ≠ gb301 ∧ k_ ≠ gb308 ∧ k_ ≠ gb314 ∧ k_ ≠ gb315) (.slice A1 l1.length c1) l1) ∧ Aside0 (Kd.V (Kd.int .u8) 5 w' w.heap.size (fun k_ => ((P0_0_ k_ ∨ P1_ k_) ∨ w.heap.size ≤ k_) ∧ some k_ ≠ ((.slice Ao15 t304.length co15) : Value).ownBlock ∧ k_ ≠ gb301 ∧ k_ ≠ gb308 ∧ k_ ≠ gb314 ∧ k_ ≠ gb315) (.slice A0_0 l0_0.length c0_0) l0_0) ∧ Aside0 (Kd.R (Kd.int .u8) 5 w' w.heap.size (fun k_ => (w.heap.size ≤ k_)) (.slice Ao15 t304.length co15) t304) ∧ Aside0 (Kd.V (Kd.int .u8) 5 w' w.heap.size (fun k_ => ((P0_0_ k_ ∨ P1_ k_) ∨ w.heap.size ≤ k_) ∧ some k_ ≠ ((.slice Ao15 t304.length co15) : Value).ownBlock ∧ k_ ≠ gb301 ∧ k_ ≠ gb308 ∧ k_ ≠ gb314 ∧ k_ ≠ gb315) (.slice Ao21 t309.length co21) t309) ∧ Aside0 (Kd.V (Kd.int .u8) 5 w' w.heap.size (fun k_ => ((P0_0_ k_ ∨ P1_ k_) ∨ w.heap.size ≤ k_) ∧ some k_ ≠ ((.slice Ao15 t304.length co15) : Value).ownBlock ∧ k_ ≠ gb301 ∧ k_ ≠ gb308 ∧ k_ ≠ gb314 ∧ k_ ≠ gb315) u316000 x316000_1) ∧ Aside0 (w'.heap[gb301]? = some (.cells #[(.slice A0_0 l0_0.length c0_0), .int .i64 a0_1] 26 (0, 0))) ∧ Aside0 (w'.heap[gb308]? = some (.cells #[(.slice Ao15 t304.length co15), .int .i64 t307] 26 (0, 0))) ∧ Aside0 (w'.heap[gb314]? = some (.cells #[(.slice Ao21 t309.length co21), .int .i64 t312] 26 (0, 0))) ∧ Aside0 (w'.heap[gb315]? = some (.cells #[u316000, .int .i64 x316001_1] 26 (0, 0))) ∧ Aside0 (Below w.heap.size w w'))
  case atStart => exact ⟨(0), (0), (l0_0), (a0_1), (.slice A0_0 l0_0.length c0_0), (by first | rfl | (simp; done) | (simp [*]; done)), (by first | rfl | (simp; done) | (simp [*]; done)), H', ⟨Nat.le_refl _⟩, ⟨by (with_reducible repeat (first | apply Kd.V_alloc | apply Kd.V_drewN | apply Kd.V_drew)); exact Kd.V_mono (Kd.V_far (p := ⟨gb315, 1, none⟩) (Kd.V_far (p := ⟨gb315, 0, none⟩) (Kd.V_mono HO1.out (fun k_ hk => (⟨hk, hk.2⟩ : _ ∧ k_ ≠ gb315))) (fun _ hk => hk.2) (.slice A0_0 l0_0.length c0_0)) (fun _ hk => hk.2) (.int .i64 a0_1)) (fun _ hk => ⟨hk.1.1.1.1.1.1, ⟨hk.1.1.1.1.2, ⟨hk.1.1.1.1.1.2, ⟨hk.1.1.1.2, ⟨hk.1.1.2, hk.1.2⟩⟩⟩⟩⟩)⟩, ⟨by (with_reducible repeat (first | apply Kd.V_alloc | apply Kd.V_drewN | apply Kd.V_drew)); exact Kd.V_mono (Kd.V_far (p := ⟨gb315, 1, none⟩) (Kd.V_far (p := ⟨gb315, 0, none⟩) (Kd.V_mono HO0_0.out (fun k_ hk => (⟨hk, hk.2⟩ : _ ∧ k_ ≠ gb315))) (fun _ hk => hk.2) (.slice A0_0 l0_0.length c0_0)) (fun _ hk => hk.2) (.int .i64 a0_1)) (fun _ hk => ⟨hk.1.1.1.1.1.1, ⟨hk.1.1.1.1.2, ⟨hk.1.1.1.1.1.2, ⟨hk.1.1.1.2, ⟨hk.1.1.2, hk.1.2⟩⟩⟩⟩⟩)⟩, ⟨by (with_reducible repeat (first | apply Kd.R_alloc | apply Kd.R_drewN | apply Kd.R_drew)); exact Kd.R_mono (Kd.R_far (p := ⟨gb315, 1, none⟩) (Kd.R_far (p := ⟨gb315, 0, none⟩) (Kd.R_types HO306.out BK315.out (by decide)) (fun _ hk => hk.2) (.slice A0_0 l0_0.length c0_0)) (fun _ hk => hk.2) (.int .i64 a0_1)) (fun _ hk => hk.1.1)⟩, ⟨by (with_reducible repeat (first | apply Kd.V_alloc | apply Kd.V_drewN | apply Kd.V_drew)); exact Kd.V_mono (Kd.V_far (p := ⟨gb315, 1, none⟩) (Kd.V_far (p := ⟨gb315, 0, none⟩) (Kd.V_mono HO311.out (fun k_ hk => (⟨hk, hk.2⟩ : _ ∧ k_ ≠ gb315))) (fun _ hk => hk.2) (.slice A0_0 l0_0.length c0_0)) (fun _ hk => hk.2) (.int .i64 a0_1)) (fun _ hk => ⟨hk.1.1.1.1, ⟨hk.1.1.1.2.1, ⟨hk.1.1.1.2.2.1, ⟨hk.1.1.1.2.2.2, ⟨hk.1.1.2, hk.1.2⟩⟩⟩⟩⟩)⟩, ⟨by (with_reducible repeat (first | apply Kd.V_alloc | apply Kd.V_drewN | apply Kd.V_drew)); exact Kd.V_mono (Kd.V_far (p := ⟨gb315, 1, none⟩) (Kd.V_far (p := ⟨gb315, 0, none⟩) (Kd.V_mono HO0_0.out (fun k_ hk => (⟨hk, hk.2⟩ : _ ∧ k_ ≠ gb315))) (fun _ hk => hk.2) (.slice A0_0 l0_0.length c0_0)) (fun _ hk => hk.2) (.int .i64 a0_1)) (fun _ hk => ⟨hk.1.1.1.1.1.1, ⟨hk.1.1.1.1.2, ⟨hk.1.1.1.1.1.2, ⟨hk.1.1.1.2, ⟨hk.1.1.2, hk.1.2⟩⟩⟩⟩⟩)⟩, ⟨by (with_reducible repeat (first | refine blk_drewN ?_ _ | refine blk_drew ?_ | refine blk_alloc ?_ _)); refine blk_far ?_ NBq11.out _; (with_reducible repeat (first | refine blk_drewN ?_ _ | refine blk_drew ?_ | refine blk_alloc ?_ _)); refine blk_far ?_ NBq11.out _; (with_reducible repeat (first | refine blk_drewN ?_ _ | refine blk_drew ?_ | refine blk_alloc ?_ _)); exact BK301.out⟩, ⟨by (with_reducible repeat (first | refine blk_drewN ?_ _ | refine blk_drew ?_ | refine blk_alloc ?_ _)); refine blk_far ?_ NBq12.out _; (with_reducible repeat (first | refine blk_drewN ?_ _ | refine blk_drew ?_ | refine blk_alloc ?_ _)); refine blk_far ?_ NBq12.out _; (with_reducible repeat (first | refine blk_drewN ?_ _ | refine blk_drew ?_ | refine blk_alloc ?_ _)); exact BK308.out⟩, ⟨by (with_reducible repeat (first | refine blk_drewN ?_ _ | refine blk_drew ?_ | refine blk_alloc ?_ _)); refine blk_far ?_ NBq19.out _; (with_reducible repeat (first | refine blk_drewN ?_ _ | refine blk_drew ?_ | refine blk_alloc ?_ _)); refine blk_far ?_ NBq19.out _; (with_reducible repeat (first | refine blk_drewN ?_ _ | refine blk_drew ?_ | refine blk_alloc ?_ _)); exact BK314.out⟩, ⟨by (with_reducible repeat (first | refine blk_drewN ?_ _ | refine blk_drew ?_ | refine blk_alloc ?_ _)); refine blk_put (cs := #[.slice A0_0 l0_0.length c0_0, .int .i64 0]) ?_ 1 _ rfl; (with_reducible repeat (first | refine blk_drewN ?_ _ | refine blk_drew ?_ | refine blk_alloc ?_ _)); refine blk_put (cs := #[.slice none 0 0, .int .i64 0]) ?_ 0 _ rfl; (with_reducible repeat (first | refine blk_drewN ?_ _ | refine blk_drew ?_ | refine blk_alloc ?_ _)); exact BK315.out⟩, ⟨by repeat (first | (with_reducible first | exact HB.out | apply bA | apply bN | apply bD | refine bS ?_ GE301.out | refine bS ?_ GE308.out | refine bS ?_ GE314.out | refine bS ?_ GE315.out) | exact HB.out)⟩⟩
  case round =>
   clear H'
   try clear c1
   try clear c2
   try clear p2
   try clear c4
   try clear c5
   try clear c8
   try clear c10
   try clear c16
   try clear c17
   try clear c22
   try clear c23
   try clear c27
   try clear c28
   try clear c29
   try clear hcz10_0
   try clear hcz10_1
   try clear hcz12_0
   try clear hcz12_1
   try clear hcz17_0
   try clear hcz17_1
   try clear hcz18_0
   try clear hcz18_1
   try clear hcz24_0
   try clear hcz24_1
   try clear hcz25_0
   try clear hcz25_1
   try clear hcz30_0
   try clear hcz30_1
   try clear hfz10_0
   try clear hfz10_1
   try clear hfz12_0
   try clear hfz12_1
   try clear hfz17_0
   try clear hfz17_1
   try clear hfz18_0
   try clear hfz18_1
   try clear hfz24_0
   try clear hfz24_1
   try clear hfz25_0
   try clear hfz25_1
   try clear hfz30_0
   try clear hfz30_1
   obtain ⟨x10_1, x11_1, x316000_1, x316001_1, u316000, rfl, rfl, HA, HK1, HO_1, HOq0, HOq1, HOq3, HOq2, BK301, BK308, BK314, BK315, HB⟩ := hrel
   cases gk with
   | zero => exact absurd HA.out (by simp [banksmanlaw04_WalParts.l0])
   | succ k1 =>
    have H := HA.out
    clear HA
    simp only [banksmanlaw04_WalParts.l0] at H
    by_cases c31 : x11_1 < (l1.length : Int)
    ·
     rw [if_pos c31] at H
     have c31b0 : decide (x11_1 < (l1.length : Int)) = true := decide_eq_true c31
     clear c31
     by_cases c32 : x10_1 = 0
     ·
      rw [if_pos c32] at H
      have c32b0 : (x10_1 == 0) = true := beq_iff_eq.mpr c32
      have c32b1 : (x10_1 != 0) = false := bne_eq_false_iff_eq.mpr c32
      clear c32
      by_cases c33 : 0 ≤ x11_1
      ·
       rw [if_pos c33] at H
       have c33b0 : decide (0 ≤ x11_1) = true := decide_eq_true c33
       clear c33
       obtain ⟨y317, hy317⟩ : ∃ y_ : List (List Int), y_ = (([rd_L1 l1 x11_1] : List (List Int))) := ⟨_, rfl⟩
       replace H : ((wal_Append.f x316000_1 x316001_1 y317).bind fun bt320 => (banksmanlaw04_WalParts.l0 k1 l1 t302 t313 bt320.2.2 (wrap64 (x11_1 + 1)) l0_0 a0_1 t304 t307 t309 t312 bt320.1 bt320.2.1)) = some r := by first | (rw [hy317]; with_reducible exact H) | (have H2_ := (Option.bind_some _ _).symm.trans H; rw [hy317]; with_reducible exact H2_) | (have H2_ := (Option.bind_some _ _).symm.trans H; with_reducible exact H2_) | with_reducible exact H | (rw [hy317]; exact H) | exact H
       have Ny317 := aM hy317
       clear hy317
       replace H := Option.bind_eq_some_iff.mp H
       obtain ⟨⟨t320, t323, t324⟩, A340, H⟩ := H
       replace H : (banksmanlaw04_WalParts.l0 k1 l1 t302 t313 t324 (wrap64 (x11_1 + 1)) l0_0 a0_1 t304 t307 t309 t312 t320 t323) = some r := H
       have A34 := aM A340
       clear A340
       have H' := aM H
       clear H
       obtain ⟨Ao35, co35, eo35⟩ := Kd.V_slice HOq2.out
       subst eo35
       try go_wp2
       have n0_ := aM (Kd.V_drew HO_1.out)
       have n1_ := aM (Kd.V_drew HOq0.out)
       have n2_ := aM (Kd.R_drew HOq1.out)
       have n3_ := aM (Kd.V_drew HOq3.out)
       have n4_ := aM (Kd.V_drew HOq2.out)
       have n5_ := aM (blk_drew BK301.out)
       have n6_ := aM (blk_drew BK308.out)
       have n7_ := aM (blk_drew BK314.out)
       have n8_ := aM (blk_drew BK315.out)
       have n9_ := aM (bD HB.out)
       clear HO_1
       clear HOq0
       clear HOq1
       clear HOq3
       clear HOq2
       clear BK301
       clear BK308
       clear BK314
       clear BK315
       clear HB
       have HO_1 := n0_
       have HOq0 := n1_
       have HOq1 := n2_
       have HOq3 := n3_
       have HOq2 := n4_
       have BK301 := n5_
       have BK308 := n6_
       have BK314 := n7_
       have BK315 := n8_
       have HB := n9_
       clear n0_ n1_ n2_ n3_ n4_ n5_ n6_ n7_ n8_ n9_
       have p316 : 0 ≤ (x11_1 : Int) := of_decide_eq_true (by first | (with_reducible assumption) | assumption)
       have q316 : x11_1 < (l1.length : Int) := of_decide_eq_true (by first | (with_reducible assumption) | assumption)
       obtain ⟨ad316, A316_0, c316_0, e316, hx316_0, hl316_0, hi316_0⟩ := at_L1 (Kd.V_reads' HO_1.out).2.2 x11_1 p316 q316
       cases e316
       obtain ⟨ce316, hce316, hMe316, hcc316⟩ := Kd.V_get HO_1.out [] x11_1 p316 (by first | exact q316 | exact of_decide_eq_true (by first | (with_reducible assumption) | assumption) | (have e_ := (Kd.V_reads' HO_1.out).1; omega))
       obtain ⟨ua316_0, uc316_0, rfl, ul316_0, ge316_0⟩ := Kd.FK_slice_open hMe316
       have hv316_0 := hcc316 0 _ rfl
       rw [Nat.add_zero, show ((Kd.slice 5 (Kd.int .u8))).sz = 1 from rfl, Nat.mul_one] at hv316_0
       replace hv316_0 := Option.some.inj (hv316_0.symm.trans hx316_0)
       injection hv316_0 with hva_ hvn_ hvc_
       rw [hva_] at ge316_0
       rw [hvc_] at ul316_0
       have HLq0 := aM (show Kd.V (Kd.int .u8) 5 _ w.heap.size _ _ (rd_L1 l1 x11_1) from Kd.V_mk ul316_0 ge316_0)
       clear hva_ hvn_ hvc_ ge316_0 ul316_0
       clear hcc316 hce316
       have HRq0 := aM hi316_0
       have HCq0 := aM hl316_0
       clear hi316_0 hl316_0
       replace p316 := eq_true p316
       replace q316 := eq_true q316
       refine start_ (n := 13) (S := fun w' => w'.cell? ⟨gb315, 0, none⟩ = some (.slice Ao35 x316000_1.length co35) ∧ w'.cell? ⟨gb315, 1, none⟩ = some (.int .i64 x316001_1) ∧ w'.cell? (ad316.add (x11_1).toNat) = some (.slice A316_0 (rd_L1 l1 x11_1).length c316_0)) (ds := []) #[F_,F_,F_,F_,F_,F_,F_,F_,F_,F_,F_,F_,F_] (by kernel_rfl) rfl rfl ⟨(kC BK315.out 0).trans rfl, (kC BK315.out 1).trans rfl, hx316_0⟩ (fun hHeld => ?_); refine with_tabW banksmanlaw04_WalParts.tab11 banksmanlaw04_WalParts.bits11 (fun HT_ HW_ => ?_)
       generalize wr.drew = w36 at HO_1 HOq0 HOq1 HOq3 HOq2 BK301 BK308 BK314 BK315 HB HLq0 HRq0 hx316_0 hHeld ⊢
       refine pure_ (i := 1) (N := some 43) (v := ?_) (a' := ?_) #[F_,T_,F_,F_,F_,F_,F_,F_,F_,F_,F_,F_,F_] rfl rfl (any_of HT_.out (by kernel_rfl)) (fun _ _ _ h => h) (Or.inl ⟨by rfl, ?_⟩) ?_ ?_
       rotate_left
       ·
        intro w'
        go_simp
        with_reducible rfl
       rotate_left
       ·
        simp only [Act.put, List.setIfInBounds_toArray, List.set_cons_zero, List.set_cons_succ, i64_w, i32_w]
        rfl
       refine pure_ (i := 2) (N := some 44) (v := ?_) (a' := ?_) #[F_,T_,T_,F_,F_,F_,F_,F_,F_,F_,F_,F_,F_] rfl rfl (any_of HT_.out (by kernel_rfl)) (fun _ _ _ h => h) (Or.inl ⟨by rfl, ?_⟩) ?_ ?_
       rotate_left
       ·
        intro w'
        go_simp
        with_reducible rfl
       rotate_left
       ·
        simp only [Act.put, List.setIfInBounds_toArray, List.set_cons_zero, List.set_cons_succ, i64_w, i32_w]
        rfl
       refine pure_ (i := 3) (N := some 45) (v := ?_) (a' := ?_) #[F_,T_,T_,T_,F_,F_,F_,F_,F_,F_,F_,F_,F_] rfl rfl (any_of HT_.out (by kernel_rfl)) (fun _ _ _ h => h) (Or.inl ⟨by rfl, ?_⟩) ?_ ?_
       rotate_left
       ·
        intro w'
        go_simp
        with_reducible rfl
       rotate_left
       ·
        simp only [Act.put, List.setIfInBounds_toArray, List.set_cons_zero, List.set_cons_succ, i64_w, i32_w]
        rfl
       refine take_ (i := 0) (N := some 42) (v := ?_) (a' := ?_) #[T_,T_,T_,T_,F_,F_,F_,F_,F_,F_,F_,F_,F_] rfl rfl (take_ofW HT_.out HW_.out (by kernel_rfl)) (fun _ _ _ h => h) (Or.inl ⟨by rfl, ?_⟩) hHeld ?_ ?_
       rotate_left
       ·
        rintro w' ⟨s0, s1, s2⟩
        go_simp
        with_reducible rfl
       rotate_left
       ·
        simp only [Act.put, List.setIfInBounds_toArray, List.set_cons_zero, List.set_cons_succ, i64_w, i32_w]
        rfl
       refine take_ (i := 4) (N := some 46) (v := ?_) (a' := ?_) #[T_,T_,T_,T_,T_,F_,F_,F_,F_,F_,F_,F_,F_] rfl rfl (take_ofW HT_.out HW_.out (by kernel_rfl)) (fun _ _ _ h => h) (Or.inl ⟨by rfl, ?_⟩) hHeld ?_ ?_
       rotate_left
       ·
        rintro w' ⟨s0, s1, s2⟩
        go_simp
        with_reducible rfl
       rotate_left
       ·
        simp only [Act.put, List.setIfInBounds_toArray, List.set_cons_zero, List.set_cons_succ, i64_w, i32_w]
        rfl
       refine join_ (σ := Value × Value × Nat) 2 #[T_,T_,T_,T_,T_,T_,T_,T_,T_,T_,T_,F_,F_] (fun s_ => [(47, s_.1), (48, .tuple #[.agg #[s_.2.1, .int .i64 t323], .int .i64 t324]), (12, .pointer (some ⟨s_.2.2, 0, none⟩)), (41, .tuple #[.agg #[s_.2.1, .int .i64 t323], .int .i64 t324]), (49, .agg #[s_.2.1, .int .i64 t323]), (50, .int .i64 t324)]) (fun s_ w' => (w'.cell? ⟨gb315, 0, none⟩ = some (.slice Ao35 x316000_1.length co35) ∧ w'.cell? ⟨gb315, 1, none⟩ = some (.int .i64 x316001_1) ∧ w'.cell? (ad316.add (x11_1).toNat) = some (.slice A316_0 (rd_L1 l1 x11_1).length c316_0)) ∧ (Kd.V (Kd.int .u8) 5 w' w.heap.size (fun k_ => ((P0_0_ k_ ∨ P1_ k_) ∨ w.heap.size ≤ k_) ∧ some k_ ≠ (s_.1 : Value).ownBlock ∧ some k_ ≠ (.slice Ao15 t304.length co15 : Value).ownBlock ∧ k_ ≠ gb301 ∧ k_ ≠ gb308 ∧ k_ ≠ gb314 ∧ k_ ≠ gb315 ∧ k_ ≠ s_.2.2) (.slice A316_0 (rd_L1 l1 x11_1).length c316_0) (rd_L1 l1 x11_1)) ∧ (Kd.N (Kd.slice 5 (Kd.int .u8)) 23 w' w.heap.size (fun k_ => ((P0_0_ k_ ∨ P1_ k_) ∨ w.heap.size ≤ k_) ∧ some k_ ≠ (.slice Ao15 t304.length co15 : Value).ownBlock ∧ k_ ≠ gb301 ∧ k_ ≠ gb308 ∧ k_ ≠ gb314 ∧ k_ ≠ gb315 ∧ k_ ≠ s_.2.2) s_.1 y317) ∧ (Kd.V (Kd.int .u8) 5 w' w.heap.size (fun k_ => ((P0_0_ k_ ∨ P1_ k_) ∨ w.heap.size ≤ k_) ∧ some k_ ≠ (s_.1 : Value).ownBlock ∧ some k_ ≠ (.slice Ao15 t304.length co15 : Value).ownBlock ∧ k_ ≠ gb301 ∧ k_ ≠ gb308 ∧ k_ ≠ gb314 ∧ k_ ≠ gb315 ∧ k_ ≠ s_.2.2) s_.2.1 t320) ∧ (Kd.V (Kd.slice 5 (Kd.int .u8)) 23 w' w.heap.size (fun k_ => ((P0_0_ k_ ∨ P1_ k_) ∨ w.heap.size ≤ k_) ∧ some k_ ≠ (s_.1 : Value).ownBlock ∧ some k_ ≠ (.slice Ao15 t304.length co15 : Value).ownBlock ∧ k_ ≠ gb301 ∧ k_ ≠ gb308 ∧ k_ ≠ gb314 ∧ k_ ≠ gb315 ∧ k_ ≠ s_.2.2) (.slice (some ad316) l1.length c1) l1) ∧ (Kd.V (Kd.int .u8) 5 w' w.heap.size (fun k_ => ((P0_0_ k_ ∨ P1_ k_) ∨ w.heap.size ≤ k_) ∧ some k_ ≠ (s_.1 : Value).ownBlock ∧ some k_ ≠ (.slice Ao15 t304.length co15 : Value).ownBlock ∧ k_ ≠ gb301 ∧ k_ ≠ gb308 ∧ k_ ≠ gb314 ∧ k_ ≠ gb315 ∧ k_ ≠ s_.2.2) (.slice A0_0 l0_0.length c0_0) l0_0) ∧ (Kd.R (Kd.int .u8) 5 w' w.heap.size (fun k_ => (w.heap.size ≤ k_)) (.slice Ao15 t304.length co15) t304) ∧ (Kd.V (Kd.int .u8) 5 w' w.heap.size (fun k_ => ((P0_0_ k_ ∨ P1_ k_) ∨ w.heap.size ≤ k_) ∧ some k_ ≠ (s_.1 : Value).ownBlock ∧ some k_ ≠ (.slice Ao15 t304.length co15 : Value).ownBlock ∧ k_ ≠ gb301 ∧ k_ ≠ gb308 ∧ k_ ≠ gb314 ∧ k_ ≠ gb315 ∧ k_ ≠ s_.2.2) (.slice Ao21 t309.length co21) t309) ∧ (Kd.V (Kd.int .u8) 5 w' w.heap.size (fun k_ => ((P0_0_ k_ ∨ P1_ k_) ∨ w.heap.size ≤ k_) ∧ some k_ ≠ (s_.1 : Value).ownBlock ∧ some k_ ≠ (.slice Ao15 t304.length co15 : Value).ownBlock ∧ k_ ≠ gb301 ∧ k_ ≠ gb308 ∧ k_ ≠ gb314 ∧ k_ ≠ gb315 ∧ k_ ≠ s_.2.2) (.slice Ao35 x316000_1.length co35) x316000_1) ∧ (w'.heap[gb301]? = some (.cells #[.slice A0_0 l0_0.length c0_0, .int .i64 a0_1] 26 (0, 0))) ∧ (w'.heap[gb308]? = some (.cells #[.slice Ao15 t304.length co15, .int .i64 t307] 26 (0, 0))) ∧ (w'.heap[gb314]? = some (.cells #[.slice Ao21 t309.length co21, .int .i64 t312] 26 (0, 0))) ∧ (w'.heap[gb315]? = some (.cells #[.slice Ao35 x316000_1.length co35, .int .i64 x316001_1] 26 (0, 0))) ∧ (w'.heap[s_.2.2]? = some (.cells #[.slice none 0 0, .int .i64 0] 26 (0, 0))) ∧ (w.heap.size ≤ s_.2.2) ∧ (w.heap.size ≤ s_.2.2) ∧ (gb301 ≠ s_.2.2) ∧ (s_.2.2 ≠ gb301) ∧ (gb308 ≠ s_.2.2) ∧ (s_.2.2 ≠ gb308) ∧ (gb314 ≠ s_.2.2) ∧ (s_.2.2 ≠ gb314) ∧ (gb315 ≠ s_.2.2) ∧ (s_.2.2 ≠ gb315) ∧ (Below w.heap.size w w')) ?_ ?_
       rotate_left
       ·
        intro hCont
        refine two_ (i := 5) (j := 10) (Ni := some 47) (Nj := some 12) #[T_,T_,T_,T_,T_,T_,F_,F_,F_,F_,F_,F_,F_] #[T_,T_,T_,T_,T_,F_,F_,F_,F_,F_,T_,F_,F_] rfl rfl rfl rfl (two_of HT_.out (by kernel_rfl)) (by decide) (by decide) (fun K hK => ?_) (fun K hK => ?_)
        ·
         skip
         refine Kd.N_lit_step (Kd.slice 5 (Kd.int .u8)) _ 23 ?hg (N' := 47) ?hd (xs := ([rd_L1 l1 x11_1] : List (List Int))) (inner := [.slice A316_0 (rd_L1 l1 x11_1).length c316_0]) (ok := (fun k_ => ((P0_0_ k_ ∨ P1_ k_) ∨ w.heap.size ≤ k_) ∧ some k_ ≠ (.slice Ao15 t304.length co15 : Value).ownBlock ∧ k_ ≠ gb301 ∧ k_ ≠ gb308 ∧ k_ ≠ gb314 ∧ k_ ≠ gb315)) (okp := (fun k_ => ((P0_0_ k_ ∨ P1_ k_) ∨ w.heap.size ≤ k_) ∧ some k_ ≠ (.slice Ao15 t304.length co15 : Value).ownBlock ∧ k_ ≠ gb301 ∧ k_ ≠ gb308 ∧ k_ ≠ gb314 ∧ k_ ≠ gb315)) ?hr ?hp (fun _ hk => hk) ((show ∀ k_, w36.heap.size ≤ k_ → (fun k_ => ((P0_0_ k_ ∨ P1_ k_) ∨ w.heap.size ≤ k_) ∧ some k_ ≠ (.slice Ao15 t304.length co15 : Value).ownBlock ∧ k_ ≠ gb301 ∧ k_ ≠ gb308 ∧ k_ ≠ gb314 ∧ k_ ≠ gb315) k_ from fun k_ hk => ⟨(.inr (Nat.le_trans (below_size (by repeat (first | (with_reducible first | exact HB.out | apply bA | apply bN | apply bD | refine bS ?_ GE301.out | refine bS ?_ GE308.out | refine bS ?_ GE314.out | refine bS ?_ GE315.out) | exact HB.out))) hk)), Kd.fresh' (Kd.R_lt (rU HOq1.out)) k_ hk, Kd.freshB (g := gb301) (o := .cells #[.slice A0_0 l0_0.length c0_0, .int .i64 a0_1] 26 (0, 0)) (bU BK301.out) k_ hk, Kd.freshB (g := gb308) (o := .cells #[.slice Ao15 t304.length co15, .int .i64 t307] 26 (0, 0)) (bU BK308.out) k_ hk, Kd.freshB (g := gb314) (o := .cells #[.slice Ao21 t309.length co21, .int .i64 t312] 26 (0, 0)) (bU BK314.out) k_ hk, Kd.freshB (g := gb315) (o := .cells #[.slice Ao35 x316000_1.length co35, .int .i64 x316001_1] 26 (0, 0)) (bU BK315.out) k_ hk⟩) _ (Nat.le_refl _)) (Below.refl _ _) (Nat.le_refl _) (by simp) ?_; (case hd => rfl); (case hg => rfl); (case hr => first | (go_simp; done) | (go_simp; rfl)); (case hp => exact (Reps.one (show Kd.FK (Kd.slice 5 (Kd.int .u8)) _ _ (rd_L1 l1 x11_1) [.slice A316_0 (rd_L1 l1 x11_1).length c316_0] from (Kd.FK_slice_mk (Kd.V_reads' (Kd.V_mono (ok' := (fun k_ => ((P0_0_ k_ ∨ P1_ k_) ∨ w.heap.size ≤ k_) ∧ some k_ ≠ (.slice Ao15 t304.length co15 : Value).ownBlock ∧ k_ ≠ gb301 ∧ k_ ≠ gb308 ∧ k_ ≠ gb314 ∧ k_ ≠ gb315)) (HLq0.out) (fun k_ hk => ⟨hk.1, ⟨hk.2.1, ⟨hk.2.2.1, ⟨hk.2.2.2.1, ⟨hk.2.2.2.2.1, hk.2.2.2.2.2⟩⟩⟩⟩⟩))).2.1 (Kd.V_F (Kd.V_mono (ok' := (fun k_ => ((P0_0_ k_ ∨ P1_ k_) ∨ w.heap.size ≤ k_) ∧ some k_ ≠ (.slice Ao15 t304.length co15 : Value).ownBlock ∧ k_ ≠ gb301 ∧ k_ ≠ gb308 ∧ k_ ≠ gb314 ∧ k_ ≠ gb315)) (HLq0.out) (fun k_ hk => ⟨hk.1, ⟨hk.2.1, ⟨hk.2.2.1, ⟨hk.2.2.2.1, ⟨hk.2.2.2.2.1, hk.2.2.2.2.2⟩⟩⟩⟩⟩))))) (Reps.none _ _)))
         intro v318 w37 ho38 hb hg_ hnew_
         have HS2_ := (hb.cell (World.block_lt_of_cell? _ _ (hHeld.2.2))).trans (hHeld.2.2)
         clear hg_ hnew_
         (first | rw [← Ny317.out] at ho38 | (simp only [Int.reduceToNat] at ho38; rw [← Ny317.out] at ho38))
         have n0_ := aM (Kd.V_elder' (vU HO_1.out) (Kd.N_base ho38) hb)
         have n1_ := aM (Kd.V_elder' (vU HOq0.out) (Kd.N_base ho38) hb)
         have n2_ := aM (Kd.R_below (rU HOq1.out) hb)
         have n3_ := aM (Kd.V_elder' (vU HOq3.out) (Kd.N_base ho38) hb)
         have n4_ := aM (Kd.V_elder' (vU HOq2.out) (Kd.N_base ho38) hb)
         have n5_ := aM (Kd.V_elder' (vU HLq0.out) (Kd.N_base ho38) hb)
         have n6_ := aM (Kd.N_lower ho38 (below_size (by repeat (first | (with_reducible first | exact HB.out | apply bA | apply bN | apply bD | refine bS ?_ GE301.out | refine bS ?_ GE308.out | refine bS ?_ GE314.out | refine bS ?_ GE315.out) | exact HB.out))))
         have n7_ := aM (kB (g := gb301) (o := .cells #[.slice A0_0 l0_0.length c0_0, .int .i64 a0_1] 26 (0, 0)) (bU BK301.out) hb)
         have n8_ := aM (kB (g := gb308) (o := .cells #[.slice Ao15 t304.length co15, .int .i64 t307] 26 (0, 0)) (bU BK308.out) hb)
         have n9_ := aM (kB (g := gb314) (o := .cells #[.slice Ao21 t309.length co21, .int .i64 t312] 26 (0, 0)) (bU BK314.out) hb)
         have n10_ := aM (kB (g := gb315) (o := .cells #[.slice Ao35 x316000_1.length co35, .int .i64 x316001_1] 26 (0, 0)) (bU BK315.out) hb)
         have n11_ := aM (Kd.C_below (by repeat (first | (with_reducible exact HRq0.out) | (with_reducible refine Kd.C_alloc ?_ _) | (with_reducible refine Kd.C_drewN ?_ _) | (with_reducible refine Kd.C_drew ?_) | exact HRq0.out)) hb)
         have n12_ := aM (below_step (by repeat (first | (with_reducible first | exact HB.out | apply bA | apply bN | apply bD | refine bS ?_ GE301.out | refine bS ?_ GE308.out | refine bS ?_ GE314.out | refine bS ?_ GE315.out) | exact HB.out)) hb)
         clear HO_1
         clear HOq0
         clear HOq1
         clear HOq3
         clear HOq2
         clear HLq0
         clear BK301
         clear BK308
         clear BK314
         clear BK315
         clear HRq0
         clear HB
         have HO_1 := n0_
         have HOq0 := n1_
         have HOq1 := n2_
         have HOq3 := n3_
         have HOq2 := n4_
         have HLq0 := n5_
         have HO319 := n6_
         have BK301 := n7_
         have BK308 := n8_
         have BK314 := n9_
         have BK315 := n10_
         have HRq0 := n11_
         have HB := n12_
         clear n0_ n1_ n2_ n3_ n4_ n5_ n6_ n7_ n8_ n9_ n10_ n11_ n12_
         clear hb ho38
         obtain ⟨Ao39, co39, eo39⟩ := Kd.N_slice HO319.out
         (first | subst eo39 | (injection eo39 with f1_ f2_ f3_; have f4_ := f1_.symm; have f5_ := f3_.symm; clear f1_ f2_ f3_; subst f4_; subst f5_))
         refine hK.out _ _ ⟨(kC BK315.out 0).trans rfl, (kC BK315.out 1).trans rfl, HS2_⟩ (fun hHeld => ?_)
         clear hK K
         refine norm_ (a' := ?_) ?_ ?_
         rotate_left
         ·
          show Act.put _ (some 47) _ = _
          simp only [Act.put, List.setIfInBounds_toArray, List.set_cons_zero, List.set_cons_succ, i64_w, i32_w]
          rfl
         refine two_ (i := 6) (j := 10) (Ni := some 48) (Nj := some 12) #[T_,T_,T_,T_,T_,T_,T_,F_,F_,F_,F_,F_,F_] #[T_,T_,T_,T_,T_,T_,F_,F_,F_,F_,T_,F_,F_] rfl rfl rfl rfl (two_of HT_.out (by kernel_rfl)) (by decide) (by decide) (fun K hK => ?_) (fun K hK => ?_)
         ·
          skip
          refine goes_ Try.func10 (by kernel_rfl) rfl #[.agg #[.slice Ao35 x316000_1.length co35, .int .i64 x316001_1], .slice Ao39 y317.length co39] (by rfl) rfl rfl (by (try simp only [List.map_toArray, List.map_cons, List.map_nil]); first | done | rfl | (simp only [List.length_drop, List.length_take]; rfl)) ?_
          with_reducible refine (wal_Append.calls _ _ x316000_1 x316001_1 _ _ y317 t320 t323 t324 _ ?side1 ?side2 ?side3 ?side4 A34.out).mono ?_
          (case side1 => repeat (first | exact (Kd.V_reads' HOq2.out).2.2 | (with_reducible refine Kd.C_alloc ?_ _) | (with_reducible refine Kd.C_drewN ?_ _) | (with_reducible refine Kd.C_drew ?_)))
          (case side2 => exact (Kd.V_reads' HOq2.out).2.1)
          (case side3 => repeat (first | exact (Kd.N_reads' HO319.out).2.2 | (with_reducible refine Kd.C_alloc ?_ _) | (with_reducible refine Kd.C_drewN ?_ _) | (with_reducible refine Kd.C_drew ?_)))
          (case side4 => exact (Kd.N_reads' HO319.out).2.1)
          rintro e w40 ⟨v321, rfl, ho0, hb⟩
          have HS2_ := (hb.cell (World.block_lt_of_cell? _ _ (hHeld.2.2))).trans (hHeld.2.2)
          refine ⟨_, rfl, ?_⟩
          have n0_ := aM (vB (vU HO_1.out) hb)
          have n1_ := aM (vB (vU HOq0.out) hb)
          have n2_ := aM (Kd.R_below (rU HOq1.out) hb)
          have n3_ := aM (vB (vU HOq3.out) hb)
          have n4_ := aM (vB (vU HOq2.out) hb)
          have n5_ := aM (vB (vU HLq0.out) hb)
          have n6_ := aM (Kd.N_below (nU HO319.out) hb)
          have n7_ := aM (Kd.V_lower (Kd.V_mono (ok' := fun k_ => ((P0_0_ k_ ∨ P1_ k_) ∨ w.heap.size ≤ k_) ∧ some k_ ≠ (.slice Ao15 t304.length co15 : Value).ownBlock ∧ some k_ ≠ (.slice Ao39 y317.length co39 : Value).ownBlock ∧ k_ ≠ gb301 ∧ k_ ≠ gb308 ∧ k_ ≠ gb314 ∧ k_ ≠ gb315) ho0 (fun k_ hk_ => ⟨(.inr (Nat.le_trans (below_size (by repeat (first | (with_reducible first | exact HB.out | apply bA | apply bN | apply bD | refine bS ?_ GE301.out | refine bS ?_ GE308.out | refine bS ?_ GE314.out | refine bS ?_ GE315.out) | exact HB.out))) hk_)), (Kd.fresh' (Kd.R_lt (rU HOq1.out)) k_ hk_), (Kd.fresh' (Kd.N_lt (nU HO319.out)) k_ hk_), (Kd.freshB (g := gb301) (o := .cells #[.slice A0_0 l0_0.length c0_0, .int .i64 a0_1] 26 (0, 0)) (bU BK301.out) k_ hk_), (Kd.freshB (g := gb308) (o := .cells #[.slice Ao15 t304.length co15, .int .i64 t307] 26 (0, 0)) (bU BK308.out) k_ hk_), (Kd.freshB (g := gb314) (o := .cells #[.slice Ao21 t309.length co21, .int .i64 t312] 26 (0, 0)) (bU BK314.out) k_ hk_), (Kd.freshB (g := gb315) (o := .cells #[.slice Ao35 x316000_1.length co35, .int .i64 x316001_1] 26 (0, 0)) (bU BK315.out) k_ hk_)⟩)) (below_size (by repeat (first | (with_reducible first | exact HB.out | apply bA | apply bN | apply bD | refine bS ?_ GE301.out | refine bS ?_ GE308.out | refine bS ?_ GE314.out | refine bS ?_ GE315.out) | exact HB.out))))
          have n8_ := aM (kB (g := gb301) (o := .cells #[.slice A0_0 l0_0.length c0_0, .int .i64 a0_1] 26 (0, 0)) (bU BK301.out) hb)
          have n9_ := aM (kB (g := gb308) (o := .cells #[.slice Ao15 t304.length co15, .int .i64 t307] 26 (0, 0)) (bU BK308.out) hb)
          have n10_ := aM (kB (g := gb314) (o := .cells #[.slice Ao21 t309.length co21, .int .i64 t312] 26 (0, 0)) (bU BK314.out) hb)
          have n11_ := aM (kB (g := gb315) (o := .cells #[.slice Ao35 x316000_1.length co35, .int .i64 x316001_1] 26 (0, 0)) (bU BK315.out) hb)
          have n12_ := aM (Kd.C_below (by repeat (first | (with_reducible exact HRq0.out) | (with_reducible refine Kd.C_alloc ?_ _) | (with_reducible refine Kd.C_drewN ?_ _) | (with_reducible refine Kd.C_drew ?_) | exact HRq0.out)) hb)
          have n13_ := aM (below_step (by repeat (first | (with_reducible first | exact HB.out | apply bA | apply bN | apply bD | refine bS ?_ GE301.out | refine bS ?_ GE308.out | refine bS ?_ GE314.out | refine bS ?_ GE315.out) | exact HB.out)) hb)
          clear HO_1
          clear HOq0
          clear HOq1
          clear HOq3
          clear HOq2
          clear HLq0
          clear HO319
          clear BK301
          clear BK308
          clear BK314
          clear BK315
          clear HRq0
          clear HB
          have HO_1 := n0_
          have HOq0 := n1_
          have HOq1 := n2_
          have HOq3 := n3_
          have HOq2 := n4_
          have HLq0 := n5_
          have HO319 := n6_
          have HO322 := n7_
          have BK301 := n8_
          have BK308 := n9_
          have BK314 := n10_
          have BK315 := n11_
          have HRq0 := n12_
          have HB := n13_
          clear n0_ n1_ n2_ n3_ n4_ n5_ n6_ n7_ n8_ n9_ n10_ n11_ n12_ n13_
          (try clear hb)
          (try clear hb2)
          (try clear hk)
          (try clear hi)
          (try clear ho0)
          refine hK.out _ _ ⟨(kC BK315.out 0).trans rfl, (kC BK315.out 1).trans rfl, HS2_⟩ (fun hHeld => ?_)
          clear hK K
          refine norm_ (a' := ?_) ?_ ?_
          rotate_left
          ·
           show Act.put _ (some 48) _ = _
           simp only [Act.put, List.setIfInBounds_toArray, List.set_cons_zero, List.set_cons_succ, i64_w, i32_w]
           rfl
          refine pure_ (i := 7) (N := some 41) (v := ?_) (a' := ?_) #[T_,T_,T_,T_,T_,T_,T_,T_,F_,F_,F_,F_,F_] rfl rfl (any_of HT_.out (by kernel_rfl)) (fun _ _ _ h => h) (Or.inl ⟨by rfl, ?_⟩) ?_ ?_
          rotate_left
          ·
           intro w'
           go_simp
           with_reducible rfl
          rotate_left
          ·
           simp only [Act.put, List.setIfInBounds_toArray, List.set_cons_zero, List.set_cons_succ, i64_w, i32_w]
           rfl
          refine pure_ (i := 8) (N := some 49) (v := ?_) (a' := ?_) #[T_,T_,T_,T_,T_,T_,T_,T_,T_,F_,F_,F_,F_] rfl rfl (any_of HT_.out (by kernel_rfl)) (fun _ _ _ h => h) (Or.inl ⟨by rfl, ?_⟩) ?_ ?_
          rotate_left
          ·
           intro w'
           go_simp
           with_reducible rfl
          rotate_left
          ·
           simp only [Act.put, List.setIfInBounds_toArray, List.set_cons_zero, List.set_cons_succ, i64_w, i32_w]
           rfl
          refine pure_ (i := 9) (N := some 50) (v := ?_) (a' := ?_) #[T_,T_,T_,T_,T_,T_,T_,T_,T_,T_,F_,F_,F_] rfl rfl (any_of HT_.out (by kernel_rfl)) (fun _ _ _ h => h) (Or.inl ⟨by rfl, ?_⟩) ?_ ?_
          rotate_left
          ·
           intro w'
           go_simp
           with_reducible rfl
          rotate_left
          ·
           simp only [Act.put, List.setIfInBounds_toArray, List.set_cons_zero, List.set_cons_succ, i64_w, i32_w]
           rfl
          refine one_ (i := 10) (N := some 12) #[T_,T_,T_,T_,T_,T_,T_,T_,T_,T_,T_,F_,F_] rfl rfl (one_of HT_.out (by kernel_rfl)) (by decide) (fun K hK => ?_)
          refine box_step ?hg (N := 12) ?hd (cs := #[.slice none 0 0, .int .i64 0]) (t := 26) ?hr ?_; (case hd => rfl); (case hg => rfl); (case hr => first | (go_simp; done) | (go_simp; rfl))
          intro gb325 hg w41 hbox hb
          have HS2_ := (hb.cell (World.block_lt_of_cell? _ _ (hHeld.2.2))).trans (hHeld.2.2)
          have n0_ := aM (vB (vE (vU HO_1.out) gb325 (Nat.le_of_eq hg.symm)) hb)
          have n1_ := aM (vB (vE (vU HOq0.out) gb325 (Nat.le_of_eq hg.symm)) hb)
          have n2_ := aM (Kd.R_below (rU HOq1.out) hb)
          have n3_ := aM (vB (vE (vU HOq3.out) gb325 (Nat.le_of_eq hg.symm)) hb)
          have n4_ := aM (vB (vE (vU HOq2.out) gb325 (Nat.le_of_eq hg.symm)) hb)
          have n5_ := aM (vB (vE (vU HLq0.out) gb325 (Nat.le_of_eq hg.symm)) hb)
          have n6_ := aM (Kd.N_below (Kd.N_elderB (nU HO319.out) gb325 (Nat.le_of_eq hg.symm)) hb)
          have n7_ := aM (vB (vE (vU HO322.out) gb325 (Nat.le_of_eq hg.symm)) hb)
          have n8_ := aM (kB (g := gb301) (o := .cells #[.slice A0_0 l0_0.length c0_0, .int .i64 a0_1] 26 (0, 0)) (bU BK301.out) hb)
          have n9_ := aM (kB (g := gb308) (o := .cells #[.slice Ao15 t304.length co15, .int .i64 t307] 26 (0, 0)) (bU BK308.out) hb)
          have n10_ := aM (kB (g := gb314) (o := .cells #[.slice Ao21 t309.length co21, .int .i64 t312] 26 (0, 0)) (bU BK314.out) hb)
          have n11_ := aM (kB (g := gb315) (o := .cells #[.slice Ao35 x316000_1.length co35, .int .i64 x316001_1] 26 (0, 0)) (bU BK315.out) hb)
          have n12_ := aM (Kd.C_below (by repeat (first | (with_reducible exact HRq0.out) | (with_reducible refine Kd.C_alloc ?_ _) | (with_reducible refine Kd.C_drewN ?_ _) | (with_reducible refine Kd.C_drew ?_) | exact HRq0.out)) hb)
          have n13_ := aM (below_step (by repeat (first | (with_reducible first | exact HB.out | apply bA | apply bN | apply bD | refine bS ?_ GE301.out | refine bS ?_ GE308.out | refine bS ?_ GE314.out | refine bS ?_ GE315.out) | exact HB.out)) hb)
          have n14_ := aM (hbox)
          have n15_ := aM ((by rw [hg]; exact (below_size (by repeat (first | (with_reducible first | exact HB.out | apply bA | apply bN | apply bD | refine bS ?_ GE301.out | refine bS ?_ GE308.out | refine bS ?_ GE314.out | refine bS ?_ GE315.out) | exact HB.out))) : w.heap.size ≤ gb325))
          have n16_ := aM ((by rw [hg]; exact (below_size (by repeat (first | (with_reducible first | exact HB.out | apply bA | apply bN | apply bD | refine bS ?_ GE301.out | refine bS ?_ GE308.out | refine bS ?_ GE314.out | refine bS ?_ GE315.out) | exact HB.out))) : w.heap.size ≤ gb325))
          have n17_ := aM ((by rw [hg]; exact Nat.ne_of_lt (blk_lt (g := gb301) (o := .cells #[.slice A0_0 l0_0.length c0_0, .int .i64 a0_1] 26 (0, 0)) (bU BK301.out)) : gb301 ≠ gb325))
          have n18_ := aM ((by rw [hg]; exact Nat.ne_of_gt (blk_lt (g := gb301) (o := .cells #[.slice A0_0 l0_0.length c0_0, .int .i64 a0_1] 26 (0, 0)) (bU BK301.out)) : gb325 ≠ gb301))
          have n19_ := aM ((by rw [hg]; exact Nat.ne_of_lt (blk_lt (g := gb308) (o := .cells #[.slice Ao15 t304.length co15, .int .i64 t307] 26 (0, 0)) (bU BK308.out)) : gb308 ≠ gb325))
          have n20_ := aM ((by rw [hg]; exact Nat.ne_of_gt (blk_lt (g := gb308) (o := .cells #[.slice Ao15 t304.length co15, .int .i64 t307] 26 (0, 0)) (bU BK308.out)) : gb325 ≠ gb308))
          have n21_ := aM ((by rw [hg]; exact Nat.ne_of_lt (blk_lt (g := gb314) (o := .cells #[.slice Ao21 t309.length co21, .int .i64 t312] 26 (0, 0)) (bU BK314.out)) : gb314 ≠ gb325))
          have n22_ := aM ((by rw [hg]; exact Nat.ne_of_gt (blk_lt (g := gb314) (o := .cells #[.slice Ao21 t309.length co21, .int .i64 t312] 26 (0, 0)) (bU BK314.out)) : gb325 ≠ gb314))
          have n23_ := aM ((by rw [hg]; exact Nat.ne_of_lt (blk_lt (g := gb315) (o := .cells #[.slice Ao35 x316000_1.length co35, .int .i64 x316001_1] 26 (0, 0)) (bU BK315.out)) : gb315 ≠ gb325))
          have n24_ := aM ((by rw [hg]; exact Nat.ne_of_gt (blk_lt (g := gb315) (o := .cells #[.slice Ao35 x316000_1.length co35, .int .i64 x316001_1] 26 (0, 0)) (bU BK315.out)) : gb325 ≠ gb315))
          clear HO_1
          clear HOq0
          clear HOq1
          clear HOq3
          clear HOq2
          clear HLq0
          clear HO319
          clear HO322
          clear BK301
          clear BK308
          clear BK314
          clear BK315
          clear HRq0
          clear HB
          have HO_1 := n0_
          have HOq0 := n1_
          have HOq1 := n2_
          have HOq3 := n3_
          have HOq2 := n4_
          have HLq0 := n5_
          have HO319 := n6_
          have HO322 := n7_
          have BK301 := n8_
          have BK308 := n9_
          have BK314 := n10_
          have BK315 := n11_
          have HRq0 := n12_
          have HB := n13_
          have BK325 := n14_
          have GW325 := n15_
          have GE325 := n16_
          have NBq14 := n17_
          have NBq23 := n18_
          have NBq15 := n19_
          have NBq24 := n20_
          have NBq16 := n21_
          have NBq25 := n22_
          have NBq2 := n23_
          have NBq26 := n24_
          clear n0_ n1_ n2_ n3_ n4_ n5_ n6_ n7_ n8_ n9_ n10_ n11_ n12_ n13_ n14_ n15_ n16_ n17_ n18_ n19_ n20_ n21_ n22_ n23_ n24_
          clear hb hbox hg
          refine hK.out _ _ ⟨(kC BK315.out 0).trans rfl, (kC BK315.out 1).trans rfl, HS2_⟩ (fun hHeld => ?_)
          clear hK K
          refine norm_ (a' := ?_) ?_ ?_
          rotate_left
          ·
           show Act.put _ (some 12) _ = _
           simp only [Act.put, List.setIfInBounds_toArray, List.set_cons_zero, List.set_cons_succ, i64_w, i32_w]
           rfl
          exact norm_ (by simp only [putAll, Act.put, List.setIfInBounds_toArray, List.set_cons_zero, List.set_cons_succ]) (hCont (.slice Ao39 y317.length co39, v321, gb325) _ ⟨hHeld, (by (with_reducible repeat (first | apply Kd.V_alloc | apply Kd.V_drewN | apply Kd.V_drew)); exact Kd.V_mono HLq0.out (fun _ hk => ⟨hk.1.1.1, ⟨hk.1.2, ⟨hk.1.1.2.1, ⟨hk.1.1.2.2.1, ⟨hk.1.1.2.2.2.1, ⟨hk.1.1.2.2.2.2.1, ⟨hk.1.1.2.2.2.2.2, hk.2⟩⟩⟩⟩⟩⟩⟩)), (by (with_reducible repeat (first | apply Kd.N_alloc | apply Kd.N_drewN | apply Kd.N_drew)); exact Kd.N_mono HO319.out (fun _ hk => ⟨hk.1.1, ⟨hk.1.2.1, ⟨hk.1.2.2.1, ⟨hk.1.2.2.2.1, ⟨hk.1.2.2.2.2.1, ⟨hk.1.2.2.2.2.2, hk.2⟩⟩⟩⟩⟩⟩)), (by (with_reducible repeat (first | apply Kd.V_alloc | apply Kd.V_drewN | apply Kd.V_drew)); exact Kd.V_mono HO322.out (fun _ hk => ⟨hk.1.1, ⟨hk.1.2.2.1, ⟨hk.1.2.1, ⟨hk.1.2.2.2.1, ⟨hk.1.2.2.2.2.1, ⟨hk.1.2.2.2.2.2.1, ⟨hk.1.2.2.2.2.2.2, hk.2⟩⟩⟩⟩⟩⟩⟩)), (by (with_reducible repeat (first | apply Kd.V_alloc | apply Kd.V_drewN | apply Kd.V_drew)); exact Kd.V_mono HO_1.out (fun _ hk => ⟨hk.1.1.1, ⟨hk.1.2, ⟨hk.1.1.2.1, ⟨hk.1.1.2.2.1, ⟨hk.1.1.2.2.2.1, ⟨hk.1.1.2.2.2.2.1, ⟨hk.1.1.2.2.2.2.2, hk.2⟩⟩⟩⟩⟩⟩⟩)), (by (with_reducible repeat (first | apply Kd.V_alloc | apply Kd.V_drewN | apply Kd.V_drew)); exact Kd.V_mono HOq0.out (fun _ hk => ⟨hk.1.1.1, ⟨hk.1.2, ⟨hk.1.1.2.1, ⟨hk.1.1.2.2.1, ⟨hk.1.1.2.2.2.1, ⟨hk.1.1.2.2.2.2.1, ⟨hk.1.1.2.2.2.2.2, hk.2⟩⟩⟩⟩⟩⟩⟩)), (rU HOq1.out), (by (with_reducible repeat (first | apply Kd.V_alloc | apply Kd.V_drewN | apply Kd.V_drew)); exact Kd.V_mono HOq3.out (fun _ hk => ⟨hk.1.1.1, ⟨hk.1.2, ⟨hk.1.1.2.1, ⟨hk.1.1.2.2.1, ⟨hk.1.1.2.2.2.1, ⟨hk.1.1.2.2.2.2.1, ⟨hk.1.1.2.2.2.2.2, hk.2⟩⟩⟩⟩⟩⟩⟩)), (by (with_reducible repeat (first | apply Kd.V_alloc | apply Kd.V_drewN | apply Kd.V_drew)); exact Kd.V_mono HOq2.out (fun _ hk => ⟨hk.1.1.1, ⟨hk.1.2, ⟨hk.1.1.2.1, ⟨hk.1.1.2.2.1, ⟨hk.1.1.2.2.2.1, ⟨hk.1.1.2.2.2.2.1, ⟨hk.1.1.2.2.2.2.2, hk.2⟩⟩⟩⟩⟩⟩⟩)), (bU BK301.out), (bU BK308.out), (bU BK314.out), (bU BK315.out), (bU BK325.out), GW325.out, GE325.out, NBq14.out, NBq23.out, NBq15.out, NBq24.out, NBq16.out, NBq25.out, NBq2.out, NBq26.out, (by repeat (first | (with_reducible first | exact HB.out | apply bA | apply bN | apply bD | refine bS ?_ GE301.out | refine bS ?_ GE308.out | refine bS ?_ GE314.out | refine bS ?_ GE315.out | refine bS ?_ GE325.out) | exact HB.out))⟩)
         ·
          skip
          refine box_step ?hg (N := 12) ?hd (cs := #[.slice none 0 0, .int .i64 0]) (t := 26) ?hr ?_; (case hd => rfl); (case hg => rfl); (case hr => first | (go_simp; done) | (go_simp; rfl))
          intro gb325 hg w39 hbox hb
          have HS2_ := (hb.cell (World.block_lt_of_cell? _ _ (hHeld.2.2))).trans (hHeld.2.2)
          have n0_ := aM (vB (vE (vU HO_1.out) gb325 (Nat.le_of_eq hg.symm)) hb)
          have n1_ := aM (vB (vE (vU HOq0.out) gb325 (Nat.le_of_eq hg.symm)) hb)
          have n2_ := aM (Kd.R_below (rU HOq1.out) hb)
          have n3_ := aM (vB (vE (vU HOq3.out) gb325 (Nat.le_of_eq hg.symm)) hb)
          have n4_ := aM (vB (vE (vU HOq2.out) gb325 (Nat.le_of_eq hg.symm)) hb)
          have n5_ := aM (vB (vE (vU HLq0.out) gb325 (Nat.le_of_eq hg.symm)) hb)
          have n6_ := aM (Kd.N_below (Kd.N_elderB (nU HO319.out) gb325 (Nat.le_of_eq hg.symm)) hb)
          have n7_ := aM (kB (g := gb301) (o := .cells #[.slice A0_0 l0_0.length c0_0, .int .i64 a0_1] 26 (0, 0)) (bU BK301.out) hb)
          have n8_ := aM (kB (g := gb308) (o := .cells #[.slice Ao15 t304.length co15, .int .i64 t307] 26 (0, 0)) (bU BK308.out) hb)
          have n9_ := aM (kB (g := gb314) (o := .cells #[.slice Ao21 t309.length co21, .int .i64 t312] 26 (0, 0)) (bU BK314.out) hb)
          have n10_ := aM (kB (g := gb315) (o := .cells #[.slice Ao35 x316000_1.length co35, .int .i64 x316001_1] 26 (0, 0)) (bU BK315.out) hb)
          have n11_ := aM (Kd.C_below (by repeat (first | (with_reducible exact HRq0.out) | (with_reducible refine Kd.C_alloc ?_ _) | (with_reducible refine Kd.C_drewN ?_ _) | (with_reducible refine Kd.C_drew ?_) | exact HRq0.out)) hb)
          have n12_ := aM (below_step (by repeat (first | (with_reducible first | exact HB.out | apply bA | apply bN | apply bD | refine bS ?_ GE301.out | refine bS ?_ GE308.out | refine bS ?_ GE314.out | refine bS ?_ GE315.out) | exact HB.out)) hb)
          have n13_ := aM (hbox)
          have n14_ := aM ((by rw [hg]; exact (below_size (by repeat (first | (with_reducible first | exact HB.out | apply bA | apply bN | apply bD | refine bS ?_ GE301.out | refine bS ?_ GE308.out | refine bS ?_ GE314.out | refine bS ?_ GE315.out) | exact HB.out))) : w.heap.size ≤ gb325))
          have n15_ := aM ((by rw [hg]; exact (below_size (by repeat (first | (with_reducible first | exact HB.out | apply bA | apply bN | apply bD | refine bS ?_ GE301.out | refine bS ?_ GE308.out | refine bS ?_ GE314.out | refine bS ?_ GE315.out) | exact HB.out))) : w.heap.size ≤ gb325))
          have n16_ := aM ((by rw [hg]; exact Nat.ne_of_lt (blk_lt (g := gb301) (o := .cells #[.slice A0_0 l0_0.length c0_0, .int .i64 a0_1] 26 (0, 0)) (bU BK301.out)) : gb301 ≠ gb325))
          have n17_ := aM ((by rw [hg]; exact Nat.ne_of_gt (blk_lt (g := gb301) (o := .cells #[.slice A0_0 l0_0.length c0_0, .int .i64 a0_1] 26 (0, 0)) (bU BK301.out)) : gb325 ≠ gb301))
          have n18_ := aM ((by rw [hg]; exact Nat.ne_of_lt (blk_lt (g := gb308) (o := .cells #[.slice Ao15 t304.length co15, .int .i64 t307] 26 (0, 0)) (bU BK308.out)) : gb308 ≠ gb325))
          have n19_ := aM ((by rw [hg]; exact Nat.ne_of_gt (blk_lt (g := gb308) (o := .cells #[.slice Ao15 t304.length co15, .int .i64 t307] 26 (0, 0)) (bU BK308.out)) : gb325 ≠ gb308))
          have n20_ := aM ((by rw [hg]; exact Nat.ne_of_lt (blk_lt (g := gb314) (o := .cells #[.slice Ao21 t309.length co21, .int .i64 t312] 26 (0, 0)) (bU BK314.out)) : gb314 ≠ gb325))
          have n21_ := aM ((by rw [hg]; exact Nat.ne_of_gt (blk_lt (g := gb314) (o := .cells #[.slice Ao21 t309.length co21, .int .i64 t312] 26 (0, 0)) (bU BK314.out)) : gb325 ≠ gb314))
          have n22_ := aM ((by rw [hg]; exact Nat.ne_of_lt (blk_lt (g := gb315) (o := .cells #[.slice Ao35 x316000_1.length co35, .int .i64 x316001_1] 26 (0, 0)) (bU BK315.out)) : gb315 ≠ gb325))
          have n23_ := aM ((by rw [hg]; exact Nat.ne_of_gt (blk_lt (g := gb315) (o := .cells #[.slice Ao35 x316000_1.length co35, .int .i64 x316001_1] 26 (0, 0)) (bU BK315.out)) : gb325 ≠ gb315))
          clear HO_1
          clear HOq0
          clear HOq1
          clear HOq3
          clear HOq2
          clear HLq0
          clear HO319
          clear BK301
          clear BK308
          clear BK314
          clear BK315
          clear HRq0
          clear HB
          have HO_1 := n0_
          have HOq0 := n1_
          have HOq1 := n2_
          have HOq3 := n3_
          have HOq2 := n4_
          have HLq0 := n5_
          have HO319 := n6_
          have BK301 := n7_
          have BK308 := n8_
          have BK314 := n9_
          have BK315 := n10_
          have HRq0 := n11_
          have HB := n12_
          have BK325 := n13_
          have GW325 := n14_
          have GE325 := n15_
          have NBq14 := n16_
          have NBq23 := n17_
          have NBq15 := n18_
          have NBq24 := n19_
          have NBq16 := n20_
          have NBq25 := n21_
          have NBq2 := n22_
          have NBq26 := n23_
          clear n0_ n1_ n2_ n3_ n4_ n5_ n6_ n7_ n8_ n9_ n10_ n11_ n12_ n13_ n14_ n15_ n16_ n17_ n18_ n19_ n20_ n21_ n22_ n23_
          clear hb hbox hg
          obtain ⟨Ao40, co40, eo40⟩ := Kd.N_slice HO319.out
          (first | subst eo40 | (injection eo40 with f1_ f2_ f3_; have f4_ := f1_.symm; have f5_ := f3_.symm; clear f1_ f2_ f3_; subst f4_; subst f5_))
          refine hK.out _ _ ⟨(kC BK315.out 0).trans rfl, (kC BK315.out 1).trans rfl, HS2_⟩ (fun hHeld => ?_)
          clear hK K
          refine norm_ (a' := ?_) ?_ ?_
          rotate_left
          ·
           show Act.put _ (some 12) _ = _
           simp only [Act.put, List.setIfInBounds_toArray, List.set_cons_zero, List.set_cons_succ, i64_w, i32_w]
           rfl
          refine one_ (i := 6) (N := some 48) #[T_,T_,T_,T_,T_,T_,T_,F_,F_,F_,T_,F_,F_] rfl rfl (one_of HT_.out (by kernel_rfl)) (by decide) (fun K hK => ?_)
          refine goes_ Try.func10 (by kernel_rfl) rfl #[.agg #[.slice Ao35 x316000_1.length co35, .int .i64 x316001_1], .slice Ao40 y317.length co40] (by rfl) rfl rfl (by (try simp only [List.map_toArray, List.map_cons, List.map_nil]); first | done | rfl | (simp only [List.length_drop, List.length_take]; rfl)) ?_
          with_reducible refine (wal_Append.calls _ _ x316000_1 x316001_1 _ _ y317 t320 t323 t324 _ ?side1 ?side2 ?side3 ?side4 A34.out).mono ?_
          (case side1 => repeat (first | exact (Kd.V_reads' HOq2.out).2.2 | (with_reducible refine Kd.C_alloc ?_ _) | (with_reducible refine Kd.C_drewN ?_ _) | (with_reducible refine Kd.C_drew ?_)))
          (case side2 => exact (Kd.V_reads' HOq2.out).2.1)
          (case side3 => repeat (first | exact (Kd.N_reads' HO319.out).2.2 | (with_reducible refine Kd.C_alloc ?_ _) | (with_reducible refine Kd.C_drewN ?_ _) | (with_reducible refine Kd.C_drew ?_)))
          (case side4 => exact (Kd.N_reads' HO319.out).2.1)
          rintro e w41 ⟨v321, rfl, ho0, hb⟩
          have HS2_ := (hb.cell (World.block_lt_of_cell? _ _ (hHeld.2.2))).trans (hHeld.2.2)
          refine ⟨_, rfl, ?_⟩
          have n0_ := aM (vB (vU HO_1.out) hb)
          have n1_ := aM (vB (vU HOq0.out) hb)
          have n2_ := aM (Kd.R_below (rU HOq1.out) hb)
          have n3_ := aM (vB (vU HOq3.out) hb)
          have n4_ := aM (vB (vU HOq2.out) hb)
          have n5_ := aM (vB (vU HLq0.out) hb)
          have n6_ := aM (Kd.N_below (nU HO319.out) hb)
          have n7_ := aM (Kd.V_lower (Kd.V_mono (ok' := fun k_ => ((P0_0_ k_ ∨ P1_ k_) ∨ w.heap.size ≤ k_) ∧ some k_ ≠ (.slice Ao15 t304.length co15 : Value).ownBlock ∧ some k_ ≠ (.slice Ao40 y317.length co40 : Value).ownBlock ∧ k_ ≠ gb301 ∧ k_ ≠ gb308 ∧ k_ ≠ gb314 ∧ k_ ≠ gb315 ∧ k_ ≠ gb325) ho0 (fun k_ hk_ => ⟨(.inr (Nat.le_trans (below_size (by repeat (first | (with_reducible first | exact HB.out | apply bA | apply bN | apply bD | refine bS ?_ GE301.out | refine bS ?_ GE308.out | refine bS ?_ GE314.out | refine bS ?_ GE315.out | refine bS ?_ GE325.out) | exact HB.out))) hk_)), (Kd.fresh' (Kd.R_lt (rU HOq1.out)) k_ hk_), (Kd.fresh' (Kd.N_lt (nU HO319.out)) k_ hk_), (Kd.freshB (g := gb301) (o := .cells #[.slice A0_0 l0_0.length c0_0, .int .i64 a0_1] 26 (0, 0)) (bU BK301.out) k_ hk_), (Kd.freshB (g := gb308) (o := .cells #[.slice Ao15 t304.length co15, .int .i64 t307] 26 (0, 0)) (bU BK308.out) k_ hk_), (Kd.freshB (g := gb314) (o := .cells #[.slice Ao21 t309.length co21, .int .i64 t312] 26 (0, 0)) (bU BK314.out) k_ hk_), (Kd.freshB (g := gb315) (o := .cells #[.slice Ao35 x316000_1.length co35, .int .i64 x316001_1] 26 (0, 0)) (bU BK315.out) k_ hk_), (Kd.freshB (g := gb325) (o := .cells #[.slice none 0 0, .int .i64 0] 26 (0, 0)) (bU BK325.out) k_ hk_)⟩)) (below_size (by repeat (first | (with_reducible first | exact HB.out | apply bA | apply bN | apply bD | refine bS ?_ GE301.out | refine bS ?_ GE308.out | refine bS ?_ GE314.out | refine bS ?_ GE315.out | refine bS ?_ GE325.out) | exact HB.out))))
          have n8_ := aM (kB (g := gb301) (o := .cells #[.slice A0_0 l0_0.length c0_0, .int .i64 a0_1] 26 (0, 0)) (bU BK301.out) hb)
          have n9_ := aM (kB (g := gb308) (o := .cells #[.slice Ao15 t304.length co15, .int .i64 t307] 26 (0, 0)) (bU BK308.out) hb)
          have n10_ := aM (kB (g := gb314) (o := .cells #[.slice Ao21 t309.length co21, .int .i64 t312] 26 (0, 0)) (bU BK314.out) hb)
          have n11_ := aM (kB (g := gb315) (o := .cells #[.slice Ao35 x316000_1.length co35, .int .i64 x316001_1] 26 (0, 0)) (bU BK315.out) hb)
          have n12_ := aM (Kd.C_below (by repeat (first | (with_reducible exact HRq0.out) | (with_reducible refine Kd.C_alloc ?_ _) | (with_reducible refine Kd.C_drewN ?_ _) | (with_reducible refine Kd.C_drew ?_) | exact HRq0.out)) hb)
          have n13_ := aM (kB (g := gb325) (o := .cells #[.slice none 0 0, .int .i64 0] 26 (0, 0)) (bU BK325.out) hb)
          have n14_ := aM (below_step (by repeat (first | (with_reducible first | exact HB.out | apply bA | apply bN | apply bD | refine bS ?_ GE301.out | refine bS ?_ GE308.out | refine bS ?_ GE314.out | refine bS ?_ GE315.out | refine bS ?_ GE325.out) | exact HB.out)) hb)
          clear HO_1
          clear HOq0
          clear HOq1
          clear HOq3
          clear HOq2
          clear HLq0
          clear HO319
          clear BK301
          clear BK308
          clear BK314
          clear BK315
          clear HRq0
          clear BK325
          clear HB
          have HO_1 := n0_
          have HOq0 := n1_
          have HOq1 := n2_
          have HOq3 := n3_
          have HOq2 := n4_
          have HLq0 := n5_
          have HO319 := n6_
          have HO322 := n7_
          have BK301 := n8_
          have BK308 := n9_
          have BK314 := n10_
          have BK315 := n11_
          have HRq0 := n12_
          have BK325 := n13_
          have HB := n14_
          clear n0_ n1_ n2_ n3_ n4_ n5_ n6_ n7_ n8_ n9_ n10_ n11_ n12_ n13_ n14_
          (try clear hb)
          (try clear hb2)
          (try clear hk)
          (try clear hi)
          (try clear ho0)
          refine hK.out _ _ ⟨(kC BK315.out 0).trans rfl, (kC BK315.out 1).trans rfl, HS2_⟩ (fun hHeld => ?_)
          clear hK K
          refine norm_ (a' := ?_) ?_ ?_
          rotate_left
          ·
           show Act.put _ (some 48) _ = _
           simp only [Act.put, List.setIfInBounds_toArray, List.set_cons_zero, List.set_cons_succ, i64_w, i32_w]
           rfl
          refine pure_ (i := 7) (N := some 41) (v := ?_) (a' := ?_) #[T_,T_,T_,T_,T_,T_,T_,T_,F_,F_,T_,F_,F_] rfl rfl (any_of HT_.out (by kernel_rfl)) (fun _ _ _ h => h) (Or.inl ⟨by rfl, ?_⟩) ?_ ?_
          rotate_left
          ·
           intro w'
           go_simp
           with_reducible rfl
          rotate_left
          ·
           simp only [Act.put, List.setIfInBounds_toArray, List.set_cons_zero, List.set_cons_succ, i64_w, i32_w]
           rfl
          refine pure_ (i := 8) (N := some 49) (v := ?_) (a' := ?_) #[T_,T_,T_,T_,T_,T_,T_,T_,T_,F_,T_,F_,F_] rfl rfl (any_of HT_.out (by kernel_rfl)) (fun _ _ _ h => h) (Or.inl ⟨by rfl, ?_⟩) ?_ ?_
          rotate_left
          ·
           intro w'
           go_simp
           with_reducible rfl
          rotate_left
          ·
           simp only [Act.put, List.setIfInBounds_toArray, List.set_cons_zero, List.set_cons_succ, i64_w, i32_w]
           rfl
          refine pure_ (i := 9) (N := some 50) (v := ?_) (a' := ?_) #[T_,T_,T_,T_,T_,T_,T_,T_,T_,T_,T_,F_,F_] rfl rfl (any_of HT_.out (by kernel_rfl)) (fun _ _ _ h => h) (Or.inl ⟨by rfl, ?_⟩) ?_ ?_
          rotate_left
          ·
           intro w'
           go_simp
           with_reducible rfl
          rotate_left
          ·
           simp only [Act.put, List.setIfInBounds_toArray, List.set_cons_zero, List.set_cons_succ, i64_w, i32_w]
           rfl
          exact norm_ (by simp only [putAll, Act.put, List.setIfInBounds_toArray, List.set_cons_zero, List.set_cons_succ]) (hCont (.slice Ao40 y317.length co40, v321, gb325) _ ⟨hHeld, (by (with_reducible repeat (first | apply Kd.V_alloc | apply Kd.V_drewN | apply Kd.V_drew)); exact Kd.V_mono HLq0.out (fun _ hk => ⟨hk.1.1.1, ⟨hk.1.2, ⟨hk.1.1.2.1, ⟨hk.1.1.2.2.1, ⟨hk.1.1.2.2.2.1, ⟨hk.1.1.2.2.2.2.1, ⟨hk.1.1.2.2.2.2.2, hk.2⟩⟩⟩⟩⟩⟩⟩)), (by (with_reducible repeat (first | apply Kd.N_alloc | apply Kd.N_drewN | apply Kd.N_drew)); exact Kd.N_mono HO319.out (fun _ hk => ⟨hk.1.1, ⟨hk.1.2.1, ⟨hk.1.2.2.1, ⟨hk.1.2.2.2.1, ⟨hk.1.2.2.2.2.1, ⟨hk.1.2.2.2.2.2, hk.2⟩⟩⟩⟩⟩⟩)), (by (with_reducible repeat (first | apply Kd.V_alloc | apply Kd.V_drewN | apply Kd.V_drew)); exact Kd.V_mono HO322.out (fun _ hk => ⟨hk.1, ⟨hk.2.2.1, ⟨hk.2.1, ⟨hk.2.2.2.1, ⟨hk.2.2.2.2.1, ⟨hk.2.2.2.2.2.1, ⟨hk.2.2.2.2.2.2.1, hk.2.2.2.2.2.2.2⟩⟩⟩⟩⟩⟩⟩)), (by (with_reducible repeat (first | apply Kd.V_alloc | apply Kd.V_drewN | apply Kd.V_drew)); exact Kd.V_mono HO_1.out (fun _ hk => ⟨hk.1.1.1, ⟨hk.1.2, ⟨hk.1.1.2.1, ⟨hk.1.1.2.2.1, ⟨hk.1.1.2.2.2.1, ⟨hk.1.1.2.2.2.2.1, ⟨hk.1.1.2.2.2.2.2, hk.2⟩⟩⟩⟩⟩⟩⟩)), (by (with_reducible repeat (first | apply Kd.V_alloc | apply Kd.V_drewN | apply Kd.V_drew)); exact Kd.V_mono HOq0.out (fun _ hk => ⟨hk.1.1.1, ⟨hk.1.2, ⟨hk.1.1.2.1, ⟨hk.1.1.2.2.1, ⟨hk.1.1.2.2.2.1, ⟨hk.1.1.2.2.2.2.1, ⟨hk.1.1.2.2.2.2.2, hk.2⟩⟩⟩⟩⟩⟩⟩)), (rU HOq1.out), (by (with_reducible repeat (first | apply Kd.V_alloc | apply Kd.V_drewN | apply Kd.V_drew)); exact Kd.V_mono HOq3.out (fun _ hk => ⟨hk.1.1.1, ⟨hk.1.2, ⟨hk.1.1.2.1, ⟨hk.1.1.2.2.1, ⟨hk.1.1.2.2.2.1, ⟨hk.1.1.2.2.2.2.1, ⟨hk.1.1.2.2.2.2.2, hk.2⟩⟩⟩⟩⟩⟩⟩)), (by (with_reducible repeat (first | apply Kd.V_alloc | apply Kd.V_drewN | apply Kd.V_drew)); exact Kd.V_mono HOq2.out (fun _ hk => ⟨hk.1.1.1, ⟨hk.1.2, ⟨hk.1.1.2.1, ⟨hk.1.1.2.2.1, ⟨hk.1.1.2.2.2.1, ⟨hk.1.1.2.2.2.2.1, ⟨hk.1.1.2.2.2.2.2, hk.2⟩⟩⟩⟩⟩⟩⟩)), (bU BK301.out), (bU BK308.out), (bU BK314.out), (bU BK315.out), (bU BK325.out), GW325.out, GE325.out, NBq14.out, NBq23.out, NBq15.out, NBq24.out, NBq16.out, NBq25.out, NBq2.out, NBq26.out, (by repeat (first | (with_reducible first | exact HB.out | apply bA | apply bN | apply bD | refine bS ?_ GE301.out | refine bS ?_ GE308.out | refine bS ?_ GE314.out | refine bS ?_ GE315.out | refine bS ?_ GE325.out) | exact HB.out))⟩)
        ·
         skip
         refine box_step ?hg (N := 12) ?hd (cs := #[.slice none 0 0, .int .i64 0]) (t := 26) ?hr ?_; (case hd => rfl); (case hg => rfl); (case hr => first | (go_simp; done) | (go_simp; rfl))
         intro gb325 hg w37 hbox hb
         have HS2_ := (hb.cell (World.block_lt_of_cell? _ _ (hHeld.2.2))).trans (hHeld.2.2)
         have n0_ := aM (vB (vE (vU HO_1.out) gb325 (Nat.le_of_eq hg.symm)) hb)
         have n1_ := aM (vB (vE (vU HOq0.out) gb325 (Nat.le_of_eq hg.symm)) hb)
         have n2_ := aM (Kd.R_below (rU HOq1.out) hb)
         have n3_ := aM (vB (vE (vU HOq3.out) gb325 (Nat.le_of_eq hg.symm)) hb)
         have n4_ := aM (vB (vE (vU HOq2.out) gb325 (Nat.le_of_eq hg.symm)) hb)
         have n5_ := aM (vB (vE (vU HLq0.out) gb325 (Nat.le_of_eq hg.symm)) hb)
         have n6_ := aM (kB (g := gb301) (o := .cells #[.slice A0_0 l0_0.length c0_0, .int .i64 a0_1] 26 (0, 0)) (bU BK301.out) hb)
         have n7_ := aM (kB (g := gb308) (o := .cells #[.slice Ao15 t304.length co15, .int .i64 t307] 26 (0, 0)) (bU BK308.out) hb)
         have n8_ := aM (kB (g := gb314) (o := .cells #[.slice Ao21 t309.length co21, .int .i64 t312] 26 (0, 0)) (bU BK314.out) hb)
         have n9_ := aM (kB (g := gb315) (o := .cells #[.slice Ao35 x316000_1.length co35, .int .i64 x316001_1] 26 (0, 0)) (bU BK315.out) hb)
         have n10_ := aM (Kd.C_below (by repeat (first | (with_reducible exact HRq0.out) | (with_reducible refine Kd.C_alloc ?_ _) | (with_reducible refine Kd.C_drewN ?_ _) | (with_reducible refine Kd.C_drew ?_) | exact HRq0.out)) hb)
         have n11_ := aM (below_step (by repeat (first | (with_reducible first | exact HB.out | apply bA | apply bN | apply bD | refine bS ?_ GE301.out | refine bS ?_ GE308.out | refine bS ?_ GE314.out | refine bS ?_ GE315.out) | exact HB.out)) hb)
         have n12_ := aM (hbox)
         have n13_ := aM ((by rw [hg]; exact (below_size (by repeat (first | (with_reducible first | exact HB.out | apply bA | apply bN | apply bD | refine bS ?_ GE301.out | refine bS ?_ GE308.out | refine bS ?_ GE314.out | refine bS ?_ GE315.out) | exact HB.out))) : w.heap.size ≤ gb325))
         have n14_ := aM ((by rw [hg]; exact (below_size (by repeat (first | (with_reducible first | exact HB.out | apply bA | apply bN | apply bD | refine bS ?_ GE301.out | refine bS ?_ GE308.out | refine bS ?_ GE314.out | refine bS ?_ GE315.out) | exact HB.out))) : w.heap.size ≤ gb325))
         have n15_ := aM ((by rw [hg]; exact Nat.ne_of_lt (blk_lt (g := gb301) (o := .cells #[.slice A0_0 l0_0.length c0_0, .int .i64 a0_1] 26 (0, 0)) (bU BK301.out)) : gb301 ≠ gb325))
         have n16_ := aM ((by rw [hg]; exact Nat.ne_of_gt (blk_lt (g := gb301) (o := .cells #[.slice A0_0 l0_0.length c0_0, .int .i64 a0_1] 26 (0, 0)) (bU BK301.out)) : gb325 ≠ gb301))
         have n17_ := aM ((by rw [hg]; exact Nat.ne_of_lt (blk_lt (g := gb308) (o := .cells #[.slice Ao15 t304.length co15, .int .i64 t307] 26 (0, 0)) (bU BK308.out)) : gb308 ≠ gb325))
         have n18_ := aM ((by rw [hg]; exact Nat.ne_of_gt (blk_lt (g := gb308) (o := .cells #[.slice Ao15 t304.length co15, .int .i64 t307] 26 (0, 0)) (bU BK308.out)) : gb325 ≠ gb308))
         have n19_ := aM ((by rw [hg]; exact Nat.ne_of_lt (blk_lt (g := gb314) (o := .cells #[.slice Ao21 t309.length co21, .int .i64 t312] 26 (0, 0)) (bU BK314.out)) : gb314 ≠ gb325))
         have n20_ := aM ((by rw [hg]; exact Nat.ne_of_gt (blk_lt (g := gb314) (o := .cells #[.slice Ao21 t309.length co21, .int .i64 t312] 26 (0, 0)) (bU BK314.out)) : gb325 ≠ gb314))
         have n21_ := aM ((by rw [hg]; exact Nat.ne_of_lt (blk_lt (g := gb315) (o := .cells #[.slice Ao35 x316000_1.length co35, .int .i64 x316001_1] 26 (0, 0)) (bU BK315.out)) : gb315 ≠ gb325))
         have n22_ := aM ((by rw [hg]; exact Nat.ne_of_gt (blk_lt (g := gb315) (o := .cells #[.slice Ao35 x316000_1.length co35, .int .i64 x316001_1] 26 (0, 0)) (bU BK315.out)) : gb325 ≠ gb315))
         clear HO_1
         clear HOq0
         clear HOq1
         clear HOq3
         clear HOq2
         clear HLq0
         clear BK301
         clear BK308
         clear BK314
         clear BK315
         clear HRq0
         clear HB
         have HO_1 := n0_
         have HOq0 := n1_
         have HOq1 := n2_
         have HOq3 := n3_
         have HOq2 := n4_
         have HLq0 := n5_
         have BK301 := n6_
         have BK308 := n7_
         have BK314 := n8_
         have BK315 := n9_
         have HRq0 := n10_
         have HB := n11_
         have BK325 := n12_
         have GW325 := n13_
         have GE325 := n14_
         have NBq14 := n15_
         have NBq23 := n16_
         have NBq15 := n17_
         have NBq24 := n18_
         have NBq16 := n19_
         have NBq25 := n20_
         have NBq2 := n21_
         have NBq26 := n22_
         clear n0_ n1_ n2_ n3_ n4_ n5_ n6_ n7_ n8_ n9_ n10_ n11_ n12_ n13_ n14_ n15_ n16_ n17_ n18_ n19_ n20_ n21_ n22_
         clear hb hbox hg
         refine hK.out _ _ ⟨(kC BK315.out 0).trans rfl, (kC BK315.out 1).trans rfl, HS2_⟩ (fun hHeld => ?_)
         clear hK K
         refine norm_ (a' := ?_) ?_ ?_
         rotate_left
         ·
          show Act.put _ (some 12) _ = _
          simp only [Act.put, List.setIfInBounds_toArray, List.set_cons_zero, List.set_cons_succ, i64_w, i32_w]
          rfl
         refine one_ (i := 5) (N := some 47) #[T_,T_,T_,T_,T_,T_,F_,F_,F_,F_,T_,F_,F_] rfl rfl (one_of HT_.out (by kernel_rfl)) (by decide) (fun K hK => ?_)
         refine Kd.N_lit_step (Kd.slice 5 (Kd.int .u8)) _ 23 ?hg (N' := 47) ?hd (xs := ([rd_L1 l1 x11_1] : List (List Int))) (inner := [.slice A316_0 (rd_L1 l1 x11_1).length c316_0]) (ok := (fun k_ => ((P0_0_ k_ ∨ P1_ k_) ∨ w.heap.size ≤ k_) ∧ some k_ ≠ (.slice Ao15 t304.length co15 : Value).ownBlock ∧ k_ ≠ gb301 ∧ k_ ≠ gb308 ∧ k_ ≠ gb314 ∧ k_ ≠ gb315 ∧ k_ ≠ gb325)) (okp := (fun k_ => ((P0_0_ k_ ∨ P1_ k_) ∨ w.heap.size ≤ k_) ∧ some k_ ≠ (.slice Ao15 t304.length co15 : Value).ownBlock ∧ k_ ≠ gb301 ∧ k_ ≠ gb308 ∧ k_ ≠ gb314 ∧ k_ ≠ gb315 ∧ k_ ≠ gb325)) ?hr ?hp (fun _ hk => hk) ((show ∀ k_, w37.heap.size ≤ k_ → (fun k_ => ((P0_0_ k_ ∨ P1_ k_) ∨ w.heap.size ≤ k_) ∧ some k_ ≠ (.slice Ao15 t304.length co15 : Value).ownBlock ∧ k_ ≠ gb301 ∧ k_ ≠ gb308 ∧ k_ ≠ gb314 ∧ k_ ≠ gb315 ∧ k_ ≠ gb325) k_ from fun k_ hk => ⟨(.inr (Nat.le_trans (below_size (by repeat (first | (with_reducible first | exact HB.out | apply bA | apply bN | apply bD | refine bS ?_ GE301.out | refine bS ?_ GE308.out | refine bS ?_ GE314.out | refine bS ?_ GE315.out | refine bS ?_ GE325.out) | exact HB.out))) hk)), Kd.fresh' (Kd.R_lt (rU HOq1.out)) k_ hk, Kd.freshB (g := gb301) (o := .cells #[.slice A0_0 l0_0.length c0_0, .int .i64 a0_1] 26 (0, 0)) (bU BK301.out) k_ hk, Kd.freshB (g := gb308) (o := .cells #[.slice Ao15 t304.length co15, .int .i64 t307] 26 (0, 0)) (bU BK308.out) k_ hk, Kd.freshB (g := gb314) (o := .cells #[.slice Ao21 t309.length co21, .int .i64 t312] 26 (0, 0)) (bU BK314.out) k_ hk, Kd.freshB (g := gb315) (o := .cells #[.slice Ao35 x316000_1.length co35, .int .i64 x316001_1] 26 (0, 0)) (bU BK315.out) k_ hk, Kd.freshB (g := gb325) (o := .cells #[.slice none 0 0, .int .i64 0] 26 (0, 0)) (bU BK325.out) k_ hk⟩) _ (Nat.le_refl _)) (Below.refl _ _) (Nat.le_refl _) (by simp) ?_; (case hd => rfl); (case hg => rfl); (case hr => first | (go_simp; done) | (go_simp; rfl)); (case hp => exact (Reps.one (show Kd.FK (Kd.slice 5 (Kd.int .u8)) _ _ (rd_L1 l1 x11_1) [.slice A316_0 (rd_L1 l1 x11_1).length c316_0] from (Kd.FK_slice_mk (Kd.V_reads' (Kd.V_mono (ok' := (fun k_ => ((P0_0_ k_ ∨ P1_ k_) ∨ w.heap.size ≤ k_) ∧ some k_ ≠ (.slice Ao15 t304.length co15 : Value).ownBlock ∧ k_ ≠ gb301 ∧ k_ ≠ gb308 ∧ k_ ≠ gb314 ∧ k_ ≠ gb315 ∧ k_ ≠ gb325)) (HLq0.out) (fun k_ hk => ⟨hk.1.1, ⟨hk.1.2.1, ⟨hk.1.2.2.1, ⟨hk.1.2.2.2.1, ⟨hk.1.2.2.2.2.1, ⟨hk.1.2.2.2.2.2, hk.2⟩⟩⟩⟩⟩⟩))).2.1 (Kd.V_F (Kd.V_mono (ok' := (fun k_ => ((P0_0_ k_ ∨ P1_ k_) ∨ w.heap.size ≤ k_) ∧ some k_ ≠ (.slice Ao15 t304.length co15 : Value).ownBlock ∧ k_ ≠ gb301 ∧ k_ ≠ gb308 ∧ k_ ≠ gb314 ∧ k_ ≠ gb315 ∧ k_ ≠ gb325)) (HLq0.out) (fun k_ hk => ⟨hk.1.1, ⟨hk.1.2.1, ⟨hk.1.2.2.1, ⟨hk.1.2.2.2.1, ⟨hk.1.2.2.2.2.1, ⟨hk.1.2.2.2.2.2, hk.2⟩⟩⟩⟩⟩⟩))))) (Reps.none _ _)))
         intro v318 w38 ho39 hb hg_ hnew_
         have HS2_ := (hb.cell (World.block_lt_of_cell? _ _ (hHeld.2.2))).trans (hHeld.2.2)
         clear hg_ hnew_
         (first | rw [← Ny317.out] at ho39 | (simp only [Int.reduceToNat] at ho39; rw [← Ny317.out] at ho39))
         have n0_ := aM (Kd.V_elder' (vU HO_1.out) (Kd.N_base ho39) hb)
         have n1_ := aM (Kd.V_elder' (vU HOq0.out) (Kd.N_base ho39) hb)
         have n2_ := aM (Kd.R_below (rU HOq1.out) hb)
         have n3_ := aM (Kd.V_elder' (vU HOq3.out) (Kd.N_base ho39) hb)
         have n4_ := aM (Kd.V_elder' (vU HOq2.out) (Kd.N_base ho39) hb)
         have n5_ := aM (Kd.V_elder' (vU HLq0.out) (Kd.N_base ho39) hb)
         have n6_ := aM (Kd.N_lower ho39 (below_size (by repeat (first | (with_reducible first | exact HB.out | apply bA | apply bN | apply bD | refine bS ?_ GE301.out | refine bS ?_ GE308.out | refine bS ?_ GE314.out | refine bS ?_ GE315.out | refine bS ?_ GE325.out) | exact HB.out))))
         have n7_ := aM (kB (g := gb301) (o := .cells #[.slice A0_0 l0_0.length c0_0, .int .i64 a0_1] 26 (0, 0)) (bU BK301.out) hb)
         have n8_ := aM (kB (g := gb308) (o := .cells #[.slice Ao15 t304.length co15, .int .i64 t307] 26 (0, 0)) (bU BK308.out) hb)
         have n9_ := aM (kB (g := gb314) (o := .cells #[.slice Ao21 t309.length co21, .int .i64 t312] 26 (0, 0)) (bU BK314.out) hb)
         have n10_ := aM (kB (g := gb315) (o := .cells #[.slice Ao35 x316000_1.length co35, .int .i64 x316001_1] 26 (0, 0)) (bU BK315.out) hb)
         have n11_ := aM (Kd.C_below (by repeat (first | (with_reducible exact HRq0.out) | (with_reducible refine Kd.C_alloc ?_ _) | (with_reducible refine Kd.C_drewN ?_ _) | (with_reducible refine Kd.C_drew ?_) | exact HRq0.out)) hb)
         have n12_ := aM (kB (g := gb325) (o := .cells #[.slice none 0 0, .int .i64 0] 26 (0, 0)) (bU BK325.out) hb)
         have n13_ := aM (below_step (by repeat (first | (with_reducible first | exact HB.out | apply bA | apply bN | apply bD | refine bS ?_ GE301.out | refine bS ?_ GE308.out | refine bS ?_ GE314.out | refine bS ?_ GE315.out | refine bS ?_ GE325.out) | exact HB.out)) hb)
         clear HO_1
         clear HOq0
         clear HOq1
         clear HOq3
         clear HOq2
         clear HLq0
         clear BK301
         clear BK308
         clear BK314
         clear BK315
         clear HRq0
         clear BK325
         clear HB
         have HO_1 := n0_
         have HOq0 := n1_
         have HOq1 := n2_
         have HOq3 := n3_
         have HOq2 := n4_
         have HLq0 := n5_
         have HO319 := n6_
         have BK301 := n7_
         have BK308 := n8_
         have BK314 := n9_
         have BK315 := n10_
         have HRq0 := n11_
         have BK325 := n12_
         have HB := n13_
         clear n0_ n1_ n2_ n3_ n4_ n5_ n6_ n7_ n8_ n9_ n10_ n11_ n12_ n13_
         clear hb ho39
         obtain ⟨Ao40, co40, eo40⟩ := Kd.N_slice HO319.out
         (first | subst eo40 | (injection eo40 with f1_ f2_ f3_; have f4_ := f1_.symm; have f5_ := f3_.symm; clear f1_ f2_ f3_; subst f4_; subst f5_))
         refine hK.out _ _ ⟨(kC BK315.out 0).trans rfl, (kC BK315.out 1).trans rfl, HS2_⟩ (fun hHeld => ?_)
         clear hK K
         refine norm_ (a' := ?_) ?_ ?_
         rotate_left
         ·
          show Act.put _ (some 47) _ = _
          simp only [Act.put, List.setIfInBounds_toArray, List.set_cons_zero, List.set_cons_succ, i64_w, i32_w]
          rfl
         refine one_ (i := 6) (N := some 48) #[T_,T_,T_,T_,T_,T_,T_,F_,F_,F_,T_,F_,F_] rfl rfl (one_of HT_.out (by kernel_rfl)) (by decide) (fun K hK => ?_)
         refine goes_ Try.func10 (by kernel_rfl) rfl #[.agg #[.slice Ao35 x316000_1.length co35, .int .i64 x316001_1], .slice Ao40 y317.length co40] (by rfl) rfl rfl (by (try simp only [List.map_toArray, List.map_cons, List.map_nil]); first | done | rfl | (simp only [List.length_drop, List.length_take]; rfl)) ?_
         with_reducible refine (wal_Append.calls _ _ x316000_1 x316001_1 _ _ y317 t320 t323 t324 _ ?side1 ?side2 ?side3 ?side4 A34.out).mono ?_
         (case side1 => repeat (first | exact (Kd.V_reads' HOq2.out).2.2 | (with_reducible refine Kd.C_alloc ?_ _) | (with_reducible refine Kd.C_drewN ?_ _) | (with_reducible refine Kd.C_drew ?_)))
         (case side2 => exact (Kd.V_reads' HOq2.out).2.1)
         (case side3 => repeat (first | exact (Kd.N_reads' HO319.out).2.2 | (with_reducible refine Kd.C_alloc ?_ _) | (with_reducible refine Kd.C_drewN ?_ _) | (with_reducible refine Kd.C_drew ?_)))
         (case side4 => exact (Kd.N_reads' HO319.out).2.1)
         rintro e w41 ⟨v321, rfl, ho0, hb⟩
         have HS2_ := (hb.cell (World.block_lt_of_cell? _ _ (hHeld.2.2))).trans (hHeld.2.2)
         refine ⟨_, rfl, ?_⟩
         have n0_ := aM (vB (vU HO_1.out) hb)
         have n1_ := aM (vB (vU HOq0.out) hb)
         have n2_ := aM (Kd.R_below (rU HOq1.out) hb)
         have n3_ := aM (vB (vU HOq3.out) hb)
         have n4_ := aM (vB (vU HOq2.out) hb)
         have n5_ := aM (vB (vU HLq0.out) hb)
         have n6_ := aM (Kd.N_below (nU HO319.out) hb)
         have n7_ := aM (Kd.V_lower (Kd.V_mono (ok' := fun k_ => ((P0_0_ k_ ∨ P1_ k_) ∨ w.heap.size ≤ k_) ∧ some k_ ≠ (.slice Ao15 t304.length co15 : Value).ownBlock ∧ some k_ ≠ (.slice Ao40 y317.length co40 : Value).ownBlock ∧ k_ ≠ gb301 ∧ k_ ≠ gb308 ∧ k_ ≠ gb314 ∧ k_ ≠ gb315 ∧ k_ ≠ gb325) ho0 (fun k_ hk_ => ⟨(.inr (Nat.le_trans (below_size (by repeat (first | (with_reducible first | exact HB.out | apply bA | apply bN | apply bD | refine bS ?_ GE301.out | refine bS ?_ GE308.out | refine bS ?_ GE314.out | refine bS ?_ GE315.out | refine bS ?_ GE325.out) | exact HB.out))) hk_)), (Kd.fresh' (Kd.R_lt (rU HOq1.out)) k_ hk_), (Kd.fresh' (Kd.N_lt (nU HO319.out)) k_ hk_), (Kd.freshB (g := gb301) (o := .cells #[.slice A0_0 l0_0.length c0_0, .int .i64 a0_1] 26 (0, 0)) (bU BK301.out) k_ hk_), (Kd.freshB (g := gb308) (o := .cells #[.slice Ao15 t304.length co15, .int .i64 t307] 26 (0, 0)) (bU BK308.out) k_ hk_), (Kd.freshB (g := gb314) (o := .cells #[.slice Ao21 t309.length co21, .int .i64 t312] 26 (0, 0)) (bU BK314.out) k_ hk_), (Kd.freshB (g := gb315) (o := .cells #[.slice Ao35 x316000_1.length co35, .int .i64 x316001_1] 26 (0, 0)) (bU BK315.out) k_ hk_), (Kd.freshB (g := gb325) (o := .cells #[.slice none 0 0, .int .i64 0] 26 (0, 0)) (bU BK325.out) k_ hk_)⟩)) (below_size (by repeat (first | (with_reducible first | exact HB.out | apply bA | apply bN | apply bD | refine bS ?_ GE301.out | refine bS ?_ GE308.out | refine bS ?_ GE314.out | refine bS ?_ GE315.out | refine bS ?_ GE325.out) | exact HB.out))))
         have n8_ := aM (kB (g := gb301) (o := .cells #[.slice A0_0 l0_0.length c0_0, .int .i64 a0_1] 26 (0, 0)) (bU BK301.out) hb)
         have n9_ := aM (kB (g := gb308) (o := .cells #[.slice Ao15 t304.length co15, .int .i64 t307] 26 (0, 0)) (bU BK308.out) hb)
         have n10_ := aM (kB (g := gb314) (o := .cells #[.slice Ao21 t309.length co21, .int .i64 t312] 26 (0, 0)) (bU BK314.out) hb)
         have n11_ := aM (kB (g := gb315) (o := .cells #[.slice Ao35 x316000_1.length co35, .int .i64 x316001_1] 26 (0, 0)) (bU BK315.out) hb)
         have n12_ := aM (Kd.C_below (by repeat (first | (with_reducible exact HRq0.out) | (with_reducible refine Kd.C_alloc ?_ _) | (with_reducible refine Kd.C_drewN ?_ _) | (with_reducible refine Kd.C_drew ?_) | exact HRq0.out)) hb)
         have n13_ := aM (kB (g := gb325) (o := .cells #[.slice none 0 0, .int .i64 0] 26 (0, 0)) (bU BK325.out) hb)
         have n14_ := aM (below_step (by repeat (first | (with_reducible first | exact HB.out | apply bA | apply bN | apply bD | refine bS ?_ GE301.out | refine bS ?_ GE308.out | refine bS ?_ GE314.out | refine bS ?_ GE315.out | refine bS ?_ GE325.out) | exact HB.out)) hb)
         clear HO_1
         clear HOq0
         clear HOq1
         clear HOq3
         clear HOq2
         clear HLq0
         clear HO319
         clear BK301
         clear BK308
         clear BK314
         clear BK315
         clear HRq0
         clear BK325
         clear HB
         have HO_1 := n0_
         have HOq0 := n1_
         have HOq1 := n2_
         have HOq3 := n3_
         have HOq2 := n4_
         have HLq0 := n5_
         have HO319 := n6_
         have HO322 := n7_
         have BK301 := n8_
         have BK308 := n9_
         have BK314 := n10_
         have BK315 := n11_
         have HRq0 := n12_
         have BK325 := n13_
         have HB := n14_
         clear n0_ n1_ n2_ n3_ n4_ n5_ n6_ n7_ n8_ n9_ n10_ n11_ n12_ n13_ n14_
         (try clear hb)
         (try clear hb2)
         (try clear hk)
         (try clear hi)
         (try clear ho0)
         refine hK.out _ _ ⟨(kC BK315.out 0).trans rfl, (kC BK315.out 1).trans rfl, HS2_⟩ (fun hHeld => ?_)
         clear hK K
         refine norm_ (a' := ?_) ?_ ?_
         rotate_left
         ·
          show Act.put _ (some 48) _ = _
          simp only [Act.put, List.setIfInBounds_toArray, List.set_cons_zero, List.set_cons_succ, i64_w, i32_w]
          rfl
         refine pure_ (i := 7) (N := some 41) (v := ?_) (a' := ?_) #[T_,T_,T_,T_,T_,T_,T_,T_,F_,F_,T_,F_,F_] rfl rfl (any_of HT_.out (by kernel_rfl)) (fun _ _ _ h => h) (Or.inl ⟨by rfl, ?_⟩) ?_ ?_
         rotate_left
         ·
          intro w'
          go_simp
          with_reducible rfl
         rotate_left
         ·
          simp only [Act.put, List.setIfInBounds_toArray, List.set_cons_zero, List.set_cons_succ, i64_w, i32_w]
          rfl
         refine pure_ (i := 8) (N := some 49) (v := ?_) (a' := ?_) #[T_,T_,T_,T_,T_,T_,T_,T_,T_,F_,T_,F_,F_] rfl rfl (any_of HT_.out (by kernel_rfl)) (fun _ _ _ h => h) (Or.inl ⟨by rfl, ?_⟩) ?_ ?_
         rotate_left
         ·
          intro w'
          go_simp
          with_reducible rfl
         rotate_left
         ·
          simp only [Act.put, List.setIfInBounds_toArray, List.set_cons_zero, List.set_cons_succ, i64_w, i32_w]
          rfl
         refine pure_ (i := 9) (N := some 50) (v := ?_) (a' := ?_) #[T_,T_,T_,T_,T_,T_,T_,T_,T_,T_,T_,F_,F_] rfl rfl (any_of HT_.out (by kernel_rfl)) (fun _ _ _ h => h) (Or.inl ⟨by rfl, ?_⟩) ?_ ?_
         rotate_left
         ·
          intro w'
          go_simp
          with_reducible rfl
         rotate_left
         ·
          simp only [Act.put, List.setIfInBounds_toArray, List.set_cons_zero, List.set_cons_succ, i64_w, i32_w]
          rfl
         exact norm_ (by simp only [putAll, Act.put, List.setIfInBounds_toArray, List.set_cons_zero, List.set_cons_succ]) (hCont (.slice Ao40 y317.length co40, v321, gb325) _ ⟨hHeld, (by (with_reducible repeat (first | apply Kd.V_alloc | apply Kd.V_drewN | apply Kd.V_drew)); exact Kd.V_mono HLq0.out (fun _ hk => ⟨hk.1.1.1, ⟨hk.2, ⟨hk.1.1.2.1, ⟨hk.1.1.2.2.1, ⟨hk.1.1.2.2.2.1, ⟨hk.1.1.2.2.2.2.1, ⟨hk.1.1.2.2.2.2.2, hk.1.2⟩⟩⟩⟩⟩⟩⟩)), (nU HO319.out), (by (with_reducible repeat (first | apply Kd.V_alloc | apply Kd.V_drewN | apply Kd.V_drew)); exact Kd.V_mono HO322.out (fun _ hk => ⟨hk.1, ⟨hk.2.2.1, ⟨hk.2.1, ⟨hk.2.2.2.1, ⟨hk.2.2.2.2.1, ⟨hk.2.2.2.2.2.1, ⟨hk.2.2.2.2.2.2.1, hk.2.2.2.2.2.2.2⟩⟩⟩⟩⟩⟩⟩)), (by (with_reducible repeat (first | apply Kd.V_alloc | apply Kd.V_drewN | apply Kd.V_drew)); exact Kd.V_mono HO_1.out (fun _ hk => ⟨hk.1.1.1, ⟨hk.2, ⟨hk.1.1.2.1, ⟨hk.1.1.2.2.1, ⟨hk.1.1.2.2.2.1, ⟨hk.1.1.2.2.2.2.1, ⟨hk.1.1.2.2.2.2.2, hk.1.2⟩⟩⟩⟩⟩⟩⟩)), (by (with_reducible repeat (first | apply Kd.V_alloc | apply Kd.V_drewN | apply Kd.V_drew)); exact Kd.V_mono HOq0.out (fun _ hk => ⟨hk.1.1.1, ⟨hk.2, ⟨hk.1.1.2.1, ⟨hk.1.1.2.2.1, ⟨hk.1.1.2.2.2.1, ⟨hk.1.1.2.2.2.2.1, ⟨hk.1.1.2.2.2.2.2, hk.1.2⟩⟩⟩⟩⟩⟩⟩)), (rU HOq1.out), (by (with_reducible repeat (first | apply Kd.V_alloc | apply Kd.V_drewN | apply Kd.V_drew)); exact Kd.V_mono HOq3.out (fun _ hk => ⟨hk.1.1.1, ⟨hk.2, ⟨hk.1.1.2.1, ⟨hk.1.1.2.2.1, ⟨hk.1.1.2.2.2.1, ⟨hk.1.1.2.2.2.2.1, ⟨hk.1.1.2.2.2.2.2, hk.1.2⟩⟩⟩⟩⟩⟩⟩)), (by (with_reducible repeat (first | apply Kd.V_alloc | apply Kd.V_drewN | apply Kd.V_drew)); exact Kd.V_mono HOq2.out (fun _ hk => ⟨hk.1.1.1, ⟨hk.2, ⟨hk.1.1.2.1, ⟨hk.1.1.2.2.1, ⟨hk.1.1.2.2.2.1, ⟨hk.1.1.2.2.2.2.1, ⟨hk.1.1.2.2.2.2.2, hk.1.2⟩⟩⟩⟩⟩⟩⟩)), (bU BK301.out), (bU BK308.out), (bU BK314.out), (bU BK315.out), (bU BK325.out), GW325.out, GE325.out, NBq14.out, NBq23.out, NBq15.out, NBq24.out, NBq16.out, NBq25.out, NBq2.out, NBq26.out, (by repeat (first | (with_reducible first | exact HB.out | apply bA | apply bN | apply bD | refine bS ?_ GE301.out | refine bS ?_ GE308.out | refine bS ?_ GE314.out | refine bS ?_ GE315.out | refine bS ?_ GE325.out) | exact HB.out))⟩)
       rintro ⟨v318, v321, gb325⟩ w42 ⟨hS_, h0_, h1_, h2_, h3_, h4_, h5_, h6_, h7_, h8_, h9_, h10_, h11_, h12_, h13_, h14_, h15_, h16_, h17_, h18_, h19_, h20_, h21_, h22_, h23_⟩
       have n0_ : Aside0 (Kd.V (Kd.int .u8) 5 w42 w.heap.size (fun k_ => ((P0_0_ k_ ∨ P1_ k_) ∨ w.heap.size ≤ k_) ∧ some k_ ≠ (v318 : Value).ownBlock ∧ some k_ ≠ (.slice Ao15 t304.length co15 : Value).ownBlock ∧ k_ ≠ gb301 ∧ k_ ≠ gb308 ∧ k_ ≠ gb314 ∧ k_ ≠ gb315 ∧ k_ ≠ gb325) (.slice A316_0 (rd_L1 l1 x11_1).length c316_0) (rd_L1 l1 x11_1)) := ⟨h0_⟩
       have n1_ : Aside0 (Kd.N (Kd.slice 5 (Kd.int .u8)) 23 w42 w.heap.size (fun k_ => ((P0_0_ k_ ∨ P1_ k_) ∨ w.heap.size ≤ k_) ∧ some k_ ≠ (.slice Ao15 t304.length co15 : Value).ownBlock ∧ k_ ≠ gb301 ∧ k_ ≠ gb308 ∧ k_ ≠ gb314 ∧ k_ ≠ gb315 ∧ k_ ≠ gb325) v318 y317) := ⟨h1_⟩
       have n2_ : Aside0 (Kd.V (Kd.int .u8) 5 w42 w.heap.size (fun k_ => ((P0_0_ k_ ∨ P1_ k_) ∨ w.heap.size ≤ k_) ∧ some k_ ≠ (v318 : Value).ownBlock ∧ some k_ ≠ (.slice Ao15 t304.length co15 : Value).ownBlock ∧ k_ ≠ gb301 ∧ k_ ≠ gb308 ∧ k_ ≠ gb314 ∧ k_ ≠ gb315 ∧ k_ ≠ gb325) v321 t320) := ⟨h2_⟩
       have n3_ : Aside0 (Kd.V (Kd.slice 5 (Kd.int .u8)) 23 w42 w.heap.size (fun k_ => ((P0_0_ k_ ∨ P1_ k_) ∨ w.heap.size ≤ k_) ∧ some k_ ≠ (v318 : Value).ownBlock ∧ some k_ ≠ (.slice Ao15 t304.length co15 : Value).ownBlock ∧ k_ ≠ gb301 ∧ k_ ≠ gb308 ∧ k_ ≠ gb314 ∧ k_ ≠ gb315 ∧ k_ ≠ gb325) (.slice (some ad316) l1.length c1) l1) := ⟨h3_⟩
       have n4_ : Aside0 (Kd.V (Kd.int .u8) 5 w42 w.heap.size (fun k_ => ((P0_0_ k_ ∨ P1_ k_) ∨ w.heap.size ≤ k_) ∧ some k_ ≠ (v318 : Value).ownBlock ∧ some k_ ≠ (.slice Ao15 t304.length co15 : Value).ownBlock ∧ k_ ≠ gb301 ∧ k_ ≠ gb308 ∧ k_ ≠ gb314 ∧ k_ ≠ gb315 ∧ k_ ≠ gb325) (.slice A0_0 l0_0.length c0_0) l0_0) := ⟨h4_⟩
       have n5_ : Aside0 (Kd.R (Kd.int .u8) 5 w42 w.heap.size (fun k_ => (w.heap.size ≤ k_)) (.slice Ao15 t304.length co15) t304) := ⟨h5_⟩
       have n6_ : Aside0 (Kd.V (Kd.int .u8) 5 w42 w.heap.size (fun k_ => ((P0_0_ k_ ∨ P1_ k_) ∨ w.heap.size ≤ k_) ∧ some k_ ≠ (v318 : Value).ownBlock ∧ some k_ ≠ (.slice Ao15 t304.length co15 : Value).ownBlock ∧ k_ ≠ gb301 ∧ k_ ≠ gb308 ∧ k_ ≠ gb314 ∧ k_ ≠ gb315 ∧ k_ ≠ gb325) (.slice Ao21 t309.length co21) t309) := ⟨h6_⟩
       have n7_ : Aside0 (Kd.V (Kd.int .u8) 5 w42 w.heap.size (fun k_ => ((P0_0_ k_ ∨ P1_ k_) ∨ w.heap.size ≤ k_) ∧ some k_ ≠ (v318 : Value).ownBlock ∧ some k_ ≠ (.slice Ao15 t304.length co15 : Value).ownBlock ∧ k_ ≠ gb301 ∧ k_ ≠ gb308 ∧ k_ ≠ gb314 ∧ k_ ≠ gb315 ∧ k_ ≠ gb325) (.slice Ao35 x316000_1.length co35) x316000_1) := ⟨h7_⟩
       have n8_ : Aside0 (w42.heap[gb301]? = some (.cells #[.slice A0_0 l0_0.length c0_0, .int .i64 a0_1] 26 (0, 0))) := ⟨h8_⟩
       have n9_ : Aside0 (w42.heap[gb308]? = some (.cells #[.slice Ao15 t304.length co15, .int .i64 t307] 26 (0, 0))) := ⟨h9_⟩
       have n10_ : Aside0 (w42.heap[gb314]? = some (.cells #[.slice Ao21 t309.length co21, .int .i64 t312] 26 (0, 0))) := ⟨h10_⟩
       have n11_ : Aside0 (w42.heap[gb315]? = some (.cells #[.slice Ao35 x316000_1.length co35, .int .i64 x316001_1] 26 (0, 0))) := ⟨h11_⟩
       have n12_ : Aside0 (w42.heap[gb325]? = some (.cells #[.slice none 0 0, .int .i64 0] 26 (0, 0))) := ⟨h12_⟩
       have n13_ : Aside0 (w.heap.size ≤ gb325) := ⟨h13_⟩
       have n14_ : Aside0 (w.heap.size ≤ gb325) := ⟨h14_⟩
       have n15_ : Aside0 (gb301 ≠ gb325) := ⟨h15_⟩
       have n16_ : Aside0 (gb325 ≠ gb301) := ⟨h16_⟩
       have n17_ : Aside0 (gb308 ≠ gb325) := ⟨h17_⟩
       have n18_ : Aside0 (gb325 ≠ gb308) := ⟨h18_⟩
       have n19_ : Aside0 (gb314 ≠ gb325) := ⟨h19_⟩
       have n20_ : Aside0 (gb325 ≠ gb314) := ⟨h20_⟩
       have n21_ : Aside0 (gb315 ≠ gb325) := ⟨h21_⟩
       have n22_ : Aside0 (gb325 ≠ gb315) := ⟨h22_⟩
       have n23_ : Aside0 (Below w.heap.size w w42) := ⟨h23_⟩
       clear HO_1
       clear HOq0
       clear HOq1
       clear HOq3
       clear HOq2
       clear BK301
       clear BK308
       clear BK314
       clear BK315
       clear HB
       clear h0_ h1_ h2_ h3_ h4_ h5_ h6_ h7_ h8_ h9_ h10_ h11_ h12_ h13_ h14_ h15_ h16_ h17_ h18_ h19_ h20_ h21_ h22_ h23_
       have HLq0 := n0_
       have HO319 := n1_
       have HO322 := n2_
       have HO_1 := n3_
       have HOq0 := n4_
       have HOq1 := n5_
       have HOq3 := n6_
       have HOq2 := n7_
       have BK301 := n8_
       have BK308 := n9_
       have BK314 := n10_
       have BK315 := n11_
       have BK325 := n12_
       have GW325 := n13_
       have GE325 := n14_
       have NBq14 := n15_
       have NBq23 := n16_
       have NBq15 := n17_
       have NBq24 := n18_
       have NBq16 := n19_
       have NBq25 := n20_
       have NBq2 := n21_
       have NBq26 := n22_
       have HB := n23_
       clear n0_ n1_ n2_ n3_ n4_ n5_ n6_ n7_ n8_ n9_ n10_ n11_ n12_ n13_ n14_ n15_ n16_ n17_ n18_ n19_ n20_ n21_ n22_ n23_
       have hHeld : w42.cell? ⟨gb315, 0, none⟩ = some (.slice Ao35 x316000_1.length co35) ∧ w42.cell? ⟨gb315, 1, none⟩ = some (.int .i64 x316001_1) ∧ w42.cell? (ad316.add (x11_1).toNat) = some (.slice A316_0 (rd_L1 l1 x11_1).length c316_0) := hS_
       obtain ⟨Ao43, co43, eo43⟩ := Kd.V_slice HO322.out
       (first | subst eo43 | (injection eo43 with f1_ f2_ f3_; have f4_ := f1_.symm; have f5_ := f3_.symm; clear f1_ f2_ f3_; subst f4_; subst f5_))
       refine norm_ (a' := ?_) ?_ ?_
       rotate_left
       ·
        simp only [putAll, Act.put, List.setIfInBounds_toArray, List.set_cons_zero, List.set_cons_succ]
        rfl
       refine one_ (i := 11) (N := none) #[T_,T_,T_,T_,T_,T_,T_,T_,T_,T_,T_,T_,F_] rfl rfl (one_of HT_.out (by kernel_rfl)) (by decide) (fun K hK => ?_)
       have hs44 : w42.cell? ⟨gb325, 0, none⟩ = some (.slice none 0 0) := (kC BK325.out 0).trans rfl
       have hfs44 := kF BK325.out 0
       have hns44_0 := NBq14.out
       have hns44_1 := NBq15.out
       have hns44_2 := NBq16.out
       have hns44_3 := NBq2.out
       have hms44_0 := NBq23.out
       have hms44_1 := NBq24.out
       have hms44_2 := NBq25.out
       have hms44_3 := NBq26.out
       have hs45 : w42.cell? ⟨gb325, 1, none⟩ = some (.int .i64 0) := (kC BK325.out 1).trans rfl
       have hfs45 := kF BK325.out 1
       have hns45_0 := NBq14.out
       have hns45_1 := NBq15.out
       have hns45_2 := NBq16.out
       have hns45_3 := NBq2.out
       have hms45_0 := NBq23.out
       have hms45_1 := NBq24.out
       have hms45_2 := NBq25.out
       have hms45_3 := NBq26.out
       refine skip_ (w1 := ?_) (by rfl) rfl ?_ ?_
       rotate_left
       ·
        go_simp
        rfl
       refine hK.out _ _ ⟨((cell_far (p := ⟨gb325, _, none⟩) NBq2.out _).trans (((cell_far (p := ⟨gb325, _, none⟩) NBq2.out _).trans (hHeld.1)))), ((cell_far (p := ⟨gb325, _, none⟩) NBq2.out _).trans (((cell_far (p := ⟨gb325, _, none⟩) NBq2.out _).trans (hHeld.2.1)))), ((cell_far (p := ⟨gb325, _, none⟩) (by first | exact V_off HO_1.out (by have p_ := of_eq_true p316; have q_ := of_eq_true q316; omega) (by first | exact Nat.zero_lt_one | decide) (fun _ hk => hk.2.2.2.2.2.2.2) | (rw [add_block]; exact V_off HO_1.out (by have p_ := of_eq_true p316; have q_ := of_eq_true q316; omega) (by first | exact Nat.zero_lt_one | decide) (fun _ hk => hk.2.2.2.2.2.2.2)) | (show (Addr.add _ _).block ≠ _; rw [add_block]; exact V_off HO_1.out (by have p_ := of_eq_true p316; have q_ := of_eq_true q316; omega) (by first | exact Nat.zero_lt_one | decide) (fun _ hk => hk.2.2.2.2.2.2.2)) | (dsimp only; exact V_off HO_1.out (by have p_ := of_eq_true p316; have q_ := of_eq_true q316; omega) (by first | exact Nat.zero_lt_one | decide) (fun _ hk => hk.2.2.2.2.2.2.2))) _).trans (((cell_far (p := ⟨gb325, _, none⟩) (by first | exact V_off HO_1.out (by have p_ := of_eq_true p316; have q_ := of_eq_true q316; omega) (by first | exact Nat.zero_lt_one | decide) (fun _ hk => hk.2.2.2.2.2.2.2) | (rw [add_block]; exact V_off HO_1.out (by have p_ := of_eq_true p316; have q_ := of_eq_true q316; omega) (by first | exact Nat.zero_lt_one | decide) (fun _ hk => hk.2.2.2.2.2.2.2)) | (show (Addr.add _ _).block ≠ _; rw [add_block]; exact V_off HO_1.out (by have p_ := of_eq_true p316; have q_ := of_eq_true q316; omega) (by first | exact Nat.zero_lt_one | decide) (fun _ hk => hk.2.2.2.2.2.2.2)) | (dsimp only; exact V_off HO_1.out (by have p_ := of_eq_true p316; have q_ := of_eq_true q316; omega) (by first | exact Nat.zero_lt_one | decide) (fun _ hk => hk.2.2.2.2.2.2.2))) _).trans (hHeld.2.2))))⟩ (fun hHeld => ?_)
       clear hK K
       refine pure_ (i := 12) (N := some 13) (v := ?_) (a' := ?_) #[T_,T_,T_,T_,T_,T_,T_,T_,T_,T_,T_,T_,T_] rfl rfl (any_of HT_.out (by kernel_rfl)) (fun _ _ _ h => h) (Or.inl ⟨by rfl, ?_⟩) ?_ ?_
       rotate_left
       ·
        intro w'
        go_simp
        with_reducible rfl
       rotate_left
       ·
        simp only [Act.put, List.setIfInBounds_toArray, List.set_cons_zero, List.set_cons_succ, i64_w, i32_w]
        rfl
       refine done_ (done_of HT_.out (by kernel_rfl)) ?_
       have hnb46 := NBq23.out
       have hnc46 := NBq14.out
       have hnb47 := NBq24.out
       have hnc47 := NBq15.out
       have hnb48 := NBq25.out
       have hnc48 := NBq16.out
       have hnb49 := NBq26.out
       have hnc49 := NBq2.out
       have hcz50_0 : w42.cell? ⟨gb325, 0, none⟩ = some (.slice none 0 0) := (kC BK325.out 0).trans rfl
       have hcz50_1 : w42.cell? ⟨gb325, 1, none⟩ = some (.int .i64 0) := (kC BK325.out 1).trans rfl
       have hfz50_0 := kF BK325.out 0
       have hfz50_1 := kF BK325.out 1
       have hnb51 := NBq17.out
       have hnc51 := NBq11.out
       have hnb52 := NBq18.out
       have hnc52 := NBq12.out
       have hnb53 := NBq35.out
       have hnc53 := NBq19.out
       have hcz54_0 : w42.cell? ⟨gb315, 0, none⟩ = some (.slice Ao35 x316000_1.length co35) := (kC BK315.out 0).trans rfl
       have hcz54_1 : w42.cell? ⟨gb315, 1, none⟩ = some (.int .i64 x316001_1) := (kC BK315.out 1).trans rfl
       have hfz54_0 := kF BK315.out 0
       have hfz54_1 := kF BK315.out 1
       try go_wp2
       go_roundg k1
       case measure => have := HK1.out; omega
       case rel => exact ⟨(t324), (wrap64 (x11_1 + 1)), (t320), (t323), (.slice Ao43 t320.length co43), (by first | rfl | (simp; done) | (simp [*]; done)), (by first | rfl | (simp; done) | (simp [*]; done)), H', ⟨by have := HK1.out; omega⟩, ⟨by (with_reducible repeat (first | apply Kd.V_alloc | apply Kd.V_drewN | apply Kd.V_drew)); exact Kd.V_mono (Kd.V_far (p := ⟨gb315, 1, none⟩) (Kd.V_far (p := ⟨gb315, 0, none⟩) (Kd.V_far (p := ⟨gb325, 1, none⟩) (Kd.V_far (p := ⟨gb325, 0, none⟩) (Kd.V_mono (Kd.V_mono HO_1.out (fun k_ hk => (⟨hk, hk.2.2.2.2.2.2.2⟩ : _ ∧ k_ ≠ gb325))) (fun k_ hk => (⟨hk, hk.1.2.2.2.2.2.2.1⟩ : _ ∧ k_ ≠ gb315))) (fun _ hk => hk.1.2) (.slice Ao43 t320.length co43)) (fun _ hk => hk.1.2) (.int .i64 t323)) (fun _ hk => hk.2) (.slice Ao43 t320.length co43)) (fun _ hk => hk.2) (.int .i64 t323)) (fun _ hk => ⟨hk.1.1.1, ⟨hk.1.1.2.2.1, ⟨hk.1.1.2.2.2.1, ⟨hk.1.1.2.2.2.2.1, ⟨hk.1.1.2.2.2.2.2.1, hk.1.1.2.2.2.2.2.2.1⟩⟩⟩⟩⟩)⟩, ⟨by (with_reducible repeat (first | apply Kd.V_alloc | apply Kd.V_drewN | apply Kd.V_drew)); exact Kd.V_mono (Kd.V_far (p := ⟨gb315, 1, none⟩) (Kd.V_far (p := ⟨gb315, 0, none⟩) (Kd.V_far (p := ⟨gb325, 1, none⟩) (Kd.V_far (p := ⟨gb325, 0, none⟩) (Kd.V_mono (Kd.V_mono HOq0.out (fun k_ hk => (⟨hk, hk.2.2.2.2.2.2.2⟩ : _ ∧ k_ ≠ gb325))) (fun k_ hk => (⟨hk, hk.1.2.2.2.2.2.2.1⟩ : _ ∧ k_ ≠ gb315))) (fun _ hk => hk.1.2) (.slice Ao43 t320.length co43)) (fun _ hk => hk.1.2) (.int .i64 t323)) (fun _ hk => hk.2) (.slice Ao43 t320.length co43)) (fun _ hk => hk.2) (.int .i64 t323)) (fun _ hk => ⟨hk.1.1.1, ⟨hk.1.1.2.2.1, ⟨hk.1.1.2.2.2.1, ⟨hk.1.1.2.2.2.2.1, ⟨hk.1.1.2.2.2.2.2.1, hk.1.1.2.2.2.2.2.2.1⟩⟩⟩⟩⟩)⟩, ⟨by (with_reducible repeat (first | apply Kd.R_alloc | apply Kd.R_drewN | apply Kd.R_drew)); exact Kd.R_mono (Kd.R_far (p := ⟨gb315, 1, none⟩) (Kd.R_far (p := ⟨gb315, 0, none⟩) (Kd.R_far (p := ⟨gb325, 1, none⟩) (Kd.R_far (p := ⟨gb325, 0, none⟩) (Kd.R_types (Kd.R_types HOq1.out BK325.out (by decide)) BK315.out (by decide)) (fun _ hk => hk.1.2) (.slice Ao43 t320.length co43)) (fun _ hk => hk.1.2) (.int .i64 t323)) (fun _ hk => hk.2) (.slice Ao43 t320.length co43)) (fun _ hk => hk.2) (.int .i64 t323)) (fun _ hk => hk.1.1)⟩, ⟨by (with_reducible repeat (first | apply Kd.V_alloc | apply Kd.V_drewN | apply Kd.V_drew)); exact Kd.V_mono (Kd.V_far (p := ⟨gb315, 1, none⟩) (Kd.V_far (p := ⟨gb315, 0, none⟩) (Kd.V_far (p := ⟨gb325, 1, none⟩) (Kd.V_far (p := ⟨gb325, 0, none⟩) (Kd.V_mono (Kd.V_mono HOq3.out (fun k_ hk => (⟨hk, hk.2.2.2.2.2.2.2⟩ : _ ∧ k_ ≠ gb325))) (fun k_ hk => (⟨hk, hk.1.2.2.2.2.2.2.1⟩ : _ ∧ k_ ≠ gb315))) (fun _ hk => hk.1.2) (.slice Ao43 t320.length co43)) (fun _ hk => hk.1.2) (.int .i64 t323)) (fun _ hk => hk.2) (.slice Ao43 t320.length co43)) (fun _ hk => hk.2) (.int .i64 t323)) (fun _ hk => ⟨hk.1.1.1, ⟨hk.1.1.2.2.1, ⟨hk.1.1.2.2.2.1, ⟨hk.1.1.2.2.2.2.1, ⟨hk.1.1.2.2.2.2.2.1, hk.1.1.2.2.2.2.2.2.1⟩⟩⟩⟩⟩)⟩, ⟨by (with_reducible repeat (first | apply Kd.V_alloc | apply Kd.V_drewN | apply Kd.V_drew)); exact Kd.V_mono (Kd.V_far (p := ⟨gb315, 1, none⟩) (Kd.V_far (p := ⟨gb315, 0, none⟩) (Kd.V_far (p := ⟨gb325, 1, none⟩) (Kd.V_far (p := ⟨gb325, 0, none⟩) (Kd.V_mono (Kd.V_mono HO322.out (fun k_ hk => (⟨hk, hk.2.2.2.2.2.2.2⟩ : _ ∧ k_ ≠ gb325))) (fun k_ hk => (⟨hk, hk.1.2.2.2.2.2.2.1⟩ : _ ∧ k_ ≠ gb315))) (fun _ hk => hk.1.2) (.slice Ao43 t320.length co43)) (fun _ hk => hk.1.2) (.int .i64 t323)) (fun _ hk => hk.2) (.slice Ao43 t320.length co43)) (fun _ hk => hk.2) (.int .i64 t323)) (fun _ hk => ⟨hk.1.1.1, ⟨hk.1.1.2.2.1, ⟨hk.1.1.2.2.2.1, ⟨hk.1.1.2.2.2.2.1, ⟨hk.1.1.2.2.2.2.2.1, hk.1.1.2.2.2.2.2.2.1⟩⟩⟩⟩⟩)⟩, ⟨by (with_reducible repeat (first | refine blk_drewN ?_ _ | refine blk_drew ?_ | refine blk_alloc ?_ _)); refine blk_far ?_ NBq11.out _; (with_reducible repeat (first | refine blk_drewN ?_ _ | refine blk_drew ?_ | refine blk_alloc ?_ _)); refine blk_far ?_ NBq11.out _; (with_reducible repeat (first | refine blk_drewN ?_ _ | refine blk_drew ?_ | refine blk_alloc ?_ _)); refine blk_far ?_ NBq14.out _; (with_reducible repeat (first | refine blk_drewN ?_ _ | refine blk_drew ?_ | refine blk_alloc ?_ _)); refine blk_far ?_ NBq14.out _; (with_reducible repeat (first | refine blk_drewN ?_ _ | refine blk_drew ?_ | refine blk_alloc ?_ _)); exact BK301.out⟩, ⟨by (with_reducible repeat (first | refine blk_drewN ?_ _ | refine blk_drew ?_ | refine blk_alloc ?_ _)); refine blk_far ?_ NBq12.out _; (with_reducible repeat (first | refine blk_drewN ?_ _ | refine blk_drew ?_ | refine blk_alloc ?_ _)); refine blk_far ?_ NBq12.out _; (with_reducible repeat (first | refine blk_drewN ?_ _ | refine blk_drew ?_ | refine blk_alloc ?_ _)); refine blk_far ?_ NBq15.out _; (with_reducible repeat (first | refine blk_drewN ?_ _ | refine blk_drew ?_ | refine blk_alloc ?_ _)); refine blk_far ?_ NBq15.out _; (with_reducible repeat (first | refine blk_drewN ?_ _ | refine blk_drew ?_ | refine blk_alloc ?_ _)); exact BK308.out⟩, ⟨by (with_reducible repeat (first | refine blk_drewN ?_ _ | refine blk_drew ?_ | refine blk_alloc ?_ _)); refine blk_far ?_ NBq19.out _; (with_reducible repeat (first | refine blk_drewN ?_ _ | refine blk_drew ?_ | refine blk_alloc ?_ _)); refine blk_far ?_ NBq19.out _; (with_reducible repeat (first | refine blk_drewN ?_ _ | refine blk_drew ?_ | refine blk_alloc ?_ _)); refine blk_far ?_ NBq16.out _; (with_reducible repeat (first | refine blk_drewN ?_ _ | refine blk_drew ?_ | refine blk_alloc ?_ _)); refine blk_far ?_ NBq16.out _; (with_reducible repeat (first | refine blk_drewN ?_ _ | refine blk_drew ?_ | refine blk_alloc ?_ _)); exact BK314.out⟩, ⟨by (with_reducible repeat (first | refine blk_drewN ?_ _ | refine blk_drew ?_ | refine blk_alloc ?_ _)); refine blk_put (cs := #[.slice Ao43 t320.length co43, .int .i64 x316001_1]) ?_ 1 _ rfl; (with_reducible repeat (first | refine blk_drewN ?_ _ | refine blk_drew ?_ | refine blk_alloc ?_ _)); refine blk_put (cs := #[.slice Ao35 x316000_1.length co35, .int .i64 x316001_1]) ?_ 0 _ rfl; (with_reducible repeat (first | refine blk_drewN ?_ _ | refine blk_drew ?_ | refine blk_alloc ?_ _)); refine blk_far ?_ NBq2.out _; (with_reducible repeat (first | refine blk_drewN ?_ _ | refine blk_drew ?_ | refine blk_alloc ?_ _)); refine blk_far ?_ NBq2.out _; (with_reducible repeat (first | refine blk_drewN ?_ _ | refine blk_drew ?_ | refine blk_alloc ?_ _)); exact BK315.out⟩, ⟨by repeat (first | (with_reducible first | exact HB.out | apply bA | apply bN | apply bD | refine bS ?_ GE301.out | refine bS ?_ GE308.out | refine bS ?_ GE314.out | refine bS ?_ GE315.out | refine bS ?_ GE325.out) | exact HB.out)⟩⟩
      ·
       rw [if_neg c33] at H
       exact absurd H (by simp)
     ·
      rw [if_neg c32] at H
      have c32b0 : (x10_1 == 0) = false := beq_eq_false_iff_ne.mpr c32
      have c32b1 : (x10_1 != 0) = true := bne_iff_ne.mpr c32
      replace H := Option.bind_eq_some_iff.mp H
      obtain ⟨⟨t326, t329⟩, A550, H⟩ := H
      replace H : ((banksmanref04_Same.f l0_0 a0_1 t304 t307).bind fun t331 => (if t331 = true then (if t302 = true then (if (strOfNums t326).toList = (strOfNums l0_0).toList then (if (l1.length : Int) = 0 then (if t313 = 0 then ((banksmanref04_Same.f t309 t312 x316000_1 x316001_1).bind fun t332 => (some t332)) else (some true)) else (if ((t313 == 0) == (x10_1 == 0)) = true then (if t313 = 0 then ((banksmanref04_Same.f t309 t312 x316000_1 x316001_1).bind fun t333 => (some t333)) else (some true)) else (some false))) else (some false)) else (some false)) else (if t302 = true then (some false) else (some false)))) = some r := H
      have A55 := aM A550
      clear A550
      replace H := Option.bind_eq_some_iff.mp H
      obtain ⟨t331, A560, H⟩ := H
      replace H : (if t331 = true then (if t302 = true then (if (strOfNums t326).toList = (strOfNums l0_0).toList then (if (l1.length : Int) = 0 then (if t313 = 0 then ((banksmanref04_Same.f t309 t312 x316000_1 x316001_1).bind fun t332 => (some t332)) else (some true)) else (if ((t313 == 0) == (x10_1 == 0)) = true then (if t313 = 0 then ((banksmanref04_Same.f t309 t312 x316000_1 x316001_1).bind fun t333 => (some t333)) else (some true)) else (some false))) else (some false)) else (some false)) else (if t302 = true then (some false) else (some false))) = some r := H
      have A56 := aM A560
      clear A560
      by_cases c57 : t331 = true
      ·
       subst c57
       have H1 : (if t302 = true then (if (strOfNums t326).toList = (strOfNums l0_0).toList then (if (l1.length : Int) = 0 then (if t313 = 0 then ((banksmanref04_Same.f t309 t312 x316000_1 x316001_1).bind fun t332 => (some t332)) else (some true)) else (if ((t313 == 0) == (x10_1 == 0)) = true then (if t313 = 0 then ((banksmanref04_Same.f t309 t312 x316000_1 x316001_1).bind fun t333 => (some t333)) else (some true)) else (some false))) else (some false)) else (some false)) = some r := by rw [if_pos rfl] at H; exact H
       clear H
       have H := H1
       clear H1
       by_cases c58 : t302 = true
       ·
        subst c58
        have H1 : (if (strOfNums t326).toList = (strOfNums l0_0).toList then (if (l1.length : Int) = 0 then (if t313 = 0 then ((banksmanref04_Same.f t309 t312 x316000_1 x316001_1).bind fun t332 => (some t332)) else (some true)) else (if ((t313 == 0) == (x10_1 == 0)) = true then (if t313 = 0 then ((banksmanref04_Same.f t309 t312 x316000_1 x316001_1).bind fun t333 => (some t333)) else (some true)) else (some false))) else (some false)) = some r := by rw [if_pos rfl] at H; exact H
        clear H
        have H := H1
        clear H1
        by_cases c59 : (strOfNums t326).toList = (strOfNums l0_0).toList
        ·
         rw [if_pos c59] at H
         have c59b0 : ((strOfNums t326).toList == (strOfNums l0_0).toList) = true := beq_iff_eq.mpr c59
         have c59b1 : ((strOfNums t326).toList != (strOfNums l0_0).toList) = false := bne_eq_false_iff_eq.mpr c59
         clear c59
         by_cases c60 : (l1.length : Int) = 0
         ·
          rw [if_pos c60] at H
          have c60b0 : ((l1.length : Int) == 0) = true := beq_iff_eq.mpr c60
          have c60b1 : ((l1.length : Int) != 0) = false := bne_eq_false_iff_eq.mpr c60
          clear c60
          by_cases c61 : t313 = 0
          ·
           rw [if_pos c61] at H
           have c61b0 : (t313 == 0) = true := beq_iff_eq.mpr c61
           have c61b1 : (t313 != 0) = false := bne_eq_false_iff_eq.mpr c61
           clear c61
           replace H := Option.bind_eq_some_iff.mp H
           obtain ⟨t332, A620, H⟩ := H
           replace H : (some t332) = some r := H
           have A62 := aM A620
           clear A620
           obtain rfl := Option.some.inj H
           have hnb63 := NBq13.out
           have hnc63 := NBq20.out
           have hnb64 := NBq0.out
           have hnc64 := NBq21.out
           have hnb65 := NBq11.out
           have hnc65 := NBq17.out
           have hcz66_0 : wr.cell? ⟨gb301, 0, none⟩ = some (.slice A0_0 l0_0.length c0_0) := (kC BK301.out 0).trans rfl
           have hcz66_1 : wr.cell? ⟨gb301, 1, none⟩ = some (.int .i64 a0_1) := (kC BK301.out 1).trans rfl
           have hfz66_0 := kF BK301.out 0
           have hfz66_1 := kF BK301.out 1
           go_wp2_with (first | ((with_reducible refine gate_callee (f := 9) rfl ?_); refine goesL_ (some 54) rfl rfl Try.func9 (by kernel_rfl) rfl #[.agg #[.slice A0_0 l0_0.length c0_0, .int .i64 a0_1]] rfl (by (try simp only [List.map_toArray, List.map_cons, List.map_nil]); first | done | rfl | (simp only [List.length_drop, List.length_take]; rfl)) ?_; (with_reducible refine (wal_Sync.calls _ _ l0_0 a0_1 t326 t329 _ ?side1 ?side2 A55.out).mono ?_); (case side1 => repeat (first | exact (Kd.V_reads' HOq0.out).2.2 | (with_reducible refine Kd.C_alloc ?_ _) | (with_reducible refine Kd.C_drewN ?_ _) | (with_reducible refine Kd.C_drew ?_))); (case side2 => exact (Kd.V_reads' HOq0.out).2.1); rintro e w67 ⟨v327, rfl, ho0, hb⟩; refine ⟨_, rfl, ?_⟩; replace HO_1 := aM (vB (vU HO_1.out) hb); replace HOq0 := aM (vB (vU HOq0.out) hb); replace HOq3 := aM (vB (vU HOq3.out) hb); replace HOq2 := aM (vB (vU HOq2.out) hb); have HO328 := aM (Kd.V_lower (Kd.V_mono (ok' := fun k_ => ((P0_0_ k_ ∨ P1_ k_) ∨ w.heap.size ≤ k_) ∧ some k_ ≠ (.slice Ao15 t304.length co15 : Value).ownBlock ∧ k_ ≠ gb301 ∧ k_ ≠ gb308 ∧ k_ ≠ gb314 ∧ k_ ≠ gb315) ho0 (fun k_ hk_ => ⟨(.inr (Nat.le_trans (below_size (by repeat (first | (with_reducible first | exact HB.out | apply bA | apply bN | apply bD | refine bS ?_ GE301.out | refine bS ?_ GE308.out | refine bS ?_ GE314.out | refine bS ?_ GE315.out) | exact HB.out))) hk_)), (Kd.fresh' (Kd.R_lt (rU HOq1.out)) k_ hk_), (Kd.freshB (g := gb301) (o := .cells #[.slice A0_0 l0_0.length c0_0, .int .i64 a0_1] 26 (0, 0)) (bU BK301.out) k_ hk_), (Kd.freshB (g := gb308) (o := .cells #[.slice Ao15 t304.length co15, .int .i64 t307] 26 (0, 0)) (bU BK308.out) k_ hk_), (Kd.freshB (g := gb314) (o := .cells #[.slice Ao21 t309.length co21, .int .i64 t312] 26 (0, 0)) (bU BK314.out) k_ hk_), (Kd.freshB (g := gb315) (o := .cells #[u316000, .int .i64 x316001_1] 26 (0, 0)) (bU BK315.out) k_ hk_)⟩)) (below_size (by repeat (first | (with_reducible first | exact HB.out | apply bA | apply bN | apply bD | refine bS ?_ GE301.out | refine bS ?_ GE308.out | refine bS ?_ GE314.out | refine bS ?_ GE315.out) | exact HB.out)))); replace HOq1 := aM (Kd.R_below (rU HOq1.out) hb); replace BK301 := aM (kB (g := gb301) (o := .cells #[.slice A0_0 l0_0.length c0_0, .int .i64 a0_1] 26 (0, 0)) (bU BK301.out) hb); replace BK308 := aM (kB (g := gb308) (o := .cells #[.slice Ao15 t304.length co15, .int .i64 t307] 26 (0, 0)) (bU BK308.out) hb); replace BK314 := aM (kB (g := gb314) (o := .cells #[.slice Ao21 t309.length co21, .int .i64 t312] 26 (0, 0)) (bU BK314.out) hb); replace BK315 := aM (kB (g := gb315) (o := .cells #[u316000, .int .i64 x316001_1] 26 (0, 0)) (bU BK315.out) hb); replace HB := aM (below_step (by repeat (first | (with_reducible first | exact HB.out | apply bA | apply bN | apply bD | refine bS ?_ GE301.out | refine bS ?_ GE308.out | refine bS ?_ GE314.out | refine bS ?_ GE315.out) | exact HB.out)) hb); (try clear hb); (try clear hk)) | ((with_reducible refine gate_dst (N := 14) rfl ?_); (try (refine gate_guard (by rfl) ?_; dsimp only)); refine box_event ?hg (N := 14) ?hd (cs := #[.slice none 0 0, .int .i64 0]) (t := 26) ?hr ?_; (case hd => rfl); (case hg => rfl); (case hr => first | (go_simp; done) | (go_simp; rfl)); intro gb330 hg w68 hbox hb; replace HO_1 := aM (vB (vE (vU HO_1.out) gb330 (Nat.le_of_eq hg.symm)) hb); replace HOq0 := aM (vB (vE (vU HOq0.out) gb330 (Nat.le_of_eq hg.symm)) hb); replace HOq1 := aM (Kd.R_below (rU HOq1.out) hb); replace HOq3 := aM (vB (vE (vU HOq3.out) gb330 (Nat.le_of_eq hg.symm)) hb); replace HOq2 := aM (vB (vE (vU HOq2.out) gb330 (Nat.le_of_eq hg.symm)) hb); replace HO328 := aM (vB (vE (vU HO328.out) gb330 (Nat.le_of_eq hg.symm)) hb); have BK330 := aM (hbox); have GW330 := aM ((by rw [hg]; exact (below_size (by repeat (first | (with_reducible first | exact HB.out | apply bA | apply bN | apply bD | refine bS ?_ GE301.out | refine bS ?_ GE308.out | refine bS ?_ GE314.out | refine bS ?_ GE315.out) | exact HB.out))) : w.heap.size ≤ gb330)); have GE330 := aM ((by rw [hg]; exact (below_size (by repeat (first | (with_reducible first | exact HB.out | apply bA | apply bN | apply bD | refine bS ?_ GE301.out | refine bS ?_ GE308.out | refine bS ?_ GE314.out | refine bS ?_ GE315.out) | exact HB.out))) : w.heap.size ≤ gb330)); replace HB := aM (below_step (by repeat (first | (with_reducible first | exact HB.out | apply bA | apply bN | apply bD | refine bS ?_ GE301.out | refine bS ?_ GE308.out | refine bS ?_ GE314.out | refine bS ?_ GE315.out) | exact HB.out)) hb); have NBq3 := aM ((by rw [hg]; exact Nat.ne_of_lt (blk_lt (g := gb301) (o := .cells #[.slice A0_0 l0_0.length c0_0, .int .i64 a0_1] 26 (0, 0)) (bU BK301.out)) : gb301 ≠ gb330)); have NBq27 := aM ((by rw [hg]; exact Nat.ne_of_gt (blk_lt (g := gb301) (o := .cells #[.slice A0_0 l0_0.length c0_0, .int .i64 a0_1] 26 (0, 0)) (bU BK301.out)) : gb330 ≠ gb301)); replace BK301 := aM (kB (g := gb301) (o := .cells #[.slice A0_0 l0_0.length c0_0, .int .i64 a0_1] 26 (0, 0)) (bU BK301.out) hb); have NBq4 := aM ((by rw [hg]; exact Nat.ne_of_lt (blk_lt (g := gb308) (o := .cells #[.slice Ao15 t304.length co15, .int .i64 t307] 26 (0, 0)) (bU BK308.out)) : gb308 ≠ gb330)); have NBq28 := aM ((by rw [hg]; exact Nat.ne_of_gt (blk_lt (g := gb308) (o := .cells #[.slice Ao15 t304.length co15, .int .i64 t307] 26 (0, 0)) (bU BK308.out)) : gb330 ≠ gb308)); replace BK308 := aM (kB (g := gb308) (o := .cells #[.slice Ao15 t304.length co15, .int .i64 t307] 26 (0, 0)) (bU BK308.out) hb); have NBq5 := aM ((by rw [hg]; exact Nat.ne_of_lt (blk_lt (g := gb314) (o := .cells #[.slice Ao21 t309.length co21, .int .i64 t312] 26 (0, 0)) (bU BK314.out)) : gb314 ≠ gb330)); have NBq29 := aM ((by rw [hg]; exact Nat.ne_of_gt (blk_lt (g := gb314) (o := .cells #[.slice Ao21 t309.length co21, .int .i64 t312] 26 (0, 0)) (bU BK314.out)) : gb330 ≠ gb314)); replace BK314 := aM (kB (g := gb314) (o := .cells #[.slice Ao21 t309.length co21, .int .i64 t312] 26 (0, 0)) (bU BK314.out) hb); have NBq6 := aM ((by rw [hg]; exact Nat.ne_of_lt (blk_lt (g := gb315) (o := .cells #[u316000, .int .i64 x316001_1] 26 (0, 0)) (bU BK315.out)) : gb315 ≠ gb330)); have NBq30 := aM ((by rw [hg]; exact Nat.ne_of_gt (blk_lt (g := gb315) (o := .cells #[u316000, .int .i64 x316001_1] 26 (0, 0)) (bU BK315.out)) : gb330 ≠ gb315)); replace BK315 := aM (kB (g := gb315) (o := .cells #[u316000, .int .i64 x316001_1] 26 (0, 0)) (bU BK315.out) hb); clear hb hbox hg; obtain ⟨Ao69, co69, eo69⟩ := Kd.V_slice HO328.out; subst eo69; have hnb70 := NBq27.out; have hnc70 := NBq3.out; have hnb71 := NBq28.out; have hnc71 := NBq4.out; have hnb72 := NBq29.out; have hnc72 := NBq5.out; have hnb73 := NBq30.out; have hnc73 := NBq6.out; have hcz74_0 : w68.cell? ⟨gb330, 0, none⟩ = some (.slice none 0 0) := (kC BK330.out 0).trans rfl; have hcz74_1 : w68.cell? ⟨gb330, 1, none⟩ = some (.int .i64 0) := (kC BK330.out 1).trans rfl; have hfz74_0 := kF BK330.out 0; have hfz74_1 := kF BK330.out 1; have hcz75_0 : w68.cell? ⟨gb301, 0, none⟩ = some (.slice A0_0 l0_0.length c0_0) := (kC BK301.out 0).trans rfl; have hcz75_1 : w68.cell? ⟨gb301, 1, none⟩ = some (.int .i64 a0_1) := (kC BK301.out 1).trans rfl; have hfz75_0 := kF BK301.out 0; have hfz75_1 := kF BK301.out 1; have hnb76 := NBq1.out; have hnc76 := NBq22.out; have hnb77 := NBq12.out; have hnc77 := NBq18.out; have hcz78_0 : w68.cell? ⟨gb308, 0, none⟩ = some (.slice Ao15 t304.length co15) := (kC BK308.out 0).trans rfl; have hcz78_1 : w68.cell? ⟨gb308, 1, none⟩ = some (.int .i64 t307) := (kC BK308.out 1).trans rfl; have hfz78_0 := kF BK308.out 0; have hfz78_1 := kF BK308.out 1) | ((with_reducible refine gate_callee (f := 15) rfl ?_); refine goesL_ (some 57) rfl rfl Try.func15 (by kernel_rfl) rfl #[.agg #[.slice A0_0 l0_0.length c0_0, .int .i64 a0_1], .agg #[.slice Ao15 t304.length co15, .int .i64 t307]] rfl (by (try simp only [List.map_toArray, List.map_cons, List.map_nil]); first | done | rfl | (simp only [List.length_drop, List.length_take]; rfl)) ?_; (with_reducible refine (banksmanref04_Same.calls _ _ l0_0 a0_1 _ _ t304 t307 true _ ?side1 ?side2 ?side3 ?side4 A56.out).mono ?_); (case side1 => refine (Kd.V_reads' (e := 5) (base := w.heap.size) (ok := fun k_ => ((((P0_0_ k_ ∨ P1_ k_) ∨ w.heap.size ≤ k_) ∧ (some k_ ≠ (.slice Ao15 t304.length co15 : Value).ownBlock ∧ (k_ ≠ gb301 ∧ (k_ ≠ gb308 ∧ (k_ ≠ gb314 ∧ k_ ≠ gb315))))) ∧ k_ ≠ gb330)) (n := l0_0.length) (c := c0_0) ?_).2.2; exact (by (with_reducible repeat (first | apply Kd.V_alloc | apply Kd.V_drewN | apply Kd.V_drew)); exact (Kd.V_mono (Kd.V_far (p := ⟨gb330, 1, none⟩) (Kd.V_far (p := ⟨gb330, 0, none⟩) (Kd.V_mono HOq0.out (fun k_ hk => (⟨hk, hk.2⟩ : _ ∧ k_ ≠ gb330))) (fun _ hk => hk.2) (.slice Ao69 t326.length co69)) (fun _ hk => hk.2) (.int .i64 t329)) (fun _ h_ => h_.1)))); (case side2 => exact (Kd.V_reads' HOq0.out).2.1); (case side3 => refine (Kd.R_reads' (e := 5) (base := w.heap.size) (ok := fun k_ => (w.heap.size ≤ k_)) (n := t304.length) (c := co15) ?_).2.2; exact (by (with_reducible repeat (first | apply Kd.R_alloc | apply Kd.R_drewN | apply Kd.R_drew)); exact (Kd.R_mono (Kd.R_far (p := ⟨gb330, 1, none⟩) (Kd.R_far (p := ⟨gb330, 0, none⟩) (Kd.R_types HOq1.out BK330.out (by decide)) (fun _ hk => hk.2) (.slice Ao69 t326.length co69)) (fun _ hk => hk.2) (.int .i64 t329)) (fun _ h_ => h_.1)))); (case side4 => exact (Kd.R_reads' HOq1.out).2.1); rintro e w79 ⟨rfl, hb⟩; refine ⟨_, rfl, ?_⟩; replace HO_1 := aM (vB (by (with_reducible repeat (first | apply Kd.V_alloc | apply Kd.V_drewN | apply Kd.V_drew)); exact (Kd.V_mono (Kd.V_far (p := ⟨gb330, 1, none⟩) (Kd.V_far (p := ⟨gb330, 0, none⟩) (Kd.V_mono HO_1.out (fun k_ hk => (⟨hk, hk.2⟩ : _ ∧ k_ ≠ gb330))) (fun _ hk => hk.2) (.slice Ao69 t326.length co69)) (fun _ hk => hk.2) (.int .i64 t329)) (fun _ h_ => h_.1))) hb); replace HOq0 := aM (vB (by (with_reducible repeat (first | apply Kd.V_alloc | apply Kd.V_drewN | apply Kd.V_drew)); exact (Kd.V_mono (Kd.V_far (p := ⟨gb330, 1, none⟩) (Kd.V_far (p := ⟨gb330, 0, none⟩) (Kd.V_mono HOq0.out (fun k_ hk => (⟨hk, hk.2⟩ : _ ∧ k_ ≠ gb330))) (fun _ hk => hk.2) (.slice Ao69 t326.length co69)) (fun _ hk => hk.2) (.int .i64 t329)) (fun _ h_ => h_.1))) hb); replace HOq1 := aM (Kd.R_below (by (with_reducible repeat (first | apply Kd.R_alloc | apply Kd.R_drewN | apply Kd.R_drew)); exact (Kd.R_mono (Kd.R_far (p := ⟨gb330, 1, none⟩) (Kd.R_far (p := ⟨gb330, 0, none⟩) (Kd.R_types HOq1.out BK330.out (by decide)) (fun _ hk => hk.2) (.slice Ao69 t326.length co69)) (fun _ hk => hk.2) (.int .i64 t329)) (fun _ h_ => h_.1))) hb); replace HOq3 := aM (vB (by (with_reducible repeat (first | apply Kd.V_alloc | apply Kd.V_drewN | apply Kd.V_drew)); exact (Kd.V_mono (Kd.V_far (p := ⟨gb330, 1, none⟩) (Kd.V_far (p := ⟨gb330, 0, none⟩) (Kd.V_mono HOq3.out (fun k_ hk => (⟨hk, hk.2⟩ : _ ∧ k_ ≠ gb330))) (fun _ hk => hk.2) (.slice Ao69 t326.length co69)) (fun _ hk => hk.2) (.int .i64 t329)) (fun _ h_ => h_.1))) hb); replace HOq2 := aM (vB (by (with_reducible repeat (first | apply Kd.V_alloc | apply Kd.V_drewN | apply Kd.V_drew)); exact (Kd.V_mono (Kd.V_far (p := ⟨gb330, 1, none⟩) (Kd.V_far (p := ⟨gb330, 0, none⟩) (Kd.V_mono HOq2.out (fun k_ hk => (⟨hk, hk.2⟩ : _ ∧ k_ ≠ gb330))) (fun _ hk => hk.2) (.slice Ao69 t326.length co69)) (fun _ hk => hk.2) (.int .i64 t329)) (fun _ h_ => h_.1))) hb); replace HO328 := aM (vB (by (with_reducible repeat (first | apply Kd.V_alloc | apply Kd.V_drewN | apply Kd.V_drew)); exact (Kd.V_mono (Kd.V_far (p := ⟨gb330, 1, none⟩) (Kd.V_far (p := ⟨gb330, 0, none⟩) (Kd.V_mono HO328.out (fun k_ hk => (⟨hk, hk.2⟩ : _ ∧ k_ ≠ gb330))) (fun _ hk => hk.2) (.slice Ao69 t326.length co69)) (fun _ hk => hk.2) (.int .i64 t329)) (fun _ h_ => h_.1))) hb); replace BK301 := aM (kB (g := gb301) (o := .cells #[.slice A0_0 l0_0.length c0_0, .int .i64 a0_1] 26 (0, 0)) (by (with_reducible repeat (first | refine blk_drewN ?_ _ | refine blk_drew ?_ | refine blk_alloc ?_ _)); refine blk_far ?_ NBq3.out _; (with_reducible repeat (first | refine blk_drewN ?_ _ | refine blk_drew ?_ | refine blk_alloc ?_ _)); refine blk_far ?_ NBq3.out _; (with_reducible repeat (first | refine blk_drewN ?_ _ | refine blk_drew ?_ | refine blk_alloc ?_ _)); exact BK301.out) hb); replace BK308 := aM (kB (g := gb308) (o := .cells #[.slice Ao15 t304.length co15, .int .i64 t307] 26 (0, 0)) (by (with_reducible repeat (first | refine blk_drewN ?_ _ | refine blk_drew ?_ | refine blk_alloc ?_ _)); refine blk_far ?_ NBq4.out _; (with_reducible repeat (first | refine blk_drewN ?_ _ | refine blk_drew ?_ | refine blk_alloc ?_ _)); refine blk_far ?_ NBq4.out _; (with_reducible repeat (first | refine blk_drewN ?_ _ | refine blk_drew ?_ | refine blk_alloc ?_ _)); exact BK308.out) hb); replace BK314 := aM (kB (g := gb314) (o := .cells #[.slice Ao21 t309.length co21, .int .i64 t312] 26 (0, 0)) (by (with_reducible repeat (first | refine blk_drewN ?_ _ | refine blk_drew ?_ | refine blk_alloc ?_ _)); refine blk_far ?_ NBq5.out _; (with_reducible repeat (first | refine blk_drewN ?_ _ | refine blk_drew ?_ | refine blk_alloc ?_ _)); refine blk_far ?_ NBq5.out _; (with_reducible repeat (first | refine blk_drewN ?_ _ | refine blk_drew ?_ | refine blk_alloc ?_ _)); exact BK314.out) hb); replace BK315 := aM (kB (g := gb315) (o := .cells #[u316000, .int .i64 x316001_1] 26 (0, 0)) (by (with_reducible repeat (first | refine blk_drewN ?_ _ | refine blk_drew ?_ | refine blk_alloc ?_ _)); refine blk_far ?_ NBq6.out _; (with_reducible repeat (first | refine blk_drewN ?_ _ | refine blk_drew ?_ | refine blk_alloc ?_ _)); refine blk_far ?_ NBq6.out _; (with_reducible repeat (first | refine blk_drewN ?_ _ | refine blk_drew ?_ | refine blk_alloc ?_ _)); exact BK315.out) hb); replace BK330 := aM (kB (g := gb330) (o := .cells #[.slice Ao69 t326.length co69, .int .i64 t329] 26 (0, 0)) (by (with_reducible repeat (first | refine blk_drewN ?_ _ | refine blk_drew ?_ | refine blk_alloc ?_ _)); refine blk_put (cs := #[.slice Ao69 t326.length co69, .int .i64 0]) ?_ 1 _ rfl; (with_reducible repeat (first | refine blk_drewN ?_ _ | refine blk_drew ?_ | refine blk_alloc ?_ _)); refine blk_put (cs := #[.slice none 0 0, .int .i64 0]) ?_ 0 _ rfl; (with_reducible repeat (first | refine blk_drewN ?_ _ | refine blk_drew ?_ | refine blk_alloc ?_ _)); exact BK330.out) hb); replace HB := aM (below_step (by repeat (first | (with_reducible first | exact HB.out | apply bA | apply bN | apply bD | refine bS ?_ GE301.out | refine bS ?_ GE308.out | refine bS ?_ GE314.out | refine bS ?_ GE315.out | refine bS ?_ GE330.out) | exact HB.out)) hb); (try clear hb); (try clear hb2); (try clear hk); (try clear hi); have hcz80_0 : w79.cell? ⟨gb330, 0, none⟩ = some (.slice Ao69 t326.length co69) := (kC BK330.out 0).trans rfl; have hcz80_1 : w79.cell? ⟨gb330, 1, none⟩ = some (.int .i64 t329) := (kC BK330.out 1).trans rfl; have hfz80_0 := kF BK330.out 0; have hfz80_1 := kF BK330.out 1; have hcv81 := Kd.C_string (P := Try.prog) (A := Ao69) (c := co69) Try.underlying23 Try.underlying5 Try.underlying9 (Kd.V_reads' HO328.out).2.2; have hcz82_0 : w79.cell? ⟨gb301, 0, none⟩ = some (.slice A0_0 l0_0.length c0_0) := (kC BK301.out 0).trans rfl; have hcz82_1 : w79.cell? ⟨gb301, 1, none⟩ = some (.int .i64 a0_1) := (kC BK301.out 1).trans rfl; have hfz82_0 := kF BK301.out 0; have hfz82_1 := kF BK301.out 1; have hcv83 := Kd.C_string (P := Try.prog) (A := A0_0) (c := c0_0) Try.underlying23 Try.underlying5 Try.underlying9 (Kd.V_reads' HOq0.out).2.2; have hnb84 := NBq19.out; have hnc84 := NBq35.out; have hcz85_0 : w79.cell? ⟨gb314, 0, none⟩ = some (.slice Ao21 t309.length co21) := (kC BK314.out 0).trans rfl; have hcz85_1 : w79.cell? ⟨gb314, 1, none⟩ = some (.int .i64 t312) := (kC BK314.out 1).trans rfl; have hfz85_0 := kF BK314.out 0; have hfz85_1 := kF BK314.out 1; have hcz86_0 : w79.cell? ⟨gb315, 0, none⟩ = some (u316000) := (kC BK315.out 0).trans rfl; have hcz86_1 : w79.cell? ⟨gb315, 1, none⟩ = some (.int .i64 x316001_1) := (kC BK315.out 1).trans rfl; have hfz86_0 := kF BK315.out 0; have hfz86_1 := kF BK315.out 1; obtain ⟨Ao87, co87, eo87⟩ := Kd.V_slice HOq2.out; subst eo87) | (go_at_call 15; (with_reducible refine (banksmanref04_Same.calls _ _ t309 t312 _ _ x316000_1 x316001_1 t332 _ ?side1 ?side2 ?side3 ?side4 A62.out).mono ?_); (case side1 => repeat (first | exact (Kd.V_reads' HOq3.out).2.2 | (with_reducible refine Kd.C_alloc ?_ _) | (with_reducible refine Kd.C_drewN ?_ _) | (with_reducible refine Kd.C_drew ?_))); (case side2 => exact (Kd.V_reads' HOq3.out).2.1); (case side3 => repeat (first | exact (Kd.V_reads' HOq2.out).2.2 | (with_reducible refine Kd.C_alloc ?_ _) | (with_reducible refine Kd.C_drewN ?_ _) | (with_reducible refine Kd.C_drew ?_))); (case side4 => exact (Kd.V_reads' HOq2.out).2.1); rintro e w88 ⟨rfl, hb⟩; replace HO_1 := aM (vB (vU HO_1.out) hb); replace HOq0 := aM (vB (vU HOq0.out) hb); replace HOq1 := aM (Kd.R_below (rU HOq1.out) hb); replace HOq3 := aM (vB (vU HOq3.out) hb); replace HOq2 := aM (vB (vU HOq2.out) hb); replace HO328 := aM (vB (vU HO328.out) hb); replace BK301 := aM (kB (g := gb301) (o := .cells #[.slice A0_0 l0_0.length c0_0, .int .i64 a0_1] 26 (0, 0)) (bU BK301.out) hb); replace BK308 := aM (kB (g := gb308) (o := .cells #[.slice Ao15 t304.length co15, .int .i64 t307] 26 (0, 0)) (bU BK308.out) hb); replace BK314 := aM (kB (g := gb314) (o := .cells #[.slice Ao21 t309.length co21, .int .i64 t312] 26 (0, 0)) (bU BK314.out) hb); replace BK315 := aM (kB (g := gb315) (o := .cells #[.slice Ao87 x316000_1.length co87, .int .i64 x316001_1] 26 (0, 0)) (bU BK315.out) hb); replace BK330 := aM (kB (g := gb330) (o := .cells #[.slice Ao69 t326.length co69, .int .i64 t329] 26 (0, 0)) (bU BK330.out) hb); replace HB := aM (below_step (by repeat (first | (with_reducible first | exact HB.out | apply bA | apply bN | apply bD | refine bS ?_ GE301.out | refine bS ?_ GE308.out | refine bS ?_ GE314.out | refine bS ?_ GE315.out | refine bS ?_ GE330.out) | exact HB.out)) hb); (try clear hb); (try clear hb2); (try clear hk); (try clear hi)))
           go_ret
           exact ⟨by first | rfl | (simp [errW_none, errW_some] <;> rfl) | (simp [*, errW_none, errW_some] <;> rfl), by repeat (first | (with_reducible first | exact HB.out | apply bA | apply bN | apply bD | refine bS ?_ GE301.out | refine bS ?_ GE308.out | refine bS ?_ GE314.out | refine bS ?_ GE315.out | refine bS ?_ GE330.out) | exact HB.out)⟩
          ·
           rw [if_neg c61] at H
           have c61b0 : (t313 == 0) = false := beq_eq_false_iff_ne.mpr c61
           have c61b1 : (t313 != 0) = true := bne_iff_ne.mpr c61
           obtain rfl := Option.some.inj H
           have hnb89 := NBq13.out
           have hnc89 := NBq20.out
           have hnb90 := NBq0.out
           have hnc90 := NBq21.out
           have hnb91 := NBq11.out
           have hnc91 := NBq17.out
           have hcz92_0 : wr.cell? ⟨gb301, 0, none⟩ = some (.slice A0_0 l0_0.length c0_0) := (kC BK301.out 0).trans rfl
           have hcz92_1 : wr.cell? ⟨gb301, 1, none⟩ = some (.int .i64 a0_1) := (kC BK301.out 1).trans rfl
           have hfz92_0 := kF BK301.out 0
           have hfz92_1 := kF BK301.out 1
           go_wp2_with (first | ((with_reducible refine gate_callee (f := 9) rfl ?_); refine goesL_ (some 54) rfl rfl Try.func9 (by kernel_rfl) rfl #[.agg #[.slice A0_0 l0_0.length c0_0, .int .i64 a0_1]] rfl (by (try simp only [List.map_toArray, List.map_cons, List.map_nil]); first | done | rfl | (simp only [List.length_drop, List.length_take]; rfl)) ?_; (with_reducible refine (wal_Sync.calls _ _ l0_0 a0_1 t326 t329 _ ?side1 ?side2 A55.out).mono ?_); (case side1 => repeat (first | exact (Kd.V_reads' HOq0.out).2.2 | (with_reducible refine Kd.C_alloc ?_ _) | (with_reducible refine Kd.C_drewN ?_ _) | (with_reducible refine Kd.C_drew ?_))); (case side2 => exact (Kd.V_reads' HOq0.out).2.1); rintro e w93 ⟨v327, rfl, ho0, hb⟩; refine ⟨_, rfl, ?_⟩; replace HO_1 := aM (vB (vU HO_1.out) hb); replace HOq0 := aM (vB (vU HOq0.out) hb); replace HOq3 := aM (vB (vU HOq3.out) hb); replace HOq2 := aM (vB (vU HOq2.out) hb); have HO328 := aM (Kd.V_lower (Kd.V_mono (ok' := fun k_ => ((P0_0_ k_ ∨ P1_ k_) ∨ w.heap.size ≤ k_) ∧ some k_ ≠ (.slice Ao15 t304.length co15 : Value).ownBlock ∧ k_ ≠ gb301 ∧ k_ ≠ gb308 ∧ k_ ≠ gb314 ∧ k_ ≠ gb315) ho0 (fun k_ hk_ => ⟨(.inr (Nat.le_trans (below_size (by repeat (first | (with_reducible first | exact HB.out | apply bA | apply bN | apply bD | refine bS ?_ GE301.out | refine bS ?_ GE308.out | refine bS ?_ GE314.out | refine bS ?_ GE315.out) | exact HB.out))) hk_)), (Kd.fresh' (Kd.R_lt (rU HOq1.out)) k_ hk_), (Kd.freshB (g := gb301) (o := .cells #[.slice A0_0 l0_0.length c0_0, .int .i64 a0_1] 26 (0, 0)) (bU BK301.out) k_ hk_), (Kd.freshB (g := gb308) (o := .cells #[.slice Ao15 t304.length co15, .int .i64 t307] 26 (0, 0)) (bU BK308.out) k_ hk_), (Kd.freshB (g := gb314) (o := .cells #[.slice Ao21 t309.length co21, .int .i64 t312] 26 (0, 0)) (bU BK314.out) k_ hk_), (Kd.freshB (g := gb315) (o := .cells #[u316000, .int .i64 x316001_1] 26 (0, 0)) (bU BK315.out) k_ hk_)⟩)) (below_size (by repeat (first | (with_reducible first | exact HB.out | apply bA | apply bN | apply bD | refine bS ?_ GE301.out | refine bS ?_ GE308.out | refine bS ?_ GE314.out | refine bS ?_ GE315.out) | exact HB.out)))); replace HOq1 := aM (Kd.R_below (rU HOq1.out) hb); replace BK301 := aM (kB (g := gb301) (o := .cells #[.slice A0_0 l0_0.length c0_0, .int .i64 a0_1] 26 (0, 0)) (bU BK301.out) hb); replace BK308 := aM (kB (g := gb308) (o := .cells #[.slice Ao15 t304.length co15, .int .i64 t307] 26 (0, 0)) (bU BK308.out) hb); replace BK314 := aM (kB (g := gb314) (o := .cells #[.slice Ao21 t309.length co21, .int .i64 t312] 26 (0, 0)) (bU BK314.out) hb); replace BK315 := aM (kB (g := gb315) (o := .cells #[u316000, .int .i64 x316001_1] 26 (0, 0)) (bU BK315.out) hb); replace HB := aM (below_step (by repeat (first | (with_reducible first | exact HB.out | apply bA | apply bN | apply bD | refine bS ?_ GE301.out | refine bS ?_ GE308.out | refine bS ?_ GE314.out | refine bS ?_ GE315.out) | exact HB.out)) hb); (try clear hb); (try clear hk)) | ((with_reducible refine gate_dst (N := 14) rfl ?_); (try (refine gate_guard (by rfl) ?_; dsimp only)); refine box_event ?hg (N := 14) ?hd (cs := #[.slice none 0 0, .int .i64 0]) (t := 26) ?hr ?_; (case hd => rfl); (case hg => rfl); (case hr => first | (go_simp; done) | (go_simp; rfl)); intro gb330 hg w94 hbox hb; replace HO_1 := aM (vB (vE (vU HO_1.out) gb330 (Nat.le_of_eq hg.symm)) hb); replace HOq0 := aM (vB (vE (vU HOq0.out) gb330 (Nat.le_of_eq hg.symm)) hb); replace HOq1 := aM (Kd.R_below (rU HOq1.out) hb); replace HOq3 := aM (vB (vE (vU HOq3.out) gb330 (Nat.le_of_eq hg.symm)) hb); replace HOq2 := aM (vB (vE (vU HOq2.out) gb330 (Nat.le_of_eq hg.symm)) hb); replace HO328 := aM (vB (vE (vU HO328.out) gb330 (Nat.le_of_eq hg.symm)) hb); have BK330 := aM (hbox); have GW330 := aM ((by rw [hg]; exact (below_size (by repeat (first | (with_reducible first | exact HB.out | apply bA | apply bN | apply bD | refine bS ?_ GE301.out | refine bS ?_ GE308.out | refine bS ?_ GE314.out | refine bS ?_ GE315.out) | exact HB.out))) : w.heap.size ≤ gb330)); have GE330 := aM ((by rw [hg]; exact (below_size (by repeat (first | (with_reducible first | exact HB.out | apply bA | apply bN | apply bD | refine bS ?_ GE301.out | refine bS ?_ GE308.out | refine bS ?_ GE314.out | refine bS ?_ GE315.out) | exact HB.out))) : w.heap.size ≤ gb330)); replace HB := aM (below_step (by repeat (first | (with_reducible first | exact HB.out | apply bA | apply bN | apply bD | refine bS ?_ GE301.out | refine bS ?_ GE308.out | refine bS ?_ GE314.out | refine bS ?_ GE315.out) | exact HB.out)) hb); have NBq3 := aM ((by rw [hg]; exact Nat.ne_of_lt (blk_lt (g := gb301) (o := .cells #[.slice A0_0 l0_0.length c0_0, .int .i64 a0_1] 26 (0, 0)) (bU BK301.out)) : gb301 ≠ gb330)); have NBq27 := aM ((by rw [hg]; exact Nat.ne_of_gt (blk_lt (g := gb301) (o := .cells #[.slice A0_0 l0_0.length c0_0, .int .i64 a0_1] 26 (0, 0)) (bU BK301.out)) : gb330 ≠ gb301)); replace BK301 := aM (kB (g := gb301) (o := .cells #[.slice A0_0 l0_0.length c0_0, .int .i64 a0_1] 26 (0, 0)) (bU BK301.out) hb); have NBq4 := aM ((by rw [hg]; exact Nat.ne_of_lt (blk_lt (g := gb308) (o := .cells #[.slice Ao15 t304.length co15, .int .i64 t307] 26 (0, 0)) (bU BK308.out)) : gb308 ≠ gb330)); have NBq28 := aM ((by rw [hg]; exact Nat.ne_of_gt (blk_lt (g := gb308) (o := .cells #[.slice Ao15 t304.length co15, .int .i64 t307] 26 (0, 0)) (bU BK308.out)) : gb330 ≠ gb308)); replace BK308 := aM (kB (g := gb308) (o := .cells #[.slice Ao15 t304.length co15, .int .i64 t307] 26 (0, 0)) (bU BK308.out) hb); have NBq5 := aM ((by rw [hg]; exact Nat.ne_of_lt (blk_lt (g := gb314) (o := .cells #[.slice Ao21 t309.length co21, .int .i64 t312] 26 (0, 0)) (bU BK314.out)) : gb314 ≠ gb330)); have NBq29 := aM ((by rw [hg]; exact Nat.ne_of_gt (blk_lt (g := gb314) (o := .cells #[.slice Ao21 t309.length co21, .int .i64 t312] 26 (0, 0)) (bU BK314.out)) : gb330 ≠ gb314)); replace BK314 := aM (kB (g := gb314) (o := .cells #[.slice Ao21 t309.length co21, .int .i64 t312] 26 (0, 0)) (bU BK314.out) hb); have NBq6 := aM ((by rw [hg]; exact Nat.ne_of_lt (blk_lt (g := gb315) (o := .cells #[u316000, .int .i64 x316001_1] 26 (0, 0)) (bU BK315.out)) : gb315 ≠ gb330)); have NBq30 := aM ((by rw [hg]; exact Nat.ne_of_gt (blk_lt (g := gb315) (o := .cells #[u316000, .int .i64 x316001_1] 26 (0, 0)) (bU BK315.out)) : gb330 ≠ gb315)); replace BK315 := aM (kB (g := gb315) (o := .cells #[u316000, .int .i64 x316001_1] 26 (0, 0)) (bU BK315.out) hb); clear hb hbox hg; obtain ⟨Ao95, co95, eo95⟩ := Kd.V_slice HO328.out; subst eo95; have hnb96 := NBq27.out; have hnc96 := NBq3.out; have hnb97 := NBq28.out; have hnc97 := NBq4.out; have hnb98 := NBq29.out; have hnc98 := NBq5.out; have hnb99 := NBq30.out; have hnc99 := NBq6.out; have hcz100_0 : w94.cell? ⟨gb330, 0, none⟩ = some (.slice none 0 0) := (kC BK330.out 0).trans rfl; have hcz100_1 : w94.cell? ⟨gb330, 1, none⟩ = some (.int .i64 0) := (kC BK330.out 1).trans rfl; have hfz100_0 := kF BK330.out 0; have hfz100_1 := kF BK330.out 1; have hcz101_0 : w94.cell? ⟨gb301, 0, none⟩ = some (.slice A0_0 l0_0.length c0_0) := (kC BK301.out 0).trans rfl; have hcz101_1 : w94.cell? ⟨gb301, 1, none⟩ = some (.int .i64 a0_1) := (kC BK301.out 1).trans rfl; have hfz101_0 := kF BK301.out 0; have hfz101_1 := kF BK301.out 1; have hnb102 := NBq1.out; have hnc102 := NBq22.out; have hnb103 := NBq12.out; have hnc103 := NBq18.out; have hcz104_0 : w94.cell? ⟨gb308, 0, none⟩ = some (.slice Ao15 t304.length co15) := (kC BK308.out 0).trans rfl; have hcz104_1 : w94.cell? ⟨gb308, 1, none⟩ = some (.int .i64 t307) := (kC BK308.out 1).trans rfl; have hfz104_0 := kF BK308.out 0; have hfz104_1 := kF BK308.out 1) | ((with_reducible refine gate_callee (f := 15) rfl ?_); refine goesL_ (some 57) rfl rfl Try.func15 (by kernel_rfl) rfl #[.agg #[.slice A0_0 l0_0.length c0_0, .int .i64 a0_1], .agg #[.slice Ao15 t304.length co15, .int .i64 t307]] rfl (by (try simp only [List.map_toArray, List.map_cons, List.map_nil]); first | done | rfl | (simp only [List.length_drop, List.length_take]; rfl)) ?_; (with_reducible refine (banksmanref04_Same.calls _ _ l0_0 a0_1 _ _ t304 t307 true _ ?side1 ?side2 ?side3 ?side4 A56.out).mono ?_); (case side1 => refine (Kd.V_reads' (e := 5) (base := w.heap.size) (ok := fun k_ => ((((P0_0_ k_ ∨ P1_ k_) ∨ w.heap.size ≤ k_) ∧ (some k_ ≠ (.slice Ao15 t304.length co15 : Value).ownBlock ∧ (k_ ≠ gb301 ∧ (k_ ≠ gb308 ∧ (k_ ≠ gb314 ∧ k_ ≠ gb315))))) ∧ k_ ≠ gb330)) (n := l0_0.length) (c := c0_0) ?_).2.2; exact (by (with_reducible repeat (first | apply Kd.V_alloc | apply Kd.V_drewN | apply Kd.V_drew)); exact (Kd.V_mono (Kd.V_far (p := ⟨gb330, 1, none⟩) (Kd.V_far (p := ⟨gb330, 0, none⟩) (Kd.V_mono HOq0.out (fun k_ hk => (⟨hk, hk.2⟩ : _ ∧ k_ ≠ gb330))) (fun _ hk => hk.2) (.slice Ao95 t326.length co95)) (fun _ hk => hk.2) (.int .i64 t329)) (fun _ h_ => h_.1)))); (case side2 => exact (Kd.V_reads' HOq0.out).2.1); (case side3 => refine (Kd.R_reads' (e := 5) (base := w.heap.size) (ok := fun k_ => (w.heap.size ≤ k_)) (n := t304.length) (c := co15) ?_).2.2; exact (by (with_reducible repeat (first | apply Kd.R_alloc | apply Kd.R_drewN | apply Kd.R_drew)); exact (Kd.R_mono (Kd.R_far (p := ⟨gb330, 1, none⟩) (Kd.R_far (p := ⟨gb330, 0, none⟩) (Kd.R_types HOq1.out BK330.out (by decide)) (fun _ hk => hk.2) (.slice Ao95 t326.length co95)) (fun _ hk => hk.2) (.int .i64 t329)) (fun _ h_ => h_.1)))); (case side4 => exact (Kd.R_reads' HOq1.out).2.1); rintro e w105 ⟨rfl, hb⟩; refine ⟨_, rfl, ?_⟩; replace HO_1 := aM (vB (by (with_reducible repeat (first | apply Kd.V_alloc | apply Kd.V_drewN | apply Kd.V_drew)); exact (Kd.V_mono (Kd.V_far (p := ⟨gb330, 1, none⟩) (Kd.V_far (p := ⟨gb330, 0, none⟩) (Kd.V_mono HO_1.out (fun k_ hk => (⟨hk, hk.2⟩ : _ ∧ k_ ≠ gb330))) (fun _ hk => hk.2) (.slice Ao95 t326.length co95)) (fun _ hk => hk.2) (.int .i64 t329)) (fun _ h_ => h_.1))) hb); replace HOq0 := aM (vB (by (with_reducible repeat (first | apply Kd.V_alloc | apply Kd.V_drewN | apply Kd.V_drew)); exact (Kd.V_mono (Kd.V_far (p := ⟨gb330, 1, none⟩) (Kd.V_far (p := ⟨gb330, 0, none⟩) (Kd.V_mono HOq0.out (fun k_ hk => (⟨hk, hk.2⟩ : _ ∧ k_ ≠ gb330))) (fun _ hk => hk.2) (.slice Ao95 t326.length co95)) (fun _ hk => hk.2) (.int .i64 t329)) (fun _ h_ => h_.1))) hb); replace HOq1 := aM (Kd.R_below (by (with_reducible repeat (first | apply Kd.R_alloc | apply Kd.R_drewN | apply Kd.R_drew)); exact (Kd.R_mono (Kd.R_far (p := ⟨gb330, 1, none⟩) (Kd.R_far (p := ⟨gb330, 0, none⟩) (Kd.R_types HOq1.out BK330.out (by decide)) (fun _ hk => hk.2) (.slice Ao95 t326.length co95)) (fun _ hk => hk.2) (.int .i64 t329)) (fun _ h_ => h_.1))) hb); replace HOq3 := aM (vB (by (with_reducible repeat (first | apply Kd.V_alloc | apply Kd.V_drewN | apply Kd.V_drew)); exact (Kd.V_mono (Kd.V_far (p := ⟨gb330, 1, none⟩) (Kd.V_far (p := ⟨gb330, 0, none⟩) (Kd.V_mono HOq3.out (fun k_ hk => (⟨hk, hk.2⟩ : _ ∧ k_ ≠ gb330))) (fun _ hk => hk.2) (.slice Ao95 t326.length co95)) (fun _ hk => hk.2) (.int .i64 t329)) (fun _ h_ => h_.1))) hb); replace HOq2 := aM (vB (by (with_reducible repeat (first | apply Kd.V_alloc | apply Kd.V_drewN | apply Kd.V_drew)); exact (Kd.V_mono (Kd.V_far (p := ⟨gb330, 1, none⟩) (Kd.V_far (p := ⟨gb330, 0, none⟩) (Kd.V_mono HOq2.out (fun k_ hk => (⟨hk, hk.2⟩ : _ ∧ k_ ≠ gb330))) (fun _ hk => hk.2) (.slice Ao95 t326.length co95)) (fun _ hk => hk.2) (.int .i64 t329)) (fun _ h_ => h_.1))) hb); replace HO328 := aM (vB (by (with_reducible repeat (first | apply Kd.V_alloc | apply Kd.V_drewN | apply Kd.V_drew)); exact (Kd.V_mono (Kd.V_far (p := ⟨gb330, 1, none⟩) (Kd.V_far (p := ⟨gb330, 0, none⟩) (Kd.V_mono HO328.out (fun k_ hk => (⟨hk, hk.2⟩ : _ ∧ k_ ≠ gb330))) (fun _ hk => hk.2) (.slice Ao95 t326.length co95)) (fun _ hk => hk.2) (.int .i64 t329)) (fun _ h_ => h_.1))) hb); replace BK301 := aM (kB (g := gb301) (o := .cells #[.slice A0_0 l0_0.length c0_0, .int .i64 a0_1] 26 (0, 0)) (by (with_reducible repeat (first | refine blk_drewN ?_ _ | refine blk_drew ?_ | refine blk_alloc ?_ _)); refine blk_far ?_ NBq3.out _; (with_reducible repeat (first | refine blk_drewN ?_ _ | refine blk_drew ?_ | refine blk_alloc ?_ _)); refine blk_far ?_ NBq3.out _; (with_reducible repeat (first | refine blk_drewN ?_ _ | refine blk_drew ?_ | refine blk_alloc ?_ _)); exact BK301.out) hb); replace BK308 := aM (kB (g := gb308) (o := .cells #[.slice Ao15 t304.length co15, .int .i64 t307] 26 (0, 0)) (by (with_reducible repeat (first | refine blk_drewN ?_ _ | refine blk_drew ?_ | refine blk_alloc ?_ _)); refine blk_far ?_ NBq4.out _; (with_reducible repeat (first | refine blk_drewN ?_ _ | refine blk_drew ?_ | refine blk_alloc ?_ _)); refine blk_far ?_ NBq4.out _; (with_reducible repeat (first | refine blk_drewN ?_ _ | refine blk_drew ?_ | refine blk_alloc ?_ _)); exact BK308.out) hb); replace BK314 := aM (kB (g := gb314) (o := .cells #[.slice Ao21 t309.length co21, .int .i64 t312] 26 (0, 0)) (by (with_reducible repeat (first | refine blk_drewN ?_ _ | refine blk_drew ?_ | refine blk_alloc ?_ _)); refine blk_far ?_ NBq5.out _; (with_reducible repeat (first | refine blk_drewN ?_ _ | refine blk_drew ?_ | refine blk_alloc ?_ _)); refine blk_far ?_ NBq5.out _; (with_reducible repeat (first | refine blk_drewN ?_ _ | refine blk_drew ?_ | refine blk_alloc ?_ _)); exact BK314.out) hb); replace BK315 := aM (kB (g := gb315) (o := .cells #[u316000, .int .i64 x316001_1] 26 (0, 0)) (by (with_reducible repeat (first | refine blk_drewN ?_ _ | refine blk_drew ?_ | refine blk_alloc ?_ _)); refine blk_far ?_ NBq6.out _; (with_reducible repeat (first | refine blk_drewN ?_ _ | refine blk_drew ?_ | refine blk_alloc ?_ _)); refine blk_far ?_ NBq6.out _; (with_reducible repeat (first | refine blk_drewN ?_ _ | refine blk_drew ?_ | refine blk_alloc ?_ _)); exact BK315.out) hb); replace BK330 := aM (kB (g := gb330) (o := .cells #[.slice Ao95 t326.length co95, .int .i64 t329] 26 (0, 0)) (by (with_reducible repeat (first | refine blk_drewN ?_ _ | refine blk_drew ?_ | refine blk_alloc ?_ _)); refine blk_put (cs := #[.slice Ao95 t326.length co95, .int .i64 0]) ?_ 1 _ rfl; (with_reducible repeat (first | refine blk_drewN ?_ _ | refine blk_drew ?_ | refine blk_alloc ?_ _)); refine blk_put (cs := #[.slice none 0 0, .int .i64 0]) ?_ 0 _ rfl; (with_reducible repeat (first | refine blk_drewN ?_ _ | refine blk_drew ?_ | refine blk_alloc ?_ _)); exact BK330.out) hb); replace HB := aM (below_step (by repeat (first | (with_reducible first | exact HB.out | apply bA | apply bN | apply bD | refine bS ?_ GE301.out | refine bS ?_ GE308.out | refine bS ?_ GE314.out | refine bS ?_ GE315.out | refine bS ?_ GE330.out) | exact HB.out)) hb); (try clear hb); (try clear hb2); (try clear hk); (try clear hi); have hcz106_0 : w105.cell? ⟨gb330, 0, none⟩ = some (.slice Ao95 t326.length co95) := (kC BK330.out 0).trans rfl; have hcz106_1 : w105.cell? ⟨gb330, 1, none⟩ = some (.int .i64 t329) := (kC BK330.out 1).trans rfl; have hfz106_0 := kF BK330.out 0; have hfz106_1 := kF BK330.out 1; have hcv107 := Kd.C_string (P := Try.prog) (A := Ao95) (c := co95) Try.underlying23 Try.underlying5 Try.underlying9 (Kd.V_reads' HO328.out).2.2; have hcz108_0 : w105.cell? ⟨gb301, 0, none⟩ = some (.slice A0_0 l0_0.length c0_0) := (kC BK301.out 0).trans rfl; have hcz108_1 : w105.cell? ⟨gb301, 1, none⟩ = some (.int .i64 a0_1) := (kC BK301.out 1).trans rfl; have hfz108_0 := kF BK301.out 0; have hfz108_1 := kF BK301.out 1; have hcv109 := Kd.C_string (P := Try.prog) (A := A0_0) (c := c0_0) Try.underlying23 Try.underlying5 Try.underlying9 (Kd.V_reads' HOq0.out).2.2))
           go_ret
           exact ⟨by first | rfl | (simp [errW_none, errW_some] <;> rfl) | (simp [*, errW_none, errW_some] <;> rfl), by repeat (first | (with_reducible first | exact HB.out | apply bA | apply bN | apply bD | refine bS ?_ GE301.out | refine bS ?_ GE308.out | refine bS ?_ GE314.out | refine bS ?_ GE315.out | refine bS ?_ GE330.out) | exact HB.out)⟩
         ·
          rw [if_neg c60] at H
          have c60b0 : ((l1.length : Int) == 0) = false := beq_eq_false_iff_ne.mpr c60
          have c60b1 : ((l1.length : Int) != 0) = true := bne_iff_ne.mpr c60
          have c60b2 : ¬ (l1 = []) := fun h_ => c60 (by rw [h_]; rfl)
          by_cases c110 : ((t313 == 0) == (x10_1 == 0)) = true
          ·
           rw [if_pos c110] at H
           have c110b0 : ((t313 == 0) == (x10_1 == 0)) = true := c110
           (try (have c110b1 : decide ((t313 == 0) = (x10_1 == 0)) = true := by simpa using c110))
           (try (have c110b2 : ((t313 == 0) == (x10_1 == 0)) = true := by simpa using c110))
           clear c110
           have ee1_ : (t313 == 0) = false := by simpa [c32b0] using c110b0
           have ef1_ : (t313 != 0) = true := by simp [bne, ee1_]
           (try clear c110b0)
           (try clear c110b1)
           (try clear c110b2)
           by_cases c111 : t313 = 0
           ·
            rw [if_pos c111] at H
            have c111b0 : (t313 == 0) = true := beq_iff_eq.mpr c111
            have c111b1 : (t313 != 0) = false := bne_eq_false_iff_eq.mpr c111
            clear c111
            replace H := Option.bind_eq_some_iff.mp H
            obtain ⟨t333, A1120, H⟩ := H
            replace H : (some t333) = some r := H
            have A112 := aM A1120
            clear A1120
            obtain rfl := Option.some.inj H
            have hnb113 := NBq13.out
            have hnc113 := NBq20.out
            have hnb114 := NBq0.out
            have hnc114 := NBq21.out
            have hnb115 := NBq11.out
            have hnc115 := NBq17.out
            have hcz116_0 : wr.cell? ⟨gb301, 0, none⟩ = some (.slice A0_0 l0_0.length c0_0) := (kC BK301.out 0).trans rfl
            have hcz116_1 : wr.cell? ⟨gb301, 1, none⟩ = some (.int .i64 a0_1) := (kC BK301.out 1).trans rfl
            have hfz116_0 := kF BK301.out 0
            have hfz116_1 := kF BK301.out 1
            go_wp2_with (first | ((with_reducible refine gate_callee (f := 9) rfl ?_); refine goesL_ (some 54) rfl rfl Try.func9 (by kernel_rfl) rfl #[.agg #[.slice A0_0 l0_0.length c0_0, .int .i64 a0_1]] rfl (by (try simp only [List.map_toArray, List.map_cons, List.map_nil]); first | done | rfl | (simp only [List.length_drop, List.length_take]; rfl)) ?_; (with_reducible refine (wal_Sync.calls _ _ l0_0 a0_1 t326 t329 _ ?side1 ?side2 A55.out).mono ?_); (case side1 => repeat (first | exact (Kd.V_reads' HOq0.out).2.2 | (with_reducible refine Kd.C_alloc ?_ _) | (with_reducible refine Kd.C_drewN ?_ _) | (with_reducible refine Kd.C_drew ?_))); (case side2 => exact (Kd.V_reads' HOq0.out).2.1); rintro e w117 ⟨v327, rfl, ho0, hb⟩; refine ⟨_, rfl, ?_⟩; replace HO_1 := aM (vB (vU HO_1.out) hb); replace HOq0 := aM (vB (vU HOq0.out) hb); replace HOq3 := aM (vB (vU HOq3.out) hb); replace HOq2 := aM (vB (vU HOq2.out) hb); have HO328 := aM (Kd.V_lower (Kd.V_mono (ok' := fun k_ => ((P0_0_ k_ ∨ P1_ k_) ∨ w.heap.size ≤ k_) ∧ some k_ ≠ (.slice Ao15 t304.length co15 : Value).ownBlock ∧ k_ ≠ gb301 ∧ k_ ≠ gb308 ∧ k_ ≠ gb314 ∧ k_ ≠ gb315) ho0 (fun k_ hk_ => ⟨(.inr (Nat.le_trans (below_size (by repeat (first | (with_reducible first | exact HB.out | apply bA | apply bN | apply bD | refine bS ?_ GE301.out | refine bS ?_ GE308.out | refine bS ?_ GE314.out | refine bS ?_ GE315.out) | exact HB.out))) hk_)), (Kd.fresh' (Kd.R_lt (rU HOq1.out)) k_ hk_), (Kd.freshB (g := gb301) (o := .cells #[.slice A0_0 l0_0.length c0_0, .int .i64 a0_1] 26 (0, 0)) (bU BK301.out) k_ hk_), (Kd.freshB (g := gb308) (o := .cells #[.slice Ao15 t304.length co15, .int .i64 t307] 26 (0, 0)) (bU BK308.out) k_ hk_), (Kd.freshB (g := gb314) (o := .cells #[.slice Ao21 t309.length co21, .int .i64 t312] 26 (0, 0)) (bU BK314.out) k_ hk_), (Kd.freshB (g := gb315) (o := .cells #[u316000, .int .i64 x316001_1] 26 (0, 0)) (bU BK315.out) k_ hk_)⟩)) (below_size (by repeat (first | (with_reducible first | exact HB.out | apply bA | apply bN | apply bD | refine bS ?_ GE301.out | refine bS ?_ GE308.out | refine bS ?_ GE314.out | refine bS ?_ GE315.out) | exact HB.out)))); replace HOq1 := aM (Kd.R_below (rU HOq1.out) hb); replace BK301 := aM (kB (g := gb301) (o := .cells #[.slice A0_0 l0_0.length c0_0, .int .i64 a0_1] 26 (0, 0)) (bU BK301.out) hb); replace BK308 := aM (kB (g := gb308) (o := .cells #[.slice Ao15 t304.length co15, .int .i64 t307] 26 (0, 0)) (bU BK308.out) hb); replace BK314 := aM (kB (g := gb314) (o := .cells #[.slice Ao21 t309.length co21, .int .i64 t312] 26 (0, 0)) (bU BK314.out) hb); replace BK315 := aM (kB (g := gb315) (o := .cells #[u316000, .int .i64 x316001_1] 26 (0, 0)) (bU BK315.out) hb); replace HB := aM (below_step (by repeat (first | (with_reducible first | exact HB.out | apply bA | apply bN | apply bD | refine bS ?_ GE301.out | refine bS ?_ GE308.out | refine bS ?_ GE314.out | refine bS ?_ GE315.out) | exact HB.out)) hb); (try clear hb); (try clear hk)) | ((with_reducible refine gate_dst (N := 14) rfl ?_); (try (refine gate_guard (by rfl) ?_; dsimp only)); refine box_event ?hg (N := 14) ?hd (cs := #[.slice none 0 0, .int .i64 0]) (t := 26) ?hr ?_; (case hd => rfl); (case hg => rfl); (case hr => first | (go_simp; done) | (go_simp; rfl)); intro gb330 hg w118 hbox hb; replace HO_1 := aM (vB (vE (vU HO_1.out) gb330 (Nat.le_of_eq hg.symm)) hb); replace HOq0 := aM (vB (vE (vU HOq0.out) gb330 (Nat.le_of_eq hg.symm)) hb); replace HOq1 := aM (Kd.R_below (rU HOq1.out) hb); replace HOq3 := aM (vB (vE (vU HOq3.out) gb330 (Nat.le_of_eq hg.symm)) hb); replace HOq2 := aM (vB (vE (vU HOq2.out) gb330 (Nat.le_of_eq hg.symm)) hb); replace HO328 := aM (vB (vE (vU HO328.out) gb330 (Nat.le_of_eq hg.symm)) hb); have BK330 := aM (hbox); have GW330 := aM ((by rw [hg]; exact (below_size (by repeat (first | (with_reducible first | exact HB.out | apply bA | apply bN | apply bD | refine bS ?_ GE301.out | refine bS ?_ GE308.out | refine bS ?_ GE314.out | refine bS ?_ GE315.out) | exact HB.out))) : w.heap.size ≤ gb330)); have GE330 := aM ((by rw [hg]; exact (below_size (by repeat (first | (with_reducible first | exact HB.out | apply bA | apply bN | apply bD | refine bS ?_ GE301.out | refine bS ?_ GE308.out | refine bS ?_ GE314.out | refine bS ?_ GE315.out) | exact HB.out))) : w.heap.size ≤ gb330)); replace HB := aM (below_step (by repeat (first | (with_reducible first | exact HB.out | apply bA | apply bN | apply bD | refine bS ?_ GE301.out | refine bS ?_ GE308.out | refine bS ?_ GE314.out | refine bS ?_ GE315.out) | exact HB.out)) hb); have NBq3 := aM ((by rw [hg]; exact Nat.ne_of_lt (blk_lt (g := gb301) (o := .cells #[.slice A0_0 l0_0.length c0_0, .int .i64 a0_1] 26 (0, 0)) (bU BK301.out)) : gb301 ≠ gb330)); have NBq27 := aM ((by rw [hg]; exact Nat.ne_of_gt (blk_lt (g := gb301) (o := .cells #[.slice A0_0 l0_0.length c0_0, .int .i64 a0_1] 26 (0, 0)) (bU BK301.out)) : gb330 ≠ gb301)); replace BK301 := aM (kB (g := gb301) (o := .cells #[.slice A0_0 l0_0.length c0_0, .int .i64 a0_1] 26 (0, 0)) (bU BK301.out) hb); have NBq4 := aM ((by rw [hg]; exact Nat.ne_of_lt (blk_lt (g := gb308) (o := .cells #[.slice Ao15 t304.length co15, .int .i64 t307] 26 (0, 0)) (bU BK308.out)) : gb308 ≠ gb330)); have NBq28 := aM ((by rw [hg]; exact Nat.ne_of_gt (blk_lt (g := gb308) (o := .cells #[.slice Ao15 t304.length co15, .int .i64 t307] 26 (0, 0)) (bU BK308.out)) : gb330 ≠ gb308)); replace BK308 := aM (kB (g := gb308) (o := .cells #[.slice Ao15 t304.length co15, .int .i64 t307] 26 (0, 0)) (bU BK308.out) hb); have NBq5 := aM ((by rw [hg]; exact Nat.ne_of_lt (blk_lt (g := gb314) (o := .cells #[.slice Ao21 t309.length co21, .int .i64 t312] 26 (0, 0)) (bU BK314.out)) : gb314 ≠ gb330)); have NBq29 := aM ((by rw [hg]; exact Nat.ne_of_gt (blk_lt (g := gb314) (o := .cells #[.slice Ao21 t309.length co21, .int .i64 t312] 26 (0, 0)) (bU BK314.out)) : gb330 ≠ gb314)); replace BK314 := aM (kB (g := gb314) (o := .cells #[.slice Ao21 t309.length co21, .int .i64 t312] 26 (0, 0)) (bU BK314.out) hb); have NBq6 := aM ((by rw [hg]; exact Nat.ne_of_lt (blk_lt (g := gb315) (o := .cells #[u316000, .int .i64 x316001_1] 26 (0, 0)) (bU BK315.out)) : gb315 ≠ gb330)); have NBq30 := aM ((by rw [hg]; exact Nat.ne_of_gt (blk_lt (g := gb315) (o := .cells #[u316000, .int .i64 x316001_1] 26 (0, 0)) (bU BK315.out)) : gb330 ≠ gb315)); replace BK315 := aM (kB (g := gb315) (o := .cells #[u316000, .int .i64 x316001_1] 26 (0, 0)) (bU BK315.out) hb); clear hb hbox hg; obtain ⟨Ao119, co119, eo119⟩ := Kd.V_slice HO328.out; subst eo119; have hnb120 := NBq27.out; have hnc120 := NBq3.out; have hnb121 := NBq28.out; have hnc121 := NBq4.out; have hnb122 := NBq29.out; have hnc122 := NBq5.out; have hnb123 := NBq30.out; have hnc123 := NBq6.out; have hcz124_0 : w118.cell? ⟨gb330, 0, none⟩ = some (.slice none 0 0) := (kC BK330.out 0).trans rfl; have hcz124_1 : w118.cell? ⟨gb330, 1, none⟩ = some (.int .i64 0) := (kC BK330.out 1).trans rfl; have hfz124_0 := kF BK330.out 0; have hfz124_1 := kF BK330.out 1; have hcz125_0 : w118.cell? ⟨gb301, 0, none⟩ = some (.slice A0_0 l0_0.length c0_0) := (kC BK301.out 0).trans rfl; have hcz125_1 : w118.cell? ⟨gb301, 1, none⟩ = some (.int .i64 a0_1) := (kC BK301.out 1).trans rfl; have hfz125_0 := kF BK301.out 0; have hfz125_1 := kF BK301.out 1; have hnb126 := NBq1.out; have hnc126 := NBq22.out; have hnb127 := NBq12.out; have hnc127 := NBq18.out; have hcz128_0 : w118.cell? ⟨gb308, 0, none⟩ = some (.slice Ao15 t304.length co15) := (kC BK308.out 0).trans rfl; have hcz128_1 : w118.cell? ⟨gb308, 1, none⟩ = some (.int .i64 t307) := (kC BK308.out 1).trans rfl; have hfz128_0 := kF BK308.out 0; have hfz128_1 := kF BK308.out 1) | ((with_reducible refine gate_callee (f := 15) rfl ?_); refine goesL_ (some 57) rfl rfl Try.func15 (by kernel_rfl) rfl #[.agg #[.slice A0_0 l0_0.length c0_0, .int .i64 a0_1], .agg #[.slice Ao15 t304.length co15, .int .i64 t307]] rfl (by (try simp only [List.map_toArray, List.map_cons, List.map_nil]); first | done | rfl | (simp only [List.length_drop, List.length_take]; rfl)) ?_; (with_reducible refine (banksmanref04_Same.calls _ _ l0_0 a0_1 _ _ t304 t307 true _ ?side1 ?side2 ?side3 ?side4 A56.out).mono ?_); (case side1 => refine (Kd.V_reads' (e := 5) (base := w.heap.size) (ok := fun k_ => ((((P0_0_ k_ ∨ P1_ k_) ∨ w.heap.size ≤ k_) ∧ (some k_ ≠ (.slice Ao15 t304.length co15 : Value).ownBlock ∧ (k_ ≠ gb301 ∧ (k_ ≠ gb308 ∧ (k_ ≠ gb314 ∧ k_ ≠ gb315))))) ∧ k_ ≠ gb330)) (n := l0_0.length) (c := c0_0) ?_).2.2; exact (by (with_reducible repeat (first | apply Kd.V_alloc | apply Kd.V_drewN | apply Kd.V_drew)); exact (Kd.V_mono (Kd.V_far (p := ⟨gb330, 1, none⟩) (Kd.V_far (p := ⟨gb330, 0, none⟩) (Kd.V_mono HOq0.out (fun k_ hk => (⟨hk, hk.2⟩ : _ ∧ k_ ≠ gb330))) (fun _ hk => hk.2) (.slice Ao119 t326.length co119)) (fun _ hk => hk.2) (.int .i64 t329)) (fun _ h_ => h_.1)))); (case side2 => exact (Kd.V_reads' HOq0.out).2.1); (case side3 => refine (Kd.R_reads' (e := 5) (base := w.heap.size) (ok := fun k_ => (w.heap.size ≤ k_)) (n := t304.length) (c := co15) ?_).2.2; exact (by (with_reducible repeat (first | apply Kd.R_alloc | apply Kd.R_drewN | apply Kd.R_drew)); exact (Kd.R_mono (Kd.R_far (p := ⟨gb330, 1, none⟩) (Kd.R_far (p := ⟨gb330, 0, none⟩) (Kd.R_types HOq1.out BK330.out (by decide)) (fun _ hk => hk.2) (.slice Ao119 t326.length co119)) (fun _ hk => hk.2) (.int .i64 t329)) (fun _ h_ => h_.1)))); (case side4 => exact (Kd.R_reads' HOq1.out).2.1); rintro e w129 ⟨rfl, hb⟩; refine ⟨_, rfl, ?_⟩; replace HO_1 := aM (vB (by (with_reducible repeat (first | apply Kd.V_alloc | apply Kd.V_drewN | apply Kd.V_drew)); exact (Kd.V_mono (Kd.V_far (p := ⟨gb330, 1, none⟩) (Kd.V_far (p := ⟨gb330, 0, none⟩) (Kd.V_mono HO_1.out (fun k_ hk => (⟨hk, hk.2⟩ : _ ∧ k_ ≠ gb330))) (fun _ hk => hk.2) (.slice Ao119 t326.length co119)) (fun _ hk => hk.2) (.int .i64 t329)) (fun _ h_ => h_.1))) hb); replace HOq0 := aM (vB (by (with_reducible repeat (first | apply Kd.V_alloc | apply Kd.V_drewN | apply Kd.V_drew)); exact (Kd.V_mono (Kd.V_far (p := ⟨gb330, 1, none⟩) (Kd.V_far (p := ⟨gb330, 0, none⟩) (Kd.V_mono HOq0.out (fun k_ hk => (⟨hk, hk.2⟩ : _ ∧ k_ ≠ gb330))) (fun _ hk => hk.2) (.slice Ao119 t326.length co119)) (fun _ hk => hk.2) (.int .i64 t329)) (fun _ h_ => h_.1))) hb); replace HOq1 := aM (Kd.R_below (by (with_reducible repeat (first | apply Kd.R_alloc | apply Kd.R_drewN | apply Kd.R_drew)); exact (Kd.R_mono (Kd.R_far (p := ⟨gb330, 1, none⟩) (Kd.R_far (p := ⟨gb330, 0, none⟩) (Kd.R_types HOq1.out BK330.out (by decide)) (fun _ hk => hk.2) (.slice Ao119 t326.length co119)) (fun _ hk => hk.2) (.int .i64 t329)) (fun _ h_ => h_.1))) hb); replace HOq3 := aM (vB (by (with_reducible repeat (first | apply Kd.V_alloc | apply Kd.V_drewN | apply Kd.V_drew)); exact (Kd.V_mono (Kd.V_far (p := ⟨gb330, 1, none⟩) (Kd.V_far (p := ⟨gb330, 0, none⟩) (Kd.V_mono HOq3.out (fun k_ hk => (⟨hk, hk.2⟩ : _ ∧ k_ ≠ gb330))) (fun _ hk => hk.2) (.slice Ao119 t326.length co119)) (fun _ hk => hk.2) (.int .i64 t329)) (fun _ h_ => h_.1))) hb); replace HOq2 := aM (vB (by (with_reducible repeat (first | apply Kd.V_alloc | apply Kd.V_drewN | apply Kd.V_drew)); exact (Kd.V_mono (Kd.V_far (p := ⟨gb330, 1, none⟩) (Kd.V_far (p := ⟨gb330, 0, none⟩) (Kd.V_mono HOq2.out (fun k_ hk => (⟨hk, hk.2⟩ : _ ∧ k_ ≠ gb330))) (fun _ hk => hk.2) (.slice Ao119 t326.length co119)) (fun _ hk => hk.2) (.int .i64 t329)) (fun _ h_ => h_.1))) hb); replace HO328 := aM (vB (by (with_reducible repeat (first | apply Kd.V_alloc | apply Kd.V_drewN | apply Kd.V_drew)); exact (Kd.V_mono (Kd.V_far (p := ⟨gb330, 1, none⟩) (Kd.V_far (p := ⟨gb330, 0, none⟩) (Kd.V_mono HO328.out (fun k_ hk => (⟨hk, hk.2⟩ : _ ∧ k_ ≠ gb330))) (fun _ hk => hk.2) (.slice Ao119 t326.length co119)) (fun _ hk => hk.2) (.int .i64 t329)) (fun _ h_ => h_.1))) hb); replace BK301 := aM (kB (g := gb301) (o := .cells #[.slice A0_0 l0_0.length c0_0, .int .i64 a0_1] 26 (0, 0)) (by (with_reducible repeat (first | refine blk_drewN ?_ _ | refine blk_drew ?_ | refine blk_alloc ?_ _)); refine blk_far ?_ NBq3.out _; (with_reducible repeat (first | refine blk_drewN ?_ _ | refine blk_drew ?_ | refine blk_alloc ?_ _)); refine blk_far ?_ NBq3.out _; (with_reducible repeat (first | refine blk_drewN ?_ _ | refine blk_drew ?_ | refine blk_alloc ?_ _)); exact BK301.out) hb); replace BK308 := aM (kB (g := gb308) (o := .cells #[.slice Ao15 t304.length co15, .int .i64 t307] 26 (0, 0)) (by (with_reducible repeat (first | refine blk_drewN ?_ _ | refine blk_drew ?_ | refine blk_alloc ?_ _)); refine blk_far ?_ NBq4.out _; (with_reducible repeat (first | refine blk_drewN ?_ _ | refine blk_drew ?_ | refine blk_alloc ?_ _)); refine blk_far ?_ NBq4.out _; (with_reducible repeat (first | refine blk_drewN ?_ _ | refine blk_drew ?_ | refine blk_alloc ?_ _)); exact BK308.out) hb); replace BK314 := aM (kB (g := gb314) (o := .cells #[.slice Ao21 t309.length co21, .int .i64 t312] 26 (0, 0)) (by (with_reducible repeat (first | refine blk_drewN ?_ _ | refine blk_drew ?_ | refine blk_alloc ?_ _)); refine blk_far ?_ NBq5.out _; (with_reducible repeat (first | refine blk_drewN ?_ _ | refine blk_drew ?_ | refine blk_alloc ?_ _)); refine blk_far ?_ NBq5.out _; (with_reducible repeat (first | refine blk_drewN ?_ _ | refine blk_drew ?_ | refine blk_alloc ?_ _)); exact BK314.out) hb); replace BK315 := aM (kB (g := gb315) (o := .cells #[u316000, .int .i64 x316001_1] 26 (0, 0)) (by (with_reducible repeat (first | refine blk_drewN ?_ _ | refine blk_drew ?_ | refine blk_alloc ?_ _)); refine blk_far ?_ NBq6.out _; (with_reducible repeat (first | refine blk_drewN ?_ _ | refine blk_drew ?_ | refine blk_alloc ?_ _)); refine blk_far ?_ NBq6.out _; (with_reducible repeat (first | refine blk_drewN ?_ _ | refine blk_drew ?_ | refine blk_alloc ?_ _)); exact BK315.out) hb); replace BK330 := aM (kB (g := gb330) (o := .cells #[.slice Ao119 t326.length co119, .int .i64 t329] 26 (0, 0)) (by (with_reducible repeat (first | refine blk_drewN ?_ _ | refine blk_drew ?_ | refine blk_alloc ?_ _)); refine blk_put (cs := #[.slice Ao119 t326.length co119, .int .i64 0]) ?_ 1 _ rfl; (with_reducible repeat (first | refine blk_drewN ?_ _ | refine blk_drew ?_ | refine blk_alloc ?_ _)); refine blk_put (cs := #[.slice none 0 0, .int .i64 0]) ?_ 0 _ rfl; (with_reducible repeat (first | refine blk_drewN ?_ _ | refine blk_drew ?_ | refine blk_alloc ?_ _)); exact BK330.out) hb); replace HB := aM (below_step (by repeat (first | (with_reducible first | exact HB.out | apply bA | apply bN | apply bD | refine bS ?_ GE301.out | refine bS ?_ GE308.out | refine bS ?_ GE314.out | refine bS ?_ GE315.out | refine bS ?_ GE330.out) | exact HB.out)) hb); (try clear hb); (try clear hb2); (try clear hk); (try clear hi); have hcz130_0 : w129.cell? ⟨gb330, 0, none⟩ = some (.slice Ao119 t326.length co119) := (kC BK330.out 0).trans rfl; have hcz130_1 : w129.cell? ⟨gb330, 1, none⟩ = some (.int .i64 t329) := (kC BK330.out 1).trans rfl; have hfz130_0 := kF BK330.out 0; have hfz130_1 := kF BK330.out 1; have hcv131 := Kd.C_string (P := Try.prog) (A := Ao119) (c := co119) Try.underlying23 Try.underlying5 Try.underlying9 (Kd.V_reads' HO328.out).2.2; have hcz132_0 : w129.cell? ⟨gb301, 0, none⟩ = some (.slice A0_0 l0_0.length c0_0) := (kC BK301.out 0).trans rfl; have hcz132_1 : w129.cell? ⟨gb301, 1, none⟩ = some (.int .i64 a0_1) := (kC BK301.out 1).trans rfl; have hfz132_0 := kF BK301.out 0; have hfz132_1 := kF BK301.out 1; have hcv133 := Kd.C_string (P := Try.prog) (A := A0_0) (c := c0_0) Try.underlying23 Try.underlying5 Try.underlying9 (Kd.V_reads' HOq0.out).2.2; have hnb134 := NBq19.out; have hnc134 := NBq35.out; have hcz135_0 : w129.cell? ⟨gb314, 0, none⟩ = some (.slice Ao21 t309.length co21) := (kC BK314.out 0).trans rfl; have hcz135_1 : w129.cell? ⟨gb314, 1, none⟩ = some (.int .i64 t312) := (kC BK314.out 1).trans rfl; have hfz135_0 := kF BK314.out 0; have hfz135_1 := kF BK314.out 1; have hcz136_0 : w129.cell? ⟨gb315, 0, none⟩ = some (u316000) := (kC BK315.out 0).trans rfl; have hcz136_1 : w129.cell? ⟨gb315, 1, none⟩ = some (.int .i64 x316001_1) := (kC BK315.out 1).trans rfl; have hfz136_0 := kF BK315.out 0; have hfz136_1 := kF BK315.out 1; obtain ⟨Ao137, co137, eo137⟩ := Kd.V_slice HOq2.out; subst eo137) | (go_at_call 15; (with_reducible refine (banksmanref04_Same.calls _ _ t309 t312 _ _ x316000_1 x316001_1 t333 _ ?side1 ?side2 ?side3 ?side4 A112.out).mono ?_); (case side1 => repeat (first | exact (Kd.V_reads' HOq3.out).2.2 | (with_reducible refine Kd.C_alloc ?_ _) | (with_reducible refine Kd.C_drewN ?_ _) | (with_reducible refine Kd.C_drew ?_))); (case side2 => exact (Kd.V_reads' HOq3.out).2.1); (case side3 => repeat (first | exact (Kd.V_reads' HOq2.out).2.2 | (with_reducible refine Kd.C_alloc ?_ _) | (with_reducible refine Kd.C_drewN ?_ _) | (with_reducible refine Kd.C_drew ?_))); (case side4 => exact (Kd.V_reads' HOq2.out).2.1); rintro e w138 ⟨rfl, hb⟩; replace HO_1 := aM (vB (vU HO_1.out) hb); replace HOq0 := aM (vB (vU HOq0.out) hb); replace HOq1 := aM (Kd.R_below (rU HOq1.out) hb); replace HOq3 := aM (vB (vU HOq3.out) hb); replace HOq2 := aM (vB (vU HOq2.out) hb); replace HO328 := aM (vB (vU HO328.out) hb); replace BK301 := aM (kB (g := gb301) (o := .cells #[.slice A0_0 l0_0.length c0_0, .int .i64 a0_1] 26 (0, 0)) (bU BK301.out) hb); replace BK308 := aM (kB (g := gb308) (o := .cells #[.slice Ao15 t304.length co15, .int .i64 t307] 26 (0, 0)) (bU BK308.out) hb); replace BK314 := aM (kB (g := gb314) (o := .cells #[.slice Ao21 t309.length co21, .int .i64 t312] 26 (0, 0)) (bU BK314.out) hb); replace BK315 := aM (kB (g := gb315) (o := .cells #[.slice Ao137 x316000_1.length co137, .int .i64 x316001_1] 26 (0, 0)) (bU BK315.out) hb); replace BK330 := aM (kB (g := gb330) (o := .cells #[.slice Ao119 t326.length co119, .int .i64 t329] 26 (0, 0)) (bU BK330.out) hb); replace HB := aM (below_step (by repeat (first | (with_reducible first | exact HB.out | apply bA | apply bN | apply bD | refine bS ?_ GE301.out | refine bS ?_ GE308.out | refine bS ?_ GE314.out | refine bS ?_ GE315.out | refine bS ?_ GE330.out) | exact HB.out)) hb); (try clear hb); (try clear hb2); (try clear hk); (try clear hi)))
            go_ret
            exact ⟨by first | rfl | (simp [errW_none, errW_some] <;> rfl) | (simp [*, errW_none, errW_some] <;> rfl), by repeat (first | (with_reducible first | exact HB.out | apply bA | apply bN | apply bD | refine bS ?_ GE301.out | refine bS ?_ GE308.out | refine bS ?_ GE314.out | refine bS ?_ GE315.out | refine bS ?_ GE330.out) | exact HB.out)⟩
           ·
            rw [if_neg c111] at H
            have c111b0 : (t313 == 0) = false := beq_eq_false_iff_ne.mpr c111
            have c111b1 : (t313 != 0) = true := bne_iff_ne.mpr c111
            obtain rfl := Option.some.inj H
            have hnb139 := NBq13.out
            have hnc139 := NBq20.out
            have hnb140 := NBq0.out
            have hnc140 := NBq21.out
            have hnb141 := NBq11.out
            have hnc141 := NBq17.out
            have hcz142_0 : wr.cell? ⟨gb301, 0, none⟩ = some (.slice A0_0 l0_0.length c0_0) := (kC BK301.out 0).trans rfl
            have hcz142_1 : wr.cell? ⟨gb301, 1, none⟩ = some (.int .i64 a0_1) := (kC BK301.out 1).trans rfl
            have hfz142_0 := kF BK301.out 0
            have hfz142_1 := kF BK301.out 1
            go_wp2_with (first | ((with_reducible refine gate_callee (f := 9) rfl ?_); refine goesL_ (some 54) rfl rfl Try.func9 (by kernel_rfl) rfl #[.agg #[.slice A0_0 l0_0.length c0_0, .int .i64 a0_1]] rfl (by (try simp only [List.map_toArray, List.map_cons, List.map_nil]); first | done | rfl | (simp only [List.length_drop, List.length_take]; rfl)) ?_; (with_reducible refine (wal_Sync.calls _ _ l0_0 a0_1 t326 t329 _ ?side1 ?side2 A55.out).mono ?_); (case side1 => repeat (first | exact (Kd.V_reads' HOq0.out).2.2 | (with_reducible refine Kd.C_alloc ?_ _) | (with_reducible refine Kd.C_drewN ?_ _) | (with_reducible refine Kd.C_drew ?_))); (case side2 => exact (Kd.V_reads' HOq0.out).2.1); rintro e w143 ⟨v327, rfl, ho0, hb⟩; refine ⟨_, rfl, ?_⟩; replace HO_1 := aM (vB (vU HO_1.out) hb); replace HOq0 := aM (vB (vU HOq0.out) hb); replace HOq3 := aM (vB (vU HOq3.out) hb); replace HOq2 := aM (vB (vU HOq2.out) hb); have HO328 := aM (Kd.V_lower (Kd.V_mono (ok' := fun k_ => ((P0_0_ k_ ∨ P1_ k_) ∨ w.heap.size ≤ k_) ∧ some k_ ≠ (.slice Ao15 t304.length co15 : Value).ownBlock ∧ k_ ≠ gb301 ∧ k_ ≠ gb308 ∧ k_ ≠ gb314 ∧ k_ ≠ gb315) ho0 (fun k_ hk_ => ⟨(.inr (Nat.le_trans (below_size (by repeat (first | (with_reducible first | exact HB.out | apply bA | apply bN | apply bD | refine bS ?_ GE301.out | refine bS ?_ GE308.out | refine bS ?_ GE314.out | refine bS ?_ GE315.out) | exact HB.out))) hk_)), (Kd.fresh' (Kd.R_lt (rU HOq1.out)) k_ hk_), (Kd.freshB (g := gb301) (o := .cells #[.slice A0_0 l0_0.length c0_0, .int .i64 a0_1] 26 (0, 0)) (bU BK301.out) k_ hk_), (Kd.freshB (g := gb308) (o := .cells #[.slice Ao15 t304.length co15, .int .i64 t307] 26 (0, 0)) (bU BK308.out) k_ hk_), (Kd.freshB (g := gb314) (o := .cells #[.slice Ao21 t309.length co21, .int .i64 t312] 26 (0, 0)) (bU BK314.out) k_ hk_), (Kd.freshB (g := gb315) (o := .cells #[u316000, .int .i64 x316001_1] 26 (0, 0)) (bU BK315.out) k_ hk_)⟩)) (below_size (by repeat (first | (with_reducible first | exact HB.out | apply bA | apply bN | apply bD | refine bS ?_ GE301.out | refine bS ?_ GE308.out | refine bS ?_ GE314.out | refine bS ?_ GE315.out) | exact HB.out)))); replace HOq1 := aM (Kd.R_below (rU HOq1.out) hb); replace BK301 := aM (kB (g := gb301) (o := .cells #[.slice A0_0 l0_0.length c0_0, .int .i64 a0_1] 26 (0, 0)) (bU BK301.out) hb); replace BK308 := aM (kB (g := gb308) (o := .cells #[.slice Ao15 t304.length co15, .int .i64 t307] 26 (0, 0)) (bU BK308.out) hb); replace BK314 := aM (kB (g := gb314) (o := .cells #[.slice Ao21 t309.length co21, .int .i64 t312] 26 (0, 0)) (bU BK314.out) hb); replace BK315 := aM (kB (g := gb315) (o := .cells #[u316000, .int .i64 x316001_1] 26 (0, 0)) (bU BK315.out) hb); replace HB := aM (below_step (by repeat (first | (with_reducible first | exact HB.out | apply bA | apply bN | apply bD | refine bS ?_ GE301.out | refine bS ?_ GE308.out | refine bS ?_ GE314.out | refine bS ?_ GE315.out) | exact HB.out)) hb); (try clear hb); (try clear hk)) | ((with_reducible refine gate_dst (N := 14) rfl ?_); (try (refine gate_guard (by rfl) ?_; dsimp only)); refine box_event ?hg (N := 14) ?hd (cs := #[.slice none 0 0, .int .i64 0]) (t := 26) ?hr ?_; (case hd => rfl); (case hg => rfl); (case hr => first | (go_simp; done) | (go_simp; rfl)); intro gb330 hg w144 hbox hb; replace HO_1 := aM (vB (vE (vU HO_1.out) gb330 (Nat.le_of_eq hg.symm)) hb); replace HOq0 := aM (vB (vE (vU HOq0.out) gb330 (Nat.le_of_eq hg.symm)) hb); replace HOq1 := aM (Kd.R_below (rU HOq1.out) hb); replace HOq3 := aM (vB (vE (vU HOq3.out) gb330 (Nat.le_of_eq hg.symm)) hb); replace HOq2 := aM (vB (vE (vU HOq2.out) gb330 (Nat.le_of_eq hg.symm)) hb); replace HO328 := aM (vB (vE (vU HO328.out) gb330 (Nat.le_of_eq hg.symm)) hb); have BK330 := aM (hbox); have GW330 := aM ((by rw [hg]; exact (below_size (by repeat (first | (with_reducible first | exact HB.out | apply bA | apply bN | apply bD | refine bS ?_ GE301.out | refine bS ?_ GE308.out | refine bS ?_ GE314.out | refine bS ?_ GE315.out) | exact HB.out))) : w.heap.size ≤ gb330)); have GE330 := aM ((by rw [hg]; exact (below_size (by repeat (first | (with_reducible first | exact HB.out | apply bA | apply bN | apply bD | refine bS ?_ GE301.out | refine bS ?_ GE308.out | refine bS ?_ GE314.out | refine bS ?_ GE315.out) | exact HB.out))) : w.heap.size ≤ gb330)); replace HB := aM (below_step (by repeat (first | (with_reducible first | exact HB.out | apply bA | apply bN | apply bD | refine bS ?_ GE301.out | refine bS ?_ GE308.out | refine bS ?_ GE314.out | refine bS ?_ GE315.out) | exact HB.out)) hb); have NBq3 := aM ((by rw [hg]; exact Nat.ne_of_lt (blk_lt (g := gb301) (o := .cells #[.slice A0_0 l0_0.length c0_0, .int .i64 a0_1] 26 (0, 0)) (bU BK301.out)) : gb301 ≠ gb330)); have NBq27 := aM ((by rw [hg]; exact Nat.ne_of_gt (blk_lt (g := gb301) (o := .cells #[.slice A0_0 l0_0.length c0_0, .int .i64 a0_1] 26 (0, 0)) (bU BK301.out)) : gb330 ≠ gb301)); replace BK301 := aM (kB (g := gb301) (o := .cells #[.slice A0_0 l0_0.length c0_0, .int .i64 a0_1] 26 (0, 0)) (bU BK301.out) hb); have NBq4 := aM ((by rw [hg]; exact Nat.ne_of_lt (blk_lt (g := gb308) (o := .cells #[.slice Ao15 t304.length co15, .int .i64 t307] 26 (0, 0)) (bU BK308.out)) : gb308 ≠ gb330)); have NBq28 := aM ((by rw [hg]; exact Nat.ne_of_gt (blk_lt (g := gb308) (o := .cells #[.slice Ao15 t304.length co15, .int .i64 t307] 26 (0, 0)) (bU BK308.out)) : gb330 ≠ gb308)); replace BK308 := aM (kB (g := gb308) (o := .cells #[.slice Ao15 t304.length co15, .int .i64 t307] 26 (0, 0)) (bU BK308.out) hb); have NBq5 := aM ((by rw [hg]; exact Nat.ne_of_lt (blk_lt (g := gb314) (o := .cells #[.slice Ao21 t309.length co21, .int .i64 t312] 26 (0, 0)) (bU BK314.out)) : gb314 ≠ gb330)); have NBq29 := aM ((by rw [hg]; exact Nat.ne_of_gt (blk_lt (g := gb314) (o := .cells #[.slice Ao21 t309.length co21, .int .i64 t312] 26 (0, 0)) (bU BK314.out)) : gb330 ≠ gb314)); replace BK314 := aM (kB (g := gb314) (o := .cells #[.slice Ao21 t309.length co21, .int .i64 t312] 26 (0, 0)) (bU BK314.out) hb); have NBq6 := aM ((by rw [hg]; exact Nat.ne_of_lt (blk_lt (g := gb315) (o := .cells #[u316000, .int .i64 x316001_1] 26 (0, 0)) (bU BK315.out)) : gb315 ≠ gb330)); have NBq30 := aM ((by rw [hg]; exact Nat.ne_of_gt (blk_lt (g := gb315) (o := .cells #[u316000, .int .i64 x316001_1] 26 (0, 0)) (bU BK315.out)) : gb330 ≠ gb315)); replace BK315 := aM (kB (g := gb315) (o := .cells #[u316000, .int .i64 x316001_1] 26 (0, 0)) (bU BK315.out) hb); clear hb hbox hg; obtain ⟨Ao145, co145, eo145⟩ := Kd.V_slice HO328.out; subst eo145; have hnb146 := NBq27.out; have hnc146 := NBq3.out; have hnb147 := NBq28.out; have hnc147 := NBq4.out; have hnb148 := NBq29.out; have hnc148 := NBq5.out; have hnb149 := NBq30.out; have hnc149 := NBq6.out; have hcz150_0 : w144.cell? ⟨gb330, 0, none⟩ = some (.slice none 0 0) := (kC BK330.out 0).trans rfl; have hcz150_1 : w144.cell? ⟨gb330, 1, none⟩ = some (.int .i64 0) := (kC BK330.out 1).trans rfl; have hfz150_0 := kF BK330.out 0; have hfz150_1 := kF BK330.out 1; have hcz151_0 : w144.cell? ⟨gb301, 0, none⟩ = some (.slice A0_0 l0_0.length c0_0) := (kC BK301.out 0).trans rfl; have hcz151_1 : w144.cell? ⟨gb301, 1, none⟩ = some (.int .i64 a0_1) := (kC BK301.out 1).trans rfl; have hfz151_0 := kF BK301.out 0; have hfz151_1 := kF BK301.out 1; have hnb152 := NBq1.out; have hnc152 := NBq22.out; have hnb153 := NBq12.out; have hnc153 := NBq18.out; have hcz154_0 : w144.cell? ⟨gb308, 0, none⟩ = some (.slice Ao15 t304.length co15) := (kC BK308.out 0).trans rfl; have hcz154_1 : w144.cell? ⟨gb308, 1, none⟩ = some (.int .i64 t307) := (kC BK308.out 1).trans rfl; have hfz154_0 := kF BK308.out 0; have hfz154_1 := kF BK308.out 1) | ((with_reducible refine gate_callee (f := 15) rfl ?_); refine goesL_ (some 57) rfl rfl Try.func15 (by kernel_rfl) rfl #[.agg #[.slice A0_0 l0_0.length c0_0, .int .i64 a0_1], .agg #[.slice Ao15 t304.length co15, .int .i64 t307]] rfl (by (try simp only [List.map_toArray, List.map_cons, List.map_nil]); first | done | rfl | (simp only [List.length_drop, List.length_take]; rfl)) ?_; (with_reducible refine (banksmanref04_Same.calls _ _ l0_0 a0_1 _ _ t304 t307 true _ ?side1 ?side2 ?side3 ?side4 A56.out).mono ?_); (case side1 => refine (Kd.V_reads' (e := 5) (base := w.heap.size) (ok := fun k_ => ((((P0_0_ k_ ∨ P1_ k_) ∨ w.heap.size ≤ k_) ∧ (some k_ ≠ (.slice Ao15 t304.length co15 : Value).ownBlock ∧ (k_ ≠ gb301 ∧ (k_ ≠ gb308 ∧ (k_ ≠ gb314 ∧ k_ ≠ gb315))))) ∧ k_ ≠ gb330)) (n := l0_0.length) (c := c0_0) ?_).2.2; exact (by (with_reducible repeat (first | apply Kd.V_alloc | apply Kd.V_drewN | apply Kd.V_drew)); exact (Kd.V_mono (Kd.V_far (p := ⟨gb330, 1, none⟩) (Kd.V_far (p := ⟨gb330, 0, none⟩) (Kd.V_mono HOq0.out (fun k_ hk => (⟨hk, hk.2⟩ : _ ∧ k_ ≠ gb330))) (fun _ hk => hk.2) (.slice Ao145 t326.length co145)) (fun _ hk => hk.2) (.int .i64 t329)) (fun _ h_ => h_.1)))); (case side2 => exact (Kd.V_reads' HOq0.out).2.1); (case side3 => refine (Kd.R_reads' (e := 5) (base := w.heap.size) (ok := fun k_ => (w.heap.size ≤ k_)) (n := t304.length) (c := co15) ?_).2.2; exact (by (with_reducible repeat (first | apply Kd.R_alloc | apply Kd.R_drewN | apply Kd.R_drew)); exact (Kd.R_mono (Kd.R_far (p := ⟨gb330, 1, none⟩) (Kd.R_far (p := ⟨gb330, 0, none⟩) (Kd.R_types HOq1.out BK330.out (by decide)) (fun _ hk => hk.2) (.slice Ao145 t326.length co145)) (fun _ hk => hk.2) (.int .i64 t329)) (fun _ h_ => h_.1)))); (case side4 => exact (Kd.R_reads' HOq1.out).2.1); rintro e w155 ⟨rfl, hb⟩; refine ⟨_, rfl, ?_⟩; replace HO_1 := aM (vB (by (with_reducible repeat (first | apply Kd.V_alloc | apply Kd.V_drewN | apply Kd.V_drew)); exact (Kd.V_mono (Kd.V_far (p := ⟨gb330, 1, none⟩) (Kd.V_far (p := ⟨gb330, 0, none⟩) (Kd.V_mono HO_1.out (fun k_ hk => (⟨hk, hk.2⟩ : _ ∧ k_ ≠ gb330))) (fun _ hk => hk.2) (.slice Ao145 t326.length co145)) (fun _ hk => hk.2) (.int .i64 t329)) (fun _ h_ => h_.1))) hb); replace HOq0 := aM (vB (by (with_reducible repeat (first | apply Kd.V_alloc | apply Kd.V_drewN | apply Kd.V_drew)); exact (Kd.V_mono (Kd.V_far (p := ⟨gb330, 1, none⟩) (Kd.V_far (p := ⟨gb330, 0, none⟩) (Kd.V_mono HOq0.out (fun k_ hk => (⟨hk, hk.2⟩ : _ ∧ k_ ≠ gb330))) (fun _ hk => hk.2) (.slice Ao145 t326.length co145)) (fun _ hk => hk.2) (.int .i64 t329)) (fun _ h_ => h_.1))) hb); replace HOq1 := aM (Kd.R_below (by (with_reducible repeat (first | apply Kd.R_alloc | apply Kd.R_drewN | apply Kd.R_drew)); exact (Kd.R_mono (Kd.R_far (p := ⟨gb330, 1, none⟩) (Kd.R_far (p := ⟨gb330, 0, none⟩) (Kd.R_types HOq1.out BK330.out (by decide)) (fun _ hk => hk.2) (.slice Ao145 t326.length co145)) (fun _ hk => hk.2) (.int .i64 t329)) (fun _ h_ => h_.1))) hb); replace HOq3 := aM (vB (by (with_reducible repeat (first | apply Kd.V_alloc | apply Kd.V_drewN | apply Kd.V_drew)); exact (Kd.V_mono (Kd.V_far (p := ⟨gb330, 1, none⟩) (Kd.V_far (p := ⟨gb330, 0, none⟩) (Kd.V_mono HOq3.out (fun k_ hk => (⟨hk, hk.2⟩ : _ ∧ k_ ≠ gb330))) (fun _ hk => hk.2) (.slice Ao145 t326.length co145)) (fun _ hk => hk.2) (.int .i64 t329)) (fun _ h_ => h_.1))) hb); replace HOq2 := aM (vB (by (with_reducible repeat (first | apply Kd.V_alloc | apply Kd.V_drewN | apply Kd.V_drew)); exact (Kd.V_mono (Kd.V_far (p := ⟨gb330, 1, none⟩) (Kd.V_far (p := ⟨gb330, 0, none⟩) (Kd.V_mono HOq2.out (fun k_ hk => (⟨hk, hk.2⟩ : _ ∧ k_ ≠ gb330))) (fun _ hk => hk.2) (.slice Ao145 t326.length co145)) (fun _ hk => hk.2) (.int .i64 t329)) (fun _ h_ => h_.1))) hb); replace HO328 := aM (vB (by (with_reducible repeat (first | apply Kd.V_alloc | apply Kd.V_drewN | apply Kd.V_drew)); exact (Kd.V_mono (Kd.V_far (p := ⟨gb330, 1, none⟩) (Kd.V_far (p := ⟨gb330, 0, none⟩) (Kd.V_mono HO328.out (fun k_ hk => (⟨hk, hk.2⟩ : _ ∧ k_ ≠ gb330))) (fun _ hk => hk.2) (.slice Ao145 t326.length co145)) (fun _ hk => hk.2) (.int .i64 t329)) (fun _ h_ => h_.1))) hb); replace BK301 := aM (kB (g := gb301) (o := .cells #[.slice A0_0 l0_0.length c0_0, .int .i64 a0_1] 26 (0, 0)) (by (with_reducible repeat (first | refine blk_drewN ?_ _ | refine blk_drew ?_ | refine blk_alloc ?_ _)); refine blk_far ?_ NBq3.out _; (with_reducible repeat (first | refine blk_drewN ?_ _ | refine blk_drew ?_ | refine blk_alloc ?_ _)); refine blk_far ?_ NBq3.out _; (with_reducible repeat (first | refine blk_drewN ?_ _ | refine blk_drew ?_ | refine blk_alloc ?_ _)); exact BK301.out) hb); replace BK308 := aM (kB (g := gb308) (o := .cells #[.slice Ao15 t304.length co15, .int .i64 t307] 26 (0, 0)) (by (with_reducible repeat (first | refine blk_drewN ?_ _ | refine blk_drew ?_ | refine blk_alloc ?_ _)); refine blk_far ?_ NBq4.out _; (with_reducible repeat (first | refine blk_drewN ?_ _ | refine blk_drew ?_ | refine blk_alloc ?_ _)); refine blk_far ?_ NBq4.out _; (with_reducible repeat (first | refine blk_drewN ?_ _ | refine blk_drew ?_ | refine blk_alloc ?_ _)); exact BK308.out) hb); replace BK314 := aM (kB (g := gb314) (o := .cells #[.slice Ao21 t309.length co21, .int .i64 t312] 26 (0, 0)) (by (with_reducible repeat (first | refine blk_drewN ?_ _ | refine blk_drew ?_ | refine blk_alloc ?_ _)); refine blk_far ?_ NBq5.out _; (with_reducible repeat (first | refine blk_drewN ?_ _ | refine blk_drew ?_ | refine blk_alloc ?_ _)); refine blk_far ?_ NBq5.out _; (with_reducible repeat (first | refine blk_drewN ?_ _ | refine blk_drew ?_ | refine blk_alloc ?_ _)); exact BK314.out) hb); replace BK315 := aM (kB (g := gb315) (o := .cells #[u316000, .int .i64 x316001_1] 26 (0, 0)) (by (with_reducible repeat (first | refine blk_drewN ?_ _ | refine blk_drew ?_ | refine blk_alloc ?_ _)); refine blk_far ?_ NBq6.out _; (with_reducible repeat (first | refine blk_drewN ?_ _ | refine blk_drew ?_ | refine blk_alloc ?_ _)); refine blk_far ?_ NBq6.out _; (with_reducible repeat (first | refine blk_drewN ?_ _ | refine blk_drew ?_ | refine blk_alloc ?_ _)); exact BK315.out) hb); replace BK330 := aM (kB (g := gb330) (o := .cells #[.slice Ao145 t326.length co145, .int .i64 t329] 26 (0, 0)) (by (with_reducible repeat (first | refine blk_drewN ?_ _ | refine blk_drew ?_ | refine blk_alloc ?_ _)); refine blk_put (cs := #[.slice Ao145 t326.length co145, .int .i64 0]) ?_ 1 _ rfl; (with_reducible repeat (first | refine blk_drewN ?_ _ | refine blk_drew ?_ | refine blk_alloc ?_ _)); refine blk_put (cs := #[.slice none 0 0, .int .i64 0]) ?_ 0 _ rfl; (with_reducible repeat (first | refine blk_drewN ?_ _ | refine blk_drew ?_ | refine blk_alloc ?_ _)); exact BK330.out) hb); replace HB := aM (below_step (by repeat (first | (with_reducible first | exact HB.out | apply bA | apply bN | apply bD | refine bS ?_ GE301.out | refine bS ?_ GE308.out | refine bS ?_ GE314.out | refine bS ?_ GE315.out | refine bS ?_ GE330.out) | exact HB.out)) hb); (try clear hb); (try clear hb2); (try clear hk); (try clear hi); have hcz156_0 : w155.cell? ⟨gb330, 0, none⟩ = some (.slice Ao145 t326.length co145) := (kC BK330.out 0).trans rfl; have hcz156_1 : w155.cell? ⟨gb330, 1, none⟩ = some (.int .i64 t329) := (kC BK330.out 1).trans rfl; have hfz156_0 := kF BK330.out 0; have hfz156_1 := kF BK330.out 1; have hcv157 := Kd.C_string (P := Try.prog) (A := Ao145) (c := co145) Try.underlying23 Try.underlying5 Try.underlying9 (Kd.V_reads' HO328.out).2.2; have hcz158_0 : w155.cell? ⟨gb301, 0, none⟩ = some (.slice A0_0 l0_0.length c0_0) := (kC BK301.out 0).trans rfl; have hcz158_1 : w155.cell? ⟨gb301, 1, none⟩ = some (.int .i64 a0_1) := (kC BK301.out 1).trans rfl; have hfz158_0 := kF BK301.out 0; have hfz158_1 := kF BK301.out 1; have hcv159 := Kd.C_string (P := Try.prog) (A := A0_0) (c := c0_0) Try.underlying23 Try.underlying5 Try.underlying9 (Kd.V_reads' HOq0.out).2.2))
            go_ret
            exact ⟨by first | rfl | (simp [errW_none, errW_some] <;> rfl) | (simp [*, errW_none, errW_some] <;> rfl), by repeat (first | (with_reducible first | exact HB.out | apply bA | apply bN | apply bD | refine bS ?_ GE301.out | refine bS ?_ GE308.out | refine bS ?_ GE314.out | refine bS ?_ GE315.out | refine bS ?_ GE330.out) | exact HB.out)⟩
          ·
           rw [if_neg c110] at H
           rw [HTr_] at H
           exact absurd (Option.some.inj H) (by decide)
        ·
         rw [if_neg c59] at H
         rw [HTr_] at H
         exact absurd (Option.some.inj H) (by decide)
       ·
        replace c58 := Bool.eq_false_iff.mpr c58
        subst c58
        have H1 : (some false) = some r := by rw [if_neg (show ¬ (false = true) by decide)] at H; exact H
        rw [HTr_] at H1
        exact absurd (Option.some.inj H1) (by decide)
      ·
       replace c57 := Bool.eq_false_iff.mpr c57
       subst c57
       have H1 : (if t302 = true then (some false) else (some false)) = some r := by rw [if_neg (show ¬ (false = true) by decide)] at H; exact H
       clear H
       have H := H1
       clear H1
       by_cases c223 : t302 = true
       ·
        subst c223
        have H1 : (some false) = some r := by rw [if_pos rfl] at H; exact H
        rw [HTr_] at H1
        exact absurd (Option.some.inj H1) (by decide)
       ·
        replace c223 := Bool.eq_false_iff.mpr c223
        subst c223
        have H1 : (some false) = some r := by rw [if_neg (show ¬ (false = true) by decide)] at H; exact H
        rw [HTr_] at H1
        exact absurd (Option.some.inj H1) (by decide)
    ·
     rw [if_neg c31] at H
     have c31b0 : decide (x11_1 < (l1.length : Int)) = false := decide_eq_false c31
     clear c31
     replace H := Option.bind_eq_some_iff.mp H
     obtain ⟨⟨t334, t337⟩, A2580, H⟩ := H
     replace H : ((banksmanref04_Same.f l0_0 a0_1 t304 t307).bind fun t339 => (if t339 = true then (if t302 = true then (if (strOfNums t334).toList = (strOfNums l0_0).toList then (if (l1.length : Int) = 0 then (if t313 = 0 then ((banksmanref04_Same.f t309 t312 x316000_1 x316001_1).bind fun t340 => (some t340)) else (some true)) else (if ((t313 == 0) == (x10_1 == 0)) = true then (if t313 = 0 then ((banksmanref04_Same.f t309 t312 x316000_1 x316001_1).bind fun t341 => (some t341)) else (some true)) else (some false))) else (some false)) else (some false)) else (if t302 = true then (some false) else (some false)))) = some r := H
     have A258 := aM A2580
     clear A2580
     replace H := Option.bind_eq_some_iff.mp H
     obtain ⟨t339, A2590, H⟩ := H
     replace H : (if t339 = true then (if t302 = true then (if (strOfNums t334).toList = (strOfNums l0_0).toList then (if (l1.length : Int) = 0 then (if t313 = 0 then ((banksmanref04_Same.f t309 t312 x316000_1 x316001_1).bind fun t340 => (some t340)) else (some true)) else (if ((t313 == 0) == (x10_1 == 0)) = true then (if t313 = 0 then ((banksmanref04_Same.f t309 t312 x316000_1 x316001_1).bind fun t341 => (some t341)) else (some true)) else (some false))) else (some false)) else (some false)) else (if t302 = true then (some false) else (some false))) = some r := H
     have A259 := aM A2590
     clear A2590
     by_cases c260 : t339 = true
     ·
      subst c260
      have H1 : (if t302 = true then (if (strOfNums t334).toList = (strOfNums l0_0).toList then (if (l1.length : Int) = 0 then (if t313 = 0 then ((banksmanref04_Same.f t309 t312 x316000_1 x316001_1).bind fun t340 => (some t340)) else (some true)) else (if ((t313 == 0) == (x10_1 == 0)) = true then (if t313 = 0 then ((banksmanref04_Same.f t309 t312 x316000_1 x316001_1).bind fun t341 => (some t341)) else (some true)) else (some false))) else (some false)) else (some false)) = some r := by rw [if_pos rfl] at H; exact H
      clear H
      have H := H1
      clear H1
      by_cases c261 : t302 = true
      ·
       subst c261
       have H1 : (if (strOfNums t334).toList = (strOfNums l0_0).toList then (if (l1.length : Int) = 0 then (if t313 = 0 then ((banksmanref04_Same.f t309 t312 x316000_1 x316001_1).bind fun t340 => (some t340)) else (some true)) else (if ((t313 == 0) == (x10_1 == 0)) = true then (if t313 = 0 then ((banksmanref04_Same.f t309 t312 x316000_1 x316001_1).bind fun t341 => (some t341)) else (some true)) else (some false))) else (some false)) = some r := by rw [if_pos rfl] at H; exact H
       clear H
       have H := H1
       clear H1
       by_cases c262 : (strOfNums t334).toList = (strOfNums l0_0).toList
       ·
        rw [if_pos c262] at H
        have c262b0 : ((strOfNums t334).toList == (strOfNums l0_0).toList) = true := beq_iff_eq.mpr c262
        have c262b1 : ((strOfNums t334).toList != (strOfNums l0_0).toList) = false := bne_eq_false_iff_eq.mpr c262
        clear c262
        by_cases c263 : (l1.length : Int) = 0
        ·
         rw [if_pos c263] at H
         have c263b0 : ((l1.length : Int) == 0) = true := beq_iff_eq.mpr c263
         have c263b1 : ((l1.length : Int) != 0) = false := bne_eq_false_iff_eq.mpr c263
         clear c263
         by_cases c264 : t313 = 0
         ·
          rw [if_pos c264] at H
          have c264b0 : (t313 == 0) = true := beq_iff_eq.mpr c264
          have c264b1 : (t313 != 0) = false := bne_eq_false_iff_eq.mpr c264
          clear c264
          replace H := Option.bind_eq_some_iff.mp H
          obtain ⟨t340, A2650, H⟩ := H
          replace H : (some t340) = some r := H
          have A265 := aM A2650
          clear A2650
          obtain rfl := Option.some.inj H
          have hnb266 := NBq13.out
          have hnc266 := NBq20.out
          have hnb267 := NBq0.out
          have hnc267 := NBq21.out
          have hnb268 := NBq11.out
          have hnc268 := NBq17.out
          have hcz269_0 : wr.cell? ⟨gb301, 0, none⟩ = some (.slice A0_0 l0_0.length c0_0) := (kC BK301.out 0).trans rfl
          have hcz269_1 : wr.cell? ⟨gb301, 1, none⟩ = some (.int .i64 a0_1) := (kC BK301.out 1).trans rfl
          have hfz269_0 := kF BK301.out 0
          have hfz269_1 := kF BK301.out 1
          go_wp2_with (first | ((with_reducible refine gate_callee (f := 9) rfl ?_); refine goesL_ (some 54) rfl rfl Try.func9 (by kernel_rfl) rfl #[.agg #[.slice A0_0 l0_0.length c0_0, .int .i64 a0_1]] rfl (by (try simp only [List.map_toArray, List.map_cons, List.map_nil]); first | done | rfl | (simp only [List.length_drop, List.length_take]; rfl)) ?_; (with_reducible refine (wal_Sync.calls _ _ l0_0 a0_1 t334 t337 _ ?side1 ?side2 A258.out).mono ?_); (case side1 => repeat (first | exact (Kd.V_reads' HOq0.out).2.2 | (with_reducible refine Kd.C_alloc ?_ _) | (with_reducible refine Kd.C_drewN ?_ _) | (with_reducible refine Kd.C_drew ?_))); (case side2 => exact (Kd.V_reads' HOq0.out).2.1); rintro e w270 ⟨v335, rfl, ho0, hb⟩; refine ⟨_, rfl, ?_⟩; replace HO_1 := aM (vB (vU HO_1.out) hb); replace HOq0 := aM (vB (vU HOq0.out) hb); replace HOq3 := aM (vB (vU HOq3.out) hb); replace HOq2 := aM (vB (vU HOq2.out) hb); have HO336 := aM (Kd.V_lower (Kd.V_mono (ok' := fun k_ => ((P0_0_ k_ ∨ P1_ k_) ∨ w.heap.size ≤ k_) ∧ some k_ ≠ (.slice Ao15 t304.length co15 : Value).ownBlock ∧ k_ ≠ gb301 ∧ k_ ≠ gb308 ∧ k_ ≠ gb314 ∧ k_ ≠ gb315) ho0 (fun k_ hk_ => ⟨(.inr (Nat.le_trans (below_size (by repeat (first | (with_reducible first | exact HB.out | apply bA | apply bN | apply bD | refine bS ?_ GE301.out | refine bS ?_ GE308.out | refine bS ?_ GE314.out | refine bS ?_ GE315.out) | exact HB.out))) hk_)), (Kd.fresh' (Kd.R_lt (rU HOq1.out)) k_ hk_), (Kd.freshB (g := gb301) (o := .cells #[.slice A0_0 l0_0.length c0_0, .int .i64 a0_1] 26 (0, 0)) (bU BK301.out) k_ hk_), (Kd.freshB (g := gb308) (o := .cells #[.slice Ao15 t304.length co15, .int .i64 t307] 26 (0, 0)) (bU BK308.out) k_ hk_), (Kd.freshB (g := gb314) (o := .cells #[.slice Ao21 t309.length co21, .int .i64 t312] 26 (0, 0)) (bU BK314.out) k_ hk_), (Kd.freshB (g := gb315) (o := .cells #[u316000, .int .i64 x316001_1] 26 (0, 0)) (bU BK315.out) k_ hk_)⟩)) (below_size (by repeat (first | (with_reducible first | exact HB.out | apply bA | apply bN | apply bD | refine bS ?_ GE301.out | refine bS ?_ GE308.out | refine bS ?_ GE314.out | refine bS ?_ GE315.out) | exact HB.out)))); replace HOq1 := aM (Kd.R_below (rU HOq1.out) hb); replace BK301 := aM (kB (g := gb301) (o := .cells #[.slice A0_0 l0_0.length c0_0, .int .i64 a0_1] 26 (0, 0)) (bU BK301.out) hb); replace BK308 := aM (kB (g := gb308) (o := .cells #[.slice Ao15 t304.length co15, .int .i64 t307] 26 (0, 0)) (bU BK308.out) hb); replace BK314 := aM (kB (g := gb314) (o := .cells #[.slice Ao21 t309.length co21, .int .i64 t312] 26 (0, 0)) (bU BK314.out) hb); replace BK315 := aM (kB (g := gb315) (o := .cells #[u316000, .int .i64 x316001_1] 26 (0, 0)) (bU BK315.out) hb); replace HB := aM (below_step (by repeat (first | (with_reducible first | exact HB.out | apply bA | apply bN | apply bD | refine bS ?_ GE301.out | refine bS ?_ GE308.out | refine bS ?_ GE314.out | refine bS ?_ GE315.out) | exact HB.out)) hb); (try clear hb); (try clear hk)) | ((with_reducible refine gate_dst (N := 14) rfl ?_); (try (refine gate_guard (by rfl) ?_; dsimp only)); refine box_event ?hg (N := 14) ?hd (cs := #[.slice none 0 0, .int .i64 0]) (t := 26) ?hr ?_; (case hd => rfl); (case hg => rfl); (case hr => first | (go_simp; done) | (go_simp; rfl)); intro gb338 hg w271 hbox hb; replace HO_1 := aM (vB (vE (vU HO_1.out) gb338 (Nat.le_of_eq hg.symm)) hb); replace HOq0 := aM (vB (vE (vU HOq0.out) gb338 (Nat.le_of_eq hg.symm)) hb); replace HOq1 := aM (Kd.R_below (rU HOq1.out) hb); replace HOq3 := aM (vB (vE (vU HOq3.out) gb338 (Nat.le_of_eq hg.symm)) hb); replace HOq2 := aM (vB (vE (vU HOq2.out) gb338 (Nat.le_of_eq hg.symm)) hb); replace HO336 := aM (vB (vE (vU HO336.out) gb338 (Nat.le_of_eq hg.symm)) hb); have BK338 := aM (hbox); have GW338 := aM ((by rw [hg]; exact (below_size (by repeat (first | (with_reducible first | exact HB.out | apply bA | apply bN | apply bD | refine bS ?_ GE301.out | refine bS ?_ GE308.out | refine bS ?_ GE314.out | refine bS ?_ GE315.out) | exact HB.out))) : w.heap.size ≤ gb338)); have GE338 := aM ((by rw [hg]; exact (below_size (by repeat (first | (with_reducible first | exact HB.out | apply bA | apply bN | apply bD | refine bS ?_ GE301.out | refine bS ?_ GE308.out | refine bS ?_ GE314.out | refine bS ?_ GE315.out) | exact HB.out))) : w.heap.size ≤ gb338)); replace HB := aM (below_step (by repeat (first | (with_reducible first | exact HB.out | apply bA | apply bN | apply bD | refine bS ?_ GE301.out | refine bS ?_ GE308.out | refine bS ?_ GE314.out | refine bS ?_ GE315.out) | exact HB.out)) hb); have NBq7 := aM ((by rw [hg]; exact Nat.ne_of_lt (blk_lt (g := gb301) (o := .cells #[.slice A0_0 l0_0.length c0_0, .int .i64 a0_1] 26 (0, 0)) (bU BK301.out)) : gb301 ≠ gb338)); have NBq31 := aM ((by rw [hg]; exact Nat.ne_of_gt (blk_lt (g := gb301) (o := .cells #[.slice A0_0 l0_0.length c0_0, .int .i64 a0_1] 26 (0, 0)) (bU BK301.out)) : gb338 ≠ gb301)); replace BK301 := aM (kB (g := gb301) (o := .cells #[.slice A0_0 l0_0.length c0_0, .int .i64 a0_1] 26 (0, 0)) (bU BK301.out) hb); have NBq8 := aM ((by rw [hg]; exact Nat.ne_of_lt (blk_lt (g := gb308) (o := .cells #[.slice Ao15 t304.length co15, .int .i64 t307] 26 (0, 0)) (bU BK308.out)) : gb308 ≠ gb338)); have NBq32 := aM ((by rw [hg]; exact Nat.ne_of_gt (blk_lt (g := gb308) (o := .cells #[.slice Ao15 t304.length co15, .int .i64 t307] 26 (0, 0)) (bU BK308.out)) : gb338 ≠ gb308)); replace BK308 := aM (kB (g := gb308) (o := .cells #[.slice Ao15 t304.length co15, .int .i64 t307] 26 (0, 0)) (bU BK308.out) hb); have NBq9 := aM ((by rw [hg]; exact Nat.ne_of_lt (blk_lt (g := gb314) (o := .cells #[.slice Ao21 t309.length co21, .int .i64 t312] 26 (0, 0)) (bU BK314.out)) : gb314 ≠ gb338)); have NBq33 := aM ((by rw [hg]; exact Nat.ne_of_gt (blk_lt (g := gb314) (o := .cells #[.slice Ao21 t309.length co21, .int .i64 t312] 26 (0, 0)) (bU BK314.out)) : gb338 ≠ gb314)); replace BK314 := aM (kB (g := gb314) (o := .cells #[.slice Ao21 t309.length co21, .int .i64 t312] 26 (0, 0)) (bU BK314.out) hb); have NBq10 := aM ((by rw [hg]; exact Nat.ne_of_lt (blk_lt (g := gb315) (o := .cells #[u316000, .int .i64 x316001_1] 26 (0, 0)) (bU BK315.out)) : gb315 ≠ gb338)); have NBq34 := aM ((by rw [hg]; exact Nat.ne_of_gt (blk_lt (g := gb315) (o := .cells #[u316000, .int .i64 x316001_1] 26 (0, 0)) (bU BK315.out)) : gb338 ≠ gb315)); replace BK315 := aM (kB (g := gb315) (o := .cells #[u316000, .int .i64 x316001_1] 26 (0, 0)) (bU BK315.out) hb); clear hb hbox hg; obtain ⟨Ao272, co272, eo272⟩ := Kd.V_slice HO336.out; subst eo272; have hnb273 := NBq31.out; have hnc273 := NBq7.out; have hnb274 := NBq32.out; have hnc274 := NBq8.out; have hnb275 := NBq33.out; have hnc275 := NBq9.out; have hnb276 := NBq34.out; have hnc276 := NBq10.out; have hcz277_0 : w271.cell? ⟨gb338, 0, none⟩ = some (.slice none 0 0) := (kC BK338.out 0).trans rfl; have hcz277_1 : w271.cell? ⟨gb338, 1, none⟩ = some (.int .i64 0) := (kC BK338.out 1).trans rfl; have hfz277_0 := kF BK338.out 0; have hfz277_1 := kF BK338.out 1; have hcz278_0 : w271.cell? ⟨gb301, 0, none⟩ = some (.slice A0_0 l0_0.length c0_0) := (kC BK301.out 0).trans rfl; have hcz278_1 : w271.cell? ⟨gb301, 1, none⟩ = some (.int .i64 a0_1) := (kC BK301.out 1).trans rfl; have hfz278_0 := kF BK301.out 0; have hfz278_1 := kF BK301.out 1; have hnb279 := NBq1.out; have hnc279 := NBq22.out; have hnb280 := NBq12.out; have hnc280 := NBq18.out; have hcz281_0 : w271.cell? ⟨gb308, 0, none⟩ = some (.slice Ao15 t304.length co15) := (kC BK308.out 0).trans rfl; have hcz281_1 : w271.cell? ⟨gb308, 1, none⟩ = some (.int .i64 t307) := (kC BK308.out 1).trans rfl; have hfz281_0 := kF BK308.out 0; have hfz281_1 := kF BK308.out 1) | ((with_reducible refine gate_callee (f := 15) rfl ?_); refine goesL_ (some 57) rfl rfl Try.func15 (by kernel_rfl) rfl #[.agg #[.slice A0_0 l0_0.length c0_0, .int .i64 a0_1], .agg #[.slice Ao15 t304.length co15, .int .i64 t307]] rfl (by (try simp only [List.map_toArray, List.map_cons, List.map_nil]); first | done | rfl | (simp only [List.length_drop, List.length_take]; rfl)) ?_; (with_reducible refine (banksmanref04_Same.calls _ _ l0_0 a0_1 _ _ t304 t307 true _ ?side1 ?side2 ?side3 ?side4 A259.out).mono ?_); (case side1 => refine (Kd.V_reads' (e := 5) (base := w.heap.size) (ok := fun k_ => ((((P0_0_ k_ ∨ P1_ k_) ∨ w.heap.size ≤ k_) ∧ (some k_ ≠ (.slice Ao15 t304.length co15 : Value).ownBlock ∧ (k_ ≠ gb301 ∧ (k_ ≠ gb308 ∧ (k_ ≠ gb314 ∧ k_ ≠ gb315))))) ∧ k_ ≠ gb338)) (n := l0_0.length) (c := c0_0) ?_).2.2; exact (by (with_reducible repeat (first | apply Kd.V_alloc | apply Kd.V_drewN | apply Kd.V_drew)); exact (Kd.V_mono (Kd.V_far (p := ⟨gb338, 1, none⟩) (Kd.V_far (p := ⟨gb338, 0, none⟩) (Kd.V_mono HOq0.out (fun k_ hk => (⟨hk, hk.2⟩ : _ ∧ k_ ≠ gb338))) (fun _ hk => hk.2) (.slice Ao272 t334.length co272)) (fun _ hk => hk.2) (.int .i64 t337)) (fun _ h_ => h_.1)))); (case side2 => exact (Kd.V_reads' HOq0.out).2.1); (case side3 => refine (Kd.R_reads' (e := 5) (base := w.heap.size) (ok := fun k_ => (w.heap.size ≤ k_)) (n := t304.length) (c := co15) ?_).2.2; exact (by (with_reducible repeat (first | apply Kd.R_alloc | apply Kd.R_drewN | apply Kd.R_drew)); exact (Kd.R_mono (Kd.R_far (p := ⟨gb338, 1, none⟩) (Kd.R_far (p := ⟨gb338, 0, none⟩) (Kd.R_types HOq1.out BK338.out (by decide)) (fun _ hk => hk.2) (.slice Ao272 t334.length co272)) (fun _ hk => hk.2) (.int .i64 t337)) (fun _ h_ => h_.1)))); (case side4 => exact (Kd.R_reads' HOq1.out).2.1); rintro e w282 ⟨rfl, hb⟩; refine ⟨_, rfl, ?_⟩; replace HO_1 := aM (vB (by (with_reducible repeat (first | apply Kd.V_alloc | apply Kd.V_drewN | apply Kd.V_drew)); exact (Kd.V_mono (Kd.V_far (p := ⟨gb338, 1, none⟩) (Kd.V_far (p := ⟨gb338, 0, none⟩) (Kd.V_mono HO_1.out (fun k_ hk => (⟨hk, hk.2⟩ : _ ∧ k_ ≠ gb338))) (fun _ hk => hk.2) (.slice Ao272 t334.length co272)) (fun _ hk => hk.2) (.int .i64 t337)) (fun _ h_ => h_.1))) hb); replace HOq0 := aM (vB (by (with_reducible repeat (first | apply Kd.V_alloc | apply Kd.V_drewN | apply Kd.V_drew)); exact (Kd.V_mono (Kd.V_far (p := ⟨gb338, 1, none⟩) (Kd.V_far (p := ⟨gb338, 0, none⟩) (Kd.V_mono HOq0.out (fun k_ hk => (⟨hk, hk.2⟩ : _ ∧ k_ ≠ gb338))) (fun _ hk => hk.2) (.slice Ao272 t334.length co272)) (fun _ hk => hk.2) (.int .i64 t337)) (fun _ h_ => h_.1))) hb); replace HOq1 := aM (Kd.R_below (by (with_reducible repeat (first | apply Kd.R_alloc | apply Kd.R_drewN | apply Kd.R_drew)); exact (Kd.R_mono (Kd.R_far (p := ⟨gb338, 1, none⟩) (Kd.R_far (p := ⟨gb338, 0, none⟩) (Kd.R_types HOq1.out BK338.out (by decide)) (fun _ hk => hk.2) (.slice Ao272 t334.length co272)) (fun _ hk => hk.2) (.int .i64 t337)) (fun _ h_ => h_.1))) hb); replace HOq3 := aM (vB (by (with_reducible repeat (first | apply Kd.V_alloc | apply Kd.V_drewN | apply Kd.V_drew)); exact (Kd.V_mono (Kd.V_far (p := ⟨gb338, 1, none⟩) (Kd.V_far (p := ⟨gb338, 0, none⟩) (Kd.V_mono HOq3.out (fun k_ hk => (⟨hk, hk.2⟩ : _ ∧ k_ ≠ gb338))) (fun _ hk => hk.2) (.slice Ao272 t334.length co272)) (fun _ hk => hk.2) (.int .i64 t337)) (fun _ h_ => h_.1))) hb); replace HOq2 := aM (vB (by (with_reducible repeat (first | apply Kd.V_alloc | apply Kd.V_drewN | apply Kd.V_drew)); exact (Kd.V_mono (Kd.V_far (p := ⟨gb338, 1, none⟩) (Kd.V_far (p := ⟨gb338, 0, none⟩) (Kd.V_mono HOq2.out (fun k_ hk => (⟨hk, hk.2⟩ : _ ∧ k_ ≠ gb338))) (fun _ hk => hk.2) (.slice Ao272 t334.length co272)) (fun _ hk => hk.2) (.int .i64 t337)) (fun _ h_ => h_.1))) hb); replace HO336 := aM (vB (by (with_reducible repeat (first | apply Kd.V_alloc | apply Kd.V_drewN | apply Kd.V_drew)); exact (Kd.V_mono (Kd.V_far (p := ⟨gb338, 1, none⟩) (Kd.V_far (p := ⟨gb338, 0, none⟩) (Kd.V_mono HO336.out (fun k_ hk => (⟨hk, hk.2⟩ : _ ∧ k_ ≠ gb338))) (fun _ hk => hk.2) (.slice Ao272 t334.length co272)) (fun _ hk => hk.2) (.int .i64 t337)) (fun _ h_ => h_.1))) hb); replace BK301 := aM (kB (g := gb301) (o := .cells #[.slice A0_0 l0_0.length c0_0, .int .i64 a0_1] 26 (0, 0)) (by (with_reducible repeat (first | refine blk_drewN ?_ _ | refine blk_drew ?_ | refine blk_alloc ?_ _)); refine blk_far ?_ NBq7.out _; (with_reducible repeat (first | refine blk_drewN ?_ _ | refine blk_drew ?_ | refine blk_alloc ?_ _)); refine blk_far ?_ NBq7.out _; (with_reducible repeat (first | refine blk_drewN ?_ _ | refine blk_drew ?_ | refine blk_alloc ?_ _)); exact BK301.out) hb); replace BK308 := aM (kB (g := gb308) (o := .cells #[.slice Ao15 t304.length co15, .int .i64 t307] 26 (0, 0)) (by (with_reducible repeat (first | refine blk_drewN ?_ _ | refine blk_drew ?_ | refine blk_alloc ?_ _)); refine blk_far ?_ NBq8.out _; (with_reducible repeat (first | refine blk_drewN ?_ _ | refine blk_drew ?_ | refine blk_alloc ?_ _)); refine blk_far ?_ NBq8.out _; (with_reducible repeat (first | refine blk_drewN ?_ _ | refine blk_drew ?_ | refine blk_alloc ?_ _)); exact BK308.out) hb); replace BK314 := aM (kB (g := gb314) (o := .cells #[.slice Ao21 t309.length co21, .int .i64 t312] 26 (0, 0)) (by (with_reducible repeat (first | refine blk_drewN ?_ _ | refine blk_drew ?_ | refine blk_alloc ?_ _)); refine blk_far ?_ NBq9.out _; (with_reducible repeat (first | refine blk_drewN ?_ _ | refine blk_drew ?_ | refine blk_alloc ?_ _)); refine blk_far ?_ NBq9.out _; (with_reducible repeat (first | refine blk_drewN ?_ _ | refine blk_drew ?_ | refine blk_alloc ?_ _)); exact BK314.out) hb); replace BK315 := aM (kB (g := gb315) (o := .cells #[u316000, .int .i64 x316001_1] 26 (0, 0)) (by (with_reducible repeat (first | refine blk_drewN ?_ _ | refine blk_drew ?_ | refine blk_alloc ?_ _)); refine blk_far ?_ NBq10.out _; (with_reducible repeat (first | refine blk_drewN ?_ _ | refine blk_drew ?_ | refine blk_alloc ?_ _)); refine blk_far ?_ NBq10.out _; (with_reducible repeat (first | refine blk_drewN ?_ _ | refine blk_drew ?_ | refine blk_alloc ?_ _)); exact BK315.out) hb); replace BK338 := aM (kB (g := gb338) (o := .cells #[.slice Ao272 t334.length co272, .int .i64 t337] 26 (0, 0)) (by (with_reducible repeat (first | refine blk_drewN ?_ _ | refine blk_drew ?_ | refine blk_alloc ?_ _)); refine blk_put (cs := #[.slice Ao272 t334.length co272, .int .i64 0]) ?_ 1 _ rfl; (with_reducible repeat (first | refine blk_drewN ?_ _ | refine blk_drew ?_ | refine blk_alloc ?_ _)); refine blk_put (cs := #[.slice none 0 0, .int .i64 0]) ?_ 0 _ rfl; (with_reducible repeat (first | refine blk_drewN ?_ _ | refine blk_drew ?_ | refine blk_alloc ?_ _)); exact BK338.out) hb); replace HB := aM (below_step (by repeat (first | (with_reducible first | exact HB.out | apply bA | apply bN | apply bD | refine bS ?_ GE301.out | refine bS ?_ GE308.out | refine bS ?_ GE314.out | refine bS ?_ GE315.out | refine bS ?_ GE338.out) | exact HB.out)) hb); (try clear hb); (try clear hb2); (try clear hk); (try clear hi); have hcz283_0 : w282.cell? ⟨gb338, 0, none⟩ = some (.slice Ao272 t334.length co272) := (kC BK338.out 0).trans rfl; have hcz283_1 : w282.cell? ⟨gb338, 1, none⟩ = some (.int .i64 t337) := (kC BK338.out 1).trans rfl; have hfz283_0 := kF BK338.out 0; have hfz283_1 := kF BK338.out 1; have hcv284 := Kd.C_string (P := Try.prog) (A := Ao272) (c := co272) Try.underlying23 Try.underlying5 Try.underlying9 (Kd.V_reads' HO336.out).2.2; have hcz285_0 : w282.cell? ⟨gb301, 0, none⟩ = some (.slice A0_0 l0_0.length c0_0) := (kC BK301.out 0).trans rfl; have hcz285_1 : w282.cell? ⟨gb301, 1, none⟩ = some (.int .i64 a0_1) := (kC BK301.out 1).trans rfl; have hfz285_0 := kF BK301.out 0; have hfz285_1 := kF BK301.out 1; have hcv286 := Kd.C_string (P := Try.prog) (A := A0_0) (c := c0_0) Try.underlying23 Try.underlying5 Try.underlying9 (Kd.V_reads' HOq0.out).2.2; have hnb287 := NBq19.out; have hnc287 := NBq35.out; have hcz288_0 : w282.cell? ⟨gb314, 0, none⟩ = some (.slice Ao21 t309.length co21) := (kC BK314.out 0).trans rfl; have hcz288_1 : w282.cell? ⟨gb314, 1, none⟩ = some (.int .i64 t312) := (kC BK314.out 1).trans rfl; have hfz288_0 := kF BK314.out 0; have hfz288_1 := kF BK314.out 1; have hcz289_0 : w282.cell? ⟨gb315, 0, none⟩ = some (u316000) := (kC BK315.out 0).trans rfl; have hcz289_1 : w282.cell? ⟨gb315, 1, none⟩ = some (.int .i64 x316001_1) := (kC BK315.out 1).trans rfl; have hfz289_0 := kF BK315.out 0; have hfz289_1 := kF BK315.out 1; obtain ⟨Ao290, co290, eo290⟩ := Kd.V_slice HOq2.out; subst eo290) | (go_at_call 15; (with_reducible refine (banksmanref04_Same.calls _ _ t309 t312 _ _ x316000_1 x316001_1 t340 _ ?side1 ?side2 ?side3 ?side4 A265.out).mono ?_); (case side1 => repeat (first | exact (Kd.V_reads' HOq3.out).2.2 | (with_reducible refine Kd.C_alloc ?_ _) | (with_reducible refine Kd.C_drewN ?_ _) | (with_reducible refine Kd.C_drew ?_))); (case side2 => exact (Kd.V_reads' HOq3.out).2.1); (case side3 => repeat (first | exact (Kd.V_reads' HOq2.out).2.2 | (with_reducible refine Kd.C_alloc ?_ _) | (with_reducible refine Kd.C_drewN ?_ _) | (with_reducible refine Kd.C_drew ?_))); (case side4 => exact (Kd.V_reads' HOq2.out).2.1); rintro e w291 ⟨rfl, hb⟩; replace HO_1 := aM (vB (vU HO_1.out) hb); replace HOq0 := aM (vB (vU HOq0.out) hb); replace HOq1 := aM (Kd.R_below (rU HOq1.out) hb); replace HOq3 := aM (vB (vU HOq3.out) hb); replace HOq2 := aM (vB (vU HOq2.out) hb); replace HO336 := aM (vB (vU HO336.out) hb); replace BK301 := aM (kB (g := gb301) (o := .cells #[.slice A0_0 l0_0.length c0_0, .int .i64 a0_1] 26 (0, 0)) (bU BK301.out) hb); replace BK308 := aM (kB (g := gb308) (o := .cells #[.slice Ao15 t304.length co15, .int .i64 t307] 26 (0, 0)) (bU BK308.out) hb); replace BK314 := aM (kB (g := gb314) (o := .cells #[.slice Ao21 t309.length co21, .int .i64 t312] 26 (0, 0)) (bU BK314.out) hb); replace BK315 := aM (kB (g := gb315) (o := .cells #[.slice Ao290 x316000_1.length co290, .int .i64 x316001_1] 26 (0, 0)) (bU BK315.out) hb); replace BK338 := aM (kB (g := gb338) (o := .cells #[.slice Ao272 t334.length co272, .int .i64 t337] 26 (0, 0)) (bU BK338.out) hb); replace HB := aM (below_step (by repeat (first | (with_reducible first | exact HB.out | apply bA | apply bN | apply bD | refine bS ?_ GE301.out | refine bS ?_ GE308.out | refine bS ?_ GE314.out | refine bS ?_ GE315.out | refine bS ?_ GE338.out) | exact HB.out)) hb); (try clear hb); (try clear hb2); (try clear hk); (try clear hi)))
          go_ret
          exact ⟨by first | rfl | (simp [errW_none, errW_some] <;> rfl) | (simp [*, errW_none, errW_some] <;> rfl), by repeat (first | (with_reducible first | exact HB.out | apply bA | apply bN | apply bD | refine bS ?_ GE301.out | refine bS ?_ GE308.out | refine bS ?_ GE314.out | refine bS ?_ GE315.out | refine bS ?_ GE338.out) | exact HB.out)⟩
         ·
          rw [if_neg c264] at H
          have c264b0 : (t313 == 0) = false := beq_eq_false_iff_ne.mpr c264
          have c264b1 : (t313 != 0) = true := bne_iff_ne.mpr c264
          obtain rfl := Option.some.inj H
          have hnb292 := NBq13.out
          have hnc292 := NBq20.out
          have hnb293 := NBq0.out
          have hnc293 := NBq21.out
          have hnb294 := NBq11.out
          have hnc294 := NBq17.out
          have hcz295_0 : wr.cell? ⟨gb301, 0, none⟩ = some (.slice A0_0 l0_0.length c0_0) := (kC BK301.out 0).trans rfl
          have hcz295_1 : wr.cell? ⟨gb301, 1, none⟩ = some (.int .i64 a0_1) := (kC BK301.out 1).trans rfl
          have hfz295_0 := kF BK301.out 0
          have hfz295_1 := kF BK301.out 1
          go_wp2_with (first | ((with_reducible refine gate_callee (f := 9) rfl ?_); refine goesL_ (some 54) rfl rfl Try.func9 (by kernel_rfl) rfl #[.agg #[.slice A0_0 l0_0.length c0_0, .int .i64 a0_1]] rfl (by (try simp only [List.map_toArray, List.map_cons, List.map_nil]); first | done | rfl | (simp only [List.length_drop, List.length_take]; rfl)) ?_; (with_reducible refine (wal_Sync.calls _ _ l0_0 a0_1 t334 t337 _ ?side1 ?side2 A258.out).mono ?_); (case side1 => repeat (first | exact (Kd.V_reads' HOq0.out).2.2 | (with_reducible refine Kd.C_alloc ?_ _) | (with_reducible refine Kd.C_drewN ?_ _) | (with_reducible refine Kd.C_drew ?_))); (case side2 => exact (Kd.V_reads' HOq0.out).2.1); rintro e w296 ⟨v335, rfl, ho0, hb⟩; refine ⟨_, rfl, ?_⟩; replace HO_1 := aM (vB (vU HO_1.out) hb); replace HOq0 := aM (vB (vU HOq0.out) hb); replace HOq3 := aM (vB (vU HOq3.out) hb); replace HOq2 := aM (vB (vU HOq2.out) hb); have HO336 := aM (Kd.V_lower (Kd.V_mono (ok' := fun k_ => ((P0_0_ k_ ∨ P1_ k_) ∨ w.heap.size ≤ k_) ∧ some k_ ≠ (.slice Ao15 t304.length co15 : Value).ownBlock ∧ k_ ≠ gb301 ∧ k_ ≠ gb308 ∧ k_ ≠ gb314 ∧ k_ ≠ gb315) ho0 (fun k_ hk_ => ⟨(.inr (Nat.le_trans (below_size (by repeat (first | (with_reducible first | exact HB.out | apply bA | apply bN | apply bD | refine bS ?_ GE301.out | refine bS ?_ GE308.out | refine bS ?_ GE314.out | refine bS ?_ GE315.out) | exact HB.out))) hk_)), (Kd.fresh' (Kd.R_lt (rU HOq1.out)) k_ hk_), (Kd.freshB (g := gb301) (o := .cells #[.slice A0_0 l0_0.length c0_0, .int .i64 a0_1] 26 (0, 0)) (bU BK301.out) k_ hk_), (Kd.freshB (g := gb308) (o := .cells #[.slice Ao15 t304.length co15, .int .i64 t307] 26 (0, 0)) (bU BK308.out) k_ hk_), (Kd.freshB (g := gb314) (o := .cells #[.slice Ao21 t309.length co21, .int .i64 t312] 26 (0, 0)) (bU BK314.out) k_ hk_), (Kd.freshB (g := gb315) (o := .cells #[u316000, .int .i64 x316001_1] 26 (0, 0)) (bU BK315.out) k_ hk_)⟩)) (below_size (by repeat (first | (with_reducible first | exact HB.out | apply bA | apply bN | apply bD | refine bS ?_ GE301.out | refine bS ?_ GE308.out | refine bS ?_ GE314.out | refine bS ?_ GE315.out) | exact HB.out)))); replace HOq1 := aM (Kd.R_below (rU HOq1.out) hb); replace BK301 := aM (kB (g := gb301) (o := .cells #[.slice A0_0 l0_0.length c0_0, .int .i64 a0_1] 26 (0, 0)) (bU BK301.out) hb); replace BK308 := aM (kB (g := gb308) (o := .cells #[.slice Ao15 t304.length co15, .int .i64 t307] 26 (0, 0)) (bU BK308.out) hb); replace BK314 := aM (kB (g := gb314) (o := .cells #[.slice Ao21 t309.length co21, .int .i64 t312] 26 (0, 0)) (bU BK314.out) hb); replace BK315 := aM (kB (g := gb315) (o := .cells #[u316000, .int .i64 x316001_1] 26 (0, 0)) (bU BK315.out) hb); replace HB := aM (below_step (by repeat (first | (with_reducible first | exact HB.out | apply bA | apply bN | apply bD | refine bS ?_ GE301.out | refine bS ?_ GE308.out | refine bS ?_ GE314.out | refine bS ?_ GE315.out) | exact HB.out)) hb); (try clear hb); (try clear hk)) | ((with_reducible refine gate_dst (N := 14) rfl ?_); (try (refine gate_guard (by rfl) ?_; dsimp only)); refine box_event ?hg (N := 14) ?hd (cs := #[.slice none 0 0, .int .i64 0]) (t := 26) ?hr ?_; (case hd => rfl); (case hg => rfl); (case hr => first | (go_simp; done) | (go_simp; rfl)); intro gb338 hg w297 hbox hb; replace HO_1 := aM (vB (vE (vU HO_1.out) gb338 (Nat.le_of_eq hg.symm)) hb); replace HOq0 := aM (vB (vE (vU HOq0.out) gb338 (Nat.le_of_eq hg.symm)) hb); replace HOq1 := aM (Kd.R_below (rU HOq1.out) hb); replace HOq3 := aM (vB (vE (vU HOq3.out) gb338 (Nat.le_of_eq hg.symm)) hb); replace HOq2 := aM (vB (vE (vU HOq2.out) gb338 (Nat.le_of_eq hg.symm)) hb); replace HO336 := aM (vB (vE (vU HO336.out) gb338 (Nat.le_of_eq hg.symm)) hb); have BK338 := aM (hbox); have GW338 := aM ((by rw [hg]; exact (below_size (by repeat (first | (with_reducible first | exact HB.out | apply bA | apply bN | apply bD | refine bS ?_ GE301.out | refine bS ?_ GE308.out | refine bS ?_ GE314.out | refine bS ?_ GE315.out) | exact HB.out))) : w.heap.size ≤ gb338)); have GE338 := aM ((by rw [hg]; exact (below_size (by repeat (first | (with_reducible first | exact HB.out | apply bA | apply bN | apply bD | refine bS ?_ GE301.out | refine bS ?_ GE308.out | refine bS ?_ GE314.out | refine bS ?_ GE315.out) | exact HB.out))) : w.heap.size ≤ gb338)); replace HB := aM (below_step (by repeat (first | (with_reducible first | exact HB.out | apply bA | apply bN | apply bD | refine bS ?_ GE301.out | refine bS ?_ GE308.out | refine bS ?_ GE314.out | refine bS ?_ GE315.out) | exact HB.out)) hb); have NBq7 := aM ((by rw [hg]; exact Nat.ne_of_lt (blk_lt (g := gb301) (o := .cells #[.slice A0_0 l0_0.length c0_0, .int .i64 a0_1] 26 (0, 0)) (bU BK301.out)) : gb301 ≠ gb338)); have NBq31 := aM ((by rw [hg]; exact Nat.ne_of_gt (blk_lt (g := gb301) (o := .cells #[.slice A0_0 l0_0.length c0_0, .int .i64 a0_1] 26 (0, 0)) (bU BK301.out)) : gb338 ≠ gb301)); replace BK301 := aM (kB (g := gb301) (o := .cells #[.slice A0_0 l0_0.length c0_0, .int .i64 a0_1] 26 (0, 0)) (bU BK301.out) hb); have NBq8 := aM ((by rw [hg]; exact Nat.ne_of_lt (blk_lt (g := gb308) (o := .cells #[.slice Ao15 t304.length co15, .int .i64 t307] 26 (0, 0)) (bU BK308.out)) : gb308 ≠ gb338)); have NBq32 := aM ((by rw [hg]; exact Nat.ne_of_gt (blk_lt (g := gb308) (o := .cells #[.slice Ao15 t304.length co15, .int .i64 t307] 26 (0, 0)) (bU BK308.out)) : gb338 ≠ gb308)); replace BK308 := aM (kB (g := gb308) (o := .cells #[.slice Ao15 t304.length co15, .int .i64 t307] 26 (0, 0)) (bU BK308.out) hb); have NBq9 := aM ((by rw [hg]; exact Nat.ne_of_lt (blk_lt (g := gb314) (o := .cells #[.slice Ao21 t309.length co21, .int .i64 t312] 26 (0, 0)) (bU BK314.out)) : gb314 ≠ gb338)); have NBq33 := aM ((by rw [hg]; exact Nat.ne_of_gt (blk_lt (g := gb314) (o := .cells #[.slice Ao21 t309.length co21, .int .i64 t312] 26 (0, 0)) (bU BK314.out)) : gb338 ≠ gb314)); replace BK314 := aM (kB (g := gb314) (o := .cells #[.slice Ao21 t309.length co21, .int .i64 t312] 26 (0, 0)) (bU BK314.out) hb); have NBq10 := aM ((by rw [hg]; exact Nat.ne_of_lt (blk_lt (g := gb315) (o := .cells #[u316000, .int .i64 x316001_1] 26 (0, 0)) (bU BK315.out)) : gb315 ≠ gb338)); have NBq34 := aM ((by rw [hg]; exact Nat.ne_of_gt (blk_lt (g := gb315) (o := .cells #[u316000, .int .i64 x316001_1] 26 (0, 0)) (bU BK315.out)) : gb338 ≠ gb315)); replace BK315 := aM (kB (g := gb315) (o := .cells #[u316000, .int .i64 x316001_1] 26 (0, 0)) (bU BK315.out) hb); clear hb hbox hg; obtain ⟨Ao298, co298, eo298⟩ := Kd.V_slice HO336.out; subst eo298; have hnb299 := NBq31.out; have hnc299 := NBq7.out; have hnb300 := NBq32.out; have hnc300 := NBq8.out; have hnb301 := NBq33.out; have hnc301 := NBq9.out; have hnb302 := NBq34.out; have hnc302 := NBq10.out; have hcz303_0 : w297.cell? ⟨gb338, 0, none⟩ = some (.slice none 0 0) := (kC BK338.out 0).trans rfl; have hcz303_1 : w297.cell? ⟨gb338, 1, none⟩ = some (.int .i64 0) := (kC BK338.out 1).trans rfl; have hfz303_0 := kF BK338.out 0; have hfz303_1 := kF BK338.out 1; have hcz304_0 : w297.cell? ⟨gb301, 0, none⟩ = some (.slice A0_0 l0_0.length c0_0) := (kC BK301.out 0).trans rfl; have hcz304_1 : w297.cell? ⟨gb301, 1, none⟩ = some (.int .i64 a0_1) := (kC BK301.out 1).trans rfl; have hfz304_0 := kF BK301.out 0; have hfz304_1 := kF BK301.out 1; have hnb305 := NBq1.out; have hnc305 := NBq22.out; have hnb306 := NBq12.out; have hnc306 := NBq18.out; have hcz307_0 : w297.cell? ⟨gb308, 0, none⟩ = some (.slice Ao15 t304.length co15) := (kC BK308.out 0).trans rfl; have hcz307_1 : w297.cell? ⟨gb308, 1, none⟩ = some (.int .i64 t307) := (kC BK308.out 1).trans rfl; have hfz307_0 := kF BK308.out 0; have hfz307_1 := kF BK308.out 1) | ((with_reducible refine gate_callee (f := 15) rfl ?_); refine goesL_ (some 57) rfl rfl Try.func15 (by kernel_rfl) rfl #[.agg #[.slice A0_0 l0_0.length c0_0, .int .i64 a0_1], .agg #[.slice Ao15 t304.length co15, .int .i64 t307]] rfl (by (try simp only [List.map_toArray, List.map_cons, List.map_nil]); first | done | rfl | (simp only [List.length_drop, List.length_take]; rfl)) ?_; (with_reducible refine (banksmanref04_Same.calls _ _ l0_0 a0_1 _ _ t304 t307 true _ ?side1 ?side2 ?side3 ?side4 A259.out).mono ?_); (case side1 => refine (Kd.V_reads' (e := 5) (base := w.heap.size) (ok := fun k_ => ((((P0_0_ k_ ∨ P1_ k_) ∨ w.heap.size ≤ k_) ∧ (some k_ ≠ (.slice Ao15 t304.length co15 : Value).ownBlock ∧ (k_ ≠ gb301 ∧ (k_ ≠ gb308 ∧ (k_ ≠ gb314 ∧ k_ ≠ gb315))))) ∧ k_ ≠ gb338)) (n := l0_0.length) (c := c0_0) ?_).2.2; exact (by (with_reducible repeat (first | apply Kd.V_alloc | apply Kd.V_drewN | apply Kd.V_drew)); exact (Kd.V_mono (Kd.V_far (p := ⟨gb338, 1, none⟩) (Kd.V_far (p := ⟨gb338, 0, none⟩) (Kd.V_mono HOq0.out (fun k_ hk => (⟨hk, hk.2⟩ : _ ∧ k_ ≠ gb338))) (fun _ hk => hk.2) (.slice Ao298 t334.length co298)) (fun _ hk => hk.2) (.int .i64 t337)) (fun _ h_ => h_.1)))); (case side2 => exact (Kd.V_reads' HOq0.out).2.1); (case side3 => refine (Kd.R_reads' (e := 5) (base := w.heap.size) (ok := fun k_ => (w.heap.size ≤ k_)) (n := t304.length) (c := co15) ?_).2.2; exact (by (with_reducible repeat (first | apply Kd.R_alloc | apply Kd.R_drewN | apply Kd.R_drew)); exact (Kd.R_mono (Kd.R_far (p := ⟨gb338, 1, none⟩) (Kd.R_far (p := ⟨gb338, 0, none⟩) (Kd.R_types HOq1.out BK338.out (by decide)) (fun _ hk => hk.2) (.slice Ao298 t334.length co298)) (fun _ hk => hk.2) (.int .i64 t337)) (fun _ h_ => h_.1)))); (case side4 => exact (Kd.R_reads' HOq1.out).2.1); rintro e w308 ⟨rfl, hb⟩; refine ⟨_, rfl, ?_⟩; replace HO_1 := aM (vB (by (with_reducible repeat (first | apply Kd.V_alloc | apply Kd.V_drewN | apply Kd.V_drew)); exact (Kd.V_mono (Kd.V_far (p := ⟨gb338, 1, none⟩) (Kd.V_far (p := ⟨gb338, 0, none⟩) (Kd.V_mono HO_1.out (fun k_ hk => (⟨hk, hk.2⟩ : _ ∧ k_ ≠ gb338))) (fun _ hk => hk.2) (.slice Ao298 t334.length co298)) (fun _ hk => hk.2) (.int .i64 t337)) (fun _ h_ => h_.1))) hb); replace HOq0 := aM (vB (by (with_reducible repeat (first | apply Kd.V_alloc | apply Kd.V_drewN | apply Kd.V_drew)); exact (Kd.V_mono (Kd.V_far (p := ⟨gb338, 1, none⟩) (Kd.V_far (p := ⟨gb338, 0, none⟩) (Kd.V_mono HOq0.out (fun k_ hk => (⟨hk, hk.2⟩ : _ ∧ k_ ≠ gb338))) (fun _ hk => hk.2) (.slice Ao298 t334.length co298)) (fun _ hk => hk.2) (.int .i64 t337)) (fun _ h_ => h_.1))) hb); replace HOq1 := aM (Kd.R_below (by (with_reducible repeat (first | apply Kd.R_alloc | apply Kd.R_drewN | apply Kd.R_drew)); exact (Kd.R_mono (Kd.R_far (p := ⟨gb338, 1, none⟩) (Kd.R_far (p := ⟨gb338, 0, none⟩) (Kd.R_types HOq1.out BK338.out (by decide)) (fun _ hk => hk.2) (.slice Ao298 t334.length co298)) (fun _ hk => hk.2) (.int .i64 t337)) (fun _ h_ => h_.1))) hb); replace HOq3 := aM (vB (by (with_reducible repeat (first | apply Kd.V_alloc | apply Kd.V_drewN | apply Kd.V_drew)); exact (Kd.V_mono (Kd.V_far (p := ⟨gb338, 1, none⟩) (Kd.V_far (p := ⟨gb338, 0, none⟩) (Kd.V_mono HOq3.out (fun k_ hk => (⟨hk, hk.2⟩ : _ ∧ k_ ≠ gb338))) (fun _ hk => hk.2) (.slice Ao298 t334.length co298)) (fun _ hk => hk.2) (.int .i64 t337)) (fun _ h_ => h_.1))) hb); replace HOq2 := aM (vB (by (with_reducible repeat (first | apply Kd.V_alloc | apply Kd.V_drewN | apply Kd.V_drew)); exact (Kd.V_mono (Kd.V_far (p := ⟨gb338, 1, none⟩) (Kd.V_far (p := ⟨gb338, 0, none⟩) (Kd.V_mono HOq2.out (fun k_ hk => (⟨hk, hk.2⟩ : _ ∧ k_ ≠ gb338))) (fun _ hk => hk.2) (.slice Ao298 t334.length co298)) (fun _ hk => hk.2) (.int .i64 t337)) (fun _ h_ => h_.1))) hb); replace HO336 := aM (vB (by (with_reducible repeat (first | apply Kd.V_alloc | apply Kd.V_drewN | apply Kd.V_drew)); exact (Kd.V_mono (Kd.V_far (p := ⟨gb338, 1, none⟩) (Kd.V_far (p := ⟨gb338, 0, none⟩) (Kd.V_mono HO336.out (fun k_ hk => (⟨hk, hk.2⟩ : _ ∧ k_ ≠ gb338))) (fun _ hk => hk.2) (.slice Ao298 t334.length co298)) (fun _ hk => hk.2) (.int .i64 t337)) (fun _ h_ => h_.1))) hb); replace BK301 := aM (kB (g := gb301) (o := .cells #[.slice A0_0 l0_0.length c0_0, .int .i64 a0_1] 26 (0, 0)) (by (with_reducible repeat (first | refine blk_drewN ?_ _ | refine blk_drew ?_ | refine blk_alloc ?_ _)); refine blk_far ?_ NBq7.out _; (with_reducible repeat (first | refine blk_drewN ?_ _ | refine blk_drew ?_ | refine blk_alloc ?_ _)); refine blk_far ?_ NBq7.out _; (with_reducible repeat (first | refine blk_drewN ?_ _ | refine blk_drew ?_ | refine blk_alloc ?_ _)); exact BK301.out) hb); replace BK308 := aM (kB (g := gb308) (o := .cells #[.slice Ao15 t304.length co15, .int .i64 t307] 26 (0, 0)) (by (with_reducible repeat (first | refine blk_drewN ?_ _ | refine blk_drew ?_ | refine blk_alloc ?_ _)); refine blk_far ?_ NBq8.out _; (with_reducible repeat (first | refine blk_drewN ?_ _ | refine blk_drew ?_ | refine blk_alloc ?_ _)); refine blk_far ?_ NBq8.out _; (with_reducible repeat (first | refine blk_drewN ?_ _ | refine blk_drew ?_ | refine blk_alloc ?_ _)); exact BK308.out) hb); replace BK314 := aM (kB (g := gb314) (o := .cells #[.slice Ao21 t309.length co21, .int .i64 t312] 26 (0, 0)) (by (with_reducible repeat (first | refine blk_drewN ?_ _ | refine blk_drew ?_ | refine blk_alloc ?_ _)); refine blk_far ?_ NBq9.out _; (with_reducible repeat (first | refine blk_drewN ?_ _ | refine blk_drew ?_ | refine blk_alloc ?_ _)); refine blk_far ?_ NBq9.out _; (with_reducible repeat (first | refine blk_drewN ?_ _ | refine blk_drew ?_ | refine blk_alloc ?_ _)); exact BK314.out) hb); replace BK315 := aM (kB (g := gb315) (o := .cells #[u316000, .int .i64 x316001_1] 26 (0, 0)) (by (with_reducible repeat (first | refine blk_drewN ?_ _ | refine blk_drew ?_ | refine blk_alloc ?_ _)); refine blk_far ?_ NBq10.out _; (with_reducible repeat (first | refine blk_drewN ?_ _ | refine blk_drew ?_ | refine blk_alloc ?_ _)); refine blk_far ?_ NBq10.out _; (with_reducible repeat (first | refine blk_drewN ?_ _ | refine blk_drew ?_ | refine blk_alloc ?_ _)); exact BK315.out) hb); replace BK338 := aM (kB (g := gb338) (o := .cells #[.slice Ao298 t334.length co298, .int .i64 t337] 26 (0, 0)) (by (with_reducible repeat (first | refine blk_drewN ?_ _ | refine blk_drew ?_ | refine blk_alloc ?_ _)); refine blk_put (cs := #[.slice Ao298 t334.length co298, .int .i64 0]) ?_ 1 _ rfl; (with_reducible repeat (first | refine blk_drewN ?_ _ | refine blk_drew ?_ | refine blk_alloc ?_ _)); refine blk_put (cs := #[.slice none 0 0, .int .i64 0]) ?_ 0 _ rfl; (with_reducible repeat (first | refine blk_drewN ?_ _ | refine blk_drew ?_ | refine blk_alloc ?_ _)); exact BK338.out) hb); replace HB := aM (below_step (by repeat (first | (with_reducible first | exact HB.out | apply bA | apply bN | apply bD | refine bS ?_ GE301.out | refine bS ?_ GE308.out | refine bS ?_ GE314.out | refine bS ?_ GE315.out | refine bS ?_ GE338.out) | exact HB.out)) hb); (try clear hb); (try clear hb2); (try clear hk); (try clear hi); have hcz309_0 : w308.cell? ⟨gb338, 0, none⟩ = some (.slice Ao298 t334.length co298) := (kC BK338.out 0).trans rfl; have hcz309_1 : w308.cell? ⟨gb338, 1, none⟩ = some (.int .i64 t337) := (kC BK338.out 1).trans rfl; have hfz309_0 := kF BK338.out 0; have hfz309_1 := kF BK338.out 1; have hcv310 := Kd.C_string (P := Try.prog) (A := Ao298) (c := co298) Try.underlying23 Try.underlying5 Try.underlying9 (Kd.V_reads' HO336.out).2.2; have hcz311_0 : w308.cell? ⟨gb301, 0, none⟩ = some (.slice A0_0 l0_0.length c0_0) := (kC BK301.out 0).trans rfl; have hcz311_1 : w308.cell? ⟨gb301, 1, none⟩ = some (.int .i64 a0_1) := (kC BK301.out 1).trans rfl; have hfz311_0 := kF BK301.out 0; have hfz311_1 := kF BK301.out 1; have hcv312 := Kd.C_string (P := Try.prog) (A := A0_0) (c := c0_0) Try.underlying23 Try.underlying5 Try.underlying9 (Kd.V_reads' HOq0.out).2.2))
          go_ret
          exact ⟨by first | rfl | (simp [errW_none, errW_some] <;> rfl) | (simp [*, errW_none, errW_some] <;> rfl), by repeat (first | (with_reducible first | exact HB.out | apply bA | apply bN | apply bD | refine bS ?_ GE301.out | refine bS ?_ GE308.out | refine bS ?_ GE314.out | refine bS ?_ GE315.out | refine bS ?_ GE338.out) | exact HB.out)⟩
        ·
         rw [if_neg c263] at H
         have c263b0 : ((l1.length : Int) == 0) = false := beq_eq_false_iff_ne.mpr c263
         have c263b1 : ((l1.length : Int) != 0) = true := bne_iff_ne.mpr c263
         have c263b2 : ¬ (l1 = []) := fun h_ => c263 (by rw [h_]; rfl)
         by_cases c313 : ((t313 == 0) == (x10_1 == 0)) = true
         ·
          rw [if_pos c313] at H
          have c313b0 : ((t313 == 0) == (x10_1 == 0)) = true := c313
          (try (have c313b1 : decide ((t313 == 0) = (x10_1 == 0)) = true := by simpa using c313))
          (try (have c313b2 : ((t313 == 0) == (x10_1 == 0)) = true := by simpa using c313))
          clear c313
          by_cases c314 : t313 = 0
          ·
           rw [if_pos c314] at H
           have c314b0 : (t313 == 0) = true := beq_iff_eq.mpr c314
           have c314b1 : (t313 != 0) = false := bne_eq_false_iff_eq.mpr c314
           have ee2_ : (x10_1 == 0) = true := by simpa [c314b0] using c313b0
           have ef2_ : (x10_1 != 0) = false := by simp [bne, ee2_]
           (try clear c313b0)
           (try clear c313b1)
           (try clear c313b2)
           clear c314
           replace H := Option.bind_eq_some_iff.mp H
           obtain ⟨t341, A3150, H⟩ := H
           replace H : (some t341) = some r := H
           have A315 := aM A3150
           clear A3150
           obtain rfl := Option.some.inj H
           have hnb316 := NBq13.out
           have hnc316 := NBq20.out
           have hnb317 := NBq0.out
           have hnc317 := NBq21.out
           have hnb318 := NBq11.out
           have hnc318 := NBq17.out
           have hcz319_0 : wr.cell? ⟨gb301, 0, none⟩ = some (.slice A0_0 l0_0.length c0_0) := (kC BK301.out 0).trans rfl
           have hcz319_1 : wr.cell? ⟨gb301, 1, none⟩ = some (.int .i64 a0_1) := (kC BK301.out 1).trans rfl
           have hfz319_0 := kF BK301.out 0
           have hfz319_1 := kF BK301.out 1
           go_wp2_with (first | ((with_reducible refine gate_callee (f := 9) rfl ?_); refine goesL_ (some 54) rfl rfl Try.func9 (by kernel_rfl) rfl #[.agg #[.slice A0_0 l0_0.length c0_0, .int .i64 a0_1]] rfl (by (try simp only [List.map_toArray, List.map_cons, List.map_nil]); first | done | rfl | (simp only [List.length_drop, List.length_take]; rfl)) ?_; (with_reducible refine (wal_Sync.calls _ _ l0_0 a0_1 t334 t337 _ ?side1 ?side2 A258.out).mono ?_); (case side1 => repeat (first | exact (Kd.V_reads' HOq0.out).2.2 | (with_reducible refine Kd.C_alloc ?_ _) | (with_reducible refine Kd.C_drewN ?_ _) | (with_reducible refine Kd.C_drew ?_))); (case side2 => exact (Kd.V_reads' HOq0.out).2.1); rintro e w320 ⟨v335, rfl, ho0, hb⟩; refine ⟨_, rfl, ?_⟩; replace HO_1 := aM (vB (vU HO_1.out) hb); replace HOq0 := aM (vB (vU HOq0.out) hb); replace HOq3 := aM (vB (vU HOq3.out) hb); replace HOq2 := aM (vB (vU HOq2.out) hb); have HO336 := aM (Kd.V_lower (Kd.V_mono (ok' := fun k_ => ((P0_0_ k_ ∨ P1_ k_) ∨ w.heap.size ≤ k_) ∧ some k_ ≠ (.slice Ao15 t304.length co15 : Value).ownBlock ∧ k_ ≠ gb301 ∧ k_ ≠ gb308 ∧ k_ ≠ gb314 ∧ k_ ≠ gb315) ho0 (fun k_ hk_ => ⟨(.inr (Nat.le_trans (below_size (by repeat (first | (with_reducible first | exact HB.out | apply bA | apply bN | apply bD | refine bS ?_ GE301.out | refine bS ?_ GE308.out | refine bS ?_ GE314.out | refine bS ?_ GE315.out) | exact HB.out))) hk_)), (Kd.fresh' (Kd.R_lt (rU HOq1.out)) k_ hk_), (Kd.freshB (g := gb301) (o := .cells #[.slice A0_0 l0_0.length c0_0, .int .i64 a0_1] 26 (0, 0)) (bU BK301.out) k_ hk_), (Kd.freshB (g := gb308) (o := .cells #[.slice Ao15 t304.length co15, .int .i64 t307] 26 (0, 0)) (bU BK308.out) k_ hk_), (Kd.freshB (g := gb314) (o := .cells #[.slice Ao21 t309.length co21, .int .i64 t312] 26 (0, 0)) (bU BK314.out) k_ hk_), (Kd.freshB (g := gb315) (o := .cells #[u316000, .int .i64 x316001_1] 26 (0, 0)) (bU BK315.out) k_ hk_)⟩)) (below_size (by repeat (first | (with_reducible first | exact HB.out | apply bA | apply bN | apply bD | refine bS ?_ GE301.out | refine bS ?_ GE308.out | refine bS ?_ GE314.out | refine bS ?_ GE315.out) | exact HB.out)))); replace HOq1 := aM (Kd.R_below (rU HOq1.out) hb); replace BK301 := aM (kB (g := gb301) (o := .cells #[.slice A0_0 l0_0.length c0_0, .int .i64 a0_1] 26 (0, 0)) (bU BK301.out) hb); replace BK308 := aM (kB (g := gb308) (o := .cells #[.slice Ao15 t304.length co15, .int .i64 t307] 26 (0, 0)) (bU BK308.out) hb); replace BK314 := aM (kB (g := gb314) (o := .cells #[.slice Ao21 t309.length co21, .int .i64 t312] 26 (0, 0)) (bU BK314.out) hb); replace BK315 := aM (kB (g := gb315) (o := .cells #[u316000, .int .i64 x316001_1] 26 (0, 0)) (bU BK315.out) hb); replace HB := aM (below_step (by repeat (first | (with_reducible first | exact HB.out | apply bA | apply bN | apply bD | refine bS ?_ GE301.out | refine bS ?_ GE308.out | refine bS ?_ GE314.out | refine bS ?_ GE315.out) | exact HB.out)) hb); (try clear hb); (try clear hk)) | ((with_reducible refine gate_dst (N := 14) rfl ?_); (try (refine gate_guard (by rfl) ?_; dsimp only)); refine box_event ?hg (N := 14) ?hd (cs := #[.slice none 0 0, .int .i64 0]) (t := 26) ?hr ?_; (case hd => rfl); (case hg => rfl); (case hr => first | (go_simp; done) | (go_simp; rfl)); intro gb338 hg w321 hbox hb; replace HO_1 := aM (vB (vE (vU HO_1.out) gb338 (Nat.le_of_eq hg.symm)) hb); replace HOq0 := aM (vB (vE (vU HOq0.out) gb338 (Nat.le_of_eq hg.symm)) hb); replace HOq1 := aM (Kd.R_below (rU HOq1.out) hb); replace HOq3 := aM (vB (vE (vU HOq3.out) gb338 (Nat.le_of_eq hg.symm)) hb); replace HOq2 := aM (vB (vE (vU HOq2.out) gb338 (Nat.le_of_eq hg.symm)) hb); replace HO336 := aM (vB (vE (vU HO336.out) gb338 (Nat.le_of_eq hg.symm)) hb); have BK338 := aM (hbox); have GW338 := aM ((by rw [hg]; exact (below_size (by repeat (first | (with_reducible first | exact HB.out | apply bA | apply bN | apply bD | refine bS ?_ GE301.out | refine bS ?_ GE308.out | refine bS ?_ GE314.out | refine bS ?_ GE315.out) | exact HB.out))) : w.heap.size ≤ gb338)); have GE338 := aM ((by rw [hg]; exact (below_size (by repeat (first | (with_reducible first | exact HB.out | apply bA | apply bN | apply bD | refine bS ?_ GE301.out | refine bS ?_ GE308.out | refine bS ?_ GE314.out | refine bS ?_ GE315.out) | exact HB.out))) : w.heap.size ≤ gb338)); replace HB := aM (below_step (by repeat (first | (with_reducible first | exact HB.out | apply bA | apply bN | apply bD | refine bS ?_ GE301.out | refine bS ?_ GE308.out | refine bS ?_ GE314.out | refine bS ?_ GE315.out) | exact HB.out)) hb); have NBq7 := aM ((by rw [hg]; exact Nat.ne_of_lt (blk_lt (g := gb301) (o := .cells #[.slice A0_0 l0_0.length c0_0, .int .i64 a0_1] 26 (0, 0)) (bU BK301.out)) : gb301 ≠ gb338)); have NBq31 := aM ((by rw [hg]; exact Nat.ne_of_gt (blk_lt (g := gb301) (o := .cells #[.slice A0_0 l0_0.length c0_0, .int .i64 a0_1] 26 (0, 0)) (bU BK301.out)) : gb338 ≠ gb301)); replace BK301 := aM (kB (g := gb301) (o := .cells #[.slice A0_0 l0_0.length c0_0, .int .i64 a0_1] 26 (0, 0)) (bU BK301.out) hb); have NBq8 := aM ((by rw [hg]; exact Nat.ne_of_lt (blk_lt (g := gb308) (o := .cells #[.slice Ao15 t304.length co15, .int .i64 t307] 26 (0, 0)) (bU BK308.out)) : gb308 ≠ gb338)); have NBq32 := aM ((by rw [hg]; exact Nat.ne_of_gt (blk_lt (g := gb308) (o := .cells #[.slice Ao15 t304.length co15, .int .i64 t307] 26 (0, 0)) (bU BK308.out)) : gb338 ≠ gb308)); replace BK308 := aM (kB (g := gb308) (o := .cells #[.slice Ao15 t304.length co15, .int .i64 t307] 26 (0, 0)) (bU BK308.out) hb); have NBq9 := aM ((by rw [hg]; exact Nat.ne_of_lt (blk_lt (g := gb314) (o := .cells #[.slice Ao21 t309.length co21, .int .i64 t312] 26 (0, 0)) (bU BK314.out)) : gb314 ≠ gb338)); have NBq33 := aM ((by rw [hg]; exact Nat.ne_of_gt (blk_lt (g := gb314) (o := .cells #[.slice Ao21 t309.length co21, .int .i64 t312] 26 (0, 0)) (bU BK314.out)) : gb338 ≠ gb314)); replace BK314 := aM (kB (g := gb314) (o := .cells #[.slice Ao21 t309.length co21, .int .i64 t312] 26 (0, 0)) (bU BK314.out) hb); have NBq10 := aM ((by rw [hg]; exact Nat.ne_of_lt (blk_lt (g := gb315) (o := .cells #[u316000, .int .i64 x316001_1] 26 (0, 0)) (bU BK315.out)) : gb315 ≠ gb338)); have NBq34 := aM ((by rw [hg]; exact Nat.ne_of_gt (blk_lt (g := gb315) (o := .cells #[u316000, .int .i64 x316001_1] 26 (0, 0)) (bU BK315.out)) : gb338 ≠ gb315)); replace BK315 := aM (kB (g := gb315) (o := .cells #[u316000, .int .i64 x316001_1] 26 (0, 0)) (bU BK315.out) hb); clear hb hbox hg; obtain ⟨Ao322, co322, eo322⟩ := Kd.V_slice HO336.out; subst eo322; have hnb323 := NBq31.out; have hnc323 := NBq7.out; have hnb324 := NBq32.out; have hnc324 := NBq8.out; have hnb325 := NBq33.out; have hnc325 := NBq9.out; have hnb326 := NBq34.out; have hnc326 := NBq10.out; have hcz327_0 : w321.cell? ⟨gb338, 0, none⟩ = some (.slice none 0 0) := (kC BK338.out 0).trans rfl; have hcz327_1 : w321.cell? ⟨gb338, 1, none⟩ = some (.int .i64 0) := (kC BK338.out 1).trans rfl; have hfz327_0 := kF BK338.out 0; have hfz327_1 := kF BK338.out 1; have hcz328_0 : w321.cell? ⟨gb301, 0, none⟩ = some (.slice A0_0 l0_0.length c0_0) := (kC BK301.out 0).trans rfl; have hcz328_1 : w321.cell? ⟨gb301, 1, none⟩ = some (.int .i64 a0_1) := (kC BK301.out 1).trans rfl; have hfz328_0 := kF BK301.out 0; have hfz328_1 := kF BK301.out 1; have hnb329 := NBq1.out; have hnc329 := NBq22.out; have hnb330 := NBq12.out; have hnc330 := NBq18.out; have hcz331_0 : w321.cell? ⟨gb308, 0, none⟩ = some (.slice Ao15 t304.length co15) := (kC BK308.out 0).trans rfl; have hcz331_1 : w321.cell? ⟨gb308, 1, none⟩ = some (.int .i64 t307) := (kC BK308.out 1).trans rfl; have hfz331_0 := kF BK308.out 0; have hfz331_1 := kF BK308.out 1) | ((with_reducible refine gate_callee (f := 15) rfl ?_); refine goesL_ (some 57) rfl rfl Try.func15 (by kernel_rfl) rfl #[.agg #[.slice A0_0 l0_0.length c0_0, .int .i64 a0_1], .agg #[.slice Ao15 t304.length co15, .int .i64 t307]] rfl (by (try simp only [List.map_toArray, List.map_cons, List.map_nil]); first | done | rfl | (simp only [List.length_drop, List.length_take]; rfl)) ?_; (with_reducible refine (banksmanref04_Same.calls _ _ l0_0 a0_1 _ _ t304 t307 true _ ?side1 ?side2 ?side3 ?side4 A259.out).mono ?_); (case side1 => refine (Kd.V_reads' (e := 5) (base := w.heap.size) (ok := fun k_ => ((((P0_0_ k_ ∨ P1_ k_) ∨ w.heap.size ≤ k_) ∧ (some k_ ≠ (.slice Ao15 t304.length co15 : Value).ownBlock ∧ (k_ ≠ gb301 ∧ (k_ ≠ gb308 ∧ (k_ ≠ gb314 ∧ k_ ≠ gb315))))) ∧ k_ ≠ gb338)) (n := l0_0.length) (c := c0_0) ?_).2.2; exact (by (with_reducible repeat (first | apply Kd.V_alloc | apply Kd.V_drewN | apply Kd.V_drew)); exact (Kd.V_mono (Kd.V_far (p := ⟨gb338, 1, none⟩) (Kd.V_far (p := ⟨gb338, 0, none⟩) (Kd.V_mono HOq0.out (fun k_ hk => (⟨hk, hk.2⟩ : _ ∧ k_ ≠ gb338))) (fun _ hk => hk.2) (.slice Ao322 t334.length co322)) (fun _ hk => hk.2) (.int .i64 t337)) (fun _ h_ => h_.1)))); (case side2 => exact (Kd.V_reads' HOq0.out).2.1); (case side3 => refine (Kd.R_reads' (e := 5) (base := w.heap.size) (ok := fun k_ => (w.heap.size ≤ k_)) (n := t304.length) (c := co15) ?_).2.2; exact (by (with_reducible repeat (first | apply Kd.R_alloc | apply Kd.R_drewN | apply Kd.R_drew)); exact (Kd.R_mono (Kd.R_far (p := ⟨gb338, 1, none⟩) (Kd.R_far (p := ⟨gb338, 0, none⟩) (Kd.R_types HOq1.out BK338.out (by decide)) (fun _ hk => hk.2) (.slice Ao322 t334.length co322)) (fun _ hk => hk.2) (.int .i64 t337)) (fun _ h_ => h_.1)))); (case side4 => exact (Kd.R_reads' HOq1.out).2.1); rintro e w332 ⟨rfl, hb⟩; refine ⟨_, rfl, ?_⟩; replace HO_1 := aM (vB (by (with_reducible repeat (first | apply Kd.V_alloc | apply Kd.V_drewN | apply Kd.V_drew)); exact (Kd.V_mono (Kd.V_far (p := ⟨gb338, 1, none⟩) (Kd.V_far (p := ⟨gb338, 0, none⟩) (Kd.V_mono HO_1.out (fun k_ hk => (⟨hk, hk.2⟩ : _ ∧ k_ ≠ gb338))) (fun _ hk => hk.2) (.slice Ao322 t334.length co322)) (fun _ hk => hk.2) (.int .i64 t337)) (fun _ h_ => h_.1))) hb); replace HOq0 := aM (vB (by (with_reducible repeat (first | apply Kd.V_alloc | apply Kd.V_drewN | apply Kd.V_drew)); exact (Kd.V_mono (Kd.V_far (p := ⟨gb338, 1, none⟩) (Kd.V_far (p := ⟨gb338, 0, none⟩) (Kd.V_mono HOq0.out (fun k_ hk => (⟨hk, hk.2⟩ : _ ∧ k_ ≠ gb338))) (fun _ hk => hk.2) (.slice Ao322 t334.length co322)) (fun _ hk => hk.2) (.int .i64 t337)) (fun _ h_ => h_.1))) hb); replace HOq1 := aM (Kd.R_below (by (with_reducible repeat (first | apply Kd.R_alloc | apply Kd.R_drewN | apply Kd.R_drew)); exact (Kd.R_mono (Kd.R_far (p := ⟨gb338, 1, none⟩) (Kd.R_far (p := ⟨gb338, 0, none⟩) (Kd.R_types HOq1.out BK338.out (by decide)) (fun _ hk => hk.2) (.slice Ao322 t334.length co322)) (fun _ hk => hk.2) (.int .i64 t337)) (fun _ h_ => h_.1))) hb); replace HOq3 := aM (vB (by (with_reducible repeat (first | apply Kd.V_alloc | apply Kd.V_drewN | apply Kd.V_drew)); exact (Kd.V_mono (Kd.V_far (p := ⟨gb338, 1, none⟩) (Kd.V_far (p := ⟨gb338, 0, none⟩) (Kd.V_mono HOq3.out (fun k_ hk => (⟨hk, hk.2⟩ : _ ∧ k_ ≠ gb338))) (fun _ hk => hk.2) (.slice Ao322 t334.length co322)) (fun _ hk => hk.2) (.int .i64 t337)) (fun _ h_ => h_.1))) hb); replace HOq2 := aM (vB (by (with_reducible repeat (first | apply Kd.V_alloc | apply Kd.V_drewN | apply Kd.V_drew)); exact (Kd.V_mono (Kd.V_far (p := ⟨gb338, 1, none⟩) (Kd.V_far (p := ⟨gb338, 0, none⟩) (Kd.V_mono HOq2.out (fun k_ hk => (⟨hk, hk.2⟩ : _ ∧ k_ ≠ gb338))) (fun _ hk => hk.2) (.slice Ao322 t334.length co322)) (fun _ hk => hk.2) (.int .i64 t337)) (fun _ h_ => h_.1))) hb); replace HO336 := aM (vB (by (with_reducible repeat (first | apply Kd.V_alloc | apply Kd.V_drewN | apply Kd.V_drew)); exact (Kd.V_mono (Kd.V_far (p := ⟨gb338, 1, none⟩) (Kd.V_far (p := ⟨gb338, 0, none⟩) (Kd.V_mono HO336.out (fun k_ hk => (⟨hk, hk.2⟩ : _ ∧ k_ ≠ gb338))) (fun _ hk => hk.2) (.slice Ao322 t334.length co322)) (fun _ hk => hk.2) (.int .i64 t337)) (fun _ h_ => h_.1))) hb); replace BK301 := aM (kB (g := gb301) (o := .cells #[.slice A0_0 l0_0.length c0_0, .int .i64 a0_1] 26 (0, 0)) (by (with_reducible repeat (first | refine blk_drewN ?_ _ | refine blk_drew ?_ | refine blk_alloc ?_ _)); refine blk_far ?_ NBq7.out _; (with_reducible repeat (first | refine blk_drewN ?_ _ | refine blk_drew ?_ | refine blk_alloc ?_ _)); refine blk_far ?_ NBq7.out _; (with_reducible repeat (first | refine blk_drewN ?_ _ | refine blk_drew ?_ | refine blk_alloc ?_ _)); exact BK301.out) hb); replace BK308 := aM (kB (g := gb308) (o := .cells #[.slice Ao15 t304.length co15, .int .i64 t307] 26 (0, 0)) (by (with_reducible repeat (first | refine blk_drewN ?_ _ | refine blk_drew ?_ | refine blk_alloc ?_ _)); refine blk_far ?_ NBq8.out _; (with_reducible repeat (first | refine blk_drewN ?_ _ | refine blk_drew ?_ | refine blk_alloc ?_ _)); refine blk_far ?_ NBq8.out _; (with_reducible repeat (first | refine blk_drewN ?_ _ | refine blk_drew ?_ | refine blk_alloc ?_ _)); exact BK308.out) hb); replace BK314 := aM (kB (g := gb314) (o := .cells #[.slice Ao21 t309.length co21, .int .i64 t312] 26 (0, 0)) (by (with_reducible repeat (first | refine blk_drewN ?_ _ | refine blk_drew ?_ | refine blk_alloc ?_ _)); refine blk_far ?_ NBq9.out _; (with_reducible repeat (first | refine blk_drewN ?_ _ | refine blk_drew ?_ | refine blk_alloc ?_ _)); refine blk_far ?_ NBq9.out _; (with_reducible repeat (first | refine blk_drewN ?_ _ | refine blk_drew ?_ | refine blk_alloc ?_ _)); exact BK314.out) hb); replace BK315 := aM (kB (g := gb315) (o := .cells #[u316000, .int .i64 x316001_1] 26 (0, 0)) (by (with_reducible repeat (first | refine blk_drewN ?_ _ | refine blk_drew ?_ | refine blk_alloc ?_ _)); refine blk_far ?_ NBq10.out _; (with_reducible repeat (first | refine blk_drewN ?_ _ | refine blk_drew ?_ | refine blk_alloc ?_ _)); refine blk_far ?_ NBq10.out _; (with_reducible repeat (first | refine blk_drewN ?_ _ | refine blk_drew ?_ | refine blk_alloc ?_ _)); exact BK315.out) hb); replace BK338 := aM (kB (g := gb338) (o := .cells #[.slice Ao322 t334.length co322, .int .i64 t337] 26 (0, 0)) (by (with_reducible repeat (first | refine blk_drewN ?_ _ | refine blk_drew ?_ | refine blk_alloc ?_ _)); refine blk_put (cs := #[.slice Ao322 t334.length co322, .int .i64 0]) ?_ 1 _ rfl; (with_reducible repeat (first | refine blk_drewN ?_ _ | refine blk_drew ?_ | refine blk_alloc ?_ _)); refine blk_put (cs := #[.slice none 0 0, .int .i64 0]) ?_ 0 _ rfl; (with_reducible repeat (first | refine blk_drewN ?_ _ | refine blk_drew ?_ | refine blk_alloc ?_ _)); exact BK338.out) hb); replace HB := aM (below_step (by repeat (first | (with_reducible first | exact HB.out | apply bA | apply bN | apply bD | refine bS ?_ GE301.out | refine bS ?_ GE308.out | refine bS ?_ GE314.out | refine bS ?_ GE315.out | refine bS ?_ GE338.out) | exact HB.out)) hb); (try clear hb); (try clear hb2); (try clear hk); (try clear hi); have hcz333_0 : w332.cell? ⟨gb338, 0, none⟩ = some (.slice Ao322 t334.length co322) := (kC BK338.out 0).trans rfl; have hcz333_1 : w332.cell? ⟨gb338, 1, none⟩ = some (.int .i64 t337) := (kC BK338.out 1).trans rfl; have hfz333_0 := kF BK338.out 0; have hfz333_1 := kF BK338.out 1; have hcv334 := Kd.C_string (P := Try.prog) (A := Ao322) (c := co322) Try.underlying23 Try.underlying5 Try.underlying9 (Kd.V_reads' HO336.out).2.2; have hcz335_0 : w332.cell? ⟨gb301, 0, none⟩ = some (.slice A0_0 l0_0.length c0_0) := (kC BK301.out 0).trans rfl; have hcz335_1 : w332.cell? ⟨gb301, 1, none⟩ = some (.int .i64 a0_1) := (kC BK301.out 1).trans rfl; have hfz335_0 := kF BK301.out 0; have hfz335_1 := kF BK301.out 1; have hcv336 := Kd.C_string (P := Try.prog) (A := A0_0) (c := c0_0) Try.underlying23 Try.underlying5 Try.underlying9 (Kd.V_reads' HOq0.out).2.2; have hnb337 := NBq19.out; have hnc337 := NBq35.out; have hcz338_0 : w332.cell? ⟨gb314, 0, none⟩ = some (.slice Ao21 t309.length co21) := (kC BK314.out 0).trans rfl; have hcz338_1 : w332.cell? ⟨gb314, 1, none⟩ = some (.int .i64 t312) := (kC BK314.out 1).trans rfl; have hfz338_0 := kF BK314.out 0; have hfz338_1 := kF BK314.out 1; have hcz339_0 : w332.cell? ⟨gb315, 0, none⟩ = some (u316000) := (kC BK315.out 0).trans rfl; have hcz339_1 : w332.cell? ⟨gb315, 1, none⟩ = some (.int .i64 x316001_1) := (kC BK315.out 1).trans rfl; have hfz339_0 := kF BK315.out 0; have hfz339_1 := kF BK315.out 1; obtain ⟨Ao340, co340, eo340⟩ := Kd.V_slice HOq2.out; subst eo340) | (go_at_call 15; (with_reducible refine (banksmanref04_Same.calls _ _ t309 t312 _ _ x316000_1 x316001_1 t341 _ ?side1 ?side2 ?side3 ?side4 A315.out).mono ?_); (case side1 => repeat (first | exact (Kd.V_reads' HOq3.out).2.2 | (with_reducible refine Kd.C_alloc ?_ _) | (with_reducible refine Kd.C_drewN ?_ _) | (with_reducible refine Kd.C_drew ?_))); (case side2 => exact (Kd.V_reads' HOq3.out).2.1); (case side3 => repeat (first | exact (Kd.V_reads' HOq2.out).2.2 | (with_reducible refine Kd.C_alloc ?_ _) | (with_reducible refine Kd.C_drewN ?_ _) | (with_reducible refine Kd.C_drew ?_))); (case side4 => exact (Kd.V_reads' HOq2.out).2.1); rintro e w341 ⟨rfl, hb⟩; replace HO_1 := aM (vB (vU HO_1.out) hb); replace HOq0 := aM (vB (vU HOq0.out) hb); replace HOq1 := aM (Kd.R_below (rU HOq1.out) hb); replace HOq3 := aM (vB (vU HOq3.out) hb); replace HOq2 := aM (vB (vU HOq2.out) hb); replace HO336 := aM (vB (vU HO336.out) hb); replace BK301 := aM (kB (g := gb301) (o := .cells #[.slice A0_0 l0_0.length c0_0, .int .i64 a0_1] 26 (0, 0)) (bU BK301.out) hb); replace BK308 := aM (kB (g := gb308) (o := .cells #[.slice Ao15 t304.length co15, .int .i64 t307] 26 (0, 0)) (bU BK308.out) hb); replace BK314 := aM (kB (g := gb314) (o := .cells #[.slice Ao21 t309.length co21, .int .i64 t312] 26 (0, 0)) (bU BK314.out) hb); replace BK315 := aM (kB (g := gb315) (o := .cells #[.slice Ao340 x316000_1.length co340, .int .i64 x316001_1] 26 (0, 0)) (bU BK315.out) hb); replace BK338 := aM (kB (g := gb338) (o := .cells #[.slice Ao322 t334.length co322, .int .i64 t337] 26 (0, 0)) (bU BK338.out) hb); replace HB := aM (below_step (by repeat (first | (with_reducible first | exact HB.out | apply bA | apply bN | apply bD | refine bS ?_ GE301.out | refine bS ?_ GE308.out | refine bS ?_ GE314.out | refine bS ?_ GE315.out | refine bS ?_ GE338.out) | exact HB.out)) hb); (try clear hb); (try clear hb2); (try clear hk); (try clear hi)))
           go_ret
           exact ⟨by first | rfl | (simp [errW_none, errW_some] <;> rfl) | (simp [*, errW_none, errW_some] <;> rfl), by repeat (first | (with_reducible first | exact HB.out | apply bA | apply bN | apply bD | refine bS ?_ GE301.out | refine bS ?_ GE308.out | refine bS ?_ GE314.out | refine bS ?_ GE315.out | refine bS ?_ GE338.out) | exact HB.out)⟩
          ·
           rw [if_neg c314] at H
           have c314b0 : (t313 == 0) = false := beq_eq_false_iff_ne.mpr c314
           have c314b1 : (t313 != 0) = true := bne_iff_ne.mpr c314
           have ee3_ : (x10_1 == 0) = false := by simpa [c314b0] using c313b0
           have ef3_ : (x10_1 != 0) = true := by simp [bne, ee3_]
           (try clear c313b0)
           (try clear c313b1)
           (try clear c313b2)
           obtain rfl := Option.some.inj H
           have hnb342 := NBq13.out
           have hnc342 := NBq20.out
           have hnb343 := NBq0.out
           have hnc343 := NBq21.out
           have hnb344 := NBq11.out
           have hnc344 := NBq17.out
           have hcz345_0 : wr.cell? ⟨gb301, 0, none⟩ = some (.slice A0_0 l0_0.length c0_0) := (kC BK301.out 0).trans rfl
           have hcz345_1 : wr.cell? ⟨gb301, 1, none⟩ = some (.int .i64 a0_1) := (kC BK301.out 1).trans rfl
           have hfz345_0 := kF BK301.out 0
           have hfz345_1 := kF BK301.out 1
           go_wp2_with (first | ((with_reducible refine gate_callee (f := 9) rfl ?_); refine goesL_ (some 54) rfl rfl Try.func9 (by kernel_rfl) rfl #[.agg #[.slice A0_0 l0_0.length c0_0, .int .i64 a0_1]] rfl (by (try simp only [List.map_toArray, List.map_cons, List.map_nil]); first | done | rfl | (simp only [List.length_drop, List.length_take]; rfl)) ?_; (with_reducible refine (wal_Sync.calls _ _ l0_0 a0_1 t334 t337 _ ?side1 ?side2 A258.out).mono ?_); (case side1 => repeat (first | exact (Kd.V_reads' HOq0.out).2.2 | (with_reducible refine Kd.C_alloc ?_ _) | (with_reducible refine Kd.C_drewN ?_ _) | (with_reducible refine Kd.C_drew ?_))); (case side2 => exact (Kd.V_reads' HOq0.out).2.1); rintro e w346 ⟨v335, rfl, ho0, hb⟩; refine ⟨_, rfl, ?_⟩; replace HO_1 := aM (vB (vU HO_1.out) hb); replace HOq0 := aM (vB (vU HOq0.out) hb); replace HOq3 := aM (vB (vU HOq3.out) hb); replace HOq2 := aM (vB (vU HOq2.out) hb); have HO336 := aM (Kd.V_lower (Kd.V_mono (ok' := fun k_ => ((P0_0_ k_ ∨ P1_ k_) ∨ w.heap.size ≤ k_) ∧ some k_ ≠ (.slice Ao15 t304.length co15 : Value).ownBlock ∧ k_ ≠ gb301 ∧ k_ ≠ gb308 ∧ k_ ≠ gb314 ∧ k_ ≠ gb315) ho0 (fun k_ hk_ => ⟨(.inr (Nat.le_trans (below_size (by repeat (first | (with_reducible first | exact HB.out | apply bA | apply bN | apply bD | refine bS ?_ GE301.out | refine bS ?_ GE308.out | refine bS ?_ GE314.out | refine bS ?_ GE315.out) | exact HB.out))) hk_)), (Kd.fresh' (Kd.R_lt (rU HOq1.out)) k_ hk_), (Kd.freshB (g := gb301) (o := .cells #[.slice A0_0 l0_0.length c0_0, .int .i64 a0_1] 26 (0, 0)) (bU BK301.out) k_ hk_), (Kd.freshB (g := gb308) (o := .cells #[.slice Ao15 t304.length co15, .int .i64 t307] 26 (0, 0)) (bU BK308.out) k_ hk_), (Kd.freshB (g := gb314) (o := .cells #[.slice Ao21 t309.length co21, .int .i64 t312] 26 (0, 0)) (bU BK314.out) k_ hk_), (Kd.freshB (g := gb315) (o := .cells #[u316000, .int .i64 x316001_1] 26 (0, 0)) (bU BK315.out) k_ hk_)⟩)) (below_size (by repeat (first | (with_reducible first | exact HB.out | apply bA | apply bN | apply bD | refine bS ?_ GE301.out | refine bS ?_ GE308.out | refine bS ?_ GE314.out | refine bS ?_ GE315.out) | exact HB.out)))); replace HOq1 := aM (Kd.R_below (rU HOq1.out) hb); replace BK301 := aM (kB (g := gb301) (o := .cells #[.slice A0_0 l0_0.length c0_0, .int .i64 a0_1] 26 (0, 0)) (bU BK301.out) hb); replace BK308 := aM (kB (g := gb308) (o := .cells #[.slice Ao15 t304.length co15, .int .i64 t307] 26 (0, 0)) (bU BK308.out) hb); replace BK314 := aM (kB (g := gb314) (o := .cells #[.slice Ao21 t309.length co21, .int .i64 t312] 26 (0, 0)) (bU BK314.out) hb); replace BK315 := aM (kB (g := gb315) (o := .cells #[u316000, .int .i64 x316001_1] 26 (0, 0)) (bU BK315.out) hb); replace HB := aM (below_step (by repeat (first | (with_reducible first | exact HB.out | apply bA | apply bN | apply bD | refine bS ?_ GE301.out | refine bS ?_ GE308.out | refine bS ?_ GE314.out | refine bS ?_ GE315.out) | exact HB.out)) hb); (try clear hb); (try clear hk)) | ((with_reducible refine gate_dst (N := 14) rfl ?_); (try (refine gate_guard (by rfl) ?_; dsimp only)); refine box_event ?hg (N := 14) ?hd (cs := #[.slice none 0 0, .int .i64 0]) (t := 26) ?hr ?_; (case hd => rfl); (case hg => rfl); (case hr => first | (go_simp; done) | (go_simp; rfl)); intro gb338 hg w347 hbox hb; replace HO_1 := aM (vB (vE (vU HO_1.out) gb338 (Nat.le_of_eq hg.symm)) hb); replace HOq0 := aM (vB (vE (vU HOq0.out) gb338 (Nat.le_of_eq hg.symm)) hb); replace HOq1 := aM (Kd.R_below (rU HOq1.out) hb); replace HOq3 := aM (vB (vE (vU HOq3.out) gb338 (Nat.le_of_eq hg.symm)) hb); replace HOq2 := aM (vB (vE (vU HOq2.out) gb338 (Nat.le_of_eq hg.symm)) hb); replace HO336 := aM (vB (vE (vU HO336.out) gb338 (Nat.le_of_eq hg.symm)) hb); have BK338 := aM (hbox); have GW338 := aM ((by rw [hg]; exact (below_size (by repeat (first | (with_reducible first | exact HB.out | apply bA | apply bN | apply bD | refine bS ?_ GE301.out | refine bS ?_ GE308.out | refine bS ?_ GE314.out | refine bS ?_ GE315.out) | exact HB.out))) : w.heap.size ≤ gb338)); have GE338 := aM ((by rw [hg]; exact (below_size (by repeat (first | (with_reducible first | exact HB.out | apply bA | apply bN | apply bD | refine bS ?_ GE301.out | refine bS ?_ GE308.out | refine bS ?_ GE314.out | refine bS ?_ GE315.out) | exact HB.out))) : w.heap.size ≤ gb338)); replace HB := aM (below_step (by repeat (first | (with_reducible first | exact HB.out | apply bA | apply bN | apply bD | refine bS ?_ GE301.out | refine bS ?_ GE308.out | refine bS ?_ GE314.out | refine bS ?_ GE315.out) | exact HB.out)) hb); have NBq7 := aM ((by rw [hg]; exact Nat.ne_of_lt (blk_lt (g := gb301) (o := .cells #[.slice A0_0 l0_0.length c0_0, .int .i64 a0_1] 26 (0, 0)) (bU BK301.out)) : gb301 ≠ gb338)); have NBq31 := aM ((by rw [hg]; exact Nat.ne_of_gt (blk_lt (g := gb301) (o := .cells #[.slice A0_0 l0_0.length c0_0, .int .i64 a0_1] 26 (0, 0)) (bU BK301.out)) : gb338 ≠ gb301)); replace BK301 := aM (kB (g := gb301) (o := .cells #[.slice A0_0 l0_0.length c0_0, .int .i64 a0_1] 26 (0, 0)) (bU BK301.out) hb); have NBq8 := aM ((by rw [hg]; exact Nat.ne_of_lt (blk_lt (g := gb308) (o := .cells #[.slice Ao15 t304.length co15, .int .i64 t307] 26 (0, 0)) (bU BK308.out)) : gb308 ≠ gb338)); have NBq32 := aM ((by rw [hg]; exact Nat.ne_of_gt (blk_lt (g := gb308) (o := .cells #[.slice Ao15 t304.length co15, .int .i64 t307] 26 (0, 0)) (bU BK308.out)) : gb338 ≠ gb308)); replace BK308 := aM (kB (g := gb308) (o := .cells #[.slice Ao15 t304.length co15, .int .i64 t307] 26 (0, 0)) (bU BK308.out) hb); have NBq9 := aM ((by rw [hg]; exact Nat.ne_of_lt (blk_lt (g := gb314) (o := .cells #[.slice Ao21 t309.length co21, .int .i64 t312] 26 (0, 0)) (bU BK314.out)) : gb314 ≠ gb338)); have NBq33 := aM ((by rw [hg]; exact Nat.ne_of_gt (blk_lt (g := gb314) (o := .cells #[.slice Ao21 t309.length co21, .int .i64 t312] 26 (0, 0)) (bU BK314.out)) : gb338 ≠ gb314)); replace BK314 := aM (kB (g := gb314) (o := .cells #[.slice Ao21 t309.length co21, .int .i64 t312] 26 (0, 0)) (bU BK314.out) hb); have NBq10 := aM ((by rw [hg]; exact Nat.ne_of_lt (blk_lt (g := gb315) (o := .cells #[u316000, .int .i64 x316001_1] 26 (0, 0)) (bU BK315.out)) : gb315 ≠ gb338)); have NBq34 := aM ((by rw [hg]; exact Nat.ne_of_gt (blk_lt (g := gb315) (o := .cells #[u316000, .int .i64 x316001_1] 26 (0, 0)) (bU BK315.out)) : gb338 ≠ gb315)); replace BK315 := aM (kB (g := gb315) (o := .cells #[u316000, .int .i64 x316001_1] 26 (0, 0)) (bU BK315.out) hb); clear hb hbox hg; obtain ⟨Ao348, co348, eo348⟩ := Kd.V_slice HO336.out; subst eo348; have hnb349 := NBq31.out; have hnc349 := NBq7.out; have hnb350 := NBq32.out; have hnc350 := NBq8.out; have hnb351 := NBq33.out; have hnc351 := NBq9.out; have hnb352 := NBq34.out; have hnc352 := NBq10.out; have hcz353_0 : w347.cell? ⟨gb338, 0, none⟩ = some (.slice none 0 0) := (kC BK338.out 0).trans rfl; have hcz353_1 : w347.cell? ⟨gb338, 1, none⟩ = some (.int .i64 0) := (kC BK338.out 1).trans rfl; have hfz353_0 := kF BK338.out 0; have hfz353_1 := kF BK338.out 1; have hcz354_0 : w347.cell? ⟨gb301, 0, none⟩ = some (.slice A0_0 l0_0.length c0_0) := (kC BK301.out 0).trans rfl; have hcz354_1 : w347.cell? ⟨gb301, 1, none⟩ = some (.int .i64 a0_1) := (kC BK301.out 1).trans rfl; have hfz354_0 := kF BK301.out 0; have hfz354_1 := kF BK301.out 1; have hnb355 := NBq1.out; have hnc355 := NBq22.out; have hnb356 := NBq12.out; have hnc356 := NBq18.out; have hcz357_0 : w347.cell? ⟨gb308, 0, none⟩ = some (.slice Ao15 t304.length co15) := (kC BK308.out 0).trans rfl; have hcz357_1 : w347.cell? ⟨gb308, 1, none⟩ = some (.int .i64 t307) := (kC BK308.out 1).trans rfl; have hfz357_0 := kF BK308.out 0; have hfz357_1 := kF BK308.out 1) | ((with_reducible refine gate_callee (f := 15) rfl ?_); refine goesL_ (some 57) rfl rfl Try.func15 (by kernel_rfl) rfl #[.agg #[.slice A0_0 l0_0.length c0_0, .int .i64 a0_1], .agg #[.slice Ao15 t304.length co15, .int .i64 t307]] rfl (by (try simp only [List.map_toArray, List.map_cons, List.map_nil]); first | done | rfl | (simp only [List.length_drop, List.length_take]; rfl)) ?_; (with_reducible refine (banksmanref04_Same.calls _ _ l0_0 a0_1 _ _ t304 t307 true _ ?side1 ?side2 ?side3 ?side4 A259.out).mono ?_); (case side1 => refine (Kd.V_reads' (e := 5) (base := w.heap.size) (ok := fun k_ => ((((P0_0_ k_ ∨ P1_ k_) ∨ w.heap.size ≤ k_) ∧ (some k_ ≠ (.slice Ao15 t304.length co15 : Value).ownBlock ∧ (k_ ≠ gb301 ∧ (k_ ≠ gb308 ∧ (k_ ≠ gb314 ∧ k_ ≠ gb315))))) ∧ k_ ≠ gb338)) (n := l0_0.length) (c := c0_0) ?_).2.2; exact (by (with_reducible repeat (first | apply Kd.V_alloc | apply Kd.V_drewN | apply Kd.V_drew)); exact (Kd.V_mono (Kd.V_far (p := ⟨gb338, 1, none⟩) (Kd.V_far (p := ⟨gb338, 0, none⟩) (Kd.V_mono HOq0.out (fun k_ hk => (⟨hk, hk.2⟩ : _ ∧ k_ ≠ gb338))) (fun _ hk => hk.2) (.slice Ao348 t334.length co348)) (fun _ hk => hk.2) (.int .i64 t337)) (fun _ h_ => h_.1)))); (case side2 => exact (Kd.V_reads' HOq0.out).2.1); (case side3 => refine (Kd.R_reads' (e := 5) (base := w.heap.size) (ok := fun k_ => (w.heap.size ≤ k_)) (n := t304.length) (c := co15) ?_).2.2; exact (by (with_reducible repeat (first | apply Kd.R_alloc | apply Kd.R_drewN | apply Kd.R_drew)); exact (Kd.R_mono (Kd.R_far (p := ⟨gb338, 1, none⟩) (Kd.R_far (p := ⟨gb338, 0, none⟩) (Kd.R_types HOq1.out BK338.out (by decide)) (fun _ hk => hk.2) (.slice Ao348 t334.length co348)) (fun _ hk => hk.2) (.int .i64 t337)) (fun _ h_ => h_.1)))); (case side4 => exact (Kd.R_reads' HOq1.out).2.1); rintro e w358 ⟨rfl, hb⟩; refine ⟨_, rfl, ?_⟩; replace HO_1 := aM (vB (by (with_reducible repeat (first | apply Kd.V_alloc | apply Kd.V_drewN | apply Kd.V_drew)); exact (Kd.V_mono (Kd.V_far (p := ⟨gb338, 1, none⟩) (Kd.V_far (p := ⟨gb338, 0, none⟩) (Kd.V_mono HO_1.out (fun k_ hk => (⟨hk, hk.2⟩ : _ ∧ k_ ≠ gb338))) (fun _ hk => hk.2) (.slice Ao348 t334.length co348)) (fun _ hk => hk.2) (.int .i64 t337)) (fun _ h_ => h_.1))) hb); replace HOq0 := aM (vB (by (with_reducible repeat (first | apply Kd.V_alloc | apply Kd.V_drewN | apply Kd.V_drew)); exact (Kd.V_mono (Kd.V_far (p := ⟨gb338, 1, none⟩) (Kd.V_far (p := ⟨gb338, 0, none⟩) (Kd.V_mono HOq0.out (fun k_ hk => (⟨hk, hk.2⟩ : _ ∧ k_ ≠ gb338))) (fun _ hk => hk.2) (.slice Ao348 t334.length co348)) (fun _ hk => hk.2) (.int .i64 t337)) (fun _ h_ => h_.1))) hb); replace HOq1 := aM (Kd.R_below (by (with_reducible repeat (first | apply Kd.R_alloc | apply Kd.R_drewN | apply Kd.R_drew)); exact (Kd.R_mono (Kd.R_far (p := ⟨gb338, 1, none⟩) (Kd.R_far (p := ⟨gb338, 0, none⟩) (Kd.R_types HOq1.out BK338.out (by decide)) (fun _ hk => hk.2) (.slice Ao348 t334.length co348)) (fun _ hk => hk.2) (.int .i64 t337)) (fun _ h_ => h_.1))) hb); replace HOq3 := aM (vB (by (with_reducible repeat (first | apply Kd.V_alloc | apply Kd.V_drewN | apply Kd.V_drew)); exact (Kd.V_mono (Kd.V_far (p := ⟨gb338, 1, none⟩) (Kd.V_far (p := ⟨gb338, 0, none⟩) (Kd.V_mono HOq3.out (fun k_ hk => (⟨hk, hk.2⟩ : _ ∧ k_ ≠ gb338))) (fun _ hk => hk.2) (.slice Ao348 t334.length co348)) (fun _ hk => hk.2) (.int .i64 t337)) (fun _ h_ => h_.1))) hb); replace HOq2 := aM (vB (by (with_reducible repeat (first | apply Kd.V_alloc | apply Kd.V_drewN | apply Kd.V_drew)); exact (Kd.V_mono (Kd.V_far (p := ⟨gb338, 1, none⟩) (Kd.V_far (p := ⟨gb338, 0, none⟩) (Kd.V_mono HOq2.out (fun k_ hk => (⟨hk, hk.2⟩ : _ ∧ k_ ≠ gb338))) (fun _ hk => hk.2) (.slice Ao348 t334.length co348)) (fun _ hk => hk.2) (.int .i64 t337)) (fun _ h_ => h_.1))) hb); replace HO336 := aM (vB (by (with_reducible repeat (first | apply Kd.V_alloc | apply Kd.V_drewN | apply Kd.V_drew)); exact (Kd.V_mono (Kd.V_far (p := ⟨gb338, 1, none⟩) (Kd.V_far (p := ⟨gb338, 0, none⟩) (Kd.V_mono HO336.out (fun k_ hk => (⟨hk, hk.2⟩ : _ ∧ k_ ≠ gb338))) (fun _ hk => hk.2) (.slice Ao348 t334.length co348)) (fun _ hk => hk.2) (.int .i64 t337)) (fun _ h_ => h_.1))) hb); replace BK301 := aM (kB (g := gb301) (o := .cells #[.slice A0_0 l0_0.length c0_0, .int .i64 a0_1] 26 (0, 0)) (by (with_reducible repeat (first | refine blk_drewN ?_ _ | refine blk_drew ?_ | refine blk_alloc ?_ _)); refine blk_far ?_ NBq7.out _; (with_reducible repeat (first | refine blk_drewN ?_ _ | refine blk_drew ?_ | refine blk_alloc ?_ _)); refine blk_far ?_ NBq7.out _; (with_reducible repeat (first | refine blk_drewN ?_ _ | refine blk_drew ?_ | refine blk_alloc ?_ _)); exact BK301.out) hb); replace BK308 := aM (kB (g := gb308) (o := .cells #[.slice Ao15 t304.length co15, .int .i64 t307] 26 (0, 0)) (by (with_reducible repeat (first | refine blk_drewN ?_ _ | refine blk_drew ?_ | refine blk_alloc ?_ _)); refine blk_far ?_ NBq8.out _; (with_reducible repeat (first | refine blk_drewN ?_ _ | refine blk_drew ?_ | refine blk_alloc ?_ _)); refine blk_far ?_ NBq8.out _; (with_reducible repeat (first | refine blk_drewN ?_ _ | refine blk_drew ?_ | refine blk_alloc ?_ _)); exact BK308.out) hb); replace BK314 := aM (kB (g := gb314) (o := .cells #[.slice Ao21 t309.length co21, .int .i64 t312] 26 (0, 0)) (by (with_reducible repeat (first | refine blk_drewN ?_ _ | refine blk_drew ?_ | refine blk_alloc ?_ _)); refine blk_far ?_ NBq9.out _; (with_reducible repeat (first | refine blk_drewN ?_ _ | refine blk_drew ?_ | refine blk_alloc ?_ _)); refine blk_far ?_ NBq9.out _; (with_reducible repeat (first | refine blk_drewN ?_ _ | refine blk_drew ?_ | refine blk_alloc ?_ _)); exact BK314.out) hb); replace BK315 := aM (kB (g := gb315) (o := .cells #[u316000, .int .i64 x316001_1] 26 (0, 0)) (by (with_reducible repeat (first | refine blk_drewN ?_ _ | refine blk_drew ?_ | refine blk_alloc ?_ _)); refine blk_far ?_ NBq10.out _; (with_reducible repeat (first | refine blk_drewN ?_ _ | refine blk_drew ?_ | refine blk_alloc ?_ _)); refine blk_far ?_ NBq10.out _; (with_reducible repeat (first | refine blk_drewN ?_ _ | refine blk_drew ?_ | refine blk_alloc ?_ _)); exact BK315.out) hb); replace BK338 := aM (kB (g := gb338) (o := .cells #[.slice Ao348 t334.length co348, .int .i64 t337] 26 (0, 0)) (by (with_reducible repeat (first | refine blk_drewN ?_ _ | refine blk_drew ?_ | refine blk_alloc ?_ _)); refine blk_put (cs := #[.slice Ao348 t334.length co348, .int .i64 0]) ?_ 1 _ rfl; (with_reducible repeat (first | refine blk_drewN ?_ _ | refine blk_drew ?_ | refine blk_alloc ?_ _)); refine blk_put (cs := #[.slice none 0 0, .int .i64 0]) ?_ 0 _ rfl; (with_reducible repeat (first | refine blk_drewN ?_ _ | refine blk_drew ?_ | refine blk_alloc ?_ _)); exact BK338.out) hb); replace HB := aM (below_step (by repeat (first | (with_reducible first | exact HB.out | apply bA | apply bN | apply bD | refine bS ?_ GE301.out | refine bS ?_ GE308.out | refine bS ?_ GE314.out | refine bS ?_ GE315.out | refine bS ?_ GE338.out) | exact HB.out)) hb); (try clear hb); (try clear hb2); (try clear hk); (try clear hi); have hcz359_0 : w358.cell? ⟨gb338, 0, none⟩ = some (.slice Ao348 t334.length co348) := (kC BK338.out 0).trans rfl; have hcz359_1 : w358.cell? ⟨gb338, 1, none⟩ = some (.int .i64 t337) := (kC BK338.out 1).trans rfl; have hfz359_0 := kF BK338.out 0; have hfz359_1 := kF BK338.out 1; have hcv360 := Kd.C_string (P := Try.prog) (A := Ao348) (c := co348) Try.underlying23 Try.underlying5 Try.underlying9 (Kd.V_reads' HO336.out).2.2; have hcz361_0 : w358.cell? ⟨gb301, 0, none⟩ = some (.slice A0_0 l0_0.length c0_0) := (kC BK301.out 0).trans rfl; have hcz361_1 : w358.cell? ⟨gb301, 1, none⟩ = some (.int .i64 a0_1) := (kC BK301.out 1).trans rfl; have hfz361_0 := kF BK301.out 0; have hfz361_1 := kF BK301.out 1; have hcv362 := Kd.C_string (P := Try.prog) (A := A0_0) (c := c0_0) Try.underlying23 Try.underlying5 Try.underlying9 (Kd.V_reads' HOq0.out).2.2))
           go_ret
           exact ⟨by first | rfl | (simp [errW_none, errW_some] <;> rfl) | (simp [*, errW_none, errW_some] <;> rfl), by repeat (first | (with_reducible first | exact HB.out | apply bA | apply bN | apply bD | refine bS ?_ GE301.out | refine bS ?_ GE308.out | refine bS ?_ GE314.out | refine bS ?_ GE315.out | refine bS ?_ GE338.out) | exact HB.out)⟩
         ·
          rw [if_neg c313] at H
          rw [HTr_] at H
          exact absurd (Option.some.inj H) (by decide)
       ·
        rw [if_neg c262] at H
        rw [HTr_] at H
        exact absurd (Option.some.inj H) (by decide)
      ·
       replace c261 := Bool.eq_false_iff.mpr c261
       subst c261
       have H1 : (some false) = some r := by rw [if_neg (show ¬ (false = true) by decide)] at H; exact H
       rw [HTr_] at H1
       exact absurd (Option.some.inj H1) (by decide)
     ·
      replace c260 := Bool.eq_false_iff.mpr c260
      subst c260
      have H1 : (if t302 = true then (some false) else (some false)) = some r := by rw [if_neg (show ¬ (false = true) by decide)] at H; exact H
      clear H
      have H := H1
      clear H1
      by_cases c426 : t302 = true
      ·
       subst c426
       have H1 : (some false) = some r := by rw [if_pos rfl] at H; exact H
       rw [HTr_] at H1
       exact absurd (Option.some.inj H1) (by decide)
      ·
       replace c426 := Bool.eq_false_iff.mpr c426
       subst c426
       have H1 : (some false) = some r := by rw [if_neg (show ¬ (false = true) by decide)] at H; exact H
       rw [HTr_] at H1
       exact absurd (Option.some.inj H1) (by decide)
 ·
  replace c5 := Bool.eq_false_iff.mpr c5
  subst c5
  have H1 : (some t302) = some r := by rw [if_neg (show ¬ (false = true) by decide)] at H; exact H
  clear H
  have H := H1
  clear H1
  obtain rfl := Option.some.inj H
  go_enter Try.func4, Try.ntmps4
  go_wp2_with (first | ((with_reducible refine gate_dst (N := 2) rfl ?_); (try (refine gate_guard (by rfl) ?_; dsimp only)); refine box_event ?hg (N := 2) ?hd (cs := #[.slice A0_0 l0_0.length c0_0, .int .i64 a0_1]) (t := 26) ?hr ?_; (case hd => rfl); (case hg => rfl); (case hr => first | (go_simp; done) | (go_simp; rfl)); intro gb301 hg w461 hbox hb; replace HO0_0 := aM (vB (vE (vU HO0_0.out) gb301 (Nat.le_of_eq hg.symm)) hb); replace HO1 := aM (vB (vE (vU HO1.out) gb301 (Nat.le_of_eq hg.symm)) hb); have BK301 := aM (hbox); have GW301 := aM ((by rw [hg]; exact (below_size (by repeat (first | (with_reducible first | exact HB.out | apply bA | apply bN | apply bD) | exact HB.out))) : w.heap.size ≤ gb301)); have GE301 := aM ((by rw [hg]; exact (below_size (by repeat (first | (with_reducible first | exact HB.out | apply bA | apply bN | apply bD) | exact HB.out))) : w.heap.size ≤ gb301)); replace HB := aM (below_step (by repeat (first | (with_reducible first | exact HB.out | apply bA | apply bN | apply bD) | exact HB.out)) hb); clear hb hbox hg) | ((with_reducible refine gate_callee (f := 8) rfl ?_); refine goesL_ (some 16) rfl rfl Try.func8 (by kernel_rfl) rfl #[] rfl (by (try simp only [List.map_toArray, List.map_cons, List.map_nil]); first | done | rfl | (simp only [List.length_drop, List.length_take]; rfl)) ?_; (with_reducible refine (banksmanlaw04_awake.calls  t302 _ A3.out).mono ?_); rintro e w462 ⟨rfl, hb⟩; refine ⟨_, rfl, ?_⟩; replace HO0_0 := aM (vB (vU HO0_0.out) hb); replace HO1 := aM (vB (vU HO1.out) hb); replace BK301 := aM (kB (g := gb301) (o := .cells #[.slice A0_0 l0_0.length c0_0, .int .i64 a0_1] 26 (0, 0)) (bU BK301.out) hb); replace HB := aM (below_step (by repeat (first | (with_reducible first | exact HB.out | apply bA | apply bN | apply bD | refine bS ?_ GE301.out) | exact HB.out)) hb); (try clear hb); (try clear hb2); (try clear hk); (try clear hi); have hcz463_0 : w462.cell? ⟨gb301, 0, none⟩ = some (.slice A0_0 l0_0.length c0_0) := (kC BK301.out 0).trans rfl; have hcz463_1 : w462.cell? ⟨gb301, 1, none⟩ = some (.int .i64 a0_1) := (kC BK301.out 1).trans rfl; have hfz463_0 := kF BK301.out 0; have hfz463_1 := kF BK301.out 1) | ((with_reducible refine gate_callee (f := 16) rfl ?_); refine goesL_ (some 19) rfl rfl Try.func16 (by kernel_rfl) rfl #[.agg #[.slice A0_0 l0_0.length c0_0, .int .i64 a0_1], .slice A1 l1.length c1] rfl (by (try simp only [List.map_toArray, List.map_cons, List.map_nil]); first | done | rfl | (simp only [List.length_drop, List.length_take]; rfl)) ?_; (with_reducible refine (banksmanlaw04_small.calls k _ _ l0_0 a0_1 _ _ l1 false _ ?side1 ?side2 ?side3 ?side4 A4.out).mono ?_); (case side1 => repeat (first | exact (Kd.V_reads' HO0_0.out).2.2 | (with_reducible refine Kd.C_alloc ?_ _) | (with_reducible refine Kd.C_drewN ?_ _) | (with_reducible refine Kd.C_drew ?_))); (case side2 => exact (Kd.V_reads' HO0_0.out).2.1); (case side3 => repeat (first | exact (Kd.V_reads' HO1.out).2.2 | (with_reducible refine Kd.C_alloc ?_ _) | (with_reducible refine Kd.C_drewN ?_ _) | (with_reducible refine Kd.C_drew ?_))); (case side4 => exact (Kd.V_reads' HO1.out).2.1); rintro e w464 ⟨rfl, hb⟩; refine ⟨_, rfl, ?_⟩; replace HO0_0 := aM (vB (vU HO0_0.out) hb); replace HO1 := aM (vB (vU HO1.out) hb); replace BK301 := aM (kB (g := gb301) (o := .cells #[.slice A0_0 l0_0.length c0_0, .int .i64 a0_1] 26 (0, 0)) (bU BK301.out) hb); replace HB := aM (below_step (by repeat (first | (with_reducible first | exact HB.out | apply bA | apply bN | apply bD | refine bS ?_ GE301.out) | exact HB.out)) hb); (try clear hb); (try clear hb2); (try clear hk); (try clear hi)))
  go_ret
  exact ⟨by first | rfl | (simp [errW_none, errW_some] <;> rfl) | (simp [*, errW_none, errW_some] <;> rfl), by repeat (first | (with_reducible first | exact HB.out | apply bA | apply bN | apply bD | refine bS ?_ GE301.out) | exact HB.out)⟩

/-- The law, plainly. -/
def banksmanlaw04_WalParts.Pure : Prop := ∀ (l0_0 : List Int) (a0_1 : Int) (l1 : List (List Int)), (fun xs_ : List Int => xs_.length ≤ maxLen ∧ ∀ x ∈ xs_, (fun n_ : Int => (Lit.int .u8 n_).wf = true) x) l0_0 → (fun n_ : Int => (Lit.int .i64 n_).wf = true) a0_1 → (fun xs_ : List (List Int) => xs_.length ≤ maxLen ∧ ∀ x ∈ xs_, (fun xs_ : List Int => xs_.length ≤ maxLen ∧ ∀ x ∈ xs_, (fun n_ : Int => (Lit.int .u8 n_).wf = true) x) x) l1 → ∃ k, banksmanlaw04_WalParts.f k l0_0 a0_1 l1 = some true

end Go.Proofs.Ytbenenpkbdldmaa.P
