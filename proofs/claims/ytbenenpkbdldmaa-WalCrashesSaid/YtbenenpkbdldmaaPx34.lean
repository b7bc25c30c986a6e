-- Written by wip/gprint.py, a program of this session over the kit's print; Lean checks it.
import Derived.Test.YtbenenpkbdldmaaPx0
import Derived.Test.YtbenenpkbdldmaaPx9
import Derived.Test.YtbenenpkbdldmaaPx10
import Derived.Test.YtbenenpkbdldmaaPx22
import Derived.Test.YtbenenpkbdldmaaPx27
import Derived.Test.YtbenenpkbdldmaaPx28
import Derived.Test.YtbenenpkbdldmaaPx29
import Derived.Test.YtbenenpkbdldmaaPx30
import Derived.Test.YtbenenpkbdldmaaPx31
import Derived.Test.YtbenenpkbdldmaaPx32
import Derived.Test.YtbenenpkbdldmaaPx33
namespace Go.Proofs.Ytbenenpkbdldmaa.P
open Go.RowKit Go.Proofs.YtbenenpkbdldmaaW.PrintWords Go.Proofs.YtbenenpkbdldmaaW.PrintLast Go.Proofs.YtbenenpkbdldmaaW.PrintMore
attribute [local go_sem] max2_int min2_int max_two min_two max_three min_three max_four min_four   -- for this text's walks alone
set_option linter.unusedVariables false
set_option linter.unusedSimpArgs false

/-! ### banksmanlaw04_WalCrashes: function 3 -/
mutual
def banksmanlaw04_WalCrashes.j0 : Nat → List (List Int) → Int → Int → List Int → Bool → Bool → Option (Bool)
  | 0, _, _, _, _, _, _ => none
  | k + 1, x0, x1, x2, x3, x9, x30 => if x30 = true then (some x9) else (banksmanlaw04_WalCrashes.l0 k x0 x2 x3 x9 (Int.tmod (wrap64 (x1)) 21) 0 ([] : List Int) 0)
def banksmanlaw04_WalCrashes.l0 : Nat → List (List Int) → Int → List Int → Bool → Int → Int → List Int → Int → Option (Bool)
  | 0, _, _, _, _, _, _, _, _ => none
  | k + 1, x0, x2, x3, x9, x10, x12, x216000, x216001 => if x12 < (x0.length : Int) then (if 0 ≤ x12 then (if ((rd_L1 x0 x12).length : Int) > 300 then (some x9) else (if x12 = x10 then ((wal_Sync.f x216000 x216001).bind fun bt217 => ((wal_Append.f bt217.1 bt217.2 (([rd_L1 x0 x12] : List (List Int)))).bind fun bt225 => (if bt225.2.2 = 0 then (banksmanlaw04_WalCrashes.l0 k x0 x2 x3 x9 x10 (wrap64 (x12 + 1)) bt225.1 bt225.2.1) else (some false)))) else ((wal_Append.f x216000 x216001 (([rd_L1 x0 x12] : List (List Int)))).bind fun bt235 => (if bt235.2.2 = 0 then (banksmanlaw04_WalCrashes.l0 k x0 x2 x3 x9 x10 (wrap64 (x12 + 1)) bt235.1 bt235.2.1) else (some false))))) else (none)) else (if x10 ≥ (x0.length : Int) then ((wal_Sync.f x216000 x216001).bind fun bt241 => (banksmanlaw04_WalCrashes.j2 k x0 x2 x3 x9 (x0.length : Int) bt241.1 bt241.2)) else (banksmanlaw04_WalCrashes.j2 k x0 x2 x3 x9 x10 x216000 x216001))
def banksmanlaw04_WalCrashes.j2 : Nat → List (List Int) → Int → List Int → Bool → Int → List Int → Int → Option (Bool)
  | 0, _, _, _, _, _, _, _ => none
  | k + 1, x0, x2, x3, x9, x10, x216000, x216001 => (wal_Crash.f x216000 x216001 x2).bind fun bt245 => ((wal_Trim.f bt245.1 bt245.2).bind fun bt249 => ((wal_Texts.f bt249.1 bt249.2).bind fun t254 => (if (t254.length : Int) < x10 then (banksmanlaw04_WalCrashes.j3 k x0 x2 x3 x9 t254 true bt249.1 bt249.2) else (banksmanlaw04_WalCrashes.j3 k x0 x2 x3 x9 t254 (decide ((t254.length : Int) > (x0.length : Int))) bt249.1 bt249.2))))
def banksmanlaw04_WalCrashes.j3 : Nat → List (List Int) → Int → List Int → Bool → List (List Int) → Bool → List Int → Int → Option (Bool)
  | 0, _, _, _, _, _, _, _, _ => none
  | k + 1, x0, x2, x3, x9, x16, x91, x254000, x254001 => if x91 = true then (some false) else (if 0 ≤ (x16.length : Int) then (if (x16.length : Int) ≤ (x0.length : Int) then ((banksmanref03_Same.f k x16 (x0.take ((x16.length : Int) : Int).toNat)).bind fun t262 => ((wal_Append.f x254000 x254001 (([x3] : List (List Int)))).bind fun bt266 => ((wal_Texts.f bt266.1 bt266.2.1).bind fun t272 => ((wal_Crash.f x254000 x254001 x2).bind fun bt275 => ((wal_Trim.f bt275.1 bt275.2).bind fun bt279 => ((banksmanref04_Same.f bt279.1 bt279.2 x254000 x254001).bind fun t283 => (if x9 = true then (if t262 = true then (if bt266.2.2 = 0 then (if (t272.length : Int) = (wrap64 ((x16.length : Int) + 1)) then (if (x16.length : Int) ≤ (t272.length : Int) then ((banksmanref03_Same.f k (t272.take ((x16.length : Int) : Int).toNat) x16).bind fun t289 => (if t289 = true then (if (x16.length : Int) < (t272.length : Int) then (if (strOfNums (rd_L1 t272 (x16.length : Int))).toList = (strOfNums x3).toList then (some t283) else (some false)) else (none)) else (some false))) else (none)) else (some false)) else (some false)) else (some false)) else (some false)))))))) else (none)) else (none))
end
def banksmanlaw04_WalCrashes.f (k : Nat) (l0 : List (List Int)) (a1 : Int) (a2 : Int) (l3 : List Int) : Option (Bool) := (banksmanlaw04_awake.f).bind fun t214 => (if (l0.length : Int) > 20 then (banksmanlaw04_WalCrashes.j0 k l0 a1 a2 l3 t214 true) else (banksmanlaw04_WalCrashes.j0 k l0 a1 a2 l3 t214 (decide ((l3.length : Int) > 300))))
theorem banksmanlaw04_WalCrashes.mono_l : ∀ k, (∀ y0 y1 y2 y3 y4 y5, LeO (banksmanlaw04_WalCrashes.j0 k y0 y1 y2 y3 y4 y5) (banksmanlaw04_WalCrashes.j0 (k + 1) y0 y1 y2 y3 y4 y5)) ∧ (∀ y0 y1 y2 y3 y4 y5 y6 y7, LeO (banksmanlaw04_WalCrashes.l0 k y0 y1 y2 y3 y4 y5 y6 y7) (banksmanlaw04_WalCrashes.l0 (k + 1) y0 y1 y2 y3 y4 y5 y6 y7)) ∧ (∀ y0 y1 y2 y3 y4 y5 y6, LeO (banksmanlaw04_WalCrashes.j2 k y0 y1 y2 y3 y4 y5 y6) (banksmanlaw04_WalCrashes.j2 (k + 1) y0 y1 y2 y3 y4 y5 y6)) ∧ (∀ y0 y1 y2 y3 y4 y5 y6 y7, LeO (banksmanlaw04_WalCrashes.j3 k y0 y1 y2 y3 y4 y5 y6 y7) (banksmanlaw04_WalCrashes.j3 (k + 1) y0 y1 y2 y3 y4 y5 y6 y7))
  | 0 => ⟨fun _ _ _ _ _ _ r h => by simp [banksmanlaw04_WalCrashes.j0] at h, fun _ _ _ _ _ _ _ _ r h => by simp [banksmanlaw04_WalCrashes.l0] at h, fun _ _ _ _ _ _ _ r h => by simp [banksmanlaw04_WalCrashes.j2] at h, fun _ _ _ _ _ _ _ _ r h => by simp [banksmanlaw04_WalCrashes.j3] at h⟩
  | k + 1 => by
    obtain ⟨ih0, ih1, ih2, ih3⟩ := banksmanlaw04_WalCrashes.mono_l k
    refine ⟨?_, ?_, ?_, ?_⟩
    · intro y0 y1 y2 y3 y4 y5
      unfold banksmanlaw04_WalCrashes.j0
      repeat' first
      | (with_reducible exact ih0 _ _ _ _ _ _)
      | (with_reducible exact ih1 _ _ _ _ _ _ _ _)
      | (with_reducible exact ih2 _ _ _ _ _ _ _)
      | (with_reducible exact ih3 _ _ _ _ _ _ _ _)
      | (with_reducible exact banksmanref03_Same.mono _ _ _)
      | (with_reducible exact LeO.refl _)
      | (with_reducible exact LeO.none _)
      | (with_reducible refine LeO.ite ?_ ?_)
      | (with_reducible refine LeO.bind ?_ (fun _ => ?_))
      | exact ih0 _ _ _ _ _ _
      | exact ih1 _ _ _ _ _ _ _ _
      | exact ih2 _ _ _ _ _ _ _
      | exact ih3 _ _ _ _ _ _ _ _
      | exact banksmanref03_Same.mono _ _ _
      | exact LeO.none _
      | refine LeO.ite ?_ ?_
      | refine LeO.bind ?_ (fun _ => ?_)
    · intro y0 y1 y2 y3 y4 y5 y6 y7
      unfold banksmanlaw04_WalCrashes.l0
      repeat' first
      | (with_reducible exact ih0 _ _ _ _ _ _)
      | (with_reducible exact ih1 _ _ _ _ _ _ _ _)
      | (with_reducible exact ih2 _ _ _ _ _ _ _)
      | (with_reducible exact ih3 _ _ _ _ _ _ _ _)
      | (with_reducible exact banksmanref03_Same.mono _ _ _)
      | (with_reducible exact LeO.refl _)
      | (with_reducible exact LeO.none _)
      | (with_reducible refine LeO.ite ?_ ?_)
      | (with_reducible refine LeO.bind ?_ (fun _ => ?_))
      | exact ih0 _ _ _ _ _ _
      | exact ih1 _ _ _ _ _ _ _ _
      | exact ih2 _ _ _ _ _ _ _
      | exact ih3 _ _ _ _ _ _ _ _
      | exact banksmanref03_Same.mono _ _ _
      | exact LeO.none _
      | refine LeO.ite ?_ ?_
      | refine LeO.bind ?_ (fun _ => ?_)
    · intro y0 y1 y2 y3 y4 y5 y6
      unfold banksmanlaw04_WalCrashes.j2
      repeat' first
      | (with_reducible exact ih0 _ _ _ _ _ _)
      | (with_reducible exact ih1 _ _ _ _ _ _ _ _)
      | (with_reducible exact ih2 _ _ _ _ _ _ _)
      | (with_reducible exact ih3 _ _ _ _ _ _ _ _)
      | (with_reducible exact banksmanref03_Same.mono _ _ _)
      | (with_reducible exact LeO.refl _)
      | (with_reducible exact LeO.none _)
      | (with_reducible refine LeO.ite ?_ ?_)
      | (with_reducible refine LeO.bind ?_ (fun _ => ?_))
      | exact ih0 _ _ _ _ _ _
      | exact ih1 _ _ _ _ _ _ _ _
      | exact ih2 _ _ _ _ _ _ _
      | exact ih3 _ _ _ _ _ _ _ _
      | exact banksmanref03_Same.mono _ _ _
      | exact LeO.none _
      | refine LeO.ite ?_ ?_
      | refine LeO.bind ?_ (fun _ => ?_)
    · intro y0 y1 y2 y3 y4 y5 y6 y7
      unfold banksmanlaw04_WalCrashes.j3
      repeat' first
      | (with_reducible exact ih0 _ _ _ _ _ _)
      | (with_reducible exact ih1 _ _ _ _ _ _ _ _)
      | (with_reducible exact ih2 _ _ _ _ _ _ _)
      | (with_reducible exact ih3 _ _ _ _ _ _ _ _)
      | (with_reducible exact banksmanref03_Same.mono _ _ _)
      | (with_reducible exact LeO.refl _)
      | (with_reducible exact LeO.none _)
      | (with_reducible refine LeO.ite ?_ ?_)
      | (with_reducible refine LeO.bind ?_ (fun _ => ?_))
      | exact ih0 _ _ _ _ _ _
      | exact ih1 _ _ _ _ _ _ _ _
      | exact ih2 _ _ _ _ _ _ _
      | exact ih3 _ _ _ _ _ _ _ _
      | exact banksmanref03_Same.mono _ _ _
      | exact LeO.none _
      | refine LeO.ite ?_ ?_
      | refine LeO.bind ?_ (fun _ => ?_)
theorem banksmanlaw04_WalCrashes.mono : ∀ a0 a1 a2 a3 k, LeO (banksmanlaw04_WalCrashes.f k a0 a1 a2 a3) (banksmanlaw04_WalCrashes.f (k + 1) a0 a1 a2 a3) := by
  intro a0 a1 a2 a3 k
  obtain ⟨ih0, ih1, ih2, ih3⟩ := banksmanlaw04_WalCrashes.mono_l k
  unfold banksmanlaw04_WalCrashes.f
  repeat' first
      | (with_reducible exact ih0 _ _ _ _ _ _)
      | (with_reducible exact ih1 _ _ _ _ _ _ _ _)
      | (with_reducible exact ih2 _ _ _ _ _ _ _)
      | (with_reducible exact ih3 _ _ _ _ _ _ _ _)
      | (with_reducible exact banksmanref03_Same.mono _ _ _)
      | (with_reducible exact LeO.refl _)
      | (with_reducible exact LeO.none _)
      | (with_reducible refine LeO.ite ?_ ?_)
      | (with_reducible refine LeO.bind ?_ (fun _ => ?_))
      | exact ih0 _ _ _ _ _ _
      | exact ih1 _ _ _ _ _ _ _ _
      | exact ih2 _ _ _ _ _ _ _
      | exact ih3 _ _ _ _ _ _ _ _
      | exact banksmanref03_Same.mono _ _ _
      | exact LeO.none _
      | refine LeO.ite ?_ ?_
      | refine LeO.bind ?_ (fun _ => ?_)
def banksmanlaw04_WalCrashes.T13 : Bool × List (List Nat × List Nat) := (true, [([], []), ([], []), ([], []), ([1, 2], [1, 2]), ([3], [3]), ([4], [4]), ([0, 5], [0, 5]), ([6], [6]), ([7], [7]), ([7], [7]), ([], []), ([10, 8, 6, 0, 1, 2, 3, 4, 5, 6, 7, 8, 10], [8, 10]), ([9, 11, 0, 1, 2, 3, 4, 5, 6, 7, 8, 9, 10, 11], [9])])
def banksmanlaw04_WalCrashes.B13 : List Nat := [0, 0, 0, 6, 14, 30, 63, 127, 255, 255, 0, 1535, 4095]
theorem banksmanlaw04_WalCrashes.tab13 : rtab .any (opsOf Try.f3 13) = banksmanlaw04_WalCrashes.T13 := by kernel_rfl
theorem banksmanlaw04_WalCrashes.bits13 : waitsOk banksmanlaw04_WalCrashes.T13.2 banksmanlaw04_WalCrashes.B13 = true := by kernel_rfl
def banksmanlaw04_WalCrashes.T28 : Bool × List (List Nat × List Nat) := (true, [([], []), ([0], [0]), ([1], [1]), ([1, 2], [1, 2]), ([3, 1], [3]), ([4], [4]), ([5, 4], [4, 5]), ([4, 6], [4, 6]), ([7, 4], [7]), ([8], [8]), ([9, 8], [8, 9]), ([8], [8]), ([11, 8], [8, 11]), ([12, 8], [8, 12]), ([10, 13, 8], [8, 10, 13]), ([8, 14], [8, 14]), ([15, 8], [15]), ([16], [16]), ([16], [16]), ([18, 16], [16, 18]), ([17, 19, 16], [16, 17, 19]), ([16], [16]), ([20, 21, 16, 16], [16, 20, 21]), ([16, 22], [16, 22]), ([23, 22], [23]), ([24], [24]), ([24], [24]), ([26, 24], [24, 26]), ([25, 27, 24], [24, 25, 27]), ([28, 24], [24, 28]), ([29, 24], [24, 29]), ([24], [24]), ([31, 24], [24, 31]), ([30, 32, 24], [24, 30, 32]), ([24, 33], [24, 33]), ([34, 24], [34]), ([35], [35]), ([35, 36], [35, 36]), ([37, 35, 0, 1, 2, 3, 4, 5, 6, 7, 8, 9, 10, 11, 12, 13, 14, 15, 16, 17, 18, 19, 20, 21, 22, 23, 24, 25, 26, 27, 28, 29, 30, 31, 32, 33, 34, 35, 36, 37], [37])])
def banksmanlaw04_WalCrashes.B28 : List Nat := [0, 1, 3, 7, 15, 31, 63, 127, 255, 511, 1023, 511, 2559, 6655, 16383, 32767, 65535, 131071, 131071, 393215, 1048575, 131071, 4194303, 8388607, 16777215, 33554431, 33554431, 100663295, 268435455, 536870911, 1073741823, 33554431, 2181038079, 8589934591, 17179869183, 34359738367, 68719476735, 137438953471, 274877906943]
theorem banksmanlaw04_WalCrashes.tab28 : rtab .any (opsOf Try.f3 28) = banksmanlaw04_WalCrashes.T28 := by kernel_rfl
theorem banksmanlaw04_WalCrashes.bits28 : waitsOk banksmanlaw04_WalCrashes.T28.2 banksmanlaw04_WalCrashes.B28 = true := by kernel_rfl
set_option maxHeartbeats 8000000 in
set_option maxRecDepth 100000 in
theorem banksmanlaw04_WalCrashes.calls (k : Nat) (P0_ : Nat → Prop) (A0 : Option Addr) (c0 : Nat) (l0 : List (List Int)) (a1 : Int) (a2 : Int) (P3_ : Nat → Prop) (A3 : Option Addr) (c3 : Nat) (l3 : List Int) (r : Bool) (w : World) (hs0 : Kd.V (Kd.slice 5 (Kd.int .u8)) 23 w w.heap.size (fun k_ => P0_ k_) (.slice A0 l0.length c0) l0) (hs3 : Kd.V (Kd.int .u8) 5 w w.heap.size (fun k_ => P3_ k_) (.slice A3 l3.length c3) l3) (h : banksmanlaw04_WalCrashes.f k l0 a1 a2 l3 = some r) (HTr_ : r = true) :
  Calls Try.prog 3 #[.slice A0 l0.length c0, .int .u8 a1, .int .i64 a2, .slice A3 l3.length c3] w fun e w' => e = .returned (.bool r) ∧ Below w.heap.size w w' := by
 have hu26 := Try.underlying26
 have HO0 := aM (show Kd.V (Kd.slice 5 (Kd.int .u8)) 23 w w.heap.size (fun k_ => ((P0_ k_ ∨ P3_ k_) ∨ w.heap.size ≤ k_)) (.slice A0 l0.length c0) l0 from Kd.V_mono hs0 (fun k_ hk => .inl (.inl hk)))
 have HO3 := aM (show Kd.V (Kd.int .u8) 5 w w.heap.size (fun k_ => ((P0_ k_ ∨ P3_ k_) ∨ w.heap.size ≤ k_)) (.slice A3 l3.length c3) l3 from Kd.V_mono hs3 (fun k_ hk => .inl (.inr hk)))
 have HB := aM (Below.refl w.heap.size w)
 have H : ((banksmanlaw04_awake.f).bind fun t214 => (if (l0.length : Int) > 20 then (banksmanlaw04_WalCrashes.j0 k l0 a1 a2 l3 t214 true) else (banksmanlaw04_WalCrashes.j0 k l0 a1 a2 l3 t214 (decide ((l3.length : Int) > 300))))) = some r := h
 clear h
 replace H := Option.bind_eq_some_iff.mp H
 obtain ⟨t214, A50, H⟩ := H
 replace H : (if (l0.length : Int) > 20 then (banksmanlaw04_WalCrashes.j0 k l0 a1 a2 l3 t214 true) else (banksmanlaw04_WalCrashes.j0 k l0 a1 a2 l3 t214 (decide ((l3.length : Int) > 300)))) = some r := H
 have A5 := aM A50
 clear A50
 have HC6 := aM H
 clear H
 go_enter Try.func3, Try.ntmps3
 go_upto_region 2 with (first | ((with_reducible refine gate_callee (f := 8) rfl ?_); refine goesL_ (some 22) rfl rfl Try.func8 (by kernel_rfl) rfl #[] rfl (by (try simp only [List.map_toArray, List.map_cons, List.map_nil]); first | done | rfl | (simp only [List.length_drop, List.length_take]; rfl)) ?_; (with_reducible refine (banksmanlaw04_awake.calls  t214 _ A5.out).mono ?_); rintro e w7 ⟨rfl, hb⟩; refine ⟨_, rfl, ?_⟩; replace HO0 := aM (vB (vU HO0.out) hb); replace HO3 := aM (vB (vU HO3.out) hb); replace HB := aM (below_step (by repeat (first | (with_reducible first | exact HB.out | apply bA | apply bN | apply bD) | exact HB.out)) hb); (try clear hb); (try clear hb2); (try clear hk); (try clear hi)))
 (try simp only [Act.put, List.setIfInBounds_toArray, List.set_cons_zero, List.set_cons_succ])
 go_cut [30] (fun v30 wc => ∃ (kq : Nat) (x30_5 : Bool), v30 = .bool x30_5 ∧ Aside0 (banksmanlaw04_WalCrashes.j0 kq l0 a1 a2 l3 t214 x30_5 = some r) ∧ Aside0 (kq ≤ k) ∧ Aside0 (Kd.V (Kd.slice 5 (Kd.int .u8)) 23 wc w.heap.size (fun k_ => ((P0_ k_ ∨ P3_ k_) ∨ w.heap.size ≤ k_)) (.slice A0 l0.length c0) l0) ∧ Aside0 (Kd.V (Kd.int .u8) 5 wc w.heap.size (fun k_ => ((P0_ k_ ∨ P3_ k_) ∨ w.heap.size ≤ k_)) (.slice A3 l3.length c3) l3) ∧ Aside0 (Below w.heap.size w wc))
 case first =>
  have H := HC6.out
  clear HC6
  by_cases c8 : (l0.length : Int) > 20
  ·
   rw [if_pos c8] at H
   have c8b0 : decide (20 < (l0.length : Int)) = true := decide_eq_true c8
   have c8b1 : decide (20 < l0.length) = true := decide_eq_true (by omega)
   clear c8
   (first | rw [c8b0] | (simp only [i64_w, i32_w]; rw [c8b0]) | skip)
   have H' := aM H
   clear H
   go_wp2
   go_meet
   case rel => exact ⟨_, (true), (by first | rfl | (simp; done) | (simp [*]; done)), H', ⟨by first | omega | exact Nat.le_refl _⟩, ⟨by (with_reducible repeat (first | apply Kd.V_alloc | apply Kd.V_drewN | apply Kd.V_drew)); exact HO0.out⟩, ⟨by (with_reducible repeat (first | apply Kd.V_alloc | apply Kd.V_drewN | apply Kd.V_drew)); exact HO3.out⟩, ⟨by repeat (first | (with_reducible first | exact HB.out | apply bA | apply bN | apply bD) | exact HB.out)⟩⟩
  ·
   rw [if_neg c8] at H
   have c8b0 : decide (20 < (l0.length : Int)) = false := decide_eq_false c8
   have c8b1 : decide (20 < l0.length) = false := decide_eq_false (by omega)
   clear c8
   (first | rw [c8b0] | (simp only [i64_w, i32_w]; rw [c8b0]) | skip)
   have H' := aM H
   clear H
   go_wp2
   go_meet
   case rel => exact ⟨_, (decide ((l3.length : Int) > 300)), (by first | rfl | (simp; done) | (simp [*]; done)), H', ⟨by first | omega | exact Nat.le_refl _⟩, ⟨by (with_reducible repeat (first | apply Kd.V_alloc | apply Kd.V_drewN | apply Kd.V_drew)); exact HO0.out⟩, ⟨by (with_reducible repeat (first | apply Kd.V_alloc | apply Kd.V_drewN | apply Kd.V_drew)); exact HO3.out⟩, ⟨by repeat (first | (with_reducible first | exact HB.out | apply bA | apply bN | apply bD) | exact HB.out)⟩⟩
 case rest =>
  clear HC6
  try clear p2
  try clear c3
  try clear c8
  try clear c8b0
  try clear c8b1
  obtain ⟨kq, x30_5, rfl, HA, HJ5, HO_0, HO_3, HB⟩ := hcut
  cases kq with
  | zero => exact absurd HA.out (by simp [banksmanlaw04_WalCrashes.j0])
  | succ kj5 =>
   have H := HA.out
   clear HA
   simp only [banksmanlaw04_WalCrashes.j0] at H
   by_cases c9 : x30_5 = true
   ·
    subst c9
    have H1 : (some t214) = some r := by rw [if_pos rfl] at H; exact H
    clear H
    have H := H1
    clear H1
    obtain rfl := Option.some.inj H
    go_wp2
    go_ret
    exact ⟨by first | rfl | (simp [errW_none, errW_some] <;> rfl) | (simp [*, errW_none, errW_some] <;> rfl), by repeat (first | (with_reducible first | exact HB.out | apply bA | apply bN | apply bD) | exact HB.out)⟩
   ·
    replace c9 := Bool.eq_false_iff.mpr c9
    subst c9
    have H1 : (banksmanlaw04_WalCrashes.l0 kj5 l0 a2 l3 t214 (Int.tmod (wrap64 (a1)) 21) 0 ([] : List Int) 0) = some r := by rw [if_neg (show ¬ (false = true) by decide)] at H; exact H
    clear H
    have H := H1
    clear H1
    have H' := aM H
    clear H
    go_wp2_with (first | ((with_reducible refine gate_dst (N := 11) rfl ?_); (try (refine gate_guard (by rfl) ?_; dsimp only)); refine box_event ?hg (N := 11) ?hd (cs := #[.slice none 0 0, .int .i64 0]) (t := 26) ?hr ?_; (case hd => rfl); (case hg => rfl); (case hr => first | (go_simp; done) | (go_simp; rfl)); intro gb215 hg w10 hbox hb; replace HO_0 := aM (vB (vE (vU HO_0.out) gb215 (Nat.le_of_eq hg.symm)) hb); replace HO_3 := aM (vB (vE (vU HO_3.out) gb215 (Nat.le_of_eq hg.symm)) hb); have BK215 := aM (hbox); have GW215 := aM ((by rw [hg]; exact (below_size (by repeat (first | (with_reducible first | exact HB.out | apply bA | apply bN | apply bD) | exact HB.out))) : w.heap.size ≤ gb215)); have GE215 := aM ((by rw [hg]; exact (below_size (by repeat (first | (with_reducible first | exact HB.out | apply bA | apply bN | apply bD) | exact HB.out))) : w.heap.size ≤ gb215)); replace HB := aM (below_step (by repeat (first | (with_reducible first | exact HB.out | apply bA | apply bN | apply bD) | exact HB.out)) hb); clear hb hbox hg; have hcz11_0 : w10.cell? ⟨gb215, 0, none⟩ = some (.slice none 0 0) := (kC BK215.out 0).trans rfl; have hcz11_1 : w10.cell? ⟨gb215, 1, none⟩ = some (.int .i64 0) := (kC BK215.out 1).trans rfl; have hfz11_0 := kF BK215.out 0; have hfz11_1 := kF BK215.out 1))
    go_loopg [12] kj5 (fun kq v12 w' => ∃ (x12_2 : Int) (x216000_2 : List Int) (x216001_2 : Int) (u216000 : Value), v12 = .int .i64 x12_2 ∧ Aside0 (banksmanlaw04_WalCrashes.l0 kq l0 a2 l3 t214 (Int.tmod (wrap64 (a1)) 21) x12_2 x216000_2 x216001_2 = some r) ∧ Aside0 (kq ≤ kj5) ∧ Aside0 (Kd.V (Kd.slice 5 (Kd.int .u8)) 23 w' w.heap.size (fun k_ => ((P0_ k_ ∨ P3_ k_) ∨ w.heap.size ≤ k_) ∧ k_ ≠ gb215) (.slice A0 l0.length c0) l0) ∧ Aside0 (Kd.V (Kd.int .u8) 5 w' w.heap.size (fun k_ => ((P0_ k_ ∨ P3_ k_) ∨ w.heap.size ≤ k_) ∧ k_ ≠ gb215) (.slice A3 l3.length c3) l3) ∧ Aside0 (Kd.V (Kd.int .u8) 5 w' w.heap.size (fun k_ => ((P0_ k_ ∨ P3_ k_) ∨ w.heap.size ≤ k_) ∧ k_ ≠ gb215) u216000 x216000_2) ∧ Aside0 (w'.heap[gb215]? = some (.cells #[u216000, .int .i64 x216001_2] 26 (0, 0))) ∧ Aside0 (Below w.heap.size w w'))
    case atStart => exact ⟨(0), (([] : List Int)), (0), (.slice none 0 0), (by first | rfl | (simp; done) | (simp [*]; done)), H', ⟨Nat.le_refl _⟩, ⟨by (with_reducible repeat (first | apply Kd.V_alloc | apply Kd.V_drewN | apply Kd.V_drew)); exact Kd.V_mono (Kd.V_far (p := ⟨gb215, 1, none⟩) (Kd.V_far (p := ⟨gb215, 0, none⟩) (Kd.V_mono HO_0.out (fun k_ hk => (⟨hk, hk.2⟩ : _ ∧ k_ ≠ gb215))) (fun _ hk => hk.2) (.slice none 0 0)) (fun _ hk => hk.2) (.int .i64 0)) (fun _ hk => ⟨hk.1.1, hk.1.2⟩)⟩, ⟨by (with_reducible repeat (first | apply Kd.V_alloc | apply Kd.V_drewN | apply Kd.V_drew)); exact Kd.V_mono (Kd.V_far (p := ⟨gb215, 1, none⟩) (Kd.V_far (p := ⟨gb215, 0, none⟩) (Kd.V_mono HO_3.out (fun k_ hk => (⟨hk, hk.2⟩ : _ ∧ k_ ≠ gb215))) (fun _ hk => hk.2) (.slice none 0 0)) (fun _ hk => hk.2) (.int .i64 0)) (fun _ hk => ⟨hk.1.1, hk.1.2⟩)⟩, ⟨by first | exact Kd.V_nil _ _ _ _ _ | exact Kd.V_mono (Kd.R_V (by first | exact Kd.R_nil _ _ _ _ _ | exact Kd.N_nil _ _ _ _ _ | exact Kd.V_nil _ _ _ _ _ | exact Kd.Q_nil _ _ _ _ _ | exact Kd.S_nil _ _ _ _ _)) (fun k_ hk => by first | exact ⟨(.inr (hk.1)), hk.2⟩ | exact (.inr (hk)))⟩, ⟨by (with_reducible repeat (first | refine blk_drewN ?_ _ | refine blk_drew ?_ | refine blk_alloc ?_ _)); refine blk_put (cs := #[.slice none 0 0, .int .i64 0]) ?_ 1 _ rfl; (with_reducible repeat (first | refine blk_drewN ?_ _ | refine blk_drew ?_ | refine blk_alloc ?_ _)); refine blk_put (cs := #[.slice none 0 0, .int .i64 0]) ?_ 0 _ rfl; (with_reducible repeat (first | refine blk_drewN ?_ _ | refine blk_drew ?_ | refine blk_alloc ?_ _)); exact BK215.out⟩, ⟨by repeat (first | (with_reducible first | exact HB.out | apply bA | apply bN | apply bD | refine bS ?_ GE215.out) | exact HB.out)⟩⟩
    case round =>
     clear H'
     try clear p2
     try clear c3
     try clear p6
     try clear c8
     try clear c8b0
     try clear c8b1
     try clear c9
     try clear hcz11_0
     try clear hcz11_1
     try clear hfz11_0
     try clear hfz11_1
     try clear p2
     obtain ⟨x12_2, x216000_2, x216001_2, u216000, rfl, HA, HK2, HO_0, HO_3, HOq0, BK215, HB⟩ := hrel
     cases gk with
     | zero => exact absurd HA.out (by simp [banksmanlaw04_WalCrashes.l0])
     | succ k2 =>
      have H := HA.out
      clear HA
      simp only [banksmanlaw04_WalCrashes.l0] at H
      by_cases c12 : x12_2 < (l0.length : Int)
      ·
       rw [if_pos c12] at H
       have c12b0 : decide (x12_2 < (l0.length : Int)) = true := decide_eq_true c12
       clear c12
       by_cases c13 : 0 ≤ x12_2
       ·
        rw [if_pos c13] at H
        have c13b0 : decide (0 ≤ x12_2) = true := decide_eq_true c13
        clear c13
        by_cases c14 : ((rd_L1 l0 x12_2).length : Int) > 300
        ·
         rw [if_pos c14] at H
         have c14b0 : decide (300 < ((rd_L1 l0 x12_2).length : Int)) = true := decide_eq_true c14
         have c14b1 : decide (300 < (rd_L1 l0 x12_2).length) = true := decide_eq_true (by omega)
         clear c14
         first
          | exact absurd (Option.some.inj (H.trans (congrArg some HTr_))) (by decide)
          |
           skip
           obtain rfl := Option.some.inj H
           have p216 : 0 ≤ (x12_2 : Int) := of_decide_eq_true (by first | (with_reducible assumption) | assumption)
           have q216 : x12_2 < (l0.length : Int) := of_decide_eq_true (by first | (with_reducible assumption) | assumption)
           obtain ⟨ad216, A216_0, c216_0, e216, hx216_0, hl216_0, hi216_0⟩ := at_L1 (Kd.V_reads' HO_0.out).2.2 x12_2 p216 q216
           cases e216
           obtain ⟨ce216, hce216, hMe216, hcc216⟩ := Kd.V_get HO_0.out [] x12_2 p216 (by first | exact q216 | exact of_decide_eq_true (by first | (with_reducible assumption) | assumption) | (have e_ := (Kd.V_reads' HO_0.out).1; omega))
           obtain ⟨ua216_0, uc216_0, rfl, ul216_0, ge216_0⟩ := Kd.FK_slice_open hMe216
           have hv216_0 := hcc216 0 _ rfl
           rw [Nat.add_zero, show ((Kd.slice 5 (Kd.int .u8))).sz = 1 from rfl, Nat.mul_one] at hv216_0
           replace hv216_0 := Option.some.inj (hv216_0.symm.trans hx216_0)
           injection hv216_0 with hva_ hvn_ hvc_
           rw [hva_] at ge216_0
           rw [hvc_] at ul216_0
           have HLq0 := aM (show Kd.V (Kd.int .u8) 5 _ w.heap.size _ _ (rd_L1 l0 x12_2) from Kd.V_mk ul216_0 ge216_0)
           clear hva_ hvn_ hvc_ ge216_0 ul216_0
           clear hcc216 hce216
           have HRq0 := aM hi216_0
           have HCq0 := aM hl216_0
           clear hi216_0 hl216_0
           replace p216 := eq_true p216
           replace q216 := eq_true q216
           go_wp2
           go_ret
           exact ⟨by first | rfl | (simp [errW_none, errW_some] <;> rfl) | (simp [*, errW_none, errW_some] <;> rfl), by repeat (first | (with_reducible first | exact HB.out | apply bA | apply bN | apply bD | refine bS ?_ GE215.out) | exact HB.out)⟩
        ·
         rw [if_neg c14] at H
         have c14b0 : decide (300 < ((rd_L1 l0 x12_2).length : Int)) = false := decide_eq_false c14
         have c14b1 : decide (300 < (rd_L1 l0 x12_2).length) = false := decide_eq_false (by omega)
         clear c14
         by_cases c15 : x12_2 = (Int.tmod (wrap64 (a1)) 21)
         ·
          rw [if_pos c15] at H
          have c15b0 : (x12_2 == (Int.tmod (wrap64 (a1)) 21)) = true := beq_iff_eq.mpr c15
          have c15b1 : (x12_2 != (Int.tmod (wrap64 (a1)) 21)) = false := bne_eq_false_iff_eq.mpr c15
          clear c15
          replace H := Option.bind_eq_some_iff.mp H
          obtain ⟨⟨t217, t220⟩, A160, H⟩ := H
          replace H : ((wal_Append.f t217 t220 (([rd_L1 l0 x12_2] : List (List Int)))).bind fun bt225 => (if bt225.2.2 = 0 then (banksmanlaw04_WalCrashes.l0 k2 l0 a2 l3 t214 (Int.tmod (wrap64 (a1)) 21) (wrap64 (x12_2 + 1)) bt225.1 bt225.2.1) else (some false))) = some r := H
          have A16 := aM A160
          clear A160
          obtain ⟨y222, hy222⟩ : ∃ y_ : List (List Int), y_ = (([rd_L1 l0 x12_2] : List (List Int))) := ⟨_, rfl⟩
          replace H : ((wal_Append.f t217 t220 y222).bind fun bt225 => (if bt225.2.2 = 0 then (banksmanlaw04_WalCrashes.l0 k2 l0 a2 l3 t214 (Int.tmod (wrap64 (a1)) 21) (wrap64 (x12_2 + 1)) bt225.1 bt225.2.1) else (some false))) = some r := by first | (rw [hy222]; with_reducible exact H) | (have H2_ := (Option.bind_some _ _).symm.trans H; rw [hy222]; with_reducible exact H2_) | (have H2_ := (Option.bind_some _ _).symm.trans H; with_reducible exact H2_) | with_reducible exact H | (rw [hy222]; exact H) | exact H
          have Ny222 := aM hy222
          clear hy222
          replace H := Option.bind_eq_some_iff.mp H
          obtain ⟨⟨t225, t228, t229⟩, A170, H⟩ := H
          replace H : (if t229 = 0 then (banksmanlaw04_WalCrashes.l0 k2 l0 a2 l3 t214 (Int.tmod (wrap64 (a1)) 21) (wrap64 (x12_2 + 1)) t225 t228) else (some false)) = some r := H
          have A17 := aM A170
          clear A170
          by_cases c18 : t229 = 0
          ·
           rw [if_pos c18] at H
           have c18b0 : (t229 == 0) = true := beq_iff_eq.mpr c18
           have c18b1 : (t229 != 0) = false := bne_eq_false_iff_eq.mpr c18
           clear c18
           have H' := aM H
           clear H
           have p216 : 0 ≤ (x12_2 : Int) := of_decide_eq_true (by first | (with_reducible assumption) | assumption)
           have q216 : x12_2 < (l0.length : Int) := of_decide_eq_true (by first | (with_reducible assumption) | assumption)
           obtain ⟨ad216, A216_0, c216_0, e216, hx216_0, hl216_0, hi216_0⟩ := at_L1 (Kd.V_reads' HO_0.out).2.2 x12_2 p216 q216
           cases e216
           obtain ⟨ce216, hce216, hMe216, hcc216⟩ := Kd.V_get HO_0.out [] x12_2 p216 (by first | exact q216 | exact of_decide_eq_true (by first | (with_reducible assumption) | assumption) | (have e_ := (Kd.V_reads' HO_0.out).1; omega))
           obtain ⟨ua216_0, uc216_0, rfl, ul216_0, ge216_0⟩ := Kd.FK_slice_open hMe216
           have hv216_0 := hcc216 0 _ rfl
           rw [Nat.add_zero, show ((Kd.slice 5 (Kd.int .u8))).sz = 1 from rfl, Nat.mul_one] at hv216_0
           replace hv216_0 := Option.some.inj (hv216_0.symm.trans hx216_0)
           injection hv216_0 with hva_ hvn_ hvc_
           rw [hva_] at ge216_0
           rw [hvc_] at ul216_0
           have HLq0 := aM (show Kd.V (Kd.int .u8) 5 _ w.heap.size _ _ (rd_L1 l0 x12_2) from Kd.V_mk ul216_0 ge216_0)
           clear hva_ hvn_ hvc_ ge216_0 ul216_0
           clear hcc216 hce216
           have HRq0 := aM hi216_0
           have HCq0 := aM hl216_0
           clear hi216_0 hl216_0
           replace p216 := eq_true p216
           replace q216 := eq_true q216
           have hcz19_0 : wr.cell? ⟨gb215, 0, none⟩ = some (u216000) := (kC BK215.out 0).trans rfl
           have hcz19_1 : wr.cell? ⟨gb215, 1, none⟩ = some (.int .i64 x216001_2) := (kC BK215.out 1).trans rfl
           have hfz19_0 := kF BK215.out 0
           have hfz19_1 := kF BK215.out 1
           obtain ⟨Ao20, co20, eo20⟩ := Kd.V_slice HOq0.out
           subst eo20
           try go_wp2_with (first | ((with_reducible refine gate_callee (f := 9) rfl ?_); refine goesL_ (some 53) rfl rfl Try.func9 (by kernel_rfl) rfl #[.agg #[.slice Ao20 x216000_2.length co20, .int .i64 x216001_2]] rfl (by (try simp only [List.map_toArray, List.map_cons, List.map_nil]); first | done | rfl | (simp only [List.length_drop, List.length_take]; rfl)) ?_; (with_reducible refine (wal_Sync.calls _ _ x216000_2 x216001_2 t217 t220 _ ?side1 ?side2 A16.out).mono ?_); (case side1 => repeat (first | exact (Kd.V_reads' HOq0.out).2.2 | (with_reducible refine Kd.C_alloc ?_ _) | (with_reducible refine Kd.C_drewN ?_ _) | (with_reducible refine Kd.C_drew ?_))); (case side2 => exact (Kd.V_reads' HOq0.out).2.1); rintro e w21 ⟨v218, rfl, ho0, hb⟩; refine ⟨_, rfl, ?_⟩; replace HO_0 := aM (vB (vU HO_0.out) hb); replace HO_3 := aM (vB (vU HO_3.out) hb); replace HOq0 := aM (vB (vU HOq0.out) hb); replace HLq0 := aM (vB (vU HLq0.out) hb); have HO219 := aM (Kd.V_lower (Kd.V_mono (ok' := fun k_ => ((P0_ k_ ∨ P3_ k_) ∨ w.heap.size ≤ k_) ∧ k_ ≠ gb215) ho0 (fun k_ hk_ => ⟨(.inr (Nat.le_trans (below_size (by repeat (first | (with_reducible first | exact HB.out | apply bA | apply bN | apply bD | refine bS ?_ GE215.out) | exact HB.out))) hk_)), (Kd.freshB (g := gb215) (o := .cells #[.slice Ao20 x216000_2.length co20, .int .i64 x216001_2] 26 (0, 0)) (bU BK215.out) k_ hk_)⟩)) (below_size (by repeat (first | (with_reducible first | exact HB.out | apply bA | apply bN | apply bD | refine bS ?_ GE215.out) | exact HB.out)))); replace BK215 := aM (kB (g := gb215) (o := .cells #[.slice Ao20 x216000_2.length co20, .int .i64 x216001_2] 26 (0, 0)) (bU BK215.out) hb); replace HRq0 := aM (Kd.C_below (by repeat (first | (with_reducible exact HRq0.out) | (with_reducible refine Kd.C_alloc ?_ _) | (with_reducible refine Kd.C_drewN ?_ _) | (with_reducible refine Kd.C_drew ?_) | exact HRq0.out)) hb); replace HB := aM (below_step (by repeat (first | (with_reducible first | exact HB.out | apply bA | apply bN | apply bD | refine bS ?_ GE215.out) | exact HB.out)) hb); (try clear hb); (try clear hk); obtain ⟨Ao22, co22, eo22⟩ := Kd.V_slice HO219.out; subst eo22; have hcz23_0 : w21.cell? ⟨gb215, 0, none⟩ = some (.slice Ao20 x216000_2.length co20) := (kC BK215.out 0).trans rfl; have hcz23_1 : w21.cell? ⟨gb215, 1, none⟩ = some (.int .i64 x216001_2) := (kC BK215.out 1).trans rfl; have hfz23_0 := kF BK215.out 0; have hfz23_1 := kF BK215.out 1))
           have n0_ : Aside0 (Kd.V (Kd.slice 5 (Kd.int .u8)) 23 ((w21.setCell ⟨gb215, 0, none⟩ (.slice Ao22 t217.length co22)).setCell ⟨gb215, 1, none⟩ (.int .i64 t220)) w.heap.size (fun k_ => ((P0_ k_ ∨ P3_ k_) ∨ w.heap.size ≤ k_) ∧ k_ ≠ gb215) (.slice (some ad216) l0.length c0) l0) := ⟨by (with_reducible repeat (first | apply Kd.V_alloc | apply Kd.V_drewN | apply Kd.V_drew)); exact Kd.V_mono (Kd.V_far (p := ⟨gb215, 1, none⟩) (Kd.V_far (p := ⟨gb215, 0, none⟩) (Kd.V_mono HO_0.out (fun k_ hk => (⟨hk, hk.2⟩ : _ ∧ k_ ≠ gb215))) (fun _ hk => hk.2) (.slice Ao22 t217.length co22)) (fun _ hk => hk.2) (.int .i64 t220)) (fun _ hk => ⟨hk.1.1, hk.1.2⟩)⟩
           have n1_ : Aside0 (Kd.V (Kd.int .u8) 5 ((w21.setCell ⟨gb215, 0, none⟩ (.slice Ao22 t217.length co22)).setCell ⟨gb215, 1, none⟩ (.int .i64 t220)) w.heap.size (fun k_ => ((P0_ k_ ∨ P3_ k_) ∨ w.heap.size ≤ k_) ∧ k_ ≠ gb215) (.slice A3 l3.length c3) l3) := ⟨by (with_reducible repeat (first | apply Kd.V_alloc | apply Kd.V_drewN | apply Kd.V_drew)); exact Kd.V_mono (Kd.V_far (p := ⟨gb215, 1, none⟩) (Kd.V_far (p := ⟨gb215, 0, none⟩) (Kd.V_mono HO_3.out (fun k_ hk => (⟨hk, hk.2⟩ : _ ∧ k_ ≠ gb215))) (fun _ hk => hk.2) (.slice Ao22 t217.length co22)) (fun _ hk => hk.2) (.int .i64 t220)) (fun _ hk => ⟨hk.1.1, hk.1.2⟩)⟩
           have n2_ : Aside0 (Kd.V (Kd.int .u8) 5 ((w21.setCell ⟨gb215, 0, none⟩ (.slice Ao22 t217.length co22)).setCell ⟨gb215, 1, none⟩ (.int .i64 t220)) w.heap.size (fun k_ => ((P0_ k_ ∨ P3_ k_) ∨ w.heap.size ≤ k_) ∧ k_ ≠ gb215) (.slice Ao20 x216000_2.length co20) x216000_2) := ⟨by (with_reducible repeat (first | apply Kd.V_alloc | apply Kd.V_drewN | apply Kd.V_drew)); exact Kd.V_mono (Kd.V_far (p := ⟨gb215, 1, none⟩) (Kd.V_far (p := ⟨gb215, 0, none⟩) (Kd.V_mono HOq0.out (fun k_ hk => (⟨hk, hk.2⟩ : _ ∧ k_ ≠ gb215))) (fun _ hk => hk.2) (.slice Ao22 t217.length co22)) (fun _ hk => hk.2) (.int .i64 t220)) (fun _ hk => ⟨hk.1.1, hk.1.2⟩)⟩
           have n3_ : Aside0 (Kd.V (Kd.int .u8) 5 ((w21.setCell ⟨gb215, 0, none⟩ (.slice Ao22 t217.length co22)).setCell ⟨gb215, 1, none⟩ (.int .i64 t220)) w.heap.size (fun k_ => ((P0_ k_ ∨ P3_ k_) ∨ w.heap.size ≤ k_) ∧ k_ ≠ gb215) (.slice A216_0 (rd_L1 l0 x12_2).length c216_0) (rd_L1 l0 x12_2)) := ⟨by (with_reducible repeat (first | apply Kd.V_alloc | apply Kd.V_drewN | apply Kd.V_drew)); exact Kd.V_mono (Kd.V_far (p := ⟨gb215, 1, none⟩) (Kd.V_far (p := ⟨gb215, 0, none⟩) (Kd.V_mono HLq0.out (fun k_ hk => (⟨hk, hk.2⟩ : _ ∧ k_ ≠ gb215))) (fun _ hk => hk.2) (.slice Ao22 t217.length co22)) (fun _ hk => hk.2) (.int .i64 t220)) (fun _ hk => ⟨hk.1.1, hk.1.2⟩)⟩
           have n4_ : Aside0 (Kd.V (Kd.int .u8) 5 ((w21.setCell ⟨gb215, 0, none⟩ (.slice Ao22 t217.length co22)).setCell ⟨gb215, 1, none⟩ (.int .i64 t220)) w.heap.size (fun k_ => ((P0_ k_ ∨ P3_ k_) ∨ w.heap.size ≤ k_) ∧ k_ ≠ gb215) (.slice Ao22 t217.length co22) t217) := ⟨by (with_reducible repeat (first | apply Kd.V_alloc | apply Kd.V_drewN | apply Kd.V_drew)); exact Kd.V_mono (Kd.V_far (p := ⟨gb215, 1, none⟩) (Kd.V_far (p := ⟨gb215, 0, none⟩) (Kd.V_mono HO219.out (fun k_ hk => (⟨hk, hk.2⟩ : _ ∧ k_ ≠ gb215))) (fun _ hk => hk.2) (.slice Ao22 t217.length co22)) (fun _ hk => hk.2) (.int .i64 t220)) (fun _ hk => ⟨hk.1.1, hk.1.2⟩)⟩
           have n5_ : Aside0 (((w21.setCell ⟨gb215, 0, none⟩ (.slice Ao22 t217.length co22)).setCell ⟨gb215, 1, none⟩ (.int .i64 t220)).heap[gb215]? = some (.cells #[.slice Ao22 t217.length co22, .int .i64 t220] 26 (0, 0))) := ⟨by (with_reducible repeat (first | refine blk_drewN ?_ _ | refine blk_drew ?_ | refine blk_alloc ?_ _)); refine blk_put (cs := #[.slice Ao22 t217.length co22, .int .i64 x216001_2]) ?_ 1 _ rfl; (with_reducible repeat (first | refine blk_drewN ?_ _ | refine blk_drew ?_ | refine blk_alloc ?_ _)); refine blk_put (cs := #[.slice Ao20 x216000_2.length co20, .int .i64 x216001_2]) ?_ 0 _ rfl; (with_reducible repeat (first | refine blk_drewN ?_ _ | refine blk_drew ?_ | refine blk_alloc ?_ _)); exact BK215.out⟩
           have n6_ : Aside0 (Below w.heap.size w ((w21.setCell ⟨gb215, 0, none⟩ (.slice Ao22 t217.length co22)).setCell ⟨gb215, 1, none⟩ (.int .i64 t220))) := ⟨by repeat (first | (with_reducible first | exact HB.out | apply bA | apply bN | apply bD | refine bS ?_ GE215.out) | exact HB.out)⟩
           (try clear HO_0)
           (try clear HO_3)
           (try clear HOq0)
           (try clear HLq0)
           (try clear HO219)
           (try clear BK215)
           (try clear HB)
           generalize ((w21.setCell ⟨gb215, 0, none⟩ (.slice Ao22 t217.length co22)).setCell ⟨gb215, 1, none⟩ (.int .i64 t220)) = w24 at n0_ n1_ n2_ n3_ n4_ n5_ n6_ ⊢
           have HO_0 := n0_
           have HO_3 := n1_
           have HOq0 := n2_
           have HLq0 := n3_
           have HO219 := n4_
           have BK215 := n5_
           have HB := n6_
           clear n0_ n1_ n2_ n3_ n4_ n5_ n6_
           have n0_ := aM (Kd.V_drew HO_0.out)
           have n1_ := aM (Kd.V_drew HO_3.out)
           have n2_ := aM (Kd.V_drew HOq0.out)
           have n3_ := aM (Kd.V_drew HLq0.out)
           have n4_ := aM (Kd.V_drew HO219.out)
           have n5_ := aM (blk_drew BK215.out)
           have n6_ := aM (bD HB.out)
           clear HO_0
           clear HO_3
           clear HOq0
           clear HLq0
           clear HO219
           clear BK215
           clear HB
           have HO_0 := n0_
           have HO_3 := n1_
           have HOq0 := n2_
           have HLq0 := n3_
           have HO219 := n4_
           have BK215 := n5_
           have HB := n6_
           clear n0_ n1_ n2_ n3_ n4_ n5_ n6_
           have p221 : 0 ≤ (x12_2 : Int) := of_decide_eq_true (by first | (with_reducible assumption) | assumption)
           have q221 : x12_2 < (l0.length : Int) := of_decide_eq_true (by first | (with_reducible assumption) | assumption)
           obtain ⟨ad221, A221_0, c221_0, e221, hx221_0, hl221_0, hi221_0⟩ := at_L1 (Kd.V_reads' HO_0.out).2.2 x12_2 p221 q221
           obtain rfl : ad216 = ad221 := (by injection e221)
           obtain ⟨ce221, hce221, hMe221, hcc221⟩ := Kd.V_get HO_0.out [] x12_2 p221 (by first | exact q221 | exact of_decide_eq_true (by first | (with_reducible assumption) | assumption) | (have e_ := (Kd.V_reads' HO_0.out).1; omega))
           obtain ⟨ua221_0, uc221_0, rfl, ul221_0, ge221_0⟩ := Kd.FK_slice_open hMe221
           have hv221_0 := hcc221 0 _ rfl
           rw [Nat.add_zero, show ((Kd.slice 5 (Kd.int .u8))).sz = 1 from rfl, Nat.mul_one] at hv221_0
           replace hv221_0 := Option.some.inj (hv221_0.symm.trans hx221_0)
           injection hv221_0 with hva_ hvn_ hvc_
           rw [hva_] at ge221_0
           rw [hvc_] at ul221_0
           have HLq1 := aM (show Kd.V (Kd.int .u8) 5 _ w.heap.size _ _ (rd_L1 l0 x12_2) from Kd.V_mk ul221_0 ge221_0)
           clear hva_ hvn_ hvc_ ge221_0 ul221_0
           clear hcc221 hce221
           have HRq1 := aM hi221_0
           have HCq1 := aM hl221_0
           clear hi221_0 hl221_0
           replace p221 := eq_true p221
           replace q221 := eq_true q221
           refine start_ (n := 13) (S := fun w' => w'.cell? ⟨gb215, 0, none⟩ = some (.slice Ao22 t217.length co22) ∧ w'.cell? ⟨gb215, 1, none⟩ = some (.int .i64 t220) ∧ w'.cell? (ad216.add (x12_2).toNat) = some (.slice A221_0 (rd_L1 l0 x12_2).length c221_0)) (ds := []) #[F_,F_,F_,F_,F_,F_,F_,F_,F_,F_,F_,F_,F_] (by kernel_rfl) rfl rfl ⟨(kC BK215.out 0).trans rfl, (kC BK215.out 1).trans rfl, hx221_0⟩ (fun hHeld => ?_); refine with_tabW banksmanlaw04_WalCrashes.tab13 banksmanlaw04_WalCrashes.bits13 (fun HT_ HW_ => ?_)
           generalize w24.drew = w25 at HO_0 HO_3 HOq0 HLq0 HO219 BK215 HB HLq1 HRq1 hx221_0 hHeld ⊢
           refine pure_ (i := 1) (N := some 56) (v := ?_) (a' := ?_) #[F_,T_,F_,F_,F_,F_,F_,F_,F_,F_,F_,F_,F_] rfl rfl (any_of HT_.out (by kernel_rfl)) (fun _ _ _ h => h) (Or.inl ⟨by rfl, ?_⟩) ?_ ?_
           rotate_left
           ·
            intro w'
            go_simp
            with_reducible rfl
           rotate_left
           ·
            simp only [Act.put, List.setIfInBounds_toArray, List.set_cons_zero, List.set_cons_succ, i64_w, i32_w]
            rfl
           refine pure_ (i := 2) (N := some 57) (v := ?_) (a' := ?_) #[F_,T_,T_,F_,F_,F_,F_,F_,F_,F_,F_,F_,F_] rfl rfl (any_of HT_.out (by kernel_rfl)) (fun _ _ _ h => h) (Or.inl ⟨by rfl, ?_⟩) ?_ ?_
           rotate_left
           ·
            intro w'
            go_simp
            with_reducible rfl
           rotate_left
           ·
            simp only [Act.put, List.setIfInBounds_toArray, List.set_cons_zero, List.set_cons_succ, i64_w, i32_w]
            rfl
           refine pure_ (i := 3) (N := some 58) (v := ?_) (a' := ?_) #[F_,T_,T_,T_,F_,F_,F_,F_,F_,F_,F_,F_,F_] rfl rfl (any_of HT_.out (by kernel_rfl)) (fun _ _ _ h => h) (Or.inl ⟨by rfl, ?_⟩) ?_ ?_
           rotate_left
           ·
            intro w'
            go_simp
            with_reducible rfl
           rotate_left
           ·
            simp only [Act.put, List.setIfInBounds_toArray, List.set_cons_zero, List.set_cons_succ, i64_w, i32_w]
            rfl
           refine take_ (i := 0) (N := some 55) (v := ?_) (a' := ?_) #[T_,T_,T_,T_,F_,F_,F_,F_,F_,F_,F_,F_,F_] rfl rfl (take_ofW HT_.out HW_.out (by kernel_rfl)) (fun _ _ _ h => h) (Or.inl ⟨by rfl, ?_⟩) hHeld ?_ ?_
           rotate_left
           ·
            rintro w' ⟨s0, s1, s2⟩
            go_simp
            with_reducible rfl
           rotate_left
           ·
            simp only [Act.put, List.setIfInBounds_toArray, List.set_cons_zero, List.set_cons_succ, i64_w, i32_w]
            rfl
           refine take_ (i := 4) (N := some 59) (v := ?_) (a' := ?_) #[T_,T_,T_,T_,T_,F_,F_,F_,F_,F_,F_,F_,F_] rfl rfl (take_ofW HT_.out HW_.out (by kernel_rfl)) (fun _ _ _ h => h) (Or.inl ⟨by rfl, ?_⟩) hHeld ?_ ?_
           rotate_left
           ·
            rintro w' ⟨s0, s1, s2⟩
            go_simp
            with_reducible rfl
           rotate_left
           ·
            simp only [Act.put, List.setIfInBounds_toArray, List.set_cons_zero, List.set_cons_succ, i64_w, i32_w]
            rfl
           refine join_ (σ := Value × Value × Nat) 2 #[T_,T_,T_,T_,T_,T_,T_,T_,T_,T_,T_,F_,F_] (fun s_ => [(60, s_.1), (61, .tuple #[.agg #[s_.2.1, .int .i64 t228], .int .i64 t229]), (13, .pointer (some ⟨s_.2.2, 0, none⟩)), (54, .tuple #[.agg #[s_.2.1, .int .i64 t228], .int .i64 t229]), (62, .agg #[s_.2.1, .int .i64 t228]), (63, .int .i64 t229)]) (fun s_ w' => (w'.cell? ⟨gb215, 0, none⟩ = some (.slice Ao22 t217.length co22) ∧ w'.cell? ⟨gb215, 1, none⟩ = some (.int .i64 t220) ∧ w'.cell? (ad216.add (x12_2).toNat) = some (.slice A221_0 (rd_L1 l0 x12_2).length c221_0)) ∧ (Kd.V (Kd.int .u8) 5 w' w.heap.size (fun k_ => ((P0_ k_ ∨ P3_ k_) ∨ w.heap.size ≤ k_) ∧ some k_ ≠ (s_.1 : Value).ownBlock ∧ k_ ≠ gb215 ∧ k_ ≠ s_.2.2) (.slice A216_0 (rd_L1 l0 x12_2).length c216_0) (rd_L1 l0 x12_2)) ∧ (Kd.V (Kd.int .u8) 5 w' w.heap.size (fun k_ => ((P0_ k_ ∨ P3_ k_) ∨ w.heap.size ≤ k_) ∧ some k_ ≠ (s_.1 : Value).ownBlock ∧ k_ ≠ gb215 ∧ k_ ≠ s_.2.2) (.slice A221_0 (rd_L1 l0 x12_2).length c221_0) (rd_L1 l0 x12_2)) ∧ (Kd.V (Kd.int .u8) 5 w' w.heap.size (fun k_ => ((P0_ k_ ∨ P3_ k_) ∨ w.heap.size ≤ k_) ∧ some k_ ≠ (s_.1 : Value).ownBlock ∧ k_ ≠ gb215 ∧ k_ ≠ s_.2.2) (.slice Ao22 t217.length co22) t217) ∧ (Kd.N (Kd.slice 5 (Kd.int .u8)) 23 w' w.heap.size (fun k_ => ((P0_ k_ ∨ P3_ k_) ∨ w.heap.size ≤ k_) ∧ k_ ≠ gb215 ∧ k_ ≠ s_.2.2) s_.1 y222) ∧ (Kd.V (Kd.int .u8) 5 w' w.heap.size (fun k_ => ((P0_ k_ ∨ P3_ k_) ∨ w.heap.size ≤ k_) ∧ some k_ ≠ (s_.1 : Value).ownBlock ∧ k_ ≠ gb215 ∧ k_ ≠ s_.2.2) s_.2.1 t225) ∧ (Kd.V (Kd.slice 5 (Kd.int .u8)) 23 w' w.heap.size (fun k_ => ((P0_ k_ ∨ P3_ k_) ∨ w.heap.size ≤ k_) ∧ some k_ ≠ (s_.1 : Value).ownBlock ∧ k_ ≠ gb215 ∧ k_ ≠ s_.2.2) (.slice (some ad216) l0.length c0) l0) ∧ (Kd.V (Kd.int .u8) 5 w' w.heap.size (fun k_ => ((P0_ k_ ∨ P3_ k_) ∨ w.heap.size ≤ k_) ∧ some k_ ≠ (s_.1 : Value).ownBlock ∧ k_ ≠ gb215 ∧ k_ ≠ s_.2.2) (.slice Ao20 x216000_2.length co20) x216000_2) ∧ (Kd.V (Kd.int .u8) 5 w' w.heap.size (fun k_ => ((P0_ k_ ∨ P3_ k_) ∨ w.heap.size ≤ k_) ∧ some k_ ≠ (s_.1 : Value).ownBlock ∧ k_ ≠ gb215 ∧ k_ ≠ s_.2.2) (.slice A3 l3.length c3) l3) ∧ (w'.heap[gb215]? = some (.cells #[.slice Ao22 t217.length co22, .int .i64 t220] 26 (0, 0))) ∧ (w'.heap[s_.2.2]? = some (.cells #[.slice none 0 0, .int .i64 0] 26 (0, 0))) ∧ (w.heap.size ≤ s_.2.2) ∧ (w.heap.size ≤ s_.2.2) ∧ (gb215 ≠ s_.2.2) ∧ (s_.2.2 ≠ gb215) ∧ (Below w.heap.size w w')) ?_ ?_
           rotate_left
           ·
            intro hCont
            refine two_ (i := 5) (j := 10) (Ni := some 60) (Nj := some 13) #[T_,T_,T_,T_,T_,T_,F_,F_,F_,F_,F_,F_,F_] #[T_,T_,T_,T_,T_,F_,F_,F_,F_,F_,T_,F_,F_] rfl rfl rfl rfl (two_of HT_.out (by kernel_rfl)) (by decide) (by decide) (fun K hK => ?_) (fun K hK => ?_)
            ·
             skip
             refine Kd.N_lit_step (Kd.slice 5 (Kd.int .u8)) _ 23 ?hg (N' := 60) ?hd (xs := ([rd_L1 l0 x12_2] : List (List Int))) (inner := [.slice A221_0 (rd_L1 l0 x12_2).length c221_0]) (ok := (fun k_ => ((P0_ k_ ∨ P3_ k_) ∨ w.heap.size ≤ k_) ∧ k_ ≠ gb215)) (okp := (fun k_ => ((P0_ k_ ∨ P3_ k_) ∨ w.heap.size ≤ k_) ∧ k_ ≠ gb215)) ?hr ?hp (fun _ hk => hk) ((show ∀ k_, w25.heap.size ≤ k_ → (fun k_ => ((P0_ k_ ∨ P3_ k_) ∨ w.heap.size ≤ k_) ∧ k_ ≠ gb215) k_ from fun k_ hk => ⟨(.inr (Nat.le_trans (below_size (by repeat (first | (with_reducible first | exact HB.out | apply bA | apply bN | apply bD | refine bS ?_ GE215.out) | exact HB.out))) hk)), Kd.freshB (g := gb215) (o := .cells #[.slice Ao22 t217.length co22, .int .i64 t220] 26 (0, 0)) (bU BK215.out) k_ hk⟩) _ (Nat.le_refl _)) (Below.refl _ _) (Nat.le_refl _) (by simp) ?_; (case hd => rfl); (case hg => rfl); (case hr => first | (go_simp; done) | (go_simp; rfl)); (case hp => exact (Reps.one (show Kd.FK (Kd.slice 5 (Kd.int .u8)) _ _ (rd_L1 l0 x12_2) [.slice A221_0 (rd_L1 l0 x12_2).length c221_0] from (Kd.FK_slice_mk (Kd.V_reads' (Kd.V_mono (ok' := (fun k_ => ((P0_ k_ ∨ P3_ k_) ∨ w.heap.size ≤ k_) ∧ k_ ≠ gb215)) (HLq1.out) (fun k_ hk => ⟨hk.1, hk.2⟩))).2.1 (Kd.V_F (Kd.V_mono (ok' := (fun k_ => ((P0_ k_ ∨ P3_ k_) ∨ w.heap.size ≤ k_) ∧ k_ ≠ gb215)) (HLq1.out) (fun k_ hk => ⟨hk.1, hk.2⟩))))) (Reps.none _ _)))
             intro v223 w26 ho27 hb hg_ hnew_
             have HS2_ := (hb.cell (World.block_lt_of_cell? _ _ (hHeld.2.2))).trans (hHeld.2.2)
             clear hg_ hnew_
             (first | rw [← Ny222.out] at ho27 | (simp only [Int.reduceToNat] at ho27; rw [← Ny222.out] at ho27))
             have n0_ := aM (Kd.V_elder' (vU HO_0.out) (by first | exact Kd.N_base ho27 | exact Kd.S_base ho27 | exact Kd.R_base ho27) hb)
             have n1_ := aM (Kd.V_elder' (vU HO_3.out) (by first | exact Kd.N_base ho27 | exact Kd.S_base ho27 | exact Kd.R_base ho27) hb)
             have n2_ := aM (Kd.V_elder' (vU HOq0.out) (by first | exact Kd.N_base ho27 | exact Kd.S_base ho27 | exact Kd.R_base ho27) hb)
             have n3_ := aM (Kd.V_elder' (vU HLq0.out) (by first | exact Kd.N_base ho27 | exact Kd.S_base ho27 | exact Kd.R_base ho27) hb)
             have n4_ := aM (Kd.V_elder' (vU HO219.out) (by first | exact Kd.N_base ho27 | exact Kd.S_base ho27 | exact Kd.R_base ho27) hb)
             have n5_ := aM (Kd.V_elder' (vU HLq1.out) (by first | exact Kd.N_base ho27 | exact Kd.S_base ho27 | exact Kd.R_base ho27) hb)
             have n6_ := aM (Kd.N_lower ho27 (below_size (by repeat (first | (with_reducible first | exact HB.out | apply bA | apply bN | apply bD | refine bS ?_ GE215.out) | exact HB.out))))
             have n7_ := aM (kB (g := gb215) (o := .cells #[.slice Ao22 t217.length co22, .int .i64 t220] 26 (0, 0)) (bU BK215.out) hb)
             have n8_ := aM (Kd.C_below (by repeat (first | (with_reducible exact HRq1.out) | (with_reducible refine Kd.C_alloc ?_ _) | (with_reducible refine Kd.C_drewN ?_ _) | (with_reducible refine Kd.C_drew ?_) | exact HRq1.out)) hb)
             have n9_ := aM (below_step (by repeat (first | (with_reducible first | exact HB.out | apply bA | apply bN | apply bD | refine bS ?_ GE215.out) | exact HB.out)) hb)
             clear HO_0
             clear HO_3
             clear HOq0
             clear HLq0
             clear HO219
             clear HLq1
             clear BK215
             clear HRq1
             clear HB
             have HO_0 := n0_
             have HO_3 := n1_
             have HOq0 := n2_
             have HLq0 := n3_
             have HO219 := n4_
             have HLq1 := n5_
             have HO224 := n6_
             have BK215 := n7_
             have HRq1 := n8_
             have HB := n9_
             clear n0_ n1_ n2_ n3_ n4_ n5_ n6_ n7_ n8_ n9_
             clear hb ho27
             obtain ⟨Ao28, co28, eo28⟩ := Kd.N_slice HO224.out
             (first | subst eo28 | (injection eo28 with f1_ f2_ f3_; have f4_ := f1_.symm; have f5_ := f3_.symm; clear f1_ f2_ f3_; subst f4_; subst f5_))
             refine hK.out _ _ ⟨(kC BK215.out 0).trans rfl, (kC BK215.out 1).trans rfl, HS2_⟩ (fun hHeld => ?_)
             clear hK K
             refine norm_ (a' := ?_) ?_ ?_
             rotate_left
             ·
              show Act.put _ (some 60) _ = _
              simp only [Act.put, List.setIfInBounds_toArray, List.set_cons_zero, List.set_cons_succ, i64_w, i32_w]
              rfl
             refine two_ (i := 6) (j := 10) (Ni := some 61) (Nj := some 13) #[T_,T_,T_,T_,T_,T_,T_,F_,F_,F_,F_,F_,F_] #[T_,T_,T_,T_,T_,T_,F_,F_,F_,F_,T_,F_,F_] rfl rfl rfl rfl (two_of HT_.out (by kernel_rfl)) (by decide) (by decide) (fun K hK => ?_) (fun K hK => ?_)
             ·
              skip
              refine goes_ Try.func10 (by kernel_rfl) rfl #[.agg #[.slice Ao22 t217.length co22, .int .i64 t220], .slice Ao28 y222.length co28] (by rfl) rfl rfl (by (try simp only [List.map_toArray, List.map_cons, List.map_nil]); first | done | rfl | (simp only [List.length_drop, List.length_take]; rfl)) ?_
              with_reducible refine (wal_Append.calls _ _ t217 t220 _ _ y222 t225 t228 t229 _ ?side1 ?side2 ?side3 ?side4 A17.out).mono ?_
              (case side1 => repeat (first | exact (Kd.V_reads' HO219.out).2.2 | (with_reducible refine Kd.C_alloc ?_ _) | (with_reducible refine Kd.C_drewN ?_ _) | (with_reducible refine Kd.C_drew ?_)))
              (case side2 => exact (Kd.V_reads' HO219.out).2.1)
              (case side3 => repeat (first | exact (Kd.N_reads' HO224.out).2.2 | (with_reducible refine Kd.C_alloc ?_ _) | (with_reducible refine Kd.C_drewN ?_ _) | (with_reducible refine Kd.C_drew ?_)))
              (case side4 => exact (Kd.N_reads' HO224.out).2.1)
              rintro e w29 ⟨v226, rfl, ho0, hb⟩
              have HS2_ := (hb.cell (World.block_lt_of_cell? _ _ (hHeld.2.2))).trans (hHeld.2.2)
              refine ⟨_, rfl, ?_⟩
              have n0_ := aM (vB (vU HO_0.out) hb)
              have n1_ := aM (vB (vU HO_3.out) hb)
              have n2_ := aM (vB (vU HOq0.out) hb)
              have n3_ := aM (vB (vU HLq0.out) hb)
              have n4_ := aM (vB (vU HO219.out) hb)
              have n5_ := aM (vB (vU HLq1.out) hb)
              have n6_ := aM (Kd.N_below (nU HO224.out) hb)
              have n7_ := aM (Kd.V_lower (Kd.V_mono (ok' := fun k_ => ((P0_ k_ ∨ P3_ k_) ∨ w.heap.size ≤ k_) ∧ some k_ ≠ (.slice Ao28 y222.length co28 : Value).ownBlock ∧ k_ ≠ gb215) ho0 (fun k_ hk_ => ⟨(.inr (Nat.le_trans (below_size (by repeat (first | (with_reducible first | exact HB.out | apply bA | apply bN | apply bD | refine bS ?_ GE215.out) | exact HB.out))) hk_)), (Kd.fresh' (Kd.N_lt (nU HO224.out)) k_ hk_), (Kd.freshB (g := gb215) (o := .cells #[.slice Ao22 t217.length co22, .int .i64 t220] 26 (0, 0)) (bU BK215.out) k_ hk_)⟩)) (below_size (by repeat (first | (with_reducible first | exact HB.out | apply bA | apply bN | apply bD | refine bS ?_ GE215.out) | exact HB.out))))
              have n8_ := aM (kB (g := gb215) (o := .cells #[.slice Ao22 t217.length co22, .int .i64 t220] 26 (0, 0)) (bU BK215.out) hb)
              have n9_ := aM (Kd.C_below (by repeat (first | (with_reducible exact HRq1.out) | (with_reducible refine Kd.C_alloc ?_ _) | (with_reducible refine Kd.C_drewN ?_ _) | (with_reducible refine Kd.C_drew ?_) | exact HRq1.out)) hb)
              have n10_ := aM (below_step (by repeat (first | (with_reducible first | exact HB.out | apply bA | apply bN | apply bD | refine bS ?_ GE215.out) | exact HB.out)) hb)
              clear HO_0
              clear HO_3
              clear HOq0
              clear HLq0
              clear HO219
              clear HLq1
              clear HO224
              clear BK215
              clear HRq1
              clear HB
              have HO_0 := n0_
              have HO_3 := n1_
              have HOq0 := n2_
              have HLq0 := n3_
              have HO219 := n4_
              have HLq1 := n5_
              have HO224 := n6_
              have HO227 := n7_
              have BK215 := n8_
              have HRq1 := n9_
              have HB := n10_
              clear n0_ n1_ n2_ n3_ n4_ n5_ n6_ n7_ n8_ n9_ n10_
              (try clear hb)
              (try clear hb2)
              (try clear hk)
              (try clear hi)
              (try clear ho0)
              refine hK.out _ _ ⟨(kC BK215.out 0).trans rfl, (kC BK215.out 1).trans rfl, HS2_⟩ (fun hHeld => ?_)
              clear hK K
              refine norm_ (a' := ?_) ?_ ?_
              rotate_left
              ·
               show Act.put _ (some 61) _ = _
               simp only [Act.put, List.setIfInBounds_toArray, List.set_cons_zero, List.set_cons_succ, i64_w, i32_w]
               rfl
              refine pure_ (i := 7) (N := some 54) (v := ?_) (a' := ?_) #[T_,T_,T_,T_,T_,T_,T_,T_,F_,F_,F_,F_,F_] rfl rfl (any_of HT_.out (by kernel_rfl)) (fun _ _ _ h => h) (Or.inl ⟨by rfl, ?_⟩) ?_ ?_
              rotate_left
              ·
               intro w'
               go_simp
               with_reducible rfl
              rotate_left
              ·
               simp only [Act.put, List.setIfInBounds_toArray, List.set_cons_zero, List.set_cons_succ, i64_w, i32_w]
               rfl
              refine pure_ (i := 8) (N := some 62) (v := ?_) (a' := ?_) #[T_,T_,T_,T_,T_,T_,T_,T_,T_,F_,F_,F_,F_] rfl rfl (any_of HT_.out (by kernel_rfl)) (fun _ _ _ h => h) (Or.inl ⟨by rfl, ?_⟩) ?_ ?_
              rotate_left
              ·
               intro w'
               go_simp
               with_reducible rfl
              rotate_left
              ·
               simp only [Act.put, List.setIfInBounds_toArray, List.set_cons_zero, List.set_cons_succ, i64_w, i32_w]
               rfl
              refine pure_ (i := 9) (N := some 63) (v := ?_) (a' := ?_) #[T_,T_,T_,T_,T_,T_,T_,T_,T_,T_,F_,F_,F_] rfl rfl (any_of HT_.out (by kernel_rfl)) (fun _ _ _ h => h) (Or.inl ⟨by rfl, ?_⟩) ?_ ?_
              rotate_left
              ·
               intro w'
               go_simp
               with_reducible rfl
              rotate_left
              ·
               simp only [Act.put, List.setIfInBounds_toArray, List.set_cons_zero, List.set_cons_succ, i64_w, i32_w]
               rfl
              refine one_ (i := 10) (N := some 13) #[T_,T_,T_,T_,T_,T_,T_,T_,T_,T_,T_,F_,F_] rfl rfl (one_of HT_.out (by kernel_rfl)) (by decide) (fun K hK => ?_)
              refine box_step ?hg (N := 13) ?hd (cs := #[.slice none 0 0, .int .i64 0]) (t := 26) ?hr ?_; (case hd => rfl); (case hg => rfl); (case hr => first | (go_simp; done) | (go_simp; rfl))
              intro gb230 hg w30 hbox hb
              have HS2_ := (hb.cell (World.block_lt_of_cell? _ _ (hHeld.2.2))).trans (hHeld.2.2)
              have n0_ := aM (vB (vE (vU HO_0.out) gb230 (Nat.le_of_eq hg.symm)) hb)
              have n1_ := aM (vB (vE (vU HO_3.out) gb230 (Nat.le_of_eq hg.symm)) hb)
              have n2_ := aM (vB (vE (vU HOq0.out) gb230 (Nat.le_of_eq hg.symm)) hb)
              have n3_ := aM (vB (vE (vU HLq0.out) gb230 (Nat.le_of_eq hg.symm)) hb)
              have n4_ := aM (vB (vE (vU HO219.out) gb230 (Nat.le_of_eq hg.symm)) hb)
              have n5_ := aM (vB (vE (vU HLq1.out) gb230 (Nat.le_of_eq hg.symm)) hb)
              have n6_ := aM (Kd.N_below (Kd.N_elderB (nU HO224.out) gb230 (Nat.le_of_eq hg.symm)) hb)
              have n7_ := aM (vB (vE (vU HO227.out) gb230 (Nat.le_of_eq hg.symm)) hb)
              have n8_ := aM (kB (g := gb215) (o := .cells #[.slice Ao22 t217.length co22, .int .i64 t220] 26 (0, 0)) (bU BK215.out) hb)
              have n9_ := aM (Kd.C_below (by repeat (first | (with_reducible exact HRq1.out) | (with_reducible refine Kd.C_alloc ?_ _) | (with_reducible refine Kd.C_drewN ?_ _) | (with_reducible refine Kd.C_drew ?_) | exact HRq1.out)) hb)
              have n10_ := aM (below_step (by repeat (first | (with_reducible first | exact HB.out | apply bA | apply bN | apply bD | refine bS ?_ GE215.out) | exact HB.out)) hb)
              have n11_ := aM (hbox)
              have n12_ := aM ((by rw [hg]; exact (below_size (by repeat (first | (with_reducible first | exact HB.out | apply bA | apply bN | apply bD | refine bS ?_ GE215.out) | exact HB.out))) : w.heap.size ≤ gb230))
              have n13_ := aM ((by rw [hg]; exact (below_size (by repeat (first | (with_reducible first | exact HB.out | apply bA | apply bN | apply bD | refine bS ?_ GE215.out) | exact HB.out))) : w.heap.size ≤ gb230))
              have n14_ := aM ((by rw [hg]; exact Nat.ne_of_lt (blk_lt (g := gb215) (o := .cells #[.slice Ao22 t217.length co22, .int .i64 t220] 26 (0, 0)) (bU BK215.out)) : gb215 ≠ gb230))
              have n15_ := aM ((by rw [hg]; exact Nat.ne_of_gt (blk_lt (g := gb215) (o := .cells #[.slice Ao22 t217.length co22, .int .i64 t220] 26 (0, 0)) (bU BK215.out)) : gb230 ≠ gb215))
              clear HO_0
              clear HO_3
              clear HOq0
              clear HLq0
              clear HO219
              clear HLq1
              clear HO224
              clear HO227
              clear BK215
              clear HRq1
              clear HB
              have HO_0 := n0_
              have HO_3 := n1_
              have HOq0 := n2_
              have HLq0 := n3_
              have HO219 := n4_
              have HLq1 := n5_
              have HO224 := n6_
              have HO227 := n7_
              have BK215 := n8_
              have HRq1 := n9_
              have HB := n10_
              have BK230 := n11_
              have GW230 := n12_
              have GE230 := n13_
              have NBq0 := n14_
              have NBq2 := n15_
              clear n0_ n1_ n2_ n3_ n4_ n5_ n6_ n7_ n8_ n9_ n10_ n11_ n12_ n13_ n14_ n15_
              clear hb hbox hg
              refine hK.out _ _ ⟨(kC BK215.out 0).trans rfl, (kC BK215.out 1).trans rfl, HS2_⟩ (fun hHeld => ?_)
              clear hK K
              refine norm_ (a' := ?_) ?_ ?_
              rotate_left
              ·
               show Act.put _ (some 13) _ = _
               simp only [Act.put, List.setIfInBounds_toArray, List.set_cons_zero, List.set_cons_succ, i64_w, i32_w]
               rfl
              exact norm_ (by simp only [putAll, Act.put, List.setIfInBounds_toArray, List.set_cons_zero, List.set_cons_succ]) (hCont (.slice Ao28 y222.length co28, v226, gb230) _ ⟨hHeld, (by (with_reducible repeat (first | apply Kd.V_alloc | apply Kd.V_drewN | apply Kd.V_drew)); exact Kd.V_mono HLq0.out (fun _ hk => ⟨hk.1.1.1, ⟨hk.1.2, ⟨hk.1.1.2, hk.2⟩⟩⟩)), (by (with_reducible repeat (first | apply Kd.V_alloc | apply Kd.V_drewN | apply Kd.V_drew)); exact Kd.V_mono HLq1.out (fun _ hk => ⟨hk.1.1.1, ⟨hk.1.2, ⟨hk.1.1.2, hk.2⟩⟩⟩)), (by (with_reducible repeat (first | apply Kd.V_alloc | apply Kd.V_drewN | apply Kd.V_drew)); exact Kd.V_mono HO219.out (fun _ hk => ⟨hk.1.1.1, ⟨hk.1.2, ⟨hk.1.1.2, hk.2⟩⟩⟩)), (by (with_reducible repeat (first | apply Kd.N_alloc | apply Kd.N_drewN | apply Kd.N_drew)); exact Kd.N_mono HO224.out (fun _ hk => ⟨hk.1.1, ⟨hk.1.2, hk.2⟩⟩)), (by (with_reducible repeat (first | apply Kd.V_alloc | apply Kd.V_drewN | apply Kd.V_drew)); exact Kd.V_mono HO227.out (fun _ hk => ⟨hk.1.1, ⟨hk.1.2.1, ⟨hk.1.2.2, hk.2⟩⟩⟩)), (by (with_reducible repeat (first | apply Kd.V_alloc | apply Kd.V_drewN | apply Kd.V_drew)); exact Kd.V_mono HO_0.out (fun _ hk => ⟨hk.1.1.1, ⟨hk.1.2, ⟨hk.1.1.2, hk.2⟩⟩⟩)), (by (with_reducible repeat (first | apply Kd.V_alloc | apply Kd.V_drewN | apply Kd.V_drew)); exact Kd.V_mono HOq0.out (fun _ hk => ⟨hk.1.1.1, ⟨hk.1.2, ⟨hk.1.1.2, hk.2⟩⟩⟩)), (by (with_reducible repeat (first | apply Kd.V_alloc | apply Kd.V_drewN | apply Kd.V_drew)); exact Kd.V_mono HO_3.out (fun _ hk => ⟨hk.1.1.1, ⟨hk.1.2, ⟨hk.1.1.2, hk.2⟩⟩⟩)), (bU BK215.out), (bU BK230.out), GW230.out, GE230.out, NBq0.out, NBq2.out, (by repeat (first | (with_reducible first | exact HB.out | apply bA | apply bN | apply bD | refine bS ?_ GE215.out | refine bS ?_ GE230.out) | exact HB.out))⟩)
             ·
              skip
              refine box_step ?hg (N := 13) ?hd (cs := #[.slice none 0 0, .int .i64 0]) (t := 26) ?hr ?_; (case hd => rfl); (case hg => rfl); (case hr => first | (go_simp; done) | (go_simp; rfl))
              intro gb230 hg w28 hbox hb
              have HS2_ := (hb.cell (World.block_lt_of_cell? _ _ (hHeld.2.2))).trans (hHeld.2.2)
              have n0_ := aM (vB (vE (vU HO_0.out) gb230 (Nat.le_of_eq hg.symm)) hb)
              have n1_ := aM (vB (vE (vU HO_3.out) gb230 (Nat.le_of_eq hg.symm)) hb)
              have n2_ := aM (vB (vE (vU HOq0.out) gb230 (Nat.le_of_eq hg.symm)) hb)
              have n3_ := aM (vB (vE (vU HLq0.out) gb230 (Nat.le_of_eq hg.symm)) hb)
              have n4_ := aM (vB (vE (vU HO219.out) gb230 (Nat.le_of_eq hg.symm)) hb)
              have n5_ := aM (vB (vE (vU HLq1.out) gb230 (Nat.le_of_eq hg.symm)) hb)
              have n6_ := aM (Kd.N_below (Kd.N_elderB (nU HO224.out) gb230 (Nat.le_of_eq hg.symm)) hb)
              have n7_ := aM (kB (g := gb215) (o := .cells #[.slice Ao22 t217.length co22, .int .i64 t220] 26 (0, 0)) (bU BK215.out) hb)
              have n8_ := aM (Kd.C_below (by repeat (first | (with_reducible exact HRq1.out) | (with_reducible refine Kd.C_alloc ?_ _) | (with_reducible refine Kd.C_drewN ?_ _) | (with_reducible refine Kd.C_drew ?_) | exact HRq1.out)) hb)
              have n9_ := aM (below_step (by repeat (first | (with_reducible first | exact HB.out | apply bA | apply bN | apply bD | refine bS ?_ GE215.out) | exact HB.out)) hb)
              have n10_ := aM (hbox)
              have n11_ := aM ((by rw [hg]; exact (below_size (by repeat (first | (with_reducible first | exact HB.out | apply bA | apply bN | apply bD | refine bS ?_ GE215.out) | exact HB.out))) : w.heap.size ≤ gb230))
              have n12_ := aM ((by rw [hg]; exact (below_size (by repeat (first | (with_reducible first | exact HB.out | apply bA | apply bN | apply bD | refine bS ?_ GE215.out) | exact HB.out))) : w.heap.size ≤ gb230))
              have n13_ := aM ((by rw [hg]; exact Nat.ne_of_lt (blk_lt (g := gb215) (o := .cells #[.slice Ao22 t217.length co22, .int .i64 t220] 26 (0, 0)) (bU BK215.out)) : gb215 ≠ gb230))
              have n14_ := aM ((by rw [hg]; exact Nat.ne_of_gt (blk_lt (g := gb215) (o := .cells #[.slice Ao22 t217.length co22, .int .i64 t220] 26 (0, 0)) (bU BK215.out)) : gb230 ≠ gb215))
              clear HO_0
              clear HO_3
              clear HOq0
              clear HLq0
              clear HO219
              clear HLq1
              clear HO224
              clear BK215
              clear HRq1
              clear HB
              have HO_0 := n0_
              have HO_3 := n1_
              have HOq0 := n2_
              have HLq0 := n3_
              have HO219 := n4_
              have HLq1 := n5_
              have HO224 := n6_
              have BK215 := n7_
              have HRq1 := n8_
              have HB := n9_
              have BK230 := n10_
              have GW230 := n11_
              have GE230 := n12_
              have NBq0 := n13_
              have NBq2 := n14_
              clear n0_ n1_ n2_ n3_ n4_ n5_ n6_ n7_ n8_ n9_ n10_ n11_ n12_ n13_ n14_
              clear hb hbox hg
              obtain ⟨Ao29, co29, eo29⟩ := Kd.N_slice HO224.out
              (first | subst eo29 | (injection eo29 with f1_ f2_ f3_; have f4_ := f1_.symm; have f5_ := f3_.symm; clear f1_ f2_ f3_; subst f4_; subst f5_))
              refine hK.out _ _ ⟨(kC BK215.out 0).trans rfl, (kC BK215.out 1).trans rfl, HS2_⟩ (fun hHeld => ?_)
              clear hK K
              refine norm_ (a' := ?_) ?_ ?_
              rotate_left
              ·
               show Act.put _ (some 13) _ = _
               simp only [Act.put, List.setIfInBounds_toArray, List.set_cons_zero, List.set_cons_succ, i64_w, i32_w]
               rfl
              refine one_ (i := 6) (N := some 61) #[T_,T_,T_,T_,T_,T_,T_,F_,F_,F_,T_,F_,F_] rfl rfl (one_of HT_.out (by kernel_rfl)) (by decide) (fun K hK => ?_)
              refine goes_ Try.func10 (by kernel_rfl) rfl #[.agg #[.slice Ao22 t217.length co22, .int .i64 t220], .slice Ao29 y222.length co29] (by rfl) rfl rfl (by (try simp only [List.map_toArray, List.map_cons, List.map_nil]); first | done | rfl | (simp only [List.length_drop, List.length_take]; rfl)) ?_
              with_reducible refine (wal_Append.calls _ _ t217 t220 _ _ y222 t225 t228 t229 _ ?side1 ?side2 ?side3 ?side4 A17.out).mono ?_
              (case side1 => repeat (first | exact (Kd.V_reads' HO219.out).2.2 | (with_reducible refine Kd.C_alloc ?_ _) | (with_reducible refine Kd.C_drewN ?_ _) | (with_reducible refine Kd.C_drew ?_)))
              (case side2 => exact (Kd.V_reads' HO219.out).2.1)
              (case side3 => repeat (first | exact (Kd.N_reads' HO224.out).2.2 | (with_reducible refine Kd.C_alloc ?_ _) | (with_reducible refine Kd.C_drewN ?_ _) | (with_reducible refine Kd.C_drew ?_)))
              (case side4 => exact (Kd.N_reads' HO224.out).2.1)
              rintro e w30 ⟨v226, rfl, ho0, hb⟩
              have HS2_ := (hb.cell (World.block_lt_of_cell? _ _ (hHeld.2.2))).trans (hHeld.2.2)
              refine ⟨_, rfl, ?_⟩
              have n0_ := aM (vB (vU HO_0.out) hb)
              have n1_ := aM (vB (vU HO_3.out) hb)
              have n2_ := aM (vB (vU HOq0.out) hb)
              have n3_ := aM (vB (vU HLq0.out) hb)
              have n4_ := aM (vB (vU HO219.out) hb)
              have n5_ := aM (vB (vU HLq1.out) hb)
              have n6_ := aM (Kd.N_below (nU HO224.out) hb)
              have n7_ := aM (Kd.V_lower (Kd.V_mono (ok' := fun k_ => ((P0_ k_ ∨ P3_ k_) ∨ w.heap.size ≤ k_) ∧ some k_ ≠ (.slice Ao29 y222.length co29 : Value).ownBlock ∧ k_ ≠ gb215 ∧ k_ ≠ gb230) ho0 (fun k_ hk_ => ⟨(.inr (Nat.le_trans (below_size (by repeat (first | (with_reducible first | exact HB.out | apply bA | apply bN | apply bD | refine bS ?_ GE215.out | refine bS ?_ GE230.out) | exact HB.out))) hk_)), (Kd.fresh' (Kd.N_lt (nU HO224.out)) k_ hk_), (Kd.freshB (g := gb215) (o := .cells #[.slice Ao22 t217.length co22, .int .i64 t220] 26 (0, 0)) (bU BK215.out) k_ hk_), (Kd.freshB (g := gb230) (o := .cells #[.slice none 0 0, .int .i64 0] 26 (0, 0)) (bU BK230.out) k_ hk_)⟩)) (below_size (by repeat (first | (with_reducible first | exact HB.out | apply bA | apply bN | apply bD | refine bS ?_ GE215.out | refine bS ?_ GE230.out) | exact HB.out))))
              have n8_ := aM (kB (g := gb215) (o := .cells #[.slice Ao22 t217.length co22, .int .i64 t220] 26 (0, 0)) (bU BK215.out) hb)
              have n9_ := aM (Kd.C_below (by repeat (first | (with_reducible exact HRq1.out) | (with_reducible refine Kd.C_alloc ?_ _) | (with_reducible refine Kd.C_drewN ?_ _) | (with_reducible refine Kd.C_drew ?_) | exact HRq1.out)) hb)
              have n10_ := aM (kB (g := gb230) (o := .cells #[.slice none 0 0, .int .i64 0] 26 (0, 0)) (bU BK230.out) hb)
              have n11_ := aM (below_step (by repeat (first | (with_reducible first | exact HB.out | apply bA | apply bN | apply bD | refine bS ?_ GE215.out | refine bS ?_ GE230.out) | exact HB.out)) hb)
              clear HO_0
              clear HO_3
              clear HOq0
              clear HLq0
              clear HO219
              clear HLq1
              clear HO224
              clear BK215
              clear HRq1
              clear BK230
              clear HB
              have HO_0 := n0_
              have HO_3 := n1_
              have HOq0 := n2_
              have HLq0 := n3_
              have HO219 := n4_
              have HLq1 := n5_
              have HO224 := n6_
              have HO227 := n7_
              have BK215 := n8_
              have HRq1 := n9_
              have BK230 := n10_
              have HB := n11_
              clear n0_ n1_ n2_ n3_ n4_ n5_ n6_ n7_ n8_ n9_ n10_ n11_
              (try clear hb)
              (try clear hb2)
              (try clear hk)
              (try clear hi)
              (try clear ho0)
              refine hK.out _ _ ⟨(kC BK215.out 0).trans rfl, (kC BK215.out 1).trans rfl, HS2_⟩ (fun hHeld => ?_)
              clear hK K
              refine norm_ (a' := ?_) ?_ ?_
              rotate_left
              ·
               show Act.put _ (some 61) _ = _
               simp only [Act.put, List.setIfInBounds_toArray, List.set_cons_zero, List.set_cons_succ, i64_w, i32_w]
               rfl
              refine pure_ (i := 7) (N := some 54) (v := ?_) (a' := ?_) #[T_,T_,T_,T_,T_,T_,T_,T_,F_,F_,T_,F_,F_] rfl rfl (any_of HT_.out (by kernel_rfl)) (fun _ _ _ h => h) (Or.inl ⟨by rfl, ?_⟩) ?_ ?_
              rotate_left
              ·
               intro w'
               go_simp
               with_reducible rfl
              rotate_left
              ·
               simp only [Act.put, List.setIfInBounds_toArray, List.set_cons_zero, List.set_cons_succ, i64_w, i32_w]
               rfl
              refine pure_ (i := 8) (N := some 62) (v := ?_) (a' := ?_) #[T_,T_,T_,T_,T_,T_,T_,T_,T_,F_,T_,F_,F_] rfl rfl (any_of HT_.out (by kernel_rfl)) (fun _ _ _ h => h) (Or.inl ⟨by rfl, ?_⟩) ?_ ?_
              rotate_left
              ·
               intro w'
               go_simp
               with_reducible rfl
              rotate_left
              ·
               simp only [Act.put, List.setIfInBounds_toArray, List.set_cons_zero, List.set_cons_succ, i64_w, i32_w]
               rfl
              refine pure_ (i := 9) (N := some 63) (v := ?_) (a' := ?_) #[T_,T_,T_,T_,T_,T_,T_,T_,T_,T_,T_,F_,F_] rfl rfl (any_of HT_.out (by kernel_rfl)) (fun _ _ _ h => h) (Or.inl ⟨by rfl, ?_⟩) ?_ ?_
              rotate_left
              ·
               intro w'
               go_simp
               with_reducible rfl
              rotate_left
              ·
               simp only [Act.put, List.setIfInBounds_toArray, List.set_cons_zero, List.set_cons_succ, i64_w, i32_w]
               rfl
              exact norm_ (by simp only [putAll, Act.put, List.setIfInBounds_toArray, List.set_cons_zero, List.set_cons_succ]) (hCont (.slice Ao29 y222.length co29, v226, gb230) _ ⟨hHeld, (by (with_reducible repeat (first | apply Kd.V_alloc | apply Kd.V_drewN | apply Kd.V_drew)); exact Kd.V_mono HLq0.out (fun _ hk => ⟨hk.1.1.1, ⟨hk.1.2, ⟨hk.1.1.2, hk.2⟩⟩⟩)), (by (with_reducible repeat (first | apply Kd.V_alloc | apply Kd.V_drewN | apply Kd.V_drew)); exact Kd.V_mono HLq1.out (fun _ hk => ⟨hk.1.1.1, ⟨hk.1.2, ⟨hk.1.1.2, hk.2⟩⟩⟩)), (by (with_reducible repeat (first | apply Kd.V_alloc | apply Kd.V_drewN | apply Kd.V_drew)); exact Kd.V_mono HO219.out (fun _ hk => ⟨hk.1.1.1, ⟨hk.1.2, ⟨hk.1.1.2, hk.2⟩⟩⟩)), (by (with_reducible repeat (first | apply Kd.N_alloc | apply Kd.N_drewN | apply Kd.N_drew)); exact Kd.N_mono HO224.out (fun _ hk => ⟨hk.1.1, ⟨hk.1.2, hk.2⟩⟩)), (vU HO227.out), (by (with_reducible repeat (first | apply Kd.V_alloc | apply Kd.V_drewN | apply Kd.V_drew)); exact Kd.V_mono HO_0.out (fun _ hk => ⟨hk.1.1.1, ⟨hk.1.2, ⟨hk.1.1.2, hk.2⟩⟩⟩)), (by (with_reducible repeat (first | apply Kd.V_alloc | apply Kd.V_drewN | apply Kd.V_drew)); exact Kd.V_mono HOq0.out (fun _ hk => ⟨hk.1.1.1, ⟨hk.1.2, ⟨hk.1.1.2, hk.2⟩⟩⟩)), (by (with_reducible repeat (first | apply Kd.V_alloc | apply Kd.V_drewN | apply Kd.V_drew)); exact Kd.V_mono HO_3.out (fun _ hk => ⟨hk.1.1.1, ⟨hk.1.2, ⟨hk.1.1.2, hk.2⟩⟩⟩)), (bU BK215.out), (bU BK230.out), GW230.out, GE230.out, NBq0.out, NBq2.out, (by repeat (first | (with_reducible first | exact HB.out | apply bA | apply bN | apply bD | refine bS ?_ GE215.out | refine bS ?_ GE230.out) | exact HB.out))⟩)
            ·
             skip
             refine box_step ?hg (N := 13) ?hd (cs := #[.slice none 0 0, .int .i64 0]) (t := 26) ?hr ?_; (case hd => rfl); (case hg => rfl); (case hr => first | (go_simp; done) | (go_simp; rfl))
             intro gb230 hg w26 hbox hb
             have HS2_ := (hb.cell (World.block_lt_of_cell? _ _ (hHeld.2.2))).trans (hHeld.2.2)
             have n0_ := aM (vB (vE (vU HO_0.out) gb230 (Nat.le_of_eq hg.symm)) hb)
             have n1_ := aM (vB (vE (vU HO_3.out) gb230 (Nat.le_of_eq hg.symm)) hb)
             have n2_ := aM (vB (vE (vU HOq0.out) gb230 (Nat.le_of_eq hg.symm)) hb)
             have n3_ := aM (vB (vE (vU HLq0.out) gb230 (Nat.le_of_eq hg.symm)) hb)
             have n4_ := aM (vB (vE (vU HO219.out) gb230 (Nat.le_of_eq hg.symm)) hb)
             have n5_ := aM (vB (vE (vU HLq1.out) gb230 (Nat.le_of_eq hg.symm)) hb)
             have n6_ := aM (kB (g := gb215) (o := .cells #[.slice Ao22 t217.length co22, .int .i64 t220] 26 (0, 0)) (bU BK215.out) hb)
             have n7_ := aM (Kd.C_below (by repeat (first | (with_reducible exact HRq1.out) | (with_reducible refine Kd.C_alloc ?_ _) | (with_reducible refine Kd.C_drewN ?_ _) | (with_reducible refine Kd.C_drew ?_) | exact HRq1.out)) hb)
             have n8_ := aM (below_step (by repeat (first | (with_reducible first | exact HB.out | apply bA | apply bN | apply bD | refine bS ?_ GE215.out) | exact HB.out)) hb)
             have n9_ := aM (hbox)
             have n10_ := aM ((by rw [hg]; exact (below_size (by repeat (first | (with_reducible first | exact HB.out | apply bA | apply bN | apply bD | refine bS ?_ GE215.out) | exact HB.out))) : w.heap.size ≤ gb230))
             have n11_ := aM ((by rw [hg]; exact (below_size (by repeat (first | (with_reducible first | exact HB.out | apply bA | apply bN | apply bD | refine bS ?_ GE215.out) | exact HB.out))) : w.heap.size ≤ gb230))
             have n12_ := aM ((by rw [hg]; exact Nat.ne_of_lt (blk_lt (g := gb215) (o := .cells #[.slice Ao22 t217.length co22, .int .i64 t220] 26 (0, 0)) (bU BK215.out)) : gb215 ≠ gb230))
             have n13_ := aM ((by rw [hg]; exact Nat.ne_of_gt (blk_lt (g := gb215) (o := .cells #[.slice Ao22 t217.length co22, .int .i64 t220] 26 (0, 0)) (bU BK215.out)) : gb230 ≠ gb215))
             clear HO_0
             clear HO_3
             clear HOq0
             clear HLq0
             clear HO219
             clear HLq1
             clear BK215
             clear HRq1
             clear HB
             have HO_0 := n0_
             have HO_3 := n1_
             have HOq0 := n2_
             have HLq0 := n3_
             have HO219 := n4_
             have HLq1 := n5_
             have BK215 := n6_
             have HRq1 := n7_
             have HB := n8_
             have BK230 := n9_
             have GW230 := n10_
             have GE230 := n11_
             have NBq0 := n12_
             have NBq2 := n13_
             clear n0_ n1_ n2_ n3_ n4_ n5_ n6_ n7_ n8_ n9_ n10_ n11_ n12_ n13_
             clear hb hbox hg
             refine hK.out _ _ ⟨(kC BK215.out 0).trans rfl, (kC BK215.out 1).trans rfl, HS2_⟩ (fun hHeld => ?_)
             clear hK K
             refine norm_ (a' := ?_) ?_ ?_
             rotate_left
             ·
              show Act.put _ (some 13) _ = _
              simp only [Act.put, List.setIfInBounds_toArray, List.set_cons_zero, List.set_cons_succ, i64_w, i32_w]
              rfl
             refine one_ (i := 5) (N := some 60) #[T_,T_,T_,T_,T_,T_,F_,F_,F_,F_,T_,F_,F_] rfl rfl (one_of HT_.out (by kernel_rfl)) (by decide) (fun K hK => ?_)
             refine Kd.N_lit_step (Kd.slice 5 (Kd.int .u8)) _ 23 ?hg (N' := 60) ?hd (xs := ([rd_L1 l0 x12_2] : List (List Int))) (inner := [.slice A221_0 (rd_L1 l0 x12_2).length c221_0]) (ok := (fun k_ => ((P0_ k_ ∨ P3_ k_) ∨ w.heap.size ≤ k_) ∧ k_ ≠ gb215 ∧ k_ ≠ gb230)) (okp := (fun k_ => ((P0_ k_ ∨ P3_ k_) ∨ w.heap.size ≤ k_) ∧ k_ ≠ gb215 ∧ k_ ≠ gb230)) ?hr ?hp (fun _ hk => hk) ((show ∀ k_, w26.heap.size ≤ k_ → (fun k_ => ((P0_ k_ ∨ P3_ k_) ∨ w.heap.size ≤ k_) ∧ k_ ≠ gb215 ∧ k_ ≠ gb230) k_ from fun k_ hk => ⟨(.inr (Nat.le_trans (below_size (by repeat (first | (with_reducible first | exact HB.out | apply bA | apply bN | apply bD | refine bS ?_ GE215.out | refine bS ?_ GE230.out) | exact HB.out))) hk)), Kd.freshB (g := gb215) (o := .cells #[.slice Ao22 t217.length co22, .int .i64 t220] 26 (0, 0)) (bU BK215.out) k_ hk, Kd.freshB (g := gb230) (o := .cells #[.slice none 0 0, .int .i64 0] 26 (0, 0)) (bU BK230.out) k_ hk⟩) _ (Nat.le_refl _)) (Below.refl _ _) (Nat.le_refl _) (by simp) ?_; (case hd => rfl); (case hg => rfl); (case hr => first | (go_simp; done) | (go_simp; rfl)); (case hp => exact (Reps.one (show Kd.FK (Kd.slice 5 (Kd.int .u8)) _ _ (rd_L1 l0 x12_2) [.slice A221_0 (rd_L1 l0 x12_2).length c221_0] from (Kd.FK_slice_mk (Kd.V_reads' (Kd.V_mono (ok' := (fun k_ => ((P0_ k_ ∨ P3_ k_) ∨ w.heap.size ≤ k_) ∧ k_ ≠ gb215 ∧ k_ ≠ gb230)) (HLq1.out) (fun k_ hk => ⟨hk.1.1, ⟨hk.1.2, hk.2⟩⟩))).2.1 (Kd.V_F (Kd.V_mono (ok' := (fun k_ => ((P0_ k_ ∨ P3_ k_) ∨ w.heap.size ≤ k_) ∧ k_ ≠ gb215 ∧ k_ ≠ gb230)) (HLq1.out) (fun k_ hk => ⟨hk.1.1, ⟨hk.1.2, hk.2⟩⟩))))) (Reps.none _ _)))
             intro v223 w27 ho28 hb hg_ hnew_
             have HS2_ := (hb.cell (World.block_lt_of_cell? _ _ (hHeld.2.2))).trans (hHeld.2.2)
             clear hg_ hnew_
             (first | rw [← Ny222.out] at ho28 | (simp only [Int.reduceToNat] at ho28; rw [← Ny222.out] at ho28))
             have n0_ := aM (Kd.V_elder' (vU HO_0.out) (by first | exact Kd.N_base ho28 | exact Kd.S_base ho28 | exact Kd.R_base ho28) hb)
             have n1_ := aM (Kd.V_elder' (vU HO_3.out) (by first | exact Kd.N_base ho28 | exact Kd.S_base ho28 | exact Kd.R_base ho28) hb)
             have n2_ := aM (Kd.V_elder' (vU HOq0.out) (by first | exact Kd.N_base ho28 | exact Kd.S_base ho28 | exact Kd.R_base ho28) hb)
             have n3_ := aM (Kd.V_elder' (vU HLq0.out) (by first | exact Kd.N_base ho28 | exact Kd.S_base ho28 | exact Kd.R_base ho28) hb)
             have n4_ := aM (Kd.V_elder' (vU HO219.out) (by first | exact Kd.N_base ho28 | exact Kd.S_base ho28 | exact Kd.R_base ho28) hb)
             have n5_ := aM (Kd.V_elder' (vU HLq1.out) (by first | exact Kd.N_base ho28 | exact Kd.S_base ho28 | exact Kd.R_base ho28) hb)
             have n6_ := aM (Kd.N_lower ho28 (below_size (by repeat (first | (with_reducible first | exact HB.out | apply bA | apply bN | apply bD | refine bS ?_ GE215.out | refine bS ?_ GE230.out) | exact HB.out))))
             have n7_ := aM (kB (g := gb215) (o := .cells #[.slice Ao22 t217.length co22, .int .i64 t220] 26 (0, 0)) (bU BK215.out) hb)
             have n8_ := aM (Kd.C_below (by repeat (first | (with_reducible exact HRq1.out) | (with_reducible refine Kd.C_alloc ?_ _) | (with_reducible refine Kd.C_drewN ?_ _) | (with_reducible refine Kd.C_drew ?_) | exact HRq1.out)) hb)
             have n9_ := aM (kB (g := gb230) (o := .cells #[.slice none 0 0, .int .i64 0] 26 (0, 0)) (bU BK230.out) hb)
             have n10_ := aM (below_step (by repeat (first | (with_reducible first | exact HB.out | apply bA | apply bN | apply bD | refine bS ?_ GE215.out | refine bS ?_ GE230.out) | exact HB.out)) hb)
             clear HO_0
             clear HO_3
             clear HOq0
             clear HLq0
             clear HO219
             clear HLq1
             clear BK215
             clear HRq1
             clear BK230
             clear HB
             have HO_0 := n0_
             have HO_3 := n1_
             have HOq0 := n2_
             have HLq0 := n3_
             have HO219 := n4_
             have HLq1 := n5_
             have HO224 := n6_
             have BK215 := n7_
             have HRq1 := n8_
             have BK230 := n9_
             have HB := n10_
             clear n0_ n1_ n2_ n3_ n4_ n5_ n6_ n7_ n8_ n9_ n10_
             clear hb ho28
             obtain ⟨Ao29, co29, eo29⟩ := Kd.N_slice HO224.out
             (first | subst eo29 | (injection eo29 with f1_ f2_ f3_; have f4_ := f1_.symm; have f5_ := f3_.symm; clear f1_ f2_ f3_; subst f4_; subst f5_))
             refine hK.out _ _ ⟨(kC BK215.out 0).trans rfl, (kC BK215.out 1).trans rfl, HS2_⟩ (fun hHeld => ?_)
             clear hK K
             refine norm_ (a' := ?_) ?_ ?_
             rotate_left
             ·
              show Act.put _ (some 60) _ = _
              simp only [Act.put, List.setIfInBounds_toArray, List.set_cons_zero, List.set_cons_succ, i64_w, i32_w]
              rfl
             refine one_ (i := 6) (N := some 61) #[T_,T_,T_,T_,T_,T_,T_,F_,F_,F_,T_,F_,F_] rfl rfl (one_of HT_.out (by kernel_rfl)) (by decide) (fun K hK => ?_)
             refine goes_ Try.func10 (by kernel_rfl) rfl #[.agg #[.slice Ao22 t217.length co22, .int .i64 t220], .slice Ao29 y222.length co29] (by rfl) rfl rfl (by (try simp only [List.map_toArray, List.map_cons, List.map_nil]); first | done | rfl | (simp only [List.length_drop, List.length_take]; rfl)) ?_
             with_reducible refine (wal_Append.calls _ _ t217 t220 _ _ y222 t225 t228 t229 _ ?side1 ?side2 ?side3 ?side4 A17.out).mono ?_
             (case side1 => repeat (first | exact (Kd.V_reads' HO219.out).2.2 | (with_reducible refine Kd.C_alloc ?_ _) | (with_reducible refine Kd.C_drewN ?_ _) | (with_reducible refine Kd.C_drew ?_)))
             (case side2 => exact (Kd.V_reads' HO219.out).2.1)
             (case side3 => repeat (first | exact (Kd.N_reads' HO224.out).2.2 | (with_reducible refine Kd.C_alloc ?_ _) | (with_reducible refine Kd.C_drewN ?_ _) | (with_reducible refine Kd.C_drew ?_)))
             (case side4 => exact (Kd.N_reads' HO224.out).2.1)
             rintro e w30 ⟨v226, rfl, ho0, hb⟩
             have HS2_ := (hb.cell (World.block_lt_of_cell? _ _ (hHeld.2.2))).trans (hHeld.2.2)
             refine ⟨_, rfl, ?_⟩
             have n0_ := aM (vB (vU HO_0.out) hb)
             have n1_ := aM (vB (vU HO_3.out) hb)
             have n2_ := aM (vB (vU HOq0.out) hb)
             have n3_ := aM (vB (vU HLq0.out) hb)
             have n4_ := aM (vB (vU HO219.out) hb)
             have n5_ := aM (vB (vU HLq1.out) hb)
             have n6_ := aM (Kd.N_below (nU HO224.out) hb)
             have n7_ := aM (Kd.V_lower (Kd.V_mono (ok' := fun k_ => ((P0_ k_ ∨ P3_ k_) ∨ w.heap.size ≤ k_) ∧ some k_ ≠ (.slice Ao29 y222.length co29 : Value).ownBlock ∧ k_ ≠ gb215 ∧ k_ ≠ gb230) ho0 (fun k_ hk_ => ⟨(.inr (Nat.le_trans (below_size (by repeat (first | (with_reducible first | exact HB.out | apply bA | apply bN | apply bD | refine bS ?_ GE215.out | refine bS ?_ GE230.out) | exact HB.out))) hk_)), (Kd.fresh' (Kd.N_lt (nU HO224.out)) k_ hk_), (Kd.freshB (g := gb215) (o := .cells #[.slice Ao22 t217.length co22, .int .i64 t220] 26 (0, 0)) (bU BK215.out) k_ hk_), (Kd.freshB (g := gb230) (o := .cells #[.slice none 0 0, .int .i64 0] 26 (0, 0)) (bU BK230.out) k_ hk_)⟩)) (below_size (by repeat (first | (with_reducible first | exact HB.out | apply bA | apply bN | apply bD | refine bS ?_ GE215.out | refine bS ?_ GE230.out) | exact HB.out))))
             have n8_ := aM (kB (g := gb215) (o := .cells #[.slice Ao22 t217.length co22, .int .i64 t220] 26 (0, 0)) (bU BK215.out) hb)
             have n9_ := aM (Kd.C_below (by repeat (first | (with_reducible exact HRq1.out) | (with_reducible refine Kd.C_alloc ?_ _) | (with_reducible refine Kd.C_drewN ?_ _) | (with_reducible refine Kd.C_drew ?_) | exact HRq1.out)) hb)
             have n10_ := aM (kB (g := gb230) (o := .cells #[.slice none 0 0, .int .i64 0] 26 (0, 0)) (bU BK230.out) hb)
             have n11_ := aM (below_step (by repeat (first | (with_reducible first | exact HB.out | apply bA | apply bN | apply bD | refine bS ?_ GE215.out | refine bS ?_ GE230.out) | exact HB.out)) hb)
             clear HO_0
             clear HO_3
             clear HOq0
             clear HLq0
             clear HO219
             clear HLq1
             clear HO224
             clear BK215
             clear HRq1
             clear BK230
             clear HB
             have HO_0 := n0_
             have HO_3 := n1_
             have HOq0 := n2_
             have HLq0 := n3_
             have HO219 := n4_
             have HLq1 := n5_
             have HO224 := n6_
             have HO227 := n7_
             have BK215 := n8_
             have HRq1 := n9_
             have BK230 := n10_
             have HB := n11_
             clear n0_ n1_ n2_ n3_ n4_ n5_ n6_ n7_ n8_ n9_ n10_ n11_
             (try clear hb)
             (try clear hb2)
             (try clear hk)
             (try clear hi)
             (try clear ho0)
             refine hK.out _ _ ⟨(kC BK215.out 0).trans rfl, (kC BK215.out 1).trans rfl, HS2_⟩ (fun hHeld => ?_)
             clear hK K
             refine norm_ (a' := ?_) ?_ ?_
             rotate_left
             ·
              show Act.put _ (some 61) _ = _
              simp only [Act.put, List.setIfInBounds_toArray, List.set_cons_zero, List.set_cons_succ, i64_w, i32_w]
              rfl
             refine pure_ (i := 7) (N := some 54) (v := ?_) (a' := ?_) #[T_,T_,T_,T_,T_,T_,T_,T_,F_,F_,T_,F_,F_] rfl rfl (any_of HT_.out (by kernel_rfl)) (fun _ _ _ h => h) (Or.inl ⟨by rfl, ?_⟩) ?_ ?_
             rotate_left
             ·
              intro w'
              go_simp
              with_reducible rfl
             rotate_left
             ·
              simp only [Act.put, List.setIfInBounds_toArray, List.set_cons_zero, List.set_cons_succ, i64_w, i32_w]
              rfl
             refine pure_ (i := 8) (N := some 62) (v := ?_) (a' := ?_) #[T_,T_,T_,T_,T_,T_,T_,T_,T_,F_,T_,F_,F_] rfl rfl (any_of HT_.out (by kernel_rfl)) (fun _ _ _ h => h) (Or.inl ⟨by rfl, ?_⟩) ?_ ?_
             rotate_left
             ·
              intro w'
              go_simp
              with_reducible rfl
             rotate_left
             ·
              simp only [Act.put, List.setIfInBounds_toArray, List.set_cons_zero, List.set_cons_succ, i64_w, i32_w]
              rfl
             refine pure_ (i := 9) (N := some 63) (v := ?_) (a' := ?_) #[T_,T_,T_,T_,T_,T_,T_,T_,T_,T_,T_,F_,F_] rfl rfl (any_of HT_.out (by kernel_rfl)) (fun _ _ _ h => h) (Or.inl ⟨by rfl, ?_⟩) ?_ ?_
             rotate_left
             ·
              intro w'
              go_simp
              with_reducible rfl
             rotate_left
             ·
              simp only [Act.put, List.setIfInBounds_toArray, List.set_cons_zero, List.set_cons_succ, i64_w, i32_w]
              rfl
             exact norm_ (by simp only [putAll, Act.put, List.setIfInBounds_toArray, List.set_cons_zero, List.set_cons_succ]) (hCont (.slice Ao29 y222.length co29, v226, gb230) _ ⟨hHeld, (by (with_reducible repeat (first | apply Kd.V_alloc | apply Kd.V_drewN | apply Kd.V_drew)); exact Kd.V_mono HLq0.out (fun _ hk => ⟨hk.1.1.1, ⟨hk.2, ⟨hk.1.1.2, hk.1.2⟩⟩⟩)), (by (with_reducible repeat (first | apply Kd.V_alloc | apply Kd.V_drewN | apply Kd.V_drew)); exact Kd.V_mono HLq1.out (fun _ hk => ⟨hk.1.1.1, ⟨hk.2, ⟨hk.1.1.2, hk.1.2⟩⟩⟩)), (by (with_reducible repeat (first | apply Kd.V_alloc | apply Kd.V_drewN | apply Kd.V_drew)); exact Kd.V_mono HO219.out (fun _ hk => ⟨hk.1.1.1, ⟨hk.2, ⟨hk.1.1.2, hk.1.2⟩⟩⟩)), (nU HO224.out), (vU HO227.out), (by (with_reducible repeat (first | apply Kd.V_alloc | apply Kd.V_drewN | apply Kd.V_drew)); exact Kd.V_mono HO_0.out (fun _ hk => ⟨hk.1.1.1, ⟨hk.2, ⟨hk.1.1.2, hk.1.2⟩⟩⟩)), (by (with_reducible repeat (first | apply Kd.V_alloc | apply Kd.V_drewN | apply Kd.V_drew)); exact Kd.V_mono HOq0.out (fun _ hk => ⟨hk.1.1.1, ⟨hk.2, ⟨hk.1.1.2, hk.1.2⟩⟩⟩)), (by (with_reducible repeat (first | apply Kd.V_alloc | apply Kd.V_drewN | apply Kd.V_drew)); exact Kd.V_mono HO_3.out (fun _ hk => ⟨hk.1.1.1, ⟨hk.2, ⟨hk.1.1.2, hk.1.2⟩⟩⟩)), (bU BK215.out), (bU BK230.out), GW230.out, GE230.out, NBq0.out, NBq2.out, (by repeat (first | (with_reducible first | exact HB.out | apply bA | apply bN | apply bD | refine bS ?_ GE215.out | refine bS ?_ GE230.out) | exact HB.out))⟩)
           rintro ⟨v223, v226, gb230⟩ w31 ⟨hS_, h0_, h1_, h2_, h3_, h4_, h5_, h6_, h7_, h8_, h9_, h10_, h11_, h12_, h13_, h14_⟩
           have n0_ : Aside0 (Kd.V (Kd.int .u8) 5 w31 w.heap.size (fun k_ => ((P0_ k_ ∨ P3_ k_) ∨ w.heap.size ≤ k_) ∧ some k_ ≠ (v223 : Value).ownBlock ∧ k_ ≠ gb215 ∧ k_ ≠ gb230) (.slice A216_0 (rd_L1 l0 x12_2).length c216_0) (rd_L1 l0 x12_2)) := ⟨h0_⟩
           have n1_ : Aside0 (Kd.V (Kd.int .u8) 5 w31 w.heap.size (fun k_ => ((P0_ k_ ∨ P3_ k_) ∨ w.heap.size ≤ k_) ∧ some k_ ≠ (v223 : Value).ownBlock ∧ k_ ≠ gb215 ∧ k_ ≠ gb230) (.slice A221_0 (rd_L1 l0 x12_2).length c221_0) (rd_L1 l0 x12_2)) := ⟨h1_⟩
           have n2_ : Aside0 (Kd.V (Kd.int .u8) 5 w31 w.heap.size (fun k_ => ((P0_ k_ ∨ P3_ k_) ∨ w.heap.size ≤ k_) ∧ some k_ ≠ (v223 : Value).ownBlock ∧ k_ ≠ gb215 ∧ k_ ≠ gb230) (.slice Ao22 t217.length co22) t217) := ⟨h2_⟩
           have n3_ : Aside0 (Kd.N (Kd.slice 5 (Kd.int .u8)) 23 w31 w.heap.size (fun k_ => ((P0_ k_ ∨ P3_ k_) ∨ w.heap.size ≤ k_) ∧ k_ ≠ gb215 ∧ k_ ≠ gb230) v223 y222) := ⟨h3_⟩
           have n4_ : Aside0 (Kd.V (Kd.int .u8) 5 w31 w.heap.size (fun k_ => ((P0_ k_ ∨ P3_ k_) ∨ w.heap.size ≤ k_) ∧ some k_ ≠ (v223 : Value).ownBlock ∧ k_ ≠ gb215 ∧ k_ ≠ gb230) v226 t225) := ⟨h4_⟩
           have n5_ : Aside0 (Kd.V (Kd.slice 5 (Kd.int .u8)) 23 w31 w.heap.size (fun k_ => ((P0_ k_ ∨ P3_ k_) ∨ w.heap.size ≤ k_) ∧ some k_ ≠ (v223 : Value).ownBlock ∧ k_ ≠ gb215 ∧ k_ ≠ gb230) (.slice (some ad216) l0.length c0) l0) := ⟨h5_⟩
           have n6_ : Aside0 (Kd.V (Kd.int .u8) 5 w31 w.heap.size (fun k_ => ((P0_ k_ ∨ P3_ k_) ∨ w.heap.size ≤ k_) ∧ some k_ ≠ (v223 : Value).ownBlock ∧ k_ ≠ gb215 ∧ k_ ≠ gb230) (.slice Ao20 x216000_2.length co20) x216000_2) := ⟨h6_⟩
           have n7_ : Aside0 (Kd.V (Kd.int .u8) 5 w31 w.heap.size (fun k_ => ((P0_ k_ ∨ P3_ k_) ∨ w.heap.size ≤ k_) ∧ some k_ ≠ (v223 : Value).ownBlock ∧ k_ ≠ gb215 ∧ k_ ≠ gb230) (.slice A3 l3.length c3) l3) := ⟨h7_⟩
           have n8_ : Aside0 (w31.heap[gb215]? = some (.cells #[.slice Ao22 t217.length co22, .int .i64 t220] 26 (0, 0))) := ⟨h8_⟩
           have n9_ : Aside0 (w31.heap[gb230]? = some (.cells #[.slice none 0 0, .int .i64 0] 26 (0, 0))) := ⟨h9_⟩
           have n10_ : Aside0 (w.heap.size ≤ gb230) := ⟨h10_⟩
           have n11_ : Aside0 (w.heap.size ≤ gb230) := ⟨h11_⟩
           have n12_ : Aside0 (gb215 ≠ gb230) := ⟨h12_⟩
           have n13_ : Aside0 (gb230 ≠ gb215) := ⟨h13_⟩
           have n14_ : Aside0 (Below w.heap.size w w31) := ⟨h14_⟩
           clear HO_0
           clear HO_3
           clear HOq0
           clear HLq0
           clear HO219
           clear BK215
           clear HB
           clear h0_ h1_ h2_ h3_ h4_ h5_ h6_ h7_ h8_ h9_ h10_ h11_ h12_ h13_ h14_
           have HLq0 := n0_
           have HLq1 := n1_
           have HO219 := n2_
           have HO224 := n3_
           have HO227 := n4_
           have HO_0 := n5_
           have HOq0 := n6_
           have HO_3 := n7_
           have BK215 := n8_
           have BK230 := n9_
           have GW230 := n10_
           have GE230 := n11_
           have NBq0 := n12_
           have NBq2 := n13_
           have HB := n14_
           clear n0_ n1_ n2_ n3_ n4_ n5_ n6_ n7_ n8_ n9_ n10_ n11_ n12_ n13_ n14_
           have hHeld : w31.cell? ⟨gb215, 0, none⟩ = some (.slice Ao22 t217.length co22) ∧ w31.cell? ⟨gb215, 1, none⟩ = some (.int .i64 t220) ∧ w31.cell? (ad216.add (x12_2).toNat) = some (.slice A221_0 (rd_L1 l0 x12_2).length c221_0) := hS_
           obtain ⟨Ao32, co32, eo32⟩ := Kd.V_slice HO227.out
           (first | subst eo32 | (injection eo32 with f1_ f2_ f3_; have f4_ := f1_.symm; have f5_ := f3_.symm; clear f1_ f2_ f3_; subst f4_; subst f5_))
           refine norm_ (a' := ?_) ?_ ?_
           rotate_left
           ·
            simp only [putAll, Act.put, List.setIfInBounds_toArray, List.set_cons_zero, List.set_cons_succ]
            rfl
           refine one_ (i := 11) (N := none) #[T_,T_,T_,T_,T_,T_,T_,T_,T_,T_,T_,T_,F_] rfl rfl (one_of HT_.out (by kernel_rfl)) (by decide) (fun K hK => ?_)
           have hs33 : w31.cell? ⟨gb230, 0, none⟩ = some (.slice none 0 0) := (kC BK230.out 0).trans rfl
           have hfs33 := kF BK230.out 0
           have hns33_0 := NBq0.out
           have hms33_0 := NBq2.out
           have hs34 : w31.cell? ⟨gb230, 1, none⟩ = some (.int .i64 0) := (kC BK230.out 1).trans rfl
           have hfs34 := kF BK230.out 1
           have hns34_0 := NBq0.out
           have hms34_0 := NBq2.out
           refine skip_ (w1 := ?_) (by rfl) rfl ?_ ?_
           rotate_left
           ·
            go_simp
            rfl
           refine hK.out _ _ ⟨((cell_far (p := ⟨gb230, _, none⟩) NBq0.out _).trans (((cell_far (p := ⟨gb230, _, none⟩) NBq0.out _).trans (hHeld.1)))), ((cell_far (p := ⟨gb230, _, none⟩) NBq0.out _).trans (((cell_far (p := ⟨gb230, _, none⟩) NBq0.out _).trans (hHeld.2.1)))), ((cell_far (p := ⟨gb230, _, none⟩) (by first | exact V_off HO_0.out (by have p_ := of_eq_true p221; have q_ := of_eq_true q221; omega) (by first | exact Nat.zero_lt_one | decide) (fun _ hk => hk.2.2.2) | (rw [add_block]; exact V_off HO_0.out (by have p_ := of_eq_true p221; have q_ := of_eq_true q221; omega) (by first | exact Nat.zero_lt_one | decide) (fun _ hk => hk.2.2.2)) | (show (Addr.add _ _).block ≠ _; rw [add_block]; exact V_off HO_0.out (by have p_ := of_eq_true p221; have q_ := of_eq_true q221; omega) (by first | exact Nat.zero_lt_one | decide) (fun _ hk => hk.2.2.2)) | (dsimp only; exact V_off HO_0.out (by have p_ := of_eq_true p221; have q_ := of_eq_true q221; omega) (by first | exact Nat.zero_lt_one | decide) (fun _ hk => hk.2.2.2))) _).trans (((cell_far (p := ⟨gb230, _, none⟩) (by first | exact V_off HO_0.out (by have p_ := of_eq_true p221; have q_ := of_eq_true q221; omega) (by first | exact Nat.zero_lt_one | decide) (fun _ hk => hk.2.2.2) | (rw [add_block]; exact V_off HO_0.out (by have p_ := of_eq_true p221; have q_ := of_eq_true q221; omega) (by first | exact Nat.zero_lt_one | decide) (fun _ hk => hk.2.2.2)) | (show (Addr.add _ _).block ≠ _; rw [add_block]; exact V_off HO_0.out (by have p_ := of_eq_true p221; have q_ := of_eq_true q221; omega) (by first | exact Nat.zero_lt_one | decide) (fun _ hk => hk.2.2.2)) | (dsimp only; exact V_off HO_0.out (by have p_ := of_eq_true p221; have q_ := of_eq_true q221; omega) (by first | exact Nat.zero_lt_one | decide) (fun _ hk => hk.2.2.2))) _).trans (hHeld.2.2))))⟩ (fun hHeld => ?_)
           clear hK K
           refine pure_ (i := 12) (N := some 14) (v := ?_) (a' := ?_) #[T_,T_,T_,T_,T_,T_,T_,T_,T_,T_,T_,T_,T_] rfl rfl (any_of HT_.out (by kernel_rfl)) (fun _ _ _ h => h) (Or.inl ⟨by rfl, ?_⟩) ?_ ?_
           rotate_left
           ·
            intro w'
            go_simp
            with_reducible rfl
           rotate_left
           ·
            simp only [Act.put, List.setIfInBounds_toArray, List.set_cons_zero, List.set_cons_succ, i64_w, i32_w]
            rfl
           refine done_ (done_of HT_.out (by kernel_rfl)) ?_
           have hnb35 := NBq2.out
           have hnc35 := NBq0.out
           have hcz36_0 : w31.cell? ⟨gb230, 0, none⟩ = some (.slice none 0 0) := (kC BK230.out 0).trans rfl
           have hcz36_1 : w31.cell? ⟨gb230, 1, none⟩ = some (.int .i64 0) := (kC BK230.out 1).trans rfl
           have hfz36_0 := kF BK230.out 0
           have hfz36_1 := kF BK230.out 1
           have hcz37_0 : w31.cell? ⟨gb215, 0, none⟩ = some (.slice Ao22 t217.length co22) := (kC BK215.out 0).trans rfl
           have hcz37_1 : w31.cell? ⟨gb215, 1, none⟩ = some (.int .i64 t220) := (kC BK215.out 1).trans rfl
           have hfz37_0 := kF BK215.out 0
           have hfz37_1 := kF BK215.out 1
           try go_wp2
           go_roundg k2
           case measure => have := HJ5.out; have := HK2.out; omega
           case rel => exact ⟨(wrap64 (x12_2 + 1)), (t225), (t228), (.slice Ao32 t225.length co32), (by first | rfl | (simp; done) | (simp [*]; done)), H', ⟨by have := HJ5.out; have := HK2.out; omega⟩, ⟨by (with_reducible repeat (first | apply Kd.V_alloc | apply Kd.V_drewN | apply Kd.V_drew)); exact Kd.V_mono (Kd.V_far (p := ⟨gb215, 1, none⟩) (Kd.V_far (p := ⟨gb215, 0, none⟩) (Kd.V_far (p := ⟨gb230, 1, none⟩) (Kd.V_far (p := ⟨gb230, 0, none⟩) (Kd.V_mono (Kd.V_mono HO_0.out (fun k_ hk => (⟨hk, hk.2.2.2⟩ : _ ∧ k_ ≠ gb230))) (fun k_ hk => (⟨hk, hk.1.2.2.1⟩ : _ ∧ k_ ≠ gb215))) (fun _ hk => hk.1.2) (.slice Ao32 t225.length co32)) (fun _ hk => hk.1.2) (.int .i64 t228)) (fun _ hk => hk.2) (.slice Ao32 t225.length co32)) (fun _ hk => hk.2) (.int .i64 t228)) (fun _ hk => by first | exact ⟨hk.1.1.1, hk.1.1.2.2.1⟩ | (simp only [own_lenA] at hk ⊢; exact ⟨hk.1.1.1, hk.1.1.2.2.1⟩))⟩, ⟨by (with_reducible repeat (first | apply Kd.V_alloc | apply Kd.V_drewN | apply Kd.V_drew)); exact Kd.V_mono (Kd.V_far (p := ⟨gb215, 1, none⟩) (Kd.V_far (p := ⟨gb215, 0, none⟩) (Kd.V_far (p := ⟨gb230, 1, none⟩) (Kd.V_far (p := ⟨gb230, 0, none⟩) (Kd.V_mono (Kd.V_mono HO_3.out (fun k_ hk => (⟨hk, hk.2.2.2⟩ : _ ∧ k_ ≠ gb230))) (fun k_ hk => (⟨hk, hk.1.2.2.1⟩ : _ ∧ k_ ≠ gb215))) (fun _ hk => hk.1.2) (.slice Ao32 t225.length co32)) (fun _ hk => hk.1.2) (.int .i64 t228)) (fun _ hk => hk.2) (.slice Ao32 t225.length co32)) (fun _ hk => hk.2) (.int .i64 t228)) (fun _ hk => by first | exact ⟨hk.1.1.1, hk.1.1.2.2.1⟩ | (simp only [own_lenA] at hk ⊢; exact ⟨hk.1.1.1, hk.1.1.2.2.1⟩))⟩, ⟨by (with_reducible repeat (first | apply Kd.V_alloc | apply Kd.V_drewN | apply Kd.V_drew)); exact Kd.V_mono (Kd.V_far (p := ⟨gb215, 1, none⟩) (Kd.V_far (p := ⟨gb215, 0, none⟩) (Kd.V_far (p := ⟨gb230, 1, none⟩) (Kd.V_far (p := ⟨gb230, 0, none⟩) (Kd.V_mono (Kd.V_mono HO227.out (fun k_ hk => (⟨hk, hk.2.2.2⟩ : _ ∧ k_ ≠ gb230))) (fun k_ hk => (⟨hk, hk.1.2.2.1⟩ : _ ∧ k_ ≠ gb215))) (fun _ hk => hk.1.2) (.slice Ao32 t225.length co32)) (fun _ hk => hk.1.2) (.int .i64 t228)) (fun _ hk => hk.2) (.slice Ao32 t225.length co32)) (fun _ hk => hk.2) (.int .i64 t228)) (fun _ hk => by first | exact ⟨hk.1.1.1, hk.1.1.2.2.1⟩ | (simp only [own_lenA] at hk ⊢; exact ⟨hk.1.1.1, hk.1.1.2.2.1⟩))⟩, ⟨by (with_reducible repeat (first | refine blk_drewN ?_ _ | refine blk_drew ?_ | refine blk_alloc ?_ _)); refine blk_put (cs := #[.slice Ao32 t225.length co32, .int .i64 t220]) ?_ 1 _ rfl; (with_reducible repeat (first | refine blk_drewN ?_ _ | refine blk_drew ?_ | refine blk_alloc ?_ _)); refine blk_put (cs := #[.slice Ao22 t217.length co22, .int .i64 t220]) ?_ 0 _ rfl; (with_reducible repeat (first | refine blk_drewN ?_ _ | refine blk_drew ?_ | refine blk_alloc ?_ _)); refine blk_far ?_ NBq0.out _; (with_reducible repeat (first | refine blk_drewN ?_ _ | refine blk_drew ?_ | refine blk_alloc ?_ _)); refine blk_far ?_ NBq0.out _; (with_reducible repeat (first | refine blk_drewN ?_ _ | refine blk_drew ?_ | refine blk_alloc ?_ _)); exact BK215.out⟩, ⟨by repeat (first | (with_reducible first | exact HB.out | apply bA | apply bN | apply bD | refine bS ?_ GE215.out | refine bS ?_ GE230.out) | exact HB.out)⟩⟩
          ·
           rw [if_neg c18] at H
           rw [HTr_] at H
           exact absurd (Option.some.inj H) (by decide)
         ·
          rw [if_neg c15] at H
          have c15b0 : (x12_2 == (Int.tmod (wrap64 (a1)) 21)) = false := beq_eq_false_iff_ne.mpr c15
          have c15b1 : (x12_2 != (Int.tmod (wrap64 (a1)) 21)) = true := bne_iff_ne.mpr c15
          obtain ⟨y232, hy232⟩ : ∃ y_ : List (List Int), y_ = (([rd_L1 l0 x12_2] : List (List Int))) := ⟨_, rfl⟩
          replace H : ((wal_Append.f x216000_2 x216001_2 y232).bind fun bt235 => (if bt235.2.2 = 0 then (banksmanlaw04_WalCrashes.l0 k2 l0 a2 l3 t214 (Int.tmod (wrap64 (a1)) 21) (wrap64 (x12_2 + 1)) bt235.1 bt235.2.1) else (some false))) = some r := by first | (rw [hy232]; with_reducible exact H) | (have H2_ := (Option.bind_some _ _).symm.trans H; rw [hy232]; with_reducible exact H2_) | (have H2_ := (Option.bind_some _ _).symm.trans H; with_reducible exact H2_) | with_reducible exact H | (rw [hy232]; exact H) | exact H
          have Ny232 := aM hy232
          clear hy232
          replace H := Option.bind_eq_some_iff.mp H
          obtain ⟨⟨t235, t238, t239⟩, A540, H⟩ := H
          replace H : (if t239 = 0 then (banksmanlaw04_WalCrashes.l0 k2 l0 a2 l3 t214 (Int.tmod (wrap64 (a1)) 21) (wrap64 (x12_2 + 1)) t235 t238) else (some false)) = some r := H
          have A54 := aM A540
          clear A540
          by_cases c55 : t239 = 0
          ·
           rw [if_pos c55] at H
           have c55b0 : (t239 == 0) = true := beq_iff_eq.mpr c55
           have c55b1 : (t239 != 0) = false := bne_eq_false_iff_eq.mpr c55
           clear c55
           have H' := aM H
           clear H
           have p216 : 0 ≤ (x12_2 : Int) := of_decide_eq_true (by first | (with_reducible assumption) | assumption)
           have q216 : x12_2 < (l0.length : Int) := of_decide_eq_true (by first | (with_reducible assumption) | assumption)
           obtain ⟨ad216, A216_0, c216_0, e216, hx216_0, hl216_0, hi216_0⟩ := at_L1 (Kd.V_reads' HO_0.out).2.2 x12_2 p216 q216
           cases e216
           obtain ⟨ce216, hce216, hMe216, hcc216⟩ := Kd.V_get HO_0.out [] x12_2 p216 (by first | exact q216 | exact of_decide_eq_true (by first | (with_reducible assumption) | assumption) | (have e_ := (Kd.V_reads' HO_0.out).1; omega))
           obtain ⟨ua216_0, uc216_0, rfl, ul216_0, ge216_0⟩ := Kd.FK_slice_open hMe216
           have hv216_0 := hcc216 0 _ rfl
           rw [Nat.add_zero, show ((Kd.slice 5 (Kd.int .u8))).sz = 1 from rfl, Nat.mul_one] at hv216_0
           replace hv216_0 := Option.some.inj (hv216_0.symm.trans hx216_0)
           injection hv216_0 with hva_ hvn_ hvc_
           rw [hva_] at ge216_0
           rw [hvc_] at ul216_0
           have HLq0 := aM (show Kd.V (Kd.int .u8) 5 _ w.heap.size _ _ (rd_L1 l0 x12_2) from Kd.V_mk ul216_0 ge216_0)
           clear hva_ hvn_ hvc_ ge216_0 ul216_0
           clear hcc216 hce216
           have HRq0 := aM hi216_0
           have HCq0 := aM hl216_0
           clear hi216_0 hl216_0
           replace p216 := eq_true p216
           replace q216 := eq_true q216
           obtain ⟨Ao56, co56, eo56⟩ := Kd.V_slice HOq0.out
           subst eo56
           try go_wp2
           have n0_ := aM (Kd.V_drew HO_0.out)
           have n1_ := aM (Kd.V_drew HO_3.out)
           have n2_ := aM (Kd.V_drew HOq0.out)
           have n3_ := aM (Kd.V_drew HLq0.out)
           have n4_ := aM (blk_drew BK215.out)
           have n5_ := aM (Kd.C_drew HRq0.out)
           have n6_ := aM (bD HB.out)
           clear HO_0
           clear HO_3
           clear HOq0
           clear HLq0
           clear BK215
           clear HRq0
           clear HB
           have HO_0 := n0_
           have HO_3 := n1_
           have HOq0 := n2_
           have HLq0 := n3_
           have BK215 := n4_
           have HRq0 := n5_
           have HB := n6_
           clear n0_ n1_ n2_ n3_ n4_ n5_ n6_
           have p231 : 0 ≤ (x12_2 : Int) := of_decide_eq_true (by first | (with_reducible assumption) | assumption)
           have q231 : x12_2 < (l0.length : Int) := of_decide_eq_true (by first | (with_reducible assumption) | assumption)
           obtain ⟨ad231, A231_0, c231_0, e231, hx231_0, hl231_0, hi231_0⟩ := at_L1 (Kd.V_reads' HO_0.out).2.2 x12_2 p231 q231
           obtain rfl : ad216 = ad231 := (by injection e231)
           obtain ⟨ce231, hce231, hMe231, hcc231⟩ := Kd.V_get HO_0.out [] x12_2 p231 (by first | exact q231 | exact of_decide_eq_true (by first | (with_reducible assumption) | assumption) | (have e_ := (Kd.V_reads' HO_0.out).1; omega))
           obtain ⟨ua231_0, uc231_0, rfl, ul231_0, ge231_0⟩ := Kd.FK_slice_open hMe231
           have hv231_0 := hcc231 0 _ rfl
           rw [Nat.add_zero, show ((Kd.slice 5 (Kd.int .u8))).sz = 1 from rfl, Nat.mul_one] at hv231_0
           replace hv231_0 := Option.some.inj (hv231_0.symm.trans hx231_0)
           injection hv231_0 with hva_ hvn_ hvc_
           rw [hva_] at ge231_0
           rw [hvc_] at ul231_0
           have HLq2 := aM (show Kd.V (Kd.int .u8) 5 _ w.heap.size _ _ (rd_L1 l0 x12_2) from Kd.V_mk ul231_0 ge231_0)
           clear hva_ hvn_ hvc_ ge231_0 ul231_0
           clear hcc231 hce231
           have HRq2 := aM hi231_0
           have HCq2 := aM hl231_0
           clear hi231_0 hl231_0
           replace p231 := eq_true p231
           replace q231 := eq_true q231
           refine start_ (n := 13) (S := fun w' => w'.cell? ⟨gb215, 0, none⟩ = some (.slice Ao56 x216000_2.length co56) ∧ w'.cell? ⟨gb215, 1, none⟩ = some (.int .i64 x216001_2) ∧ w'.cell? (ad216.add (x12_2).toNat) = some (.slice A231_0 (rd_L1 l0 x12_2).length c231_0)) (ds := []) #[F_,F_,F_,F_,F_,F_,F_,F_,F_,F_,F_,F_,F_] (by kernel_rfl) rfl rfl ⟨(kC BK215.out 0).trans rfl, (kC BK215.out 1).trans rfl, hx231_0⟩ (fun hHeld => ?_); refine with_tabW banksmanlaw04_WalCrashes.tab13 banksmanlaw04_WalCrashes.bits13 (fun HT_ HW_ => ?_)
           generalize wr.drew = w57 at HO_0 HO_3 HOq0 HLq0 BK215 HRq0 HB HLq2 HRq2 hx231_0 hHeld ⊢
           refine pure_ (i := 1) (N := some 56) (v := ?_) (a' := ?_) #[F_,T_,F_,F_,F_,F_,F_,F_,F_,F_,F_,F_,F_] rfl rfl (any_of HT_.out (by kernel_rfl)) (fun _ _ _ h => h) (Or.inl ⟨by rfl, ?_⟩) ?_ ?_
           rotate_left
           ·
            intro w'
            go_simp
            with_reducible rfl
           rotate_left
           ·
            simp only [Act.put, List.setIfInBounds_toArray, List.set_cons_zero, List.set_cons_succ, i64_w, i32_w]
            rfl
           refine pure_ (i := 2) (N := some 57) (v := ?_) (a' := ?_) #[F_,T_,T_,F_,F_,F_,F_,F_,F_,F_,F_,F_,F_] rfl rfl (any_of HT_.out (by kernel_rfl)) (fun _ _ _ h => h) (Or.inl ⟨by rfl, ?_⟩) ?_ ?_
           rotate_left
           ·
            intro w'
            go_simp
            with_reducible rfl
           rotate_left
           ·
            simp only [Act.put, List.setIfInBounds_toArray, List.set_cons_zero, List.set_cons_succ, i64_w, i32_w]
            rfl
           refine pure_ (i := 3) (N := some 58) (v := ?_) (a' := ?_) #[F_,T_,T_,T_,F_,F_,F_,F_,F_,F_,F_,F_,F_] rfl rfl (any_of HT_.out (by kernel_rfl)) (fun _ _ _ h => h) (Or.inl ⟨by rfl, ?_⟩) ?_ ?_
           rotate_left
           ·
            intro w'
            go_simp
            with_reducible rfl
           rotate_left
           ·
            simp only [Act.put, List.setIfInBounds_toArray, List.set_cons_zero, List.set_cons_succ, i64_w, i32_w]
            rfl
           refine take_ (i := 0) (N := some 55) (v := ?_) (a' := ?_) #[T_,T_,T_,T_,F_,F_,F_,F_,F_,F_,F_,F_,F_] rfl rfl (take_ofW HT_.out HW_.out (by kernel_rfl)) (fun _ _ _ h => h) (Or.inl ⟨by rfl, ?_⟩) hHeld ?_ ?_
           rotate_left
           ·
            rintro w' ⟨s0, s1, s2⟩
            go_simp
            with_reducible rfl
           rotate_left
           ·
            simp only [Act.put, List.setIfInBounds_toArray, List.set_cons_zero, List.set_cons_succ, i64_w, i32_w]
            rfl
           refine take_ (i := 4) (N := some 59) (v := ?_) (a' := ?_) #[T_,T_,T_,T_,T_,F_,F_,F_,F_,F_,F_,F_,F_] rfl rfl (take_ofW HT_.out HW_.out (by kernel_rfl)) (fun _ _ _ h => h) (Or.inl ⟨by rfl, ?_⟩) hHeld ?_ ?_
           rotate_left
           ·
            rintro w' ⟨s0, s1, s2⟩
            go_simp
            with_reducible rfl
           rotate_left
           ·
            simp only [Act.put, List.setIfInBounds_toArray, List.set_cons_zero, List.set_cons_succ, i64_w, i32_w]
            rfl
           refine join_ (σ := Value × Value × Nat) 2 #[T_,T_,T_,T_,T_,T_,T_,T_,T_,T_,T_,F_,F_] (fun s_ => [(60, s_.1), (61, .tuple #[.agg #[s_.2.1, .int .i64 t238], .int .i64 t239]), (13, .pointer (some ⟨s_.2.2, 0, none⟩)), (54, .tuple #[.agg #[s_.2.1, .int .i64 t238], .int .i64 t239]), (62, .agg #[s_.2.1, .int .i64 t238]), (63, .int .i64 t239)]) (fun s_ w' => (w'.cell? ⟨gb215, 0, none⟩ = some (.slice Ao56 x216000_2.length co56) ∧ w'.cell? ⟨gb215, 1, none⟩ = some (.int .i64 x216001_2) ∧ w'.cell? (ad216.add (x12_2).toNat) = some (.slice A231_0 (rd_L1 l0 x12_2).length c231_0)) ∧ (Kd.V (Kd.int .u8) 5 w' w.heap.size (fun k_ => ((P0_ k_ ∨ P3_ k_) ∨ w.heap.size ≤ k_) ∧ some k_ ≠ (s_.1 : Value).ownBlock ∧ k_ ≠ gb215 ∧ k_ ≠ s_.2.2) (.slice A216_0 (rd_L1 l0 x12_2).length c216_0) (rd_L1 l0 x12_2)) ∧ (Kd.V (Kd.int .u8) 5 w' w.heap.size (fun k_ => ((P0_ k_ ∨ P3_ k_) ∨ w.heap.size ≤ k_) ∧ some k_ ≠ (s_.1 : Value).ownBlock ∧ k_ ≠ gb215 ∧ k_ ≠ s_.2.2) (.slice A231_0 (rd_L1 l0 x12_2).length c231_0) (rd_L1 l0 x12_2)) ∧ (Kd.N (Kd.slice 5 (Kd.int .u8)) 23 w' w.heap.size (fun k_ => ((P0_ k_ ∨ P3_ k_) ∨ w.heap.size ≤ k_) ∧ k_ ≠ gb215 ∧ k_ ≠ s_.2.2) s_.1 y232) ∧ (Kd.V (Kd.int .u8) 5 w' w.heap.size (fun k_ => ((P0_ k_ ∨ P3_ k_) ∨ w.heap.size ≤ k_) ∧ some k_ ≠ (s_.1 : Value).ownBlock ∧ k_ ≠ gb215 ∧ k_ ≠ s_.2.2) s_.2.1 t235) ∧ (Kd.V (Kd.slice 5 (Kd.int .u8)) 23 w' w.heap.size (fun k_ => ((P0_ k_ ∨ P3_ k_) ∨ w.heap.size ≤ k_) ∧ some k_ ≠ (s_.1 : Value).ownBlock ∧ k_ ≠ gb215 ∧ k_ ≠ s_.2.2) (.slice (some ad216) l0.length c0) l0) ∧ (Kd.V (Kd.int .u8) 5 w' w.heap.size (fun k_ => ((P0_ k_ ∨ P3_ k_) ∨ w.heap.size ≤ k_) ∧ some k_ ≠ (s_.1 : Value).ownBlock ∧ k_ ≠ gb215 ∧ k_ ≠ s_.2.2) (.slice Ao56 x216000_2.length co56) x216000_2) ∧ (Kd.V (Kd.int .u8) 5 w' w.heap.size (fun k_ => ((P0_ k_ ∨ P3_ k_) ∨ w.heap.size ≤ k_) ∧ some k_ ≠ (s_.1 : Value).ownBlock ∧ k_ ≠ gb215 ∧ k_ ≠ s_.2.2) (.slice A3 l3.length c3) l3) ∧ (w'.heap[gb215]? = some (.cells #[.slice Ao56 x216000_2.length co56, .int .i64 x216001_2] 26 (0, 0))) ∧ (w'.heap[s_.2.2]? = some (.cells #[.slice none 0 0, .int .i64 0] 26 (0, 0))) ∧ (w.heap.size ≤ s_.2.2) ∧ (w.heap.size ≤ s_.2.2) ∧ (gb215 ≠ s_.2.2) ∧ (s_.2.2 ≠ gb215) ∧ (Below w.heap.size w w')) ?_ ?_
           rotate_left
           ·
            intro hCont
            refine two_ (i := 5) (j := 10) (Ni := some 60) (Nj := some 13) #[T_,T_,T_,T_,T_,T_,F_,F_,F_,F_,F_,F_,F_] #[T_,T_,T_,T_,T_,F_,F_,F_,F_,F_,T_,F_,F_] rfl rfl rfl rfl (two_of HT_.out (by kernel_rfl)) (by decide) (by decide) (fun K hK => ?_) (fun K hK => ?_)
            ·
             skip
             refine Kd.N_lit_step (Kd.slice 5 (Kd.int .u8)) _ 23 ?hg (N' := 60) ?hd (xs := ([rd_L1 l0 x12_2] : List (List Int))) (inner := [.slice A231_0 (rd_L1 l0 x12_2).length c231_0]) (ok := (fun k_ => ((P0_ k_ ∨ P3_ k_) ∨ w.heap.size ≤ k_) ∧ k_ ≠ gb215)) (okp := (fun k_ => ((P0_ k_ ∨ P3_ k_) ∨ w.heap.size ≤ k_) ∧ k_ ≠ gb215)) ?hr ?hp (fun _ hk => hk) ((show ∀ k_, w57.heap.size ≤ k_ → (fun k_ => ((P0_ k_ ∨ P3_ k_) ∨ w.heap.size ≤ k_) ∧ k_ ≠ gb215) k_ from fun k_ hk => ⟨(.inr (Nat.le_trans (below_size (by repeat (first | (with_reducible first | exact HB.out | apply bA | apply bN | apply bD | refine bS ?_ GE215.out) | exact HB.out))) hk)), Kd.freshB (g := gb215) (o := .cells #[.slice Ao56 x216000_2.length co56, .int .i64 x216001_2] 26 (0, 0)) (bU BK215.out) k_ hk⟩) _ (Nat.le_refl _)) (Below.refl _ _) (Nat.le_refl _) (by simp) ?_; (case hd => rfl); (case hg => rfl); (case hr => first | (go_simp; done) | (go_simp; rfl)); (case hp => exact (Reps.one (show Kd.FK (Kd.slice 5 (Kd.int .u8)) _ _ (rd_L1 l0 x12_2) [.slice A231_0 (rd_L1 l0 x12_2).length c231_0] from (Kd.FK_slice_mk (Kd.V_reads' (Kd.V_mono (ok' := (fun k_ => ((P0_ k_ ∨ P3_ k_) ∨ w.heap.size ≤ k_) ∧ k_ ≠ gb215)) (HLq2.out) (fun k_ hk => ⟨hk.1, hk.2⟩))).2.1 (Kd.V_F (Kd.V_mono (ok' := (fun k_ => ((P0_ k_ ∨ P3_ k_) ∨ w.heap.size ≤ k_) ∧ k_ ≠ gb215)) (HLq2.out) (fun k_ hk => ⟨hk.1, hk.2⟩))))) (Reps.none _ _)))
             intro v233 w58 ho59 hb hg_ hnew_
             have HS2_ := (hb.cell (World.block_lt_of_cell? _ _ (hHeld.2.2))).trans (hHeld.2.2)
             clear hg_ hnew_
             (first | rw [← Ny232.out] at ho59 | (simp only [Int.reduceToNat] at ho59; rw [← Ny232.out] at ho59))
             have n0_ := aM (Kd.V_elder' (vU HO_0.out) (by first | exact Kd.N_base ho59 | exact Kd.S_base ho59 | exact Kd.R_base ho59) hb)
             have n1_ := aM (Kd.V_elder' (vU HO_3.out) (by first | exact Kd.N_base ho59 | exact Kd.S_base ho59 | exact Kd.R_base ho59) hb)
             have n2_ := aM (Kd.V_elder' (vU HOq0.out) (by first | exact Kd.N_base ho59 | exact Kd.S_base ho59 | exact Kd.R_base ho59) hb)
             have n3_ := aM (Kd.V_elder' (vU HLq0.out) (by first | exact Kd.N_base ho59 | exact Kd.S_base ho59 | exact Kd.R_base ho59) hb)
             have n4_ := aM (Kd.V_elder' (vU HLq2.out) (by first | exact Kd.N_base ho59 | exact Kd.S_base ho59 | exact Kd.R_base ho59) hb)
             have n5_ := aM (Kd.N_lower ho59 (below_size (by repeat (first | (with_reducible first | exact HB.out | apply bA | apply bN | apply bD | refine bS ?_ GE215.out) | exact HB.out))))
             have n6_ := aM (kB (g := gb215) (o := .cells #[.slice Ao56 x216000_2.length co56, .int .i64 x216001_2] 26 (0, 0)) (bU BK215.out) hb)
             have n7_ := aM (Kd.C_below (by repeat (first | (with_reducible exact HRq0.out) | (with_reducible refine Kd.C_alloc ?_ _) | (with_reducible refine Kd.C_drewN ?_ _) | (with_reducible refine Kd.C_drew ?_) | exact HRq0.out)) hb)
             have n8_ := aM (Kd.C_below (by repeat (first | (with_reducible exact HRq2.out) | (with_reducible refine Kd.C_alloc ?_ _) | (with_reducible refine Kd.C_drewN ?_ _) | (with_reducible refine Kd.C_drew ?_) | exact HRq2.out)) hb)
             have n9_ := aM (below_step (by repeat (first | (with_reducible first | exact HB.out | apply bA | apply bN | apply bD | refine bS ?_ GE215.out) | exact HB.out)) hb)
             clear HO_0
             clear HO_3
             clear HOq0
             clear HLq0
             clear HLq2
             clear BK215
             clear HRq0
             clear HRq2
             clear HB
             have HO_0 := n0_
             have HO_3 := n1_
             have HOq0 := n2_
             have HLq0 := n3_
             have HLq2 := n4_
             have HO234 := n5_
             have BK215 := n6_
             have HRq0 := n7_
             have HRq2 := n8_
             have HB := n9_
             clear n0_ n1_ n2_ n3_ n4_ n5_ n6_ n7_ n8_ n9_
             clear hb ho59
             obtain ⟨Ao60, co60, eo60⟩ := Kd.N_slice HO234.out
             (first | subst eo60 | (injection eo60 with f1_ f2_ f3_; have f4_ := f1_.symm; have f5_ := f3_.symm; clear f1_ f2_ f3_; subst f4_; subst f5_))
             refine hK.out _ _ ⟨(kC BK215.out 0).trans rfl, (kC BK215.out 1).trans rfl, HS2_⟩ (fun hHeld => ?_)
             clear hK K
             refine norm_ (a' := ?_) ?_ ?_
             rotate_left
             ·
              show Act.put _ (some 60) _ = _
              simp only [Act.put, List.setIfInBounds_toArray, List.set_cons_zero, List.set_cons_succ, i64_w, i32_w]
              rfl
             refine two_ (i := 6) (j := 10) (Ni := some 61) (Nj := some 13) #[T_,T_,T_,T_,T_,T_,T_,F_,F_,F_,F_,F_,F_] #[T_,T_,T_,T_,T_,T_,F_,F_,F_,F_,T_,F_,F_] rfl rfl rfl rfl (two_of HT_.out (by kernel_rfl)) (by decide) (by decide) (fun K hK => ?_) (fun K hK => ?_)
             ·
              skip
              refine goes_ Try.func10 (by kernel_rfl) rfl #[.agg #[.slice Ao56 x216000_2.length co56, .int .i64 x216001_2], .slice Ao60 y232.length co60] (by rfl) rfl rfl (by (try simp only [List.map_toArray, List.map_cons, List.map_nil]); first | done | rfl | (simp only [List.length_drop, List.length_take]; rfl)) ?_
              with_reducible refine (wal_Append.calls _ _ x216000_2 x216001_2 _ _ y232 t235 t238 t239 _ ?side1 ?side2 ?side3 ?side4 A54.out).mono ?_
              (case side1 => repeat (first | exact (Kd.V_reads' HOq0.out).2.2 | (with_reducible refine Kd.C_alloc ?_ _) | (with_reducible refine Kd.C_drewN ?_ _) | (with_reducible refine Kd.C_drew ?_)))
              (case side2 => exact (Kd.V_reads' HOq0.out).2.1)
              (case side3 => repeat (first | exact (Kd.N_reads' HO234.out).2.2 | (with_reducible refine Kd.C_alloc ?_ _) | (with_reducible refine Kd.C_drewN ?_ _) | (with_reducible refine Kd.C_drew ?_)))
              (case side4 => exact (Kd.N_reads' HO234.out).2.1)
              rintro e w61 ⟨v236, rfl, ho0, hb⟩
              have HS2_ := (hb.cell (World.block_lt_of_cell? _ _ (hHeld.2.2))).trans (hHeld.2.2)
              refine ⟨_, rfl, ?_⟩
              have n0_ := aM (vB (vU HO_0.out) hb)
              have n1_ := aM (vB (vU HO_3.out) hb)
              have n2_ := aM (vB (vU HOq0.out) hb)
              have n3_ := aM (vB (vU HLq0.out) hb)
              have n4_ := aM (vB (vU HLq2.out) hb)
              have n5_ := aM (Kd.N_below (nU HO234.out) hb)
              have n6_ := aM (Kd.V_lower (Kd.V_mono (ok' := fun k_ => ((P0_ k_ ∨ P3_ k_) ∨ w.heap.size ≤ k_) ∧ some k_ ≠ (.slice Ao60 y232.length co60 : Value).ownBlock ∧ k_ ≠ gb215) ho0 (fun k_ hk_ => ⟨(.inr (Nat.le_trans (below_size (by repeat (first | (with_reducible first | exact HB.out | apply bA | apply bN | apply bD | refine bS ?_ GE215.out) | exact HB.out))) hk_)), (Kd.fresh' (Kd.N_lt (nU HO234.out)) k_ hk_), (Kd.freshB (g := gb215) (o := .cells #[.slice Ao56 x216000_2.length co56, .int .i64 x216001_2] 26 (0, 0)) (bU BK215.out) k_ hk_)⟩)) (below_size (by repeat (first | (with_reducible first | exact HB.out | apply bA | apply bN | apply bD | refine bS ?_ GE215.out) | exact HB.out))))
              have n7_ := aM (kB (g := gb215) (o := .cells #[.slice Ao56 x216000_2.length co56, .int .i64 x216001_2] 26 (0, 0)) (bU BK215.out) hb)
              have n8_ := aM (Kd.C_below (by repeat (first | (with_reducible exact HRq0.out) | (with_reducible refine Kd.C_alloc ?_ _) | (with_reducible refine Kd.C_drewN ?_ _) | (with_reducible refine Kd.C_drew ?_) | exact HRq0.out)) hb)
              have n9_ := aM (Kd.C_below (by repeat (first | (with_reducible exact HRq2.out) | (with_reducible refine Kd.C_alloc ?_ _) | (with_reducible refine Kd.C_drewN ?_ _) | (with_reducible refine Kd.C_drew ?_) | exact HRq2.out)) hb)
              have n10_ := aM (below_step (by repeat (first | (with_reducible first | exact HB.out | apply bA | apply bN | apply bD | refine bS ?_ GE215.out) | exact HB.out)) hb)
              clear HO_0
              clear HO_3
              clear HOq0
              clear HLq0
              clear HLq2
              clear HO234
              clear BK215
              clear HRq0
              clear HRq2
              clear HB
              have HO_0 := n0_
              have HO_3 := n1_
              have HOq0 := n2_
              have HLq0 := n3_
              have HLq2 := n4_
              have HO234 := n5_
              have HO237 := n6_
              have BK215 := n7_
              have HRq0 := n8_
              have HRq2 := n9_
              have HB := n10_
              clear n0_ n1_ n2_ n3_ n4_ n5_ n6_ n7_ n8_ n9_ n10_
              (try clear hb)
              (try clear hb2)
              (try clear hk)
              (try clear hi)
              (try clear ho0)
              refine hK.out _ _ ⟨(kC BK215.out 0).trans rfl, (kC BK215.out 1).trans rfl, HS2_⟩ (fun hHeld => ?_)
              clear hK K
              refine norm_ (a' := ?_) ?_ ?_
              rotate_left
              ·
               show Act.put _ (some 61) _ = _
               simp only [Act.put, List.setIfInBounds_toArray, List.set_cons_zero, List.set_cons_succ, i64_w, i32_w]
               rfl
              refine pure_ (i := 7) (N := some 54) (v := ?_) (a' := ?_) #[T_,T_,T_,T_,T_,T_,T_,T_,F_,F_,F_,F_,F_] rfl rfl (any_of HT_.out (by kernel_rfl)) (fun _ _ _ h => h) (Or.inl ⟨by rfl, ?_⟩) ?_ ?_
              rotate_left
              ·
               intro w'
               go_simp
               with_reducible rfl
              rotate_left
              ·
               simp only [Act.put, List.setIfInBounds_toArray, List.set_cons_zero, List.set_cons_succ, i64_w, i32_w]
               rfl
              refine pure_ (i := 8) (N := some 62) (v := ?_) (a' := ?_) #[T_,T_,T_,T_,T_,T_,T_,T_,T_,F_,F_,F_,F_] rfl rfl (any_of HT_.out (by kernel_rfl)) (fun _ _ _ h => h) (Or.inl ⟨by rfl, ?_⟩) ?_ ?_
              rotate_left
              ·
               intro w'
               go_simp
               with_reducible rfl
              rotate_left
              ·
               simp only [Act.put, List.setIfInBounds_toArray, List.set_cons_zero, List.set_cons_succ, i64_w, i32_w]
               rfl
              refine pure_ (i := 9) (N := some 63) (v := ?_) (a' := ?_) #[T_,T_,T_,T_,T_,T_,T_,T_,T_,T_,F_,F_,F_] rfl rfl (any_of HT_.out (by kernel_rfl)) (fun _ _ _ h => h) (Or.inl ⟨by rfl, ?_⟩) ?_ ?_
              rotate_left
              ·
               intro w'
               go_simp
               with_reducible rfl
              rotate_left
              ·
               simp only [Act.put, List.setIfInBounds_toArray, List.set_cons_zero, List.set_cons_succ, i64_w, i32_w]
               rfl
              refine one_ (i := 10) (N := some 13) #[T_,T_,T_,T_,T_,T_,T_,T_,T_,T_,T_,F_,F_] rfl rfl (one_of HT_.out (by kernel_rfl)) (by decide) (fun K hK => ?_)
              refine box_step ?hg (N := 13) ?hd (cs := #[.slice none 0 0, .int .i64 0]) (t := 26) ?hr ?_; (case hd => rfl); (case hg => rfl); (case hr => first | (go_simp; done) | (go_simp; rfl))
              intro gb240 hg w62 hbox hb
              have HS2_ := (hb.cell (World.block_lt_of_cell? _ _ (hHeld.2.2))).trans (hHeld.2.2)
              have n0_ := aM (vB (vE (vU HO_0.out) gb240 (Nat.le_of_eq hg.symm)) hb)
              have n1_ := aM (vB (vE (vU HO_3.out) gb240 (Nat.le_of_eq hg.symm)) hb)
              have n2_ := aM (vB (vE (vU HOq0.out) gb240 (Nat.le_of_eq hg.symm)) hb)
              have n3_ := aM (vB (vE (vU HLq0.out) gb240 (Nat.le_of_eq hg.symm)) hb)
              have n4_ := aM (vB (vE (vU HLq2.out) gb240 (Nat.le_of_eq hg.symm)) hb)
              have n5_ := aM (Kd.N_below (Kd.N_elderB (nU HO234.out) gb240 (Nat.le_of_eq hg.symm)) hb)
              have n6_ := aM (vB (vE (vU HO237.out) gb240 (Nat.le_of_eq hg.symm)) hb)
              have n7_ := aM (kB (g := gb215) (o := .cells #[.slice Ao56 x216000_2.length co56, .int .i64 x216001_2] 26 (0, 0)) (bU BK215.out) hb)
              have n8_ := aM (Kd.C_below (by repeat (first | (with_reducible exact HRq0.out) | (with_reducible refine Kd.C_alloc ?_ _) | (with_reducible refine Kd.C_drewN ?_ _) | (with_reducible refine Kd.C_drew ?_) | exact HRq0.out)) hb)
              have n9_ := aM (Kd.C_below (by repeat (first | (with_reducible exact HRq2.out) | (with_reducible refine Kd.C_alloc ?_ _) | (with_reducible refine Kd.C_drewN ?_ _) | (with_reducible refine Kd.C_drew ?_) | exact HRq2.out)) hb)
              have n10_ := aM (below_step (by repeat (first | (with_reducible first | exact HB.out | apply bA | apply bN | apply bD | refine bS ?_ GE215.out) | exact HB.out)) hb)
              have n11_ := aM (hbox)
              have n12_ := aM ((by rw [hg]; exact (below_size (by repeat (first | (with_reducible first | exact HB.out | apply bA | apply bN | apply bD | refine bS ?_ GE215.out) | exact HB.out))) : w.heap.size ≤ gb240))
              have n13_ := aM ((by rw [hg]; exact (below_size (by repeat (first | (with_reducible first | exact HB.out | apply bA | apply bN | apply bD | refine bS ?_ GE215.out) | exact HB.out))) : w.heap.size ≤ gb240))
              have n14_ := aM ((by rw [hg]; exact Nat.ne_of_lt (blk_lt (g := gb215) (o := .cells #[.slice Ao56 x216000_2.length co56, .int .i64 x216001_2] 26 (0, 0)) (bU BK215.out)) : gb215 ≠ gb240))
              have n15_ := aM ((by rw [hg]; exact Nat.ne_of_gt (blk_lt (g := gb215) (o := .cells #[.slice Ao56 x216000_2.length co56, .int .i64 x216001_2] 26 (0, 0)) (bU BK215.out)) : gb240 ≠ gb215))
              clear HO_0
              clear HO_3
              clear HOq0
              clear HLq0
              clear HLq2
              clear HO234
              clear HO237
              clear BK215
              clear HRq0
              clear HRq2
              clear HB
              have HO_0 := n0_
              have HO_3 := n1_
              have HOq0 := n2_
              have HLq0 := n3_
              have HLq2 := n4_
              have HO234 := n5_
              have HO237 := n6_
              have BK215 := n7_
              have HRq0 := n8_
              have HRq2 := n9_
              have HB := n10_
              have BK240 := n11_
              have GW240 := n12_
              have GE240 := n13_
              have NBq1 := n14_
              have NBq3 := n15_
              clear n0_ n1_ n2_ n3_ n4_ n5_ n6_ n7_ n8_ n9_ n10_ n11_ n12_ n13_ n14_ n15_
              clear hb hbox hg
              refine hK.out _ _ ⟨(kC BK215.out 0).trans rfl, (kC BK215.out 1).trans rfl, HS2_⟩ (fun hHeld => ?_)
              clear hK K
              refine norm_ (a' := ?_) ?_ ?_
              rotate_left
              ·
               show Act.put _ (some 13) _ = _
               simp only [Act.put, List.setIfInBounds_toArray, List.set_cons_zero, List.set_cons_succ, i64_w, i32_w]
               rfl
              exact norm_ (by simp only [putAll, Act.put, List.setIfInBounds_toArray, List.set_cons_zero, List.set_cons_succ]) (hCont (.slice Ao60 y232.length co60, v236, gb240) _ ⟨hHeld, (by (with_reducible repeat (first | apply Kd.V_alloc | apply Kd.V_drewN | apply Kd.V_drew)); exact Kd.V_mono HLq0.out (fun _ hk => ⟨hk.1.1.1, ⟨hk.1.2, ⟨hk.1.1.2, hk.2⟩⟩⟩)), (by (with_reducible repeat (first | apply Kd.V_alloc | apply Kd.V_drewN | apply Kd.V_drew)); exact Kd.V_mono HLq2.out (fun _ hk => ⟨hk.1.1.1, ⟨hk.1.2, ⟨hk.1.1.2, hk.2⟩⟩⟩)), (by (with_reducible repeat (first | apply Kd.N_alloc | apply Kd.N_drewN | apply Kd.N_drew)); exact Kd.N_mono HO234.out (fun _ hk => ⟨hk.1.1, ⟨hk.1.2, hk.2⟩⟩)), (by (with_reducible repeat (first | apply Kd.V_alloc | apply Kd.V_drewN | apply Kd.V_drew)); exact Kd.V_mono HO237.out (fun _ hk => ⟨hk.1.1, ⟨hk.1.2.1, ⟨hk.1.2.2, hk.2⟩⟩⟩)), (by (with_reducible repeat (first | apply Kd.V_alloc | apply Kd.V_drewN | apply Kd.V_drew)); exact Kd.V_mono HO_0.out (fun _ hk => ⟨hk.1.1.1, ⟨hk.1.2, ⟨hk.1.1.2, hk.2⟩⟩⟩)), (by (with_reducible repeat (first | apply Kd.V_alloc | apply Kd.V_drewN | apply Kd.V_drew)); exact Kd.V_mono HOq0.out (fun _ hk => ⟨hk.1.1.1, ⟨hk.1.2, ⟨hk.1.1.2, hk.2⟩⟩⟩)), (by (with_reducible repeat (first | apply Kd.V_alloc | apply Kd.V_drewN | apply Kd.V_drew)); exact Kd.V_mono HO_3.out (fun _ hk => ⟨hk.1.1.1, ⟨hk.1.2, ⟨hk.1.1.2, hk.2⟩⟩⟩)), (bU BK215.out), (bU BK240.out), GW240.out, GE240.out, NBq1.out, NBq3.out, (by repeat (first | (with_reducible first | exact HB.out | apply bA | apply bN | apply bD | refine bS ?_ GE215.out | refine bS ?_ GE240.out) | exact HB.out))⟩)
             ·
              skip
              refine box_step ?hg (N := 13) ?hd (cs := #[.slice none 0 0, .int .i64 0]) (t := 26) ?hr ?_; (case hd => rfl); (case hg => rfl); (case hr => first | (go_simp; done) | (go_simp; rfl))
              intro gb240 hg w60 hbox hb
              have HS2_ := (hb.cell (World.block_lt_of_cell? _ _ (hHeld.2.2))).trans (hHeld.2.2)
              have n0_ := aM (vB (vE (vU HO_0.out) gb240 (Nat.le_of_eq hg.symm)) hb)
              have n1_ := aM (vB (vE (vU HO_3.out) gb240 (Nat.le_of_eq hg.symm)) hb)
              have n2_ := aM (vB (vE (vU HOq0.out) gb240 (Nat.le_of_eq hg.symm)) hb)
              have n3_ := aM (vB (vE (vU HLq0.out) gb240 (Nat.le_of_eq hg.symm)) hb)
              have n4_ := aM (vB (vE (vU HLq2.out) gb240 (Nat.le_of_eq hg.symm)) hb)
              have n5_ := aM (Kd.N_below (Kd.N_elderB (nU HO234.out) gb240 (Nat.le_of_eq hg.symm)) hb)
              have n6_ := aM (kB (g := gb215) (o := .cells #[.slice Ao56 x216000_2.length co56, .int .i64 x216001_2] 26 (0, 0)) (bU BK215.out) hb)
              have n7_ := aM (Kd.C_below (by repeat (first | (with_reducible exact HRq0.out) | (with_reducible refine Kd.C_alloc ?_ _) | (with_reducible refine Kd.C_drewN ?_ _) | (with_reducible refine Kd.C_drew ?_) | exact HRq0.out)) hb)
              have n8_ := aM (Kd.C_below (by repeat (first | (with_reducible exact HRq2.out) | (with_reducible refine Kd.C_alloc ?_ _) | (with_reducible refine Kd.C_drewN ?_ _) | (with_reducible refine Kd.C_drew ?_) | exact HRq2.out)) hb)
              have n9_ := aM (below_step (by repeat (first | (with_reducible first | exact HB.out | apply bA | apply bN | apply bD | refine bS ?_ GE215.out) | exact HB.out)) hb)
              have n10_ := aM (hbox)
              have n11_ := aM ((by rw [hg]; exact (below_size (by repeat (first | (with_reducible first | exact HB.out | apply bA | apply bN | apply bD | refine bS ?_ GE215.out) | exact HB.out))) : w.heap.size ≤ gb240))
              have n12_ := aM ((by rw [hg]; exact (below_size (by repeat (first | (with_reducible first | exact HB.out | apply bA | apply bN | apply bD | refine bS ?_ GE215.out) | exact HB.out))) : w.heap.size ≤ gb240))
              have n13_ := aM ((by rw [hg]; exact Nat.ne_of_lt (blk_lt (g := gb215) (o := .cells #[.slice Ao56 x216000_2.length co56, .int .i64 x216001_2] 26 (0, 0)) (bU BK215.out)) : gb215 ≠ gb240))
              have n14_ := aM ((by rw [hg]; exact Nat.ne_of_gt (blk_lt (g := gb215) (o := .cells #[.slice Ao56 x216000_2.length co56, .int .i64 x216001_2] 26 (0, 0)) (bU BK215.out)) : gb240 ≠ gb215))
              clear HO_0
              clear HO_3
              clear HOq0
              clear HLq0
              clear HLq2
              clear HO234
              clear BK215
              clear HRq0
              clear HRq2
              clear HB
              have HO_0 := n0_
              have HO_3 := n1_
              have HOq0 := n2_
              have HLq0 := n3_
              have HLq2 := n4_
              have HO234 := n5_
              have BK215 := n6_
              have HRq0 := n7_
              have HRq2 := n8_
              have HB := n9_
              have BK240 := n10_
              have GW240 := n11_
              have GE240 := n12_
              have NBq1 := n13_
              have NBq3 := n14_
              clear n0_ n1_ n2_ n3_ n4_ n5_ n6_ n7_ n8_ n9_ n10_ n11_ n12_ n13_ n14_
              clear hb hbox hg
              obtain ⟨Ao61, co61, eo61⟩ := Kd.N_slice HO234.out
              (first | subst eo61 | (injection eo61 with f1_ f2_ f3_; have f4_ := f1_.symm; have f5_ := f3_.symm; clear f1_ f2_ f3_; subst f4_; subst f5_))
              refine hK.out _ _ ⟨(kC BK215.out 0).trans rfl, (kC BK215.out 1).trans rfl, HS2_⟩ (fun hHeld => ?_)
              clear hK K
              refine norm_ (a' := ?_) ?_ ?_
              rotate_left
              ·
               show Act.put _ (some 13) _ = _
               simp only [Act.put, List.setIfInBounds_toArray, List.set_cons_zero, List.set_cons_succ, i64_w, i32_w]
               rfl
              refine one_ (i := 6) (N := some 61) #[T_,T_,T_,T_,T_,T_,T_,F_,F_,F_,T_,F_,F_] rfl rfl (one_of HT_.out (by kernel_rfl)) (by decide) (fun K hK => ?_)
              refine goes_ Try.func10 (by kernel_rfl) rfl #[.agg #[.slice Ao56 x216000_2.length co56, .int .i64 x216001_2], .slice Ao61 y232.length co61] (by rfl) rfl rfl (by (try simp only [List.map_toArray, List.map_cons, List.map_nil]); first | done | rfl | (simp only [List.length_drop, List.length_take]; rfl)) ?_
              with_reducible refine (wal_Append.calls _ _ x216000_2 x216001_2 _ _ y232 t235 t238 t239 _ ?side1 ?side2 ?side3 ?side4 A54.out).mono ?_
              (case side1 => repeat (first | exact (Kd.V_reads' HOq0.out).2.2 | (with_reducible refine Kd.C_alloc ?_ _) | (with_reducible refine Kd.C_drewN ?_ _) | (with_reducible refine Kd.C_drew ?_)))
              (case side2 => exact (Kd.V_reads' HOq0.out).2.1)
              (case side3 => repeat (first | exact (Kd.N_reads' HO234.out).2.2 | (with_reducible refine Kd.C_alloc ?_ _) | (with_reducible refine Kd.C_drewN ?_ _) | (with_reducible refine Kd.C_drew ?_)))
              (case side4 => exact (Kd.N_reads' HO234.out).2.1)
              rintro e w62 ⟨v236, rfl, ho0, hb⟩
              have HS2_ := (hb.cell (World.block_lt_of_cell? _ _ (hHeld.2.2))).trans (hHeld.2.2)
              refine ⟨_, rfl, ?_⟩
              have n0_ := aM (vB (vU HO_0.out) hb)
              have n1_ := aM (vB (vU HO_3.out) hb)
              have n2_ := aM (vB (vU HOq0.out) hb)
              have n3_ := aM (vB (vU HLq0.out) hb)
              have n4_ := aM (vB (vU HLq2.out) hb)
              have n5_ := aM (Kd.N_below (nU HO234.out) hb)
              have n6_ := aM (Kd.V_lower (Kd.V_mono (ok' := fun k_ => ((P0_ k_ ∨ P3_ k_) ∨ w.heap.size ≤ k_) ∧ some k_ ≠ (.slice Ao61 y232.length co61 : Value).ownBlock ∧ k_ ≠ gb215 ∧ k_ ≠ gb240) ho0 (fun k_ hk_ => ⟨(.inr (Nat.le_trans (below_size (by repeat (first | (with_reducible first | exact HB.out | apply bA | apply bN | apply bD | refine bS ?_ GE215.out | refine bS ?_ GE240.out) | exact HB.out))) hk_)), (Kd.fresh' (Kd.N_lt (nU HO234.out)) k_ hk_), (Kd.freshB (g := gb215) (o := .cells #[.slice Ao56 x216000_2.length co56, .int .i64 x216001_2] 26 (0, 0)) (bU BK215.out) k_ hk_), (Kd.freshB (g := gb240) (o := .cells #[.slice none 0 0, .int .i64 0] 26 (0, 0)) (bU BK240.out) k_ hk_)⟩)) (below_size (by repeat (first | (with_reducible first | exact HB.out | apply bA | apply bN | apply bD | refine bS ?_ GE215.out | refine bS ?_ GE240.out) | exact HB.out))))
              have n7_ := aM (kB (g := gb215) (o := .cells #[.slice Ao56 x216000_2.length co56, .int .i64 x216001_2] 26 (0, 0)) (bU BK215.out) hb)
              have n8_ := aM (Kd.C_below (by repeat (first | (with_reducible exact HRq0.out) | (with_reducible refine Kd.C_alloc ?_ _) | (with_reducible refine Kd.C_drewN ?_ _) | (with_reducible refine Kd.C_drew ?_) | exact HRq0.out)) hb)
              have n9_ := aM (Kd.C_below (by repeat (first | (with_reducible exact HRq2.out) | (with_reducible refine Kd.C_alloc ?_ _) | (with_reducible refine Kd.C_drewN ?_ _) | (with_reducible refine Kd.C_drew ?_) | exact HRq2.out)) hb)
              have n10_ := aM (kB (g := gb240) (o := .cells #[.slice none 0 0, .int .i64 0] 26 (0, 0)) (bU BK240.out) hb)
              have n11_ := aM (below_step (by repeat (first | (with_reducible first | exact HB.out | apply bA | apply bN | apply bD | refine bS ?_ GE215.out | refine bS ?_ GE240.out) | exact HB.out)) hb)
              clear HO_0
              clear HO_3
              clear HOq0
              clear HLq0
              clear HLq2
              clear HO234
              clear BK215
              clear HRq0
              clear HRq2
              clear BK240
              clear HB
              have HO_0 := n0_
              have HO_3 := n1_
              have HOq0 := n2_
              have HLq0 := n3_
              have HLq2 := n4_
              have HO234 := n5_
              have HO237 := n6_
              have BK215 := n7_
              have HRq0 := n8_
              have HRq2 := n9_
              have BK240 := n10_
              have HB := n11_
              clear n0_ n1_ n2_ n3_ n4_ n5_ n6_ n7_ n8_ n9_ n10_ n11_
              (try clear hb)
              (try clear hb2)
              (try clear hk)
              (try clear hi)
              (try clear ho0)
              refine hK.out _ _ ⟨(kC BK215.out 0).trans rfl, (kC BK215.out 1).trans rfl, HS2_⟩ (fun hHeld => ?_)
              clear hK K
              refine norm_ (a' := ?_) ?_ ?_
              rotate_left
              ·
               show Act.put _ (some 61) _ = _
               simp only [Act.put, List.setIfInBounds_toArray, List.set_cons_zero, List.set_cons_succ, i64_w, i32_w]
               rfl
              refine pure_ (i := 7) (N := some 54) (v := ?_) (a' := ?_) #[T_,T_,T_,T_,T_,T_,T_,T_,F_,F_,T_,F_,F_] rfl rfl (any_of HT_.out (by kernel_rfl)) (fun _ _ _ h => h) (Or.inl ⟨by rfl, ?_⟩) ?_ ?_
              rotate_left
              ·
               intro w'
               go_simp
               with_reducible rfl
              rotate_left
              ·
               simp only [Act.put, List.setIfInBounds_toArray, List.set_cons_zero, List.set_cons_succ, i64_w, i32_w]
               rfl
              refine pure_ (i := 8) (N := some 62) (v := ?_) (a' := ?_) #[T_,T_,T_,T_,T_,T_,T_,T_,T_,F_,T_,F_,F_] rfl rfl (any_of HT_.out (by kernel_rfl)) (fun _ _ _ h => h) (Or.inl ⟨by rfl, ?_⟩) ?_ ?_
              rotate_left
              ·
               intro w'
               go_simp
               with_reducible rfl
              rotate_left
              ·
               simp only [Act.put, List.setIfInBounds_toArray, List.set_cons_zero, List.set_cons_succ, i64_w, i32_w]
               rfl
              refine pure_ (i := 9) (N := some 63) (v := ?_) (a' := ?_) #[T_,T_,T_,T_,T_,T_,T_,T_,T_,T_,T_,F_,F_] rfl rfl (any_of HT_.out (by kernel_rfl)) (fun _ _ _ h => h) (Or.inl ⟨by rfl, ?_⟩) ?_ ?_
              rotate_left
              ·
               intro w'
               go_simp
               with_reducible rfl
              rotate_left
              ·
               simp only [Act.put, List.setIfInBounds_toArray, List.set_cons_zero, List.set_cons_succ, i64_w, i32_w]
               rfl
              exact norm_ (by simp only [putAll, Act.put, List.setIfInBounds_toArray, List.set_cons_zero, List.set_cons_succ]) (hCont (.slice Ao61 y232.length co61, v236, gb240) _ ⟨hHeld, (by (with_reducible repeat (first | apply Kd.V_alloc | apply Kd.V_drewN | apply Kd.V_drew)); exact Kd.V_mono HLq0.out (fun _ hk => ⟨hk.1.1.1, ⟨hk.1.2, ⟨hk.1.1.2, hk.2⟩⟩⟩)), (by (with_reducible repeat (first | apply Kd.V_alloc | apply Kd.V_drewN | apply Kd.V_drew)); exact Kd.V_mono HLq2.out (fun _ hk => ⟨hk.1.1.1, ⟨hk.1.2, ⟨hk.1.1.2, hk.2⟩⟩⟩)), (by (with_reducible repeat (first | apply Kd.N_alloc | apply Kd.N_drewN | apply Kd.N_drew)); exact Kd.N_mono HO234.out (fun _ hk => ⟨hk.1.1, ⟨hk.1.2, hk.2⟩⟩)), (vU HO237.out), (by (with_reducible repeat (first | apply Kd.V_alloc | apply Kd.V_drewN | apply Kd.V_drew)); exact Kd.V_mono HO_0.out (fun _ hk => ⟨hk.1.1.1, ⟨hk.1.2, ⟨hk.1.1.2, hk.2⟩⟩⟩)), (by (with_reducible repeat (first | apply Kd.V_alloc | apply Kd.V_drewN | apply Kd.V_drew)); exact Kd.V_mono HOq0.out (fun _ hk => ⟨hk.1.1.1, ⟨hk.1.2, ⟨hk.1.1.2, hk.2⟩⟩⟩)), (by (with_reducible repeat (first | apply Kd.V_alloc | apply Kd.V_drewN | apply Kd.V_drew)); exact Kd.V_mono HO_3.out (fun _ hk => ⟨hk.1.1.1, ⟨hk.1.2, ⟨hk.1.1.2, hk.2⟩⟩⟩)), (bU BK215.out), (bU BK240.out), GW240.out, GE240.out, NBq1.out, NBq3.out, (by repeat (first | (with_reducible first | exact HB.out | apply bA | apply bN | apply bD | refine bS ?_ GE215.out | refine bS ?_ GE240.out) | exact HB.out))⟩)
            ·
             skip
             refine box_step ?hg (N := 13) ?hd (cs := #[.slice none 0 0, .int .i64 0]) (t := 26) ?hr ?_; (case hd => rfl); (case hg => rfl); (case hr => first | (go_simp; done) | (go_simp; rfl))
             intro gb240 hg w58 hbox hb
             have HS2_ := (hb.cell (World.block_lt_of_cell? _ _ (hHeld.2.2))).trans (hHeld.2.2)
             have n0_ := aM (vB (vE (vU HO_0.out) gb240 (Nat.le_of_eq hg.symm)) hb)
             have n1_ := aM (vB (vE (vU HO_3.out) gb240 (Nat.le_of_eq hg.symm)) hb)
             have n2_ := aM (vB (vE (vU HOq0.out) gb240 (Nat.le_of_eq hg.symm)) hb)
             have n3_ := aM (vB (vE (vU HLq0.out) gb240 (Nat.le_of_eq hg.symm)) hb)
             have n4_ := aM (vB (vE (vU HLq2.out) gb240 (Nat.le_of_eq hg.symm)) hb)
             have n5_ := aM (kB (g := gb215) (o := .cells #[.slice Ao56 x216000_2.length co56, .int .i64 x216001_2] 26 (0, 0)) (bU BK215.out) hb)
             have n6_ := aM (Kd.C_below (by repeat (first | (with_reducible exact HRq0.out) | (with_reducible refine Kd.C_alloc ?_ _) | (with_reducible refine Kd.C_drewN ?_ _) | (with_reducible refine Kd.C_drew ?_) | exact HRq0.out)) hb)
             have n7_ := aM (Kd.C_below (by repeat (first | (with_reducible exact HRq2.out) | (with_reducible refine Kd.C_alloc ?_ _) | (with_reducible refine Kd.C_drewN ?_ _) | (with_reducible refine Kd.C_drew ?_) | exact HRq2.out)) hb)
             have n8_ := aM (below_step (by repeat (first | (with_reducible first | exact HB.out | apply bA | apply bN | apply bD | refine bS ?_ GE215.out) | exact HB.out)) hb)
             have n9_ := aM (hbox)
             have n10_ := aM ((by rw [hg]; exact (below_size (by repeat (first | (with_reducible first | exact HB.out | apply bA | apply bN | apply bD | refine bS ?_ GE215.out) | exact HB.out))) : w.heap.size ≤ gb240))
             have n11_ := aM ((by rw [hg]; exact (below_size (by repeat (first | (with_reducible first | exact HB.out | apply bA | apply bN | apply bD | refine bS ?_ GE215.out) | exact HB.out))) : w.heap.size ≤ gb240))
             have n12_ := aM ((by rw [hg]; exact Nat.ne_of_lt (blk_lt (g := gb215) (o := .cells #[.slice Ao56 x216000_2.length co56, .int .i64 x216001_2] 26 (0, 0)) (bU BK215.out)) : gb215 ≠ gb240))
             have n13_ := aM ((by rw [hg]; exact Nat.ne_of_gt (blk_lt (g := gb215) (o := .cells #[.slice Ao56 x216000_2.length co56, .int .i64 x216001_2] 26 (0, 0)) (bU BK215.out)) : gb240 ≠ gb215))
             clear HO_0
             clear HO_3
             clear HOq0
             clear HLq0
             clear HLq2
             clear BK215
             clear HRq0
             clear HRq2
             clear HB
             have HO_0 := n0_
             have HO_3 := n1_
             have HOq0 := n2_
             have HLq0 := n3_
             have HLq2 := n4_
             have BK215 := n5_
             have HRq0 := n6_
             have HRq2 := n7_
             have HB := n8_
             have BK240 := n9_
             have GW240 := n10_
             have GE240 := n11_
             have NBq1 := n12_
             have NBq3 := n13_
             clear n0_ n1_ n2_ n3_ n4_ n5_ n6_ n7_ n8_ n9_ n10_ n11_ n12_ n13_
             clear hb hbox hg
             refine hK.out _ _ ⟨(kC BK215.out 0).trans rfl, (kC BK215.out 1).trans rfl, HS2_⟩ (fun hHeld => ?_)
             clear hK K
             refine norm_ (a' := ?_) ?_ ?_
             rotate_left
             ·
              show Act.put _ (some 13) _ = _
              simp only [Act.put, List.setIfInBounds_toArray, List.set_cons_zero, List.set_cons_succ, i64_w, i32_w]
              rfl
             refine one_ (i := 5) (N := some 60) #[T_,T_,T_,T_,T_,T_,F_,F_,F_,F_,T_,F_,F_] rfl rfl (one_of HT_.out (by kernel_rfl)) (by decide) (fun K hK => ?_)
             refine Kd.N_lit_step (Kd.slice 5 (Kd.int .u8)) _ 23 ?hg (N' := 60) ?hd (xs := ([rd_L1 l0 x12_2] : List (List Int))) (inner := [.slice A231_0 (rd_L1 l0 x12_2).length c231_0]) (ok := (fun k_ => ((P0_ k_ ∨ P3_ k_) ∨ w.heap.size ≤ k_) ∧ k_ ≠ gb215 ∧ k_ ≠ gb240)) (okp := (fun k_ => ((P0_ k_ ∨ P3_ k_) ∨ w.heap.size ≤ k_) ∧ k_ ≠ gb215 ∧ k_ ≠ gb240)) ?hr ?hp (fun _ hk => hk) ((show ∀ k_, w58.heap.size ≤ k_ → (fun k_ => ((P0_ k_ ∨ P3_ k_) ∨ w.heap.size ≤ k_) ∧ k_ ≠ gb215 ∧ k_ ≠ gb240) k_ from fun k_ hk => ⟨(.inr (Nat.le_trans (below_size (by repeat (first | (with_reducible first | exact HB.out | apply bA | apply bN | apply bD | refine bS ?_ GE215.out | refine bS ?_ GE240.out) | exact HB.out))) hk)), Kd.freshB (g := gb215) (o := .cells #[.slice Ao56 x216000_2.length co56, .int .i64 x216001_2] 26 (0, 0)) (bU BK215.out) k_ hk, Kd.freshB (g := gb240) (o := .cells #[.slice none 0 0, .int .i64 0] 26 (0, 0)) (bU BK240.out) k_ hk⟩) _ (Nat.le_refl _)) (Below.refl _ _) (Nat.le_refl _) (by simp) ?_; (case hd => rfl); (case hg => rfl); (case hr => first | (go_simp; done) | (go_simp; rfl)); (case hp => exact (Reps.one (show Kd.FK (Kd.slice 5 (Kd.int .u8)) _ _ (rd_L1 l0 x12_2) [.slice A231_0 (rd_L1 l0 x12_2).length c231_0] from (Kd.FK_slice_mk (Kd.V_reads' (Kd.V_mono (ok' := (fun k_ => ((P0_ k_ ∨ P3_ k_) ∨ w.heap.size ≤ k_) ∧ k_ ≠ gb215 ∧ k_ ≠ gb240)) (HLq2.out) (fun k_ hk => ⟨hk.1.1, ⟨hk.1.2, hk.2⟩⟩))).2.1 (Kd.V_F (Kd.V_mono (ok' := (fun k_ => ((P0_ k_ ∨ P3_ k_) ∨ w.heap.size ≤ k_) ∧ k_ ≠ gb215 ∧ k_ ≠ gb240)) (HLq2.out) (fun k_ hk => ⟨hk.1.1, ⟨hk.1.2, hk.2⟩⟩))))) (Reps.none _ _)))
             intro v233 w59 ho60 hb hg_ hnew_
             have HS2_ := (hb.cell (World.block_lt_of_cell? _ _ (hHeld.2.2))).trans (hHeld.2.2)
             clear hg_ hnew_
             (first | rw [← Ny232.out] at ho60 | (simp only [Int.reduceToNat] at ho60; rw [← Ny232.out] at ho60))
             have n0_ := aM (Kd.V_elder' (vU HO_0.out) (by first | exact Kd.N_base ho60 | exact Kd.S_base ho60 | exact Kd.R_base ho60) hb)
             have n1_ := aM (Kd.V_elder' (vU HO_3.out) (by first | exact Kd.N_base ho60 | exact Kd.S_base ho60 | exact Kd.R_base ho60) hb)
             have n2_ := aM (Kd.V_elder' (vU HOq0.out) (by first | exact Kd.N_base ho60 | exact Kd.S_base ho60 | exact Kd.R_base ho60) hb)
             have n3_ := aM (Kd.V_elder' (vU HLq0.out) (by first | exact Kd.N_base ho60 | exact Kd.S_base ho60 | exact Kd.R_base ho60) hb)
             have n4_ := aM (Kd.V_elder' (vU HLq2.out) (by first | exact Kd.N_base ho60 | exact Kd.S_base ho60 | exact Kd.R_base ho60) hb)
             have n5_ := aM (Kd.N_lower ho60 (below_size (by repeat (first | (with_reducible first | exact HB.out | apply bA | apply bN | apply bD | refine bS ?_ GE215.out | refine bS ?_ GE240.out) | exact HB.out))))
             have n6_ := aM (kB (g := gb215) (o := .cells #[.slice Ao56 x216000_2.length co56, .int .i64 x216001_2] 26 (0, 0)) (bU BK215.out) hb)
             have n7_ := aM (Kd.C_below (by repeat (first | (with_reducible exact HRq0.out) | (with_reducible refine Kd.C_alloc ?_ _) | (with_reducible refine Kd.C_drewN ?_ _) | (with_reducible refine Kd.C_drew ?_) | exact HRq0.out)) hb)
             have n8_ := aM (Kd.C_below (by repeat (first | (with_reducible exact HRq2.out) | (with_reducible refine Kd.C_alloc ?_ _) | (with_reducible refine Kd.C_drewN ?_ _) | (with_reducible refine Kd.C_drew ?_) | exact HRq2.out)) hb)
             have n9_ := aM (kB (g := gb240) (o := .cells #[.slice none 0 0, .int .i64 0] 26 (0, 0)) (bU BK240.out) hb)
             have n10_ := aM (below_step (by repeat (first | (with_reducible first | exact HB.out | apply bA | apply bN | apply bD | refine bS ?_ GE215.out | refine bS ?_ GE240.out) | exact HB.out)) hb)
             clear HO_0
             clear HO_3
             clear HOq0
             clear HLq0
             clear HLq2
             clear BK215
             clear HRq0
             clear HRq2
             clear BK240
             clear HB
             have HO_0 := n0_
             have HO_3 := n1_
             have HOq0 := n2_
             have HLq0 := n3_
             have HLq2 := n4_
             have HO234 := n5_
             have BK215 := n6_
             have HRq0 := n7_
             have HRq2 := n8_
             have BK240 := n9_
             have HB := n10_
             clear n0_ n1_ n2_ n3_ n4_ n5_ n6_ n7_ n8_ n9_ n10_
             clear hb ho60
             obtain ⟨Ao61, co61, eo61⟩ := Kd.N_slice HO234.out
             (first | subst eo61 | (injection eo61 with f1_ f2_ f3_; have f4_ := f1_.symm; have f5_ := f3_.symm; clear f1_ f2_ f3_; subst f4_; subst f5_))
             refine hK.out _ _ ⟨(kC BK215.out 0).trans rfl, (kC BK215.out 1).trans rfl, HS2_⟩ (fun hHeld => ?_)
             clear hK K
             refine norm_ (a' := ?_) ?_ ?_
             rotate_left
             ·
              show Act.put _ (some 60) _ = _
              simp only [Act.put, List.setIfInBounds_toArray, List.set_cons_zero, List.set_cons_succ, i64_w, i32_w]
              rfl
             refine one_ (i := 6) (N := some 61) #[T_,T_,T_,T_,T_,T_,T_,F_,F_,F_,T_,F_,F_] rfl rfl (one_of HT_.out (by kernel_rfl)) (by decide) (fun K hK => ?_)
             refine goes_ Try.func10 (by kernel_rfl) rfl #[.agg #[.slice Ao56 x216000_2.length co56, .int .i64 x216001_2], .slice Ao61 y232.length co61] (by rfl) rfl rfl (by (try simp only [List.map_toArray, List.map_cons, List.map_nil]); first | done | rfl | (simp only [List.length_drop, List.length_take]; rfl)) ?_
             with_reducible refine (wal_Append.calls _ _ x216000_2 x216001_2 _ _ y232 t235 t238 t239 _ ?side1 ?side2 ?side3 ?side4 A54.out).mono ?_
             (case side1 => repeat (first | exact (Kd.V_reads' HOq0.out).2.2 | (with_reducible refine Kd.C_alloc ?_ _) | (with_reducible refine Kd.C_drewN ?_ _) | (with_reducible refine Kd.C_drew ?_)))
             (case side2 => exact (Kd.V_reads' HOq0.out).2.1)
             (case side3 => repeat (first | exact (Kd.N_reads' HO234.out).2.2 | (with_reducible refine Kd.C_alloc ?_ _) | (with_reducible refine Kd.C_drewN ?_ _) | (with_reducible refine Kd.C_drew ?_)))
             (case side4 => exact (Kd.N_reads' HO234.out).2.1)
             rintro e w62 ⟨v236, rfl, ho0, hb⟩
             have HS2_ := (hb.cell (World.block_lt_of_cell? _ _ (hHeld.2.2))).trans (hHeld.2.2)
             refine ⟨_, rfl, ?_⟩
             have n0_ := aM (vB (vU HO_0.out) hb)
             have n1_ := aM (vB (vU HO_3.out) hb)
             have n2_ := aM (vB (vU HOq0.out) hb)
             have n3_ := aM (vB (vU HLq0.out) hb)
             have n4_ := aM (vB (vU HLq2.out) hb)
             have n5_ := aM (Kd.N_below (nU HO234.out) hb)
             have n6_ := aM (Kd.V_lower (Kd.V_mono (ok' := fun k_ => ((P0_ k_ ∨ P3_ k_) ∨ w.heap.size ≤ k_) ∧ some k_ ≠ (.slice Ao61 y232.length co61 : Value).ownBlock ∧ k_ ≠ gb215 ∧ k_ ≠ gb240) ho0 (fun k_ hk_ => ⟨(.inr (Nat.le_trans (below_size (by repeat (first | (with_reducible first | exact HB.out | apply bA | apply bN | apply bD | refine bS ?_ GE215.out | refine bS ?_ GE240.out) | exact HB.out))) hk_)), (Kd.fresh' (Kd.N_lt (nU HO234.out)) k_ hk_), (Kd.freshB (g := gb215) (o := .cells #[.slice Ao56 x216000_2.length co56, .int .i64 x216001_2] 26 (0, 0)) (bU BK215.out) k_ hk_), (Kd.freshB (g := gb240) (o := .cells #[.slice none 0 0, .int .i64 0] 26 (0, 0)) (bU BK240.out) k_ hk_)⟩)) (below_size (by repeat (first | (with_reducible first | exact HB.out | apply bA | apply bN | apply bD | refine bS ?_ GE215.out | refine bS ?_ GE240.out) | exact HB.out))))
             have n7_ := aM (kB (g := gb215) (o := .cells #[.slice Ao56 x216000_2.length co56, .int .i64 x216001_2] 26 (0, 0)) (bU BK215.out) hb)
             have n8_ := aM (Kd.C_below (by repeat (first | (with_reducible exact HRq0.out) | (with_reducible refine Kd.C_alloc ?_ _) | (with_reducible refine Kd.C_drewN ?_ _) | (with_reducible refine Kd.C_drew ?_) | exact HRq0.out)) hb)
             have n9_ := aM (Kd.C_below (by repeat (first | (with_reducible exact HRq2.out) | (with_reducible refine Kd.C_alloc ?_ _) | (with_reducible refine Kd.C_drewN ?_ _) | (with_reducible refine Kd.C_drew ?_) | exact HRq2.out)) hb)
             have n10_ := aM (kB (g := gb240) (o := .cells #[.slice none 0 0, .int .i64 0] 26 (0, 0)) (bU BK240.out) hb)
             have n11_ := aM (below_step (by repeat (first | (with_reducible first | exact HB.out | apply bA | apply bN | apply bD | refine bS ?_ GE215.out | refine bS ?_ GE240.out) | exact HB.out)) hb)
             clear HO_0
             clear HO_3
             clear HOq0
             clear HLq0
             clear HLq2
             clear HO234
             clear BK215
             clear HRq0
             clear HRq2
             clear BK240
             clear HB
             have HO_0 := n0_
             have HO_3 := n1_
             have HOq0 := n2_
             have HLq0 := n3_
             have HLq2 := n4_
             have HO234 := n5_
             have HO237 := n6_
             have BK215 := n7_
             have HRq0 := n8_
             have HRq2 := n9_
             have BK240 := n10_
             have HB := n11_
             clear n0_ n1_ n2_ n3_ n4_ n5_ n6_ n7_ n8_ n9_ n10_ n11_
             (try clear hb)
             (try clear hb2)
             (try clear hk)
             (try clear hi)
             (try clear ho0)
             refine hK.out _ _ ⟨(kC BK215.out 0).trans rfl, (kC BK215.out 1).trans rfl, HS2_⟩ (fun hHeld => ?_)
             clear hK K
             refine norm_ (a' := ?_) ?_ ?_
             rotate_left
             ·
              show Act.put _ (some 61) _ = _
              simp only [Act.put, List.setIfInBounds_toArray, List.set_cons_zero, List.set_cons_succ, i64_w, i32_w]
              rfl
             refine pure_ (i := 7) (N := some 54) (v := ?_) (a' := ?_) #[T_,T_,T_,T_,T_,T_,T_,T_,F_,F_,T_,F_,F_] rfl rfl (any_of HT_.out (by kernel_rfl)) (fun _ _ _ h => h) (Or.inl ⟨by rfl, ?_⟩) ?_ ?_
             rotate_left
             ·
              intro w'
              go_simp
              with_reducible rfl
             rotate_left
             ·
              simp only [Act.put, List.setIfInBounds_toArray, List.set_cons_zero, List.set_cons_succ, i64_w, i32_w]
              rfl
             refine pure_ (i := 8) (N := some 62) (v := ?_) (a' := ?_) #[T_,T_,T_,T_,T_,T_,T_,T_,T_,F_,T_,F_,F_] rfl rfl (any_of HT_.out (by kernel_rfl)) (fun _ _ _ h => h) (Or.inl ⟨by rfl, ?_⟩) ?_ ?_
             rotate_left
             ·
              intro w'
              go_simp
              with_reducible rfl
             rotate_left
             ·
              simp only [Act.put, List.setIfInBounds_toArray, List.set_cons_zero, List.set_cons_succ, i64_w, i32_w]
              rfl
             refine pure_ (i := 9) (N := some 63) (v := ?_) (a' := ?_) #[T_,T_,T_,T_,T_,T_,T_,T_,T_,T_,T_,F_,F_] rfl rfl (any_of HT_.out (by kernel_rfl)) (fun _ _ _ h => h) (Or.inl ⟨by rfl, ?_⟩) ?_ ?_
             rotate_left
             ·
              intro w'
              go_simp
              with_reducible rfl
             rotate_left
             ·
              simp only [Act.put, List.setIfInBounds_toArray, List.set_cons_zero, List.set_cons_succ, i64_w, i32_w]
              rfl
             exact norm_ (by simp only [putAll, Act.put, List.setIfInBounds_toArray, List.set_cons_zero, List.set_cons_succ]) (hCont (.slice Ao61 y232.length co61, v236, gb240) _ ⟨hHeld, (by (with_reducible repeat (first | apply Kd.V_alloc | apply Kd.V_drewN | apply Kd.V_drew)); exact Kd.V_mono HLq0.out (fun _ hk => ⟨hk.1.1.1, ⟨hk.2, ⟨hk.1.1.2, hk.1.2⟩⟩⟩)), (by (with_reducible repeat (first | apply Kd.V_alloc | apply Kd.V_drewN | apply Kd.V_drew)); exact Kd.V_mono HLq2.out (fun _ hk => ⟨hk.1.1.1, ⟨hk.2, ⟨hk.1.1.2, hk.1.2⟩⟩⟩)), (nU HO234.out), (vU HO237.out), (by (with_reducible repeat (first | apply Kd.V_alloc | apply Kd.V_drewN | apply Kd.V_drew)); exact Kd.V_mono HO_0.out (fun _ hk => ⟨hk.1.1.1, ⟨hk.2, ⟨hk.1.1.2, hk.1.2⟩⟩⟩)), (by (with_reducible repeat (first | apply Kd.V_alloc | apply Kd.V_drewN | apply Kd.V_drew)); exact Kd.V_mono HOq0.out (fun _ hk => ⟨hk.1.1.1, ⟨hk.2, ⟨hk.1.1.2, hk.1.2⟩⟩⟩)), (by (with_reducible repeat (first | apply Kd.V_alloc | apply Kd.V_drewN | apply Kd.V_drew)); exact Kd.V_mono HO_3.out (fun _ hk => ⟨hk.1.1.1, ⟨hk.2, ⟨hk.1.1.2, hk.1.2⟩⟩⟩)), (bU BK215.out), (bU BK240.out), GW240.out, GE240.out, NBq1.out, NBq3.out, (by repeat (first | (with_reducible first | exact HB.out | apply bA | apply bN | apply bD | refine bS ?_ GE215.out | refine bS ?_ GE240.out) | exact HB.out))⟩)
           rintro ⟨v233, v236, gb240⟩ w63 ⟨hS_, h0_, h1_, h2_, h3_, h4_, h5_, h6_, h7_, h8_, h9_, h10_, h11_, h12_, h13_⟩
           have n0_ : Aside0 (Kd.V (Kd.int .u8) 5 w63 w.heap.size (fun k_ => ((P0_ k_ ∨ P3_ k_) ∨ w.heap.size ≤ k_) ∧ some k_ ≠ (v233 : Value).ownBlock ∧ k_ ≠ gb215 ∧ k_ ≠ gb240) (.slice A216_0 (rd_L1 l0 x12_2).length c216_0) (rd_L1 l0 x12_2)) := ⟨h0_⟩
           have n1_ : Aside0 (Kd.V (Kd.int .u8) 5 w63 w.heap.size (fun k_ => ((P0_ k_ ∨ P3_ k_) ∨ w.heap.size ≤ k_) ∧ some k_ ≠ (v233 : Value).ownBlock ∧ k_ ≠ gb215 ∧ k_ ≠ gb240) (.slice A231_0 (rd_L1 l0 x12_2).length c231_0) (rd_L1 l0 x12_2)) := ⟨h1_⟩
           have n2_ : Aside0 (Kd.N (Kd.slice 5 (Kd.int .u8)) 23 w63 w.heap.size (fun k_ => ((P0_ k_ ∨ P3_ k_) ∨ w.heap.size ≤ k_) ∧ k_ ≠ gb215 ∧ k_ ≠ gb240) v233 y232) := ⟨h2_⟩
           have n3_ : Aside0 (Kd.V (Kd.int .u8) 5 w63 w.heap.size (fun k_ => ((P0_ k_ ∨ P3_ k_) ∨ w.heap.size ≤ k_) ∧ some k_ ≠ (v233 : Value).ownBlock ∧ k_ ≠ gb215 ∧ k_ ≠ gb240) v236 t235) := ⟨h3_⟩
           have n4_ : Aside0 (Kd.V (Kd.slice 5 (Kd.int .u8)) 23 w63 w.heap.size (fun k_ => ((P0_ k_ ∨ P3_ k_) ∨ w.heap.size ≤ k_) ∧ some k_ ≠ (v233 : Value).ownBlock ∧ k_ ≠ gb215 ∧ k_ ≠ gb240) (.slice (some ad216) l0.length c0) l0) := ⟨h4_⟩
           have n5_ : Aside0 (Kd.V (Kd.int .u8) 5 w63 w.heap.size (fun k_ => ((P0_ k_ ∨ P3_ k_) ∨ w.heap.size ≤ k_) ∧ some k_ ≠ (v233 : Value).ownBlock ∧ k_ ≠ gb215 ∧ k_ ≠ gb240) (.slice Ao56 x216000_2.length co56) x216000_2) := ⟨h5_⟩
           have n6_ : Aside0 (Kd.V (Kd.int .u8) 5 w63 w.heap.size (fun k_ => ((P0_ k_ ∨ P3_ k_) ∨ w.heap.size ≤ k_) ∧ some k_ ≠ (v233 : Value).ownBlock ∧ k_ ≠ gb215 ∧ k_ ≠ gb240) (.slice A3 l3.length c3) l3) := ⟨h6_⟩
           have n7_ : Aside0 (w63.heap[gb215]? = some (.cells #[.slice Ao56 x216000_2.length co56, .int .i64 x216001_2] 26 (0, 0))) := ⟨h7_⟩
           have n8_ : Aside0 (w63.heap[gb240]? = some (.cells #[.slice none 0 0, .int .i64 0] 26 (0, 0))) := ⟨h8_⟩
           have n9_ : Aside0 (w.heap.size ≤ gb240) := ⟨h9_⟩
           have n10_ : Aside0 (w.heap.size ≤ gb240) := ⟨h10_⟩
           have n11_ : Aside0 (gb215 ≠ gb240) := ⟨h11_⟩
           have n12_ : Aside0 (gb240 ≠ gb215) := ⟨h12_⟩
           have n13_ : Aside0 (Below w.heap.size w w63) := ⟨h13_⟩
           clear HO_0
           clear HO_3
           clear HOq0
           clear HLq0
           clear BK215
           clear HRq0
           clear HB
           clear h0_ h1_ h2_ h3_ h4_ h5_ h6_ h7_ h8_ h9_ h10_ h11_ h12_ h13_
           have HLq0 := n0_
           have HLq2 := n1_
           have HO234 := n2_
           have HO237 := n3_
           have HO_0 := n4_
           have HOq0 := n5_
           have HO_3 := n6_
           have BK215 := n7_
           have BK240 := n8_
           have GW240 := n9_
           have GE240 := n10_
           have NBq1 := n11_
           have NBq3 := n12_
           have HB := n13_
           clear n0_ n1_ n2_ n3_ n4_ n5_ n6_ n7_ n8_ n9_ n10_ n11_ n12_ n13_
           have hHeld : w63.cell? ⟨gb215, 0, none⟩ = some (.slice Ao56 x216000_2.length co56) ∧ w63.cell? ⟨gb215, 1, none⟩ = some (.int .i64 x216001_2) ∧ w63.cell? (ad216.add (x12_2).toNat) = some (.slice A231_0 (rd_L1 l0 x12_2).length c231_0) := hS_
           obtain ⟨Ao64, co64, eo64⟩ := Kd.V_slice HO237.out
           (first | subst eo64 | (injection eo64 with f1_ f2_ f3_; have f4_ := f1_.symm; have f5_ := f3_.symm; clear f1_ f2_ f3_; subst f4_; subst f5_))
           refine norm_ (a' := ?_) ?_ ?_
           rotate_left
           ·
            simp only [putAll, Act.put, List.setIfInBounds_toArray, List.set_cons_zero, List.set_cons_succ]
            rfl
           refine one_ (i := 11) (N := none) #[T_,T_,T_,T_,T_,T_,T_,T_,T_,T_,T_,T_,F_] rfl rfl (one_of HT_.out (by kernel_rfl)) (by decide) (fun K hK => ?_)
           have hs65 : w63.cell? ⟨gb240, 0, none⟩ = some (.slice none 0 0) := (kC BK240.out 0).trans rfl
           have hfs65 := kF BK240.out 0
           have hns65_0 := NBq1.out
           have hms65_0 := NBq3.out
           have hs66 : w63.cell? ⟨gb240, 1, none⟩ = some (.int .i64 0) := (kC BK240.out 1).trans rfl
           have hfs66 := kF BK240.out 1
           have hns66_0 := NBq1.out
           have hms66_0 := NBq3.out
           refine skip_ (w1 := ?_) (by rfl) rfl ?_ ?_
           rotate_left
           ·
            go_simp
            rfl
           refine hK.out _ _ ⟨((cell_far (p := ⟨gb240, _, none⟩) NBq1.out _).trans (((cell_far (p := ⟨gb240, _, none⟩) NBq1.out _).trans (hHeld.1)))), ((cell_far (p := ⟨gb240, _, none⟩) NBq1.out _).trans (((cell_far (p := ⟨gb240, _, none⟩) NBq1.out _).trans (hHeld.2.1)))), ((cell_far (p := ⟨gb240, _, none⟩) (by first | exact V_off HO_0.out (by have p_ := of_eq_true p231; have q_ := of_eq_true q231; omega) (by first | exact Nat.zero_lt_one | decide) (fun _ hk => hk.2.2.2) | (rw [add_block]; exact V_off HO_0.out (by have p_ := of_eq_true p231; have q_ := of_eq_true q231; omega) (by first | exact Nat.zero_lt_one | decide) (fun _ hk => hk.2.2.2)) | (show (Addr.add _ _).block ≠ _; rw [add_block]; exact V_off HO_0.out (by have p_ := of_eq_true p231; have q_ := of_eq_true q231; omega) (by first | exact Nat.zero_lt_one | decide) (fun _ hk => hk.2.2.2)) | (dsimp only; exact V_off HO_0.out (by have p_ := of_eq_true p231; have q_ := of_eq_true q231; omega) (by first | exact Nat.zero_lt_one | decide) (fun _ hk => hk.2.2.2))) _).trans (((cell_far (p := ⟨gb240, _, none⟩) (by first | exact V_off HO_0.out (by have p_ := of_eq_true p231; have q_ := of_eq_true q231; omega) (by first | exact Nat.zero_lt_one | decide) (fun _ hk => hk.2.2.2) | (rw [add_block]; exact V_off HO_0.out (by have p_ := of_eq_true p231; have q_ := of_eq_true q231; omega) (by first | exact Nat.zero_lt_one | decide) (fun _ hk => hk.2.2.2)) | (show (Addr.add _ _).block ≠ _; rw [add_block]; exact V_off HO_0.out (by have p_ := of_eq_true p231; have q_ := of_eq_true q231; omega) (by first | exact Nat.zero_lt_one | decide) (fun _ hk => hk.2.2.2)) | (dsimp only; exact V_off HO_0.out (by have p_ := of_eq_true p231; have q_ := of_eq_true q231; omega) (by first | exact Nat.zero_lt_one | decide) (fun _ hk => hk.2.2.2))) _).trans (hHeld.2.2))))⟩ (fun hHeld => ?_)
           clear hK K
           refine pure_ (i := 12) (N := some 14) (v := ?_) (a' := ?_) #[T_,T_,T_,T_,T_,T_,T_,T_,T_,T_,T_,T_,T_] rfl rfl (any_of HT_.out (by kernel_rfl)) (fun _ _ _ h => h) (Or.inl ⟨by rfl, ?_⟩) ?_ ?_
           rotate_left
           ·
            intro w'
            go_simp
            with_reducible rfl
           rotate_left
           ·
            simp only [Act.put, List.setIfInBounds_toArray, List.set_cons_zero, List.set_cons_succ, i64_w, i32_w]
            rfl
           refine done_ (done_of HT_.out (by kernel_rfl)) ?_
           have hnb67 := NBq3.out
           have hnc67 := NBq1.out
           have hcz68_0 : w63.cell? ⟨gb240, 0, none⟩ = some (.slice none 0 0) := (kC BK240.out 0).trans rfl
           have hcz68_1 : w63.cell? ⟨gb240, 1, none⟩ = some (.int .i64 0) := (kC BK240.out 1).trans rfl
           have hfz68_0 := kF BK240.out 0
           have hfz68_1 := kF BK240.out 1
           have hcz69_0 : w63.cell? ⟨gb215, 0, none⟩ = some (.slice Ao56 x216000_2.length co56) := (kC BK215.out 0).trans rfl
           have hcz69_1 : w63.cell? ⟨gb215, 1, none⟩ = some (.int .i64 x216001_2) := (kC BK215.out 1).trans rfl
           have hfz69_0 := kF BK215.out 0
           have hfz69_1 := kF BK215.out 1
           try go_wp2
           go_roundg k2
           case measure => have := HJ5.out; have := HK2.out; omega
           case rel => exact ⟨(wrap64 (x12_2 + 1)), (t235), (t238), (.slice Ao64 t235.length co64), (by first | rfl | (simp; done) | (simp [*]; done)), H', ⟨by have := HJ5.out; have := HK2.out; omega⟩, ⟨by (with_reducible repeat (first | apply Kd.V_alloc | apply Kd.V_drewN | apply Kd.V_drew)); exact Kd.V_mono (Kd.V_far (p := ⟨gb215, 1, none⟩) (Kd.V_far (p := ⟨gb215, 0, none⟩) (Kd.V_far (p := ⟨gb240, 1, none⟩) (Kd.V_far (p := ⟨gb240, 0, none⟩) (Kd.V_mono (Kd.V_mono HO_0.out (fun k_ hk => (⟨hk, hk.2.2.2⟩ : _ ∧ k_ ≠ gb240))) (fun k_ hk => (⟨hk, hk.1.2.2.1⟩ : _ ∧ k_ ≠ gb215))) (fun _ hk => hk.1.2) (.slice Ao64 t235.length co64)) (fun _ hk => hk.1.2) (.int .i64 t238)) (fun _ hk => hk.2) (.slice Ao64 t235.length co64)) (fun _ hk => hk.2) (.int .i64 t238)) (fun _ hk => by first | exact ⟨hk.1.1.1, hk.1.1.2.2.1⟩ | (simp only [own_lenA] at hk ⊢; exact ⟨hk.1.1.1, hk.1.1.2.2.1⟩))⟩, ⟨by (with_reducible repeat (first | apply Kd.V_alloc | apply Kd.V_drewN | apply Kd.V_drew)); exact Kd.V_mono (Kd.V_far (p := ⟨gb215, 1, none⟩) (Kd.V_far (p := ⟨gb215, 0, none⟩) (Kd.V_far (p := ⟨gb240, 1, none⟩) (Kd.V_far (p := ⟨gb240, 0, none⟩) (Kd.V_mono (Kd.V_mono HO_3.out (fun k_ hk => (⟨hk, hk.2.2.2⟩ : _ ∧ k_ ≠ gb240))) (fun k_ hk => (⟨hk, hk.1.2.2.1⟩ : _ ∧ k_ ≠ gb215))) (fun _ hk => hk.1.2) (.slice Ao64 t235.length co64)) (fun _ hk => hk.1.2) (.int .i64 t238)) (fun _ hk => hk.2) (.slice Ao64 t235.length co64)) (fun _ hk => hk.2) (.int .i64 t238)) (fun _ hk => by first | exact ⟨hk.1.1.1, hk.1.1.2.2.1⟩ | (simp only [own_lenA] at hk ⊢; exact ⟨hk.1.1.1, hk.1.1.2.2.1⟩))⟩, ⟨by (with_reducible repeat (first | apply Kd.V_alloc | apply Kd.V_drewN | apply Kd.V_drew)); exact Kd.V_mono (Kd.V_far (p := ⟨gb215, 1, none⟩) (Kd.V_far (p := ⟨gb215, 0, none⟩) (Kd.V_far (p := ⟨gb240, 1, none⟩) (Kd.V_far (p := ⟨gb240, 0, none⟩) (Kd.V_mono (Kd.V_mono HO237.out (fun k_ hk => (⟨hk, hk.2.2.2⟩ : _ ∧ k_ ≠ gb240))) (fun k_ hk => (⟨hk, hk.1.2.2.1⟩ : _ ∧ k_ ≠ gb215))) (fun _ hk => hk.1.2) (.slice Ao64 t235.length co64)) (fun _ hk => hk.1.2) (.int .i64 t238)) (fun _ hk => hk.2) (.slice Ao64 t235.length co64)) (fun _ hk => hk.2) (.int .i64 t238)) (fun _ hk => by first | exact ⟨hk.1.1.1, hk.1.1.2.2.1⟩ | (simp only [own_lenA] at hk ⊢; exact ⟨hk.1.1.1, hk.1.1.2.2.1⟩))⟩, ⟨by (with_reducible repeat (first | refine blk_drewN ?_ _ | refine blk_drew ?_ | refine blk_alloc ?_ _)); refine blk_put (cs := #[.slice Ao64 t235.length co64, .int .i64 x216001_2]) ?_ 1 _ rfl; (with_reducible repeat (first | refine blk_drewN ?_ _ | refine blk_drew ?_ | refine blk_alloc ?_ _)); refine blk_put (cs := #[.slice Ao56 x216000_2.length co56, .int .i64 x216001_2]) ?_ 0 _ rfl; (with_reducible repeat (first | refine blk_drewN ?_ _ | refine blk_drew ?_ | refine blk_alloc ?_ _)); refine blk_far ?_ NBq1.out _; (with_reducible repeat (first | refine blk_drewN ?_ _ | refine blk_drew ?_ | refine blk_alloc ?_ _)); refine blk_far ?_ NBq1.out _; (with_reducible repeat (first | refine blk_drewN ?_ _ | refine blk_drew ?_ | refine blk_alloc ?_ _)); exact BK215.out⟩, ⟨by repeat (first | (with_reducible first | exact HB.out | apply bA | apply bN | apply bD | refine bS ?_ GE215.out | refine bS ?_ GE240.out) | exact HB.out)⟩⟩
          ·
           rw [if_neg c55] at H
           rw [HTr_] at H
           exact absurd (Option.some.inj H) (by decide)
       ·
        rw [if_neg c13] at H
        exact absurd H (by simp)
      ·
       rw [if_neg c12] at H
       have c12b0 : decide (x12_2 < (l0.length : Int)) = false := decide_eq_false c12
       clear c12
       have HC81 := aM H
       clear H
       go_upto_if 70 with (fail)
       go_cut [10] (fun v10 wc => ∃ (kq : Nat) (x10_80 : Int) (x216000_80 : List Int) (x216001_80 : Int) (u216000 : Value), v10 = .int .i64 x10_80 ∧ Aside0 (banksmanlaw04_WalCrashes.j2 kq l0 a2 l3 t214 x10_80 x216000_80 x216001_80 = some r) ∧ Aside0 (kq ≤ k2) ∧ Aside0 (Kd.V (Kd.slice 5 (Kd.int .u8)) 23 wc w.heap.size (fun k_ => ((P0_ k_ ∨ P3_ k_) ∨ w.heap.size ≤ k_) ∧ k_ ≠ gb215) (.slice A0 l0.length c0) l0) ∧ Aside0 (Kd.V (Kd.int .u8) 5 wc w.heap.size (fun k_ => ((P0_ k_ ∨ P3_ k_) ∨ w.heap.size ≤ k_) ∧ k_ ≠ gb215) (.slice A3 l3.length c3) l3) ∧ Aside0 (Kd.V (Kd.int .u8) 5 wc w.heap.size (fun k_ => ((P0_ k_ ∨ P3_ k_) ∨ w.heap.size ≤ k_) ∧ k_ ≠ gb215) u216000 x216000_80) ∧ Aside0 (wc.heap[gb215]? = some (.cells #[u216000, .int .i64 x216001_80] 26 (0, 0))) ∧ Aside0 (Below w.heap.size w wc))
       case first =>
        have H := HC81.out
        clear HC81
        by_cases c82 : (Int.tmod (wrap64 (a1)) 21) ≥ (l0.length : Int)
        ·
         rw [if_pos c82] at H
         have c82b0 : decide ((l0.length : Int) ≤ (Int.tmod (wrap64 (a1)) 21)) = true := decide_eq_true c82
         clear c82
         (first | rw [c82b0] | (simp only [i64_w, i32_w]; rw [c82b0]) | skip)
         replace H := Option.bind_eq_some_iff.mp H
         obtain ⟨⟨t241, t244⟩, A830, H⟩ := H
         replace H : (banksmanlaw04_WalCrashes.j2 k2 l0 a2 l3 t214 (l0.length : Int) t241 t244) = some r := H
         have A83 := aM A830
         clear A830
         have H' := aM H
         clear H
         have hcz84_0 : wr.cell? ⟨gb215, 0, none⟩ = some (u216000) := (kC BK215.out 0).trans rfl
         have hcz84_1 : wr.cell? ⟨gb215, 1, none⟩ = some (.int .i64 x216001_2) := (kC BK215.out 1).trans rfl
         have hfz84_0 := kF BK215.out 0
         have hfz84_1 := kF BK215.out 1
         obtain ⟨Ao85, co85, eo85⟩ := Kd.V_slice HOq0.out
         subst eo85
         go_wp2_with (first | ((with_reducible refine gate_callee (f := 9) rfl ?_); refine goesL_ (some 72) rfl rfl Try.func9 (by kernel_rfl) rfl #[.agg #[.slice Ao85 x216000_2.length co85, .int .i64 x216001_2]] rfl (by (try simp only [List.map_toArray, List.map_cons, List.map_nil]); first | done | rfl | (simp only [List.length_drop, List.length_take]; rfl)) ?_; (with_reducible refine (wal_Sync.calls _ _ x216000_2 x216001_2 t241 t244 _ ?side1 ?side2 A83.out).mono ?_); (case side1 => repeat (first | exact (Kd.V_reads' HOq0.out).2.2 | (with_reducible refine Kd.C_alloc ?_ _) | (with_reducible refine Kd.C_drewN ?_ _) | (with_reducible refine Kd.C_drew ?_))); (case side2 => exact (Kd.V_reads' HOq0.out).2.1); rintro e w86 ⟨v242, rfl, ho0, hb⟩; refine ⟨_, rfl, ?_⟩; replace HO_0 := aM (vB (vU HO_0.out) hb); replace HO_3 := aM (vB (vU HO_3.out) hb); replace HOq0 := aM (vB (vU HOq0.out) hb); have HO243 := aM (Kd.V_lower (Kd.V_mono (ok' := fun k_ => ((P0_ k_ ∨ P3_ k_) ∨ w.heap.size ≤ k_) ∧ k_ ≠ gb215) ho0 (fun k_ hk_ => ⟨(.inr (Nat.le_trans (below_size (by repeat (first | (with_reducible first | exact HB.out | apply bA | apply bN | apply bD | refine bS ?_ GE215.out) | exact HB.out))) hk_)), (Kd.freshB (g := gb215) (o := .cells #[.slice Ao85 x216000_2.length co85, .int .i64 x216001_2] 26 (0, 0)) (bU BK215.out) k_ hk_)⟩)) (below_size (by repeat (first | (with_reducible first | exact HB.out | apply bA | apply bN | apply bD | refine bS ?_ GE215.out) | exact HB.out)))); replace BK215 := aM (kB (g := gb215) (o := .cells #[.slice Ao85 x216000_2.length co85, .int .i64 x216001_2] 26 (0, 0)) (bU BK215.out) hb); replace HB := aM (below_step (by repeat (first | (with_reducible first | exact HB.out | apply bA | apply bN | apply bD | refine bS ?_ GE215.out) | exact HB.out)) hb); (try clear hb); (try clear hk); obtain ⟨Ao87, co87, eo87⟩ := Kd.V_slice HO243.out; subst eo87; have hcz88_0 : w86.cell? ⟨gb215, 0, none⟩ = some (.slice Ao85 x216000_2.length co85) := (kC BK215.out 0).trans rfl; have hcz88_1 : w86.cell? ⟨gb215, 1, none⟩ = some (.int .i64 x216001_2) := (kC BK215.out 1).trans rfl; have hfz88_0 := kF BK215.out 0; have hfz88_1 := kF BK215.out 1))
         go_meet
         case rel => exact ⟨_, ((l0.length : Int)), (t241), (t244), (.slice Ao87 t241.length co87), (by first | rfl | (simp; done) | (simp [*]; done)), H', ⟨by have := HJ5.out; have := HK2.out; first | omega | exact Nat.le_refl _⟩, ⟨by (with_reducible repeat (first | apply Kd.V_alloc | apply Kd.V_drewN | apply Kd.V_drew)); exact Kd.V_mono (Kd.V_far (p := ⟨gb215, 1, none⟩) (Kd.V_far (p := ⟨gb215, 0, none⟩) (Kd.V_mono HO_0.out (fun k_ hk => (⟨hk, hk.2⟩ : _ ∧ k_ ≠ gb215))) (fun _ hk => hk.2) (.slice Ao87 t241.length co87)) (fun _ hk => hk.2) (.int .i64 t244)) (fun _ hk => by first | exact ⟨hk.1.1, hk.1.2⟩ | (simp only [own_lenA] at hk ⊢; exact ⟨hk.1.1, hk.1.2⟩))⟩, ⟨by (with_reducible repeat (first | apply Kd.V_alloc | apply Kd.V_drewN | apply Kd.V_drew)); exact Kd.V_mono (Kd.V_far (p := ⟨gb215, 1, none⟩) (Kd.V_far (p := ⟨gb215, 0, none⟩) (Kd.V_mono HO_3.out (fun k_ hk => (⟨hk, hk.2⟩ : _ ∧ k_ ≠ gb215))) (fun _ hk => hk.2) (.slice Ao87 t241.length co87)) (fun _ hk => hk.2) (.int .i64 t244)) (fun _ hk => by first | exact ⟨hk.1.1, hk.1.2⟩ | (simp only [own_lenA] at hk ⊢; exact ⟨hk.1.1, hk.1.2⟩))⟩, ⟨by (with_reducible repeat (first | apply Kd.V_alloc | apply Kd.V_drewN | apply Kd.V_drew)); exact Kd.V_mono (Kd.V_far (p := ⟨gb215, 1, none⟩) (Kd.V_far (p := ⟨gb215, 0, none⟩) (Kd.V_mono HO243.out (fun k_ hk => (⟨hk, hk.2⟩ : _ ∧ k_ ≠ gb215))) (fun _ hk => hk.2) (.slice Ao87 t241.length co87)) (fun _ hk => hk.2) (.int .i64 t244)) (fun _ hk => by first | exact ⟨hk.1.1, hk.1.2⟩ | (simp only [own_lenA] at hk ⊢; exact ⟨hk.1.1, hk.1.2⟩))⟩, ⟨by (with_reducible repeat (first | refine blk_drewN ?_ _ | refine blk_drew ?_ | refine blk_alloc ?_ _)); refine blk_put (cs := #[.slice Ao87 t241.length co87, .int .i64 x216001_2]) ?_ 1 _ rfl; (with_reducible repeat (first | refine blk_drewN ?_ _ | refine blk_drew ?_ | refine blk_alloc ?_ _)); refine blk_put (cs := #[.slice Ao85 x216000_2.length co85, .int .i64 x216001_2]) ?_ 0 _ rfl; (with_reducible repeat (first | refine blk_drewN ?_ _ | refine blk_drew ?_ | refine blk_alloc ?_ _)); exact BK215.out⟩, ⟨by repeat (first | (with_reducible first | exact HB.out | apply bA | apply bN | apply bD | refine bS ?_ GE215.out) | exact HB.out)⟩⟩
        ·
         rw [if_neg c82] at H
         have c82b0 : decide ((l0.length : Int) ≤ (Int.tmod (wrap64 (a1)) 21)) = false := decide_eq_false c82
         clear c82
         (first | rw [c82b0] | (simp only [i64_w, i32_w]; rw [c82b0]) | skip)
         have H' := aM H
         clear H
         go_wp2
         go_meet
         case rel => exact ⟨_, ((Int.tmod (wrap64 (a1)) 21)), (x216000_2), (x216001_2), (u216000), (by first | rfl | (simp; done) | (simp [*]; done)), H', ⟨by have := HJ5.out; have := HK2.out; first | omega | exact Nat.le_refl _⟩, ⟨by (with_reducible repeat (first | apply Kd.V_alloc | apply Kd.V_drewN | apply Kd.V_drew)); exact HO_0.out⟩, ⟨by (with_reducible repeat (first | apply Kd.V_alloc | apply Kd.V_drewN | apply Kd.V_drew)); exact HO_3.out⟩, ⟨by (with_reducible repeat (first | apply Kd.V_alloc | apply Kd.V_drewN | apply Kd.V_drew)); exact HOq0.out⟩, ⟨by (with_reducible repeat (first | refine blk_drewN ?_ _ | refine blk_drew ?_ | refine blk_alloc ?_ _)); exact BK215.out⟩, ⟨by repeat (first | (with_reducible first | exact HB.out | apply bA | apply bN | apply bD | refine bS ?_ GE215.out) | exact HB.out)⟩⟩
       case rest =>
        clear HC81
        try clear c1
        try clear c2
        try clear p2
        try clear c3
        try clear p6
        try clear c8
        try clear c9
        try clear c10
        try clear c12
        try clear c12b0
        try clear c13
        try clear c21
        try clear c23
        try clear p64
        try clear c82
        try clear c82b0
        try clear hcz84_0
        try clear hcz84_1
        try clear hcz88_0
        try clear hcz88_1
        try clear hfz84_0
        try clear hfz84_1
        try clear hfz88_0
        try clear hfz88_1
        obtain ⟨kq, x10_80, x216000_80, x216001_80, u216000, rfl, HA, HJ80, HO_0, HO_3, HOq0, BK215, HB⟩ := hcut
        cases kq with
        | zero => exact absurd HA.out (by simp [banksmanlaw04_WalCrashes.j2])
        | succ kj80 =>
         have H := HA.out
         clear HA
         simp only [banksmanlaw04_WalCrashes.j2] at H
         replace H := Option.bind_eq_some_iff.mp H
         obtain ⟨⟨t245, t248⟩, A890, H⟩ := H
         replace H : ((wal_Trim.f t245 t248).bind fun bt249 => ((wal_Texts.f bt249.1 bt249.2).bind fun t254 => (if (t254.length : Int) < x10_80 then (banksmanlaw04_WalCrashes.j3 kj80 l0 a2 l3 t214 t254 true bt249.1 bt249.2) else (banksmanlaw04_WalCrashes.j3 kj80 l0 a2 l3 t214 t254 (decide ((t254.length : Int) > (l0.length : Int))) bt249.1 bt249.2)))) = some r := H
         have A89 := aM A890
         clear A890
         replace H := Option.bind_eq_some_iff.mp H
         obtain ⟨⟨t249, t252⟩, A900, H⟩ := H
         replace H : ((wal_Texts.f t249 t252).bind fun t254 => (if (t254.length : Int) < x10_80 then (banksmanlaw04_WalCrashes.j3 kj80 l0 a2 l3 t214 t254 true t249 t252) else (banksmanlaw04_WalCrashes.j3 kj80 l0 a2 l3 t214 t254 (decide ((t254.length : Int) > (l0.length : Int))) t249 t252))) = some r := H
         have A90 := aM A900
         clear A900
         replace H := Option.bind_eq_some_iff.mp H
         obtain ⟨t254, A910, H⟩ := H
         replace H : (if (t254.length : Int) < x10_80 then (banksmanlaw04_WalCrashes.j3 kj80 l0 a2 l3 t214 t254 true t249 t252) else (banksmanlaw04_WalCrashes.j3 kj80 l0 a2 l3 t214 t254 (decide ((t254.length : Int) > (l0.length : Int))) t249 t252)) = some r := H
         have A91 := aM A910
         clear A910
         have HC92 := aM H
         clear H
         have hcz93_0 : wc.cell? ⟨gb215, 0, none⟩ = some (u216000) := (kC BK215.out 0).trans rfl
         have hcz93_1 : wc.cell? ⟨gb215, 1, none⟩ = some (.int .i64 x216001_80) := (kC BK215.out 1).trans rfl
         have hfz93_0 := kF BK215.out 0
         have hfz93_1 := kF BK215.out 1
         obtain ⟨Ao94, co94, eo94⟩ := Kd.V_slice HOq0.out
         subst eo94
         go_upto_region 22 with (first | ((with_reducible refine gate_callee (f := 12) rfl ?_); refine goesL_ (some 77) rfl rfl Try.func12 (by kernel_rfl) rfl #[.agg #[.slice Ao94 x216000_80.length co94, .int .i64 x216001_80], .int .i64 a2] rfl (by (try simp only [List.map_toArray, List.map_cons, List.map_nil]); first | done | rfl | (simp only [List.length_drop, List.length_take]; rfl)) ?_; (with_reducible refine (wal_Crash.calls _ _ x216000_80 x216001_80 a2 t245 t248 _ ?side1 ?side2 A89.out).mono ?_); (case side1 => repeat (first | exact (Kd.V_reads' HOq0.out).2.2 | (with_reducible refine Kd.C_alloc ?_ _) | (with_reducible refine Kd.C_drewN ?_ _) | (with_reducible refine Kd.C_drew ?_))); (case side2 => exact (Kd.V_reads' HOq0.out).2.1); rintro e w95 ⟨v246, rfl, ho0, hb⟩; refine ⟨_, rfl, ?_⟩; replace HO_0 := aM (vB (vU HO_0.out) hb); replace HO_3 := aM (vB (vU HO_3.out) hb); replace HOq0 := aM (vB (vU HOq0.out) hb); have HO247 := aM (Kd.V_lower (Kd.V_mono (ok' := fun k_ => ((P0_ k_ ∨ P3_ k_) ∨ w.heap.size ≤ k_) ∧ k_ ≠ gb215) ho0 (fun k_ hk_ => ⟨(.inr (Nat.le_trans (below_size (by repeat (first | (with_reducible first | exact HB.out | apply bA | apply bN | apply bD | refine bS ?_ GE215.out) | exact HB.out))) hk_)), (Kd.freshB (g := gb215) (o := .cells #[.slice Ao94 x216000_80.length co94, .int .i64 x216001_80] 26 (0, 0)) (bU BK215.out) k_ hk_)⟩)) (below_size (by repeat (first | (with_reducible first | exact HB.out | apply bA | apply bN | apply bD | refine bS ?_ GE215.out) | exact HB.out)))); replace BK215 := aM (kB (g := gb215) (o := .cells #[.slice Ao94 x216000_80.length co94, .int .i64 x216001_80] 26 (0, 0)) (bU BK215.out) hb); replace HB := aM (below_step (by repeat (first | (with_reducible first | exact HB.out | apply bA | apply bN | apply bD | refine bS ?_ GE215.out) | exact HB.out)) hb); (try clear hb); (try clear hk); obtain ⟨Ao96, co96, eo96⟩ := Kd.V_slice HO247.out; subst eo96) | ((with_reducible refine gate_callee (f := 11) rfl ?_); refine goesL_ (some 78) rfl rfl Try.func11 (by kernel_rfl) rfl #[.agg #[.slice Ao96 t245.length co96, .int .i64 t248]] rfl (by (try simp only [List.map_toArray, List.map_cons, List.map_nil]); first | done | rfl | (simp only [List.length_drop, List.length_take]; rfl)) ?_; (with_reducible refine (wal_Trim.calls _ _ t245 t248 t249 t252 _ ?side1 ?side2 A90.out).mono ?_); (case side1 => repeat (first | exact (Kd.V_reads' HO247.out).2.2 | (with_reducible refine Kd.C_alloc ?_ _) | (with_reducible refine Kd.C_drewN ?_ _) | (with_reducible refine Kd.C_drew ?_))); (case side2 => exact (Kd.V_reads' HO247.out).2.1); rintro e w97 ⟨v250, rfl, ho0, hb⟩; refine ⟨_, rfl, ?_⟩; replace HO_0 := aM (vB (vU HO_0.out) hb); replace HO_3 := aM (vB (vU HO_3.out) hb); replace HOq0 := aM (vB (vU HOq0.out) hb); replace HO247 := aM (vB (vU HO247.out) hb); have HO251 := aM (Kd.V_lower (Kd.V_mono (ok' := fun k_ => ((P0_ k_ ∨ P3_ k_) ∨ w.heap.size ≤ k_) ∧ k_ ≠ gb215) ho0 (fun k_ hk_ => ⟨(.inr (Nat.le_trans (below_size (by repeat (first | (with_reducible first | exact HB.out | apply bA | apply bN | apply bD | refine bS ?_ GE215.out) | exact HB.out))) hk_)), (Kd.freshB (g := gb215) (o := .cells #[.slice Ao94 x216000_80.length co94, .int .i64 x216001_80] 26 (0, 0)) (bU BK215.out) k_ hk_)⟩)) (below_size (by repeat (first | (with_reducible first | exact HB.out | apply bA | apply bN | apply bD | refine bS ?_ GE215.out) | exact HB.out)))); replace BK215 := aM (kB (g := gb215) (o := .cells #[.slice Ao94 x216000_80.length co94, .int .i64 x216001_80] 26 (0, 0)) (bU BK215.out) hb); replace HB := aM (below_step (by repeat (first | (with_reducible first | exact HB.out | apply bA | apply bN | apply bD | refine bS ?_ GE215.out) | exact HB.out)) hb); (try clear hb); (try clear hk)) | ((with_reducible refine gate_dst (N := 15) rfl ?_); (try (refine gate_guard (by rfl) ?_; dsimp only)); refine box_event ?hg (N := 15) ?hd (cs := #[.slice none 0 0, .int .i64 0]) (t := 26) ?hr ?_; (case hd => rfl); (case hg => rfl); (case hr => first | (go_simp; done) | (go_simp; rfl)); intro gb253 hg w98 hbox hb; replace HO_0 := aM (vB (vE (vU HO_0.out) gb253 (Nat.le_of_eq hg.symm)) hb); replace HO_3 := aM (vB (vE (vU HO_3.out) gb253 (Nat.le_of_eq hg.symm)) hb); replace HOq0 := aM (vB (vE (vU HOq0.out) gb253 (Nat.le_of_eq hg.symm)) hb); replace HO247 := aM (vB (vE (vU HO247.out) gb253 (Nat.le_of_eq hg.symm)) hb); replace HO251 := aM (vB (vE (vU HO251.out) gb253 (Nat.le_of_eq hg.symm)) hb); have BK253 := aM (hbox); have GW253 := aM ((by rw [hg]; exact (below_size (by repeat (first | (with_reducible first | exact HB.out | apply bA | apply bN | apply bD | refine bS ?_ GE215.out) | exact HB.out))) : w.heap.size ≤ gb253)); have GE253 := aM ((by rw [hg]; exact (below_size (by repeat (first | (with_reducible first | exact HB.out | apply bA | apply bN | apply bD | refine bS ?_ GE215.out) | exact HB.out))) : w.heap.size ≤ gb253)); replace HB := aM (below_step (by repeat (first | (with_reducible first | exact HB.out | apply bA | apply bN | apply bD | refine bS ?_ GE215.out) | exact HB.out)) hb); have NBq4 := aM ((by rw [hg]; exact Nat.ne_of_lt (blk_lt (g := gb215) (o := .cells #[.slice Ao94 x216000_80.length co94, .int .i64 x216001_80] 26 (0, 0)) (bU BK215.out)) : gb215 ≠ gb253)); have NBq7 := aM ((by rw [hg]; exact Nat.ne_of_gt (blk_lt (g := gb215) (o := .cells #[.slice Ao94 x216000_80.length co94, .int .i64 x216001_80] 26 (0, 0)) (bU BK215.out)) : gb253 ≠ gb215)); replace BK215 := aM (kB (g := gb215) (o := .cells #[.slice Ao94 x216000_80.length co94, .int .i64 x216001_80] 26 (0, 0)) (bU BK215.out) hb); clear hb hbox hg; obtain ⟨Ao99, co99, eo99⟩ := Kd.V_slice HO251.out; subst eo99; have hnb100 := NBq7.out; have hnc100 := NBq4.out; have hcz101_0 : w98.cell? ⟨gb253, 0, none⟩ = some (.slice none 0 0) := (kC BK253.out 0).trans rfl; have hcz101_1 : w98.cell? ⟨gb253, 1, none⟩ = some (.int .i64 0) := (kC BK253.out 1).trans rfl; have hfz101_0 := kF BK253.out 0; have hfz101_1 := kF BK253.out 1) | ((with_reducible refine gate_callee (f := 13) rfl ?_); refine goesL_ (some 80) rfl rfl Try.func13 (by kernel_rfl) rfl #[.agg #[.slice Ao99 t249.length co99, .int .i64 t252]] rfl (by (try simp only [List.map_toArray, List.map_cons, List.map_nil]); first | done | rfl | (simp only [List.length_drop, List.length_take]; rfl)) ?_; (with_reducible refine (wal_Texts.calls _ _ t249 t252 t254 _ ?side1 ?side2 A91.out).mono ?_); (case side1 => refine (Kd.V_reads' (e := 5) (base := w.heap.size) (ok := fun k_ => ((((P0_ k_ ∨ P3_ k_) ∨ w.heap.size ≤ k_) ∧ k_ ≠ gb215) ∧ k_ ≠ gb253)) (n := t249.length) (c := co99) ?_).2.2; exact (by (with_reducible repeat (first | apply Kd.V_alloc | apply Kd.V_drewN | apply Kd.V_drew)); exact (Kd.V_mono (Kd.V_far (p := ⟨gb253, 1, none⟩) (Kd.V_far (p := ⟨gb253, 0, none⟩) (Kd.V_mono HO251.out (fun k_ hk => (⟨hk, hk.2⟩ : _ ∧ k_ ≠ gb253))) (fun _ hk => hk.2) (.slice Ao99 t249.length co99)) (fun _ hk => hk.2) (.int .i64 t252)) (fun _ h_ => h_.1)))); (case side2 => exact (Kd.V_reads' HO251.out).2.1); rintro e w102 ⟨v255, rfl, ho0, hb⟩; refine ⟨_, rfl, ?_⟩; replace HO_0 := aM (Kd.V_elder' (by (with_reducible repeat (first | apply Kd.V_alloc | apply Kd.V_drewN | apply Kd.V_drew)); exact (Kd.V_mono (Kd.V_far (p := ⟨gb253, 1, none⟩) (Kd.V_far (p := ⟨gb253, 0, none⟩) (Kd.V_mono HO_0.out (fun k_ hk => (⟨hk, hk.2⟩ : _ ∧ k_ ≠ gb253))) (fun _ hk => hk.2) (.slice Ao99 t249.length co99)) (fun _ hk => hk.2) (.int .i64 t252)) (fun _ h_ => h_.1))) (by first | exact Kd.N_base ho0 | exact Kd.S_base ho0 | exact Kd.R_base ho0) hb); replace HO_3 := aM (Kd.V_elder' (by (with_reducible repeat (first | apply Kd.V_alloc | apply Kd.V_drewN | apply Kd.V_drew)); exact (Kd.V_mono (Kd.V_far (p := ⟨gb253, 1, none⟩) (Kd.V_far (p := ⟨gb253, 0, none⟩) (Kd.V_mono HO_3.out (fun k_ hk => (⟨hk, hk.2⟩ : _ ∧ k_ ≠ gb253))) (fun _ hk => hk.2) (.slice Ao99 t249.length co99)) (fun _ hk => hk.2) (.int .i64 t252)) (fun _ h_ => h_.1))) (by first | exact Kd.N_base ho0 | exact Kd.S_base ho0 | exact Kd.R_base ho0) hb); replace HOq0 := aM (Kd.V_elder' (by (with_reducible repeat (first | apply Kd.V_alloc | apply Kd.V_drewN | apply Kd.V_drew)); exact (Kd.V_mono (Kd.V_far (p := ⟨gb253, 1, none⟩) (Kd.V_far (p := ⟨gb253, 0, none⟩) (Kd.V_mono HOq0.out (fun k_ hk => (⟨hk, hk.2⟩ : _ ∧ k_ ≠ gb253))) (fun _ hk => hk.2) (.slice Ao99 t249.length co99)) (fun _ hk => hk.2) (.int .i64 t252)) (fun _ h_ => h_.1))) (by first | exact Kd.N_base ho0 | exact Kd.S_base ho0 | exact Kd.R_base ho0) hb); replace HO247 := aM (Kd.V_elder' (by (with_reducible repeat (first | apply Kd.V_alloc | apply Kd.V_drewN | apply Kd.V_drew)); exact (Kd.V_mono (Kd.V_far (p := ⟨gb253, 1, none⟩) (Kd.V_far (p := ⟨gb253, 0, none⟩) (Kd.V_mono HO247.out (fun k_ hk => (⟨hk, hk.2⟩ : _ ∧ k_ ≠ gb253))) (fun _ hk => hk.2) (.slice Ao99 t249.length co99)) (fun _ hk => hk.2) (.int .i64 t252)) (fun _ h_ => h_.1))) (by first | exact Kd.N_base ho0 | exact Kd.S_base ho0 | exact Kd.R_base ho0) hb); replace HO251 := aM (Kd.V_elder' (by (with_reducible repeat (first | apply Kd.V_alloc | apply Kd.V_drewN | apply Kd.V_drew)); exact (Kd.V_mono (Kd.V_far (p := ⟨gb253, 1, none⟩) (Kd.V_far (p := ⟨gb253, 0, none⟩) (Kd.V_mono HO251.out (fun k_ hk => (⟨hk, hk.2⟩ : _ ∧ k_ ≠ gb253))) (fun _ hk => hk.2) (.slice Ao99 t249.length co99)) (fun _ hk => hk.2) (.int .i64 t252)) (fun _ h_ => h_.1))) (by first | exact Kd.N_base ho0 | exact Kd.S_base ho0 | exact Kd.R_base ho0) hb); have HO256 := aM (Kd.N_lower (Kd.N_mono (ok' := fun k_ => ((P0_ k_ ∨ P3_ k_) ∨ w.heap.size ≤ k_) ∧ k_ ≠ gb215 ∧ k_ ≠ gb253) ho0 (fun k_ hk_ => ⟨(.inr (Nat.le_trans (below_size (by repeat (first | (with_reducible first | exact HB.out | apply bA | apply bN | apply bD | refine bS ?_ GE215.out | refine bS ?_ GE253.out) | exact HB.out))) hk_)), (Kd.freshB (g := gb215) (o := .cells #[.slice Ao94 x216000_80.length co94, .int .i64 x216001_80] 26 (0, 0)) (by (with_reducible repeat (first | refine blk_drewN ?_ _ | refine blk_drew ?_ | refine blk_alloc ?_ _)); refine blk_far ?_ NBq4.out _; (with_reducible repeat (first | refine blk_drewN ?_ _ | refine blk_drew ?_ | refine blk_alloc ?_ _)); refine blk_far ?_ NBq4.out _; (with_reducible repeat (first | refine blk_drewN ?_ _ | refine blk_drew ?_ | refine blk_alloc ?_ _)); exact BK215.out) k_ hk_), (Kd.freshB (g := gb253) (o := .cells #[.slice Ao99 t249.length co99, .int .i64 t252] 26 (0, 0)) (by (with_reducible repeat (first | refine blk_drewN ?_ _ | refine blk_drew ?_ | refine blk_alloc ?_ _)); refine blk_put (cs := #[.slice Ao99 t249.length co99, .int .i64 0]) ?_ 1 _ rfl; (with_reducible repeat (first | refine blk_drewN ?_ _ | refine blk_drew ?_ | refine blk_alloc ?_ _)); refine blk_put (cs := #[.slice none 0 0, .int .i64 0]) ?_ 0 _ rfl; (with_reducible repeat (first | refine blk_drewN ?_ _ | refine blk_drew ?_ | refine blk_alloc ?_ _)); exact BK253.out) k_ hk_)⟩)) (below_size (by repeat (first | (with_reducible first | exact HB.out | apply bA | apply bN | apply bD | refine bS ?_ GE215.out | refine bS ?_ GE253.out) | exact HB.out)))); replace BK215 := aM (kB (g := gb215) (o := .cells #[.slice Ao94 x216000_80.length co94, .int .i64 x216001_80] 26 (0, 0)) (by (with_reducible repeat (first | refine blk_drewN ?_ _ | refine blk_drew ?_ | refine blk_alloc ?_ _)); refine blk_far ?_ NBq4.out _; (with_reducible repeat (first | refine blk_drewN ?_ _ | refine blk_drew ?_ | refine blk_alloc ?_ _)); refine blk_far ?_ NBq4.out _; (with_reducible repeat (first | refine blk_drewN ?_ _ | refine blk_drew ?_ | refine blk_alloc ?_ _)); exact BK215.out) hb); replace BK253 := aM (kB (g := gb253) (o := .cells #[.slice Ao99 t249.length co99, .int .i64 t252] 26 (0, 0)) (by (with_reducible repeat (first | refine blk_drewN ?_ _ | refine blk_drew ?_ | refine blk_alloc ?_ _)); refine blk_put (cs := #[.slice Ao99 t249.length co99, .int .i64 0]) ?_ 1 _ rfl; (with_reducible repeat (first | refine blk_drewN ?_ _ | refine blk_drew ?_ | refine blk_alloc ?_ _)); refine blk_put (cs := #[.slice none 0 0, .int .i64 0]) ?_ 0 _ rfl; (with_reducible repeat (first | refine blk_drewN ?_ _ | refine blk_drew ?_ | refine blk_alloc ?_ _)); exact BK253.out) hb); replace HB := aM (below_step (by repeat (first | (with_reducible first | exact HB.out | apply bA | apply bN | apply bD | refine bS ?_ GE215.out | refine bS ?_ GE253.out) | exact HB.out)) hb); (try clear hb); (try clear hk)))
         (try simp only [Act.put, List.setIfInBounds_toArray, List.set_cons_zero, List.set_cons_succ])
         go_cut [91] (fun v91 wc => ∃ (kq : Nat) (x91_91 : Bool), v91 = .bool x91_91 ∧ Aside0 (banksmanlaw04_WalCrashes.j3 kq l0 a2 l3 t214 t254 x91_91 t249 t252 = some r) ∧ Aside0 (kq ≤ kj80) ∧ Aside0 (Kd.V (Kd.slice 5 (Kd.int .u8)) 23 wc w.heap.size (fun k_ => ((P0_ k_ ∨ P3_ k_) ∨ w.heap.size ≤ k_) ∧ some k_ ≠ (v255 : Value).ownBlock ∧ k_ ≠ gb215 ∧ k_ ≠ gb253) (.slice A0 l0.length c0) l0) ∧ Aside0 (Kd.V (Kd.int .u8) 5 wc w.heap.size (fun k_ => ((P0_ k_ ∨ P3_ k_) ∨ w.heap.size ≤ k_) ∧ some k_ ≠ (v255 : Value).ownBlock ∧ k_ ≠ gb215 ∧ k_ ≠ gb253) (.slice A3 l3.length c3) l3) ∧ Aside0 (Kd.N (Kd.slice 5 (Kd.int .u8)) 23 wc w.heap.size (fun k_ => ((P0_ k_ ∨ P3_ k_) ∨ w.heap.size ≤ k_) ∧ k_ ≠ gb215 ∧ k_ ≠ gb253) v255 t254) ∧ Aside0 (Kd.V (Kd.int .u8) 5 wc w.heap.size (fun k_ => ((P0_ k_ ∨ P3_ k_) ∨ w.heap.size ≤ k_) ∧ some k_ ≠ (v255 : Value).ownBlock ∧ k_ ≠ gb215 ∧ k_ ≠ gb253) (.slice Ao94 x216000_80.length co94) x216000_80) ∧ Aside0 (Kd.V (Kd.int .u8) 5 wc w.heap.size (fun k_ => ((P0_ k_ ∨ P3_ k_) ∨ w.heap.size ≤ k_) ∧ some k_ ≠ (v255 : Value).ownBlock ∧ k_ ≠ gb215 ∧ k_ ≠ gb253) (.slice Ao99 t249.length co99) t249) ∧ Aside0 (wc.heap[gb215]? = some (.cells #[(.slice Ao94 x216000_80.length co94), .int .i64 x216001_80] 26 (0, 0))) ∧ Aside0 (wc.heap[gb253]? = some (.cells #[(.slice Ao99 t249.length co99), .int .i64 t252] 26 (0, 0))) ∧ Aside0 (Below w.heap.size w wc))
         case first =>
          have H := HC92.out
          clear HC92
          by_cases c103 : (t254.length : Int) < x10_80
          ·
           rw [if_pos c103] at H
           have c103b0 : decide ((t254.length : Int) < x10_80) = true := decide_eq_true c103
           clear c103
           (first | rw [c103b0] | (simp only [i64_w, i32_w]; rw [c103b0]) | skip)
           have H' := aM H
           clear H
           obtain ⟨Ao104, co104, eo104⟩ := Kd.N_slice HO256.out
           subst eo104
           go_wp2
           go_meet
           case rel => exact ⟨_, (true), (by first | rfl | (simp; done) | (simp [*]; done)), H', ⟨by have := HJ5.out; have := HK2.out; have := HJ80.out; first | omega | exact Nat.le_refl _⟩, ⟨by (with_reducible repeat (first | apply Kd.V_alloc | apply Kd.V_drewN | apply Kd.V_drew)); exact Kd.V_mono HO_0.out (fun _ hk => by first | exact ⟨hk.1.1.1, ⟨hk.2, ⟨hk.1.1.2, hk.1.2⟩⟩⟩ | (simp only [own_lenA] at hk ⊢; exact ⟨hk.1.1.1, ⟨hk.2, ⟨hk.1.1.2, hk.1.2⟩⟩⟩))⟩, ⟨by (with_reducible repeat (first | apply Kd.V_alloc | apply Kd.V_drewN | apply Kd.V_drew)); exact Kd.V_mono HO_3.out (fun _ hk => by first | exact ⟨hk.1.1.1, ⟨hk.2, ⟨hk.1.1.2, hk.1.2⟩⟩⟩ | (simp only [own_lenA] at hk ⊢; exact ⟨hk.1.1.1, ⟨hk.2, ⟨hk.1.1.2, hk.1.2⟩⟩⟩))⟩, ⟨by (with_reducible repeat (first | apply Kd.N_alloc | apply Kd.N_drewN | apply Kd.N_drew)); exact HO256.out⟩, ⟨by (with_reducible repeat (first | apply Kd.V_alloc | apply Kd.V_drewN | apply Kd.V_drew)); exact Kd.V_mono HOq0.out (fun _ hk => by first | exact ⟨hk.1.1.1, ⟨hk.2, ⟨hk.1.1.2, hk.1.2⟩⟩⟩ | (simp only [own_lenA] at hk ⊢; exact ⟨hk.1.1.1, ⟨hk.2, ⟨hk.1.1.2, hk.1.2⟩⟩⟩))⟩, ⟨by (with_reducible repeat (first | apply Kd.V_alloc | apply Kd.V_drewN | apply Kd.V_drew)); exact Kd.V_mono HO251.out (fun _ hk => by first | exact ⟨hk.1.1.1, ⟨hk.2, ⟨hk.1.1.2, hk.1.2⟩⟩⟩ | (simp only [own_lenA] at hk ⊢; exact ⟨hk.1.1.1, ⟨hk.2, ⟨hk.1.1.2, hk.1.2⟩⟩⟩))⟩, ⟨by (with_reducible repeat (first | refine blk_drewN ?_ _ | refine blk_drew ?_ | refine blk_alloc ?_ _)); exact BK215.out⟩, ⟨by (with_reducible repeat (first | refine blk_drewN ?_ _ | refine blk_drew ?_ | refine blk_alloc ?_ _)); exact BK253.out⟩, ⟨by repeat (first | (with_reducible first | exact HB.out | apply bA | apply bN | apply bD | refine bS ?_ GE215.out | refine bS ?_ GE253.out) | exact HB.out)⟩⟩
          ·
           rw [if_neg c103] at H
           have c103b0 : decide ((t254.length : Int) < x10_80) = false := decide_eq_false c103
           clear c103
           (first | rw [c103b0] | (simp only [i64_w, i32_w]; rw [c103b0]) | skip)
           have H' := aM H
           clear H
           obtain ⟨Ao105, co105, eo105⟩ := Kd.N_slice HO256.out
           subst eo105
           go_wp2
           go_meet
           case rel => exact ⟨_, (decide ((t254.length : Int) > (l0.length : Int))), (by first | rfl | (simp; done) | (simp [*]; done)), H', ⟨by have := HJ5.out; have := HK2.out; have := HJ80.out; first | omega | exact Nat.le_refl _⟩, ⟨by (with_reducible repeat (first | apply Kd.V_alloc | apply Kd.V_drewN | apply Kd.V_drew)); exact Kd.V_mono HO_0.out (fun _ hk => by first | exact ⟨hk.1.1.1, ⟨hk.2, ⟨hk.1.1.2, hk.1.2⟩⟩⟩ | (simp only [own_lenA] at hk ⊢; exact ⟨hk.1.1.1, ⟨hk.2, ⟨hk.1.1.2, hk.1.2⟩⟩⟩))⟩, ⟨by (with_reducible repeat (first | apply Kd.V_alloc | apply Kd.V_drewN | apply Kd.V_drew)); exact Kd.V_mono HO_3.out (fun _ hk => by first | exact ⟨hk.1.1.1, ⟨hk.2, ⟨hk.1.1.2, hk.1.2⟩⟩⟩ | (simp only [own_lenA] at hk ⊢; exact ⟨hk.1.1.1, ⟨hk.2, ⟨hk.1.1.2, hk.1.2⟩⟩⟩))⟩, ⟨by (with_reducible repeat (first | apply Kd.N_alloc | apply Kd.N_drewN | apply Kd.N_drew)); exact HO256.out⟩, ⟨by (with_reducible repeat (first | apply Kd.V_alloc | apply Kd.V_drewN | apply Kd.V_drew)); exact Kd.V_mono HOq0.out (fun _ hk => by first | exact ⟨hk.1.1.1, ⟨hk.2, ⟨hk.1.1.2, hk.1.2⟩⟩⟩ | (simp only [own_lenA] at hk ⊢; exact ⟨hk.1.1.1, ⟨hk.2, ⟨hk.1.1.2, hk.1.2⟩⟩⟩))⟩, ⟨by (with_reducible repeat (first | apply Kd.V_alloc | apply Kd.V_drewN | apply Kd.V_drew)); exact Kd.V_mono HO251.out (fun _ hk => by first | exact ⟨hk.1.1.1, ⟨hk.2, ⟨hk.1.1.2, hk.1.2⟩⟩⟩ | (simp only [own_lenA] at hk ⊢; exact ⟨hk.1.1.1, ⟨hk.2, ⟨hk.1.1.2, hk.1.2⟩⟩⟩))⟩, ⟨by (with_reducible repeat (first | refine blk_drewN ?_ _ | refine blk_drew ?_ | refine blk_alloc ?_ _)); exact BK215.out⟩, ⟨by (with_reducible repeat (first | refine blk_drewN ?_ _ | refine blk_drew ?_ | refine blk_alloc ?_ _)); exact BK253.out⟩, ⟨by repeat (first | (with_reducible first | exact HB.out | apply bA | apply bN | apply bD | refine bS ?_ GE215.out | refine bS ?_ GE253.out) | exact HB.out)⟩⟩
         case rest =>
          clear HC92
          try clear c1
          try clear c2
          try clear p2
          try clear c3
          try clear p6
          try clear c8
          try clear c9
          try clear c10
          try clear c11
          try clear c12
          try clear c12b0
          try clear c13
          try clear c21
          try clear c23
          try clear p64
          try clear c82
          try clear c82b0
          try clear c100
          try clear c103
          try clear c103b0
          try clear hcz101_0
          try clear hcz101_1
          try clear hcz84_0
          try clear hcz84_1
          try clear hcz88_0
          try clear hcz88_1
          try clear hcz93_0
          try clear hcz93_1
          try clear hfz101_0
          try clear hfz101_1
          try clear hfz84_0
          try clear hfz84_1
          try clear hfz88_0
          try clear hfz88_1
          try clear hfz93_0
          try clear hfz93_1
          try clear p2
          try clear p6
          try clear p64
          obtain ⟨kq, x91_91, rfl, HA, HJ91, HO_0, HO_3, HO_16, HOq0, HOq1, BK215, BK253, HB⟩ := hcut
          cases kq with
          | zero => exact absurd HA.out (by simp [banksmanlaw04_WalCrashes.j3])
          | succ kj91 =>
           have H := HA.out
           clear HA
           simp only [banksmanlaw04_WalCrashes.j3] at H
           by_cases c106 : x91_91 = true
           ·
            subst c106
            have H1 : (some false) = some r := by rw [if_pos rfl] at H; exact H
            rw [HTr_] at H1
            exact absurd (Option.some.inj H1) (by decide)
           ·
            replace c106 := Bool.eq_false_iff.mpr c106
            subst c106
            have H1 : (if 0 ≤ (t254.length : Int) then (if (t254.length : Int) ≤ (l0.length : Int) then ((banksmanref03_Same.f kj91 t254 (l0.take ((t254.length : Int) : Int).toNat)).bind fun t262 => ((wal_Append.f t249 t252 (([l3] : List (List Int)))).bind fun bt266 => ((wal_Texts.f bt266.1 bt266.2.1).bind fun t272 => ((wal_Crash.f t249 t252 a2).bind fun bt275 => ((wal_Trim.f bt275.1 bt275.2).bind fun bt279 => ((banksmanref04_Same.f bt279.1 bt279.2 t249 t252).bind fun t283 => (if t214 = true then (if t262 = true then (if bt266.2.2 = 0 then (if (t272.length : Int) = (wrap64 ((t254.length : Int) + 1)) then (if (t254.length : Int) ≤ (t272.length : Int) then ((banksmanref03_Same.f kj91 (t272.take ((t254.length : Int) : Int).toNat) t254).bind fun t289 => (if t289 = true then (if (t254.length : Int) < (t272.length : Int) then (if (strOfNums (rd_L1 t272 (t254.length : Int))).toList = (strOfNums l3).toList then (some t283) else (some false)) else (none)) else (some false))) else (none)) else (some false)) else (some false)) else (some false)) else (some false)))))))) else (none)) else (none)) = some r := by rw [if_neg (show ¬ (false = true) by decide)] at H; exact H
            clear H
            have H := H1
            clear H1
            by_cases c107 : 0 ≤ (t254.length : Int)
            ·
             rw [if_pos c107] at H
             have c107b0 := eq_true c107
             have c107b1 : decide (0 ≤ (t254.length : Int)) = true := decide_eq_true c107
             clear c107
             by_cases c108 : (t254.length : Int) ≤ (l0.length : Int)
             ·
              rw [if_pos c108] at H
              have c108b0 := eq_true c108
              have c108b1 : decide ((t254.length : Int) ≤ (l0.length : Int)) = true := decide_eq_true c108
              clear c108
              obtain ⟨y257, hy257⟩ : ∃ y_ : List (List Int), y_ = (l0.take ((t254.length : Int) : Int).toNat) := ⟨_, rfl⟩
              replace H : ((banksmanref03_Same.f kj91 t254 y257).bind fun t262 => ((wal_Append.f t249 t252 (([l3] : List (List Int)))).bind fun bt266 => ((wal_Texts.f bt266.1 bt266.2.1).bind fun t272 => ((wal_Crash.f t249 t252 a2).bind fun bt275 => ((wal_Trim.f bt275.1 bt275.2).bind fun bt279 => ((banksmanref04_Same.f bt279.1 bt279.2 t249 t252).bind fun t283 => (if t214 = true then (if t262 = true then (if bt266.2.2 = 0 then (if (t272.length : Int) = (wrap64 ((t254.length : Int) + 1)) then (if (t254.length : Int) ≤ (t272.length : Int) then ((banksmanref03_Same.f kj91 (t272.take ((t254.length : Int) : Int).toNat) t254).bind fun t289 => (if t289 = true then (if (t254.length : Int) < (t272.length : Int) then (if (strOfNums (rd_L1 t272 (t254.length : Int))).toList = (strOfNums l3).toList then (some t283) else (some false)) else (none)) else (some false))) else (none)) else (some false)) else (some false)) else (some false)) else (some false)))))))) = some r := by first | (rw [hy257]; with_reducible exact H) | (have H2_ := (Option.bind_some _ _).symm.trans H; rw [hy257]; with_reducible exact H2_) | (have H2_ := (Option.bind_some _ _).symm.trans H; with_reducible exact H2_) | with_reducible exact H | (rw [hy257]; exact H) | exact H
              have Ny257 := aM hy257
              clear hy257
              replace H := Option.bind_eq_some_iff.mp H
              obtain ⟨t262, A1090, H⟩ := H
              replace H : ((wal_Append.f t249 t252 (([l3] : List (List Int)))).bind fun bt266 => ((wal_Texts.f bt266.1 bt266.2.1).bind fun t272 => ((wal_Crash.f t249 t252 a2).bind fun bt275 => ((wal_Trim.f bt275.1 bt275.2).bind fun bt279 => ((banksmanref04_Same.f bt279.1 bt279.2 t249 t252).bind fun t283 => (if t214 = true then (if t262 = true then (if bt266.2.2 = 0 then (if (t272.length : Int) = (wrap64 ((t254.length : Int) + 1)) then (if (t254.length : Int) ≤ (t272.length : Int) then ((banksmanref03_Same.f kj91 (t272.take ((t254.length : Int) : Int).toNat) t254).bind fun t289 => (if t289 = true then (if (t254.length : Int) < (t272.length : Int) then (if (strOfNums (rd_L1 t272 (t254.length : Int))).toList = (strOfNums l3).toList then (some t283) else (some false)) else (none)) else (some false))) else (none)) else (some false)) else (some false)) else (some false)) else (some false))))))) = some r := H
              have A109 := aM A1090
              clear A1090
              obtain ⟨y263, hy263⟩ : ∃ y_ : List (List Int), y_ = (([l3] : List (List Int))) := ⟨_, rfl⟩
              replace H : ((wal_Append.f t249 t252 y263).bind fun bt266 => ((wal_Texts.f bt266.1 bt266.2.1).bind fun t272 => ((wal_Crash.f t249 t252 a2).bind fun bt275 => ((wal_Trim.f bt275.1 bt275.2).bind fun bt279 => ((banksmanref04_Same.f bt279.1 bt279.2 t249 t252).bind fun t283 => (if t214 = true then (if t262 = true then (if bt266.2.2 = 0 then (if (t272.length : Int) = (wrap64 ((t254.length : Int) + 1)) then (if (t254.length : Int) ≤ (t272.length : Int) then ((banksmanref03_Same.f kj91 (t272.take ((t254.length : Int) : Int).toNat) t254).bind fun t289 => (if t289 = true then (if (t254.length : Int) < (t272.length : Int) then (if (strOfNums (rd_L1 t272 (t254.length : Int))).toList = (strOfNums l3).toList then (some t283) else (some false)) else (none)) else (some false))) else (none)) else (some false)) else (some false)) else (some false)) else (some false))))))) = some r := by first | (rw [hy263]; with_reducible exact H) | (have H2_ := (Option.bind_some _ _).symm.trans H; rw [hy263]; with_reducible exact H2_) | (have H2_ := (Option.bind_some _ _).symm.trans H; with_reducible exact H2_) | with_reducible exact H | (rw [hy263]; exact H) | exact H
              have Ny263 := aM hy263
              clear hy263
              replace H := Option.bind_eq_some_iff.mp H
              obtain ⟨⟨t266, t269, t270⟩, A1100, H⟩ := H
              replace H : ((wal_Texts.f t266 t269).bind fun t272 => ((wal_Crash.f t249 t252 a2).bind fun bt275 => ((wal_Trim.f bt275.1 bt275.2).bind fun bt279 => ((banksmanref04_Same.f bt279.1 bt279.2 t249 t252).bind fun t283 => (if t214 = true then (if t262 = true then (if t270 = 0 then (if (t272.length : Int) = (wrap64 ((t254.length : Int) + 1)) then (if (t254.length : Int) ≤ (t272.length : Int) then ((banksmanref03_Same.f kj91 (t272.take ((t254.length : Int) : Int).toNat) t254).bind fun t289 => (if t289 = true then (if (t254.length : Int) < (t272.length : Int) then (if (strOfNums (rd_L1 t272 (t254.length : Int))).toList = (strOfNums l3).toList then (some t283) else (some false)) else (none)) else (some false))) else (none)) else (some false)) else (some false)) else (some false)) else (some false)))))) = some r := H
              have A110 := aM A1100
              clear A1100
              replace H := Option.bind_eq_some_iff.mp H
              obtain ⟨t272, A1110, H⟩ := H
              replace H : ((wal_Crash.f t249 t252 a2).bind fun bt275 => ((wal_Trim.f bt275.1 bt275.2).bind fun bt279 => ((banksmanref04_Same.f bt279.1 bt279.2 t249 t252).bind fun t283 => (if t214 = true then (if t262 = true then (if t270 = 0 then (if (t272.length : Int) = (wrap64 ((t254.length : Int) + 1)) then (if (t254.length : Int) ≤ (t272.length : Int) then ((banksmanref03_Same.f kj91 (t272.take ((t254.length : Int) : Int).toNat) t254).bind fun t289 => (if t289 = true then (if (t254.length : Int) < (t272.length : Int) then (if (strOfNums (rd_L1 t272 (t254.length : Int))).toList = (strOfNums l3).toList then (some t283) else (some false)) else (none)) else (some false))) else (none)) else (some false)) else (some false)) else (some false)) else (some false))))) = some r := H
              have A111 := aM A1110
              clear A1110
              replace H := Option.bind_eq_some_iff.mp H
              obtain ⟨⟨t275, t278⟩, A1120, H⟩ := H
              replace H : ((wal_Trim.f t275 t278).bind fun bt279 => ((banksmanref04_Same.f bt279.1 bt279.2 t249 t252).bind fun t283 => (if t214 = true then (if t262 = true then (if t270 = 0 then (if (t272.length : Int) = (wrap64 ((t254.length : Int) + 1)) then (if (t254.length : Int) ≤ (t272.length : Int) then ((banksmanref03_Same.f kj91 (t272.take ((t254.length : Int) : Int).toNat) t254).bind fun t289 => (if t289 = true then (if (t254.length : Int) < (t272.length : Int) then (if (strOfNums (rd_L1 t272 (t254.length : Int))).toList = (strOfNums l3).toList then (some t283) else (some false)) else (none)) else (some false))) else (none)) else (some false)) else (some false)) else (some false)) else (some false)))) = some r := H
              have A112 := aM A1120
              clear A1120
              replace H := Option.bind_eq_some_iff.mp H
              obtain ⟨⟨t279, t282⟩, A1130, H⟩ := H
              replace H : ((banksmanref04_Same.f t279 t282 t249 t252).bind fun t283 => (if t214 = true then (if t262 = true then (if t270 = 0 then (if (t272.length : Int) = (wrap64 ((t254.length : Int) + 1)) then (if (t254.length : Int) ≤ (t272.length : Int) then ((banksmanref03_Same.f kj91 (t272.take ((t254.length : Int) : Int).toNat) t254).bind fun t289 => (if t289 = true then (if (t254.length : Int) < (t272.length : Int) then (if (strOfNums (rd_L1 t272 (t254.length : Int))).toList = (strOfNums l3).toList then (some t283) else (some false)) else (none)) else (some false))) else (none)) else (some false)) else (some false)) else (some false)) else (some false))) = some r := H
              have A113 := aM A1130
              clear A1130
              replace H := Option.bind_eq_some_iff.mp H
              obtain ⟨t283, A1140, H⟩ := H
              replace H : (if t214 = true then (if t262 = true then (if t270 = 0 then (if (t272.length : Int) = (wrap64 ((t254.length : Int) + 1)) then (if (t254.length : Int) ≤ (t272.length : Int) then ((banksmanref03_Same.f kj91 (t272.take ((t254.length : Int) : Int).toNat) t254).bind fun t289 => (if t289 = true then (if (t254.length : Int) < (t272.length : Int) then (if (strOfNums (rd_L1 t272 (t254.length : Int))).toList = (strOfNums l3).toList then (some t283) else (some false)) else (none)) else (some false))) else (none)) else (some false)) else (some false)) else (some false)) else (some false)) = some r := H
              have A114 := aM A1140
              clear A1140
              by_cases c115 : t214 = true
              ·
               subst c115
               have H1 : (if t262 = true then (if t270 = 0 then (if (t272.length : Int) = (wrap64 ((t254.length : Int) + 1)) then (if (t254.length : Int) ≤ (t272.length : Int) then ((banksmanref03_Same.f kj91 (t272.take ((t254.length : Int) : Int).toNat) t254).bind fun t289 => (if t289 = true then (if (t254.length : Int) < (t272.length : Int) then (if (strOfNums (rd_L1 t272 (t254.length : Int))).toList = (strOfNums l3).toList then (some t283) else (some false)) else (none)) else (some false))) else (none)) else (some false)) else (some false)) else (some false)) = some r := by rw [if_pos rfl] at H; exact H
               clear H
               have H := H1
               clear H1
               by_cases c116 : t262 = true
               ·
                subst c116
                have H1 : (if t270 = 0 then (if (t272.length : Int) = (wrap64 ((t254.length : Int) + 1)) then (if (t254.length : Int) ≤ (t272.length : Int) then ((banksmanref03_Same.f kj91 (t272.take ((t254.length : Int) : Int).toNat) t254).bind fun t289 => (if t289 = true then (if (t254.length : Int) < (t272.length : Int) then (if (strOfNums (rd_L1 t272 (t254.length : Int))).toList = (strOfNums l3).toList then (some t283) else (some false)) else (none)) else (some false))) else (none)) else (some false)) else (some false)) = some r := by rw [if_pos rfl] at H; exact H
                clear H
                have H := H1
                clear H1
                by_cases c117 : t270 = 0
                ·
                 rw [if_pos c117] at H
                 have c117b0 : (t270 == 0) = true := beq_iff_eq.mpr c117
                 have c117b1 : (t270 != 0) = false := bne_eq_false_iff_eq.mpr c117
                 clear c117
                 by_cases c118 : (t272.length : Int) = (wrap64 ((t254.length : Int) + 1))
                 ·
                  rw [if_pos c118] at H
                  have c118b0 : ((t272.length : Int) == (wrap64 ((t254.length : Int) + 1))) = true := beq_iff_eq.mpr c118
                  have c118b1 : ((t272.length : Int) != (wrap64 ((t254.length : Int) + 1))) = false := bne_eq_false_iff_eq.mpr c118
                  clear c118
                  have c119b0 := eq_true (of_decide_eq_true (by first | (with_reducible assumption) | assumption) : 0 ≤ (t254.length : Int))
                  by_cases c120 : (t254.length : Int) ≤ (t272.length : Int)
                  ·
                   rw [if_pos c120] at H
                   have c120b0 := eq_true c120
                   have c120b1 : decide ((t254.length : Int) ≤ (t272.length : Int)) = true := decide_eq_true c120
                   clear c120
                   obtain ⟨y284, hy284⟩ : ∃ y_ : List (List Int), y_ = (t272.take ((t254.length : Int) : Int).toNat) := ⟨_, rfl⟩
                   replace H : ((banksmanref03_Same.f kj91 y284 t254).bind fun t289 => (if t289 = true then (if (t254.length : Int) < (t272.length : Int) then (if (strOfNums (rd_L1 t272 (t254.length : Int))).toList = (strOfNums l3).toList then (some t283) else (some false)) else (none)) else (some false))) = some r := by first | (rw [hy284]; with_reducible exact H) | (have H2_ := (Option.bind_some _ _).symm.trans H; rw [hy284]; with_reducible exact H2_) | (have H2_ := (Option.bind_some _ _).symm.trans H; with_reducible exact H2_) | with_reducible exact H | (rw [hy284]; exact H) | exact H
                   have Ny284 := aM hy284
                   clear hy284
                   replace H := Option.bind_eq_some_iff.mp H
                   obtain ⟨t289, A1210, H⟩ := H
                   replace H : (if t289 = true then (if (t254.length : Int) < (t272.length : Int) then (if (strOfNums (rd_L1 t272 (t254.length : Int))).toList = (strOfNums l3).toList then (some t283) else (some false)) else (none)) else (some false)) = some r := H
                   have A121 := aM A1210
                   clear A1210
                   by_cases c122 : t289 = true
                   ·
                    subst c122
                    have H1 : (if (t254.length : Int) < (t272.length : Int) then (if (strOfNums (rd_L1 t272 (t254.length : Int))).toList = (strOfNums l3).toList then (some t283) else (some false)) else (none)) = some r := by rw [if_pos rfl] at H; exact H
                    clear H
                    have H := H1
                    clear H1
                    by_cases c123 : (t254.length : Int) < (t272.length : Int)
                    ·
                     rw [if_pos c123] at H
                     have c123b0 : decide ((t254.length : Int) < (t272.length : Int)) = true := decide_eq_true c123
                     have c123b1 : decide (t254.length < t272.length) = true := decide_eq_true (Int.ofNat_lt.mp c123)
                     clear c123
                     by_cases c124 : (strOfNums (rd_L1 t272 (t254.length : Int))).toList = (strOfNums l3).toList
                     ·
                      rw [if_pos c124] at H
                      have c124b0 : ((strOfNums (rd_L1 t272 (t254.length : Int))).toList == (strOfNums l3).toList) = true := beq_iff_eq.mpr c124
                      have c124b1 : ((strOfNums (rd_L1 t272 (t254.length : Int))).toList != (strOfNums l3).toList) = false := bne_eq_false_iff_eq.mpr c124
                      clear c124
                      obtain rfl := Option.some.inj H
                      obtain ⟨Ao125, co125, eo125⟩ := Kd.N_slice HO_16.out
                      subst eo125
                      have q126 : ((t254.length : Int) : Int) ≤ ((l0.length : Int) : Int) := of_decide_eq_true (by first | (with_reducible assumption) | assumption)
                      obtain ⟨i0126, hi0126, _, hsz126, _⟩ := info_parts info23
                      have hroom126 : l0.length ≤ c0 := (Kd.V_reads' HO_0.out).2.1
                      have hC126 : Kd.F (Kd.slice 5 (Kd.int .u8)) _ _ A0 l0.length l0 := (Kd.V_at (base := w.heap.size) HO_0.out).2.2
                      have hcut126 := cut_to (P := Try.prog) 22 23 .i64 Try.underlying22 hi0126 A0 l0.length c0 (t254.length : Int) (of_decide_eq_true (by first | (with_reducible assumption) | assumption)) q126 hroom126
                      have hr126 := Kd.F_take (m := ((t254.length : Int) : Int).toNat) hC126 (by omega)
                      have hy126 : y257.length = ((t254.length : Int) : Int).toNat := (by rw [Ny257.out, List.length_take]; omega)
                      rw [← Ny257.out] at hr126
                      rw [← hy126] at hcut126
                      have HO261 := aM (show Kd.V (Kd.slice 5 (Kd.int .u8)) 23 _ w.heap.size _ (.slice A0 y257.length c0) y257 from Kd.V_mk (by omega) hr126)
                      have HC261 := aM (show y257.length ≤ c0 from by omega)
                      clear hr126 hC126 hroom126 hi0126 hsz126
                      have KY126 := aM hy126
                      clear hy126
                      replace q126 := eq_true q126
                      try go_wp2_with (first | ((with_reducible refine gate_callee (f := 14) rfl ?_); refine goesL_ (some 97) rfl rfl Try.func14 (by kernel_rfl) rfl #[.slice Ao125 t254.length co125, .slice A0 y257.length c0] rfl (by (try simp only [List.map_toArray, List.map_cons, List.map_nil]); first | done | rfl | (simp only [List.length_drop, List.length_take]; rfl)) ?_; (with_reducible refine (banksmanref03_Same.calls kj91 _ _ t254 _ _ y257 true _ ?side1 ?side2 ?side3 ?side4 A109.out).mono ?_); (case side1 => repeat (first | exact (Kd.N_reads' HO_16.out).2.2 | (with_reducible refine Kd.C_alloc ?_ _) | (with_reducible refine Kd.C_drewN ?_ _) | (with_reducible refine Kd.C_drew ?_))); (case side2 => exact (Kd.N_reads' HO_16.out).2.1); (case side3 => repeat (first | exact (Kd.V_reads' HO261.out).2.2 | (with_reducible refine Kd.C_alloc ?_ _) | (with_reducible refine Kd.C_drewN ?_ _) | (with_reducible refine Kd.C_drew ?_))); (case side4 => exact (Kd.V_reads' HO261.out).2.1); rintro e w' ⟨rfl, ⟨nd, rfl⟩⟩; refine ⟨_, rfl, ?_⟩; (try (rw [drewN_self wc]; generalize hq_ : World.drewN wc _ = wc; have n0_ : Aside0 (Kd.V (Kd.slice 5 (Kd.int .u8)) 23 wc w.heap.size (fun k_ => ((P0_ k_ ∨ P3_ k_) ∨ w.heap.size ≤ k_) ∧ some k_ ≠ (.slice Ao125 t254.length co125 : Value).ownBlock ∧ k_ ≠ gb215 ∧ k_ ≠ gb253) (.slice A0 y257.length c0) y257) := ⟨by rw [← hq_]; exact (vU HO261.out)⟩; have n1_ : Aside0 (Kd.V (Kd.slice 5 (Kd.int .u8)) 23 wc w.heap.size (fun k_ => ((P0_ k_ ∨ P3_ k_) ∨ w.heap.size ≤ k_) ∧ some k_ ≠ (.slice Ao125 t254.length co125 : Value).ownBlock ∧ k_ ≠ gb215 ∧ k_ ≠ gb253) (.slice A0 l0.length c0) l0) := ⟨by rw [← hq_]; exact (vU HO_0.out)⟩; have n2_ : Aside0 (Kd.N (Kd.slice 5 (Kd.int .u8)) 23 wc w.heap.size (fun k_ => ((P0_ k_ ∨ P3_ k_) ∨ w.heap.size ≤ k_) ∧ k_ ≠ gb215 ∧ k_ ≠ gb253) (.slice Ao125 t254.length co125) t254) := ⟨by rw [← hq_]; exact (nU HO_16.out)⟩; have n3_ : Aside0 (Kd.V (Kd.int .u8) 5 wc w.heap.size (fun k_ => ((P0_ k_ ∨ P3_ k_) ∨ w.heap.size ≤ k_) ∧ some k_ ≠ (.slice Ao125 t254.length co125 : Value).ownBlock ∧ k_ ≠ gb215 ∧ k_ ≠ gb253) (.slice Ao94 x216000_80.length co94) x216000_80) := ⟨by rw [← hq_]; exact (vU HOq0.out)⟩; have n4_ : Aside0 (Kd.V (Kd.int .u8) 5 wc w.heap.size (fun k_ => ((P0_ k_ ∨ P3_ k_) ∨ w.heap.size ≤ k_) ∧ some k_ ≠ (.slice Ao125 t254.length co125 : Value).ownBlock ∧ k_ ≠ gb215 ∧ k_ ≠ gb253) (.slice Ao99 t249.length co99) t249) := ⟨by rw [← hq_]; exact (vU HOq1.out)⟩; have n5_ : Aside0 (Kd.V (Kd.int .u8) 5 wc w.heap.size (fun k_ => ((P0_ k_ ∨ P3_ k_) ∨ w.heap.size ≤ k_) ∧ some k_ ≠ (.slice Ao125 t254.length co125 : Value).ownBlock ∧ k_ ≠ gb215 ∧ k_ ≠ gb253) (.slice A3 l3.length c3) l3) := ⟨by rw [← hq_]; exact (vU HO_3.out)⟩; have n6_ : Aside0 (wc.heap[gb215]? = some (.cells #[.slice Ao94 x216000_80.length co94, .int .i64 x216001_80] 26 (0, 0))) := ⟨by rw [← hq_]; exact (bU BK215.out)⟩; have n7_ : Aside0 (wc.heap[gb253]? = some (.cells #[.slice Ao99 t249.length co99, .int .i64 t252] 26 (0, 0))) := ⟨by rw [← hq_]; exact (bU BK253.out)⟩; have n8_ : Aside0 (Below w.heap.size w wc) := ⟨by rw [← hq_]; exact (by repeat (first | (with_reducible first | exact HB.out | apply bA | apply bN | apply bD | refine bS ?_ GE215.out | refine bS ?_ GE253.out) | exact HB.out))⟩; clear HO261 HO_0 HO_16 HOq0 HOq1 HO_3 BK215 BK253 HB hq_; have HO261 := n0_; have HO_0 := n1_; have HO_16 := n2_; have HOq0 := n3_; have HOq1 := n4_; have HO_3 := n5_; have BK215 := n6_; have BK253 := n7_; have HB := n8_; clear n0_ n1_ n2_ n3_ n4_ n5_ n6_ n7_ n8_)); have hnb127 := NBq7.out; have hnc127 := NBq4.out; have hcz128_0 : wc.cell? ⟨gb253, 0, none⟩ = some (.slice Ao99 t249.length co99) := (kC BK253.out 0).trans rfl; have hcz128_1 : wc.cell? ⟨gb253, 1, none⟩ = some (.int .i64 t252) := (kC BK253.out 1).trans rfl; have hfz128_0 := kF BK253.out 0; have hfz128_1 := kF BK253.out 1) | ((with_reducible refine gate_dst (N := 101) rfl ?_); (try (refine gate_guard (by rfl) ?_; dsimp only)); refine Kd.N_lit (Kd.slice 5 (Kd.int .u8)) _ 23 ?hg (N' := 101) ?hd (xs := ([l3] : List (List Int))) (inner := [.slice A3 l3.length c3]) (ok := (fun k_ => ((P0_ k_ ∨ P3_ k_) ∨ w.heap.size ≤ k_) ∧ some k_ ≠ (.slice Ao125 t254.length co125 : Value).ownBlock ∧ k_ ≠ gb215 ∧ k_ ≠ gb253)) (okp := (fun k_ => ((P0_ k_ ∨ P3_ k_) ∨ w.heap.size ≤ k_) ∧ some k_ ≠ (.slice Ao125 t254.length co125 : Value).ownBlock ∧ k_ ≠ gb215 ∧ k_ ≠ gb253)) ?hr ?hp (fun _ hk => hk) ((show ∀ k_, wc.heap.size ≤ k_ → (fun k_ => ((P0_ k_ ∨ P3_ k_) ∨ w.heap.size ≤ k_) ∧ some k_ ≠ (.slice Ao125 t254.length co125 : Value).ownBlock ∧ k_ ≠ gb215 ∧ k_ ≠ gb253) k_ from fun k_ hk => ⟨(.inr (Nat.le_trans (below_size (by repeat (first | (with_reducible first | exact HB.out | apply bA | apply bN | apply bD | refine bS ?_ GE215.out | refine bS ?_ GE253.out) | exact HB.out))) hk)), Kd.fresh' (Kd.N_lt (nU HO_16.out)) k_ hk, Kd.freshB (g := gb215) (o := .cells #[.slice Ao94 x216000_80.length co94, .int .i64 x216001_80] 26 (0, 0)) (bU BK215.out) k_ hk, Kd.freshB (g := gb253) (o := .cells #[.slice Ao99 t249.length co99, .int .i64 t252] 26 (0, 0)) (bU BK253.out) k_ hk⟩) _ (Nat.le_refl _)) (Below.refl _ _) (Nat.le_refl _) (by simp) ?_; (case hd => rfl); (case hg => rfl); (case hr => first | (go_simp; done) | (go_simp; rfl)); (case hp => exact (Reps.one (show Kd.FK (Kd.slice 5 (Kd.int .u8)) _ _ l3 [.slice A3 l3.length c3] from (Kd.FK_slice_mk (Kd.V_reads' (Kd.V_mono (ok' := (fun k_ => ((P0_ k_ ∨ P3_ k_) ∨ w.heap.size ≤ k_) ∧ some k_ ≠ (.slice Ao125 t254.length co125 : Value).ownBlock ∧ k_ ≠ gb215 ∧ k_ ≠ gb253)) (HO_3.out) (fun k_ hk => ⟨hk.1, ⟨hk.2.1, ⟨hk.2.2.1, hk.2.2.2⟩⟩⟩))).2.1 (Kd.V_F (Kd.V_mono (ok' := (fun k_ => ((P0_ k_ ∨ P3_ k_) ∨ w.heap.size ≤ k_) ∧ some k_ ≠ (.slice Ao125 t254.length co125 : Value).ownBlock ∧ k_ ≠ gb215 ∧ k_ ≠ gb253)) (HO_3.out) (fun k_ hk => ⟨hk.1, ⟨hk.2.1, ⟨hk.2.2.1, hk.2.2.2⟩⟩⟩))))) (Reps.none _ _))); intro v264 w129 ho130 hb hg_ hnew_; clear hg_ hnew_; (first | rw [← Ny263.out] at ho130 | (simp only [Int.reduceToNat] at ho130; rw [← Ny263.out] at ho130)); replace HO_0 := aM (Kd.V_elder' (vU HO_0.out) (by first | exact Kd.N_base ho130 | exact Kd.S_base ho130 | exact Kd.R_base ho130) hb); replace HO_3 := aM (Kd.V_elder' (vU HO_3.out) (by first | exact Kd.N_base ho130 | exact Kd.S_base ho130 | exact Kd.R_base ho130) hb); replace HO_16 := aM (Kd.N_elder' (nU HO_16.out) (by first | exact Kd.N_base ho130 | exact Kd.S_base ho130 | exact Kd.R_base ho130) hb); replace HOq0 := aM (Kd.V_elder' (vU HOq0.out) (by first | exact Kd.N_base ho130 | exact Kd.S_base ho130 | exact Kd.R_base ho130) hb); replace HOq1 := aM (Kd.V_elder' (vU HOq1.out) (by first | exact Kd.N_base ho130 | exact Kd.S_base ho130 | exact Kd.R_base ho130) hb); replace HO261 := aM (Kd.V_elder' (vU HO261.out) (by first | exact Kd.N_base ho130 | exact Kd.S_base ho130 | exact Kd.R_base ho130) hb); have HO265 := aM (Kd.N_lower ho130 (below_size (by repeat (first | (with_reducible first | exact HB.out | apply bA | apply bN | apply bD | refine bS ?_ GE215.out | refine bS ?_ GE253.out) | exact HB.out)))); replace BK215 := aM (kB (g := gb215) (o := .cells #[.slice Ao94 x216000_80.length co94, .int .i64 x216001_80] 26 (0, 0)) (bU BK215.out) hb); replace BK253 := aM (kB (g := gb253) (o := .cells #[.slice Ao99 t249.length co99, .int .i64 t252] 26 (0, 0)) (bU BK253.out) hb); replace HB := aM (below_step (by repeat (first | (with_reducible first | exact HB.out | apply bA | apply bN | apply bD | refine bS ?_ GE215.out | refine bS ?_ GE253.out) | exact HB.out)) hb); clear hb ho130; obtain ⟨Ao131, co131, eo131⟩ := Kd.N_slice HO265.out; subst eo131) | ((with_reducible refine gate_callee (f := 10) rfl ?_); refine goesL_ (some 102) rfl rfl Try.func10 (by kernel_rfl) rfl #[.agg #[.slice Ao99 t249.length co99, .int .i64 t252], .slice Ao131 y263.length co131] rfl (by (try simp only [List.map_toArray, List.map_cons, List.map_nil]); first | done | rfl | (simp only [List.length_drop, List.length_take]; rfl)) ?_; (with_reducible refine (wal_Append.calls _ _ t249 t252 _ _ y263 t266 t269 t270 _ ?side1 ?side2 ?side3 ?side4 A110.out).mono ?_); (case side1 => repeat (first | exact (Kd.V_reads' HOq1.out).2.2 | (with_reducible refine Kd.C_alloc ?_ _) | (with_reducible refine Kd.C_drewN ?_ _) | (with_reducible refine Kd.C_drew ?_))); (case side2 => exact (Kd.V_reads' HOq1.out).2.1); (case side3 => repeat (first | exact (Kd.N_reads' HO265.out).2.2 | (with_reducible refine Kd.C_alloc ?_ _) | (with_reducible refine Kd.C_drewN ?_ _) | (with_reducible refine Kd.C_drew ?_))); (case side4 => exact (Kd.N_reads' HO265.out).2.1); rintro e w132 ⟨v267, rfl, ho0, hb⟩; refine ⟨_, rfl, ?_⟩; replace HO_0 := aM (vB (vU HO_0.out) hb); replace HO_3 := aM (vB (vU HO_3.out) hb); replace HOq0 := aM (vB (vU HOq0.out) hb); replace HOq1 := aM (vB (vU HOq1.out) hb); replace HO261 := aM (vB (vU HO261.out) hb); have HO268 := aM (Kd.V_lower (Kd.V_mono (ok' := fun k_ => ((P0_ k_ ∨ P3_ k_) ∨ w.heap.size ≤ k_) ∧ some k_ ≠ (.slice Ao125 t254.length co125 : Value).ownBlock ∧ some k_ ≠ (.slice Ao131 y263.length co131 : Value).ownBlock ∧ k_ ≠ gb215 ∧ k_ ≠ gb253) ho0 (fun k_ hk_ => ⟨(.inr (Nat.le_trans (below_size (by repeat (first | (with_reducible first | exact HB.out | apply bA | apply bN | apply bD | refine bS ?_ GE215.out | refine bS ?_ GE253.out) | exact HB.out))) hk_)), (Kd.fresh' (Kd.N_lt (nU HO_16.out)) k_ hk_), (Kd.fresh' (Kd.N_lt (nU HO265.out)) k_ hk_), (Kd.freshB (g := gb215) (o := .cells #[.slice Ao94 x216000_80.length co94, .int .i64 x216001_80] 26 (0, 0)) (bU BK215.out) k_ hk_), (Kd.freshB (g := gb253) (o := .cells #[.slice Ao99 t249.length co99, .int .i64 t252] 26 (0, 0)) (bU BK253.out) k_ hk_)⟩)) (below_size (by repeat (first | (with_reducible first | exact HB.out | apply bA | apply bN | apply bD | refine bS ?_ GE215.out | refine bS ?_ GE253.out) | exact HB.out)))); replace HO_16 := aM (Kd.N_below (nU HO_16.out) hb); replace HO265 := aM (Kd.N_below (nU HO265.out) hb); replace BK215 := aM (kB (g := gb215) (o := .cells #[.slice Ao94 x216000_80.length co94, .int .i64 x216001_80] 26 (0, 0)) (bU BK215.out) hb); replace BK253 := aM (kB (g := gb253) (o := .cells #[.slice Ao99 t249.length co99, .int .i64 t252] 26 (0, 0)) (bU BK253.out) hb); replace HB := aM (below_step (by repeat (first | (with_reducible first | exact HB.out | apply bA | apply bN | apply bD | refine bS ?_ GE215.out | refine bS ?_ GE253.out) | exact HB.out)) hb); (try clear hb); (try clear hk)) | ((with_reducible refine gate_dst (N := 18) rfl ?_); (try (refine gate_guard (by rfl) ?_; dsimp only)); refine box_event ?hg (N := 18) ?hd (cs := #[.slice none 0 0, .int .i64 0]) (t := 26) ?hr ?_; (case hd => rfl); (case hg => rfl); (case hr => first | (go_simp; done) | (go_simp; rfl)); intro gb271 hg w133 hbox hb; replace HO_0 := aM (vB (vE (vU HO_0.out) gb271 (Nat.le_of_eq hg.symm)) hb); replace HO_3 := aM (vB (vE (vU HO_3.out) gb271 (Nat.le_of_eq hg.symm)) hb); replace HO_16 := aM (Kd.N_below (Kd.N_elderB (nU HO_16.out) gb271 (Nat.le_of_eq hg.symm)) hb); replace HOq0 := aM (vB (vE (vU HOq0.out) gb271 (Nat.le_of_eq hg.symm)) hb); replace HOq1 := aM (vB (vE (vU HOq1.out) gb271 (Nat.le_of_eq hg.symm)) hb); replace HO261 := aM (vB (vE (vU HO261.out) gb271 (Nat.le_of_eq hg.symm)) hb); replace HO265 := aM (Kd.N_below (Kd.N_elderB (nU HO265.out) gb271 (Nat.le_of_eq hg.symm)) hb); replace HO268 := aM (vB (vE (vU HO268.out) gb271 (Nat.le_of_eq hg.symm)) hb); have BK271 := aM (hbox); have GW271 := aM ((by rw [hg]; exact (below_size (by repeat (first | (with_reducible first | exact HB.out | apply bA | apply bN | apply bD | refine bS ?_ GE215.out | refine bS ?_ GE253.out) | exact HB.out))) : w.heap.size ≤ gb271)); have GE271 := aM ((by rw [hg]; exact (below_size (by repeat (first | (with_reducible first | exact HB.out | apply bA | apply bN | apply bD | refine bS ?_ GE215.out | refine bS ?_ GE253.out) | exact HB.out))) : w.heap.size ≤ gb271)); replace HB := aM (below_step (by repeat (first | (with_reducible first | exact HB.out | apply bA | apply bN | apply bD | refine bS ?_ GE215.out | refine bS ?_ GE253.out) | exact HB.out)) hb); have NBq5 := aM ((by rw [hg]; exact Nat.ne_of_lt (blk_lt (g := gb215) (o := .cells #[.slice Ao94 x216000_80.length co94, .int .i64 x216001_80] 26 (0, 0)) (bU BK215.out)) : gb215 ≠ gb271)); have NBq8 := aM ((by rw [hg]; exact Nat.ne_of_gt (blk_lt (g := gb215) (o := .cells #[.slice Ao94 x216000_80.length co94, .int .i64 x216001_80] 26 (0, 0)) (bU BK215.out)) : gb271 ≠ gb215)); replace BK215 := aM (kB (g := gb215) (o := .cells #[.slice Ao94 x216000_80.length co94, .int .i64 x216001_80] 26 (0, 0)) (bU BK215.out) hb); have NBq6 := aM ((by rw [hg]; exact Nat.ne_of_lt (blk_lt (g := gb253) (o := .cells #[.slice Ao99 t249.length co99, .int .i64 t252] 26 (0, 0)) (bU BK253.out)) : gb253 ≠ gb271)); have NBq9 := aM ((by rw [hg]; exact Nat.ne_of_gt (blk_lt (g := gb253) (o := .cells #[.slice Ao99 t249.length co99, .int .i64 t252] 26 (0, 0)) (bU BK253.out)) : gb271 ≠ gb253)); replace BK253 := aM (kB (g := gb253) (o := .cells #[.slice Ao99 t249.length co99, .int .i64 t252] 26 (0, 0)) (bU BK253.out) hb); clear hb hbox hg; obtain ⟨Ao134, co134, eo134⟩ := Kd.V_slice HO268.out; subst eo134; have hnb135 := NBq8.out; have hnc135 := NBq5.out; have hnb136 := NBq9.out; have hnc136 := NBq6.out; have hcz137_0 : w133.cell? ⟨gb271, 0, none⟩ = some (.slice none 0 0) := (kC BK271.out 0).trans rfl; have hcz137_1 : w133.cell? ⟨gb271, 1, none⟩ = some (.int .i64 0) := (kC BK271.out 1).trans rfl; have hfz137_0 := kF BK271.out 0; have hfz137_1 := kF BK271.out 1) | ((with_reducible refine gate_callee (f := 13) rfl ?_); refine goesL_ (some 106) rfl rfl Try.func13 (by kernel_rfl) rfl #[.agg #[.slice Ao134 t266.length co134, .int .i64 t269]] rfl (by (try simp only [List.map_toArray, List.map_cons, List.map_nil]); first | done | rfl | (simp only [List.length_drop, List.length_take]; rfl)) ?_; (with_reducible refine (wal_Texts.calls _ _ t266 t269 t272 _ ?side1 ?side2 A111.out).mono ?_); (case side1 => refine (Kd.V_reads' (e := 5) (base := w.heap.size) (ok := fun k_ => ((((P0_ k_ ∨ P3_ k_) ∨ w.heap.size ≤ k_) ∧ (some k_ ≠ (.slice Ao125 t254.length co125 : Value).ownBlock ∧ (some k_ ≠ (.slice Ao131 y263.length co131 : Value).ownBlock ∧ (k_ ≠ gb215 ∧ k_ ≠ gb253)))) ∧ k_ ≠ gb271)) (n := t266.length) (c := co134) ?_).2.2; exact (by (with_reducible repeat (first | apply Kd.V_alloc | apply Kd.V_drewN | apply Kd.V_drew)); exact (Kd.V_mono (Kd.V_far (p := ⟨gb271, 1, none⟩) (Kd.V_far (p := ⟨gb271, 0, none⟩) (Kd.V_mono HO268.out (fun k_ hk => (⟨hk, hk.2⟩ : _ ∧ k_ ≠ gb271))) (fun _ hk => hk.2) (.slice Ao134 t266.length co134)) (fun _ hk => hk.2) (.int .i64 t269)) (fun _ h_ => h_.1)))); (case side2 => exact (Kd.V_reads' HO268.out).2.1); rintro e w138 ⟨v273, rfl, ho0, hb⟩; refine ⟨_, rfl, ?_⟩; replace HO_0 := aM (Kd.V_elder' (by (with_reducible repeat (first | apply Kd.V_alloc | apply Kd.V_drewN | apply Kd.V_drew)); exact (Kd.V_mono (Kd.V_far (p := ⟨gb271, 1, none⟩) (Kd.V_far (p := ⟨gb271, 0, none⟩) (Kd.V_mono HO_0.out (fun k_ hk => (⟨hk, hk.2⟩ : _ ∧ k_ ≠ gb271))) (fun _ hk => hk.2) (.slice Ao134 t266.length co134)) (fun _ hk => hk.2) (.int .i64 t269)) (fun _ h_ => h_.1))) (by first | exact Kd.N_base ho0 | exact Kd.S_base ho0 | exact Kd.R_base ho0) hb); replace HO_3 := aM (Kd.V_elder' (by (with_reducible repeat (first | apply Kd.V_alloc | apply Kd.V_drewN | apply Kd.V_drew)); exact (Kd.V_mono (Kd.V_far (p := ⟨gb271, 1, none⟩) (Kd.V_far (p := ⟨gb271, 0, none⟩) (Kd.V_mono HO_3.out (fun k_ hk => (⟨hk, hk.2⟩ : _ ∧ k_ ≠ gb271))) (fun _ hk => hk.2) (.slice Ao134 t266.length co134)) (fun _ hk => hk.2) (.int .i64 t269)) (fun _ h_ => h_.1))) (by first | exact Kd.N_base ho0 | exact Kd.S_base ho0 | exact Kd.R_base ho0) hb); replace HOq0 := aM (Kd.V_elder' (by (with_reducible repeat (first | apply Kd.V_alloc | apply Kd.V_drewN | apply Kd.V_drew)); exact (Kd.V_mono (Kd.V_far (p := ⟨gb271, 1, none⟩) (Kd.V_far (p := ⟨gb271, 0, none⟩) (Kd.V_mono HOq0.out (fun k_ hk => (⟨hk, hk.2⟩ : _ ∧ k_ ≠ gb271))) (fun _ hk => hk.2) (.slice Ao134 t266.length co134)) (fun _ hk => hk.2) (.int .i64 t269)) (fun _ h_ => h_.1))) (by first | exact Kd.N_base ho0 | exact Kd.S_base ho0 | exact Kd.R_base ho0) hb); replace HOq1 := aM (Kd.V_elder' (by (with_reducible repeat (first | apply Kd.V_alloc | apply Kd.V_drewN | apply Kd.V_drew)); exact (Kd.V_mono (Kd.V_far (p := ⟨gb271, 1, none⟩) (Kd.V_far (p := ⟨gb271, 0, none⟩) (Kd.V_mono HOq1.out (fun k_ hk => (⟨hk, hk.2⟩ : _ ∧ k_ ≠ gb271))) (fun _ hk => hk.2) (.slice Ao134 t266.length co134)) (fun _ hk => hk.2) (.int .i64 t269)) (fun _ h_ => h_.1))) (by first | exact Kd.N_base ho0 | exact Kd.S_base ho0 | exact Kd.R_base ho0) hb); replace HO261 := aM (Kd.V_elder' (by (with_reducible repeat (first | apply Kd.V_alloc | apply Kd.V_drewN | apply Kd.V_drew)); exact (Kd.V_mono (Kd.V_far (p := ⟨gb271, 1, none⟩) (Kd.V_far (p := ⟨gb271, 0, none⟩) (Kd.V_mono HO261.out (fun k_ hk => (⟨hk, hk.2⟩ : _ ∧ k_ ≠ gb271))) (fun _ hk => hk.2) (.slice Ao134 t266.length co134)) (fun _ hk => hk.2) (.int .i64 t269)) (fun _ h_ => h_.1))) (by first | exact Kd.N_base ho0 | exact Kd.S_base ho0 | exact Kd.R_base ho0) hb); replace HO268 := aM (Kd.V_elder' (by (with_reducible repeat (first | apply Kd.V_alloc | apply Kd.V_drewN | apply Kd.V_drew)); exact (Kd.V_mono (Kd.V_far (p := ⟨gb271, 1, none⟩) (Kd.V_far (p := ⟨gb271, 0, none⟩) (Kd.V_mono HO268.out (fun k_ hk => (⟨hk, hk.2⟩ : _ ∧ k_ ≠ gb271))) (fun _ hk => hk.2) (.slice Ao134 t266.length co134)) (fun _ hk => hk.2) (.int .i64 t269)) (fun _ h_ => h_.1))) (by first | exact Kd.N_base ho0 | exact Kd.S_base ho0 | exact Kd.R_base ho0) hb); have HO274 := aM (Kd.N_lower (Kd.N_mono (ok' := fun k_ => ((P0_ k_ ∨ P3_ k_) ∨ w.heap.size ≤ k_) ∧ some k_ ≠ (.slice Ao125 t254.length co125 : Value).ownBlock ∧ some k_ ≠ (.slice Ao131 y263.length co131 : Value).ownBlock ∧ k_ ≠ gb215 ∧ k_ ≠ gb253 ∧ k_ ≠ gb271) ho0 (fun k_ hk_ => ⟨(.inr (Nat.le_trans (below_size (by repeat (first | (with_reducible first | exact HB.out | apply bA | apply bN | apply bD | refine bS ?_ GE215.out | refine bS ?_ GE253.out | refine bS ?_ GE271.out) | exact HB.out))) hk_)), (Kd.fresh' (Kd.N_lt (by (with_reducible repeat (first | apply Kd.N_alloc | apply Kd.N_drewN | apply Kd.N_drew)); exact (Kd.N_mono (Kd.N_far (p := ⟨gb271, 1, none⟩) (Kd.N_far (p := ⟨gb271, 0, none⟩) (Kd.N_mono HO_16.out (fun k_ hk => (⟨hk, hk.2⟩ : _ ∧ k_ ≠ gb271))) (fun _ hk => hk.2) (.slice Ao134 t266.length co134)) (fun _ hk => hk.2) (.int .i64 t269)) (fun _ h_ => h_.1)))) k_ hk_), (Kd.fresh' (Kd.N_lt (by (with_reducible repeat (first | apply Kd.N_alloc | apply Kd.N_drewN | apply Kd.N_drew)); exact (Kd.N_mono (Kd.N_far (p := ⟨gb271, 1, none⟩) (Kd.N_far (p := ⟨gb271, 0, none⟩) (Kd.N_mono HO265.out (fun k_ hk => (⟨hk, hk.2⟩ : _ ∧ k_ ≠ gb271))) (fun _ hk => hk.2) (.slice Ao134 t266.length co134)) (fun _ hk => hk.2) (.int .i64 t269)) (fun _ h_ => h_.1)))) k_ hk_), (Kd.freshB (g := gb215) (o := .cells #[.slice Ao94 x216000_80.length co94, .int .i64 x216001_80] 26 (0, 0)) (by (with_reducible repeat (first | refine blk_drewN ?_ _ | refine blk_drew ?_ | refine blk_alloc ?_ _)); refine blk_far ?_ NBq5.out _; (with_reducible repeat (first | refine blk_drewN ?_ _ | refine blk_drew ?_ | refine blk_alloc ?_ _)); refine blk_far ?_ NBq5.out _; (with_reducible repeat (first | refine blk_drewN ?_ _ | refine blk_drew ?_ | refine blk_alloc ?_ _)); exact BK215.out) k_ hk_), (Kd.freshB (g := gb253) (o := .cells #[.slice Ao99 t249.length co99, .int .i64 t252] 26 (0, 0)) (by (with_reducible repeat (first | refine blk_drewN ?_ _ | refine blk_drew ?_ | refine blk_alloc ?_ _)); refine blk_far ?_ NBq6.out _; (with_reducible repeat (first | refine blk_drewN ?_ _ | refine blk_drew ?_ | refine blk_alloc ?_ _)); refine blk_far ?_ NBq6.out _; (with_reducible repeat (first | refine blk_drewN ?_ _ | refine blk_drew ?_ | refine blk_alloc ?_ _)); exact BK253.out) k_ hk_), (Kd.freshB (g := gb271) (o := .cells #[.slice Ao134 t266.length co134, .int .i64 t269] 26 (0, 0)) (by (with_reducible repeat (first | refine blk_drewN ?_ _ | refine blk_drew ?_ | refine blk_alloc ?_ _)); refine blk_put (cs := #[.slice Ao134 t266.length co134, .int .i64 0]) ?_ 1 _ rfl; (with_reducible repeat (first | refine blk_drewN ?_ _ | refine blk_drew ?_ | refine blk_alloc ?_ _)); refine blk_put (cs := #[.slice none 0 0, .int .i64 0]) ?_ 0 _ rfl; (with_reducible repeat (first | refine blk_drewN ?_ _ | refine blk_drew ?_ | refine blk_alloc ?_ _)); exact BK271.out) k_ hk_)⟩)) (below_size (by repeat (first | (with_reducible first | exact HB.out | apply bA | apply bN | apply bD | refine bS ?_ GE215.out | refine bS ?_ GE253.out | refine bS ?_ GE271.out) | exact HB.out)))); replace HO_16 := aM (Kd.N_elder' (by (with_reducible repeat (first | apply Kd.N_alloc | apply Kd.N_drewN | apply Kd.N_drew)); exact (Kd.N_mono (Kd.N_far (p := ⟨gb271, 1, none⟩) (Kd.N_far (p := ⟨gb271, 0, none⟩) (Kd.N_mono HO_16.out (fun k_ hk => (⟨hk, hk.2⟩ : _ ∧ k_ ≠ gb271))) (fun _ hk => hk.2) (.slice Ao134 t266.length co134)) (fun _ hk => hk.2) (.int .i64 t269)) (fun _ h_ => h_.1))) (by first | exact Kd.N_base ho0 | exact Kd.S_base ho0 | exact Kd.R_base ho0) hb); replace HO265 := aM (Kd.N_elder' (by (with_reducible repeat (first | apply Kd.N_alloc | apply Kd.N_drewN | apply Kd.N_drew)); exact (Kd.N_mono (Kd.N_far (p := ⟨gb271, 1, none⟩) (Kd.N_far (p := ⟨gb271, 0, none⟩) (Kd.N_mono HO265.out (fun k_ hk => (⟨hk, hk.2⟩ : _ ∧ k_ ≠ gb271))) (fun _ hk => hk.2) (.slice Ao134 t266.length co134)) (fun _ hk => hk.2) (.int .i64 t269)) (fun _ h_ => h_.1))) (by first | exact Kd.N_base ho0 | exact Kd.S_base ho0 | exact Kd.R_base ho0) hb); replace BK215 := aM (kB (g := gb215) (o := .cells #[.slice Ao94 x216000_80.length co94, .int .i64 x216001_80] 26 (0, 0)) (by (with_reducible repeat (first | refine blk_drewN ?_ _ | refine blk_drew ?_ | refine blk_alloc ?_ _)); refine blk_far ?_ NBq5.out _; (with_reducible repeat (first | refine blk_drewN ?_ _ | refine blk_drew ?_ | refine blk_alloc ?_ _)); refine blk_far ?_ NBq5.out _; (with_reducible repeat (first | refine blk_drewN ?_ _ | refine blk_drew ?_ | refine blk_alloc ?_ _)); exact BK215.out) hb); replace BK253 := aM (kB (g := gb253) (o := .cells #[.slice Ao99 t249.length co99, .int .i64 t252] 26 (0, 0)) (by (with_reducible repeat (first | refine blk_drewN ?_ _ | refine blk_drew ?_ | refine blk_alloc ?_ _)); refine blk_far ?_ NBq6.out _; (with_reducible repeat (first | refine blk_drewN ?_ _ | refine blk_drew ?_ | refine blk_alloc ?_ _)); refine blk_far ?_ NBq6.out _; (with_reducible repeat (first | refine blk_drewN ?_ _ | refine blk_drew ?_ | refine blk_alloc ?_ _)); exact BK253.out) hb); replace BK271 := aM (kB (g := gb271) (o := .cells #[.slice Ao134 t266.length co134, .int .i64 t269] 26 (0, 0)) (by (with_reducible repeat (first | refine blk_drewN ?_ _ | refine blk_drew ?_ | refine blk_alloc ?_ _)); refine blk_put (cs := #[.slice Ao134 t266.length co134, .int .i64 0]) ?_ 1 _ rfl; (with_reducible repeat (first | refine blk_drewN ?_ _ | refine blk_drew ?_ | refine blk_alloc ?_ _)); refine blk_put (cs := #[.slice none 0 0, .int .i64 0]) ?_ 0 _ rfl; (with_reducible repeat (first | refine blk_drewN ?_ _ | refine blk_drew ?_ | refine blk_alloc ?_ _)); exact BK271.out) hb); replace HB := aM (below_step (by repeat (first | (with_reducible first | exact HB.out | apply bA | apply bN | apply bD | refine bS ?_ GE215.out | refine bS ?_ GE253.out | refine bS ?_ GE271.out) | exact HB.out)) hb); (try clear hb); (try clear hk)))
                      have n0_ := aM (Kd.V_drew HO_0.out)
                      have n1_ := aM (Kd.V_drew HO_3.out)
                      have n2_ := aM (Kd.N_drew HO_16.out)
                      have n3_ := aM (Kd.V_drew HOq0.out)
                      have n4_ := aM (Kd.V_drew HOq1.out)
                      have n5_ := aM (Kd.V_drew HO261.out)
                      have n6_ := aM (Kd.N_drew HO265.out)
                      have n7_ := aM (Kd.V_drew HO268.out)
                      have n8_ := aM (Kd.N_drew HO274.out)
                      have n9_ := aM (blk_drew BK215.out)
                      have n10_ := aM (blk_drew BK253.out)
                      have n11_ := aM (blk_drew BK271.out)
                      have n12_ := aM (bD HB.out)
                      clear HO_0
                      clear HO_3
                      clear HO_16
                      clear HOq0
                      clear HOq1
                      clear HO261
                      clear HO265
                      clear HO268
                      clear HO274
                      clear BK215
                      clear BK253
                      clear BK271
                      clear HB
                      have HO_0 := n0_
                      have HO_3 := n1_
                      have HO_16 := n2_
                      have HOq0 := n3_
                      have HOq1 := n4_
                      have HO261 := n5_
                      have HO265 := n6_
                      have HO268 := n7_
                      have HO274 := n8_
                      have BK215 := n9_
                      have BK253 := n10_
                      have BK271 := n11_
                      have HB := n12_
                      clear n0_ n1_ n2_ n3_ n4_ n5_ n6_ n7_ n8_ n9_ n10_ n11_ n12_
                      refine start_ (n := 7) (S := fun w' => w'.cell? ⟨gb253, 0, none⟩ = some (.slice Ao99 t249.length co99) ∧ w'.cell? ⟨gb253, 1, none⟩ = some (.int .i64 t252)) (ds := []) #[F_,F_,F_,F_,F_,F_,F_] (by kernel_rfl) rfl rfl ⟨(kC BK253.out 0).trans rfl, (kC BK253.out 1).trans rfl⟩ (fun hHeld => ?_)
                      generalize w138.drew = w139 at HO_0 HO_3 HO_16 HOq0 HOq1 HO261 HO265 HO268 HO274 BK215 BK253 BK271 HB hHeld ⊢
                      refine pure_ (i := 1) (N := some 108) (v := ?_) (a' := ?_) #[F_,T_,F_,F_,F_,F_,F_] rfl rfl (by kernel_rfl) (fun _ _ _ h => h) (Or.inl ⟨by rfl, ?_⟩) ?_ ?_
                      rotate_left
                      ·
                       intro w'
                       go_simp
                       with_reducible rfl
                      rotate_left
                      ·
                       simp only [Act.put, List.setIfInBounds_toArray, List.set_cons_zero, List.set_cons_succ, i64_w, i32_w]
                       rfl
                      refine take_ (i := 0) (N := some 107) (v := ?_) (a' := ?_) #[T_,T_,F_,F_,F_,F_,F_] rfl rfl (by kernel_rfl) (fun _ _ _ h => h) (Or.inl ⟨by rfl, ?_⟩) hHeld ?_ ?_
                      rotate_left
                      ·
                       rintro w' ⟨s0, s1⟩
                       go_simp
                       with_reducible rfl
                      rotate_left
                      ·
                       simp only [Act.put, List.setIfInBounds_toArray, List.set_cons_zero, List.set_cons_succ, i64_w, i32_w]
                       rfl
                      refine take_ (i := 4) (N := some 111) (v := ?_) (a' := ?_) #[T_,T_,F_,F_,T_,F_,F_] rfl rfl (by kernel_rfl) (fun _ _ _ h => h) (Or.inl ⟨by rfl, ?_⟩) hHeld ?_ ?_
                      rotate_left
                      ·
                       rintro w' ⟨s0, s1⟩
                       go_simp
                       with_reducible rfl
                      rotate_left
                      ·
                       simp only [Act.put, List.setIfInBounds_toArray, List.set_cons_zero, List.set_cons_succ, i64_w, i32_w]
                       rfl
                      refine one_ (i := 2) (N := some 109) #[T_,T_,T_,F_,T_,F_,F_] rfl rfl (by kernel_rfl) (by decide) (fun K hK => ?_)
                      refine goes_ Try.func12 (by kernel_rfl) rfl #[.agg #[.slice Ao99 t249.length co99, .int .i64 t252], .int .i64 a2] (by rfl) rfl rfl (by (try simp only [List.map_toArray, List.map_cons, List.map_nil]); first | done | rfl | (simp only [List.length_drop, List.length_take]; rfl)) ?_
                      with_reducible refine (wal_Crash.calls _ _ t249 t252 a2 t275 t278 _ ?side1 ?side2 A112.out).mono ?_
                      (case side1 => repeat (first | exact (Kd.V_reads' HOq1.out).2.2 | (with_reducible refine Kd.C_alloc ?_ _) | (with_reducible refine Kd.C_drewN ?_ _) | (with_reducible refine Kd.C_drew ?_)))
                      (case side2 => exact (Kd.V_reads' HOq1.out).2.1)
                      rintro e w140 ⟨v276, rfl, ho0, hb⟩
                      refine ⟨_, rfl, ?_⟩
                      have n0_ := aM (vB (vU HO_0.out) hb)
                      have n1_ := aM (vB (vU HO_3.out) hb)
                      have n2_ := aM (Kd.N_below (nU HO_16.out) hb)
                      have n3_ := aM (vB (vU HOq0.out) hb)
                      have n4_ := aM (vB (vU HOq1.out) hb)
                      have n5_ := aM (vB (vU HO261.out) hb)
                      have n6_ := aM (Kd.N_below (nU HO265.out) hb)
                      have n7_ := aM (vB (vU HO268.out) hb)
                      have n8_ := aM (Kd.N_below (nU HO274.out) hb)
                      have n9_ := aM (Kd.V_lower (Kd.V_mono (ok' := fun k_ => ((P0_ k_ ∨ P3_ k_) ∨ w.heap.size ≤ k_) ∧ some k_ ≠ (.slice Ao125 t254.length co125 : Value).ownBlock ∧ some k_ ≠ (.slice Ao131 y263.length co131 : Value).ownBlock ∧ some k_ ≠ (v273 : Value).ownBlock ∧ k_ ≠ gb215 ∧ k_ ≠ gb253 ∧ k_ ≠ gb271) ho0 (fun k_ hk_ => ⟨(.inr (Nat.le_trans (below_size (by repeat (first | (with_reducible first | exact HB.out | apply bA | apply bN | apply bD | refine bS ?_ GE215.out | refine bS ?_ GE253.out | refine bS ?_ GE271.out) | exact HB.out))) hk_)), (Kd.fresh' (Kd.N_lt (nU HO_16.out)) k_ hk_), (Kd.fresh' (Kd.N_lt (nU HO265.out)) k_ hk_), (Kd.fresh' (Kd.N_lt (nU HO274.out)) k_ hk_), (Kd.freshB (g := gb215) (o := .cells #[.slice Ao94 x216000_80.length co94, .int .i64 x216001_80] 26 (0, 0)) (bU BK215.out) k_ hk_), (Kd.freshB (g := gb253) (o := .cells #[.slice Ao99 t249.length co99, .int .i64 t252] 26 (0, 0)) (bU BK253.out) k_ hk_), (Kd.freshB (g := gb271) (o := .cells #[.slice Ao134 t266.length co134, .int .i64 t269] 26 (0, 0)) (bU BK271.out) k_ hk_)⟩)) (below_size (by repeat (first | (with_reducible first | exact HB.out | apply bA | apply bN | apply bD | refine bS ?_ GE215.out | refine bS ?_ GE253.out | refine bS ?_ GE271.out) | exact HB.out))))
                      have n10_ := aM (kB (g := gb215) (o := .cells #[.slice Ao94 x216000_80.length co94, .int .i64 x216001_80] 26 (0, 0)) (bU BK215.out) hb)
                      have n11_ := aM (kB (g := gb253) (o := .cells #[.slice Ao99 t249.length co99, .int .i64 t252] 26 (0, 0)) (bU BK253.out) hb)
                      have n12_ := aM (kB (g := gb271) (o := .cells #[.slice Ao134 t266.length co134, .int .i64 t269] 26 (0, 0)) (bU BK271.out) hb)
                      have n13_ := aM (below_step (by repeat (first | (with_reducible first | exact HB.out | apply bA | apply bN | apply bD | refine bS ?_ GE215.out | refine bS ?_ GE253.out | refine bS ?_ GE271.out) | exact HB.out)) hb)
                      clear HO_0
                      clear HO_3
                      clear HO_16
                      clear HOq0
                      clear HOq1
                      clear HO261
                      clear HO265
                      clear HO268
                      clear HO274
                      clear BK215
                      clear BK253
                      clear BK271
                      clear HB
                      have HO_0 := n0_
                      have HO_3 := n1_
                      have HO_16 := n2_
                      have HOq0 := n3_
                      have HOq1 := n4_
                      have HO261 := n5_
                      have HO265 := n6_
                      have HO268 := n7_
                      have HO274 := n8_
                      have HO277 := n9_
                      have BK215 := n10_
                      have BK253 := n11_
                      have BK271 := n12_
                      have HB := n13_
                      clear n0_ n1_ n2_ n3_ n4_ n5_ n6_ n7_ n8_ n9_ n10_ n11_ n12_ n13_
                      (try clear hb)
                      (try clear hb2)
                      (try clear hk)
                      (try clear hi)
                      (try clear ho0)
                      obtain ⟨Ao141, co141, eo141⟩ := Kd.V_slice HO277.out
                      (first | subst eo141 | (injection eo141 with f1_ f2_ f3_; have f4_ := f1_.symm; have f5_ := f3_.symm; clear f1_ f2_ f3_; subst f4_; subst f5_))
                      refine hK.out _ _ ⟨(kC BK253.out 0).trans rfl, (kC BK253.out 1).trans rfl⟩ (fun hHeld => ?_)
                      clear hK K
                      refine norm_ (a' := ?_) ?_ ?_
                      rotate_left
                      ·
                       show Act.put _ (some 109) _ = _
                       simp only [Act.put, List.setIfInBounds_toArray, List.set_cons_zero, List.set_cons_succ, i64_w, i32_w]
                       rfl
                      refine one_ (i := 3) (N := some 110) #[T_,T_,T_,T_,T_,F_,F_] rfl rfl (by kernel_rfl) (by decide) (fun K hK => ?_)
                      refine goes_ Try.func11 (by kernel_rfl) rfl #[.agg #[.slice Ao141 t275.length co141, .int .i64 t278]] (by rfl) rfl rfl (by (try simp only [List.map_toArray, List.map_cons, List.map_nil]); first | done | rfl | (simp only [List.length_drop, List.length_take]; rfl)) ?_
                      with_reducible refine (wal_Trim.calls _ _ t275 t278 t279 t282 _ ?side1 ?side2 A113.out).mono ?_
                      (case side1 => repeat (first | exact (Kd.V_reads' HO277.out).2.2 | (with_reducible refine Kd.C_alloc ?_ _) | (with_reducible refine Kd.C_drewN ?_ _) | (with_reducible refine Kd.C_drew ?_)))
                      (case side2 => exact (Kd.V_reads' HO277.out).2.1)
                      rintro e w142 ⟨v280, rfl, ho0, hb⟩
                      refine ⟨_, rfl, ?_⟩
                      have n0_ := aM (vB (vU HO_0.out) hb)
                      have n1_ := aM (vB (vU HO_3.out) hb)
                      have n2_ := aM (Kd.N_below (nU HO_16.out) hb)
                      have n3_ := aM (vB (vU HOq0.out) hb)
                      have n4_ := aM (vB (vU HOq1.out) hb)
                      have n5_ := aM (vB (vU HO261.out) hb)
                      have n6_ := aM (Kd.N_below (nU HO265.out) hb)
                      have n7_ := aM (vB (vU HO268.out) hb)
                      have n8_ := aM (Kd.N_below (nU HO274.out) hb)
                      have n9_ := aM (vB (vU HO277.out) hb)
                      have n10_ := aM (Kd.V_lower (Kd.V_mono (ok' := fun k_ => ((P0_ k_ ∨ P3_ k_) ∨ w.heap.size ≤ k_) ∧ some k_ ≠ (.slice Ao125 t254.length co125 : Value).ownBlock ∧ some k_ ≠ (.slice Ao131 y263.length co131 : Value).ownBlock ∧ some k_ ≠ (v273 : Value).ownBlock ∧ k_ ≠ gb215 ∧ k_ ≠ gb253 ∧ k_ ≠ gb271) ho0 (fun k_ hk_ => ⟨(.inr (Nat.le_trans (below_size (by repeat (first | (with_reducible first | exact HB.out | apply bA | apply bN | apply bD | refine bS ?_ GE215.out | refine bS ?_ GE253.out | refine bS ?_ GE271.out) | exact HB.out))) hk_)), (Kd.fresh' (Kd.N_lt (nU HO_16.out)) k_ hk_), (Kd.fresh' (Kd.N_lt (nU HO265.out)) k_ hk_), (Kd.fresh' (Kd.N_lt (nU HO274.out)) k_ hk_), (Kd.freshB (g := gb215) (o := .cells #[.slice Ao94 x216000_80.length co94, .int .i64 x216001_80] 26 (0, 0)) (bU BK215.out) k_ hk_), (Kd.freshB (g := gb253) (o := .cells #[.slice Ao99 t249.length co99, .int .i64 t252] 26 (0, 0)) (bU BK253.out) k_ hk_), (Kd.freshB (g := gb271) (o := .cells #[.slice Ao134 t266.length co134, .int .i64 t269] 26 (0, 0)) (bU BK271.out) k_ hk_)⟩)) (below_size (by repeat (first | (with_reducible first | exact HB.out | apply bA | apply bN | apply bD | refine bS ?_ GE215.out | refine bS ?_ GE253.out | refine bS ?_ GE271.out) | exact HB.out))))
                      have n11_ := aM (kB (g := gb215) (o := .cells #[.slice Ao94 x216000_80.length co94, .int .i64 x216001_80] 26 (0, 0)) (bU BK215.out) hb)
                      have n12_ := aM (kB (g := gb253) (o := .cells #[.slice Ao99 t249.length co99, .int .i64 t252] 26 (0, 0)) (bU BK253.out) hb)
                      have n13_ := aM (kB (g := gb271) (o := .cells #[.slice Ao134 t266.length co134, .int .i64 t269] 26 (0, 0)) (bU BK271.out) hb)
                      have n14_ := aM (below_step (by repeat (first | (with_reducible first | exact HB.out | apply bA | apply bN | apply bD | refine bS ?_ GE215.out | refine bS ?_ GE253.out | refine bS ?_ GE271.out) | exact HB.out)) hb)
                      clear HO_0
                      clear HO_3
                      clear HO_16
                      clear HOq0
                      clear HOq1
                      clear HO261
                      clear HO265
                      clear HO268
                      clear HO274
                      clear HO277
                      clear BK215
                      clear BK253
                      clear BK271
                      clear HB
                      have HO_0 := n0_
                      have HO_3 := n1_
                      have HO_16 := n2_
                      have HOq0 := n3_
                      have HOq1 := n4_
                      have HO261 := n5_
                      have HO265 := n6_
                      have HO268 := n7_
                      have HO274 := n8_
                      have HO277 := n9_
                      have HO281 := n10_
                      have BK215 := n11_
                      have BK253 := n12_
                      have BK271 := n13_
                      have HB := n14_
                      clear n0_ n1_ n2_ n3_ n4_ n5_ n6_ n7_ n8_ n9_ n10_ n11_ n12_ n13_ n14_
                      (try clear hb)
                      (try clear hb2)
                      (try clear hk)
                      (try clear hi)
                      (try clear ho0)
                      obtain ⟨Ao143, co143, eo143⟩ := Kd.V_slice HO281.out
                      (first | subst eo143 | (injection eo143 with f1_ f2_ f3_; have f4_ := f1_.symm; have f5_ := f3_.symm; clear f1_ f2_ f3_; subst f4_; subst f5_))
                      refine hK.out _ _ ⟨(kC BK253.out 0).trans rfl, (kC BK253.out 1).trans rfl⟩ (fun hHeld => ?_)
                      clear hK K
                      refine norm_ (a' := ?_) ?_ ?_
                      rotate_left
                      ·
                       show Act.put _ (some 110) _ = _
                       simp only [Act.put, List.setIfInBounds_toArray, List.set_cons_zero, List.set_cons_succ, i64_w, i32_w]
                       rfl
                      refine one_ (i := 5) (N := some 112) #[T_,T_,T_,T_,T_,T_,F_] rfl rfl (by kernel_rfl) (by decide) (fun K hK => ?_)
                      refine goes_ Try.func15 (by kernel_rfl) rfl #[.agg #[.slice Ao143 t279.length co143, .int .i64 t282], .agg #[.slice Ao99 t249.length co99, .int .i64 t252]] (by rfl) rfl rfl (by (try simp only [List.map_toArray, List.map_cons, List.map_nil]); first | done | rfl | (simp only [List.length_drop, List.length_take]; rfl)) ?_
                      with_reducible refine (banksmanref04_Same.calls _ _ t279 t282 _ _ t249 t252 t283 _ ?side1 ?side2 ?side3 ?side4 A114.out).mono ?_
                      (case side1 => repeat (first | exact (Kd.V_reads' HO281.out).2.2 | (with_reducible refine Kd.C_alloc ?_ _) | (with_reducible refine Kd.C_drewN ?_ _) | (with_reducible refine Kd.C_drew ?_)))
                      (case side2 => exact (Kd.V_reads' HO281.out).2.1)
                      (case side3 => repeat (first | exact (Kd.V_reads' HOq1.out).2.2 | (with_reducible refine Kd.C_alloc ?_ _) | (with_reducible refine Kd.C_drewN ?_ _) | (with_reducible refine Kd.C_drew ?_)))
                      (case side4 => exact (Kd.V_reads' HOq1.out).2.1)
                      rintro e w144 ⟨rfl, hb⟩
                      refine ⟨_, rfl, ?_⟩
                      have n0_ := aM (vB (vU HO_0.out) hb)
                      have n1_ := aM (vB (vU HO_3.out) hb)
                      have n2_ := aM (Kd.N_below (nU HO_16.out) hb)
                      have n3_ := aM (vB (vU HOq0.out) hb)
                      have n4_ := aM (vB (vU HOq1.out) hb)
                      have n5_ := aM (vB (vU HO261.out) hb)
                      have n6_ := aM (Kd.N_below (nU HO265.out) hb)
                      have n7_ := aM (vB (vU HO268.out) hb)
                      have n8_ := aM (Kd.N_below (nU HO274.out) hb)
                      have n9_ := aM (vB (vU HO277.out) hb)
                      have n10_ := aM (vB (vU HO281.out) hb)
                      have n11_ := aM (kB (g := gb215) (o := .cells #[.slice Ao94 x216000_80.length co94, .int .i64 x216001_80] 26 (0, 0)) (bU BK215.out) hb)
                      have n12_ := aM (kB (g := gb253) (o := .cells #[.slice Ao99 t249.length co99, .int .i64 t252] 26 (0, 0)) (bU BK253.out) hb)
                      have n13_ := aM (kB (g := gb271) (o := .cells #[.slice Ao134 t266.length co134, .int .i64 t269] 26 (0, 0)) (bU BK271.out) hb)
                      have n14_ := aM (below_step (by repeat (first | (with_reducible first | exact HB.out | apply bA | apply bN | apply bD | refine bS ?_ GE215.out | refine bS ?_ GE253.out | refine bS ?_ GE271.out) | exact HB.out)) hb)
                      clear HO_0
                      clear HO_3
                      clear HO_16
                      clear HOq0
                      clear HOq1
                      clear HO261
                      clear HO265
                      clear HO268
                      clear HO274
                      clear HO277
                      clear HO281
                      clear BK215
                      clear BK253
                      clear BK271
                      clear HB
                      have HO_0 := n0_
                      have HO_3 := n1_
                      have HO_16 := n2_
                      have HOq0 := n3_
                      have HOq1 := n4_
                      have HO261 := n5_
                      have HO265 := n6_
                      have HO268 := n7_
                      have HO274 := n8_
                      have HO277 := n9_
                      have HO281 := n10_
                      have BK215 := n11_
                      have BK253 := n12_
                      have BK271 := n13_
                      have HB := n14_
                      clear n0_ n1_ n2_ n3_ n4_ n5_ n6_ n7_ n8_ n9_ n10_ n11_ n12_ n13_ n14_
                      (try clear hb)
                      (try clear hb2)
                      (try clear hk)
                      (try clear hi)
                      refine hK.out _ _ ⟨(kC BK253.out 0).trans rfl, (kC BK253.out 1).trans rfl⟩ (fun hHeld => ?_)
                      clear hK K
                      refine norm_ (a' := ?_) ?_ ?_
                      rotate_left
                      ·
                       show Act.put _ (some 112) _ = _
                       simp only [Act.put, List.setIfInBounds_toArray, List.set_cons_zero, List.set_cons_succ, i64_w, i32_w]
                       rfl
                      refine pure_ (i := 6) (N := some 21) (v := ?_) (a' := ?_) #[T_,T_,T_,T_,T_,T_,T_] rfl rfl (by kernel_rfl) (fun _ _ _ h => h) (Or.inl ⟨by rfl, ?_⟩) ?_ ?_
                      rotate_left
                      ·
                       intro w'
                       go_simp
                       with_reducible rfl
                      rotate_left
                      ·
                       simp only [Act.put, List.setIfInBounds_toArray, List.set_cons_zero, List.set_cons_succ, i64_w, i32_w]
                       rfl
                      refine done_ (by kernel_rfl) ?_
                      try go_wp2
                      have n0_ := aM (Kd.V_drew HO_0.out)
                      have n1_ := aM (Kd.V_drew HO_3.out)
                      have n2_ := aM (Kd.N_drew HO_16.out)
                      have n3_ := aM (Kd.V_drew HOq0.out)
                      have n4_ := aM (Kd.V_drew HOq1.out)
                      have n5_ := aM (Kd.V_drew HO261.out)
                      have n6_ := aM (Kd.N_drew HO265.out)
                      have n7_ := aM (Kd.V_drew HO268.out)
                      have n8_ := aM (Kd.N_drew HO274.out)
                      have n9_ := aM (Kd.V_drew HO277.out)
                      have n10_ := aM (Kd.V_drew HO281.out)
                      have n11_ := aM (blk_drew BK215.out)
                      have n12_ := aM (blk_drew BK253.out)
                      have n13_ := aM (blk_drew BK271.out)
                      have n14_ := aM (bD HB.out)
                      clear HO_0
                      clear HO_3
                      clear HO_16
                      clear HOq0
                      clear HOq1
                      clear HO261
                      clear HO265
                      clear HO268
                      clear HO274
                      clear HO277
                      clear HO281
                      clear BK215
                      clear BK253
                      clear BK271
                      clear HB
                      have HO_0 := n0_
                      have HO_3 := n1_
                      have HO_16 := n2_
                      have HOq0 := n3_
                      have HOq1 := n4_
                      have HO261 := n5_
                      have HO265 := n6_
                      have HO268 := n7_
                      have HO274 := n8_
                      have HO277 := n9_
                      have HO281 := n10_
                      have BK215 := n11_
                      have BK253 := n12_
                      have BK271 := n13_
                      have HB := n14_
                      clear n0_ n1_ n2_ n3_ n4_ n5_ n6_ n7_ n8_ n9_ n10_ n11_ n12_ n13_ n14_
                      obtain ⟨Ao146, co146, eo146⟩ := Kd.N_slice HO274.out
                      (first | subst eo146 | (injection eo146 with f1_ f2_ f3_; have f4_ := f1_.symm; have f5_ := f3_.symm; clear f1_ f2_ f3_; subst f4_; subst f5_))
                      have q147 : ((t254.length : Int) : Int) ≤ ((t272.length : Int) : Int) := of_decide_eq_true (by first | (with_reducible assumption) | assumption)
                      obtain ⟨i0147, hi0147, _, hsz147, _⟩ := info_parts info23
                      have hroom147 : t272.length ≤ co146 := (Kd.N_reads' HO274.out).2.1
                      have hC147 : Kd.F (Kd.slice 5 (Kd.int .u8)) _ _ Ao146 t272.length t272 := (Kd.V_at (base := w.heap.size) (Kd.N_V HO274.out)).2.2
                      have hcut147 := cut_to (P := Try.prog) 22 23 .i64 Try.underlying22 hi0147 Ao146 t272.length co146 (t254.length : Int) (of_decide_eq_true (by first | (with_reducible assumption) | assumption)) q147 hroom147
                      have hr147 := Kd.F_take (m := ((t254.length : Int) : Int).toNat) hC147 (by omega)
                      have hy147 : y284.length = ((t254.length : Int) : Int).toNat := (by rw [Ny284.out, List.length_take]; omega)
                      rw [← Ny284.out] at hr147
                      rw [← hy147] at hcut147
                      have HO288 := aM (show Kd.V (Kd.slice 5 (Kd.int .u8)) 23 _ w.heap.size _ (.slice Ao146 y284.length co146) y284 from Kd.V_mk (by omega) hr147)
                      have HC288 := aM (show y284.length ≤ co146 from by omega)
                      clear hr147 hC147 hroom147 hi0147 hsz147
                      have KY147 := aM hy147
                      clear hy147
                      replace q147 := eq_true q147
                      have p290 : 0 ≤ ((t254.length : Int) : Int) := of_decide_eq_true (by first | (with_reducible assumption) | assumption)
                      have q290 : (t254.length : Int) < (t272.length : Int) := of_decide_eq_true (by first | (with_reducible assumption) | assumption)
                      obtain ⟨ad290, A290_0, c290_0, e290, hx290_0, hl290_0, hi290_0⟩ := at_L1 (Kd.N_reads' HO274.out).2.2 (t254.length : Int) p290 q290
                      cases e290
                      obtain ⟨ce290, hce290, hMe290, hcc290⟩ := Kd.N_get HO274.out [] (t254.length : Int) p290 (by first | exact q290 | exact of_decide_eq_true (by first | (with_reducible assumption) | assumption) | (have e_ := (Kd.N_reads' HO274.out).1; omega))
                      obtain ⟨ua290_0, uc290_0, rfl, ul290_0, ge290_0⟩ := Kd.FK_slice_open hMe290
                      have hv290_0 := hcc290 0 _ rfl
                      rw [Nat.add_zero, show ((Kd.slice 5 (Kd.int .u8))).sz = 1 from rfl, Nat.mul_one] at hv290_0
                      replace hv290_0 := Option.some.inj (hv290_0.symm.trans hx290_0)
                      injection hv290_0 with hva_ hvn_ hvc_
                      rw [hva_] at ge290_0
                      rw [hvc_] at ul290_0
                      have HLq3 := aM (show Kd.V (Kd.int .u8) 5 _ w.heap.size _ _ (rd_L1 t272 (t254.length : Int)) from Kd.V_mk ul290_0 ge290_0)
                      clear hva_ hvn_ hvc_ ge290_0 ul290_0
                      clear hcc290 hce290
                      have HRq3 := aM hi290_0
                      have HCq3 := aM hl290_0
                      clear hi290_0 hl290_0
                      (try simp only [Go.IntWalk.toNatUp] at hx290_0)
                      replace p290 := eq_true p290
                      replace q290 := eq_true q290
                      refine start_ (n := 39) (S := fun w' => w'.cell? (ad290.add t254.length) = some (.slice A290_0 (rd_L1 t272 (t254.length : Int)).length c290_0) ∧ (convert 23 9 (.slice A290_0 (rd_L1 t272 (t254.length : Int)).length c290_0)).run Try.prog w' = .ok (.string (strOfNums (rd_L1 t272 (t254.length : Int)))) w' ∧ (convert 23 9 (.slice A3 l3.length c3)).run Try.prog w' = .ok (.string (strOfNums l3)) w') (ds := []) #[F_,F_,F_,F_,F_,F_,F_,F_,F_,F_,F_,F_,F_,F_,F_,F_,F_,F_,F_,F_,F_,F_,F_,F_,F_,F_,F_,F_,F_,F_,F_,F_,F_,F_,F_,F_,F_,F_,F_] (by kernel_rfl) rfl rfl ⟨(hx290_0), (Kd.C_string (P := Try.prog) (A := A290_0) (c := c290_0) Try.underlying23 Try.underlying5 Try.underlying9 (by repeat (first | (with_reducible exact HRq3.out) | (with_reducible refine Kd.C_alloc ?_ _) | (with_reducible refine Kd.C_drewN ?_ _) | (with_reducible refine Kd.C_drew ?_) | exact HRq3.out))), (Kd.C_string (P := Try.prog) (A := A3) (c := c3) Try.underlying23 Try.underlying5 Try.underlying9 (Kd.V_reads' HO_3.out).2.2)⟩ (fun hHeld => ?_); refine with_tabW banksmanlaw04_WalCrashes.tab28 banksmanlaw04_WalCrashes.bits28 (fun HT_ HW_ => ?_)
                      generalize w144.drew = w145 at HO_0 HO_3 HO_16 HOq0 HOq1 HO261 HO265 HO268 HO274 HO277 HO281 BK215 BK253 BK271 HB HLq3 HO288 HRq3 hx290_0 hHeld ⊢
                      refine pure_ (i := 0) (N := some 113) (v := ?_) (a' := ?_) #[T_,F_,F_,F_,F_,F_,F_,F_,F_,F_,F_,F_,F_,F_,F_,F_,F_,F_,F_,F_,F_,F_,F_,F_,F_,F_,F_,F_,F_,F_,F_,F_,F_,F_,F_,F_,F_,F_,F_] rfl rfl (any_of HT_.out (by kernel_rfl)) (fun _ _ _ h => h) (Or.inl ⟨by rfl, ?_⟩) ?_ ?_
                      rotate_left
                      ·
                       intro w'
                       go_simp
                       with_reducible rfl
                      rotate_left
                      ·
                       simp only [Act.put, List.setIfInBounds_toArray, List.set_cons_zero, List.set_cons_succ, i64_w, i32_w]
                       rfl
                      refine pure_ (i := 1) (N := some 114) (v := ?_) (a' := ?_) #[T_,T_,F_,F_,F_,F_,F_,F_,F_,F_,F_,F_,F_,F_,F_,F_,F_,F_,F_,F_,F_,F_,F_,F_,F_,F_,F_,F_,F_,F_,F_,F_,F_,F_,F_,F_,F_,F_,F_] rfl rfl (any_of HT_.out (by kernel_rfl)) (fun _ _ _ h => h) (Or.inl ⟨by rfl, ?_⟩) ?_ ?_
                      rotate_left
                      ·
                       intro w'
                       go_simp
                       with_reducible rfl
                      rotate_left
                      ·
                       simp only [Act.put, List.setIfInBounds_toArray, List.set_cons_zero, List.set_cons_succ, i64_w, i32_w]
                       rfl
                      refine pure_ (i := 2) (N := some 115) (v := ?_) (a' := ?_) #[T_,T_,T_,F_,F_,F_,F_,F_,F_,F_,F_,F_,F_,F_,F_,F_,F_,F_,F_,F_,F_,F_,F_,F_,F_,F_,F_,F_,F_,F_,F_,F_,F_,F_,F_,F_,F_,F_,F_] rfl rfl (any_of HT_.out (by kernel_rfl)) (fun _ _ _ h => h) (Or.inl ⟨by rfl, ?_⟩) ?_ ?_
                      rotate_left
                      ·
                       intro w'
                       go_simp
                       with_reducible rfl
                      rotate_left
                      ·
                       simp only [Act.put, List.setIfInBounds_toArray, List.set_cons_zero, List.set_cons_succ, i64_w, i32_w]
                       rfl
                      refine pure_ (i := 3) (N := some 116) (v := ?_) (a' := ?_) #[T_,T_,T_,T_,F_,F_,F_,F_,F_,F_,F_,F_,F_,F_,F_,F_,F_,F_,F_,F_,F_,F_,F_,F_,F_,F_,F_,F_,F_,F_,F_,F_,F_,F_,F_,F_,F_,F_,F_] rfl rfl (any_of HT_.out (by kernel_rfl)) (fun _ _ _ h => h) (Or.inl ⟨by rfl, ?_⟩) ?_ ?_
                      rotate_left
                      ·
                       intro w'
                       go_simp
                       with_reducible rfl
                      rotate_left
                      ·
                       simp only [Act.put, List.setIfInBounds_toArray, List.set_cons_zero, List.set_cons_succ, i64_w, i32_w]
                       rfl
                      refine pure_ (i := 4) (N := some 117) (v := ?_) (a' := ?_) #[T_,T_,T_,T_,T_,F_,F_,F_,F_,F_,F_,F_,F_,F_,F_,F_,F_,F_,F_,F_,F_,F_,F_,F_,F_,F_,F_,F_,F_,F_,F_,F_,F_,F_,F_,F_,F_,F_,F_] rfl rfl (any_of HT_.out (by kernel_rfl)) (fun _ _ _ h => h) (Or.inl ⟨by rfl, ?_⟩) ?_ ?_
                      rotate_left
                      ·
                       intro w'
                       go_simp
                       with_reducible rfl
                      rotate_left
                      ·
                       simp only [Act.put, List.setIfInBounds_toArray, List.set_cons_zero, List.set_cons_succ, i64_w, i32_w]
                       rfl
                      refine pure_ (i := 5) (N := some 118) (v := ?_) (a' := ?_) #[T_,T_,T_,T_,T_,T_,F_,F_,F_,F_,F_,F_,F_,F_,F_,F_,F_,F_,F_,F_,F_,F_,F_,F_,F_,F_,F_,F_,F_,F_,F_,F_,F_,F_,F_,F_,F_,F_,F_] rfl rfl (any_of HT_.out (by kernel_rfl)) (fun _ _ _ h => h) (Or.inl ⟨by rfl, ?_⟩) ?_ ?_
                      rotate_left
                      ·
                       intro w'
                       go_simp
                       with_reducible rfl
                      rotate_left
                      ·
                       simp only [Act.put, List.setIfInBounds_toArray, List.set_cons_zero, List.set_cons_succ, i64_w, i32_w]
                       rfl
                      refine pure_ (i := 6) (N := some 119) (v := ?_) (a' := ?_) #[T_,T_,T_,T_,T_,T_,T_,F_,F_,F_,F_,F_,F_,F_,F_,F_,F_,F_,F_,F_,F_,F_,F_,F_,F_,F_,F_,F_,F_,F_,F_,F_,F_,F_,F_,F_,F_,F_,F_] rfl rfl (any_of HT_.out (by kernel_rfl)) (fun _ _ _ h => h) (Or.inl ⟨by rfl, ?_⟩) ?_ ?_
                      rotate_left
                      ·
                       intro w'
                       go_simp
                       with_reducible rfl
                      rotate_left
                      ·
                       simp only [Act.put, List.setIfInBounds_toArray, List.set_cons_zero, List.set_cons_succ, i64_w, i32_w]
                       rfl
                      refine pure_ (i := 7) (N := some 120) (v := ?_) (a' := ?_) #[T_,T_,T_,T_,T_,T_,T_,T_,F_,F_,F_,F_,F_,F_,F_,F_,F_,F_,F_,F_,F_,F_,F_,F_,F_,F_,F_,F_,F_,F_,F_,F_,F_,F_,F_,F_,F_,F_,F_] rfl rfl (any_of HT_.out (by kernel_rfl)) (fun _ _ _ h => h) (Or.inl ⟨by rfl, ?_⟩) ?_ ?_
                      rotate_left
                      ·
                       intro w'
                       go_simp
                       with_reducible rfl
                      rotate_left
                      ·
                       simp only [Act.put, List.setIfInBounds_toArray, List.set_cons_zero, List.set_cons_succ, i64_w, i32_w]
                       rfl
                      refine pure_ (i := 8) (N := some 121) (v := ?_) (a' := ?_) #[T_,T_,T_,T_,T_,T_,T_,T_,T_,F_,F_,F_,F_,F_,F_,F_,F_,F_,F_,F_,F_,F_,F_,F_,F_,F_,F_,F_,F_,F_,F_,F_,F_,F_,F_,F_,F_,F_,F_] rfl rfl (any_of HT_.out (by kernel_rfl)) (fun _ _ _ h => h) (Or.inl ⟨by rfl, ?_⟩) ?_ ?_
                      rotate_left
                      ·
                       intro w'
                       go_simp
                       with_reducible rfl
                      rotate_left
                      ·
                       simp only [Act.put, List.setIfInBounds_toArray, List.set_cons_zero, List.set_cons_succ, i64_w, i32_w]
                       rfl
                      refine pure_ (i := 9) (N := some 122) (v := ?_) (a' := ?_) #[T_,T_,T_,T_,T_,T_,T_,T_,T_,T_,F_,F_,F_,F_,F_,F_,F_,F_,F_,F_,F_,F_,F_,F_,F_,F_,F_,F_,F_,F_,F_,F_,F_,F_,F_,F_,F_,F_,F_] rfl rfl (any_of HT_.out (by kernel_rfl)) (fun _ _ _ h => h) (Or.inl ⟨by rfl, ?_⟩) ?_ ?_
                      rotate_left
                      ·
                       intro w'
                       go_simp
                       with_reducible rfl
                      rotate_left
                      ·
                       simp only [Act.put, List.setIfInBounds_toArray, List.set_cons_zero, List.set_cons_succ, i64_w, i32_w]
                       rfl
                      refine pure_ (i := 10) (N := some 123) (v := ?_) (a' := ?_) #[T_,T_,T_,T_,T_,T_,T_,T_,T_,T_,T_,F_,F_,F_,F_,F_,F_,F_,F_,F_,F_,F_,F_,F_,F_,F_,F_,F_,F_,F_,F_,F_,F_,F_,F_,F_,F_,F_,F_] rfl rfl (any_of HT_.out (by kernel_rfl)) (fun _ _ _ h => h) (Or.inl ⟨by rfl, ?_⟩) ?_ ?_
                      rotate_left
                      ·
                       intro w'
                       go_simp
                       with_reducible rfl
                      rotate_left
                      ·
                       simp only [Act.put, List.setIfInBounds_toArray, List.set_cons_zero, List.set_cons_succ, i64_w, i32_w]
                       rfl
                      refine pure_ (i := 11) (N := some 124) (v := ?_) (a' := ?_) #[T_,T_,T_,T_,T_,T_,T_,T_,T_,T_,T_,T_,F_,F_,F_,F_,F_,F_,F_,F_,F_,F_,F_,F_,F_,F_,F_,F_,F_,F_,F_,F_,F_,F_,F_,F_,F_,F_,F_] rfl rfl (any_of HT_.out (by kernel_rfl)) (fun _ _ _ h => h) (Or.inl ⟨by rfl, ?_⟩) ?_ ?_
                      rotate_left
                      ·
                       intro w'
                       go_simp
                       with_reducible rfl
                      rotate_left
                      ·
                       simp only [Act.put, List.setIfInBounds_toArray, List.set_cons_zero, List.set_cons_succ, i64_w, i32_w]
                       rfl
                      refine pure_ (i := 12) (N := some 125) (v := ?_) (a' := ?_) #[T_,T_,T_,T_,T_,T_,T_,T_,T_,T_,T_,T_,T_,F_,F_,F_,F_,F_,F_,F_,F_,F_,F_,F_,F_,F_,F_,F_,F_,F_,F_,F_,F_,F_,F_,F_,F_,F_,F_] rfl rfl (any_of HT_.out (by kernel_rfl)) (fun _ _ _ h => h) (Or.inl ⟨by rfl, ?_⟩) ?_ ?_
                      rotate_left
                      ·
                       intro w'
                       go_simp
                       with_reducible rfl
                      rotate_left
                      ·
                       simp only [Act.put, List.setIfInBounds_toArray, List.set_cons_zero, List.set_cons_succ, i64_w, i32_w]
                       rfl
                      refine pure_ (i := 13) (N := some 126) (v := ?_) (a' := ?_) #[T_,T_,T_,T_,T_,T_,T_,T_,T_,T_,T_,T_,T_,T_,F_,F_,F_,F_,F_,F_,F_,F_,F_,F_,F_,F_,F_,F_,F_,F_,F_,F_,F_,F_,F_,F_,F_,F_,F_] rfl rfl (any_of HT_.out (by kernel_rfl)) (fun _ _ _ h => h) (Or.inl ⟨by rfl, ?_⟩) ?_ ?_
                      rotate_left
                      ·
                       intro w'
                       go_simp
                       with_reducible rfl
                      rotate_left
                      ·
                       simp only [Act.put, List.setIfInBounds_toArray, List.set_cons_zero, List.set_cons_succ, i64_w, i32_w]
                       rfl
                      refine pure_ (i := 14) (N := some 127) (v := ?_) (a' := ?_) #[T_,T_,T_,T_,T_,T_,T_,T_,T_,T_,T_,T_,T_,T_,T_,F_,F_,F_,F_,F_,F_,F_,F_,F_,F_,F_,F_,F_,F_,F_,F_,F_,F_,F_,F_,F_,F_,F_,F_] rfl rfl (any_of HT_.out (by kernel_rfl)) (fun _ _ _ h => h) (Or.inl ⟨by rfl, ?_⟩) ?_ ?_
                      rotate_left
                      ·
                       intro w'
                       go_simp
                       with_reducible rfl
                      rotate_left
                      ·
                       simp only [Act.put, List.setIfInBounds_toArray, List.set_cons_zero, List.set_cons_succ, i64_w, i32_w]
                       rfl
                      refine pure_ (i := 15) (N := some 128) (v := ?_) (a' := ?_) #[T_,T_,T_,T_,T_,T_,T_,T_,T_,T_,T_,T_,T_,T_,T_,T_,F_,F_,F_,F_,F_,F_,F_,F_,F_,F_,F_,F_,F_,F_,F_,F_,F_,F_,F_,F_,F_,F_,F_] rfl rfl (any_of HT_.out (by kernel_rfl)) (fun _ _ _ h => h) (Or.inl ⟨by rfl, ?_⟩) ?_ ?_
                      rotate_left
                      ·
                       intro w'
                       go_simp
                       with_reducible rfl
                      rotate_left
                      ·
                       simp only [Act.put, List.setIfInBounds_toArray, List.set_cons_zero, List.set_cons_succ, i64_w, i32_w]
                       rfl
                      refine pure_ (i := 16) (N := some 129) (v := ?_) (a' := ?_) #[T_,T_,T_,T_,T_,T_,T_,T_,T_,T_,T_,T_,T_,T_,T_,T_,T_,F_,F_,F_,F_,F_,F_,F_,F_,F_,F_,F_,F_,F_,F_,F_,F_,F_,F_,F_,F_,F_,F_] rfl rfl (any_of HT_.out (by kernel_rfl)) (fun _ _ _ h => h) (Or.inl ⟨by rfl, ?_⟩) ?_ ?_
                      rotate_left
                      ·
                       intro w'
                       go_simp
                       with_reducible rfl
                      rotate_left
                      ·
                       simp only [Act.put, List.setIfInBounds_toArray, List.set_cons_zero, List.set_cons_succ, i64_w, i32_w]
                       rfl
                      refine pure_ (i := 17) (N := some 130) (v := ?_) (a' := ?_) #[T_,T_,T_,T_,T_,T_,T_,T_,T_,T_,T_,T_,T_,T_,T_,T_,T_,T_,F_,F_,F_,F_,F_,F_,F_,F_,F_,F_,F_,F_,F_,F_,F_,F_,F_,F_,F_,F_,F_] rfl rfl (any_of HT_.out (by kernel_rfl)) (fun _ _ _ h => h) (Or.inl ⟨by rfl, ?_⟩) ?_ ?_
                      rotate_left
                      ·
                       intro w'
                       go_simp
                       with_reducible rfl
                      rotate_left
                      ·
                       simp only [Act.put, List.setIfInBounds_toArray, List.set_cons_zero, List.set_cons_succ, i64_w, i32_w]
                       rfl
                      refine pure_ (i := 18) (N := some 131) (v := ?_) (a' := ?_) #[T_,T_,T_,T_,T_,T_,T_,T_,T_,T_,T_,T_,T_,T_,T_,T_,T_,T_,T_,F_,F_,F_,F_,F_,F_,F_,F_,F_,F_,F_,F_,F_,F_,F_,F_,F_,F_,F_,F_] rfl rfl (any_of HT_.out (by kernel_rfl)) (fun _ _ _ h => h) (Or.inl ⟨by rfl, ?_⟩) ?_ ?_
                      rotate_left
                      ·
                       intro w'
                       go_simp
                       with_reducible rfl
                      rotate_left
                      ·
                       simp only [Act.put, List.setIfInBounds_toArray, List.set_cons_zero, List.set_cons_succ, i64_w, i32_w]
                       rfl
                      refine pure_ (i := 19) (N := some 132) (v := ?_) (a' := ?_) #[T_,T_,T_,T_,T_,T_,T_,T_,T_,T_,T_,T_,T_,T_,T_,T_,T_,T_,T_,T_,F_,F_,F_,F_,F_,F_,F_,F_,F_,F_,F_,F_,F_,F_,F_,F_,F_,F_,F_] rfl rfl (any_of HT_.out (by kernel_rfl)) (fun _ _ _ h => h) (Or.inl ⟨by rfl, ?_⟩) ?_ ?_
                      rotate_left
                      ·
                       intro w'
                       go_simp
                       with_reducible rfl
                      rotate_left
                      ·
                       simp only [Act.put, List.setIfInBounds_toArray, List.set_cons_zero, List.set_cons_succ, i64_w, i32_w]
                       rfl
                      refine pure_ (i := 20) (N := some 133) (v := ?_) (a' := ?_) #[T_,T_,T_,T_,T_,T_,T_,T_,T_,T_,T_,T_,T_,T_,T_,T_,T_,T_,T_,T_,T_,F_,F_,F_,F_,F_,F_,F_,F_,F_,F_,F_,F_,F_,F_,F_,F_,F_,F_] rfl rfl (any_of HT_.out (by kernel_rfl)) (fun _ _ _ h => h) (Or.inl ⟨by rfl, ?_⟩) ?_ ?_
                      rotate_left
                      ·
                       intro w'
                       go_simp
                       with_reducible rfl
                      rotate_left
                      ·
                       simp only [Act.put, List.setIfInBounds_toArray, List.set_cons_zero, List.set_cons_succ, i64_w, i32_w]
                       rfl
                      refine pure_ (i := 21) (N := some 134) (v := ?_) (a' := ?_) #[T_,T_,T_,T_,T_,T_,T_,T_,T_,T_,T_,T_,T_,T_,T_,T_,T_,T_,T_,T_,T_,T_,F_,F_,F_,F_,F_,F_,F_,F_,F_,F_,F_,F_,F_,F_,F_,F_,F_] rfl rfl (any_of HT_.out (by kernel_rfl)) (fun _ _ _ h => h) (Or.inl ⟨by rfl, ?_⟩) ?_ ?_
                      rotate_left
                      ·
                       intro w'
                       go_simp
                       with_reducible rfl
                      rotate_left
                      ·
                       simp only [Act.put, List.setIfInBounds_toArray, List.set_cons_zero, List.set_cons_succ, i64_w, i32_w]
                       rfl
                      refine one_ (i := 22) (N := some 135) #[T_,T_,T_,T_,T_,T_,T_,T_,T_,T_,T_,T_,T_,T_,T_,T_,T_,T_,T_,T_,T_,T_,T_,F_,F_,F_,F_,F_,F_,F_,F_,F_,F_,F_,F_,F_,F_,F_,F_] rfl rfl (one_of HT_.out (by kernel_rfl)) (by decide) (fun K hK => ?_)
                      refine goes_ Try.func14 (by kernel_rfl) rfl #[.slice (some ad290) y284.length co146, .slice Ao125 t254.length co125] (by rfl) rfl rfl (by (try simp only [List.map_toArray, List.map_cons, List.map_nil]); first | done | rfl | (simp only [List.length_drop, List.length_take]; rfl)) ?_
                      with_reducible refine (banksmanref03_Same.calls kj91 _ _ y284 _ _ t254 true _ ?side1 ?side2 ?side3 ?side4 A121.out).mono ?_
                      (case side1 => repeat (first | exact (Kd.V_reads' HO288.out).2.2 | (with_reducible refine Kd.C_alloc ?_ _) | (with_reducible refine Kd.C_drewN ?_ _) | (with_reducible refine Kd.C_drew ?_)))
                      (case side2 => exact (Kd.V_reads' HO288.out).2.1)
                      (case side3 => repeat (first | exact (Kd.N_reads' HO_16.out).2.2 | (with_reducible refine Kd.C_alloc ?_ _) | (with_reducible refine Kd.C_drewN ?_ _) | (with_reducible refine Kd.C_drew ?_)))
                      (case side4 => exact (Kd.N_reads' HO_16.out).2.1)
                      rintro e w' ⟨rfl, ⟨nd, rfl⟩⟩
                      refine ⟨_, rfl, ?_⟩
                      have hcv148 := Kd.C_string (P := Try.prog) (A := A290_0) (c := c290_0) Try.underlying23 Try.underlying5 Try.underlying9 (by repeat (first | (with_reducible exact HRq3.out) | (with_reducible refine Kd.C_alloc ?_ _) | (with_reducible refine Kd.C_drewN ?_ _) | (with_reducible refine Kd.C_drew ?_) | exact HRq3.out))
                      have hcv149 := Kd.C_string (P := Try.prog) (A := A3) (c := c3) Try.underlying23 Try.underlying5 Try.underlying9 (Kd.V_reads' HO_3.out).2.2
                      refine hK.out _ _ ⟨(hHeld.1), (Kd.C_string (P := Try.prog) (A := A290_0) (c := c290_0) Try.underlying23 Try.underlying5 Try.underlying9 (by repeat (first | (with_reducible exact HRq3.out) | (with_reducible refine Kd.C_alloc ?_ _) | (with_reducible refine Kd.C_drewN ?_ _) | (with_reducible refine Kd.C_drew ?_) | exact HRq3.out))), (Kd.C_string (P := Try.prog) (A := A3) (c := c3) Try.underlying23 Try.underlying5 Try.underlying9 (Kd.V_reads' HO_3.out).2.2)⟩ (fun hHeld => ?_)
                      clear hK K
                      refine norm_ (a' := ?_) ?_ ?_
                      rotate_left
                      ·
                       show Act.put _ (some 135) _ = _
                       simp only [Act.put, List.setIfInBounds_toArray, List.set_cons_zero, List.set_cons_succ, i64_w, i32_w]
                       rfl
                      refine pure_ (i := 23) (N := some 136) (v := ?_) (a' := ?_) #[T_,T_,T_,T_,T_,T_,T_,T_,T_,T_,T_,T_,T_,T_,T_,T_,T_,T_,T_,T_,T_,T_,T_,T_,F_,F_,F_,F_,F_,F_,F_,F_,F_,F_,F_,F_,F_,F_,F_] rfl rfl (any_of HT_.out (by kernel_rfl)) (fun _ _ _ h => h) (Or.inl ⟨by rfl, ?_⟩) ?_ ?_
                      rotate_left
                      ·
                       intro w'
                       go_simp
                       with_reducible rfl
                      rotate_left
                      ·
                       simp only [Act.put, List.setIfInBounds_toArray, List.set_cons_zero, List.set_cons_succ, i64_w, i32_w]
                       rfl
                      refine pure_ (i := 24) (N := some 137) (v := ?_) (a' := ?_) #[T_,T_,T_,T_,T_,T_,T_,T_,T_,T_,T_,T_,T_,T_,T_,T_,T_,T_,T_,T_,T_,T_,T_,T_,T_,F_,F_,F_,F_,F_,F_,F_,F_,F_,F_,F_,F_,F_,F_] rfl rfl (any_of HT_.out (by kernel_rfl)) (fun _ _ _ h => h) (Or.inl ⟨by rfl, ?_⟩) ?_ ?_
                      rotate_left
                      ·
                       intro w'
                       go_simp
                       with_reducible rfl
                      rotate_left
                      ·
                       simp only [Act.put, List.setIfInBounds_toArray, List.set_cons_zero, List.set_cons_succ, i64_w, i32_w]
                       rfl
                      refine pure_ (i := 25) (N := some 138) (v := ?_) (a' := ?_) #[T_,T_,T_,T_,T_,T_,T_,T_,T_,T_,T_,T_,T_,T_,T_,T_,T_,T_,T_,T_,T_,T_,T_,T_,T_,T_,F_,F_,F_,F_,F_,F_,F_,F_,F_,F_,F_,F_,F_] rfl rfl (any_of HT_.out (by kernel_rfl)) (fun _ _ _ h => h) (Or.inl ⟨by rfl, ?_⟩) ?_ ?_
                      rotate_left
                      ·
                       intro w'
                       go_simp
                       with_reducible rfl
                      rotate_left
                      ·
                       simp only [Act.put, List.setIfInBounds_toArray, List.set_cons_zero, List.set_cons_succ, i64_w, i32_w]
                       rfl
                      refine pure_ (i := 26) (N := some 139) (v := ?_) (a' := ?_) #[T_,T_,T_,T_,T_,T_,T_,T_,T_,T_,T_,T_,T_,T_,T_,T_,T_,T_,T_,T_,T_,T_,T_,T_,T_,T_,T_,F_,F_,F_,F_,F_,F_,F_,F_,F_,F_,F_,F_] rfl rfl (any_of HT_.out (by kernel_rfl)) (fun _ _ _ h => h) (Or.inl ⟨by rfl, ?_⟩) ?_ ?_
                      rotate_left
                      ·
                       intro w'
                       go_simp
                       with_reducible rfl
                      rotate_left
                      ·
                       simp only [Act.put, List.setIfInBounds_toArray, List.set_cons_zero, List.set_cons_succ, i64_w, i32_w]
                       rfl
                      refine pure_ (i := 27) (N := some 140) (v := ?_) (a' := ?_) #[T_,T_,T_,T_,T_,T_,T_,T_,T_,T_,T_,T_,T_,T_,T_,T_,T_,T_,T_,T_,T_,T_,T_,T_,T_,T_,T_,T_,F_,F_,F_,F_,F_,F_,F_,F_,F_,F_,F_] rfl rfl (any_of HT_.out (by kernel_rfl)) (fun _ _ _ h => h) (Or.inl ⟨by rfl, ?_⟩) ?_ ?_
                      rotate_left
                      ·
                       intro w'
                       go_simp
                       with_reducible rfl
                      rotate_left
                      ·
                       simp only [Act.put, List.setIfInBounds_toArray, List.set_cons_zero, List.set_cons_succ, i64_w, i32_w]
                       rfl
                      refine pure_ (i := 28) (N := some 141) (v := ?_) (a' := ?_) #[T_,T_,T_,T_,T_,T_,T_,T_,T_,T_,T_,T_,T_,T_,T_,T_,T_,T_,T_,T_,T_,T_,T_,T_,T_,T_,T_,T_,T_,F_,F_,F_,F_,F_,F_,F_,F_,F_,F_] rfl rfl (any_of HT_.out (by kernel_rfl)) (fun _ _ _ h => h) (Or.inl ⟨by rfl, ?_⟩) ?_ ?_
                      rotate_left
                      ·
                       intro w'
                       go_simp
                       with_reducible rfl
                      rotate_left
                      ·
                       simp only [Act.put, List.setIfInBounds_toArray, List.set_cons_zero, List.set_cons_succ, i64_w, i32_w]
                       rfl
                      refine pure_ (i := 31) (N := some 144) (v := ?_) (a' := ?_) #[T_,T_,T_,T_,T_,T_,T_,T_,T_,T_,T_,T_,T_,T_,T_,T_,T_,T_,T_,T_,T_,T_,T_,T_,T_,T_,T_,T_,T_,F_,F_,T_,F_,F_,F_,F_,F_,F_,F_] rfl rfl (any_of HT_.out (by kernel_rfl)) (fun _ _ _ h => h) (Or.inl ⟨by rfl, ?_⟩) ?_ ?_
                      rotate_left
                      ·
                       intro w'
                       go_simp
                       with_reducible rfl
                      rotate_left
                      ·
                       simp only [Act.put, List.setIfInBounds_toArray, List.set_cons_zero, List.set_cons_succ, i64_w, i32_w]
                       rfl
                      refine take_ (i := 32) (N := some 145) (v := ?_) (a' := ?_) #[T_,T_,T_,T_,T_,T_,T_,T_,T_,T_,T_,T_,T_,T_,T_,T_,T_,T_,T_,T_,T_,T_,T_,T_,T_,T_,T_,T_,T_,F_,F_,T_,T_,F_,F_,F_,F_,F_,F_] rfl rfl (take_ofW HT_.out HW_.out (by kernel_rfl)) (fun _ _ _ h => h) (Or.inl ⟨by rfl, ?_⟩) hHeld ?_ ?_
                      rotate_left
                      ·
                       rintro w' ⟨s0, s1, s2⟩
                       go_simp
                       with_reducible rfl
                      rotate_left
                      ·
                       simp only [Act.put, List.setIfInBounds_toArray, List.set_cons_zero, List.set_cons_succ, i64_w, i32_w]
                       rfl
                      refine take_ (i := 29) (N := some 142) (v := ?_) (a' := ?_) #[T_,T_,T_,T_,T_,T_,T_,T_,T_,T_,T_,T_,T_,T_,T_,T_,T_,T_,T_,T_,T_,T_,T_,T_,T_,T_,T_,T_,T_,T_,F_,T_,T_,F_,F_,F_,F_,F_,F_] rfl rfl (take_ofW HT_.out HW_.out (by kernel_rfl)) (fun _ _ _ h => h) (Or.inl ⟨by rfl, ?_⟩) hHeld ?_ ?_
                      rotate_left
                      ·
                       rintro w' ⟨s0, s1, s2⟩
                       go_simp
                       with_reducible rfl
                      rotate_left
                      ·
                       simp only [Act.put, List.setIfInBounds_toArray, List.set_cons_zero, List.set_cons_succ, i64_w, i32_w]
                       rfl
                      refine take_ (i := 30) (N := some 143) (v := ?_) (a' := ?_) #[T_,T_,T_,T_,T_,T_,T_,T_,T_,T_,T_,T_,T_,T_,T_,T_,T_,T_,T_,T_,T_,T_,T_,T_,T_,T_,T_,T_,T_,T_,T_,T_,T_,F_,F_,F_,F_,F_,F_] rfl rfl (take_ofW HT_.out HW_.out (by kernel_rfl)) (fun _ _ _ h => h) (Or.inl ⟨by rfl, ?_⟩) hHeld ?_ ?_
                      rotate_left
                      ·
                       rintro w' ⟨s0, s1, s2⟩
                       go_simp
                       with_reducible rfl
                      rotate_left
                      ·
                       simp only [Act.put, List.setIfInBounds_toArray, List.set_cons_zero, List.set_cons_succ, i64_w, i32_w]
                       rfl
                      refine pure_ (i := 33) (N := some 146) (v := ?_) (a' := ?_) #[T_,T_,T_,T_,T_,T_,T_,T_,T_,T_,T_,T_,T_,T_,T_,T_,T_,T_,T_,T_,T_,T_,T_,T_,T_,T_,T_,T_,T_,T_,T_,T_,T_,T_,F_,F_,F_,F_,F_] rfl rfl (any_of HT_.out (by kernel_rfl)) (fun _ _ _ h => h) (Or.inl ⟨by rfl, ?_⟩) ?_ ?_
                      rotate_left
                      ·
                       intro w'
                       go_simp
                       with_reducible rfl
                      rotate_left
                      ·
                       simp only [Act.put, List.setIfInBounds_toArray, List.set_cons_zero, List.set_cons_succ, i64_w, i32_w]
                       rfl
                      refine pure_ (i := 34) (N := some 147) (v := ?_) (a' := ?_) #[T_,T_,T_,T_,T_,T_,T_,T_,T_,T_,T_,T_,T_,T_,T_,T_,T_,T_,T_,T_,T_,T_,T_,T_,T_,T_,T_,T_,T_,T_,T_,T_,T_,T_,T_,F_,F_,F_,F_] rfl rfl (any_of HT_.out (by kernel_rfl)) (fun _ _ _ h => h) (Or.inl ⟨by rfl, ?_⟩) ?_ ?_
                      rotate_left
                      ·
                       intro w'
                       go_simp
                       with_reducible rfl
                      rotate_left
                      ·
                       simp only [Act.put, List.setIfInBounds_toArray, List.set_cons_zero, List.set_cons_succ, i64_w, i32_w]
                       rfl
                      refine pure_ (i := 35) (N := some 148) (v := ?_) (a' := ?_) #[T_,T_,T_,T_,T_,T_,T_,T_,T_,T_,T_,T_,T_,T_,T_,T_,T_,T_,T_,T_,T_,T_,T_,T_,T_,T_,T_,T_,T_,T_,T_,T_,T_,T_,T_,T_,F_,F_,F_] rfl rfl (any_of HT_.out (by kernel_rfl)) (fun _ _ _ h => h) (Or.inl ⟨by rfl, ?_⟩) ?_ ?_
                      rotate_left
                      ·
                       intro w'
                       go_simp
                       with_reducible rfl
                      rotate_left
                      ·
                       simp only [Act.put, List.setIfInBounds_toArray, List.set_cons_zero, List.set_cons_succ, i64_w, i32_w]
                       rfl
                      refine pure_ (i := 36) (N := some 149) (v := ?_) (a' := ?_) #[T_,T_,T_,T_,T_,T_,T_,T_,T_,T_,T_,T_,T_,T_,T_,T_,T_,T_,T_,T_,T_,T_,T_,T_,T_,T_,T_,T_,T_,T_,T_,T_,T_,T_,T_,T_,T_,F_,F_] rfl rfl (any_of HT_.out (by kernel_rfl)) (fun _ _ _ h => h) (Or.inl ⟨by rfl, ?_⟩) ?_ ?_
                      rotate_left
                      ·
                       intro w'
                       go_simp
                       with_reducible rfl
                      rotate_left
                      ·
                       simp only [Act.put, List.setIfInBounds_toArray, List.set_cons_zero, List.set_cons_succ, i64_w, i32_w]
                       rfl
                      refine pure_ (i := 37) (N := some 150) (v := ?_) (a' := ?_) #[T_,T_,T_,T_,T_,T_,T_,T_,T_,T_,T_,T_,T_,T_,T_,T_,T_,T_,T_,T_,T_,T_,T_,T_,T_,T_,T_,T_,T_,T_,T_,T_,T_,T_,T_,T_,T_,T_,F_] rfl rfl (any_of HT_.out (by kernel_rfl)) (fun _ _ _ h => h) (Or.inl ⟨by rfl, ?_⟩) ?_ ?_
                      rotate_left
                      ·
                       intro w'
                       go_simp
                       with_reducible rfl
                      rotate_left
                      ·
                       simp only [Act.put, List.setIfInBounds_toArray, List.set_cons_zero, List.set_cons_succ, i64_w, i32_w]
                       rfl
                      refine pure_ (i := 38) (N := some 8) (v := ?_) (a' := ?_) #[T_,T_,T_,T_,T_,T_,T_,T_,T_,T_,T_,T_,T_,T_,T_,T_,T_,T_,T_,T_,T_,T_,T_,T_,T_,T_,T_,T_,T_,T_,T_,T_,T_,T_,T_,T_,T_,T_,T_] rfl rfl (any_of HT_.out (by kernel_rfl)) (fun _ _ _ h => h) (Or.inl ⟨by rfl, ?_⟩) ?_ ?_
                      rotate_left
                      ·
                       intro w'
                       go_simp
                       with_reducible rfl
                      rotate_left
                      ·
                       simp only [Act.put, List.setIfInBounds_toArray, List.set_cons_zero, List.set_cons_succ, i64_w, i32_w]
                       rfl
                      refine done_ (done_of HT_.out (by kernel_rfl)) ?_
                      try go_wp2
                      go_ret
                      exact ⟨by first | rfl | (simp [errW_none, errW_some] <;> rfl) | (simp [*, errW_none, errW_some] <;> rfl), by repeat (first | (with_reducible first | exact HB.out | apply bA | apply bN | apply bD | refine bS ?_ GE215.out | refine bS ?_ GE253.out | refine bS ?_ GE271.out) | exact HB.out)⟩
                     ·
                      rw [if_neg c124] at H
                      rw [HTr_] at H
                      exact absurd (Option.some.inj H) (by decide)
                    ·
                     rw [if_neg c123] at H
                     exact absurd H (by simp)
                   ·
                    replace c122 := Bool.eq_false_iff.mpr c122
                    subst c122
                    have H1 : (some false) = some r := by rw [if_neg (show ¬ (false = true) by decide)] at H; exact H
                    rw [HTr_] at H1
                    exact absurd (Option.some.inj H1) (by decide)
                  ·
                   rw [if_neg c120] at H
                   exact absurd H (by simp)
                 ·
                  rw [if_neg c118] at H
                  rw [HTr_] at H
                  exact absurd (Option.some.inj H) (by decide)
                ·
                 rw [if_neg c117] at H
                 rw [HTr_] at H
                 exact absurd (Option.some.inj H) (by decide)
               ·
                replace c116 := Bool.eq_false_iff.mpr c116
                subst c116
                have H1 : (some false) = some r := by rw [if_neg (show ¬ (false = true) by decide)] at H; exact H
                rw [HTr_] at H1
                exact absurd (Option.some.inj H1) (by decide)
              ·
               replace c115 := Bool.eq_false_iff.mpr c115
               subst c115
               have H1 : (some false) = some r := by rw [if_neg (show ¬ (false = true) by decide)] at H; exact H
               rw [HTr_] at H1
               exact absurd (Option.some.inj H1) (by decide)
             ·
              rw [if_neg c108] at H
              exact absurd H (by simp)
            ·
             rw [if_neg c107] at H
             exact absurd H (by simp)

/-- The law, plainly. -/
def banksmanlaw04_WalCrashes.Pure : Prop := ∀ (l0 : List (List Int)) (a1 : Int) (a2 : Int) (l3 : List Int), (fun xs_ : List (List Int) => xs_.length ≤ maxLen ∧ ∀ x ∈ xs_, (fun xs_ : List Int => xs_.length ≤ maxLen ∧ ∀ x ∈ xs_, (fun n_ : Int => (Lit.int .u8 n_).wf = true) x) x) l0 → (fun n_ : Int => (Lit.int .u8 n_).wf = true) a1 → (fun n_ : Int => (Lit.int .i64 n_).wf = true) a2 → (fun xs_ : List Int => xs_.length ≤ maxLen ∧ ∀ x ∈ xs_, (fun n_ : Int => (Lit.int .u8 n_).wf = true) x) l3 → ∃ k, banksmanlaw04_WalCrashes.f k l0 a1 a2 l3 = some true

end Go.Proofs.Ytbenenpkbdldmaa.P
