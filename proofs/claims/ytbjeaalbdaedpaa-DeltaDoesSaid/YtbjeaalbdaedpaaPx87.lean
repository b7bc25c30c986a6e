import Derived.Test.YtbjeaalbdaedpaaPx1
import Derived.Test.YtbjeaalbdaedpaaPx0
import Derived.Test.YtbjeaalbdaedpaaPx83
import Derived.Test.YtbjeaalbdaedpaaPx84
import Derived.Test.YtbjeaalbdaedpaaPx85
import Derived.Test.YtbjeaalbdaedpaaPx86
namespace Go.Proofs.Ytbjeaalbdaedpaa.P
open Go.RowKit Go.Proofs.YtbjeaalbdaedpaaW.PrintWords Go.Proofs.YtbjeaalbdaedpaaW.PrintLast Go.Proofs.YtbjeaalbdaedpaaW.PrintMore
attribute [local go_sem] max2_int min2_int max_two min_two max_three min_three max_four min_four
set_option linter.unusedVariables false
set_option linter.unusedSimpArgs false
def banksmanref08_Put.j0 : Nat → Bool → List (S28) → List Int → Int → List Int → Bool → List Int → List (S28) → List Int → Option ((List (S28)) × List Int × Int)
  | 0, _, _, _, _, _, _, _, _, _ => none
  | k + 1, x20, x229000, x229001, x230000, x230001, x230002, x230003, x238000, x238001 => if x20 = true then (some (x238000, x238001, 1)) else (if (x229000.length : Int) ≥ 20 then (some (x238000, x238001, 80)) else ((banksmanref08_write.f x230000 x230001 x230002 x230003).bind fun bt240 => (if x238000.length < 2199023255552 then (some ((x238000 ++ [(⟨bt240.1, bt240.2.1, bt240.2.2.1, bt240.2.2.2⟩ : S28)]), x238001, 0)) else (none))))
def banksmanref08_Put.f (k : Nat) (l0_0 : List (S28)) (l0_1 : List Int) (a1_0 : Int) (l1_1 : List Int) (a1_2 : Bool) (l1_3 : List Int) : Option ((List (S28)) × List Int × Int) := (banksmanref08_Copy.f k l0_0 l0_1).bind fun bt231 => ((banksmanref08_Check.f k l0_0 l0_1).bind fun t238 => ((banksmanref07_May.f a1_0 l1_1 a1_2 l1_3).bind fun t239 => (if t238 = true then (banksmanref08_Put.j0 k (!t239) l0_0 l0_1 a1_0 l1_1 a1_2 l1_3 bt231.1 bt231.2) else (banksmanref08_Put.j0 k true l0_0 l0_1 a1_0 l1_1 a1_2 l1_3 bt231.1 bt231.2))))
def banksmanref08_Put.T8 : Bool × List (List Nat × List Nat) := (true, [([], []), ([0], [0]), ([], []), ([2], [2]), ([3], [3]), ([1, 4, 3], [1, 4]), ([0, 1, 2, 3, 4, 5], []), ([6, 5, 5, 0, 1, 2, 3, 4, 5], [5, 6])])
def banksmanref08_Put.B8 : List Nat := [0, 1, 0, 4, 12, 31, 63, 127]
theorem banksmanref08_Put.tab8 : rtab .any (opsOf Try.f11 8) = banksmanref08_Put.T8 := by kernel_rfl
theorem banksmanref08_Put.bits8 : waitsOk banksmanref08_Put.T8.2 banksmanref08_Put.B8 = true := by kernel_rfl
set_option maxHeartbeats 8000000 in
set_option maxRecDepth 100000 in
theorem banksmanref08_Put.calls (k : Nat) (A0_0 : Option Addr) (c0_0 : Nat) (l0_0 : List (S28)) (A0_1 : Option Addr) (c0_1 : Nat) (l0_1 : List Int) (a1_0 : Int) (A1_1 : Option Addr) (c1_1 : Nat) (l1_1 : List Int) (a1_2 : Bool) (A1_3 : Option Addr) (c1_3 : Nat) (l1_3 : List Int) (r1 : List (S28)) (r2 : List Int) (r3 : Int) (w : World) (hr0_0 : Kd.C k28 w A0_0 l0_0.length l0_0) (hc0_0 : l0_0.length ≤ c0_0) (hr0_1 : Kd.C (Kd.int .i64) w A0_1 l0_1.length l0_1) (hc0_1 : l0_1.length ≤ c0_1) (hr1_1 : Kd.C (Kd.int .u8) w A1_1 l1_1.length l1_1) (hc1_1 : l1_1.length ≤ c1_1) (hr1_3 : Kd.C (Kd.int .u8) w A1_3 l1_3.length l1_3) (hc1_3 : l1_3.length ≤ c1_3) (h : banksmanref08_Put.f k l0_0 l0_1 a1_0 l1_1 a1_2 l1_3 = some (r1, r2, r3)) :
  Calls Try.prog 11 #[.agg #[.slice A0_0 l0_0.length c0_0, .slice A0_1 l0_1.length c0_1], .agg #[.int .i64 a1_0, .slice A1_1 l1_1.length c1_1, .bool a1_2, .slice A1_3 l1_3.length c1_3]] w fun e w' => ∃ v0_ v1_ : Value, e = .returned (.tuple #[.agg #[v0_, v1_], .int .i64 r3]) ∧ Kd.S k28 28 w' w.heap.size (fun _ => True) v0_ r1 ∧ Kd.R (Kd.int .i64) 3 w' w.heap.size (fun _ => True) v1_ r2 ∧ Below w.heap.size w w' := by
 have hu25 := Try.underlying25
 have hu28 := Try.underlying28
 have HR0_0 := aM hr0_0
 have HC0_0 := aM hc0_0
 clear hr0_0 hc0_0
 have HR0_1 := aM hr0_1
 have HC0_1 := aM hc0_1
 clear hr0_1 hc0_1
 have HR1_1 := aM hr1_1
 have HC1_1 := aM hc1_1
 clear hr1_1 hc1_1
 have HR1_3 := aM hr1_3
 have HC1_3 := aM hc1_3
 clear hr1_3 hc1_3
 have HB := aM (Below.refl w.heap.size w)
 have H : ((banksmanref08_Copy.f k l0_0 l0_1).bind fun bt231 => ((banksmanref08_Check.f k l0_0 l0_1).bind fun t238 => ((banksmanref07_May.f a1_0 l1_1 a1_2 l1_3).bind fun t239 => (if t238 = true then (banksmanref08_Put.j0 k (!t239) l0_0 l0_1 a1_0 l1_1 a1_2 l1_3 bt231.1 bt231.2) else (banksmanref08_Put.j0 k true l0_0 l0_1 a1_0 l1_1 a1_2 l1_3 bt231.1 bt231.2))))) = some (r1, r2, r3) := h
 clear h
 replace H := Option.bind_eq_some_iff.mp H
 obtain ⟨⟨t231, t234⟩, A30, H⟩ := H
 replace H : ((banksmanref08_Check.f k l0_0 l0_1).bind fun t238 => ((banksmanref07_May.f a1_0 l1_1 a1_2 l1_3).bind fun t239 => (if t238 = true then (banksmanref08_Put.j0 k (!t239) l0_0 l0_1 a1_0 l1_1 a1_2 l1_3 t231 t234) else (banksmanref08_Put.j0 k true l0_0 l0_1 a1_0 l1_1 a1_2 l1_3 t231 t234)))) = some (r1, r2, r3) := H
 have A3 := aM A30
 clear A30
 replace H := Option.bind_eq_some_iff.mp H
 obtain ⟨t238, A40, H⟩ := H
 replace H : ((banksmanref07_May.f a1_0 l1_1 a1_2 l1_3).bind fun t239 => (if t238 = true then (banksmanref08_Put.j0 k (!t239) l0_0 l0_1 a1_0 l1_1 a1_2 l1_3 t231 t234) else (banksmanref08_Put.j0 k true l0_0 l0_1 a1_0 l1_1 a1_2 l1_3 t231 t234))) = some (r1, r2, r3) := H
 have A4 := aM A40
 clear A40
 replace H := Option.bind_eq_some_iff.mp H
 obtain ⟨t239, A50, H⟩ := H
 replace H : (if t238 = true then (banksmanref08_Put.j0 k (!t239) l0_0 l0_1 a1_0 l1_1 a1_2 l1_3 t231 t234) else (banksmanref08_Put.j0 k true l0_0 l0_1 a1_0 l1_1 a1_2 l1_3 t231 t234)) = some (r1, r2, r3) := H
 have A5 := aM A50
 clear A50
 have HC6 := aM H
 clear H
 go_enter Try.func11, Try.ntmps11
 go_upto_region 4 with (first | ((with_reducible refine gate_dst (N := 2) rfl ?_); refine box_event ?hg (N := 2) ?hd (cs := #[.slice A0_0 l0_0.length c0_0, .slice A0_1 l0_1.length c0_1]) (t := 25) ?hr ?_; (case hd => rfl); (case hg => rfl); (case hr => first | (go_simp; done) | (go_simp; rfl)); intro gb228 hg w7 hbox hb; have BK228 := aM (hbox); have GW228 := aM ((by rw [hg]; exact (below_size (by repeat (first | (with_reducible first | exact HB.out | apply bA | apply bN | apply bD) | exact HB.out))) : w.heap.size ≤ gb228)); have GE228 := aM ((by rw [hg]; exact (below_size (by repeat (first | (with_reducible first | exact HB.out | apply bA | apply bN | apply bD) | exact HB.out))) : w.heap.size ≤ gb228)); replace HB := aM (below_step (by repeat (first | (with_reducible first | exact HB.out | apply bA | apply bN | apply bD) | exact HB.out)) hb); clear hb hbox hg) | ((with_reducible refine gate_dst (N := 3) rfl ?_); refine box_event ?hg (N := 3) ?hd (cs := #[.int .i64 a1_0, .slice A1_1 l1_1.length c1_1, .bool a1_2, .slice A1_3 l1_3.length c1_3]) (t := 28) ?hr ?_; (case hd => rfl); (case hg => rfl); (case hr => first | (go_simp; done) | (go_simp; rfl)); intro gb229 hg w8 hbox hb; have BK229 := aM (hbox); have GW229 := aM ((by rw [hg]; exact (below_size (by repeat (first | (with_reducible first | exact HB.out | apply bA | apply bN | apply bD | refine bS ?_ GE228.out) | exact HB.out))) : w.heap.size ≤ gb229)); have GE229 := aM ((by rw [hg]; exact (below_size (by repeat (first | (with_reducible first | exact HB.out | apply bA | apply bN | apply bD | refine bS ?_ GE228.out) | exact HB.out))) : w.heap.size ≤ gb229)); replace HB := aM (below_step (by repeat (first | (with_reducible first | exact HB.out | apply bA | apply bN | apply bD | refine bS ?_ GE228.out) | exact HB.out)) hb); have NBq10 := aM ((by rw [hg]; exact Nat.ne_of_lt (blk_lt (g := gb228) (o := .cells #[.slice A0_0 l0_0.length c0_0, .slice A0_1 l0_1.length c0_1] 25 (0, 0)) (bU BK228.out)) : gb228 ≠ gb229)); have NBq11 := aM ((by rw [hg]; exact Nat.ne_of_gt (blk_lt (g := gb228) (o := .cells #[.slice A0_0 l0_0.length c0_0, .slice A0_1 l0_1.length c0_1] 25 (0, 0)) (bU BK228.out)) : gb229 ≠ gb228)); replace BK228 := aM (kB (g := gb228) (o := .cells #[.slice A0_0 l0_0.length c0_0, .slice A0_1 l0_1.length c0_1] 25 (0, 0)) (bU BK228.out) hb); clear hb hbox hg) | ((with_reducible refine gate_dst (N := 4) rfl ?_); refine box_event ?hg (N := 4) ?hd (cs := #[.slice none 0 0, .slice none 0 0]) (t := 25) ?hr ?_; (case hd => rfl); (case hg => rfl); (case hr => first | (go_simp; done) | (go_simp; rfl)); intro gb230 hg w9 hbox hb; have BK230 := aM (hbox); have GW230 := aM ((by rw [hg]; exact (below_size (by repeat (first | (with_reducible first | exact HB.out | apply bA | apply bN | apply bD | refine bS ?_ GE228.out | refine bS ?_ GE229.out) | exact HB.out))) : w.heap.size ≤ gb230)); have GE230 := aM ((by rw [hg]; exact (below_size (by repeat (first | (with_reducible first | exact HB.out | apply bA | apply bN | apply bD | refine bS ?_ GE228.out | refine bS ?_ GE229.out) | exact HB.out))) : w.heap.size ≤ gb230)); replace HB := aM (below_step (by repeat (first | (with_reducible first | exact HB.out | apply bA | apply bN | apply bD | refine bS ?_ GE228.out | refine bS ?_ GE229.out) | exact HB.out)) hb); have NBq6 := aM ((by rw [hg]; exact Nat.ne_of_lt (blk_lt (g := gb228) (o := .cells #[.slice A0_0 l0_0.length c0_0, .slice A0_1 l0_1.length c0_1] 25 (0, 0)) (bU BK228.out)) : gb228 ≠ gb230)); have NBq7 := aM ((by rw [hg]; exact Nat.ne_of_gt (blk_lt (g := gb228) (o := .cells #[.slice A0_0 l0_0.length c0_0, .slice A0_1 l0_1.length c0_1] 25 (0, 0)) (bU BK228.out)) : gb230 ≠ gb228)); replace BK228 := aM (kB (g := gb228) (o := .cells #[.slice A0_0 l0_0.length c0_0, .slice A0_1 l0_1.length c0_1] 25 (0, 0)) (bU BK228.out) hb); have NBq8 := aM ((by rw [hg]; exact Nat.ne_of_lt (blk_lt (g := gb229) (o := .cells #[.int .i64 a1_0, .slice A1_1 l1_1.length c1_1, .bool a1_2, .slice A1_3 l1_3.length c1_3] 28 (0, 0)) (bU BK229.out)) : gb229 ≠ gb230)); have NBq9 := aM ((by rw [hg]; exact Nat.ne_of_gt (blk_lt (g := gb229) (o := .cells #[.int .i64 a1_0, .slice A1_1 l1_1.length c1_1, .bool a1_2, .slice A1_3 l1_3.length c1_3] 28 (0, 0)) (bU BK229.out)) : gb230 ≠ gb229)); replace BK229 := aM (kB (g := gb229) (o := .cells #[.int .i64 a1_0, .slice A1_1 l1_1.length c1_1, .bool a1_2, .slice A1_3 l1_3.length c1_3] 28 (0, 0)) (bU BK229.out) hb); clear hb hbox hg; have hnb10 := NBq10.out; have hnc10 := NBq11.out; have hnb11 := NBq6.out; have hnc11 := NBq7.out; have hcz12_0 : w9.cell? ⟨gb228, 0, none⟩ = some (.slice A0_0 l0_0.length c0_0) := (kC BK228.out 0).trans rfl; have hcz12_1 : w9.cell? ⟨gb228, 1, none⟩ = some (.slice A0_1 l0_1.length c0_1) := (kC BK228.out 1).trans rfl; have hfz12_0 := kF BK228.out 0; have hfz12_1 := kF BK228.out 1) | ((with_reducible refine gate_callee (f := 32) rfl ?_); refine goesL_ (some 10) rfl rfl Try.func32 (by kernel_rfl) rfl #[.agg #[.slice A0_0 l0_0.length c0_0, .slice A0_1 l0_1.length c0_1]] rfl (by (try simp only [List.map_toArray, List.map_cons, List.map_nil]); first | done | rfl | (simp only [List.length_drop, List.length_take]; rfl)) ?_; (with_reducible refine (banksmanref08_Copy.calls k _ _ l0_0 _ _ l0_1 t231 t234 _ ?side1 ?side2 ?side3 ?side4 A3.out).mono ?_); (case side1 => repeat (first | exact (Kd.C_below HR0_0.out HB.out) | (with_reducible refine Kd.C_alloc ?_ _) | (with_reducible refine Kd.C_drewN ?_ _) | (with_reducible refine Kd.C_drew ?_))); (case side2 => exact HC0_0.out); (case side3 => repeat (first | exact (Kd.C_below HR0_1.out HB.out) | (with_reducible refine Kd.C_alloc ?_ _) | (with_reducible refine Kd.C_drewN ?_ _) | (with_reducible refine Kd.C_drew ?_))); (case side4 => exact HC0_1.out); rintro e w13 ⟨v232, v235, rfl, ho0, ho1, hb⟩; refine ⟨_, rfl, ?_⟩; have HO233 := aM (Kd.S_lower (Kd.S_newB ho0 (g := gb229) (o := .cells #[.int .i64 a1_0, .slice A1_1 l1_1.length c1_1, .bool a1_2, .slice A1_3 l1_3.length c1_3] 28 (0, 0)) (bU BK229.out)) (below_size (by repeat (first | (with_reducible first | exact HB.out | apply bA | apply bN | apply bD | refine bS ?_ GE228.out | refine bS ?_ GE229.out | refine bS ?_ GE230.out) | exact HB.out)))); have HO236 := aM (Kd.R_lower ho1 (below_size (by repeat (first | (with_reducible first | exact HB.out | apply bA | apply bN | apply bD | refine bS ?_ GE228.out | refine bS ?_ GE229.out | refine bS ?_ GE230.out) | exact HB.out)))); replace BK228 := aM (kB (g := gb228) (o := .cells #[.slice A0_0 l0_0.length c0_0, .slice A0_1 l0_1.length c0_1] 25 (0, 0)) (bU BK228.out) hb); replace BK229 := aM (kB (g := gb229) (o := .cells #[.int .i64 a1_0, .slice A1_1 l1_1.length c1_1, .bool a1_2, .slice A1_3 l1_3.length c1_3] 28 (0, 0)) (bU BK229.out) hb); replace BK230 := aM (kB (g := gb230) (o := .cells #[.slice none 0 0, .slice none 0 0] 25 (0, 0)) (bU BK230.out) hb); replace HB := aM (below_step (by repeat (first | (with_reducible first | exact HB.out | apply bA | apply bN | apply bD | refine bS ?_ GE228.out | refine bS ?_ GE229.out | refine bS ?_ GE230.out) | exact HB.out)) hb); (try clear hb); (try clear hk); (try clear ho1)) | ((with_reducible refine gate_dst (N := 6) rfl ?_); refine box_event ?hg (N := 6) ?hd (cs := #[.slice none 0 0, .slice none 0 0]) (t := 25) ?hr ?_; (case hd => rfl); (case hg => rfl); (case hr => first | (go_simp; done) | (go_simp; rfl)); intro gb237 hg w14 hbox hb; replace HO233 := aM (Kd.S_below (by (with_reducible repeat (first | apply Kd.S_alloc | apply Kd.S_drewN | apply Kd.S_drew)); exact HO233.out) hb); replace HO236 := aM (Kd.R_below (rU HO236.out) hb); have BK237 := aM (hbox); have GW237 := aM ((by rw [hg]; exact (below_size (by repeat (first | (with_reducible first | exact HB.out | apply bA | apply bN | apply bD | refine bS ?_ GE228.out | refine bS ?_ GE229.out | refine bS ?_ GE230.out) | exact HB.out))) : w.heap.size ≤ gb237)); have GE237 := aM ((by rw [hg]; exact (below_size (by repeat (first | (with_reducible first | exact HB.out | apply bA | apply bN | apply bD | refine bS ?_ GE228.out | refine bS ?_ GE229.out | refine bS ?_ GE230.out) | exact HB.out))) : w.heap.size ≤ gb237)); replace HB := aM (below_step (by repeat (first | (with_reducible first | exact HB.out | apply bA | apply bN | apply bD | refine bS ?_ GE228.out | refine bS ?_ GE229.out | refine bS ?_ GE230.out) | exact HB.out)) hb); have NBq1 := aM ((by rw [hg]; exact Nat.ne_of_lt (blk_lt (g := gb228) (o := .cells #[.slice A0_0 l0_0.length c0_0, .slice A0_1 l0_1.length c0_1] 25 (0, 0)) (bU BK228.out)) : gb228 ≠ gb237)); have NBq3 := aM ((by rw [hg]; exact Nat.ne_of_gt (blk_lt (g := gb228) (o := .cells #[.slice A0_0 l0_0.length c0_0, .slice A0_1 l0_1.length c0_1] 25 (0, 0)) (bU BK228.out)) : gb237 ≠ gb228)); replace BK228 := aM (kB (g := gb228) (o := .cells #[.slice A0_0 l0_0.length c0_0, .slice A0_1 l0_1.length c0_1] 25 (0, 0)) (bU BK228.out) hb); have NBq2 := aM ((by rw [hg]; exact Nat.ne_of_lt (blk_lt (g := gb229) (o := .cells #[.int .i64 a1_0, .slice A1_1 l1_1.length c1_1, .bool a1_2, .slice A1_3 l1_3.length c1_3] 28 (0, 0)) (bU BK229.out)) : gb229 ≠ gb237)); have NBq4 := aM ((by rw [hg]; exact Nat.ne_of_gt (blk_lt (g := gb229) (o := .cells #[.int .i64 a1_0, .slice A1_1 l1_1.length c1_1, .bool a1_2, .slice A1_3 l1_3.length c1_3] 28 (0, 0)) (bU BK229.out)) : gb237 ≠ gb229)); replace BK229 := aM (kB (g := gb229) (o := .cells #[.int .i64 a1_0, .slice A1_1 l1_1.length c1_1, .bool a1_2, .slice A1_3 l1_3.length c1_3] 28 (0, 0)) (bU BK229.out) hb); have NBq0 := aM ((by rw [hg]; exact Nat.ne_of_lt (blk_lt (g := gb230) (o := .cells #[.slice none 0 0, .slice none 0 0] 25 (0, 0)) (bU BK230.out)) : gb230 ≠ gb237)); have NBq5 := aM ((by rw [hg]; exact Nat.ne_of_gt (blk_lt (g := gb230) (o := .cells #[.slice none 0 0, .slice none 0 0] 25 (0, 0)) (bU BK230.out)) : gb237 ≠ gb230)); replace BK230 := aM (kB (g := gb230) (o := .cells #[.slice none 0 0, .slice none 0 0] 25 (0, 0)) (bU BK230.out) hb); clear hb hbox hg; obtain ⟨Ao15, co15, eo15⟩ := Kd.S_slice HO233.out; subst eo15; have hnb16 := NBq3.out; have hnc16 := NBq1.out; have hnb17 := NBq4.out; have hnc17 := NBq2.out; have hnb18 := NBq5.out; have hnc18 := NBq0.out; have hcz19_0 : w14.cell? ⟨gb237, 0, none⟩ = some (.slice none 0 0) := (kC BK237.out 0).trans rfl; have hcz19_1 : w14.cell? ⟨gb237, 1, none⟩ = some (.slice none 0 0) := (kC BK237.out 1).trans rfl; have hfz19_0 := kF BK237.out 0; have hfz19_1 := kF BK237.out 1; obtain ⟨Ao20, co20, eo20⟩ := Kd.R_slice HO236.out; subst eo20; have hcz21_0 : w14.cell? ⟨gb228, 0, none⟩ = some (.slice A0_0 l0_0.length c0_0) := (kC BK228.out 0).trans rfl; have hcz21_1 : w14.cell? ⟨gb228, 1, none⟩ = some (.slice A0_1 l0_1.length c0_1) := (kC BK228.out 1).trans rfl; have hfz21_0 := kF BK228.out 0; have hfz21_1 := kF BK228.out 1) | ((with_reducible refine gate_callee (f := 18) rfl ?_); refine goesL_ (some 12) rfl rfl Try.func18 (by kernel_rfl) rfl #[.agg #[.slice A0_0 l0_0.length c0_0, .slice A0_1 l0_1.length c0_1]] rfl (by (try simp only [List.map_toArray, List.map_cons, List.map_nil]); first | done | rfl | (simp only [List.length_drop, List.length_take]; rfl)) ?_; (with_reducible refine (banksmanref08_Check.calls k _ _ l0_0 _ _ l0_1 t238 _ ?side1 ?side2 ?side3 ?side4 A4.out).mono ?_); (case side1 => exact Kd.C_below HR0_0.out (by repeat (first | (with_reducible first | exact HB.out | apply bA | apply bN | apply bD | refine bS ?_ GE228.out | refine bS ?_ GE229.out | refine bS ?_ GE230.out | refine bS ?_ GE237.out) | exact HB.out))); (case side2 => exact HC0_0.out); (case side3 => exact Kd.C_below HR0_1.out (by repeat (first | (with_reducible first | exact HB.out | apply bA | apply bN | apply bD | refine bS ?_ GE228.out | refine bS ?_ GE229.out | refine bS ?_ GE230.out | refine bS ?_ GE237.out) | exact HB.out))); (case side4 => exact HC0_1.out); rintro e w22 ⟨rfl, hb⟩; refine ⟨_, rfl, ?_⟩; replace HO233 := aM (Kd.S_below (by (with_reducible repeat (first | apply Kd.S_alloc | apply Kd.S_drewN | apply Kd.S_drew)); exact (Kd.S_mono (Kd.S_far (p := ⟨gb237, 1, none⟩) (Kd.S_far (p := ⟨gb237, 0, none⟩) (Kd.S_types HO233.out BK237.out (by decide)) (fun _ hk => hk.2) (.slice Ao15 t231.length co15)) (fun _ hk => hk.2) (.slice Ao20 t234.length co20)) (fun _ h_ => h_.1))) hb); replace HO236 := aM (Kd.R_below (by (with_reducible repeat (first | apply Kd.R_alloc | apply Kd.R_drewN | apply Kd.R_drew)); exact (Kd.R_mono (Kd.R_far (p := ⟨gb237, 1, none⟩) (Kd.R_far (p := ⟨gb237, 0, none⟩) (Kd.R_types HO236.out BK237.out (by decide)) (fun _ hk => hk.2) (.slice Ao15 t231.length co15)) (fun _ hk => hk.2) (.slice Ao20 t234.length co20)) (fun _ h_ => h_.1))) hb); replace BK228 := aM (kB (g := gb228) (o := .cells #[.slice A0_0 l0_0.length c0_0, .slice A0_1 l0_1.length c0_1] 25 (0, 0)) (by (with_reducible repeat (first | refine blk_drewN ?_ _ | refine blk_drew ?_ | refine blk_alloc ?_ _)); refine blk_far ?_ NBq1.out _; (with_reducible repeat (first | refine blk_drewN ?_ _ | refine blk_drew ?_ | refine blk_alloc ?_ _)); refine blk_far ?_ NBq1.out _; (with_reducible repeat (first | refine blk_drewN ?_ _ | refine blk_drew ?_ | refine blk_alloc ?_ _)); exact BK228.out) hb); replace BK229 := aM (kB (g := gb229) (o := .cells #[.int .i64 a1_0, .slice A1_1 l1_1.length c1_1, .bool a1_2, .slice A1_3 l1_3.length c1_3] 28 (0, 0)) (by (with_reducible repeat (first | refine blk_drewN ?_ _ | refine blk_drew ?_ | refine blk_alloc ?_ _)); refine blk_far ?_ NBq2.out _; (with_reducible repeat (first | refine blk_drewN ?_ _ | refine blk_drew ?_ | refine blk_alloc ?_ _)); refine blk_far ?_ NBq2.out _; (with_reducible repeat (first | refine blk_drewN ?_ _ | refine blk_drew ?_ | refine blk_alloc ?_ _)); exact BK229.out) hb); replace BK230 := aM (kB (g := gb230) (o := .cells #[.slice none 0 0, .slice none 0 0] 25 (0, 0)) (by (with_reducible repeat (first | refine blk_drewN ?_ _ | refine blk_drew ?_ | refine blk_alloc ?_ _)); refine blk_far ?_ NBq0.out _; (with_reducible repeat (first | refine blk_drewN ?_ _ | refine blk_drew ?_ | refine blk_alloc ?_ _)); refine blk_far ?_ NBq0.out _; (with_reducible repeat (first | refine blk_drewN ?_ _ | refine blk_drew ?_ | refine blk_alloc ?_ _)); exact BK230.out) hb); replace BK237 := aM (kB (g := gb237) (o := .cells #[.slice Ao15 t231.length co15, .slice Ao20 t234.length co20] 25 (0, 0)) (by (with_reducible repeat (first | refine blk_drewN ?_ _ | refine blk_drew ?_ | refine blk_alloc ?_ _)); refine blk_put (cs := #[.slice Ao15 t231.length co15, .slice none 0 0]) ?_ 1 _ rfl; (with_reducible repeat (first | refine blk_drewN ?_ _ | refine blk_drew ?_ | refine blk_alloc ?_ _)); refine blk_put (cs := #[.slice none 0 0, .slice none 0 0]) ?_ 0 _ rfl; (with_reducible repeat (first | refine blk_drewN ?_ _ | refine blk_drew ?_ | refine blk_alloc ?_ _)); exact BK237.out) hb); replace HB := aM (below_step (by repeat (first | (with_reducible first | exact HB.out | apply bA | apply bN | apply bD | refine bS ?_ GE228.out | refine bS ?_ GE229.out | refine bS ?_ GE230.out | refine bS ?_ GE237.out) | exact HB.out)) hb); (try clear hb); (try clear hb2); (try clear hk); (try clear hi); have hnb23 := NBq8.out; have hnc23 := NBq9.out; have hcz24_0 : w22.cell? ⟨gb229, 0, none⟩ = some (.int .i64 a1_0) := (kC BK229.out 0).trans rfl; have hcz24_1 : w22.cell? ⟨gb229, 1, none⟩ = some (.slice A1_1 l1_1.length c1_1) := (kC BK229.out 1).trans rfl; have hcz24_2 : w22.cell? ⟨gb229, 2, none⟩ = some (.bool a1_2) := (kC BK229.out 2).trans rfl; have hcz24_3 : w22.cell? ⟨gb229, 3, none⟩ = some (.slice A1_3 l1_3.length c1_3) := (kC BK229.out 3).trans rfl; have hfz24_0 := kF BK229.out 0; have hfz24_1 := kF BK229.out 1; have hfz24_2 := kF BK229.out 2; have hfz24_3 := kF BK229.out 3) | ((with_reducible refine gate_callee (f := 33) rfl ?_); refine goesL_ (some 14) rfl rfl Try.func33 (by kernel_rfl) rfl #[.agg #[.int .i64 a1_0, .slice A1_1 l1_1.length c1_1, .bool a1_2, .slice A1_3 l1_3.length c1_3]] rfl (by (try simp only [List.map_toArray, List.map_cons, List.map_nil]); first | done | rfl | (simp only [List.length_drop, List.length_take]; rfl)) ?_; (with_reducible refine (banksmanref07_May.calls a1_0 _ _ l1_1 a1_2 _ _ l1_3 t239 _ ?side1 ?side2 ?side3 ?side4 A5.out).mono ?_); (case side1 => repeat (first | exact (Kd.C_below HR1_1.out HB.out) | (with_reducible refine Kd.C_alloc ?_ _) | (with_reducible refine Kd.C_drewN ?_ _) | (with_reducible refine Kd.C_drew ?_))); (case side2 => exact HC1_1.out); (case side3 => repeat (first | exact (Kd.C_below HR1_3.out HB.out) | (with_reducible refine Kd.C_alloc ?_ _) | (with_reducible refine Kd.C_drewN ?_ _) | (with_reducible refine Kd.C_drew ?_))); (case side4 => exact HC1_3.out); rintro e w25 ⟨rfl, hb⟩; refine ⟨_, rfl, ?_⟩; replace HO233 := aM (Kd.S_below (by (with_reducible repeat (first | apply Kd.S_alloc | apply Kd.S_drewN | apply Kd.S_drew)); exact HO233.out) hb); replace HO236 := aM (Kd.R_below (rU HO236.out) hb); replace BK228 := aM (kB (g := gb228) (o := .cells #[.slice A0_0 l0_0.length c0_0, .slice A0_1 l0_1.length c0_1] 25 (0, 0)) (bU BK228.out) hb); replace BK229 := aM (kB (g := gb229) (o := .cells #[.int .i64 a1_0, .slice A1_1 l1_1.length c1_1, .bool a1_2, .slice A1_3 l1_3.length c1_3] 28 (0, 0)) (bU BK229.out) hb); replace BK230 := aM (kB (g := gb230) (o := .cells #[.slice none 0 0, .slice none 0 0] 25 (0, 0)) (bU BK230.out) hb); replace BK237 := aM (kB (g := gb237) (o := .cells #[.slice Ao15 t231.length co15, .slice Ao20 t234.length co20] 25 (0, 0)) (bU BK237.out) hb); replace HB := aM (below_step (by repeat (first | (with_reducible first | exact HB.out | apply bA | apply bN | apply bD | refine bS ?_ GE228.out | refine bS ?_ GE229.out | refine bS ?_ GE230.out | refine bS ?_ GE237.out) | exact HB.out)) hb); (try clear hb); (try clear hb2); (try clear hk); (try clear hi)))
 (try simp only [Act.put, List.setIfInBounds_toArray, List.set_cons_zero, List.set_cons_succ])
 go_cut [20] (fun v20 wc => ∃ (kq : Nat) (x20_5 : Bool), v20 = .bool x20_5 ∧ Aside0 (banksmanref08_Put.j0 kq x20_5 l0_0 l0_1 a1_0 l1_1 a1_2 l1_3 t231 t234 = some (r1, r2, r3)) ∧ Aside0 (kq ≤ k) ∧ Aside0 (Kd.S k28 28 wc w.heap.size (fun k_ => k_ ≠ gb229) (.slice Ao15 t231.length co15) t231) ∧ Aside0 (Kd.R (Kd.int .i64) 3 wc w.heap.size (fun _ => True) (.slice Ao20 t234.length co20) t234) ∧ Aside0 (wc.heap[gb228]? = some (.cells #[(.slice A0_0 l0_0.length c0_0), (.slice A0_1 l0_1.length c0_1)] 25 (0, 0))) ∧ Aside0 (wc.heap[gb229]? = some (.cells #[.int .i64 a1_0, (.slice A1_1 l1_1.length c1_1), .bool a1_2, (.slice A1_3 l1_3.length c1_3)] 28 (0, 0))) ∧ Aside0 (wc.heap[gb230]? = some (.cells #[(.slice none 0 0), (.slice none 0 0)] 25 (0, 0))) ∧ Aside0 (wc.heap[gb237]? = some (.cells #[(.slice Ao15 t231.length co15), (.slice Ao20 t234.length co20)] 25 (0, 0))) ∧ Aside0 (Below w.heap.size w wc))
 case first =>
  have H := HC6.out
  clear HC6
  by_cases c26 : t238 = true
  ·
   subst c26
   have H1 : (banksmanref08_Put.j0 k (!t239) l0_0 l0_1 a1_0 l1_1 a1_2 l1_3 t231 t234) = some (r1, r2, r3) := by rw [if_pos rfl] at H; exact H
   clear H
   have H := H1
   clear H1
   have H' := aM H
   clear H
   go_wp2
   go_meet
   case rel => exact ⟨_, (!t239), (by first | rfl | (simp; done) | (simp [*]; done)), H', ⟨by first | omega | exact Nat.le_refl _⟩, ⟨by (with_reducible repeat (first | apply Kd.S_alloc | apply Kd.S_drewN | apply Kd.S_drew)); exact Kd.S_mono HO233.out (fun _ hk => hk.2)⟩, ⟨by (with_reducible repeat (first | apply Kd.R_alloc | apply Kd.R_drewN | apply Kd.R_drew)); exact HO236.out⟩, ⟨by (with_reducible repeat (first | refine blk_drewN ?_ _ | refine blk_drew ?_ | refine blk_alloc ?_ _)); exact BK228.out⟩, ⟨by (with_reducible repeat (first | refine blk_drewN ?_ _ | refine blk_drew ?_ | refine blk_alloc ?_ _)); exact BK229.out⟩, ⟨by (with_reducible repeat (first | refine blk_drewN ?_ _ | refine blk_drew ?_ | refine blk_alloc ?_ _)); exact BK230.out⟩, ⟨by (with_reducible repeat (first | refine blk_drewN ?_ _ | refine blk_drew ?_ | refine blk_alloc ?_ _)); exact BK237.out⟩, ⟨by repeat (first | (with_reducible first | exact HB.out | apply bA | apply bN | apply bD | refine bS ?_ GE228.out | refine bS ?_ GE229.out | refine bS ?_ GE230.out | refine bS ?_ GE237.out) | exact HB.out)⟩⟩
  ·
   replace c26 := Bool.eq_false_iff.mpr c26
   subst c26
   have H1 : (banksmanref08_Put.j0 k true l0_0 l0_1 a1_0 l1_1 a1_2 l1_3 t231 t234) = some (r1, r2, r3) := by rw [if_neg (show ¬ (false = true) by decide)] at H; exact H
   clear H
   have H := H1
   clear H1
   have H' := aM H
   clear H
   go_wp2
   go_meet
   case rel => exact ⟨_, (true), (by first | rfl | (simp; done) | (simp [*]; done)), H', ⟨by first | omega | exact Nat.le_refl _⟩, ⟨by (with_reducible repeat (first | apply Kd.S_alloc | apply Kd.S_drewN | apply Kd.S_drew)); exact Kd.S_mono HO233.out (fun _ hk => hk.2)⟩, ⟨by (with_reducible repeat (first | apply Kd.R_alloc | apply Kd.R_drewN | apply Kd.R_drew)); exact HO236.out⟩, ⟨by (with_reducible repeat (first | refine blk_drewN ?_ _ | refine blk_drew ?_ | refine blk_alloc ?_ _)); exact BK228.out⟩, ⟨by (with_reducible repeat (first | refine blk_drewN ?_ _ | refine blk_drew ?_ | refine blk_alloc ?_ _)); exact BK229.out⟩, ⟨by (with_reducible repeat (first | refine blk_drewN ?_ _ | refine blk_drew ?_ | refine blk_alloc ?_ _)); exact BK230.out⟩, ⟨by (with_reducible repeat (first | refine blk_drewN ?_ _ | refine blk_drew ?_ | refine blk_alloc ?_ _)); exact BK237.out⟩, ⟨by repeat (first | (with_reducible first | exact HB.out | apply bA | apply bN | apply bD | refine bS ?_ GE228.out | refine bS ?_ GE229.out | refine bS ?_ GE230.out | refine bS ?_ GE237.out) | exact HB.out)⟩⟩
 case rest =>
  clear HC6
  try clear c1
  try clear c2
  try clear p2
  try clear c3
  try clear c10
  try clear c11
  try clear c16
  try clear c17
  try clear c18
  try clear c23
  try clear c26
  try clear hcz12_0
  try clear hcz12_1
  try clear hcz19_0
  try clear hcz19_1
  try clear hcz21_0
  try clear hcz21_1
  try clear hcz24_0
  try clear hcz24_1
  try clear hcz24_2
  try clear hcz24_3
  try clear hfz12_0
  try clear hfz12_1
  try clear hfz19_0
  try clear hfz19_1
  try clear hfz21_0
  try clear hfz21_1
  try clear hfz24_0
  try clear hfz24_1
  try clear hfz24_2
  try clear hfz24_3
  obtain ⟨kq, x20_5, rfl, HA, HJ5, HOq0, HOq1, BK228, BK229, BK230, BK237, HB⟩ := hcut
  cases kq with
  | zero => exact absurd HA.out (by simp [banksmanref08_Put.j0])
  | succ kj5 =>
   have H := HA.out
   clear HA
   simp only [banksmanref08_Put.j0] at H
   by_cases c27 : x20_5 = true
   ·
    subst c27
    have H1 : (some (t231, t234, 1)) = some (r1, r2, r3) := by rw [if_pos rfl] at H; exact H
    clear H
    have H := H1
    clear H1
    simp only [Option.some.injEq, Prod.mk.injEq] at H
    obtain ⟨rfl, rfl, rfl⟩ := H
    have hnb28 := NBq3.out
    have hnc28 := NBq1.out
    have hnb29 := NBq4.out
    have hnc29 := NBq2.out
    have hnb30 := NBq5.out
    have hnc30 := NBq0.out
    have hcz31_0 : wc.cell? ⟨gb237, 0, none⟩ = some (.slice Ao15 t231.length co15) := (kC BK237.out 0).trans rfl
    have hcz31_1 : wc.cell? ⟨gb237, 1, none⟩ = some (.slice Ao20 t234.length co20) := (kC BK237.out 1).trans rfl
    have hfz31_0 := kF BK237.out 0
    have hfz31_1 := kF BK237.out 1
    have hnb32 := NBq7.out
    have hnc32 := NBq6.out
    have hnb33 := NBq9.out
    have hnc33 := NBq8.out
    have hcz34_0 : wc.cell? ⟨gb230, 0, none⟩ = some (.slice none 0 0) := (kC BK230.out 0).trans rfl
    have hcz34_1 : wc.cell? ⟨gb230, 1, none⟩ = some (.slice none 0 0) := (kC BK230.out 1).trans rfl
    have hfz34_0 := kF BK230.out 0
    have hfz34_1 := kF BK230.out 1
    go_wp2
    refine bodyPost_ret (results_ct rfl _ _ gb230 25 #[.slice Ao15 t231.length co15, .slice Ao20 t234.length co20] (0, 0) _ rfl (by (with_reducible repeat (first | refine blk_drewN ?_ _ | refine blk_drew ?_ | refine blk_alloc ?_ _)); refine blk_put (cs := #[.slice Ao15 t231.length co15, .slice none 0 0]) ?_ 1 _ rfl; (with_reducible repeat (first | refine blk_drewN ?_ _ | refine blk_drew ?_ | refine blk_alloc ?_ _)); refine blk_put (cs := #[.slice none 0 0, .slice none 0 0]) ?_ 0 _ rfl; (with_reducible repeat (first | refine blk_drewN ?_ _ | refine blk_drew ?_ | refine blk_alloc ?_ _)); exact BK230.out) Try.underlying25 rfl (by kernel_rfl)) rfl ?_
    exact ⟨_, _, by first | rfl | (simp [errW_none, errW_some] <;> rfl) | (simp [*, errW_none, errW_some] <;> rfl), by (with_reducible repeat (first | apply Kd.S_alloc | apply Kd.S_drewN | apply Kd.S_drew)); exact Kd.S_mono (Kd.S_far (p := ⟨gb230, 1, none⟩) (Kd.S_far (p := ⟨gb230, 0, none⟩) (Kd.S_types HOq0.out BK230.out (by decide)) (fun _ hk => hk.2) (.slice Ao15 t231.length co15)) (fun _ hk => hk.2) (.slice Ao20 t234.length co20)) (fun _ hk => trivial), by (with_reducible repeat (first | apply Kd.R_alloc | apply Kd.R_drewN | apply Kd.R_drew)); exact Kd.R_mono (Kd.R_far (p := ⟨gb230, 1, none⟩) (Kd.R_far (p := ⟨gb230, 0, none⟩) (Kd.R_types HOq1.out BK230.out (by decide)) (fun _ hk => hk.2) (.slice Ao15 t231.length co15)) (fun _ hk => hk.2) (.slice Ao20 t234.length co20)) (fun _ hk => trivial), by repeat (first | (with_reducible first | exact HB.out | apply bA | apply bN | apply bD | refine bS ?_ GE228.out | refine bS ?_ GE229.out | refine bS ?_ GE230.out | refine bS ?_ GE237.out) | exact HB.out)⟩
   ·
    replace c27 := Bool.eq_false_iff.mpr c27
    subst c27
    have H1 : (if (l0_0.length : Int) ≥ 20 then (some (t231, t234, 80)) else ((banksmanref08_write.f a1_0 l1_1 a1_2 l1_3).bind fun bt240 => (if t231.length < 2199023255552 then (some ((t231 ++ [(⟨bt240.1, bt240.2.1, bt240.2.2.1, bt240.2.2.2⟩ : S28)]), t234, 0)) else (none)))) = some (r1, r2, r3) := by rw [if_neg (show ¬ (false = true) by decide)] at H; exact H
    clear H
    have H := H1
    clear H1
    by_cases c35 : (l0_0.length : Int) ≥ 20
    ·
     rw [if_pos c35] at H
     have c35b0 : decide (20 ≤ (l0_0.length : Int)) = true := decide_eq_true c35
     have c35b1 : decide (20 ≤ l0_0.length) = true := decide_eq_true (by omega)
     clear c35
     simp only [Option.some.injEq, Prod.mk.injEq] at H
     obtain ⟨rfl, rfl, rfl⟩ := H
     have hnb36 := NBq10.out
     have hnc36 := NBq11.out
     have hnb37 := NBq6.out
     have hnc37 := NBq7.out
     have hnb38 := NBq1.out
     have hnc38 := NBq3.out
     have hcz39_0 : wc.cell? ⟨gb228, 0, none⟩ = some (.slice A0_0 l0_0.length c0_0) := (kC BK228.out 0).trans rfl
     have hcz39_1 : wc.cell? ⟨gb228, 1, none⟩ = some (.slice A0_1 l0_1.length c0_1) := (kC BK228.out 1).trans rfl
     have hfz39_0 := kF BK228.out 0
     have hfz39_1 := kF BK228.out 1
     have hnb40 := NBq4.out
     have hnc40 := NBq2.out
     have hnb41 := NBq5.out
     have hnc41 := NBq0.out
     have hcz42_0 : wc.cell? ⟨gb237, 0, none⟩ = some (.slice Ao15 t231.length co15) := (kC BK237.out 0).trans rfl
     have hcz42_1 : wc.cell? ⟨gb237, 1, none⟩ = some (.slice Ao20 t234.length co20) := (kC BK237.out 1).trans rfl
     have hfz42_0 := kF BK237.out 0
     have hfz42_1 := kF BK237.out 1
     have hnb43 := NBq9.out
     have hnc43 := NBq8.out
     have hcz44_0 : wc.cell? ⟨gb230, 0, none⟩ = some (.slice none 0 0) := (kC BK230.out 0).trans rfl
     have hcz44_1 : wc.cell? ⟨gb230, 1, none⟩ = some (.slice none 0 0) := (kC BK230.out 1).trans rfl
     have hfz44_0 := kF BK230.out 0
     have hfz44_1 := kF BK230.out 1
     go_wp2
     refine bodyPost_ret (results_ct rfl _ _ gb230 25 #[.slice Ao15 t231.length co15, .slice Ao20 t234.length co20] (0, 0) _ rfl (by (with_reducible repeat (first | refine blk_drewN ?_ _ | refine blk_drew ?_ | refine blk_alloc ?_ _)); refine blk_put (cs := #[.slice Ao15 t231.length co15, .slice none 0 0]) ?_ 1 _ rfl; (with_reducible repeat (first | refine blk_drewN ?_ _ | refine blk_drew ?_ | refine blk_alloc ?_ _)); refine blk_put (cs := #[.slice none 0 0, .slice none 0 0]) ?_ 0 _ rfl; (with_reducible repeat (first | refine blk_drewN ?_ _ | refine blk_drew ?_ | refine blk_alloc ?_ _)); exact BK230.out) Try.underlying25 rfl (by kernel_rfl)) rfl ?_
     exact ⟨_, _, by first | rfl | (simp [errW_none, errW_some] <;> rfl) | (simp [*, errW_none, errW_some] <;> rfl), by (with_reducible repeat (first | apply Kd.S_alloc | apply Kd.S_drewN | apply Kd.S_drew)); exact Kd.S_mono (Kd.S_far (p := ⟨gb230, 1, none⟩) (Kd.S_far (p := ⟨gb230, 0, none⟩) (Kd.S_types HOq0.out BK230.out (by decide)) (fun _ hk => hk.2) (.slice Ao15 t231.length co15)) (fun _ hk => hk.2) (.slice Ao20 t234.length co20)) (fun _ hk => trivial), by (with_reducible repeat (first | apply Kd.R_alloc | apply Kd.R_drewN | apply Kd.R_drew)); exact Kd.R_mono (Kd.R_far (p := ⟨gb230, 1, none⟩) (Kd.R_far (p := ⟨gb230, 0, none⟩) (Kd.R_types HOq1.out BK230.out (by decide)) (fun _ hk => hk.2) (.slice Ao15 t231.length co15)) (fun _ hk => hk.2) (.slice Ao20 t234.length co20)) (fun _ hk => trivial), by repeat (first | (with_reducible first | exact HB.out | apply bA | apply bN | apply bD | refine bS ?_ GE228.out | refine bS ?_ GE229.out | refine bS ?_ GE230.out | refine bS ?_ GE237.out) | exact HB.out)⟩
    ·
     rw [if_neg c35] at H
     have c35b0 : decide (20 ≤ (l0_0.length : Int)) = false := decide_eq_false c35
     have c35b1 : decide (20 ≤ l0_0.length) = false := decide_eq_false (by omega)
     clear c35
     replace H := Option.bind_eq_some_iff.mp H
     obtain ⟨⟨t240, t241, t244, t245⟩, A450, H⟩ := H
     replace H : (if t231.length < 2199023255552 then (some ((t231 ++ [(⟨t240, t241, t244, t245⟩ : S28)]), t234, 0)) else (none)) = some (r1, r2, r3) := H
     have A45 := aM A450
     clear A450
     by_cases c46 : t231.length < 2199023255552
     ·
      rw [if_pos c46] at H
      have LMc46 := aM c46
      clear c46
      obtain ⟨y248, hy248⟩ : ∃ y_ : List (S28), y_ = (t231 ++ [(⟨t240, t241, t244, t245⟩ : S28)]) := ⟨_, rfl⟩
      replace H : (some (y248, t234, 0)) = some (r1, r2, r3) := by first | (rw [hy248]; with_reducible exact H) | (have H2_ := (Option.bind_some _ _).symm.trans H; rw [hy248]; with_reducible exact H2_) | (have H2_ := (Option.bind_some _ _).symm.trans H; with_reducible exact H2_) | with_reducible exact H | (rw [hy248]; exact H) | exact H
      have Ny248 := aM hy248
      clear hy248
      simp only [Option.some.injEq, Prod.mk.injEq] at H
      obtain ⟨rfl, rfl, rfl⟩ := H
      have hnb47 := NBq10.out
      have hnc47 := NBq11.out
      have hnb48 := NBq6.out
      have hnc48 := NBq7.out
      have hnb49 := NBq1.out
      have hnc49 := NBq3.out
      have hcz50_0 : wc.cell? ⟨gb228, 0, none⟩ = some (.slice A0_0 l0_0.length c0_0) := (kC BK228.out 0).trans rfl
      have hcz50_1 : wc.cell? ⟨gb228, 1, none⟩ = some (.slice A0_1 l0_1.length c0_1) := (kC BK228.out 1).trans rfl
      have hfz50_0 := kF BK228.out 0
      have hfz50_1 := kF BK228.out 1
      try go_wp2
      have n0_ := aM (Kd.S_drew HOq0.out)
      have n1_ := aM (Kd.R_drew HOq1.out)
      have n2_ := aM (blk_drew BK228.out)
      have n3_ := aM (blk_drew BK229.out)
      have n4_ := aM (blk_drew BK230.out)
      have n5_ := aM (blk_drew BK237.out)
      have n6_ := aM (bD HB.out)
      clear HOq0
      clear HOq1
      clear BK228
      clear BK229
      clear BK230
      clear BK237
      clear HB
      have HOq0 := n0_
      have HOq1 := n1_
      have BK228 := n2_
      have BK229 := n3_
      have BK230 := n4_
      have BK237 := n5_
      have HB := n6_
      clear n0_ n1_ n2_ n3_ n4_ n5_ n6_
      refine start_ (n := 8) (S := fun w' => w'.cell? ⟨gb237, 0, none⟩ = some (.slice Ao15 t231.length co15) ∧ w'.cell? ⟨gb237, 1, none⟩ = some (.slice Ao20 t234.length co20) ∧ w'.cell? ⟨gb229, 0, none⟩ = some (.int .i64 a1_0) ∧ w'.cell? ⟨gb229, 1, none⟩ = some (.slice A1_1 l1_1.length c1_1) ∧ w'.cell? ⟨gb229, 2, none⟩ = some (.bool a1_2) ∧ w'.cell? ⟨gb229, 3, none⟩ = some (.slice A1_3 l1_3.length c1_3)) (ds := [7]) #[F_,F_,F_,F_,F_,F_,F_,F_] (by kernel_rfl) rfl rfl ⟨(kC BK237.out 0).trans rfl, (kC BK237.out 1).trans rfl, (kC BK229.out 0).trans rfl, (kC BK229.out 1).trans rfl, (kC BK229.out 2).trans rfl, (kC BK229.out 3).trans rfl⟩ (fun hHeld => ?_); refine with_tabW banksmanref08_Put.tab8 banksmanref08_Put.bits8 (fun HT_ HW_ => ?_)
      generalize wc.drew = w51 at HOq0 HOq1 BK228 BK229 BK230 BK237 HB hHeld ⊢
      refine pure_ (i := 0) (N := some 27) (v := ?_) (a' := ?_) #[T_,F_,F_,F_,F_,F_,F_,F_] rfl rfl (any_of HT_.out (by kernel_rfl)) (fun _ _ _ h => h) (Or.inl ⟨by rfl, ?_⟩) ?_ ?_
      rotate_left
      ·
       intro w'
       go_simp
       with_reducible rfl
      rotate_left
      ·
       simp only [Act.put, List.setIfInBounds_toArray, List.set_cons_zero, List.set_cons_succ, i64_w, i32_w]
       rfl
      refine take_ (i := 1) (N := some 28) (v := ?_) (a' := ?_) #[T_,T_,F_,F_,F_,F_,F_,F_] rfl rfl (take_ofW HT_.out HW_.out (by kernel_rfl)) (fun _ _ _ h => h) (Or.inl ⟨by rfl, ?_⟩) hHeld ?_ ?_
      rotate_left
      ·
       rintro w' ⟨s0, s1, s2, s3, s4, s5⟩
       go_simp
       with_reducible rfl
      rotate_left
      ·
       simp only [Act.put, List.setIfInBounds_toArray, List.set_cons_zero, List.set_cons_succ, i64_w, i32_w]
       rfl
      refine take_ (i := 2) (N := some 29) (v := ?_) (a' := ?_) #[T_,T_,T_,F_,F_,F_,F_,F_] rfl rfl (take_ofW HT_.out HW_.out (by kernel_rfl)) (fun _ _ _ h => h) (Or.inl ⟨by rfl, ?_⟩) hHeld ?_ ?_
      rotate_left
      ·
       rintro w' ⟨s0, s1, s2, s3, s4, s5⟩
       go_simp
       with_reducible rfl
      rotate_left
      ·
       simp only [Act.put, List.setIfInBounds_toArray, List.set_cons_zero, List.set_cons_succ, i64_w, i32_w]
       rfl
      refine one_ (i := 3) (N := some 30) #[T_,T_,T_,T_,F_,F_,F_,F_] rfl rfl (one_of HT_.out (by kernel_rfl)) (by decide) (fun K hK => ?_)
      refine goes_ Try.func34 (by kernel_rfl) rfl #[.agg #[.int .i64 a1_0, .slice A1_1 l1_1.length c1_1, .bool a1_2, .slice A1_3 l1_3.length c1_3]] (by rfl) rfl rfl (by (try simp only [List.map_toArray, List.map_cons, List.map_nil]); first | done | rfl | (simp only [List.length_drop, List.length_take]; rfl)) ?_
      with_reducible refine (banksmanref08_write.calls a1_0 _ _ l1_1 a1_2 _ _ l1_3 t240 t241 t244 t245 _ ?side1 ?side2 ?side3 ?side4 A45.out).mono ?_
      (case side1 => repeat (first | exact (Kd.C_below HR1_1.out HB.out) | (with_reducible refine Kd.C_alloc ?_ _) | (with_reducible refine Kd.C_drewN ?_ _) | (with_reducible refine Kd.C_drew ?_)))
      (case side2 => exact HC1_1.out)
      (case side3 => repeat (first | exact (Kd.C_below HR1_3.out HB.out) | (with_reducible refine Kd.C_alloc ?_ _) | (with_reducible refine Kd.C_drewN ?_ _) | (with_reducible refine Kd.C_drew ?_)))
      (case side4 => exact HC1_3.out)
      rintro e w52 ⟨v242, v246, rfl, ho0, ho1, hb⟩
      refine ⟨_, rfl, ?_⟩
      have n0_ := aM (Kd.S_mono (Kd.S_told (Kd.S_told (Kd.S_old (by (with_reducible repeat (first | apply Kd.S_alloc | apply Kd.S_drewN | apply Kd.S_drew)); exact HOq0.out) hb) (Kd.R_base ho0)) (Kd.R_base ho1)) (fun _ h_ => h_.1))
      have n1_ := aM (Kd.R_below (rU HOq1.out) hb)
      have n2_ := aM (Kd.R_lower ho0 (below_size (by repeat (first | (with_reducible first | exact HB.out | apply bA | apply bN | apply bD | refine bS ?_ GE228.out | refine bS ?_ GE229.out | refine bS ?_ GE230.out | refine bS ?_ GE237.out) | exact HB.out))))
      have n3_ := aM (Kd.R_lower ho1 (below_size (by repeat (first | (with_reducible first | exact HB.out | apply bA | apply bN | apply bD | refine bS ?_ GE228.out | refine bS ?_ GE229.out | refine bS ?_ GE230.out | refine bS ?_ GE237.out) | exact HB.out))))
      have n4_ := aM (kB (g := gb228) (o := .cells #[.slice A0_0 l0_0.length c0_0, .slice A0_1 l0_1.length c0_1] 25 (0, 0)) (bU BK228.out) hb)
      have n5_ := aM (kB (g := gb229) (o := .cells #[.int .i64 a1_0, .slice A1_1 l1_1.length c1_1, .bool a1_2, .slice A1_3 l1_3.length c1_3] 28 (0, 0)) (bU BK229.out) hb)
      have n6_ := aM (kB (g := gb230) (o := .cells #[.slice none 0 0, .slice none 0 0] 25 (0, 0)) (bU BK230.out) hb)
      have n7_ := aM (kB (g := gb237) (o := .cells #[.slice Ao15 t231.length co15, .slice Ao20 t234.length co20] 25 (0, 0)) (bU BK237.out) hb)
      have n8_ := aM (below_step (by repeat (first | (with_reducible first | exact HB.out | apply bA | apply bN | apply bD | refine bS ?_ GE228.out | refine bS ?_ GE229.out | refine bS ?_ GE230.out | refine bS ?_ GE237.out) | exact HB.out)) hb)
      clear HOq0
      clear HOq1
      clear BK228
      clear BK229
      clear BK230
      clear BK237
      clear HB
      have HOq0 := n0_
      have HOq1 := n1_
      have HO243 := n2_
      have HO247 := n3_
      have BK228 := n4_
      have BK229 := n5_
      have BK230 := n6_
      have BK237 := n7_
      have HB := n8_
      clear n0_ n1_ n2_ n3_ n4_ n5_ n6_ n7_ n8_
      (try clear hb)
      (try clear hb2)
      (try clear hk)
      (try clear hi)
      (try clear ho0)
      (try clear ho1)
      obtain ⟨Ao54, co54, eo54⟩ := Kd.R_slice HO243.out
      (first | subst eo54 | (injection eo54 with f1_ f2_ f3_; have f4_ := f1_.symm; have f5_ := f3_.symm; clear f1_ f2_ f3_; subst f4_; subst f5_))
      obtain ⟨Ao55, co55, eo55⟩ := Kd.R_slice HO247.out
      (first | subst eo55 | (injection eo55 with f1_ f2_ f3_; have f4_ := f1_.symm; have f5_ := f3_.symm; clear f1_ f2_ f3_; subst f4_; subst f5_))
      refine hK.out _ _ ⟨(kC BK237.out 0).trans rfl, (kC BK237.out 1).trans rfl, (kC BK229.out 0).trans rfl, (kC BK229.out 1).trans rfl, (kC BK229.out 2).trans rfl, (kC BK229.out 3).trans rfl⟩ (fun hHeld => ?_)
      clear hK K
      refine norm_ (a' := ?_) ?_ ?_
      rotate_left
      ·
       show Act.put _ (some 30) _ = _
       simp only [Act.put, List.setIfInBounds_toArray, List.set_cons_zero, List.set_cons_succ, i64_w, i32_w]
       rfl
      refine one_ (i := 4) (N := some 31) #[T_,T_,T_,T_,T_,F_,F_,F_] rfl rfl (one_of HT_.out (by kernel_rfl)) (by decide) (fun K hK => ?_)
      refine value_ (w1 := ?_) (v := ?_) (by rfl) rfl ?_ ?_
      rotate_left 2
      ·
       go_simp
       constructor
       ·
        rfl
       ·
        rfl
      refine hK.out _ _ ⟨(kC (blk_alloc BK237.out _) 0).trans rfl, (kC (blk_alloc BK237.out _) 1).trans rfl, (kC (blk_alloc BK229.out _) 0).trans rfl, (kC (blk_alloc BK229.out _) 1).trans rfl, (kC (blk_alloc BK229.out _) 2).trans rfl, (kC (blk_alloc BK229.out _) 3).trans rfl⟩ (fun hHeld => ?_)
      clear hK K
      refine norm_ (a' := ?_) ?_ ?_
      rotate_left
      ·
       show Act.put _ (some 31) _ = _
       simp only [Act.put, List.setIfInBounds_toArray, List.set_cons_zero, List.set_cons_succ, i64_w, i32_w]
       rfl
      refine one_ (i := 5) (N := some 32) #[T_,T_,T_,T_,T_,T_,F_,F_] rfl rfl (one_of HT_.out (by kernel_rfl)) (by decide) (fun K hK => ?_)
      refine Kd.S_append_step k28 (w0 := w) w.heap.size (by rfl) (.tmp 28) (.tmp 31) 22 28 (.agg #[(.int .i64 0), (.slice none 0 0), (.bool false), (.slice none 0 0)]) 64 rfl Try.underlying22 info28 rfl (by decide) (by omega) (.slice Ao15 t231.length co15) t231 (⟨t240, t241, t244, t245⟩ : S28) [.int .i64 t240, .slice Ao54 t241.length co54, .bool t244, .slice Ao55 t245.length co55] (fun k_ => k_ ≠ gb229) (fun k_ => some k_ = (.slice Ao54 t241.length co54 : Value).ownBlock ∨ some k_ = (.slice Ao55 t245.length co55 : Value).ownBlock) rfl rfl ?aP (fun k_ hk_ => hk_.elim (fun h_ => ((Kd.R_mono (ok' := fun k_ => ((fun k_ => k_ ≠ gb229)) k_ ∧ some k_ ≠ (.slice Ao15 t231.length co15 : Value).ownBlock) (Kd.R_types (Kd.R_apart' (HO243.out) (Kd.S_typed HOq0.out) (by decide)) BK229.out (by decide)) (fun k_ hk => ⟨hk.2, hk.1.2⟩))).1 k_ h_.symm) (fun h_ => ((Kd.R_mono (ok' := fun k_ => ((fun k_ => k_ ≠ gb229)) k_ ∧ some k_ ≠ (.slice Ao15 t231.length co15 : Value).ownBlock) (Kd.R_types (Kd.R_apart' (HO247.out) (Kd.S_typed HOq0.out) (by decide)) BK229.out (by decide)) (fun k_ hk => ⟨hk.2, hk.1.2⟩))).1 k_ h_.symm)) ?aF ?aO ?aB ?aS ?aL ?_
      (case aP => exact k28_mkM _ _ _ (⟨t240, t241, t244, t245⟩ : S28) (Kd.R_mono (Kd.R_tight rfl (Kd.R_mono (ok' := fun k_ => ((fun k_ => k_ ≠ gb229)) k_ ∧ some k_ ≠ (.slice Ao15 t231.length co15 : Value).ownBlock) (Kd.R_types (Kd.R_apart' (HO243.out) (Kd.S_typed HOq0.out) (by decide)) BK229.out (by decide)) (fun k_ hk => ⟨hk.2, hk.1.2⟩))) (fun _ h_ => Or.inl h_)) (Kd.R_mono (Kd.R_tight rfl (Kd.R_mono (ok' := fun k_ => ((fun k_ => k_ ≠ gb229)) k_ ∧ some k_ ≠ (.slice Ao15 t231.length co15 : Value).ownBlock) (Kd.R_types (Kd.R_apart' (HO247.out) (Kd.S_typed HOq0.out) (by decide)) BK229.out (by decide)) (fun k_ hk => ⟨hk.2, hk.1.2⟩))) (fun _ h_ => Or.inr (h_))))
      (case aB => exact (by repeat (first | (with_reducible first | exact HB.out | apply bA | apply bN | apply bD | refine bS ?_ GE228.out | refine bS ?_ GE229.out | refine bS ?_ GE230.out | refine bS ?_ GE237.out) | exact HB.out)))
      (case aF => exact (fun k_ hk => Kd.freshB (g := gb229) (o := .cells #[.int .i64 a1_0, .slice A1_1 l1_1.length c1_1, .bool a1_2, .slice A1_3 l1_3.length c1_3] 28 (0, 0)) (bU BK229.out) k_ hk))
      (case aO => exact (by (with_reducible repeat (first | apply Kd.S_alloc | apply Kd.S_drewN | apply Kd.S_drew)); exact Kd.S_mono HOq0.out (fun k_ hk => ⟨hk.1.1, fun e_ => e_.elim (fun h_ => hk.1.2 h_) (fun h_ => hk.2 h_)⟩)))
      (case aS => exact (below_size (by repeat (first | (with_reducible first | exact HB.out | apply bA | apply bN | apply bD | refine bS ?_ GE228.out | refine bS ?_ GE229.out | refine bS ?_ GE230.out | refine bS ?_ GE237.out) | exact HB.out))))
      (case aL => have := LMc46.out; omega)
      intro v249 w53 ho hb hg hat
      rw [← Ny248.out] at ho
      have n0_ := aM (Kd.R_over' (rU HOq1.out) (Kd.S_typed (by (with_reducible repeat (first | apply Kd.S_alloc | apply Kd.S_drewN | apply Kd.S_drew)); exact HOq0.out)) (by decide) hg)
      have n1_ := aM (blk_grown (g := gb228) (o := .cells #[.slice A0_0 l0_0.length c0_0, .slice A0_1 l0_1.length c0_1] 25 (0, 0)) (bU BK228.out) hg (Kd.S_ne HOq0.out BK228.out (by decide)))
      have n2_ := aM (blk_grown (g := gb229) (o := .cells #[.int .i64 a1_0, .slice A1_1 l1_1.length c1_1, .bool a1_2, .slice A1_3 l1_3.length c1_3] 28 (0, 0)) (bU BK229.out) hg (Kd.S_away HOq0.out (fun _ hk => hk.1.1)))
      have n3_ := aM (blk_grown (g := gb230) (o := .cells #[.slice none 0 0, .slice none 0 0] 25 (0, 0)) (bU BK230.out) hg (Kd.S_ne HOq0.out BK230.out (by decide)))
      have n4_ := aM (blk_grown (g := gb237) (o := .cells #[.slice Ao15 t231.length co15, .slice Ao20 t234.length co20] 25 (0, 0)) (bU BK237.out) hg (Kd.S_ne HOq0.out BK237.out (by decide)))
      have n5_ := aM (hb)
      have n6_ := aM (ho)
      clear HOq1
      clear BK228
      clear BK229
      clear BK230
      clear BK237
      clear HB
      clear HOq0
      clear HO243
      clear HO247
      have HOq1 := n0_
      have BK228 := n1_
      have BK229 := n2_
      have BK230 := n3_
      have BK237 := n4_
      have HB := n5_
      have HO250 := n6_
      clear n0_ n1_ n2_ n3_ n4_ n5_ n6_
      clear ho hb hg hat
      obtain ⟨Ao56, co56, eo56⟩ := Kd.S_slice HO250.out
      (first | subst eo56 | (injection eo56 with f1_ f2_ f3_; have f4_ := f1_.symm; have f5_ := f3_.symm; clear f1_ f2_ f3_; subst f4_; subst f5_))
      refine hK.out _ _ ⟨(kC BK237.out 0).trans rfl, (kC BK237.out 1).trans rfl, (kC BK229.out 0).trans rfl, (kC BK229.out 1).trans rfl, (kC BK229.out 2).trans rfl, (kC BK229.out 3).trans rfl⟩ (fun hHeld => ?_)
      clear hK K
      refine norm_ (a' := ?_) ?_ ?_
      rotate_left
      ·
       show Act.put _ (some 32) _ = _
       simp only [Act.put, List.setIfInBounds_toArray, List.set_cons_zero, List.set_cons_succ, i64_w, i32_w]
       rfl
      refine pure_ (i := 6) (N := some 33) (v := ?_) (a' := ?_) #[T_,T_,T_,T_,T_,T_,T_,F_] rfl rfl (any_of HT_.out (by kernel_rfl)) (fun _ _ _ h => h) (Or.inl ⟨by rfl, ?_⟩) ?_ ?_
      rotate_left
      ·
       intro w'
       go_simp
       with_reducible rfl
      rotate_left
      ·
       simp only [Act.put, List.setIfInBounds_toArray, List.set_cons_zero, List.set_cons_succ, i64_w, i32_w]
       rfl
      refine last_ (i := 7) (N := none) #[T_,T_,T_,T_,T_,T_,T_,T_] rfl rfl (one_of HT_.out (by kernel_rfl)) (by decide) (fun K hK => ?_)
      have hs57 : w53.cell? ⟨gb237, 0, none⟩ = some (.slice Ao15 t231.length co15) := (kC BK237.out 0).trans rfl
      have hfs57 := kF BK237.out 0
      have hns57_0 := NBq1.out
      have hns57_1 := NBq2.out
      have hns57_2 := NBq0.out
      have hms57_0 := NBq3.out
      have hms57_1 := NBq4.out
      have hms57_2 := NBq5.out
      refine skip_ (w1 := ?_) (by rfl) rfl ?_ ?_
      rotate_left
      ·
       go_simp
       rfl
      refine hK.out _ _ ?_
      clear hK K
      refine done_ (done_of HT_.out (by kernel_rfl)) ?_
      have hnb58 := NBq4.out
      have hnc58 := NBq2.out
      have hnb59 := NBq5.out
      have hnc59 := NBq0.out
      have hcz60_0 : w53.cell? ⟨gb237, 0, none⟩ = some (.slice Ao15 t231.length co15) := (kC BK237.out 0).trans rfl
      have hcz60_1 : w53.cell? ⟨gb237, 1, none⟩ = some (.slice Ao20 t234.length co20) := (kC BK237.out 1).trans rfl
      have hfz60_0 := kF BK237.out 0
      have hfz60_1 := kF BK237.out 1
      have hnb61 := NBq9.out
      have hnc61 := NBq8.out
      have hcz62_0 : w53.cell? ⟨gb230, 0, none⟩ = some (.slice none 0 0) := (kC BK230.out 0).trans rfl
      have hcz62_1 : w53.cell? ⟨gb230, 1, none⟩ = some (.slice none 0 0) := (kC BK230.out 1).trans rfl
      have hfz62_0 := kF BK230.out 0
      have hfz62_1 := kF BK230.out 1
      try go_wp2
      refine bodyPost_ret (results_ct rfl _ _ gb230 25 #[.slice Ao56 y248.length co56, .slice Ao20 t234.length co20] (0, 0) _ rfl (by (with_reducible repeat (first | refine blk_drewN ?_ _ | refine blk_drew ?_ | refine blk_alloc ?_ _)); refine blk_put (cs := #[.slice Ao56 y248.length co56, .slice none 0 0]) ?_ 1 _ rfl; (with_reducible repeat (first | refine blk_drewN ?_ _ | refine blk_drew ?_ | refine blk_alloc ?_ _)); refine blk_put (cs := #[.slice none 0 0, .slice none 0 0]) ?_ 0 _ rfl; (with_reducible repeat (first | refine blk_drewN ?_ _ | refine blk_drew ?_ | refine blk_alloc ?_ _)); refine blk_far ?_ NBq0.out _; (with_reducible repeat (first | refine blk_drewN ?_ _ | refine blk_drew ?_ | refine blk_alloc ?_ _)); exact BK230.out) Try.underlying25 rfl (by kernel_rfl)) rfl ?_
      exact ⟨_, _, by first | rfl | (simp [errW_none, errW_some] <;> rfl) | (simp [*, errW_none, errW_some] <;> rfl), by (with_reducible repeat (first | apply Kd.S_alloc | apply Kd.S_drewN | apply Kd.S_drew)); exact Kd.S_mono (Kd.S_far (p := ⟨gb230, 1, none⟩) (Kd.S_far (p := ⟨gb230, 0, none⟩) (Kd.S_far (p := ⟨gb237, 0, none⟩) (Kd.S_types (Kd.S_types HO250.out BK237.out (by decide)) BK230.out (by decide)) (fun _ hk => hk.1.2) (.slice Ao56 y248.length co56)) (fun _ hk => hk.2) (.slice Ao56 y248.length co56)) (fun _ hk => hk.2) (.slice Ao20 t234.length co20)) (fun _ hk => trivial), by (with_reducible repeat (first | apply Kd.R_alloc | apply Kd.R_drewN | apply Kd.R_drew)); exact Kd.R_mono (Kd.R_far (p := ⟨gb230, 1, none⟩) (Kd.R_far (p := ⟨gb230, 0, none⟩) (Kd.R_far (p := ⟨gb237, 0, none⟩) (Kd.R_types (Kd.R_types HOq1.out BK237.out (by decide)) BK230.out (by decide)) (fun _ hk => hk.1.2) (.slice Ao56 y248.length co56)) (fun _ hk => hk.2) (.slice Ao56 y248.length co56)) (fun _ hk => hk.2) (.slice Ao20 t234.length co20)) (fun _ hk => trivial), by repeat (first | (with_reducible first | exact HB.out | apply bA | apply bN | apply bD | refine bS ?_ GE228.out | refine bS ?_ GE229.out | refine bS ?_ GE230.out | refine bS ?_ GE237.out) | exact HB.out)⟩
     ·
      rw [if_neg c46] at H
      exact absurd H (by simp)
end Go.Proofs.Ytbjeaalbdaedpaa.P
