import Derived.Test.YtbjeaalbdaedpaaPx0
import Derived.Test.YtbjeaalbdaedpaaPx90
namespace Go.Proofs.Ytbjeaalbdaedpaa.P
open Go.RowKit Go.Proofs.YtbjeaalbdaedpaaW.PrintWords Go.Proofs.YtbjeaalbdaedpaaW.PrintLast Go.Proofs.YtbjeaalbdaedpaaW.PrintMore
attribute [local go_sem] max2_int min2_int max_two min_two max_three min_three max_four min_four
set_option linter.unusedVariables false
set_option linter.unusedSimpArgs false
mutual
def banksmanref08_Same.j0 : Nat → Bool → List (S28) → List Int → List (S28) → List Int → Option (Bool)
  | 0, _, _, _, _, _ => none
  | k + 1, x22, x273000, x273001, x274000, x274001 => if x22 = true then (some false) else (banksmanref08_Same.l0 k 0 x273000 x273001 x274000 x274001)
def banksmanref08_Same.l0 : Nat → Int → List (S28) → List Int → List (S28) → List Int → Option (Bool)
  | 0, _, _, _, _, _ => none
  | k + 1, x6, x273000, x273001, x274000, x274001 => if x6 < (x273001.length : Int) then (if 0 ≤ x6 then (if x6 < (x274001.length : Int) then (if (rd x273001 x6) = (rd x274001 x6) then (banksmanref08_Same.l0 k (wrap64 (x6 + 1)) x273000 x273001 x274000 x274001) else (some false)) else (none)) else (none)) else (some true)
end
def banksmanref08_Same.f (k : Nat) (l0_0 : List (S28)) (l0_1 : List Int) (l1_0 : List (S28)) (l1_1 : List Int) : Option (Bool) := (banksmanref08_Writes.f k l0_0 l1_0).bind fun t274 => (if t274 = true then (banksmanref08_Same.j0 k ((l0_1.length : Int) != (l1_1.length : Int)) l0_0 l0_1 l1_0 l1_1) else (banksmanref08_Same.j0 k true l0_0 l0_1 l1_0 l1_1))
set_option maxHeartbeats 8000000 in
set_option maxRecDepth 100000 in
theorem banksmanref08_Same.calls (k : Nat) (A0_0 : Option Addr) (c0_0 : Nat) (l0_0 : List (S28)) (A0_1 : Option Addr) (c0_1 : Nat) (l0_1 : List Int) (A1_0 : Option Addr) (c1_0 : Nat) (l1_0 : List (S28)) (A1_1 : Option Addr) (c1_1 : Nat) (l1_1 : List Int) (r : Bool) (w : World) (hr0_0 : Kd.C k28 w A0_0 l0_0.length l0_0) (hc0_0 : l0_0.length ≤ c0_0) (hr0_1 : Kd.C (Kd.int .i64) w A0_1 l0_1.length l0_1) (hc0_1 : l0_1.length ≤ c0_1) (hr1_0 : Kd.C k28 w A1_0 l1_0.length l1_0) (hc1_0 : l1_0.length ≤ c1_0) (hr1_1 : Kd.C (Kd.int .i64) w A1_1 l1_1.length l1_1) (hc1_1 : l1_1.length ≤ c1_1) (h : banksmanref08_Same.f k l0_0 l0_1 l1_0 l1_1 = some r) :
  Calls Try.prog 16 #[.agg #[.slice A0_0 l0_0.length c0_0, .slice A0_1 l0_1.length c0_1], .agg #[.slice A1_0 l1_0.length c1_0, .slice A1_1 l1_1.length c1_1]] w fun e w' => e = .returned (.bool r) ∧ Below w.heap.size w w' := by
 have hu25 := Try.underlying25
 have HR0_0 := aM hr0_0
 have HC0_0 := aM hc0_0
 clear hr0_0 hc0_0
 have HR0_1 := aM hr0_1
 have HC0_1 := aM hc0_1
 clear hr0_1 hc0_1
 have HR1_0 := aM hr1_0
 have HC1_0 := aM hc1_0
 clear hr1_0 hc1_0
 have HR1_1 := aM hr1_1
 have HC1_1 := aM hc1_1
 clear hr1_1 hc1_1
 have HB := aM (Below.refl w.heap.size w)
 have H : ((banksmanref08_Writes.f k l0_0 l1_0).bind fun t274 => (if t274 = true then (banksmanref08_Same.j0 k ((l0_1.length : Int) != (l1_1.length : Int)) l0_0 l0_1 l1_0 l1_1) else (banksmanref08_Same.j0 k true l0_0 l0_1 l1_0 l1_1))) = some r := h
 clear h
 replace H := Option.bind_eq_some_iff.mp H
 obtain ⟨t274, A30, H⟩ := H
 replace H : (if t274 = true then (banksmanref08_Same.j0 k ((l0_1.length : Int) != (l1_1.length : Int)) l0_0 l0_1 l1_0 l1_1) else (banksmanref08_Same.j0 k true l0_0 l0_1 l1_0 l1_1)) = some r := H
 have A3 := aM A30
 clear A30
 have HC4 := aM H
 clear H
 go_enter Try.func16, Try.ntmps16
 go_upto_region 2 with (first | ((with_reducible refine gate_dst (N := 2) rfl ?_); (try (refine gate_guard (by rfl) ?_; dsimp only)); refine box_event ?hg (N := 2) ?hd (cs := #[.slice A0_0 l0_0.length c0_0, .slice A0_1 l0_1.length c0_1]) (t := 25) ?hr ?_; (case hd => rfl); (case hg => rfl); (case hr => first | (go_simp; done) | (go_simp; rfl)); intro gb272 hg w5 hbox hb; have BK272 := aM (hbox); have GW272 := aM ((by rw [hg]; exact (below_size (by repeat (first | (with_reducible first | exact HB.out | apply bA | apply bN | apply bD) | exact HB.out))) : w.heap.size ≤ gb272)); have GE272 := aM ((by rw [hg]; exact (below_size (by repeat (first | (with_reducible first | exact HB.out | apply bA | apply bN | apply bD) | exact HB.out))) : w.heap.size ≤ gb272)); replace HB := aM (below_step (by repeat (first | (with_reducible first | exact HB.out | apply bA | apply bN | apply bD) | exact HB.out)) hb); clear hb hbox hg) | ((with_reducible refine gate_dst (N := 3) rfl ?_); (try (refine gate_guard (by rfl) ?_; dsimp only)); refine box_event ?hg (N := 3) ?hd (cs := #[.slice A1_0 l1_0.length c1_0, .slice A1_1 l1_1.length c1_1]) (t := 25) ?hr ?_; (case hd => rfl); (case hg => rfl); (case hr => first | (go_simp; done) | (go_simp; rfl)); intro gb273 hg w6 hbox hb; have BK273 := aM (hbox); have GW273 := aM ((by rw [hg]; exact (below_size (by repeat (first | (with_reducible first | exact HB.out | apply bA | apply bN | apply bD | refine bS ?_ GE272.out) | exact HB.out))) : w.heap.size ≤ gb273)); have GE273 := aM ((by rw [hg]; exact (below_size (by repeat (first | (with_reducible first | exact HB.out | apply bA | apply bN | apply bD | refine bS ?_ GE272.out) | exact HB.out))) : w.heap.size ≤ gb273)); replace HB := aM (below_step (by repeat (first | (with_reducible first | exact HB.out | apply bA | apply bN | apply bD | refine bS ?_ GE272.out) | exact HB.out)) hb); have NBq0 := aM ((by rw [hg]; exact Nat.ne_of_lt (blk_lt (g := gb272) (o := .cells #[.slice A0_0 l0_0.length c0_0, .slice A0_1 l0_1.length c0_1] 25 (0, 0)) (bU BK272.out)) : gb272 ≠ gb273)); have NBq1 := aM ((by rw [hg]; exact Nat.ne_of_gt (blk_lt (g := gb272) (o := .cells #[.slice A0_0 l0_0.length c0_0, .slice A0_1 l0_1.length c0_1] 25 (0, 0)) (bU BK272.out)) : gb273 ≠ gb272)); replace BK272 := aM (kB (g := gb272) (o := .cells #[.slice A0_0 l0_0.length c0_0, .slice A0_1 l0_1.length c0_1] 25 (0, 0)) (bU BK272.out) hb); clear hb hbox hg; have hnb7 := NBq0.out; have hnc7 := NBq1.out; have hcz8_0 : w6.cell? ⟨gb272, 0, none⟩ = some (.slice A0_0 l0_0.length c0_0) := (kC BK272.out 0).trans rfl; have hcz8_1 : w6.cell? ⟨gb272, 1, none⟩ = some (.slice A0_1 l0_1.length c0_1) := (kC BK272.out 1).trans rfl; have hfz8_0 := kF BK272.out 0; have hfz8_1 := kF BK272.out 1; have hcz9_0 : w6.cell? ⟨gb273, 0, none⟩ = some (.slice A1_0 l1_0.length c1_0) := (kC BK273.out 0).trans rfl; have hcz9_1 : w6.cell? ⟨gb273, 1, none⟩ = some (.slice A1_1 l1_1.length c1_1) := (kC BK273.out 1).trans rfl; have hfz9_0 := kF BK273.out 0; have hfz9_1 := kF BK273.out 1) | (go_at_call 22; (with_reducible refine (banksmanref08_Writes.calls k _ _ l0_0 _ _ l1_0 t274 _ ?side1 ?side2 ?side3 ?side4 A3.out).mono ?_); (case side1 => repeat (first | exact (Kd.C_below HR0_0.out HB.out) | (with_reducible refine Kd.C_alloc ?_ _) | (with_reducible refine Kd.C_drewN ?_ _) | (with_reducible refine Kd.C_drew ?_))); (case side2 => exact HC0_0.out); (case side3 => repeat (first | exact (Kd.C_below HR1_0.out HB.out) | (with_reducible refine Kd.C_alloc ?_ _) | (with_reducible refine Kd.C_drewN ?_ _) | (with_reducible refine Kd.C_drew ?_))); (case side4 => exact HC1_0.out); rintro e w' ⟨rfl, ⟨nd, rfl⟩⟩; (try first | exact ⟨rfl, _, World.drewN_drewN _ _ _⟩ | exact ⟨rfl, _, Eq.trans (World.drewN_drewN _ _ _) (congrArg (World.drewN _) (Nat.add_assoc _ _ _))⟩)))
 repeat (go_quiet (first | ((with_reducible refine gate_dst (N := 2) rfl ?_); (try (refine gate_guard (by rfl) ?_; dsimp only)); refine box_event ?hg (N := 2) ?hd (cs := #[.slice A0_0 l0_0.length c0_0, .slice A0_1 l0_1.length c0_1]) (t := 25) ?hr ?_; (case hd => rfl); (case hg => rfl); (case hr => first | (go_simp; done) | (go_simp; rfl)); intro gb272 hg w5 hbox hb; have BK272 := aM (hbox); have GW272 := aM ((by rw [hg]; exact (below_size (by repeat (first | (with_reducible first | exact HB.out | apply bA | apply bN | apply bD) | exact HB.out))) : w.heap.size ≤ gb272)); have GE272 := aM ((by rw [hg]; exact (below_size (by repeat (first | (with_reducible first | exact HB.out | apply bA | apply bN | apply bD) | exact HB.out))) : w.heap.size ≤ gb272)); replace HB := aM (below_step (by repeat (first | (with_reducible first | exact HB.out | apply bA | apply bN | apply bD) | exact HB.out)) hb); clear hb hbox hg) | ((with_reducible refine gate_dst (N := 3) rfl ?_); (try (refine gate_guard (by rfl) ?_; dsimp only)); refine box_event ?hg (N := 3) ?hd (cs := #[.slice A1_0 l1_0.length c1_0, .slice A1_1 l1_1.length c1_1]) (t := 25) ?hr ?_; (case hd => rfl); (case hg => rfl); (case hr => first | (go_simp; done) | (go_simp; rfl)); intro gb273 hg w6 hbox hb; have BK273 := aM (hbox); have GW273 := aM ((by rw [hg]; exact (below_size (by repeat (first | (with_reducible first | exact HB.out | apply bA | apply bN | apply bD | refine bS ?_ GE272.out) | exact HB.out))) : w.heap.size ≤ gb273)); have GE273 := aM ((by rw [hg]; exact (below_size (by repeat (first | (with_reducible first | exact HB.out | apply bA | apply bN | apply bD | refine bS ?_ GE272.out) | exact HB.out))) : w.heap.size ≤ gb273)); replace HB := aM (below_step (by repeat (first | (with_reducible first | exact HB.out | apply bA | apply bN | apply bD | refine bS ?_ GE272.out) | exact HB.out)) hb); have NBq0 := aM ((by rw [hg]; exact Nat.ne_of_lt (blk_lt (g := gb272) (o := .cells #[.slice A0_0 l0_0.length c0_0, .slice A0_1 l0_1.length c0_1] 25 (0, 0)) (bU BK272.out)) : gb272 ≠ gb273)); have NBq1 := aM ((by rw [hg]; exact Nat.ne_of_gt (blk_lt (g := gb272) (o := .cells #[.slice A0_0 l0_0.length c0_0, .slice A0_1 l0_1.length c0_1] 25 (0, 0)) (bU BK272.out)) : gb273 ≠ gb272)); replace BK272 := aM (kB (g := gb272) (o := .cells #[.slice A0_0 l0_0.length c0_0, .slice A0_1 l0_1.length c0_1] 25 (0, 0)) (bU BK272.out) hb); clear hb hbox hg; have hnb7 := NBq0.out; have hnc7 := NBq1.out; have hcz8_0 : w6.cell? ⟨gb272, 0, none⟩ = some (.slice A0_0 l0_0.length c0_0) := (kC BK272.out 0).trans rfl; have hcz8_1 : w6.cell? ⟨gb272, 1, none⟩ = some (.slice A0_1 l0_1.length c0_1) := (kC BK272.out 1).trans rfl; have hfz8_0 := kF BK272.out 0; have hfz8_1 := kF BK272.out 1; have hcz9_0 : w6.cell? ⟨gb273, 0, none⟩ = some (.slice A1_0 l1_0.length c1_0) := (kC BK273.out 0).trans rfl; have hcz9_1 : w6.cell? ⟨gb273, 1, none⟩ = some (.slice A1_1 l1_1.length c1_1) := (kC BK273.out 1).trans rfl; have hfz9_0 := kF BK273.out 0; have hfz9_1 := kF BK273.out 1) | (go_at_call 22; (with_reducible refine (banksmanref08_Writes.calls k _ _ l0_0 _ _ l1_0 t274 _ ?side1 ?side2 ?side3 ?side4 A3.out).mono ?_); (case side1 => repeat (first | exact (Kd.C_below HR0_0.out HB.out) | (with_reducible refine Kd.C_alloc ?_ _) | (with_reducible refine Kd.C_drewN ?_ _) | (with_reducible refine Kd.C_drew ?_))); (case side2 => exact HC0_0.out); (case side3 => repeat (first | exact (Kd.C_below HR1_0.out HB.out) | (with_reducible refine Kd.C_alloc ?_ _) | (with_reducible refine Kd.C_drewN ?_ _) | (with_reducible refine Kd.C_drew ?_))); (case side4 => exact HC1_0.out); rintro e w' ⟨rfl, ⟨nd, rfl⟩⟩; (try first | exact ⟨rfl, _, World.drewN_drewN _ _ _⟩ | exact ⟨rfl, _, Eq.trans (World.drewN_drewN _ _ _) (congrArg (World.drewN _) (Nat.add_assoc _ _ _))⟩))); go_upto_region 2 with (first | ((with_reducible refine gate_dst (N := 2) rfl ?_); (try (refine gate_guard (by rfl) ?_; dsimp only)); refine box_event ?hg (N := 2) ?hd (cs := #[.slice A0_0 l0_0.length c0_0, .slice A0_1 l0_1.length c0_1]) (t := 25) ?hr ?_; (case hd => rfl); (case hg => rfl); (case hr => first | (go_simp; done) | (go_simp; rfl)); intro gb272 hg w5 hbox hb; have BK272 := aM (hbox); have GW272 := aM ((by rw [hg]; exact (below_size (by repeat (first | (with_reducible first | exact HB.out | apply bA | apply bN | apply bD) | exact HB.out))) : w.heap.size ≤ gb272)); have GE272 := aM ((by rw [hg]; exact (below_size (by repeat (first | (with_reducible first | exact HB.out | apply bA | apply bN | apply bD) | exact HB.out))) : w.heap.size ≤ gb272)); replace HB := aM (below_step (by repeat (first | (with_reducible first | exact HB.out | apply bA | apply bN | apply bD) | exact HB.out)) hb); clear hb hbox hg) | ((with_reducible refine gate_dst (N := 3) rfl ?_); (try (refine gate_guard (by rfl) ?_; dsimp only)); refine box_event ?hg (N := 3) ?hd (cs := #[.slice A1_0 l1_0.length c1_0, .slice A1_1 l1_1.length c1_1]) (t := 25) ?hr ?_; (case hd => rfl); (case hg => rfl); (case hr => first | (go_simp; done) | (go_simp; rfl)); intro gb273 hg w6 hbox hb; have BK273 := aM (hbox); have GW273 := aM ((by rw [hg]; exact (below_size (by repeat (first | (with_reducible first | exact HB.out | apply bA | apply bN | apply bD | refine bS ?_ GE272.out) | exact HB.out))) : w.heap.size ≤ gb273)); have GE273 := aM ((by rw [hg]; exact (below_size (by repeat (first | (with_reducible first | exact HB.out | apply bA | apply bN | apply bD | refine bS ?_ GE272.out) | exact HB.out))) : w.heap.size ≤ gb273)); replace HB := aM (below_step (by repeat (first | (with_reducible first | exact HB.out | apply bA | apply bN | apply bD | refine bS ?_ GE272.out) | exact HB.out)) hb); have NBq0 := aM ((by rw [hg]; exact Nat.ne_of_lt (blk_lt (g := gb272) (o := .cells #[.slice A0_0 l0_0.length c0_0, .slice A0_1 l0_1.length c0_1] 25 (0, 0)) (bU BK272.out)) : gb272 ≠ gb273)); have NBq1 := aM ((by rw [hg]; exact Nat.ne_of_gt (blk_lt (g := gb272) (o := .cells #[.slice A0_0 l0_0.length c0_0, .slice A0_1 l0_1.length c0_1] 25 (0, 0)) (bU BK272.out)) : gb273 ≠ gb272)); replace BK272 := aM (kB (g := gb272) (o := .cells #[.slice A0_0 l0_0.length c0_0, .slice A0_1 l0_1.length c0_1] 25 (0, 0)) (bU BK272.out) hb); clear hb hbox hg; have hnb7 := NBq0.out; have hnc7 := NBq1.out; have hcz8_0 : w6.cell? ⟨gb272, 0, none⟩ = some (.slice A0_0 l0_0.length c0_0) := (kC BK272.out 0).trans rfl; have hcz8_1 : w6.cell? ⟨gb272, 1, none⟩ = some (.slice A0_1 l0_1.length c0_1) := (kC BK272.out 1).trans rfl; have hfz8_0 := kF BK272.out 0; have hfz8_1 := kF BK272.out 1; have hcz9_0 : w6.cell? ⟨gb273, 0, none⟩ = some (.slice A1_0 l1_0.length c1_0) := (kC BK273.out 0).trans rfl; have hcz9_1 : w6.cell? ⟨gb273, 1, none⟩ = some (.slice A1_1 l1_1.length c1_1) := (kC BK273.out 1).trans rfl; have hfz9_0 := kF BK273.out 0; have hfz9_1 := kF BK273.out 1) | (go_at_call 22; (with_reducible refine (banksmanref08_Writes.calls k _ _ l0_0 _ _ l1_0 t274 _ ?side1 ?side2 ?side3 ?side4 A3.out).mono ?_); (case side1 => repeat (first | exact (Kd.C_below HR0_0.out HB.out) | (with_reducible refine Kd.C_alloc ?_ _) | (with_reducible refine Kd.C_drewN ?_ _) | (with_reducible refine Kd.C_drew ?_))); (case side2 => exact HC0_0.out); (case side3 => repeat (first | exact (Kd.C_below HR1_0.out HB.out) | (with_reducible refine Kd.C_alloc ?_ _) | (with_reducible refine Kd.C_drewN ?_ _) | (with_reducible refine Kd.C_drew ?_))); (case side4 => exact HC1_0.out); rintro e w' ⟨rfl, ⟨nd, rfl⟩⟩; (try first | exact ⟨rfl, _, World.drewN_drewN _ _ _⟩ | exact ⟨rfl, _, Eq.trans (World.drewN_drewN _ _ _) (congrArg (World.drewN _) (Nat.add_assoc _ _ _))⟩))))
 (try simp only [Act.put, List.setIfInBounds_toArray, List.set_cons_zero, List.set_cons_succ])
 go_cut [22] (fun v22 wc => ∃ (kq : Nat) (x22_3 : Bool), v22 = .bool x22_3 ∧ Aside0 (banksmanref08_Same.j0 kq x22_3 l0_0 l0_1 l1_0 l1_1 = some r) ∧ Aside0 (kq ≤ k) ∧ Aside0 (wc.heap[gb272]? = some (.cells #[(.slice A0_0 l0_0.length c0_0), (.slice A0_1 l0_1.length c0_1)] 25 (0, 0))) ∧ Aside0 (wc.heap[gb273]? = some (.cells #[(.slice A1_0 l1_0.length c1_0), (.slice A1_1 l1_1.length c1_1)] 25 (0, 0))) ∧ Aside0 (Below w.heap.size w wc))
 case first =>
  have H := HC4.out
  clear HC4
  by_cases c10 : t274 = true
  ·
   subst c10
   have H1 : (banksmanref08_Same.j0 k ((l0_1.length : Int) != (l1_1.length : Int)) l0_0 l0_1 l1_0 l1_1) = some r := by rw [if_pos rfl] at H; exact H
   clear H
   have H := H1
   clear H1
   have H' := aM H
   clear H
   have hnb11 := NBq0.out
   have hnc11 := NBq1.out
   have hcz12_0 : w6.cell? ⟨gb272, 0, none⟩ = some (.slice A0_0 l0_0.length c0_0) := (kC BK272.out 0).trans rfl
   have hcz12_1 : w6.cell? ⟨gb272, 1, none⟩ = some (.slice A0_1 l0_1.length c0_1) := (kC BK272.out 1).trans rfl
   have hfz12_0 := kF BK272.out 0
   have hfz12_1 := kF BK272.out 1
   have hcz13_0 : w6.cell? ⟨gb273, 0, none⟩ = some (.slice A1_0 l1_0.length c1_0) := (kC BK273.out 0).trans rfl
   have hcz13_1 : w6.cell? ⟨gb273, 1, none⟩ = some (.slice A1_1 l1_1.length c1_1) := (kC BK273.out 1).trans rfl
   have hfz13_0 := kF BK273.out 0
   have hfz13_1 := kF BK273.out 1
   go_wp2
   repeat (go_quiet (fail); try go_wp2)
   go_meet
   case rel => exact ⟨_, (((l0_1.length : Int) != (l1_1.length : Int))), (by first | rfl | (simp; done) | (simp [*]; done)), H', ⟨by first | omega | exact Nat.le_refl _⟩, ⟨by (with_reducible repeat (first | refine blk_drewN ?_ _ | refine blk_drew ?_ | refine blk_alloc ?_ _)); exact BK272.out⟩, ⟨by (with_reducible repeat (first | refine blk_drewN ?_ _ | refine blk_drew ?_ | refine blk_alloc ?_ _)); exact BK273.out⟩, ⟨by repeat (first | (with_reducible first | exact HB.out | apply bA | apply bN | apply bD | refine bS ?_ GE272.out | refine bS ?_ GE273.out) | exact HB.out)⟩⟩
  ·
   replace c10 := Bool.eq_false_iff.mpr c10
   subst c10
   have H1 : (banksmanref08_Same.j0 k true l0_0 l0_1 l1_0 l1_1) = some r := by rw [if_neg (show ¬ (false = true) by decide)] at H; exact H
   clear H
   have H := H1
   clear H1
   have H' := aM H
   clear H
   go_wp2
   repeat (go_quiet (fail); try go_wp2)
   go_meet
   case rel => exact ⟨_, (true), (by first | rfl | (simp; done) | (simp [*]; done)), H', ⟨by first | omega | exact Nat.le_refl _⟩, ⟨by (with_reducible repeat (first | refine blk_drewN ?_ _ | refine blk_drew ?_ | refine blk_alloc ?_ _)); exact BK272.out⟩, ⟨by (with_reducible repeat (first | refine blk_drewN ?_ _ | refine blk_drew ?_ | refine blk_alloc ?_ _)); exact BK273.out⟩, ⟨by repeat (first | (with_reducible first | exact HB.out | apply bA | apply bN | apply bD | refine bS ?_ GE272.out | refine bS ?_ GE273.out) | exact HB.out)⟩⟩
 case rest =>
  clear HC4
  try clear c1
  try clear p2
  try clear c7
  try clear c10
  try clear c11
  try clear hcz12_0
  try clear hcz12_1
  try clear hcz13_0
  try clear hcz13_1
  try clear hcz8_0
  try clear hcz8_1
  try clear hcz9_0
  try clear hcz9_1
  try clear hfz12_0
  try clear hfz12_1
  try clear hfz13_0
  try clear hfz13_1
  try clear hfz8_0
  try clear hfz8_1
  try clear hfz9_0
  try clear hfz9_1
  obtain ⟨kq, x22_3, rfl, HA, HJ3, BK272, BK273, HB⟩ := hcut
  cases kq with
  | zero => exact absurd HA.out (by simp [banksmanref08_Same.j0])
  | succ kj3 =>
   have H := HA.out
   clear HA
   simp only [banksmanref08_Same.j0] at H
   by_cases c14 : x22_3 = true
   ·
    subst c14
    have H1 : (some false) = some r := by rw [if_pos rfl] at H; exact H
    clear H
    have H := H1
    clear H1
    obtain rfl := Option.some.inj H
    go_wp2
    repeat (go_quiet (fail); try go_wp2)
    go_ret
    exact ⟨by first | rfl | (simp [errW_none, errW_some] <;> rfl) | (simp [*, errW_none, errW_some] <;> rfl), by repeat (first | (with_reducible first | exact HB.out | apply bA | apply bN | apply bD | refine bS ?_ GE272.out | refine bS ?_ GE273.out) | exact HB.out)⟩
   ·
    replace c14 := Bool.eq_false_iff.mpr c14
    subst c14
    have H1 : (banksmanref08_Same.l0 kj3 0 l0_0 l0_1 l1_0 l1_1) = some r := by rw [if_neg (show ¬ (false = true) by decide)] at H; exact H
    clear H
    have H := H1
    clear H1
    have H' := aM H
    clear H
    go_wp2
    repeat (go_quiet (fail); try go_wp2)
    go_loopg [6] kj3 (fun kq v6 w' => ∃ (x6_2 : Int), v6 = .int .i64 x6_2 ∧ Aside0 (banksmanref08_Same.l0 kq x6_2 l0_0 l0_1 l1_0 l1_1 = some r) ∧ Aside0 (kq ≤ kj3) ∧ Aside0 (w'.heap[gb272]? = some (.cells #[(.slice A0_0 l0_0.length c0_0), (.slice A0_1 l0_1.length c0_1)] 25 (0, 0))) ∧ Aside0 (w'.heap[gb273]? = some (.cells #[(.slice A1_0 l1_0.length c1_0), (.slice A1_1 l1_1.length c1_1)] 25 (0, 0))) ∧ Aside0 (Below w.heap.size w w'))
    case atStart => exact ⟨(0), (by first | rfl | (simp; done) | (simp [*]; done)), H', ⟨Nat.le_refl _⟩, ⟨by (with_reducible repeat (first | refine blk_drewN ?_ _ | refine blk_drew ?_ | refine blk_alloc ?_ _)); exact BK272.out⟩, ⟨by (with_reducible repeat (first | refine blk_drewN ?_ _ | refine blk_drew ?_ | refine blk_alloc ?_ _)); exact BK273.out⟩, ⟨by repeat (first | (with_reducible first | exact HB.out | apply bA | apply bN | apply bD | refine bS ?_ GE272.out | refine bS ?_ GE273.out) | exact HB.out)⟩⟩
    case round =>
     clear H'
     try clear c1
     try clear p2
     try clear c7
     try clear c10
     try clear c11
     try clear c14
     try clear hcz12_0
     try clear hcz12_1
     try clear hcz13_0
     try clear hcz13_1
     try clear hcz8_0
     try clear hcz8_1
     try clear hcz9_0
     try clear hcz9_1
     try clear hfz12_0
     try clear hfz12_1
     try clear hfz13_0
     try clear hfz13_1
     try clear hfz8_0
     try clear hfz8_1
     try clear hfz9_0
     try clear hfz9_1
     try clear p2
     obtain ⟨x6_2, rfl, HA, HK2, BK272, BK273, HB⟩ := hrel
     cases gk with
     | zero => exact absurd HA.out (by simp [banksmanref08_Same.l0])
     | succ k2 =>
      have H := HA.out
      clear HA
      simp only [banksmanref08_Same.l0] at H
      by_cases c15 : x6_2 < (l0_1.length : Int)
      ·
       rw [if_pos c15] at H
       have c15b0 : decide (x6_2 < (l0_1.length : Int)) = true := decide_eq_true c15
       clear c15
       by_cases c16 : 0 ≤ x6_2
       ·
        rw [if_pos c16] at H
        have c16b0 : decide (0 ≤ x6_2) = true := decide_eq_true c16
        clear c16
        by_cases c17 : x6_2 < (l1_1.length : Int)
        ·
         rw [if_pos c17] at H
         have c17b0 : decide (x6_2 < (l1_1.length : Int)) = true := decide_eq_true c17
         clear c17
         by_cases c18 : (rd l0_1 x6_2) = (rd l1_1 x6_2)
         ·
          rw [if_pos c18] at H
          have c18b0 : ((rd l0_1 x6_2) == (rd l1_1 x6_2)) = true := beq_iff_eq.mpr c18
          have c18b1 : ((rd l0_1 x6_2) != (rd l1_1 x6_2)) = false := bne_eq_false_iff_eq.mpr c18
          clear c18
          have H' := aM H
          clear H
          have hnb19 := NBq0.out
          have hnc19 := NBq1.out
          have hcz20_0 : wr.cell? ⟨gb272, 0, none⟩ = some (.slice A0_0 l0_0.length c0_0) := (kC BK272.out 0).trans rfl
          have hcz20_1 : wr.cell? ⟨gb272, 1, none⟩ = some (.slice A0_1 l0_1.length c0_1) := (kC BK272.out 1).trans rfl
          have hfz20_0 := kF BK272.out 0
          have hfz20_1 := kF BK272.out 1
          have p275 : 0 ≤ (x6_2 : Int) := of_decide_eq_true (by first | (with_reducible assumption) | assumption)
          have q275 : x6_2 < (l0_1.length : Int) := of_decide_eq_true (by first | (with_reducible assumption) | assumption)
          obtain ⟨ad275, e275, hx275_0⟩ := Kd.at_int HR0_1.out x6_2 p275 q275
          cases e275
          replace hx275_0 := (HB.out.cell (World.block_lt_of_cell? w _ hx275_0)).trans hx275_0
          replace p275 := eq_true p275
          replace q275 := eq_true q275
          have hcz21_0 : wr.cell? ⟨gb273, 0, none⟩ = some (.slice A1_0 l1_0.length c1_0) := (kC BK273.out 0).trans rfl
          have hcz21_1 : wr.cell? ⟨gb273, 1, none⟩ = some (.slice A1_1 l1_1.length c1_1) := (kC BK273.out 1).trans rfl
          have hfz21_0 := kF BK273.out 0
          have hfz21_1 := kF BK273.out 1
          have p276 : 0 ≤ (x6_2 : Int) := of_decide_eq_true (by first | (with_reducible assumption) | assumption)
          have q276 : x6_2 < (l1_1.length : Int) := of_decide_eq_true (by first | (with_reducible assumption) | assumption)
          obtain ⟨ad276, e276, hx276_0⟩ := Kd.at_int HR1_1.out x6_2 p276 q276
          cases e276
          replace hx276_0 := (HB.out.cell (World.block_lt_of_cell? w _ hx276_0)).trans hx276_0
          replace p276 := eq_true p276
          replace q276 := eq_true q276
          go_wp2
          repeat (go_quiet (fail); try go_wp2)
          go_roundg k2
          case measure => have := HJ3.out; have := HK2.out; omega
          case rel => exact ⟨(wrap64 (x6_2 + 1)), (by first | rfl | (simp; done) | (simp [*]; done)), H', ⟨by have := HJ3.out; have := HK2.out; omega⟩, ⟨by (with_reducible repeat (first | refine blk_drewN ?_ _ | refine blk_drew ?_ | refine blk_alloc ?_ _)); exact BK272.out⟩, ⟨by (with_reducible repeat (first | refine blk_drewN ?_ _ | refine blk_drew ?_ | refine blk_alloc ?_ _)); exact BK273.out⟩, ⟨by repeat (first | (with_reducible first | exact HB.out | apply bA | apply bN | apply bD | refine bS ?_ GE272.out | refine bS ?_ GE273.out) | exact HB.out)⟩⟩
         ·
          rw [if_neg c18] at H
          have c18b0 : ((rd l0_1 x6_2) == (rd l1_1 x6_2)) = false := beq_eq_false_iff_ne.mpr c18
          have c18b1 : ((rd l0_1 x6_2) != (rd l1_1 x6_2)) = true := bne_iff_ne.mpr c18
          obtain rfl := Option.some.inj H
          have hnb22 := NBq0.out
          have hnc22 := NBq1.out
          have hcz23_0 : wr.cell? ⟨gb272, 0, none⟩ = some (.slice A0_0 l0_0.length c0_0) := (kC BK272.out 0).trans rfl
          have hcz23_1 : wr.cell? ⟨gb272, 1, none⟩ = some (.slice A0_1 l0_1.length c0_1) := (kC BK272.out 1).trans rfl
          have hfz23_0 := kF BK272.out 0
          have hfz23_1 := kF BK272.out 1
          have p275 : 0 ≤ (x6_2 : Int) := of_decide_eq_true (by first | (with_reducible assumption) | assumption)
          have q275 : x6_2 < (l0_1.length : Int) := of_decide_eq_true (by first | (with_reducible assumption) | assumption)
          obtain ⟨ad275, e275, hx275_0⟩ := Kd.at_int HR0_1.out x6_2 p275 q275
          cases e275
          replace hx275_0 := (HB.out.cell (World.block_lt_of_cell? w _ hx275_0)).trans hx275_0
          replace p275 := eq_true p275
          replace q275 := eq_true q275
          have hcz24_0 : wr.cell? ⟨gb273, 0, none⟩ = some (.slice A1_0 l1_0.length c1_0) := (kC BK273.out 0).trans rfl
          have hcz24_1 : wr.cell? ⟨gb273, 1, none⟩ = some (.slice A1_1 l1_1.length c1_1) := (kC BK273.out 1).trans rfl
          have hfz24_0 := kF BK273.out 0
          have hfz24_1 := kF BK273.out 1
          have p276 : 0 ≤ (x6_2 : Int) := of_decide_eq_true (by first | (with_reducible assumption) | assumption)
          have q276 : x6_2 < (l1_1.length : Int) := of_decide_eq_true (by first | (with_reducible assumption) | assumption)
          obtain ⟨ad276, e276, hx276_0⟩ := Kd.at_int HR1_1.out x6_2 p276 q276
          cases e276
          replace hx276_0 := (HB.out.cell (World.block_lt_of_cell? w _ hx276_0)).trans hx276_0
          replace p276 := eq_true p276
          replace q276 := eq_true q276
          go_wp2
          repeat (go_quiet (fail); try go_wp2)
          go_ret
          exact ⟨by first | rfl | (simp [errW_none, errW_some] <;> rfl) | (simp [*, errW_none, errW_some] <;> rfl), by repeat (first | (with_reducible first | exact HB.out | apply bA | apply bN | apply bD | refine bS ?_ GE272.out | refine bS ?_ GE273.out) | exact HB.out)⟩
        ·
         rw [if_neg c17] at H
         exact absurd H (by simp)
       ·
        rw [if_neg c16] at H
        exact absurd H (by simp)
      ·
       rw [if_neg c15] at H
       have c15b0 : decide (x6_2 < (l0_1.length : Int)) = false := decide_eq_false c15
       clear c15
       obtain rfl := Option.some.inj H
       have hnb25 := NBq0.out
       have hnc25 := NBq1.out
       have hcz26_0 : wr.cell? ⟨gb272, 0, none⟩ = some (.slice A0_0 l0_0.length c0_0) := (kC BK272.out 0).trans rfl
       have hcz26_1 : wr.cell? ⟨gb272, 1, none⟩ = some (.slice A0_1 l0_1.length c0_1) := (kC BK272.out 1).trans rfl
       have hfz26_0 := kF BK272.out 0
       have hfz26_1 := kF BK272.out 1
       go_wp2
       repeat (go_quiet (fail); try go_wp2)
       go_ret
       exact ⟨by first | rfl | (simp [errW_none, errW_some] <;> rfl) | (simp [*, errW_none, errW_some] <;> rfl), by repeat (first | (with_reducible first | exact HB.out | apply bA | apply bN | apply bD | refine bS ?_ GE272.out | refine bS ?_ GE273.out) | exact HB.out)⟩
end Go.Proofs.Ytbjeaalbdaedpaa.P
