import Derived.Test.YtbjeaalbdaedpaaPx0
import Derived.Test.YtbjeaalbdaedpaaPx37
import Derived.Test.YtbjeaalbdaedpaaPx1
namespace Go.Proofs.Ytbjeaalbdaedpaa.P
open Go.RowKit Go.Proofs.YtbjeaalbdaedpaaW.PrintWords Go.Proofs.YtbjeaalbdaedpaaW.PrintLast Go.Proofs.YtbjeaalbdaedpaaW.PrintMore
attribute [local go_sem] max2_int min2_int max_two min_two max_three min_three max_four min_four
set_option linter.unusedVariables false
set_option linter.unusedSimpArgs false
def delta_Put.j0 : Nat → Bool → List (S28) → List Int → Int → List Int → Bool → List Int → Option ((List (S28)) × List Int × Int)
  | 0, _, _, _, _, _, _, _ => none
  | k + 1, x8, x119000, x119001, x120000, x120001, x120002, x120003 => if x8 = true then (some (x119000, x119001, 1)) else (if (x119000.length : Int) ≥ 20 then (some (x119000, x119001, 80)) else ((delta_write.f x120000 x120001 x120002 x120003).bind fun bt129 => (if x119000.length < 2199023255552 then (some ((x119000 ++ [(⟨bt129.1, bt129.2.1, bt129.2.2.1, bt129.2.2.2⟩ : S28)]), x119001, 0)) else (none))))
def delta_Put.f (k : Nat) (l0_0 : List (S28)) (l0_1 : List Int) (a1_0 : Int) (l1_1 : List Int) (a1_2 : Bool) (l1_3 : List Int) : Option ((List (S28)) × List Int × Int) := (delta_own.f l0_0 l0_1).bind fun bt121 => ((delta_Check.f bt121.1 bt121.2).bind fun t127 => (if t127 = true then ((delta_may.f a1_0 l1_1 a1_2 l1_3).bind fun t128 => (delta_Put.j0 k (!t128) bt121.1 bt121.2 a1_0 l1_1 a1_2 l1_3)) else (delta_Put.j0 k true bt121.1 bt121.2 a1_0 l1_1 a1_2 l1_3)))
def delta_Put.T6 : Bool × List (List Nat × List Nat) := (true, [([], []), ([0], [0]), ([], []), ([2], [2]), ([3], [3]), ([1, 4, 3], [1, 4]), ([0, 1, 2, 3, 4, 5], []), ([6, 5, 5, 0, 1, 2, 3, 4, 5], [5, 6])])
def delta_Put.B6 : List Nat := [0, 1, 0, 4, 12, 31, 63, 127]
theorem delta_Put.tab6 : rtab .any (opsOf Try.f10 6) = delta_Put.T6 := by kernel_rfl
theorem delta_Put.bits6 : waitsOk delta_Put.T6.2 delta_Put.B6 = true := by kernel_rfl
set_option maxHeartbeats 8000000 in
set_option maxRecDepth 100000 in
theorem delta_Put.calls (k : Nat) (P0_0_ : Nat → Prop) (A0_0 : Option Addr) (c0_0 : Nat) (l0_0 : List (S28)) (A0_1 : Option Addr) (c0_1 : Nat) (l0_1 : List Int) (a1_0 : Int) (A1_1 : Option Addr) (c1_1 : Nat) (l1_1 : List Int) (a1_2 : Bool) (A1_3 : Option Addr) (c1_3 : Nat) (l1_3 : List Int) (r1 : List (S28)) (r2 : List Int) (r3 : Int) (w : World) (hs0_0 : Kd.V k28 28 w w.heap.size (fun k_ => P0_0_ k_) (.slice A0_0 l0_0.length c0_0) l0_0) (hr0_1 : Kd.C (Kd.int .i64) w A0_1 l0_1.length l0_1) (hc0_1 : l0_1.length ≤ c0_1) (hr1_1 : Kd.C (Kd.int .u8) w A1_1 l1_1.length l1_1) (hc1_1 : l1_1.length ≤ c1_1) (hr1_3 : Kd.C (Kd.int .u8) w A1_3 l1_3.length l1_3) (hc1_3 : l1_3.length ≤ c1_3) (h : delta_Put.f k l0_0 l0_1 a1_0 l1_1 a1_2 l1_3 = some (r1, r2, r3)) :
  Calls Try.prog 10 #[.agg #[.slice A0_0 l0_0.length c0_0, .slice A0_1 l0_1.length c0_1], .agg #[.int .i64 a1_0, .slice A1_1 l1_1.length c1_1, .bool a1_2, .slice A1_3 l1_3.length c1_3]] w fun e w' => ∃ v0_ v1_ : Value, e = .returned (.tuple #[.agg #[v0_, v1_], .int .i64 r3]) ∧ Kd.N k28 28 w' w.heap.size (fun k_ => (P0_0_ k_ ∨ w.heap.size ≤ k_) ∧ some k_ ≠ (v1_ : Value).ownBlock) v0_ r1 ∧ Kd.R (Kd.int .i64) 3 w' w.heap.size (fun k_ => (w.heap.size ≤ k_)) v1_ r2 ∧ Below w.heap.size w w' := by
 have hu25 := Try.underlying25
 have hu28 := Try.underlying28
 have HO0_0 := aM (show Kd.V k28 28 w w.heap.size (fun k_ => (P0_0_ k_ ∨ w.heap.size ≤ k_)) (.slice A0_0 l0_0.length c0_0) l0_0 from Kd.V_mono hs0_0 (fun k_ hk => .inl hk))
 have HR0_1 := aM hr0_1
 have HC0_1 := aM hc0_1
 clear hr0_1 hc0_1
 have HR1_1 := aM hr1_1
 have HC1_1 := aM hc1_1
 clear hr1_1 hc1_1
 have HR1_3 := aM hr1_3
 have HC1_3 := aM hc1_3
 clear hr1_3 hc1_3
 have HB := aM (Below.refl w.heap.size w)
 have H : ((delta_own.f l0_0 l0_1).bind fun bt121 => ((delta_Check.f bt121.1 bt121.2).bind fun t127 => (if t127 = true then ((delta_may.f a1_0 l1_1 a1_2 l1_3).bind fun t128 => (delta_Put.j0 k (!t128) bt121.1 bt121.2 a1_0 l1_1 a1_2 l1_3)) else (delta_Put.j0 k true bt121.1 bt121.2 a1_0 l1_1 a1_2 l1_3)))) = some (r1, r2, r3) := h
 clear h
 replace H := Option.bind_eq_some_iff.mp H
 obtain ⟨⟨t121, t124⟩, A30, H⟩ := H
 replace H : ((delta_Check.f t121 t124).bind fun t127 => (if t127 = true then ((delta_may.f a1_0 l1_1 a1_2 l1_3).bind fun t128 => (delta_Put.j0 k (!t128) t121 t124 a1_0 l1_1 a1_2 l1_3)) else (delta_Put.j0 k true t121 t124 a1_0 l1_1 a1_2 l1_3))) = some (r1, r2, r3) := H
 have A3 := aM A30
 clear A30
 have HC4 := aM H
 clear H
 go_enter Try.func10, Try.ntmps10
 go_upto_region 2 with (first | ((with_reducible refine gate_dst (N := 2) rfl ?_); refine box_event ?hg (N := 2) ?hd (cs := #[.slice A0_0 l0_0.length c0_0, .slice A0_1 l0_1.length c0_1]) (t := 25) ?hr ?_; (case hd => rfl); (case hg => rfl); (case hr => first | (go_simp; done) | (go_simp; rfl)); intro gb118 hg w5 hbox hb; replace HO0_0 := aM (vB (vE (vU HO0_0.out) gb118 (Nat.le_of_eq hg.symm)) hb); have BK118 := aM (hbox); have GW118 := aM ((by rw [hg]; exact (below_size (by repeat (first | (with_reducible first | exact HB.out | apply bA | apply bN | apply bD) | exact HB.out))) : w.heap.size ≤ gb118)); have GE118 := aM ((by rw [hg]; exact (below_size (by repeat (first | (with_reducible first | exact HB.out | apply bA | apply bN | apply bD) | exact HB.out))) : w.heap.size ≤ gb118)); replace HB := aM (below_step (by repeat (first | (with_reducible first | exact HB.out | apply bA | apply bN | apply bD) | exact HB.out)) hb); clear hb hbox hg) | ((with_reducible refine gate_dst (N := 3) rfl ?_); refine box_event ?hg (N := 3) ?hd (cs := #[.int .i64 a1_0, .slice A1_1 l1_1.length c1_1, .bool a1_2, .slice A1_3 l1_3.length c1_3]) (t := 28) ?hr ?_; (case hd => rfl); (case hg => rfl); (case hr => first | (go_simp; done) | (go_simp; rfl)); intro gb119 hg w6 hbox hb; replace HO0_0 := aM (vB (vE (vU HO0_0.out) gb119 (Nat.le_of_eq hg.symm)) hb); have BK119 := aM (hbox); have GW119 := aM ((by rw [hg]; exact (below_size (by repeat (first | (with_reducible first | exact HB.out | apply bA | apply bN | apply bD | refine bS ?_ GE118.out) | exact HB.out))) : w.heap.size ≤ gb119)); have GE119 := aM ((by rw [hg]; exact (below_size (by repeat (first | (with_reducible first | exact HB.out | apply bA | apply bN | apply bD | refine bS ?_ GE118.out) | exact HB.out))) : w.heap.size ≤ gb119)); replace HB := aM (below_step (by repeat (first | (with_reducible first | exact HB.out | apply bA | apply bN | apply bD | refine bS ?_ GE118.out) | exact HB.out)) hb); have NBq2 := aM ((by rw [hg]; exact Nat.ne_of_lt (blk_lt (g := gb118) (o := .cells #[.slice A0_0 l0_0.length c0_0, .slice A0_1 l0_1.length c0_1] 25 (0, 0)) (bU BK118.out)) : gb118 ≠ gb119)); have NBq1 := aM ((by rw [hg]; exact Nat.ne_of_gt (blk_lt (g := gb118) (o := .cells #[.slice A0_0 l0_0.length c0_0, .slice A0_1 l0_1.length c0_1] 25 (0, 0)) (bU BK118.out)) : gb119 ≠ gb118)); replace BK118 := aM (kB (g := gb118) (o := .cells #[.slice A0_0 l0_0.length c0_0, .slice A0_1 l0_1.length c0_1] 25 (0, 0)) (bU BK118.out) hb); clear hb hbox hg) | ((with_reducible refine gate_dst (N := 4) rfl ?_); refine box_event ?hg (N := 4) ?hd (cs := #[.slice none 0 0, .slice none 0 0]) (t := 25) ?hr ?_; (case hd => rfl); (case hg => rfl); (case hr => first | (go_simp; done) | (go_simp; rfl)); intro gb120 hg w7 hbox hb; replace HO0_0 := aM (vB (vE (vU HO0_0.out) gb120 (Nat.le_of_eq hg.symm)) hb); have BK120 := aM (hbox); have GW120 := aM ((by rw [hg]; exact (below_size (by repeat (first | (with_reducible first | exact HB.out | apply bA | apply bN | apply bD | refine bS ?_ GE118.out | refine bS ?_ GE119.out) | exact HB.out))) : w.heap.size ≤ gb120)); have GE120 := aM ((by rw [hg]; exact (below_size (by repeat (first | (with_reducible first | exact HB.out | apply bA | apply bN | apply bD | refine bS ?_ GE118.out | refine bS ?_ GE119.out) | exact HB.out))) : w.heap.size ≤ gb120)); replace HB := aM (below_step (by repeat (first | (with_reducible first | exact HB.out | apply bA | apply bN | apply bD | refine bS ?_ GE118.out | refine bS ?_ GE119.out) | exact HB.out)) hb); have NBq3 := aM ((by rw [hg]; exact Nat.ne_of_lt (blk_lt (g := gb118) (o := .cells #[.slice A0_0 l0_0.length c0_0, .slice A0_1 l0_1.length c0_1] 25 (0, 0)) (bU BK118.out)) : gb118 ≠ gb120)); have NBq0 := aM ((by rw [hg]; exact Nat.ne_of_gt (blk_lt (g := gb118) (o := .cells #[.slice A0_0 l0_0.length c0_0, .slice A0_1 l0_1.length c0_1] 25 (0, 0)) (bU BK118.out)) : gb120 ≠ gb118)); replace BK118 := aM (kB (g := gb118) (o := .cells #[.slice A0_0 l0_0.length c0_0, .slice A0_1 l0_1.length c0_1] 25 (0, 0)) (bU BK118.out) hb); have NBq4 := aM ((by rw [hg]; exact Nat.ne_of_lt (blk_lt (g := gb119) (o := .cells #[.int .i64 a1_0, .slice A1_1 l1_1.length c1_1, .bool a1_2, .slice A1_3 l1_3.length c1_3] 28 (0, 0)) (bU BK119.out)) : gb119 ≠ gb120)); have NBq5 := aM ((by rw [hg]; exact Nat.ne_of_gt (blk_lt (g := gb119) (o := .cells #[.int .i64 a1_0, .slice A1_1 l1_1.length c1_1, .bool a1_2, .slice A1_3 l1_3.length c1_3] 28 (0, 0)) (bU BK119.out)) : gb120 ≠ gb119)); replace BK119 := aM (kB (g := gb119) (o := .cells #[.int .i64 a1_0, .slice A1_1 l1_1.length c1_1, .bool a1_2, .slice A1_3 l1_3.length c1_3] 28 (0, 0)) (bU BK119.out) hb); clear hb hbox hg; have hnb8 := NBq2.out; have hnc8 := NBq1.out; have hnb9 := NBq3.out; have hnc9 := NBq0.out; have hcz10_0 : w7.cell? ⟨gb118, 0, none⟩ = some (.slice A0_0 l0_0.length c0_0) := (kC BK118.out 0).trans rfl; have hcz10_1 : w7.cell? ⟨gb118, 1, none⟩ = some (.slice A0_1 l0_1.length c0_1) := (kC BK118.out 1).trans rfl; have hfz10_0 := kF BK118.out 0; have hfz10_1 := kF BK118.out 1) | ((with_reducible refine gate_callee (f := 29) rfl ?_); refine goesL_ (some 7) rfl rfl Try.func29 (by kernel_rfl) rfl #[.agg #[.slice A0_0 l0_0.length c0_0, .slice A0_1 l0_1.length c0_1]] rfl (by (try simp only [List.map_toArray, List.map_cons, List.map_nil]); first | done | rfl | (simp only [List.length_drop, List.length_take]; rfl)) ?_; (with_reducible refine (delta_own.calls (fun k_ => ((((P0_0_ k_ ∨ w.heap.size ≤ k_) ∧ k_ ≠ gb118) ∧ k_ ≠ gb119) ∧ k_ ≠ gb120)) _ _ l0_0 _ _ l0_1 t121 t124 _ ?side1 ?side2 ?side3 A3.out).mono ?_); (case side1 => exact HO0_0.out); (case side2 => repeat (first | exact (Kd.C_below HR0_1.out HB.out) | (with_reducible refine Kd.C_alloc ?_ _) | (with_reducible refine Kd.C_drewN ?_ _) | (with_reducible refine Kd.C_drew ?_))); (case side3 => exact HC0_1.out); rintro e w11 ⟨v122, v125, rfl, ho0, ho1, hb⟩; refine ⟨_, rfl, ?_⟩; replace HO0_0 := aM (Kd.V_mono (Kd.V_told (Kd.V_told (Kd.V_old (vU HO0_0.out) hb) (Kd.N_base ho0)) (Kd.R_base ho1)) (fun _ h_ => h_.1)); have HO123 := aM (Kd.N_lower (Kd.N_mono (ok' := fun k_ => (P0_0_ k_ ∨ w.heap.size ≤ k_) ∧ some k_ ≠ (v125 : Value).ownBlock ∧ k_ ≠ gb118 ∧ k_ ≠ gb119 ∧ k_ ≠ gb120) ho0 (fun k_ hk_ => ⟨Or.elim hk_.1 (fun hs_ => hs_.1.1.1) (fun hn_ => (.inr (Nat.le_trans (below_size (by repeat (first | (with_reducible first | exact HB.out | apply bA | apply bN | apply bD | refine bS ?_ GE118.out | refine bS ?_ GE119.out | refine bS ?_ GE120.out) | exact HB.out))) hn_))), hk_.2, Or.elim hk_.1 (fun hs_ => hs_.1.1.2) (fun hn_ => (Kd.freshB (g := gb118) (o := .cells #[.slice A0_0 l0_0.length c0_0, .slice A0_1 l0_1.length c0_1] 25 (0, 0)) (bU BK118.out) k_ hn_)), Or.elim hk_.1 (fun hs_ => hs_.1.2) (fun hn_ => (Kd.freshB (g := gb119) (o := .cells #[.int .i64 a1_0, .slice A1_1 l1_1.length c1_1, .bool a1_2, .slice A1_3 l1_3.length c1_3] 28 (0, 0)) (bU BK119.out) k_ hn_)), Or.elim hk_.1 (fun hs_ => hs_.2) (fun hn_ => (Kd.freshB (g := gb120) (o := .cells #[.slice none 0 0, .slice none 0 0] 25 (0, 0)) (bU BK120.out) k_ hn_))⟩)) (below_size (by repeat (first | (with_reducible first | exact HB.out | apply bA | apply bN | apply bD | refine bS ?_ GE118.out | refine bS ?_ GE119.out | refine bS ?_ GE120.out) | exact HB.out)))); have HO126 := aM (Kd.R_lower (Kd.R_newM (M := fun k_ => (w.heap.size ≤ k_)) (Kd.R_mono (ok' := fun k_ => True) ho1 (fun _ hk_ => trivial)) (below_size (by repeat (first | (with_reducible first | exact HB.out | apply bA | apply bN | apply bD | refine bS ?_ GE118.out | refine bS ?_ GE119.out | refine bS ?_ GE120.out) | exact HB.out))) (fun k_ h_ => h_)) (below_size (by repeat (first | (with_reducible first | exact HB.out | apply bA | apply bN | apply bD | refine bS ?_ GE118.out | refine bS ?_ GE119.out | refine bS ?_ GE120.out) | exact HB.out)))); replace BK118 := aM (kB (g := gb118) (o := .cells #[.slice A0_0 l0_0.length c0_0, .slice A0_1 l0_1.length c0_1] 25 (0, 0)) (bU BK118.out) hb); replace BK119 := aM (kB (g := gb119) (o := .cells #[.int .i64 a1_0, .slice A1_1 l1_1.length c1_1, .bool a1_2, .slice A1_3 l1_3.length c1_3] 28 (0, 0)) (bU BK119.out) hb); replace BK120 := aM (kB (g := gb120) (o := .cells #[.slice none 0 0, .slice none 0 0] 25 (0, 0)) (bU BK120.out) hb); replace HB := aM (below_step (by repeat (first | (with_reducible first | exact HB.out | apply bA | apply bN | apply bD | refine bS ?_ GE118.out | refine bS ?_ GE119.out | refine bS ?_ GE120.out) | exact HB.out)) hb); (try clear hb); (try clear hk); (try clear ho1); obtain ⟨Ao12, co12, eo12⟩ := Kd.N_slice HO123.out; subst eo12; have hcz13_0 : w11.cell? ⟨gb118, 0, none⟩ = some (.slice A0_0 l0_0.length c0_0) := (kC BK118.out 0).trans rfl; have hcz13_1 : w11.cell? ⟨gb118, 1, none⟩ = some (.slice A0_1 l0_1.length c0_1) := (kC BK118.out 1).trans rfl; have hfz13_0 := kF BK118.out 0; have hfz13_1 := kF BK118.out 1; obtain ⟨Ao14, co14, eo14⟩ := Kd.R_slice HO126.out; subst eo14))
 (try simp only [Act.put, List.setIfInBounds_toArray, List.set_cons_zero, List.set_cons_succ])
 go_cut [8] (fun v8 wc => ∃ (kq : Nat) (x8_3 : Bool), v8 = .bool x8_3 ∧ Aside0 (delta_Put.j0 kq x8_3 t121 t124 a1_0 l1_1 a1_2 l1_3 = some (r1, r2, r3)) ∧ Aside0 (kq ≤ k) ∧ Aside0 (Kd.N k28 28 wc w.heap.size (fun k_ => (P0_0_ k_ ∨ w.heap.size ≤ k_) ∧ some k_ ≠ ((.slice Ao14 t124.length co14) : Value).ownBlock ∧ k_ ≠ gb118 ∧ k_ ≠ gb119 ∧ k_ ≠ gb120) (.slice Ao12 t121.length co12) t121) ∧ Aside0 (Kd.R (Kd.int .i64) 3 wc w.heap.size (fun k_ => (w.heap.size ≤ k_)) (.slice Ao14 t124.length co14) t124) ∧ Aside0 (wc.heap[gb118]? = some (.cells #[(.slice Ao12 t121.length co12), (.slice Ao14 t124.length co14)] 25 (0, 0))) ∧ Aside0 (wc.heap[gb119]? = some (.cells #[.int .i64 a1_0, (.slice A1_1 l1_1.length c1_1), .bool a1_2, (.slice A1_3 l1_3.length c1_3)] 28 (0, 0))) ∧ Aside0 (wc.heap[gb120]? = some (.cells #[(.slice none 0 0), (.slice none 0 0)] 25 (0, 0))) ∧ Aside0 (Below w.heap.size w wc))
 case first =>
  have H := HC4.out
  clear HC4
  replace H := Option.bind_eq_some_iff.mp H
  obtain ⟨t127, A150, H⟩ := H
  replace H : (if t127 = true then ((delta_may.f a1_0 l1_1 a1_2 l1_3).bind fun t128 => (delta_Put.j0 k (!t128) t121 t124 a1_0 l1_1 a1_2 l1_3)) else (delta_Put.j0 k true t121 t124 a1_0 l1_1 a1_2 l1_3)) = some (r1, r2, r3) := H
  have A15 := aM A150
  clear A150
  by_cases c16 : t127 = true
  ·
   subst c16
   have H1 : ((delta_may.f a1_0 l1_1 a1_2 l1_3).bind fun t128 => (delta_Put.j0 k (!t128) t121 t124 a1_0 l1_1 a1_2 l1_3)) = some (r1, r2, r3) := by rw [if_pos rfl] at H; exact H
   clear H
   have H := H1
   clear H1
   replace H := Option.bind_eq_some_iff.mp H
   obtain ⟨t128, A170, H⟩ := H
   replace H : (delta_Put.j0 k (!t128) t121 t124 a1_0 l1_1 a1_2 l1_3) = some (r1, r2, r3) := H
   have A17 := aM A170
   clear A170
   have H' := aM H
   clear H
   have hnb18 := NBq2.out
   have hnc18 := NBq1.out
   have hnb19 := NBq3.out
   have hnc19 := NBq0.out
   have hcz20_0 : w11.cell? ⟨gb118, 0, none⟩ = some (.slice A0_0 l0_0.length c0_0) := (kC BK118.out 0).trans rfl
   have hcz20_1 : w11.cell? ⟨gb118, 1, none⟩ = some (.slice A0_1 l0_1.length c0_1) := (kC BK118.out 1).trans rfl
   have hfz20_0 := kF BK118.out 0
   have hfz20_1 := kF BK118.out 1
   go_wp2_with (first | ((with_reducible refine gate_callee (f := 17) rfl ?_); refine goesL_ (some 10) rfl rfl Try.func17 (by kernel_rfl) rfl #[.agg #[.slice Ao12 t121.length co12, .slice Ao14 t124.length co14]] rfl (by (try simp only [List.map_toArray, List.map_cons, List.map_nil]); first | done | rfl | (simp only [List.length_drop, List.length_take]; rfl)) ?_; (with_reducible refine (delta_Check.calls _ _ t121 _ _ t124 true _ ?side1 ?side2 ?side3 ?side4 A15.out).mono ?_); (case side1 => refine (Kd.N_reads' (e := 28) (base := w.heap.size) (ok := fun k_ => ((P0_0_ k_ ∨ w.heap.size ≤ k_) ∧ (some k_ ≠ (.slice Ao14 t124.length co14 : Value).ownBlock ∧ (k_ ≠ gb118 ∧ (k_ ≠ gb119 ∧ k_ ≠ gb120))))) (n := t121.length) (c := co12) ?_).2.2; exact (by (with_reducible repeat (first | apply Kd.N_alloc | apply Kd.N_drewN | apply Kd.N_drew)); exact (Kd.N_mono (Kd.N_far (p := ⟨gb118, 1, none⟩) (Kd.N_far (p := ⟨gb118, 0, none⟩) (Kd.N_mono HO123.out (fun k_ hk => (⟨hk, hk.2.2.1⟩ : _ ∧ k_ ≠ gb118))) (fun _ hk => hk.2) (.slice Ao12 t121.length co12)) (fun _ hk => hk.2) (.slice Ao14 t124.length co14)) (fun _ h_ => h_.1)))); (case side2 => exact (Kd.N_reads' HO123.out).2.1); (case side3 => refine (Kd.R_reads' (e := 3) (base := w.heap.size) (ok := fun k_ => ((w.heap.size ≤ k_) ∧ True)) (n := t124.length) (c := co14) ?_).2.2; exact (by (with_reducible repeat (first | apply Kd.R_alloc | apply Kd.R_drewN | apply Kd.R_drew)); exact (Kd.R_mono (Kd.R_far (p := ⟨gb118, 1, none⟩) (Kd.R_far (p := ⟨gb118, 0, none⟩) (Kd.R_types HO126.out BK118.out (by decide)) (fun _ hk => hk.2) (.slice Ao12 t121.length co12)) (fun _ hk => hk.2) (.slice Ao14 t124.length co14)) (fun _ h_ => h_.1)))); (case side4 => exact (Kd.R_reads' HO126.out).2.1); rintro e w21 ⟨rfl, hb⟩; refine ⟨_, rfl, ?_⟩; replace HO0_0 := aM (vB (by (with_reducible repeat (first | apply Kd.V_alloc | apply Kd.V_drewN | apply Kd.V_drew)); exact (Kd.V_mono (Kd.V_far (p := ⟨gb118, 1, none⟩) (Kd.V_far (p := ⟨gb118, 0, none⟩) (Kd.V_mono HO0_0.out (fun k_ hk => (⟨hk, hk.1.1.1.1.2⟩ : _ ∧ k_ ≠ gb118))) (fun _ hk => hk.2) (.slice Ao12 t121.length co12)) (fun _ hk => hk.2) (.slice Ao14 t124.length co14)) (fun _ h_ => h_.1))) hb); replace HO123 := aM (Kd.N_below (by (with_reducible repeat (first | apply Kd.N_alloc | apply Kd.N_drewN | apply Kd.N_drew)); exact (Kd.N_mono (Kd.N_far (p := ⟨gb118, 1, none⟩) (Kd.N_far (p := ⟨gb118, 0, none⟩) (Kd.N_mono HO123.out (fun k_ hk => (⟨hk, hk.2.2.1⟩ : _ ∧ k_ ≠ gb118))) (fun _ hk => hk.2) (.slice Ao12 t121.length co12)) (fun _ hk => hk.2) (.slice Ao14 t124.length co14)) (fun _ h_ => h_.1))) hb); replace HO126 := aM (Kd.R_below (by (with_reducible repeat (first | apply Kd.R_alloc | apply Kd.R_drewN | apply Kd.R_drew)); exact (Kd.R_mono (Kd.R_far (p := ⟨gb118, 1, none⟩) (Kd.R_far (p := ⟨gb118, 0, none⟩) (Kd.R_types HO126.out BK118.out (by decide)) (fun _ hk => hk.2) (.slice Ao12 t121.length co12)) (fun _ hk => hk.2) (.slice Ao14 t124.length co14)) (fun _ h_ => h_.1))) hb); replace BK118 := aM (kB (g := gb118) (o := .cells #[.slice Ao12 t121.length co12, .slice Ao14 t124.length co14] 25 (0, 0)) (by (with_reducible repeat (first | refine blk_drewN ?_ _ | refine blk_drew ?_ | refine blk_alloc ?_ _)); refine blk_put (cs := #[.slice Ao12 t121.length co12, .slice A0_1 l0_1.length c0_1]) ?_ 1 _ rfl; (with_reducible repeat (first | refine blk_drewN ?_ _ | refine blk_drew ?_ | refine blk_alloc ?_ _)); refine blk_put (cs := #[.slice A0_0 l0_0.length c0_0, .slice A0_1 l0_1.length c0_1]) ?_ 0 _ rfl; (with_reducible repeat (first | refine blk_drewN ?_ _ | refine blk_drew ?_ | refine blk_alloc ?_ _)); exact BK118.out) hb); replace BK119 := aM (kB (g := gb119) (o := .cells #[.int .i64 a1_0, .slice A1_1 l1_1.length c1_1, .bool a1_2, .slice A1_3 l1_3.length c1_3] 28 (0, 0)) (by (with_reducible repeat (first | refine blk_drewN ?_ _ | refine blk_drew ?_ | refine blk_alloc ?_ _)); refine blk_far ?_ NBq1.out _; (with_reducible repeat (first | refine blk_drewN ?_ _ | refine blk_drew ?_ | refine blk_alloc ?_ _)); refine blk_far ?_ NBq1.out _; (with_reducible repeat (first | refine blk_drewN ?_ _ | refine blk_drew ?_ | refine blk_alloc ?_ _)); exact BK119.out) hb); replace BK120 := aM (kB (g := gb120) (o := .cells #[.slice none 0 0, .slice none 0 0] 25 (0, 0)) (by (with_reducible repeat (first | refine blk_drewN ?_ _ | refine blk_drew ?_ | refine blk_alloc ?_ _)); refine blk_far ?_ NBq0.out _; (with_reducible repeat (first | refine blk_drewN ?_ _ | refine blk_drew ?_ | refine blk_alloc ?_ _)); refine blk_far ?_ NBq0.out _; (with_reducible repeat (first | refine blk_drewN ?_ _ | refine blk_drew ?_ | refine blk_alloc ?_ _)); exact BK120.out) hb); replace HB := aM (below_step (by repeat (first | (with_reducible first | exact HB.out | apply bA | apply bN | apply bD | refine bS ?_ GE118.out | refine bS ?_ GE119.out | refine bS ?_ GE120.out) | exact HB.out)) hb); (try clear hb); (try clear hb2); (try clear hk); (try clear hi); have hnb22 := NBq4.out; have hnc22 := NBq5.out; have hcz23_0 : w21.cell? ⟨gb119, 0, none⟩ = some (.int .i64 a1_0) := (kC BK119.out 0).trans rfl; have hcz23_1 : w21.cell? ⟨gb119, 1, none⟩ = some (.slice A1_1 l1_1.length c1_1) := (kC BK119.out 1).trans rfl; have hcz23_2 : w21.cell? ⟨gb119, 2, none⟩ = some (.bool a1_2) := (kC BK119.out 2).trans rfl; have hcz23_3 : w21.cell? ⟨gb119, 3, none⟩ = some (.slice A1_3 l1_3.length c1_3) := (kC BK119.out 3).trans rfl; have hfz23_0 := kF BK119.out 0; have hfz23_1 := kF BK119.out 1; have hfz23_2 := kF BK119.out 2; have hfz23_3 := kF BK119.out 3) | (go_at_call 30; (with_reducible refine (delta_may.calls a1_0 _ _ l1_1 a1_2 _ _ l1_3 t128 _ ?side1 ?side2 ?side3 ?side4 A17.out).mono ?_); (case side1 => repeat (first | exact (Kd.C_below HR1_1.out HB.out) | (with_reducible refine Kd.C_alloc ?_ _) | (with_reducible refine Kd.C_drewN ?_ _) | (with_reducible refine Kd.C_drew ?_))); (case side2 => exact HC1_1.out); (case side3 => repeat (first | exact (Kd.C_below HR1_3.out HB.out) | (with_reducible refine Kd.C_alloc ?_ _) | (with_reducible refine Kd.C_drewN ?_ _) | (with_reducible refine Kd.C_drew ?_))); (case side4 => exact HC1_3.out); rintro e w24 ⟨rfl, hb⟩; replace HO0_0 := aM (vB (vU HO0_0.out) hb); replace HO123 := aM (Kd.N_below (nU HO123.out) hb); replace HO126 := aM (Kd.R_below (rU HO126.out) hb); replace BK118 := aM (kB (g := gb118) (o := .cells #[.slice Ao12 t121.length co12, .slice Ao14 t124.length co14] 25 (0, 0)) (bU BK118.out) hb); replace BK119 := aM (kB (g := gb119) (o := .cells #[.int .i64 a1_0, .slice A1_1 l1_1.length c1_1, .bool a1_2, .slice A1_3 l1_3.length c1_3] 28 (0, 0)) (bU BK119.out) hb); replace BK120 := aM (kB (g := gb120) (o := .cells #[.slice none 0 0, .slice none 0 0] 25 (0, 0)) (bU BK120.out) hb); replace HB := aM (below_step (by repeat (first | (with_reducible first | exact HB.out | apply bA | apply bN | apply bD | refine bS ?_ GE118.out | refine bS ?_ GE119.out | refine bS ?_ GE120.out) | exact HB.out)) hb); (try clear hb); (try clear hb2); (try clear hk); (try clear hi)))
   go_meet
   case rel => exact ⟨_, (!t128), (by first | rfl | (simp; done) | (simp [*]; done)), H', ⟨by first | omega | exact Nat.le_refl _⟩, ⟨by (with_reducible repeat (first | apply Kd.N_alloc | apply Kd.N_drewN | apply Kd.N_drew)); exact HO123.out⟩, ⟨by (with_reducible repeat (first | apply Kd.R_alloc | apply Kd.R_drewN | apply Kd.R_drew)); exact Kd.R_mono HO126.out (fun _ hk => hk.1)⟩, ⟨by (with_reducible repeat (first | refine blk_drewN ?_ _ | refine blk_drew ?_ | refine blk_alloc ?_ _)); exact BK118.out⟩, ⟨by (with_reducible repeat (first | refine blk_drewN ?_ _ | refine blk_drew ?_ | refine blk_alloc ?_ _)); exact BK119.out⟩, ⟨by (with_reducible repeat (first | refine blk_drewN ?_ _ | refine blk_drew ?_ | refine blk_alloc ?_ _)); exact BK120.out⟩, ⟨by repeat (first | (with_reducible first | exact HB.out | apply bA | apply bN | apply bD | refine bS ?_ GE118.out | refine bS ?_ GE119.out | refine bS ?_ GE120.out) | exact HB.out)⟩⟩
  ·
   replace c16 := Bool.eq_false_iff.mpr c16
   subst c16
   have H1 : (delta_Put.j0 k true t121 t124 a1_0 l1_1 a1_2 l1_3) = some (r1, r2, r3) := by rw [if_neg (show ¬ (false = true) by decide)] at H; exact H
   clear H
   have H := H1
   clear H1
   have H' := aM H
   clear H
   have hnb25 := NBq2.out
   have hnc25 := NBq1.out
   have hnb26 := NBq3.out
   have hnc26 := NBq0.out
   have hcz27_0 : w11.cell? ⟨gb118, 0, none⟩ = some (.slice A0_0 l0_0.length c0_0) := (kC BK118.out 0).trans rfl
   have hcz27_1 : w11.cell? ⟨gb118, 1, none⟩ = some (.slice A0_1 l0_1.length c0_1) := (kC BK118.out 1).trans rfl
   have hfz27_0 := kF BK118.out 0
   have hfz27_1 := kF BK118.out 1
   go_wp2_with (first | ((with_reducible refine gate_callee (f := 17) rfl ?_); refine goesL_ (some 10) rfl rfl Try.func17 (by kernel_rfl) rfl #[.agg #[.slice Ao12 t121.length co12, .slice Ao14 t124.length co14]] rfl (by (try simp only [List.map_toArray, List.map_cons, List.map_nil]); first | done | rfl | (simp only [List.length_drop, List.length_take]; rfl)) ?_; (with_reducible refine (delta_Check.calls _ _ t121 _ _ t124 false _ ?side1 ?side2 ?side3 ?side4 A15.out).mono ?_); (case side1 => refine (Kd.N_reads' (e := 28) (base := w.heap.size) (ok := fun k_ => ((P0_0_ k_ ∨ w.heap.size ≤ k_) ∧ (some k_ ≠ (.slice Ao14 t124.length co14 : Value).ownBlock ∧ (k_ ≠ gb118 ∧ (k_ ≠ gb119 ∧ k_ ≠ gb120))))) (n := t121.length) (c := co12) ?_).2.2; exact (by (with_reducible repeat (first | apply Kd.N_alloc | apply Kd.N_drewN | apply Kd.N_drew)); exact (Kd.N_mono (Kd.N_far (p := ⟨gb118, 1, none⟩) (Kd.N_far (p := ⟨gb118, 0, none⟩) (Kd.N_mono HO123.out (fun k_ hk => (⟨hk, hk.2.2.1⟩ : _ ∧ k_ ≠ gb118))) (fun _ hk => hk.2) (.slice Ao12 t121.length co12)) (fun _ hk => hk.2) (.slice Ao14 t124.length co14)) (fun _ h_ => h_.1)))); (case side2 => exact (Kd.N_reads' HO123.out).2.1); (case side3 => refine (Kd.R_reads' (e := 3) (base := w.heap.size) (ok := fun k_ => ((w.heap.size ≤ k_) ∧ True)) (n := t124.length) (c := co14) ?_).2.2; exact (by (with_reducible repeat (first | apply Kd.R_alloc | apply Kd.R_drewN | apply Kd.R_drew)); exact (Kd.R_mono (Kd.R_far (p := ⟨gb118, 1, none⟩) (Kd.R_far (p := ⟨gb118, 0, none⟩) (Kd.R_types HO126.out BK118.out (by decide)) (fun _ hk => hk.2) (.slice Ao12 t121.length co12)) (fun _ hk => hk.2) (.slice Ao14 t124.length co14)) (fun _ h_ => h_.1)))); (case side4 => exact (Kd.R_reads' HO126.out).2.1); rintro e w28 ⟨rfl, hb⟩; refine ⟨_, rfl, ?_⟩; replace HO0_0 := aM (vB (by (with_reducible repeat (first | apply Kd.V_alloc | apply Kd.V_drewN | apply Kd.V_drew)); exact (Kd.V_mono (Kd.V_far (p := ⟨gb118, 1, none⟩) (Kd.V_far (p := ⟨gb118, 0, none⟩) (Kd.V_mono HO0_0.out (fun k_ hk => (⟨hk, hk.1.1.1.1.2⟩ : _ ∧ k_ ≠ gb118))) (fun _ hk => hk.2) (.slice Ao12 t121.length co12)) (fun _ hk => hk.2) (.slice Ao14 t124.length co14)) (fun _ h_ => h_.1))) hb); replace HO123 := aM (Kd.N_below (by (with_reducible repeat (first | apply Kd.N_alloc | apply Kd.N_drewN | apply Kd.N_drew)); exact (Kd.N_mono (Kd.N_far (p := ⟨gb118, 1, none⟩) (Kd.N_far (p := ⟨gb118, 0, none⟩) (Kd.N_mono HO123.out (fun k_ hk => (⟨hk, hk.2.2.1⟩ : _ ∧ k_ ≠ gb118))) (fun _ hk => hk.2) (.slice Ao12 t121.length co12)) (fun _ hk => hk.2) (.slice Ao14 t124.length co14)) (fun _ h_ => h_.1))) hb); replace HO126 := aM (Kd.R_below (by (with_reducible repeat (first | apply Kd.R_alloc | apply Kd.R_drewN | apply Kd.R_drew)); exact (Kd.R_mono (Kd.R_far (p := ⟨gb118, 1, none⟩) (Kd.R_far (p := ⟨gb118, 0, none⟩) (Kd.R_types HO126.out BK118.out (by decide)) (fun _ hk => hk.2) (.slice Ao12 t121.length co12)) (fun _ hk => hk.2) (.slice Ao14 t124.length co14)) (fun _ h_ => h_.1))) hb); replace BK118 := aM (kB (g := gb118) (o := .cells #[.slice Ao12 t121.length co12, .slice Ao14 t124.length co14] 25 (0, 0)) (by (with_reducible repeat (first | refine blk_drewN ?_ _ | refine blk_drew ?_ | refine blk_alloc ?_ _)); refine blk_put (cs := #[.slice Ao12 t121.length co12, .slice A0_1 l0_1.length c0_1]) ?_ 1 _ rfl; (with_reducible repeat (first | refine blk_drewN ?_ _ | refine blk_drew ?_ | refine blk_alloc ?_ _)); refine blk_put (cs := #[.slice A0_0 l0_0.length c0_0, .slice A0_1 l0_1.length c0_1]) ?_ 0 _ rfl; (with_reducible repeat (first | refine blk_drewN ?_ _ | refine blk_drew ?_ | refine blk_alloc ?_ _)); exact BK118.out) hb); replace BK119 := aM (kB (g := gb119) (o := .cells #[.int .i64 a1_0, .slice A1_1 l1_1.length c1_1, .bool a1_2, .slice A1_3 l1_3.length c1_3] 28 (0, 0)) (by (with_reducible repeat (first | refine blk_drewN ?_ _ | refine blk_drew ?_ | refine blk_alloc ?_ _)); refine blk_far ?_ NBq1.out _; (with_reducible repeat (first | refine blk_drewN ?_ _ | refine blk_drew ?_ | refine blk_alloc ?_ _)); refine blk_far ?_ NBq1.out _; (with_reducible repeat (first | refine blk_drewN ?_ _ | refine blk_drew ?_ | refine blk_alloc ?_ _)); exact BK119.out) hb); replace BK120 := aM (kB (g := gb120) (o := .cells #[.slice none 0 0, .slice none 0 0] 25 (0, 0)) (by (with_reducible repeat (first | refine blk_drewN ?_ _ | refine blk_drew ?_ | refine blk_alloc ?_ _)); refine blk_far ?_ NBq0.out _; (with_reducible repeat (first | refine blk_drewN ?_ _ | refine blk_drew ?_ | refine blk_alloc ?_ _)); refine blk_far ?_ NBq0.out _; (with_reducible repeat (first | refine blk_drewN ?_ _ | refine blk_drew ?_ | refine blk_alloc ?_ _)); exact BK120.out) hb); replace HB := aM (below_step (by repeat (first | (with_reducible first | exact HB.out | apply bA | apply bN | apply bD | refine bS ?_ GE118.out | refine bS ?_ GE119.out | refine bS ?_ GE120.out) | exact HB.out)) hb); (try clear hb); (try clear hb2); (try clear hk); (try clear hi)))
   go_meet
   case rel => exact ⟨_, (true), (by first | rfl | (simp; done) | (simp [*]; done)), H', ⟨by first | omega | exact Nat.le_refl _⟩, ⟨by (with_reducible repeat (first | apply Kd.N_alloc | apply Kd.N_drewN | apply Kd.N_drew)); exact HO123.out⟩, ⟨by (with_reducible repeat (first | apply Kd.R_alloc | apply Kd.R_drewN | apply Kd.R_drew)); exact Kd.R_mono HO126.out (fun _ hk => hk.1)⟩, ⟨by (with_reducible repeat (first | refine blk_drewN ?_ _ | refine blk_drew ?_ | refine blk_alloc ?_ _)); exact BK118.out⟩, ⟨by (with_reducible repeat (first | refine blk_drewN ?_ _ | refine blk_drew ?_ | refine blk_alloc ?_ _)); exact BK119.out⟩, ⟨by (with_reducible repeat (first | refine blk_drewN ?_ _ | refine blk_drew ?_ | refine blk_alloc ?_ _)); exact BK120.out⟩, ⟨by repeat (first | (with_reducible first | exact HB.out | apply bA | apply bN | apply bD | refine bS ?_ GE118.out | refine bS ?_ GE119.out | refine bS ?_ GE120.out) | exact HB.out)⟩⟩
 case rest =>
  clear HC4
  try clear c1
  try clear c2
  try clear p2
  try clear c8
  try clear c9
  try clear c10
  try clear c16
  try clear c17
  try clear c18
  try clear c19
  try clear c22
  try clear c25
  try clear c26
  try clear hcz10_0
  try clear hcz10_1
  try clear hcz13_0
  try clear hcz13_1
  try clear hcz20_0
  try clear hcz20_1
  try clear hcz23_0
  try clear hcz23_1
  try clear hcz23_2
  try clear hcz23_3
  try clear hcz27_0
  try clear hcz27_1
  try clear hfz10_0
  try clear hfz10_1
  try clear hfz13_0
  try clear hfz13_1
  try clear hfz20_0
  try clear hfz20_1
  try clear hfz23_0
  try clear hfz23_1
  try clear hfz23_2
  try clear hfz23_3
  try clear hfz27_0
  try clear hfz27_1
  obtain ⟨kq, x8_3, rfl, HA, HJ3, HOq0, HOq1, BK118, BK119, BK120, HB⟩ := hcut
  cases kq with
  | zero => exact absurd HA.out (by simp [delta_Put.j0])
  | succ kj3 =>
   have H := HA.out
   clear HA
   simp only [delta_Put.j0] at H
   by_cases c29 : x8_3 = true
   ·
    subst c29
    have H1 : (some (t121, t124, 1)) = some (r1, r2, r3) := by rw [if_pos rfl] at H; exact H
    clear H
    have H := H1
    clear H1
    simp only [Option.some.injEq, Prod.mk.injEq] at H
    obtain ⟨rfl, rfl, rfl⟩ := H
    have hnb30 := NBq2.out
    have hnc30 := NBq1.out
    have hnb31 := NBq3.out
    have hnc31 := NBq0.out
    have hcz32_0 : wc.cell? ⟨gb118, 0, none⟩ = some (.slice Ao12 t121.length co12) := (kC BK118.out 0).trans rfl
    have hcz32_1 : wc.cell? ⟨gb118, 1, none⟩ = some (.slice Ao14 t124.length co14) := (kC BK118.out 1).trans rfl
    have hfz32_0 := kF BK118.out 0
    have hfz32_1 := kF BK118.out 1
    have hnb33 := NBq5.out
    have hnc33 := NBq4.out
    have hcz34_0 : wc.cell? ⟨gb120, 0, none⟩ = some (.slice none 0 0) := (kC BK120.out 0).trans rfl
    have hcz34_1 : wc.cell? ⟨gb120, 1, none⟩ = some (.slice none 0 0) := (kC BK120.out 1).trans rfl
    have hfz34_0 := kF BK120.out 0
    have hfz34_1 := kF BK120.out 1
    go_wp2
    refine bodyPost_ret (results_ct rfl _ _ gb120 25 #[.slice Ao12 t121.length co12, .slice Ao14 t124.length co14] (0, 0) _ rfl (by (with_reducible repeat (first | refine blk_drewN ?_ _ | refine blk_drew ?_ | refine blk_alloc ?_ _)); refine blk_put (cs := #[.slice Ao12 t121.length co12, .slice none 0 0]) ?_ 1 _ rfl; (with_reducible repeat (first | refine blk_drewN ?_ _ | refine blk_drew ?_ | refine blk_alloc ?_ _)); refine blk_put (cs := #[.slice none 0 0, .slice none 0 0]) ?_ 0 _ rfl; (with_reducible repeat (first | refine blk_drewN ?_ _ | refine blk_drew ?_ | refine blk_alloc ?_ _)); exact BK120.out) Try.underlying25 rfl (by kernel_rfl)) rfl ?_
    exact ⟨_, _, by first | rfl | (simp [errW_none, errW_some] <;> rfl) | (simp [*, errW_none, errW_some] <;> rfl), by (with_reducible repeat (first | apply Kd.N_alloc | apply Kd.N_drewN | apply Kd.N_drew)); exact Kd.N_mono (Kd.N_far (p := ⟨gb120, 1, none⟩) (Kd.N_far (p := ⟨gb120, 0, none⟩) (Kd.N_mono HOq0.out (fun k_ hk => (⟨hk, hk.2.2.2.2⟩ : _ ∧ k_ ≠ gb120))) (fun _ hk => hk.2) (.slice Ao12 t121.length co12)) (fun _ hk => hk.2) (.slice Ao14 t124.length co14)) (fun _ hk => ⟨hk.1.1, hk.1.2.1⟩), by (with_reducible repeat (first | apply Kd.R_alloc | apply Kd.R_drewN | apply Kd.R_drew)); exact Kd.R_mono (Kd.R_far (p := ⟨gb120, 1, none⟩) (Kd.R_far (p := ⟨gb120, 0, none⟩) (Kd.R_types HOq1.out BK120.out (by decide)) (fun _ hk => hk.2) (.slice Ao12 t121.length co12)) (fun _ hk => hk.2) (.slice Ao14 t124.length co14)) (fun _ hk => hk.1), by repeat (first | (with_reducible first | exact HB.out | apply bA | apply bN | apply bD | refine bS ?_ GE118.out | refine bS ?_ GE119.out | refine bS ?_ GE120.out) | exact HB.out)⟩
   ·
    replace c29 := Bool.eq_false_iff.mpr c29
    subst c29
    have H1 : (if (t121.length : Int) ≥ 20 then (some (t121, t124, 80)) else ((delta_write.f a1_0 l1_1 a1_2 l1_3).bind fun bt129 => (if t121.length < 2199023255552 then (some ((t121 ++ [(⟨bt129.1, bt129.2.1, bt129.2.2.1, bt129.2.2.2⟩ : S28)]), t124, 0)) else (none)))) = some (r1, r2, r3) := by rw [if_neg (show ¬ (false = true) by decide)] at H; exact H
    clear H
    have H := H1
    clear H1
    by_cases c35 : (t121.length : Int) ≥ 20
    ·
     rw [if_pos c35] at H
     have c35b0 : decide (20 ≤ (t121.length : Int)) = true := decide_eq_true c35
     have c35b1 : decide (20 ≤ t121.length) = true := decide_eq_true (by omega)
     clear c35
     simp only [Option.some.injEq, Prod.mk.injEq] at H
     obtain ⟨rfl, rfl, rfl⟩ := H
     have hnb36 := NBq2.out
     have hnc36 := NBq1.out
     have hnb37 := NBq3.out
     have hnc37 := NBq0.out
     have hcz38_0 : wc.cell? ⟨gb118, 0, none⟩ = some (.slice Ao12 t121.length co12) := (kC BK118.out 0).trans rfl
     have hcz38_1 : wc.cell? ⟨gb118, 1, none⟩ = some (.slice Ao14 t124.length co14) := (kC BK118.out 1).trans rfl
     have hfz38_0 := kF BK118.out 0
     have hfz38_1 := kF BK118.out 1
     have hnb39 := NBq5.out
     have hnc39 := NBq4.out
     have hcz40_0 : wc.cell? ⟨gb120, 0, none⟩ = some (.slice none 0 0) := (kC BK120.out 0).trans rfl
     have hcz40_1 : wc.cell? ⟨gb120, 1, none⟩ = some (.slice none 0 0) := (kC BK120.out 1).trans rfl
     have hfz40_0 := kF BK120.out 0
     have hfz40_1 := kF BK120.out 1
     go_wp2
     refine bodyPost_ret (results_ct rfl _ _ gb120 25 #[.slice Ao12 t121.length co12, .slice Ao14 t124.length co14] (0, 0) _ rfl (by (with_reducible repeat (first | refine blk_drewN ?_ _ | refine blk_drew ?_ | refine blk_alloc ?_ _)); refine blk_put (cs := #[.slice Ao12 t121.length co12, .slice none 0 0]) ?_ 1 _ rfl; (with_reducible repeat (first | refine blk_drewN ?_ _ | refine blk_drew ?_ | refine blk_alloc ?_ _)); refine blk_put (cs := #[.slice none 0 0, .slice none 0 0]) ?_ 0 _ rfl; (with_reducible repeat (first | refine blk_drewN ?_ _ | refine blk_drew ?_ | refine blk_alloc ?_ _)); exact BK120.out) Try.underlying25 rfl (by kernel_rfl)) rfl ?_
     exact ⟨_, _, by first | rfl | (simp [errW_none, errW_some] <;> rfl) | (simp [*, errW_none, errW_some] <;> rfl), by (with_reducible repeat (first | apply Kd.N_alloc | apply Kd.N_drewN | apply Kd.N_drew)); exact Kd.N_mono (Kd.N_far (p := ⟨gb120, 1, none⟩) (Kd.N_far (p := ⟨gb120, 0, none⟩) (Kd.N_mono HOq0.out (fun k_ hk => (⟨hk, hk.2.2.2.2⟩ : _ ∧ k_ ≠ gb120))) (fun _ hk => hk.2) (.slice Ao12 t121.length co12)) (fun _ hk => hk.2) (.slice Ao14 t124.length co14)) (fun _ hk => ⟨hk.1.1, hk.1.2.1⟩), by (with_reducible repeat (first | apply Kd.R_alloc | apply Kd.R_drewN | apply Kd.R_drew)); exact Kd.R_mono (Kd.R_far (p := ⟨gb120, 1, none⟩) (Kd.R_far (p := ⟨gb120, 0, none⟩) (Kd.R_types HOq1.out BK120.out (by decide)) (fun _ hk => hk.2) (.slice Ao12 t121.length co12)) (fun _ hk => hk.2) (.slice Ao14 t124.length co14)) (fun _ hk => hk.1), by repeat (first | (with_reducible first | exact HB.out | apply bA | apply bN | apply bD | refine bS ?_ GE118.out | refine bS ?_ GE119.out | refine bS ?_ GE120.out) | exact HB.out)⟩
    ·
     rw [if_neg c35] at H
     have c35b0 : decide (20 ≤ (t121.length : Int)) = false := decide_eq_false c35
     have c35b1 : decide (20 ≤ t121.length) = false := decide_eq_false (by omega)
     clear c35
     replace H := Option.bind_eq_some_iff.mp H
     obtain ⟨⟨t129, t130, t133, t134⟩, A410, H⟩ := H
     replace H : (if t121.length < 2199023255552 then (some ((t121 ++ [(⟨t129, t130, t133, t134⟩ : S28)]), t124, 0)) else (none)) = some (r1, r2, r3) := H
     have A41 := aM A410
     clear A410
     by_cases c42 : t121.length < 2199023255552
     ·
      rw [if_pos c42] at H
      have LMc42 := aM c42
      clear c42
      obtain ⟨y137, hy137⟩ : ∃ y_ : List (S28), y_ = (t121 ++ [(⟨t129, t130, t133, t134⟩ : S28)]) := ⟨_, rfl⟩
      replace H : (some (y137, t124, 0)) = some (r1, r2, r3) := by first | (rw [hy137]; with_reducible exact H) | (have H2_ := (Option.bind_some _ _).symm.trans H; rw [hy137]; with_reducible exact H2_) | (have H2_ := (Option.bind_some _ _).symm.trans H; with_reducible exact H2_) | with_reducible exact H | (rw [hy137]; exact H) | exact H
      have Ny137 := aM hy137
      clear hy137
      simp only [Option.some.injEq, Prod.mk.injEq] at H
      obtain ⟨rfl, rfl, rfl⟩ := H
      have hnb43 := NBq2.out
      have hnc43 := NBq1.out
      have hnb44 := NBq3.out
      have hnc44 := NBq0.out
      have hcz45_0 : wc.cell? ⟨gb118, 0, none⟩ = some (.slice Ao12 t121.length co12) := (kC BK118.out 0).trans rfl
      have hcz45_1 : wc.cell? ⟨gb118, 1, none⟩ = some (.slice Ao14 t124.length co14) := (kC BK118.out 1).trans rfl
      have hfz45_0 := kF BK118.out 0
      have hfz45_1 := kF BK118.out 1
      try go_wp2
      have n0_ := aM (Kd.N_drew HOq0.out)
      have n1_ := aM (Kd.R_drew HOq1.out)
      have n2_ := aM (blk_drew BK118.out)
      have n3_ := aM (blk_drew BK119.out)
      have n4_ := aM (blk_drew BK120.out)
      have n5_ := aM (bD HB.out)
      clear HOq0
      clear HOq1
      clear BK118
      clear BK119
      clear BK120
      clear HB
      have HOq0 := n0_
      have HOq1 := n1_
      have BK118 := n2_
      have BK119 := n3_
      have BK120 := n4_
      have HB := n5_
      clear n0_ n1_ n2_ n3_ n4_ n5_
      refine start_ (n := 8) (S := fun w' => w'.cell? ⟨gb118, 0, none⟩ = some (.slice Ao12 t121.length co12) ∧ w'.cell? ⟨gb118, 1, none⟩ = some (.slice Ao14 t124.length co14) ∧ w'.cell? ⟨gb119, 0, none⟩ = some (.int .i64 a1_0) ∧ w'.cell? ⟨gb119, 1, none⟩ = some (.slice A1_1 l1_1.length c1_1) ∧ w'.cell? ⟨gb119, 2, none⟩ = some (.bool a1_2) ∧ w'.cell? ⟨gb119, 3, none⟩ = some (.slice A1_3 l1_3.length c1_3)) (ds := [7]) #[F_,F_,F_,F_,F_,F_,F_,F_] (by kernel_rfl) rfl rfl ⟨(kC BK118.out 0).trans rfl, (kC BK118.out 1).trans rfl, (kC BK119.out 0).trans rfl, (kC BK119.out 1).trans rfl, (kC BK119.out 2).trans rfl, (kC BK119.out 3).trans rfl⟩ (fun hHeld => ?_); refine with_tabW delta_Put.tab6 delta_Put.bits6 (fun HT_ HW_ => ?_)
      generalize wc.drew = w46 at HOq0 HOq1 BK118 BK119 BK120 HB hHeld ⊢
      refine pure_ (i := 0) (N := some 24) (v := ?_) (a' := ?_) #[T_,F_,F_,F_,F_,F_,F_,F_] rfl rfl (any_of HT_.out (by kernel_rfl)) (fun _ _ _ h => h) (Or.inl ⟨by rfl, ?_⟩) ?_ ?_
      rotate_left
      ·
       intro w'
       go_simp
       with_reducible rfl
      rotate_left
      ·
       simp only [Act.put, List.setIfInBounds_toArray, List.set_cons_zero, List.set_cons_succ, i64_w, i32_w]
       rfl
      refine take_ (i := 1) (N := some 25) (v := ?_) (a' := ?_) #[T_,T_,F_,F_,F_,F_,F_,F_] rfl rfl (take_ofW HT_.out HW_.out (by kernel_rfl)) (fun _ _ _ h => h) (Or.inl ⟨by rfl, ?_⟩) hHeld ?_ ?_
      rotate_left
      ·
       rintro w' ⟨s0, s1, s2, s3, s4, s5⟩
       go_simp
       with_reducible rfl
      rotate_left
      ·
       simp only [Act.put, List.setIfInBounds_toArray, List.set_cons_zero, List.set_cons_succ, i64_w, i32_w]
       rfl
      refine take_ (i := 2) (N := some 26) (v := ?_) (a' := ?_) #[T_,T_,T_,F_,F_,F_,F_,F_] rfl rfl (take_ofW HT_.out HW_.out (by kernel_rfl)) (fun _ _ _ h => h) (Or.inl ⟨by rfl, ?_⟩) hHeld ?_ ?_
      rotate_left
      ·
       rintro w' ⟨s0, s1, s2, s3, s4, s5⟩
       go_simp
       with_reducible rfl
      rotate_left
      ·
       simp only [Act.put, List.setIfInBounds_toArray, List.set_cons_zero, List.set_cons_succ, i64_w, i32_w]
       rfl
      refine one_ (i := 3) (N := some 27) #[T_,T_,T_,T_,F_,F_,F_,F_] rfl rfl (one_of HT_.out (by kernel_rfl)) (by decide) (fun K hK => ?_)
      refine goes_ Try.func31 (by kernel_rfl) rfl #[.agg #[.int .i64 a1_0, .slice A1_1 l1_1.length c1_1, .bool a1_2, .slice A1_3 l1_3.length c1_3]] (by rfl) rfl rfl (by (try simp only [List.map_toArray, List.map_cons, List.map_nil]); first | done | rfl | (simp only [List.length_drop, List.length_take]; rfl)) ?_
      with_reducible refine (delta_write.calls a1_0 _ _ l1_1 a1_2 _ _ l1_3 t129 t130 t133 t134 _ ?side1 ?side2 ?side3 ?side4 A41.out).mono ?_
      (case side1 => repeat (first | exact (Kd.C_below HR1_1.out HB.out) | (with_reducible refine Kd.C_alloc ?_ _) | (with_reducible refine Kd.C_drewN ?_ _) | (with_reducible refine Kd.C_drew ?_)))
      (case side2 => exact HC1_1.out)
      (case side3 => repeat (first | exact (Kd.C_below HR1_3.out HB.out) | (with_reducible refine Kd.C_alloc ?_ _) | (with_reducible refine Kd.C_drewN ?_ _) | (with_reducible refine Kd.C_drew ?_)))
      (case side4 => exact HC1_3.out)
      rintro e w47 ⟨v131, v135, rfl, ho0, ho1, hb⟩
      refine ⟨_, rfl, ?_⟩
      have n0_ := aM (Kd.N_mono (Kd.N_told (Kd.N_told (Kd.N_old (nU HOq0.out) hb) (Kd.R_base ho0)) (Kd.R_base ho1)) (fun _ h_ => h_.1))
      have n1_ := aM (Kd.R_below (rU HOq1.out) hb)
      have n2_ := aM (Kd.R_lower (Kd.R_newM (M := fun k_ => (w.heap.size ≤ k_)) ho0 (below_size (by repeat (first | (with_reducible first | exact HB.out | apply bA | apply bN | apply bD | refine bS ?_ GE118.out | refine bS ?_ GE119.out | refine bS ?_ GE120.out) | exact HB.out))) (fun k_ h_ => h_)) (below_size (by repeat (first | (with_reducible first | exact HB.out | apply bA | apply bN | apply bD | refine bS ?_ GE118.out | refine bS ?_ GE119.out | refine bS ?_ GE120.out) | exact HB.out))))
      have n3_ := aM (Kd.R_lower (Kd.R_newM (M := fun k_ => (w.heap.size ≤ k_)) ho1 (below_size (by repeat (first | (with_reducible first | exact HB.out | apply bA | apply bN | apply bD | refine bS ?_ GE118.out | refine bS ?_ GE119.out | refine bS ?_ GE120.out) | exact HB.out))) (fun k_ h_ => h_)) (below_size (by repeat (first | (with_reducible first | exact HB.out | apply bA | apply bN | apply bD | refine bS ?_ GE118.out | refine bS ?_ GE119.out | refine bS ?_ GE120.out) | exact HB.out))))
      have n4_ := aM (kB (g := gb118) (o := .cells #[.slice Ao12 t121.length co12, .slice Ao14 t124.length co14] 25 (0, 0)) (bU BK118.out) hb)
      have n5_ := aM (kB (g := gb119) (o := .cells #[.int .i64 a1_0, .slice A1_1 l1_1.length c1_1, .bool a1_2, .slice A1_3 l1_3.length c1_3] 28 (0, 0)) (bU BK119.out) hb)
      have n6_ := aM (kB (g := gb120) (o := .cells #[.slice none 0 0, .slice none 0 0] 25 (0, 0)) (bU BK120.out) hb)
      have n7_ := aM (below_step (by repeat (first | (with_reducible first | exact HB.out | apply bA | apply bN | apply bD | refine bS ?_ GE118.out | refine bS ?_ GE119.out | refine bS ?_ GE120.out) | exact HB.out)) hb)
      clear HOq0
      clear HOq1
      clear BK118
      clear BK119
      clear BK120
      clear HB
      have HOq0 := n0_
      have HOq1 := n1_
      have HO132 := n2_
      have HO136 := n3_
      have BK118 := n4_
      have BK119 := n5_
      have BK120 := n6_
      have HB := n7_
      clear n0_ n1_ n2_ n3_ n4_ n5_ n6_ n7_
      (try clear hb)
      (try clear hb2)
      (try clear hk)
      (try clear hi)
      (try clear ho0)
      (try clear ho1)
      obtain ⟨Ao49, co49, eo49⟩ := Kd.R_slice HO132.out
      (first | subst eo49 | (injection eo49 with f1_ f2_ f3_; have f4_ := f1_.symm; have f5_ := f3_.symm; clear f1_ f2_ f3_; subst f4_; subst f5_))
      obtain ⟨Ao50, co50, eo50⟩ := Kd.R_slice HO136.out
      (first | subst eo50 | (injection eo50 with f1_ f2_ f3_; have f4_ := f1_.symm; have f5_ := f3_.symm; clear f1_ f2_ f3_; subst f4_; subst f5_))
      refine hK.out _ _ ⟨(kC BK118.out 0).trans rfl, (kC BK118.out 1).trans rfl, (kC BK119.out 0).trans rfl, (kC BK119.out 1).trans rfl, (kC BK119.out 2).trans rfl, (kC BK119.out 3).trans rfl⟩ (fun hHeld => ?_)
      clear hK K
      refine norm_ (a' := ?_) ?_ ?_
      rotate_left
      ·
       show Act.put _ (some 27) _ = _
       simp only [Act.put, List.setIfInBounds_toArray, List.set_cons_zero, List.set_cons_succ, i64_w, i32_w]
       rfl
      refine one_ (i := 4) (N := some 28) #[T_,T_,T_,T_,T_,F_,F_,F_] rfl rfl (one_of HT_.out (by kernel_rfl)) (by decide) (fun K hK => ?_)
      refine value_ (w1 := ?_) (v := ?_) (by rfl) rfl ?_ ?_
      rotate_left 2
      ·
       go_simp
       constructor
       ·
        rfl
       ·
        rfl
      refine hK.out _ _ ⟨(kC (blk_alloc BK118.out _) 0).trans rfl, (kC (blk_alloc BK118.out _) 1).trans rfl, (kC (blk_alloc BK119.out _) 0).trans rfl, (kC (blk_alloc BK119.out _) 1).trans rfl, (kC (blk_alloc BK119.out _) 2).trans rfl, (kC (blk_alloc BK119.out _) 3).trans rfl⟩ (fun hHeld => ?_)
      clear hK K
      refine norm_ (a' := ?_) ?_ ?_
      rotate_left
      ·
       show Act.put _ (some 28) _ = _
       simp only [Act.put, List.setIfInBounds_toArray, List.set_cons_zero, List.set_cons_succ, i64_w, i32_w]
       rfl
      refine one_ (i := 5) (N := some 29) #[T_,T_,T_,T_,T_,T_,F_,F_] rfl rfl (one_of HT_.out (by kernel_rfl)) (by decide) (fun K hK => ?_)
      refine Kd.N_append_step k28 (w0 := w) w.heap.size (by rfl) (.tmp 25) (.tmp 28) 22 28 (.agg #[(.int .i64 0), (.slice none 0 0), (.bool false), (.slice none 0 0)]) 64 rfl Try.underlying22 info28 rfl (by decide) (by omega) (.slice Ao12 t121.length co12) t121 (⟨t129, t130, t133, t134⟩ : S28) [.int .i64 t129, .slice Ao49 t130.length co49, .bool t133, .slice Ao50 t134.length co50] (fun k_ => (P0_0_ k_ ∨ w.heap.size ≤ k_) ∧ some k_ ≠ (.slice Ao14 t124.length co14 : Value).ownBlock ∧ k_ ≠ gb118 ∧ k_ ≠ gb119 ∧ k_ ≠ gb120) (fun k_ => ((fun k_ => (P0_0_ k_ ∨ w.heap.size ≤ k_) ∧ some k_ ≠ (.slice Ao14 t124.length co14 : Value).ownBlock ∧ k_ ≠ gb118 ∧ k_ ≠ gb119 ∧ k_ ≠ gb120)) k_ ∧ some k_ ≠ (.slice Ao12 t121.length co12 : Value).ownBlock) rfl rfl ?aP (fun _ hk => hk) ?aF ?aO ?aB ?aS ?aL ?_
      (case aP => exact (k28_mkF _ _ (⟨t129, t130, t133, t134⟩ : S28) (Kd.R_reads' (Kd.R_mono (ok' := (fun k_ => ((fun k_ => (P0_0_ k_ ∨ w.heap.size ≤ k_) ∧ some k_ ≠ (.slice Ao14 t124.length co14 : Value).ownBlock ∧ k_ ≠ gb118 ∧ k_ ≠ gb119 ∧ k_ ≠ gb120)) k_ ∧ some k_ ≠ (.slice Ao12 t121.length co12 : Value).ownBlock)) (Kd.R_types (Kd.R_types (Kd.R_types (Kd.R_apart' (Kd.R_apart' (HO132.out) (Kd.R_typed HOq1.out) (by decide)) (Kd.N_typed HOq0.out) (by decide)) BK118.out (by decide)) BK119.out (by decide)) BK120.out (by decide)) (fun k_ hk => ⟨⟨(.inr (hk.1.1.1.1.1.1)), ⟨hk.1.1.1.1.2, ⟨hk.1.1.2, ⟨hk.1.2, hk.2⟩⟩⟩⟩, hk.1.1.1.2⟩))).2.1 (Kd.R_F (Kd.R_mono (ok' := (fun k_ => ((fun k_ => (P0_0_ k_ ∨ w.heap.size ≤ k_) ∧ some k_ ≠ (.slice Ao14 t124.length co14 : Value).ownBlock ∧ k_ ≠ gb118 ∧ k_ ≠ gb119 ∧ k_ ≠ gb120)) k_ ∧ some k_ ≠ (.slice Ao12 t121.length co12 : Value).ownBlock)) (Kd.R_types (Kd.R_types (Kd.R_types (Kd.R_apart' (Kd.R_apart' (HO132.out) (Kd.R_typed HOq1.out) (by decide)) (Kd.N_typed HOq0.out) (by decide)) BK118.out (by decide)) BK119.out (by decide)) BK120.out (by decide)) (fun k_ hk => ⟨⟨(.inr (hk.1.1.1.1.1.1)), ⟨hk.1.1.1.1.2, ⟨hk.1.1.2, ⟨hk.1.2, hk.2⟩⟩⟩⟩, hk.1.1.1.2⟩))) (Kd.R_reads' (Kd.R_mono (ok' := (fun k_ => ((fun k_ => (P0_0_ k_ ∨ w.heap.size ≤ k_) ∧ some k_ ≠ (.slice Ao14 t124.length co14 : Value).ownBlock ∧ k_ ≠ gb118 ∧ k_ ≠ gb119 ∧ k_ ≠ gb120)) k_ ∧ some k_ ≠ (.slice Ao12 t121.length co12 : Value).ownBlock)) (Kd.R_types (Kd.R_types (Kd.R_types (Kd.R_apart' (Kd.R_apart' (HO136.out) (Kd.R_typed HOq1.out) (by decide)) (Kd.N_typed HOq0.out) (by decide)) BK118.out (by decide)) BK119.out (by decide)) BK120.out (by decide)) (fun k_ hk => ⟨⟨(.inr (hk.1.1.1.1.1.1)), ⟨hk.1.1.1.1.2, ⟨hk.1.1.2, ⟨hk.1.2, hk.2⟩⟩⟩⟩, hk.1.1.1.2⟩))).2.1 (Kd.R_F (Kd.R_mono (ok' := (fun k_ => ((fun k_ => (P0_0_ k_ ∨ w.heap.size ≤ k_) ∧ some k_ ≠ (.slice Ao14 t124.length co14 : Value).ownBlock ∧ k_ ≠ gb118 ∧ k_ ≠ gb119 ∧ k_ ≠ gb120)) k_ ∧ some k_ ≠ (.slice Ao12 t121.length co12 : Value).ownBlock)) (Kd.R_types (Kd.R_types (Kd.R_types (Kd.R_apart' (Kd.R_apart' (HO136.out) (Kd.R_typed HOq1.out) (by decide)) (Kd.N_typed HOq0.out) (by decide)) BK118.out (by decide)) BK119.out (by decide)) BK120.out (by decide)) (fun k_ hk => ⟨⟨(.inr (hk.1.1.1.1.1.1)), ⟨hk.1.1.1.1.2, ⟨hk.1.1.2, ⟨hk.1.2, hk.2⟩⟩⟩⟩, hk.1.1.1.2⟩)))))
      (case aB => exact (by repeat (first | (with_reducible first | exact HB.out | apply bA | apply bN | apply bD | refine bS ?_ GE118.out | refine bS ?_ GE119.out | refine bS ?_ GE120.out) | exact HB.out)))
      (case aF => exact (fun k_ hk => ⟨(.inr (Nat.le_trans (below_size (by repeat (first | (with_reducible first | exact HB.out | apply bA | apply bN | apply bD | refine bS ?_ GE118.out | refine bS ?_ GE119.out | refine bS ?_ GE120.out) | exact HB.out))) hk)), Kd.fresh' (Kd.R_lt (rU HOq1.out)) k_ hk, Kd.freshB (g := gb118) (o := .cells #[.slice Ao12 t121.length co12, .slice Ao14 t124.length co14] 25 (0, 0)) (bU BK118.out) k_ hk, Kd.freshB (g := gb119) (o := .cells #[.int .i64 a1_0, .slice A1_1 l1_1.length c1_1, .bool a1_2, .slice A1_3 l1_3.length c1_3] 28 (0, 0)) (bU BK119.out) k_ hk, Kd.freshB (g := gb120) (o := .cells #[.slice none 0 0, .slice none 0 0] 25 (0, 0)) (bU BK120.out) k_ hk⟩))
      (case aO => exact (by (with_reducible repeat (first | apply Kd.N_alloc | apply Kd.N_drewN | apply Kd.N_drew)); exact Kd.N_mono HOq0.out (fun _ hk => ⟨hk.1.1.1, ⟨hk.1.1.2.1, ⟨hk.1.1.2.2.1, ⟨hk.1.1.2.2.2.1, hk.1.1.2.2.2.2⟩⟩⟩⟩)))
      (case aS => exact (below_size (by repeat (first | (with_reducible first | exact HB.out | apply bA | apply bN | apply bD | refine bS ?_ GE118.out | refine bS ?_ GE119.out | refine bS ?_ GE120.out) | exact HB.out))))
      (case aL => have := LMc42.out; omega)
      intro v138 w48 ho hb hg hat
      rw [← Ny137.out] at ho
      have n0_ := aM (Kd.R_over' (rU HOq1.out) (Kd.N_typed (nU HOq0.out)) (by decide) hg)
      have n1_ := aM (blk_grown (g := gb118) (o := .cells #[.slice Ao12 t121.length co12, .slice Ao14 t124.length co14] 25 (0, 0)) (bU BK118.out) hg (Kd.N_ne HOq0.out BK118.out (by decide)))
      have n2_ := aM (blk_grown (g := gb119) (o := .cells #[.int .i64 a1_0, .slice A1_1 l1_1.length c1_1, .bool a1_2, .slice A1_3 l1_3.length c1_3] 28 (0, 0)) (bU BK119.out) hg (Kd.N_away HOq0.out (fun _ hk => hk.1.1.2.2.2.1)))
      have n3_ := aM (blk_grown (g := gb120) (o := .cells #[.slice none 0 0, .slice none 0 0] 25 (0, 0)) (bU BK120.out) hg (Kd.N_ne HOq0.out BK120.out (by decide)))
      have n4_ := aM (hb)
      have n5_ := aM (ho)
      clear HOq1
      clear BK118
      clear BK119
      clear BK120
      clear HB
      clear HOq0
      clear HO132
      clear HO136
      have HOq1 := n0_
      have BK118 := n1_
      have BK119 := n2_
      have BK120 := n3_
      have HB := n4_
      have HO139 := n5_
      clear n0_ n1_ n2_ n3_ n4_ n5_
      clear ho hb hg hat
      obtain ⟨Ao51, co51, eo51⟩ := Kd.N_slice HO139.out
      (first | subst eo51 | (injection eo51 with f1_ f2_ f3_; have f4_ := f1_.symm; have f5_ := f3_.symm; clear f1_ f2_ f3_; subst f4_; subst f5_))
      refine hK.out _ _ ⟨(kC BK118.out 0).trans rfl, (kC BK118.out 1).trans rfl, (kC BK119.out 0).trans rfl, (kC BK119.out 1).trans rfl, (kC BK119.out 2).trans rfl, (kC BK119.out 3).trans rfl⟩ (fun hHeld => ?_)
      clear hK K
      refine norm_ (a' := ?_) ?_ ?_
      rotate_left
      ·
       show Act.put _ (some 29) _ = _
       simp only [Act.put, List.setIfInBounds_toArray, List.set_cons_zero, List.set_cons_succ, i64_w, i32_w]
       rfl
      refine pure_ (i := 6) (N := some 30) (v := ?_) (a' := ?_) #[T_,T_,T_,T_,T_,T_,T_,F_] rfl rfl (any_of HT_.out (by kernel_rfl)) (fun _ _ _ h => h) (Or.inl ⟨by rfl, ?_⟩) ?_ ?_
      rotate_left
      ·
       intro w'
       go_simp
       with_reducible rfl
      rotate_left
      ·
       simp only [Act.put, List.setIfInBounds_toArray, List.set_cons_zero, List.set_cons_succ, i64_w, i32_w]
       rfl
      refine last_ (i := 7) (N := none) #[T_,T_,T_,T_,T_,T_,T_,T_] rfl rfl (one_of HT_.out (by kernel_rfl)) (by decide) (fun K hK => ?_)
      have hs52 : w48.cell? ⟨gb118, 0, none⟩ = some (.slice Ao12 t121.length co12) := (kC BK118.out 0).trans rfl
      have hfs52 := kF BK118.out 0
      have hns52_1 := NBq1.out
      have hns52_2 := NBq0.out
      have hms52_1 := NBq2.out
      have hms52_2 := NBq3.out
      refine skip_ (w1 := ?_) (by rfl) rfl ?_ ?_
      rotate_left
      ·
       go_simp
       rfl
      refine hK.out _ _ ?_
      clear hK K
      refine done_ (done_of HT_.out (by kernel_rfl)) ?_
      have hcz53_0 : w48.cell? ⟨gb118, 0, none⟩ = some (.slice Ao12 t121.length co12) := (kC BK118.out 0).trans rfl
      have hcz53_1 : w48.cell? ⟨gb118, 1, none⟩ = some (.slice Ao14 t124.length co14) := (kC BK118.out 1).trans rfl
      have hfz53_0 := kF BK118.out 0
      have hfz53_1 := kF BK118.out 1
      have hnb54 := NBq5.out
      have hnc54 := NBq4.out
      have hcz55_0 : w48.cell? ⟨gb120, 0, none⟩ = some (.slice none 0 0) := (kC BK120.out 0).trans rfl
      have hcz55_1 : w48.cell? ⟨gb120, 1, none⟩ = some (.slice none 0 0) := (kC BK120.out 1).trans rfl
      have hfz55_0 := kF BK120.out 0
      have hfz55_1 := kF BK120.out 1
      try go_wp2
      refine bodyPost_ret (results_ct rfl _ _ gb120 25 #[.slice Ao51 y137.length co51, .slice Ao14 t124.length co14] (0, 0) _ rfl (by (with_reducible repeat (first | refine blk_drewN ?_ _ | refine blk_drew ?_ | refine blk_alloc ?_ _)); refine blk_put (cs := #[.slice Ao51 y137.length co51, .slice none 0 0]) ?_ 1 _ rfl; (with_reducible repeat (first | refine blk_drewN ?_ _ | refine blk_drew ?_ | refine blk_alloc ?_ _)); refine blk_put (cs := #[.slice none 0 0, .slice none 0 0]) ?_ 0 _ rfl; (with_reducible repeat (first | refine blk_drewN ?_ _ | refine blk_drew ?_ | refine blk_alloc ?_ _)); refine blk_far ?_ NBq0.out _; (with_reducible repeat (first | refine blk_drewN ?_ _ | refine blk_drew ?_ | refine blk_alloc ?_ _)); exact BK120.out) Try.underlying25 rfl (by kernel_rfl)) rfl ?_
      exact ⟨_, _, by first | rfl | (simp [errW_none, errW_some] <;> rfl) | (simp [*, errW_none, errW_some] <;> rfl), by (with_reducible repeat (first | apply Kd.N_alloc | apply Kd.N_drewN | apply Kd.N_drew)); exact Kd.N_mono (Kd.N_far (p := ⟨gb120, 1, none⟩) (Kd.N_far (p := ⟨gb120, 0, none⟩) (Kd.N_far (p := ⟨gb118, 0, none⟩) (Kd.N_mono (Kd.N_mono HO139.out (fun k_ hk => (⟨hk, hk.2.2.1⟩ : _ ∧ k_ ≠ gb118))) (fun k_ hk => (⟨hk, hk.1.2.2.2.2⟩ : _ ∧ k_ ≠ gb120))) (fun _ hk => hk.1.2) (.slice Ao51 y137.length co51)) (fun _ hk => hk.2) (.slice Ao51 y137.length co51)) (fun _ hk => hk.2) (.slice Ao14 t124.length co14)) (fun _ hk => ⟨hk.1.1.1, hk.1.1.2.1⟩), by (with_reducible repeat (first | apply Kd.R_alloc | apply Kd.R_drewN | apply Kd.R_drew)); exact Kd.R_mono (Kd.R_far (p := ⟨gb120, 1, none⟩) (Kd.R_far (p := ⟨gb120, 0, none⟩) (Kd.R_far (p := ⟨gb118, 0, none⟩) (Kd.R_types (Kd.R_types HOq1.out BK118.out (by decide)) BK120.out (by decide)) (fun _ hk => hk.1.2) (.slice Ao51 y137.length co51)) (fun _ hk => hk.2) (.slice Ao51 y137.length co51)) (fun _ hk => hk.2) (.slice Ao14 t124.length co14)) (fun _ hk => hk.1.1), by repeat (first | (with_reducible first | exact HB.out | apply bA | apply bN | apply bD | refine bS ?_ GE118.out | refine bS ?_ GE119.out | refine bS ?_ GE120.out) | exact HB.out)⟩
     ·
      rw [if_neg c42] at H
      exact absurd H (by simp)
end Go.Proofs.Ytbjeaalbdaedpaa.P
