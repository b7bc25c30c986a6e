import Derived.Test.YtbjeaalbdaedpaaPx0
import Derived.Test.YtbjeaalbdaedpaaPx37
import Derived.Test.YtbjeaalbdaedpaaPx1
namespace Go.Proofs.Ytbjeaalbdaedpaa.P
open Go.RowKit Go.Proofs.YtbjeaalbdaedpaaW.PrintWords Go.Proofs.YtbjeaalbdaedpaaW.PrintLast Go.Proofs.YtbjeaalbdaedpaaW.PrintMore
attribute [local go_sem] max2_int min2_int max_two min_two max_three min_three max_four min_four
set_option linter.unusedVariables false
set_option linter.unusedSimpArgs false
def delta_Back.f (l0_0 : List (S28)) (l0_1 : List Int) (a1 : Int) : Option ((List (S28)) × List Int × Int) := (delta_own.f l0_0 l0_1).bind fun bt154 => ((delta_Check.f bt154.1 bt154.2).bind fun t160 => (if t160 = true then (if a1 < 0 then (some (bt154.1, bt154.2, 1)) else (if a1 ≥ (bt154.2.length : Int) then (some (bt154.1, bt154.2, 1)) else (if 0 ≤ a1 then (if a1 < (bt154.2.length : Int) then (if 0 ≤ (rd bt154.2 a1) then (if (rd bt154.2 a1) ≤ (bt154.1.length : Int) then (if 0 ≤ (wrap64 (a1 + 1)) then (if (wrap64 (a1 + 1)) ≤ (bt154.2.length : Int) then (some ((bt154.1.take ((rd bt154.2 a1) : Int).toNat), (bt154.2.take ((wrap64 (a1 + 1)) : Int).toNat), 0)) else (none)) else (none)) else (none)) else (none)) else (none)) else (none)))) else (some (bt154.1, bt154.2, 1))))
def delta_Back.T4 : Bool × List (List Nat × List Nat) := (true, [([], []), ([0], [0]), ([], []), ([2], [2]), ([], []), ([3, 4], [3, 4]), ([5], [5]), ([1, 6], [1, 6]), ([], []), ([8], [8]), ([], []), ([10], [10]), ([9, 11], [9, 11]), ([0, 1, 2, 3, 4, 5, 6, 7, 8, 9], []), ([13, 7, 0, 1, 2, 3, 4, 5, 6, 7, 8, 9], [7, 13]), ([0, 1, 2, 3, 4, 5, 6, 7, 8, 9, 10, 11, 12, 13, 14], []), ([15, 12, 14, 0, 1, 2, 3, 4, 5, 6, 7, 8, 9, 10, 11, 12, 13, 14], [12, 15])])
def delta_Back.B4 : List Nat := [0, 1, 0, 4, 0, 28, 60, 127, 0, 256, 0, 1024, 3840, 1023, 9215, 32767, 65535]
theorem delta_Back.tab4 : rtab .any (opsOf Try.f14 4) = delta_Back.T4 := by kernel_rfl
theorem delta_Back.bits4 : waitsOk delta_Back.T4.2 delta_Back.B4 = true := by kernel_rfl
set_option maxHeartbeats 8000000 in
set_option maxRecDepth 100000 in
theorem delta_Back.calls (P0_0_ : Nat → Prop) (A0_0 : Option Addr) (c0_0 : Nat) (l0_0 : List (S28)) (A0_1 : Option Addr) (c0_1 : Nat) (l0_1 : List Int) (a1 : Int) (r1 : List (S28)) (r2 : List Int) (r3 : Int) (w : World) (hs0_0 : Kd.V k28 28 w w.heap.size (fun k_ => P0_0_ k_) (.slice A0_0 l0_0.length c0_0) l0_0) (hr0_1 : Kd.C (Kd.int .i64) w A0_1 l0_1.length l0_1) (hc0_1 : l0_1.length ≤ c0_1) (h : delta_Back.f l0_0 l0_1 a1 = some (r1, r2, r3)) :
  Calls Try.prog 14 #[.agg #[.slice A0_0 l0_0.length c0_0, .slice A0_1 l0_1.length c0_1], .int .i64 a1] w fun e w' => ∃ v0_ v1_ : Value, e = .returned (.tuple #[.agg #[v0_, v1_], .int .i64 r3]) ∧ Kd.N k28 28 w' w.heap.size (fun k_ => (P0_0_ k_ ∨ w.heap.size ≤ k_) ∧ some k_ ≠ (v1_ : Value).ownBlock) v0_ r1 ∧ Kd.R (Kd.int .i64) 3 w' w.heap.size (fun k_ => (w.heap.size ≤ k_)) v1_ r2 ∧ Below w.heap.size w w' := by
 have hu25 := Try.underlying25
 have HO0_0 := aM (show Kd.V k28 28 w w.heap.size (fun k_ => (P0_0_ k_ ∨ w.heap.size ≤ k_)) (.slice A0_0 l0_0.length c0_0) l0_0 from Kd.V_mono hs0_0 (fun k_ hk => .inl hk))
 have HR0_1 := aM hr0_1
 have HC0_1 := aM hc0_1
 clear hr0_1 hc0_1
 have HB := aM (Below.refl w.heap.size w)
 have H : ((delta_own.f l0_0 l0_1).bind fun bt154 => ((delta_Check.f bt154.1 bt154.2).bind fun t160 => (if t160 = true then (if a1 < 0 then (some (bt154.1, bt154.2, 1)) else (if a1 ≥ (bt154.2.length : Int) then (some (bt154.1, bt154.2, 1)) else (if 0 ≤ a1 then (if a1 < (bt154.2.length : Int) then (if 0 ≤ (rd bt154.2 a1) then (if (rd bt154.2 a1) ≤ (bt154.1.length : Int) then (if 0 ≤ (wrap64 (a1 + 1)) then (if (wrap64 (a1 + 1)) ≤ (bt154.2.length : Int) then (some ((bt154.1.take ((rd bt154.2 a1) : Int).toNat), (bt154.2.take ((wrap64 (a1 + 1)) : Int).toNat), 0)) else (none)) else (none)) else (none)) else (none)) else (none)) else (none)))) else (some (bt154.1, bt154.2, 1))))) = some (r1, r2, r3) := h
 clear h
 replace H := Option.bind_eq_some_iff.mp H
 obtain ⟨⟨t154, t157⟩, A30, H⟩ := H
 replace H : ((delta_Check.f t154 t157).bind fun t160 => (if t160 = true then (if a1 < 0 then (some (t154, t157, 1)) else (if a1 ≥ (t157.length : Int) then (some (t154, t157, 1)) else (if 0 ≤ a1 then (if a1 < (t157.length : Int) then (if 0 ≤ (rd t157 a1) then (if (rd t157 a1) ≤ (t154.length : Int) then (if 0 ≤ (wrap64 (a1 + 1)) then (if (wrap64 (a1 + 1)) ≤ (t157.length : Int) then (some ((t154.take ((rd t157 a1) : Int).toNat), (t157.take ((wrap64 (a1 + 1)) : Int).toNat), 0)) else (none)) else (none)) else (none)) else (none)) else (none)) else (none)))) else (some (t154, t157, 1)))) = some (r1, r2, r3) := H
 have A3 := aM A30
 clear A30
 replace H := Option.bind_eq_some_iff.mp H
 obtain ⟨t160, A40, H⟩ := H
 replace H : (if t160 = true then (if a1 < 0 then (some (t154, t157, 1)) else (if a1 ≥ (t157.length : Int) then (some (t154, t157, 1)) else (if 0 ≤ a1 then (if a1 < (t157.length : Int) then (if 0 ≤ (rd t157 a1) then (if (rd t157 a1) ≤ (t154.length : Int) then (if 0 ≤ (wrap64 (a1 + 1)) then (if (wrap64 (a1 + 1)) ≤ (t157.length : Int) then (some ((t154.take ((rd t157 a1) : Int).toNat), (t157.take ((wrap64 (a1 + 1)) : Int).toNat), 0)) else (none)) else (none)) else (none)) else (none)) else (none)) else (none)))) else (some (t154, t157, 1))) = some (r1, r2, r3) := H
 have A4 := aM A40
 clear A40
 by_cases c5 : t160 = true
 ·
  subst c5
  have H1 : (if a1 < 0 then (some (t154, t157, 1)) else (if a1 ≥ (t157.length : Int) then (some (t154, t157, 1)) else (if 0 ≤ a1 then (if a1 < (t157.length : Int) then (if 0 ≤ (rd t157 a1) then (if (rd t157 a1) ≤ (t154.length : Int) then (if 0 ≤ (wrap64 (a1 + 1)) then (if (wrap64 (a1 + 1)) ≤ (t157.length : Int) then (some ((t154.take ((rd t157 a1) : Int).toNat), (t157.take ((wrap64 (a1 + 1)) : Int).toNat), 0)) else (none)) else (none)) else (none)) else (none)) else (none)) else (none)))) = some (r1, r2, r3) := by rw [if_pos rfl] at H; exact H
  clear H
  have H := H1
  clear H1
  by_cases c6 : a1 < 0
  ·
   rw [if_pos c6] at H
   have c6b0 : decide (a1 < 0) = true := decide_eq_true c6
   clear c6
   simp only [Option.some.injEq, Prod.mk.injEq] at H
   obtain ⟨rfl, rfl, rfl⟩ := H
   go_enter Try.func14, Try.ntmps14
   go_wp2_with (first | ((with_reducible refine gate_dst (N := 2) rfl ?_); (try (refine gate_guard (by rfl) ?_; dsimp only)); refine box_event ?hg (N := 2) ?hd (cs := #[.slice A0_0 l0_0.length c0_0, .slice A0_1 l0_1.length c0_1]) (t := 25) ?hr ?_; (case hd => rfl); (case hg => rfl); (case hr => first | (go_simp; done) | (go_simp; rfl)); intro gb152 hg w7 hbox hb; replace HO0_0 := aM (vB (vE (vU HO0_0.out) gb152 (Nat.le_of_eq hg.symm)) hb); have BK152 := aM (hbox); have GW152 := aM ((by rw [hg]; exact (below_size (by repeat (first | (with_reducible first | exact HB.out | apply bA | apply bN | apply bD) | exact HB.out))) : w.heap.size ≤ gb152)); have GE152 := aM ((by rw [hg]; exact (below_size (by repeat (first | (with_reducible first | exact HB.out | apply bA | apply bN | apply bD) | exact HB.out))) : w.heap.size ≤ gb152)); replace HB := aM (below_step (by repeat (first | (with_reducible first | exact HB.out | apply bA | apply bN | apply bD) | exact HB.out)) hb); clear hb hbox hg) | ((with_reducible refine gate_dst (N := 4) rfl ?_); (try (refine gate_guard (by rfl) ?_; dsimp only)); refine box_event ?hg (N := 4) ?hd (cs := #[.slice none 0 0, .slice none 0 0]) (t := 25) ?hr ?_; (case hd => rfl); (case hg => rfl); (case hr => first | (go_simp; done) | (go_simp; rfl)); intro gb153 hg w8 hbox hb; replace HO0_0 := aM (vB (vE (vU HO0_0.out) gb153 (Nat.le_of_eq hg.symm)) hb); have BK153 := aM (hbox); have GW153 := aM ((by rw [hg]; exact (below_size (by repeat (first | (with_reducible first | exact HB.out | apply bA | apply bN | apply bD | refine bS ?_ GE152.out) | exact HB.out))) : w.heap.size ≤ gb153)); have GE153 := aM ((by rw [hg]; exact (below_size (by repeat (first | (with_reducible first | exact HB.out | apply bA | apply bN | apply bD | refine bS ?_ GE152.out) | exact HB.out))) : w.heap.size ≤ gb153)); replace HB := aM (below_step (by repeat (first | (with_reducible first | exact HB.out | apply bA | apply bN | apply bD | refine bS ?_ GE152.out) | exact HB.out)) hb); have NBq1 := aM ((by rw [hg]; exact Nat.ne_of_lt (blk_lt (g := gb152) (o := .cells #[.slice A0_0 l0_0.length c0_0, .slice A0_1 l0_1.length c0_1] 25 (0, 0)) (bU BK152.out)) : gb152 ≠ gb153)); have NBq0 := aM ((by rw [hg]; exact Nat.ne_of_gt (blk_lt (g := gb152) (o := .cells #[.slice A0_0 l0_0.length c0_0, .slice A0_1 l0_1.length c0_1] 25 (0, 0)) (bU BK152.out)) : gb153 ≠ gb152)); replace BK152 := aM (kB (g := gb152) (o := .cells #[.slice A0_0 l0_0.length c0_0, .slice A0_1 l0_1.length c0_1] 25 (0, 0)) (bU BK152.out) hb); clear hb hbox hg; have hnb9 := NBq1.out; have hnc9 := NBq0.out; have hcz10_0 : w8.cell? ⟨gb152, 0, none⟩ = some (.slice A0_0 l0_0.length c0_0) := (kC BK152.out 0).trans rfl; have hcz10_1 : w8.cell? ⟨gb152, 1, none⟩ = some (.slice A0_1 l0_1.length c0_1) := (kC BK152.out 1).trans rfl; have hfz10_0 := kF BK152.out 0; have hfz10_1 := kF BK152.out 1) | ((with_reducible refine gate_callee (f := 29) rfl ?_); refine goesL_ (some 7) rfl rfl Try.func29 (by kernel_rfl) rfl #[.agg #[.slice A0_0 l0_0.length c0_0, .slice A0_1 l0_1.length c0_1]] rfl (by (try simp only [List.map_toArray, List.map_cons, List.map_nil]); first | done | rfl | (simp only [List.length_drop, List.length_take]; rfl)) ?_; (with_reducible refine (delta_own.calls (fun k_ => (((P0_0_ k_ ∨ w.heap.size ≤ k_) ∧ k_ ≠ gb152) ∧ k_ ≠ gb153)) _ _ l0_0 _ _ l0_1 t154 t157 _ ?side1 ?side2 ?side3 A3.out).mono ?_); (case side1 => exact HO0_0.out); (case side2 => repeat (first | exact (Kd.C_below HR0_1.out HB.out) | (with_reducible refine Kd.C_alloc ?_ _) | (with_reducible refine Kd.C_drewN ?_ _) | (with_reducible refine Kd.C_drew ?_))); (case side3 => exact HC0_1.out); rintro e w11 ⟨v155, v158, rfl, ho0, ho1, hb⟩; refine ⟨_, rfl, ?_⟩; replace HO0_0 := aM (Kd.V_mono (Kd.V_told (Kd.V_told (Kd.V_old (vU HO0_0.out) hb) (Kd.N_base ho0)) (Kd.R_base ho1)) (fun _ h_ => h_.1)); have HO156 := aM (Kd.N_lower (Kd.N_mono (ok' := fun k_ => (P0_0_ k_ ∨ w.heap.size ≤ k_) ∧ some k_ ≠ (v158 : Value).ownBlock ∧ k_ ≠ gb152 ∧ k_ ≠ gb153) ho0 (fun k_ hk_ => ⟨Or.elim hk_.1 (fun hs_ => hs_.1.1) (fun hn_ => (.inr (Nat.le_trans (below_size (by repeat (first | (with_reducible first | exact HB.out | apply bA | apply bN | apply bD | refine bS ?_ GE152.out | refine bS ?_ GE153.out) | exact HB.out))) hn_))), hk_.2, Or.elim hk_.1 (fun hs_ => hs_.1.2) (fun hn_ => (Kd.freshB (g := gb152) (o := .cells #[.slice A0_0 l0_0.length c0_0, .slice A0_1 l0_1.length c0_1] 25 (0, 0)) (bU BK152.out) k_ hn_)), Or.elim hk_.1 (fun hs_ => hs_.2) (fun hn_ => (Kd.freshB (g := gb153) (o := .cells #[.slice none 0 0, .slice none 0 0] 25 (0, 0)) (bU BK153.out) k_ hn_))⟩)) (below_size (by repeat (first | (with_reducible first | exact HB.out | apply bA | apply bN | apply bD | refine bS ?_ GE152.out | refine bS ?_ GE153.out) | exact HB.out)))); have HO159 := aM (Kd.R_lower (Kd.R_newM (M := fun k_ => (w.heap.size ≤ k_)) (Kd.R_mono (ok' := fun k_ => True) ho1 (fun _ hk_ => trivial)) (below_size (by repeat (first | (with_reducible first | exact HB.out | apply bA | apply bN | apply bD | refine bS ?_ GE152.out | refine bS ?_ GE153.out) | exact HB.out))) (fun k_ h_ => h_)) (below_size (by repeat (first | (with_reducible first | exact HB.out | apply bA | apply bN | apply bD | refine bS ?_ GE152.out | refine bS ?_ GE153.out) | exact HB.out)))); replace BK152 := aM (kB (g := gb152) (o := .cells #[.slice A0_0 l0_0.length c0_0, .slice A0_1 l0_1.length c0_1] 25 (0, 0)) (bU BK152.out) hb); replace BK153 := aM (kB (g := gb153) (o := .cells #[.slice none 0 0, .slice none 0 0] 25 (0, 0)) (bU BK153.out) hb); replace HB := aM (below_step (by repeat (first | (with_reducible first | exact HB.out | apply bA | apply bN | apply bD | refine bS ?_ GE152.out | refine bS ?_ GE153.out) | exact HB.out)) hb); (try clear hb); (try clear hk); (try clear ho1); obtain ⟨Ao12, co12, eo12⟩ := Kd.N_slice HO156.out; subst eo12; have hcz13_0 : w11.cell? ⟨gb152, 0, none⟩ = some (.slice A0_0 l0_0.length c0_0) := (kC BK152.out 0).trans rfl; have hcz13_1 : w11.cell? ⟨gb152, 1, none⟩ = some (.slice A0_1 l0_1.length c0_1) := (kC BK152.out 1).trans rfl; have hfz13_0 := kF BK152.out 0; have hfz13_1 := kF BK152.out 1; obtain ⟨Ao14, co14, eo14⟩ := Kd.R_slice HO159.out; subst eo14) | ((with_reducible refine gate_callee (f := 17) rfl ?_); refine goesL_ (some 9) rfl rfl Try.func17 (by kernel_rfl) rfl #[.agg #[.slice Ao12 t154.length co12, .slice Ao14 t157.length co14]] rfl (by (try simp only [List.map_toArray, List.map_cons, List.map_nil]); first | done | rfl | (simp only [List.length_drop, List.length_take]; rfl)) ?_; (with_reducible refine (delta_Check.calls _ _ t154 _ _ t157 true _ ?side1 ?side2 ?side3 ?side4 A4.out).mono ?_); (case side1 => refine (Kd.N_reads' (e := 28) (base := w.heap.size) (ok := fun k_ => ((P0_0_ k_ ∨ w.heap.size ≤ k_) ∧ (some k_ ≠ (.slice Ao14 t157.length co14 : Value).ownBlock ∧ (k_ ≠ gb152 ∧ k_ ≠ gb153)))) (n := t154.length) (c := co12) ?_).2.2; exact (by (with_reducible repeat (first | apply Kd.N_alloc | apply Kd.N_drewN | apply Kd.N_drew)); exact (Kd.N_mono (Kd.N_far (p := ⟨gb152, 1, none⟩) (Kd.N_far (p := ⟨gb152, 0, none⟩) (Kd.N_mono HO156.out (fun k_ hk => (⟨hk, hk.2.2.1⟩ : _ ∧ k_ ≠ gb152))) (fun _ hk => hk.2) (.slice Ao12 t154.length co12)) (fun _ hk => hk.2) (.slice Ao14 t157.length co14)) (fun _ h_ => h_.1)))); (case side2 => exact (Kd.N_reads' HO156.out).2.1); (case side3 => refine (Kd.R_reads' (e := 3) (base := w.heap.size) (ok := fun k_ => ((w.heap.size ≤ k_) ∧ True)) (n := t157.length) (c := co14) ?_).2.2; exact (by (with_reducible repeat (first | apply Kd.R_alloc | apply Kd.R_drewN | apply Kd.R_drew)); exact (Kd.R_mono (Kd.R_far (p := ⟨gb152, 1, none⟩) (Kd.R_far (p := ⟨gb152, 0, none⟩) (Kd.R_types HO159.out BK152.out (by decide)) (fun _ hk => hk.2) (.slice Ao12 t154.length co12)) (fun _ hk => hk.2) (.slice Ao14 t157.length co14)) (fun _ h_ => h_.1)))); (case side4 => exact (Kd.R_reads' HO159.out).2.1); rintro e w15 ⟨rfl, hb⟩; refine ⟨_, rfl, ?_⟩; replace HO0_0 := aM (vB (by (with_reducible repeat (first | apply Kd.V_alloc | apply Kd.V_drewN | apply Kd.V_drew)); exact (Kd.V_mono (Kd.V_far (p := ⟨gb152, 1, none⟩) (Kd.V_far (p := ⟨gb152, 0, none⟩) (Kd.V_mono HO0_0.out (fun k_ hk => (⟨hk, hk.1.1.1.2⟩ : _ ∧ k_ ≠ gb152))) (fun _ hk => hk.2) (.slice Ao12 t154.length co12)) (fun _ hk => hk.2) (.slice Ao14 t157.length co14)) (fun _ h_ => h_.1))) hb); replace HO156 := aM (Kd.N_below (by (with_reducible repeat (first | apply Kd.N_alloc | apply Kd.N_drewN | apply Kd.N_drew)); exact (Kd.N_mono (Kd.N_far (p := ⟨gb152, 1, none⟩) (Kd.N_far (p := ⟨gb152, 0, none⟩) (Kd.N_mono HO156.out (fun k_ hk => (⟨hk, hk.2.2.1⟩ : _ ∧ k_ ≠ gb152))) (fun _ hk => hk.2) (.slice Ao12 t154.length co12)) (fun _ hk => hk.2) (.slice Ao14 t157.length co14)) (fun _ h_ => h_.1))) hb); replace HO159 := aM (Kd.R_below (by (with_reducible repeat (first | apply Kd.R_alloc | apply Kd.R_drewN | apply Kd.R_drew)); exact (Kd.R_mono (Kd.R_far (p := ⟨gb152, 1, none⟩) (Kd.R_far (p := ⟨gb152, 0, none⟩) (Kd.R_types HO159.out BK152.out (by decide)) (fun _ hk => hk.2) (.slice Ao12 t154.length co12)) (fun _ hk => hk.2) (.slice Ao14 t157.length co14)) (fun _ h_ => h_.1))) hb); replace BK152 := aM (kB (g := gb152) (o := .cells #[.slice Ao12 t154.length co12, .slice Ao14 t157.length co14] 25 (0, 0)) (by (with_reducible repeat (first | refine blk_drewN ?_ _ | refine blk_drew ?_ | refine blk_alloc ?_ _)); refine blk_put (cs := #[.slice Ao12 t154.length co12, .slice A0_1 l0_1.length c0_1]) ?_ 1 _ rfl; (with_reducible repeat (first | refine blk_drewN ?_ _ | refine blk_drew ?_ | refine blk_alloc ?_ _)); refine blk_put (cs := #[.slice A0_0 l0_0.length c0_0, .slice A0_1 l0_1.length c0_1]) ?_ 0 _ rfl; (with_reducible repeat (first | refine blk_drewN ?_ _ | refine blk_drew ?_ | refine blk_alloc ?_ _)); exact BK152.out) hb); replace BK153 := aM (kB (g := gb153) (o := .cells #[.slice none 0 0, .slice none 0 0] 25 (0, 0)) (by (with_reducible repeat (first | refine blk_drewN ?_ _ | refine blk_drew ?_ | refine blk_alloc ?_ _)); refine blk_far ?_ NBq0.out _; (with_reducible repeat (first | refine blk_drewN ?_ _ | refine blk_drew ?_ | refine blk_alloc ?_ _)); refine blk_far ?_ NBq0.out _; (with_reducible repeat (first | refine blk_drewN ?_ _ | refine blk_drew ?_ | refine blk_alloc ?_ _)); exact BK153.out) hb); replace HB := aM (below_step (by repeat (first | (with_reducible first | exact HB.out | apply bA | apply bN | apply bD | refine bS ?_ GE152.out | refine bS ?_ GE153.out) | exact HB.out)) hb); (try clear hb); (try clear hb2); (try clear hk); (try clear hi); have hcz16_0 : w15.cell? ⟨gb152, 0, none⟩ = some (.slice Ao12 t154.length co12) := (kC BK152.out 0).trans rfl; have hcz16_1 : w15.cell? ⟨gb152, 1, none⟩ = some (.slice Ao14 t157.length co14) := (kC BK152.out 1).trans rfl; have hfz16_0 := kF BK152.out 0; have hfz16_1 := kF BK152.out 1; have hcz17_0 : w15.cell? ⟨gb153, 0, none⟩ = some (.slice none 0 0) := (kC BK153.out 0).trans rfl; have hcz17_1 : w15.cell? ⟨gb153, 1, none⟩ = some (.slice none 0 0) := (kC BK153.out 1).trans rfl; have hfz17_0 := kF BK153.out 0; have hfz17_1 := kF BK153.out 1))
   refine bodyPost_ret (results_ct rfl _ _ gb153 25 #[.slice Ao12 t154.length co12, .slice Ao14 t157.length co14] (0, 0) _ rfl (by (with_reducible repeat (first | refine blk_drewN ?_ _ | refine blk_drew ?_ | refine blk_alloc ?_ _)); refine blk_put (cs := #[.slice Ao12 t154.length co12, .slice none 0 0]) ?_ 1 _ rfl; (with_reducible repeat (first | refine blk_drewN ?_ _ | refine blk_drew ?_ | refine blk_alloc ?_ _)); refine blk_put (cs := #[.slice none 0 0, .slice none 0 0]) ?_ 0 _ rfl; (with_reducible repeat (first | refine blk_drewN ?_ _ | refine blk_drew ?_ | refine blk_alloc ?_ _)); exact BK153.out) Try.underlying25 rfl (by kernel_rfl)) rfl ?_
   exact ⟨_, _, by first | rfl | (simp [errW_none, errW_some] <;> rfl) | (simp [*, errW_none, errW_some] <;> rfl), by (with_reducible repeat (first | apply Kd.N_alloc | apply Kd.N_drewN | apply Kd.N_drew)); exact Kd.N_mono (Kd.N_far (p := ⟨gb153, 1, none⟩) (Kd.N_far (p := ⟨gb153, 0, none⟩) (Kd.N_mono HO156.out (fun k_ hk => (⟨hk, hk.2.2.2⟩ : _ ∧ k_ ≠ gb153))) (fun _ hk => hk.2) (.slice Ao12 t154.length co12)) (fun _ hk => hk.2) (.slice Ao14 t157.length co14)) (fun _ hk => ⟨hk.1.1, hk.1.2.1⟩), by (with_reducible repeat (first | apply Kd.R_alloc | apply Kd.R_drewN | apply Kd.R_drew)); exact Kd.R_mono (Kd.R_far (p := ⟨gb153, 1, none⟩) (Kd.R_far (p := ⟨gb153, 0, none⟩) (Kd.R_types HO159.out BK153.out (by decide)) (fun _ hk => hk.2) (.slice Ao12 t154.length co12)) (fun _ hk => hk.2) (.slice Ao14 t157.length co14)) (fun _ hk => hk.1.1), by repeat (first | (with_reducible first | exact HB.out | apply bA | apply bN | apply bD | refine bS ?_ GE152.out | refine bS ?_ GE153.out) | exact HB.out)⟩
  ·
   rw [if_neg c6] at H
   have c6b0 : decide (a1 < 0) = false := decide_eq_false c6
   clear c6
   by_cases c18 : a1 ≥ (t157.length : Int)
   ·
    rw [if_pos c18] at H
    have c18b0 : decide ((t157.length : Int) ≤ a1) = true := decide_eq_true c18
    clear c18
    simp only [Option.some.injEq, Prod.mk.injEq] at H
    obtain ⟨rfl, rfl, rfl⟩ := H
    go_enter Try.func14, Try.ntmps14
    go_wp2_with (first | ((with_reducible refine gate_dst (N := 2) rfl ?_); (try (refine gate_guard (by rfl) ?_; dsimp only)); refine box_event ?hg (N := 2) ?hd (cs := #[.slice A0_0 l0_0.length c0_0, .slice A0_1 l0_1.length c0_1]) (t := 25) ?hr ?_; (case hd => rfl); (case hg => rfl); (case hr => first | (go_simp; done) | (go_simp; rfl)); intro gb152 hg w19 hbox hb; replace HO0_0 := aM (vB (vE (vU HO0_0.out) gb152 (Nat.le_of_eq hg.symm)) hb); have BK152 := aM (hbox); have GW152 := aM ((by rw [hg]; exact (below_size (by repeat (first | (with_reducible first | exact HB.out | apply bA | apply bN | apply bD) | exact HB.out))) : w.heap.size ≤ gb152)); have GE152 := aM ((by rw [hg]; exact (below_size (by repeat (first | (with_reducible first | exact HB.out | apply bA | apply bN | apply bD) | exact HB.out))) : w.heap.size ≤ gb152)); replace HB := aM (below_step (by repeat (first | (with_reducible first | exact HB.out | apply bA | apply bN | apply bD) | exact HB.out)) hb); clear hb hbox hg) | ((with_reducible refine gate_dst (N := 4) rfl ?_); (try (refine gate_guard (by rfl) ?_; dsimp only)); refine box_event ?hg (N := 4) ?hd (cs := #[.slice none 0 0, .slice none 0 0]) (t := 25) ?hr ?_; (case hd => rfl); (case hg => rfl); (case hr => first | (go_simp; done) | (go_simp; rfl)); intro gb153 hg w20 hbox hb; replace HO0_0 := aM (vB (vE (vU HO0_0.out) gb153 (Nat.le_of_eq hg.symm)) hb); have BK153 := aM (hbox); have GW153 := aM ((by rw [hg]; exact (below_size (by repeat (first | (with_reducible first | exact HB.out | apply bA | apply bN | apply bD | refine bS ?_ GE152.out) | exact HB.out))) : w.heap.size ≤ gb153)); have GE153 := aM ((by rw [hg]; exact (below_size (by repeat (first | (with_reducible first | exact HB.out | apply bA | apply bN | apply bD | refine bS ?_ GE152.out) | exact HB.out))) : w.heap.size ≤ gb153)); replace HB := aM (below_step (by repeat (first | (with_reducible first | exact HB.out | apply bA | apply bN | apply bD | refine bS ?_ GE152.out) | exact HB.out)) hb); have NBq1 := aM ((by rw [hg]; exact Nat.ne_of_lt (blk_lt (g := gb152) (o := .cells #[.slice A0_0 l0_0.length c0_0, .slice A0_1 l0_1.length c0_1] 25 (0, 0)) (bU BK152.out)) : gb152 ≠ gb153)); have NBq0 := aM ((by rw [hg]; exact Nat.ne_of_gt (blk_lt (g := gb152) (o := .cells #[.slice A0_0 l0_0.length c0_0, .slice A0_1 l0_1.length c0_1] 25 (0, 0)) (bU BK152.out)) : gb153 ≠ gb152)); replace BK152 := aM (kB (g := gb152) (o := .cells #[.slice A0_0 l0_0.length c0_0, .slice A0_1 l0_1.length c0_1] 25 (0, 0)) (bU BK152.out) hb); clear hb hbox hg; have hnb21 := NBq1.out; have hnc21 := NBq0.out; have hcz22_0 : w20.cell? ⟨gb152, 0, none⟩ = some (.slice A0_0 l0_0.length c0_0) := (kC BK152.out 0).trans rfl; have hcz22_1 : w20.cell? ⟨gb152, 1, none⟩ = some (.slice A0_1 l0_1.length c0_1) := (kC BK152.out 1).trans rfl; have hfz22_0 := kF BK152.out 0; have hfz22_1 := kF BK152.out 1) | ((with_reducible refine gate_callee (f := 29) rfl ?_); refine goesL_ (some 7) rfl rfl Try.func29 (by kernel_rfl) rfl #[.agg #[.slice A0_0 l0_0.length c0_0, .slice A0_1 l0_1.length c0_1]] rfl (by (try simp only [List.map_toArray, List.map_cons, List.map_nil]); first | done | rfl | (simp only [List.length_drop, List.length_take]; rfl)) ?_; (with_reducible refine (delta_own.calls (fun k_ => (((P0_0_ k_ ∨ w.heap.size ≤ k_) ∧ k_ ≠ gb152) ∧ k_ ≠ gb153)) _ _ l0_0 _ _ l0_1 t154 t157 _ ?side1 ?side2 ?side3 A3.out).mono ?_); (case side1 => exact HO0_0.out); (case side2 => repeat (first | exact (Kd.C_below HR0_1.out HB.out) | (with_reducible refine Kd.C_alloc ?_ _) | (with_reducible refine Kd.C_drewN ?_ _) | (with_reducible refine Kd.C_drew ?_))); (case side3 => exact HC0_1.out); rintro e w23 ⟨v155, v158, rfl, ho0, ho1, hb⟩; refine ⟨_, rfl, ?_⟩; replace HO0_0 := aM (Kd.V_mono (Kd.V_told (Kd.V_told (Kd.V_old (vU HO0_0.out) hb) (Kd.N_base ho0)) (Kd.R_base ho1)) (fun _ h_ => h_.1)); have HO156 := aM (Kd.N_lower (Kd.N_mono (ok' := fun k_ => (P0_0_ k_ ∨ w.heap.size ≤ k_) ∧ some k_ ≠ (v158 : Value).ownBlock ∧ k_ ≠ gb152 ∧ k_ ≠ gb153) ho0 (fun k_ hk_ => ⟨Or.elim hk_.1 (fun hs_ => hs_.1.1) (fun hn_ => (.inr (Nat.le_trans (below_size (by repeat (first | (with_reducible first | exact HB.out | apply bA | apply bN | apply bD | refine bS ?_ GE152.out | refine bS ?_ GE153.out) | exact HB.out))) hn_))), hk_.2, Or.elim hk_.1 (fun hs_ => hs_.1.2) (fun hn_ => (Kd.freshB (g := gb152) (o := .cells #[.slice A0_0 l0_0.length c0_0, .slice A0_1 l0_1.length c0_1] 25 (0, 0)) (bU BK152.out) k_ hn_)), Or.elim hk_.1 (fun hs_ => hs_.2) (fun hn_ => (Kd.freshB (g := gb153) (o := .cells #[.slice none 0 0, .slice none 0 0] 25 (0, 0)) (bU BK153.out) k_ hn_))⟩)) (below_size (by repeat (first | (with_reducible first | exact HB.out | apply bA | apply bN | apply bD | refine bS ?_ GE152.out | refine bS ?_ GE153.out) | exact HB.out)))); have HO159 := aM (Kd.R_lower (Kd.R_newM (M := fun k_ => (w.heap.size ≤ k_)) (Kd.R_mono (ok' := fun k_ => True) ho1 (fun _ hk_ => trivial)) (below_size (by repeat (first | (with_reducible first | exact HB.out | apply bA | apply bN | apply bD | refine bS ?_ GE152.out | refine bS ?_ GE153.out) | exact HB.out))) (fun k_ h_ => h_)) (below_size (by repeat (first | (with_reducible first | exact HB.out | apply bA | apply bN | apply bD | refine bS ?_ GE152.out | refine bS ?_ GE153.out) | exact HB.out)))); replace BK152 := aM (kB (g := gb152) (o := .cells #[.slice A0_0 l0_0.length c0_0, .slice A0_1 l0_1.length c0_1] 25 (0, 0)) (bU BK152.out) hb); replace BK153 := aM (kB (g := gb153) (o := .cells #[.slice none 0 0, .slice none 0 0] 25 (0, 0)) (bU BK153.out) hb); replace HB := aM (below_step (by repeat (first | (with_reducible first | exact HB.out | apply bA | apply bN | apply bD | refine bS ?_ GE152.out | refine bS ?_ GE153.out) | exact HB.out)) hb); (try clear hb); (try clear hk); (try clear ho1); obtain ⟨Ao24, co24, eo24⟩ := Kd.N_slice HO156.out; subst eo24; have hcz25_0 : w23.cell? ⟨gb152, 0, none⟩ = some (.slice A0_0 l0_0.length c0_0) := (kC BK152.out 0).trans rfl; have hcz25_1 : w23.cell? ⟨gb152, 1, none⟩ = some (.slice A0_1 l0_1.length c0_1) := (kC BK152.out 1).trans rfl; have hfz25_0 := kF BK152.out 0; have hfz25_1 := kF BK152.out 1; obtain ⟨Ao26, co26, eo26⟩ := Kd.R_slice HO159.out; subst eo26) | ((with_reducible refine gate_callee (f := 17) rfl ?_); refine goesL_ (some 9) rfl rfl Try.func17 (by kernel_rfl) rfl #[.agg #[.slice Ao24 t154.length co24, .slice Ao26 t157.length co26]] rfl (by (try simp only [List.map_toArray, List.map_cons, List.map_nil]); first | done | rfl | (simp only [List.length_drop, List.length_take]; rfl)) ?_; (with_reducible refine (delta_Check.calls _ _ t154 _ _ t157 true _ ?side1 ?side2 ?side3 ?side4 A4.out).mono ?_); (case side1 => refine (Kd.N_reads' (e := 28) (base := w.heap.size) (ok := fun k_ => ((P0_0_ k_ ∨ w.heap.size ≤ k_) ∧ (some k_ ≠ (.slice Ao26 t157.length co26 : Value).ownBlock ∧ (k_ ≠ gb152 ∧ k_ ≠ gb153)))) (n := t154.length) (c := co24) ?_).2.2; exact (by (with_reducible repeat (first | apply Kd.N_alloc | apply Kd.N_drewN | apply Kd.N_drew)); exact (Kd.N_mono (Kd.N_far (p := ⟨gb152, 1, none⟩) (Kd.N_far (p := ⟨gb152, 0, none⟩) (Kd.N_mono HO156.out (fun k_ hk => (⟨hk, hk.2.2.1⟩ : _ ∧ k_ ≠ gb152))) (fun _ hk => hk.2) (.slice Ao24 t154.length co24)) (fun _ hk => hk.2) (.slice Ao26 t157.length co26)) (fun _ h_ => h_.1)))); (case side2 => exact (Kd.N_reads' HO156.out).2.1); (case side3 => refine (Kd.R_reads' (e := 3) (base := w.heap.size) (ok := fun k_ => ((w.heap.size ≤ k_) ∧ True)) (n := t157.length) (c := co26) ?_).2.2; exact (by (with_reducible repeat (first | apply Kd.R_alloc | apply Kd.R_drewN | apply Kd.R_drew)); exact (Kd.R_mono (Kd.R_far (p := ⟨gb152, 1, none⟩) (Kd.R_far (p := ⟨gb152, 0, none⟩) (Kd.R_types HO159.out BK152.out (by decide)) (fun _ hk => hk.2) (.slice Ao24 t154.length co24)) (fun _ hk => hk.2) (.slice Ao26 t157.length co26)) (fun _ h_ => h_.1)))); (case side4 => exact (Kd.R_reads' HO159.out).2.1); rintro e w27 ⟨rfl, hb⟩; refine ⟨_, rfl, ?_⟩; replace HO0_0 := aM (vB (by (with_reducible repeat (first | apply Kd.V_alloc | apply Kd.V_drewN | apply Kd.V_drew)); exact (Kd.V_mono (Kd.V_far (p := ⟨gb152, 1, none⟩) (Kd.V_far (p := ⟨gb152, 0, none⟩) (Kd.V_mono HO0_0.out (fun k_ hk => (⟨hk, hk.1.1.1.2⟩ : _ ∧ k_ ≠ gb152))) (fun _ hk => hk.2) (.slice Ao24 t154.length co24)) (fun _ hk => hk.2) (.slice Ao26 t157.length co26)) (fun _ h_ => h_.1))) hb); replace HO156 := aM (Kd.N_below (by (with_reducible repeat (first | apply Kd.N_alloc | apply Kd.N_drewN | apply Kd.N_drew)); exact (Kd.N_mono (Kd.N_far (p := ⟨gb152, 1, none⟩) (Kd.N_far (p := ⟨gb152, 0, none⟩) (Kd.N_mono HO156.out (fun k_ hk => (⟨hk, hk.2.2.1⟩ : _ ∧ k_ ≠ gb152))) (fun _ hk => hk.2) (.slice Ao24 t154.length co24)) (fun _ hk => hk.2) (.slice Ao26 t157.length co26)) (fun _ h_ => h_.1))) hb); replace HO159 := aM (Kd.R_below (by (with_reducible repeat (first | apply Kd.R_alloc | apply Kd.R_drewN | apply Kd.R_drew)); exact (Kd.R_mono (Kd.R_far (p := ⟨gb152, 1, none⟩) (Kd.R_far (p := ⟨gb152, 0, none⟩) (Kd.R_types HO159.out BK152.out (by decide)) (fun _ hk => hk.2) (.slice Ao24 t154.length co24)) (fun _ hk => hk.2) (.slice Ao26 t157.length co26)) (fun _ h_ => h_.1))) hb); replace BK152 := aM (kB (g := gb152) (o := .cells #[.slice Ao24 t154.length co24, .slice Ao26 t157.length co26] 25 (0, 0)) (by (with_reducible repeat (first | refine blk_drewN ?_ _ | refine blk_drew ?_ | refine blk_alloc ?_ _)); refine blk_put (cs := #[.slice Ao24 t154.length co24, .slice A0_1 l0_1.length c0_1]) ?_ 1 _ rfl; (with_reducible repeat (first | refine blk_drewN ?_ _ | refine blk_drew ?_ | refine blk_alloc ?_ _)); refine blk_put (cs := #[.slice A0_0 l0_0.length c0_0, .slice A0_1 l0_1.length c0_1]) ?_ 0 _ rfl; (with_reducible repeat (first | refine blk_drewN ?_ _ | refine blk_drew ?_ | refine blk_alloc ?_ _)); exact BK152.out) hb); replace BK153 := aM (kB (g := gb153) (o := .cells #[.slice none 0 0, .slice none 0 0] 25 (0, 0)) (by (with_reducible repeat (first | refine blk_drewN ?_ _ | refine blk_drew ?_ | refine blk_alloc ?_ _)); refine blk_far ?_ NBq0.out _; (with_reducible repeat (first | refine blk_drewN ?_ _ | refine blk_drew ?_ | refine blk_alloc ?_ _)); refine blk_far ?_ NBq0.out _; (with_reducible repeat (first | refine blk_drewN ?_ _ | refine blk_drew ?_ | refine blk_alloc ?_ _)); exact BK153.out) hb); replace HB := aM (below_step (by repeat (first | (with_reducible first | exact HB.out | apply bA | apply bN | apply bD | refine bS ?_ GE152.out | refine bS ?_ GE153.out) | exact HB.out)) hb); (try clear hb); (try clear hb2); (try clear hk); (try clear hi); have hcz28_0 : w27.cell? ⟨gb152, 0, none⟩ = some (.slice Ao24 t154.length co24) := (kC BK152.out 0).trans rfl; have hcz28_1 : w27.cell? ⟨gb152, 1, none⟩ = some (.slice Ao26 t157.length co26) := (kC BK152.out 1).trans rfl; have hfz28_0 := kF BK152.out 0; have hfz28_1 := kF BK152.out 1; have hcz29_0 : w27.cell? ⟨gb153, 0, none⟩ = some (.slice none 0 0) := (kC BK153.out 0).trans rfl; have hcz29_1 : w27.cell? ⟨gb153, 1, none⟩ = some (.slice none 0 0) := (kC BK153.out 1).trans rfl; have hfz29_0 := kF BK153.out 0; have hfz29_1 := kF BK153.out 1))
    refine bodyPost_ret (results_ct rfl _ _ gb153 25 #[.slice Ao24 t154.length co24, .slice Ao26 t157.length co26] (0, 0) _ rfl (by (with_reducible repeat (first | refine blk_drewN ?_ _ | refine blk_drew ?_ | refine blk_alloc ?_ _)); refine blk_put (cs := #[.slice Ao24 t154.length co24, .slice none 0 0]) ?_ 1 _ rfl; (with_reducible repeat (first | refine blk_drewN ?_ _ | refine blk_drew ?_ | refine blk_alloc ?_ _)); refine blk_put (cs := #[.slice none 0 0, .slice none 0 0]) ?_ 0 _ rfl; (with_reducible repeat (first | refine blk_drewN ?_ _ | refine blk_drew ?_ | refine blk_alloc ?_ _)); exact BK153.out) Try.underlying25 rfl (by kernel_rfl)) rfl ?_
    exact ⟨_, _, by first | rfl | (simp [errW_none, errW_some] <;> rfl) | (simp [*, errW_none, errW_some] <;> rfl), by (with_reducible repeat (first | apply Kd.N_alloc | apply Kd.N_drewN | apply Kd.N_drew)); exact Kd.N_mono (Kd.N_far (p := ⟨gb153, 1, none⟩) (Kd.N_far (p := ⟨gb153, 0, none⟩) (Kd.N_mono HO156.out (fun k_ hk => (⟨hk, hk.2.2.2⟩ : _ ∧ k_ ≠ gb153))) (fun _ hk => hk.2) (.slice Ao24 t154.length co24)) (fun _ hk => hk.2) (.slice Ao26 t157.length co26)) (fun _ hk => ⟨hk.1.1, hk.1.2.1⟩), by (with_reducible repeat (first | apply Kd.R_alloc | apply Kd.R_drewN | apply Kd.R_drew)); exact Kd.R_mono (Kd.R_far (p := ⟨gb153, 1, none⟩) (Kd.R_far (p := ⟨gb153, 0, none⟩) (Kd.R_types HO159.out BK153.out (by decide)) (fun _ hk => hk.2) (.slice Ao24 t154.length co24)) (fun _ hk => hk.2) (.slice Ao26 t157.length co26)) (fun _ hk => hk.1.1), by repeat (first | (with_reducible first | exact HB.out | apply bA | apply bN | apply bD | refine bS ?_ GE152.out | refine bS ?_ GE153.out) | exact HB.out)⟩
   ·
    rw [if_neg c18] at H
    have c18b0 : decide ((t157.length : Int) ≤ a1) = false := decide_eq_false c18
    clear c18
    by_cases c30 : 0 ≤ a1
    ·
     rw [if_pos c30] at H
     have c30b0 : decide (0 ≤ a1) = true := decide_eq_true c30
     clear c30
     by_cases c31 : a1 < (t157.length : Int)
     ·
      rw [if_pos c31] at H
      have c31b0 : decide (a1 < (t157.length : Int)) = true := decide_eq_true c31
      clear c31
      by_cases c32 : 0 ≤ (rd t157 a1)
      ·
       rw [if_pos c32] at H
       have c32b0 := eq_true c32
       have c32b1 : decide (0 ≤ (rd t157 a1)) = true := decide_eq_true c32
       clear c32
       by_cases c33 : (rd t157 a1) ≤ (t154.length : Int)
       ·
        rw [if_pos c33] at H
        have c33b0 := eq_true c33
        have c33b1 : decide ((rd t157 a1) ≤ (t154.length : Int)) = true := decide_eq_true c33
        clear c33
        obtain ⟨y162, hy162⟩ : ∃ y_ : List (S28), y_ = (t154.take ((rd t157 a1) : Int).toNat) := ⟨_, rfl⟩
        replace H : (if 0 ≤ (wrap64 (a1 + 1)) then (if (wrap64 (a1 + 1)) ≤ (t157.length : Int) then (some (y162, (t157.take ((wrap64 (a1 + 1)) : Int).toNat), 0)) else (none)) else (none)) = some (r1, r2, r3) := by first | (rw [hy162]; with_reducible exact H) | (have H2_ := (Option.bind_some _ _).symm.trans H; rw [hy162]; with_reducible exact H2_) | (have H2_ := (Option.bind_some _ _).symm.trans H; with_reducible exact H2_) | with_reducible exact H | (rw [hy162]; exact H) | exact H
        have Ny162 := aM hy162
        clear hy162
        obtain ⟨ji34, hji34⟩ : ∃ j_ : Int, (wrap64 (a1 + 1)) = j_ := ⟨_, rfl⟩
        replace H : (if 0 ≤ (ji34) then (if (ji34) ≤ (t157.length : Int) then (some (y162, (t157.take ((ji34) : Int).toNat), 0)) else (none)) else (none)) = some (r1, r2, r3) := by first | (rw [hji34] at H; exact H) | (simp only [hji34] at H ⊢; exact H)
        (try rw [hji34] at A3)
        (try rw [hji34] at A4)
        have hji34w : (IntKind.i64.wrap (a1 + 1)) = ji34 := (i64_w _).trans hji34
        by_cases c35 : 0 ≤ (ji34)
        ·
         rw [if_pos c35] at H
         have c35b0 := eq_true c35
         have c35b1 : decide (0 ≤ (ji34)) = true := decide_eq_true c35
         clear c35
         by_cases c36 : (ji34) ≤ (t157.length : Int)
         ·
          rw [if_pos c36] at H
          have c36b0 := eq_true c36
          have c36b1 : decide ((ji34) ≤ (t157.length : Int)) = true := decide_eq_true c36
          clear c36
          obtain ⟨y165, hy165⟩ : ∃ y_ : List Int, y_ = (t157.take ((ji34) : Int).toNat) := ⟨_, rfl⟩
          replace H : (some (y162, y165, 0)) = some (r1, r2, r3) := by first | (rw [hy165]; with_reducible exact H) | (have H2_ := (Option.bind_some _ _).symm.trans H; rw [hy165]; with_reducible exact H2_) | (have H2_ := (Option.bind_some _ _).symm.trans H; with_reducible exact H2_) | with_reducible exact H | (rw [hy165]; exact H) | exact H
          have Ny165 := aM hy165
          clear hy165
          simp only [Option.some.injEq, Prod.mk.injEq] at H
          obtain ⟨rfl, rfl, rfl⟩ := H
          go_enter Try.func14, Try.ntmps14
          try go_wp2_with (first | ((with_reducible refine gate_dst (N := 2) rfl ?_); (try (refine gate_guard (by rfl) ?_; dsimp only)); refine box_event ?hg (N := 2) ?hd (cs := #[.slice A0_0 l0_0.length c0_0, .slice A0_1 l0_1.length c0_1]) (t := 25) ?hr ?_; (case hd => rfl); (case hg => rfl); (case hr => first | (go_simp; done) | (go_simp; rfl)); intro gb152 hg w37 hbox hb; replace HO0_0 := aM (vB (vE (vU HO0_0.out) gb152 (Nat.le_of_eq hg.symm)) hb); have BK152 := aM (hbox); have GW152 := aM ((by rw [hg]; exact (below_size (by repeat (first | (with_reducible first | exact HB.out | apply bA | apply bN | apply bD) | exact HB.out))) : w.heap.size ≤ gb152)); have GE152 := aM ((by rw [hg]; exact (below_size (by repeat (first | (with_reducible first | exact HB.out | apply bA | apply bN | apply bD) | exact HB.out))) : w.heap.size ≤ gb152)); replace HB := aM (below_step (by repeat (first | (with_reducible first | exact HB.out | apply bA | apply bN | apply bD) | exact HB.out)) hb); clear hb hbox hg) | ((with_reducible refine gate_dst (N := 4) rfl ?_); (try (refine gate_guard (by rfl) ?_; dsimp only)); refine box_event ?hg (N := 4) ?hd (cs := #[.slice none 0 0, .slice none 0 0]) (t := 25) ?hr ?_; (case hd => rfl); (case hg => rfl); (case hr => first | (go_simp; done) | (go_simp; rfl)); intro gb153 hg w38 hbox hb; replace HO0_0 := aM (vB (vE (vU HO0_0.out) gb153 (Nat.le_of_eq hg.symm)) hb); have BK153 := aM (hbox); have GW153 := aM ((by rw [hg]; exact (below_size (by repeat (first | (with_reducible first | exact HB.out | apply bA | apply bN | apply bD | refine bS ?_ GE152.out) | exact HB.out))) : w.heap.size ≤ gb153)); have GE153 := aM ((by rw [hg]; exact (below_size (by repeat (first | (with_reducible first | exact HB.out | apply bA | apply bN | apply bD | refine bS ?_ GE152.out) | exact HB.out))) : w.heap.size ≤ gb153)); replace HB := aM (below_step (by repeat (first | (with_reducible first | exact HB.out | apply bA | apply bN | apply bD | refine bS ?_ GE152.out) | exact HB.out)) hb); have NBq1 := aM ((by rw [hg]; exact Nat.ne_of_lt (blk_lt (g := gb152) (o := .cells #[.slice A0_0 l0_0.length c0_0, .slice A0_1 l0_1.length c0_1] 25 (0, 0)) (bU BK152.out)) : gb152 ≠ gb153)); have NBq0 := aM ((by rw [hg]; exact Nat.ne_of_gt (blk_lt (g := gb152) (o := .cells #[.slice A0_0 l0_0.length c0_0, .slice A0_1 l0_1.length c0_1] 25 (0, 0)) (bU BK152.out)) : gb153 ≠ gb152)); replace BK152 := aM (kB (g := gb152) (o := .cells #[.slice A0_0 l0_0.length c0_0, .slice A0_1 l0_1.length c0_1] 25 (0, 0)) (bU BK152.out) hb); clear hb hbox hg; have hnb39 := NBq1.out; have hnc39 := NBq0.out; have hcz40_0 : w38.cell? ⟨gb152, 0, none⟩ = some (.slice A0_0 l0_0.length c0_0) := (kC BK152.out 0).trans rfl; have hcz40_1 : w38.cell? ⟨gb152, 1, none⟩ = some (.slice A0_1 l0_1.length c0_1) := (kC BK152.out 1).trans rfl; have hfz40_0 := kF BK152.out 0; have hfz40_1 := kF BK152.out 1) | ((with_reducible refine gate_callee (f := 29) rfl ?_); refine goesL_ (some 7) rfl rfl Try.func29 (by kernel_rfl) rfl #[.agg #[.slice A0_0 l0_0.length c0_0, .slice A0_1 l0_1.length c0_1]] rfl (by (try simp only [List.map_toArray, List.map_cons, List.map_nil]); first | done | rfl | (simp only [List.length_drop, List.length_take]; rfl)) ?_; (with_reducible refine (delta_own.calls (fun k_ => (((P0_0_ k_ ∨ w.heap.size ≤ k_) ∧ k_ ≠ gb152) ∧ k_ ≠ gb153)) _ _ l0_0 _ _ l0_1 t154 t157 _ ?side1 ?side2 ?side3 A3.out).mono ?_); (case side1 => exact HO0_0.out); (case side2 => repeat (first | exact (Kd.C_below HR0_1.out HB.out) | (with_reducible refine Kd.C_alloc ?_ _) | (with_reducible refine Kd.C_drewN ?_ _) | (with_reducible refine Kd.C_drew ?_))); (case side3 => exact HC0_1.out); rintro e w41 ⟨v155, v158, rfl, ho0, ho1, hb⟩; refine ⟨_, rfl, ?_⟩; replace HO0_0 := aM (Kd.V_mono (Kd.V_told (Kd.V_told (Kd.V_old (vU HO0_0.out) hb) (Kd.N_base ho0)) (Kd.R_base ho1)) (fun _ h_ => h_.1)); have HO156 := aM (Kd.N_lower (Kd.N_mono (ok' := fun k_ => (P0_0_ k_ ∨ w.heap.size ≤ k_) ∧ some k_ ≠ (v158 : Value).ownBlock ∧ k_ ≠ gb152 ∧ k_ ≠ gb153) ho0 (fun k_ hk_ => ⟨Or.elim hk_.1 (fun hs_ => hs_.1.1) (fun hn_ => (.inr (Nat.le_trans (below_size (by repeat (first | (with_reducible first | exact HB.out | apply bA | apply bN | apply bD | refine bS ?_ GE152.out | refine bS ?_ GE153.out) | exact HB.out))) hn_))), hk_.2, Or.elim hk_.1 (fun hs_ => hs_.1.2) (fun hn_ => (Kd.freshB (g := gb152) (o := .cells #[.slice A0_0 l0_0.length c0_0, .slice A0_1 l0_1.length c0_1] 25 (0, 0)) (bU BK152.out) k_ hn_)), Or.elim hk_.1 (fun hs_ => hs_.2) (fun hn_ => (Kd.freshB (g := gb153) (o := .cells #[.slice none 0 0, .slice none 0 0] 25 (0, 0)) (bU BK153.out) k_ hn_))⟩)) (below_size (by repeat (first | (with_reducible first | exact HB.out | apply bA | apply bN | apply bD | refine bS ?_ GE152.out | refine bS ?_ GE153.out) | exact HB.out)))); have HO159 := aM (Kd.R_lower (Kd.R_newM (M := fun k_ => (w.heap.size ≤ k_)) (Kd.R_mono (ok' := fun k_ => True) ho1 (fun _ hk_ => trivial)) (below_size (by repeat (first | (with_reducible first | exact HB.out | apply bA | apply bN | apply bD | refine bS ?_ GE152.out | refine bS ?_ GE153.out) | exact HB.out))) (fun k_ h_ => h_)) (below_size (by repeat (first | (with_reducible first | exact HB.out | apply bA | apply bN | apply bD | refine bS ?_ GE152.out | refine bS ?_ GE153.out) | exact HB.out)))); replace BK152 := aM (kB (g := gb152) (o := .cells #[.slice A0_0 l0_0.length c0_0, .slice A0_1 l0_1.length c0_1] 25 (0, 0)) (bU BK152.out) hb); replace BK153 := aM (kB (g := gb153) (o := .cells #[.slice none 0 0, .slice none 0 0] 25 (0, 0)) (bU BK153.out) hb); replace HB := aM (below_step (by repeat (first | (with_reducible first | exact HB.out | apply bA | apply bN | apply bD | refine bS ?_ GE152.out | refine bS ?_ GE153.out) | exact HB.out)) hb); (try clear hb); (try clear hk); (try clear ho1); obtain ⟨Ao42, co42, eo42⟩ := Kd.N_slice HO156.out; subst eo42; have hcz43_0 : w41.cell? ⟨gb152, 0, none⟩ = some (.slice A0_0 l0_0.length c0_0) := (kC BK152.out 0).trans rfl; have hcz43_1 : w41.cell? ⟨gb152, 1, none⟩ = some (.slice A0_1 l0_1.length c0_1) := (kC BK152.out 1).trans rfl; have hfz43_0 := kF BK152.out 0; have hfz43_1 := kF BK152.out 1; obtain ⟨Ao44, co44, eo44⟩ := Kd.R_slice HO159.out; subst eo44) | ((with_reducible refine gate_callee (f := 17) rfl ?_); refine goesL_ (some 9) rfl rfl Try.func17 (by kernel_rfl) rfl #[.agg #[.slice Ao42 t154.length co42, .slice Ao44 t157.length co44]] rfl (by (try simp only [List.map_toArray, List.map_cons, List.map_nil]); first | done | rfl | (simp only [List.length_drop, List.length_take]; rfl)) ?_; (with_reducible refine (delta_Check.calls _ _ t154 _ _ t157 true _ ?side1 ?side2 ?side3 ?side4 A4.out).mono ?_); (case side1 => refine (Kd.N_reads' (e := 28) (base := w.heap.size) (ok := fun k_ => ((P0_0_ k_ ∨ w.heap.size ≤ k_) ∧ (some k_ ≠ (.slice Ao44 t157.length co44 : Value).ownBlock ∧ (k_ ≠ gb152 ∧ k_ ≠ gb153)))) (n := t154.length) (c := co42) ?_).2.2; exact (by (with_reducible repeat (first | apply Kd.N_alloc | apply Kd.N_drewN | apply Kd.N_drew)); exact (Kd.N_mono (Kd.N_far (p := ⟨gb152, 1, none⟩) (Kd.N_far (p := ⟨gb152, 0, none⟩) (Kd.N_mono HO156.out (fun k_ hk => (⟨hk, hk.2.2.1⟩ : _ ∧ k_ ≠ gb152))) (fun _ hk => hk.2) (.slice Ao42 t154.length co42)) (fun _ hk => hk.2) (.slice Ao44 t157.length co44)) (fun _ h_ => h_.1)))); (case side2 => exact (Kd.N_reads' HO156.out).2.1); (case side3 => refine (Kd.R_reads' (e := 3) (base := w.heap.size) (ok := fun k_ => ((w.heap.size ≤ k_) ∧ True)) (n := t157.length) (c := co44) ?_).2.2; exact (by (with_reducible repeat (first | apply Kd.R_alloc | apply Kd.R_drewN | apply Kd.R_drew)); exact (Kd.R_mono (Kd.R_far (p := ⟨gb152, 1, none⟩) (Kd.R_far (p := ⟨gb152, 0, none⟩) (Kd.R_types HO159.out BK152.out (by decide)) (fun _ hk => hk.2) (.slice Ao42 t154.length co42)) (fun _ hk => hk.2) (.slice Ao44 t157.length co44)) (fun _ h_ => h_.1)))); (case side4 => exact (Kd.R_reads' HO159.out).2.1); rintro e w45 ⟨rfl, hb⟩; refine ⟨_, rfl, ?_⟩; replace HO0_0 := aM (vB (by (with_reducible repeat (first | apply Kd.V_alloc | apply Kd.V_drewN | apply Kd.V_drew)); exact (Kd.V_mono (Kd.V_far (p := ⟨gb152, 1, none⟩) (Kd.V_far (p := ⟨gb152, 0, none⟩) (Kd.V_mono HO0_0.out (fun k_ hk => (⟨hk, hk.1.1.1.2⟩ : _ ∧ k_ ≠ gb152))) (fun _ hk => hk.2) (.slice Ao42 t154.length co42)) (fun _ hk => hk.2) (.slice Ao44 t157.length co44)) (fun _ h_ => h_.1))) hb); replace HO156 := aM (Kd.N_below (by (with_reducible repeat (first | apply Kd.N_alloc | apply Kd.N_drewN | apply Kd.N_drew)); exact (Kd.N_mono (Kd.N_far (p := ⟨gb152, 1, none⟩) (Kd.N_far (p := ⟨gb152, 0, none⟩) (Kd.N_mono HO156.out (fun k_ hk => (⟨hk, hk.2.2.1⟩ : _ ∧ k_ ≠ gb152))) (fun _ hk => hk.2) (.slice Ao42 t154.length co42)) (fun _ hk => hk.2) (.slice Ao44 t157.length co44)) (fun _ h_ => h_.1))) hb); replace HO159 := aM (Kd.R_below (by (with_reducible repeat (first | apply Kd.R_alloc | apply Kd.R_drewN | apply Kd.R_drew)); exact (Kd.R_mono (Kd.R_far (p := ⟨gb152, 1, none⟩) (Kd.R_far (p := ⟨gb152, 0, none⟩) (Kd.R_types HO159.out BK152.out (by decide)) (fun _ hk => hk.2) (.slice Ao42 t154.length co42)) (fun _ hk => hk.2) (.slice Ao44 t157.length co44)) (fun _ h_ => h_.1))) hb); replace BK152 := aM (kB (g := gb152) (o := .cells #[.slice Ao42 t154.length co42, .slice Ao44 t157.length co44] 25 (0, 0)) (by (with_reducible repeat (first | refine blk_drewN ?_ _ | refine blk_drew ?_ | refine blk_alloc ?_ _)); refine blk_put (cs := #[.slice Ao42 t154.length co42, .slice A0_1 l0_1.length c0_1]) ?_ 1 _ rfl; (with_reducible repeat (first | refine blk_drewN ?_ _ | refine blk_drew ?_ | refine blk_alloc ?_ _)); refine blk_put (cs := #[.slice A0_0 l0_0.length c0_0, .slice A0_1 l0_1.length c0_1]) ?_ 0 _ rfl; (with_reducible repeat (first | refine blk_drewN ?_ _ | refine blk_drew ?_ | refine blk_alloc ?_ _)); exact BK152.out) hb); replace BK153 := aM (kB (g := gb153) (o := .cells #[.slice none 0 0, .slice none 0 0] 25 (0, 0)) (by (with_reducible repeat (first | refine blk_drewN ?_ _ | refine blk_drew ?_ | refine blk_alloc ?_ _)); refine blk_far ?_ NBq0.out _; (with_reducible repeat (first | refine blk_drewN ?_ _ | refine blk_drew ?_ | refine blk_alloc ?_ _)); refine blk_far ?_ NBq0.out _; (with_reducible repeat (first | refine blk_drewN ?_ _ | refine blk_drew ?_ | refine blk_alloc ?_ _)); exact BK153.out) hb); replace HB := aM (below_step (by repeat (first | (with_reducible first | exact HB.out | apply bA | apply bN | apply bD | refine bS ?_ GE152.out | refine bS ?_ GE153.out) | exact HB.out)) hb); (try clear hb); (try clear hb2); (try clear hk); (try clear hi); have hcz46_0 : w45.cell? ⟨gb152, 0, none⟩ = some (.slice Ao42 t154.length co42) := (kC BK152.out 0).trans rfl; have hcz46_1 : w45.cell? ⟨gb152, 1, none⟩ = some (.slice Ao44 t157.length co44) := (kC BK152.out 1).trans rfl; have hfz46_0 := kF BK152.out 0; have hfz46_1 := kF BK152.out 1))
          have n0_ := aM (Kd.V_drew HO0_0.out)
          have n1_ := aM (Kd.N_drew HO156.out)
          have n2_ := aM (Kd.R_drew HO159.out)
          have n3_ := aM (blk_drew BK152.out)
          have n4_ := aM (blk_drew BK153.out)
          have n5_ := aM (bD HB.out)
          clear HO0_0
          clear HO156
          clear HO159
          clear BK152
          clear BK153
          clear HB
          have HO0_0 := n0_
          have HO156 := n1_
          have HO159 := n2_
          have BK152 := n3_
          have BK153 := n4_
          have HB := n5_
          clear n0_ n1_ n2_ n3_ n4_ n5_
          have p161 : 0 ≤ (a1 : Int) := of_decide_eq_true (by first | (with_reducible assumption) | assumption)
          have q161 : a1 < (t157.length : Int) := of_decide_eq_true (by first | (with_reducible assumption) | assumption)
          obtain ⟨ad161, e161, hx161_0⟩ := Kd.at_int (Kd.R_reads' HO159.out).2.2 a1 p161 q161
          cases e161
          replace p161 := eq_true p161
          replace q161 := eq_true q161
          have q48 : ((rd t157 a1) : Int) ≤ ((t154.length : Int) : Int) := of_decide_eq_true (by first | (with_reducible assumption) | assumption)
          obtain ⟨i048, hi048, _, hsz48, _⟩ := info_parts info28
          have hcut48 := cut_to (P := Try.prog) 22 28 .i64 Try.underlying22 hi048 Ao42 t154.length co42 (rd t157 a1) (of_decide_eq_true (by first | (with_reducible assumption) | assumption)) q48 (Kd.N_reads' HO156.out).2.1
          have hr48 := Kd.N_take (m := ((rd t157 a1) : Int).toNat) HO156.out (by omega)
          have hy48 : y162.length = ((rd t157 a1) : Int).toNat := (by rw [Ny162.out, List.length_take]; omega)
          rw [← Ny162.out] at hr48
          rw [← hy48] at hr48 hcut48
          clear hy48 hi048 hsz48 HO156
          have HO164 := aM hr48
          clear hr48
          replace q48 := eq_true q48
          have q49 : ((ji34) : Int) ≤ ((t157.length : Int) : Int) := of_decide_eq_true (by first | (with_reducible assumption) | assumption)
          obtain ⟨i049, hi049, _, hsz49, _⟩ := info_parts info3
          have hcut49 := cut_to (P := Try.prog) 23 3 .i64 Try.underlying23 hi049 (some ad161) t157.length co44 (ji34) (of_decide_eq_true (by first | (with_reducible assumption) | assumption)) q49 (Kd.R_reads' HO159.out).2.1
          have hr49 := Kd.R_take (m := ((ji34) : Int).toNat) HO159.out (by omega)
          have hy49 : y165.length = ((ji34) : Int).toNat := (by rw [Ny165.out, List.length_take]; omega)
          rw [← Ny165.out] at hr49
          rw [← hy49] at hr49 hcut49
          clear hy49 hi049 hsz49 HO159
          have HO167 := aM hr49
          clear hr49
          replace q49 := eq_true q49
          refine start_ (n := 17) (S := fun w' => w'.cell? ⟨gb152, 0, none⟩ = some (.slice Ao42 t154.length co42) ∧ w'.cell? ⟨gb152, 1, none⟩ = some (.slice (some ad161) t157.length co44) ∧ w'.cell? (ad161.add (a1).toNat) = some (.int .i64 (rd t157 a1))) (ds := [14, 16]) #[F_,F_,F_,F_,F_,F_,F_,F_,F_,F_,F_,F_,F_,F_,F_,F_,F_] (by kernel_rfl) rfl rfl ⟨(kC BK152.out 0).trans rfl, (kC BK152.out 1).trans rfl, hx161_0⟩ (fun hHeld => ?_); refine with_tabW delta_Back.tab4 delta_Back.bits4 (fun HT_ HW_ => ?_)
          generalize w45.drew = w47 at HO0_0 BK152 BK153 HB HO164 HO167 hx161_0 hHeld ⊢
          refine pure_ (i := 0) (N := some 23) (v := ?_) (a' := ?_) #[T_,F_,F_,F_,F_,F_,F_,F_,F_,F_,F_,F_,F_,F_,F_,F_,F_] rfl rfl (any_of HT_.out (by kernel_rfl)) (fun _ _ _ h => h) (Or.inl ⟨by rfl, ?_⟩) ?_ ?_
          rotate_left
          ·
           intro w'
           go_simp
           with_reducible rfl
          rotate_left
          ·
           simp only [Act.put, List.setIfInBounds_toArray, List.set_cons_zero, List.set_cons_succ, i64_w, i32_w]
           rfl
          refine pure_ (i := 2) (N := some 25) (v := ?_) (a' := ?_) #[T_,F_,T_,F_,F_,F_,F_,F_,F_,F_,F_,F_,F_,F_,F_,F_,F_] rfl rfl (any_of HT_.out (by kernel_rfl)) (fun _ _ _ h => h) (Or.inl ⟨by rfl, ?_⟩) ?_ ?_
          rotate_left
          ·
           intro w'
           go_simp
           with_reducible rfl
          rotate_left
          ·
           simp only [Act.put, List.setIfInBounds_toArray, List.set_cons_zero, List.set_cons_succ, i64_w, i32_w]
           rfl
          refine pure_ (i := 4) (N := some 27) (v := ?_) (a' := ?_) #[T_,F_,T_,F_,T_,F_,F_,F_,F_,F_,F_,F_,F_,F_,F_,F_,F_] rfl rfl (any_of HT_.out (by kernel_rfl)) (fun _ _ _ h => h) (Or.inl ⟨by rfl, ?_⟩) ?_ ?_
          rotate_left
          ·
           intro w'
           go_simp
           with_reducible rfl
          rotate_left
          ·
           simp only [Act.put, List.setIfInBounds_toArray, List.set_cons_zero, List.set_cons_succ, i64_w, i32_w]
           rfl
          refine pure_ (i := 8) (N := some 31) (v := ?_) (a' := ?_) #[T_,F_,T_,F_,T_,F_,F_,F_,T_,F_,F_,F_,F_,F_,F_,F_,F_] rfl rfl (any_of HT_.out (by kernel_rfl)) (fun _ _ _ h => h) (Or.inl ⟨by rfl, ?_⟩) ?_ ?_
          rotate_left
          ·
           intro w'
           go_simp
           with_reducible rfl
          rotate_left
          ·
           simp only [Act.put, List.setIfInBounds_toArray, List.set_cons_zero, List.set_cons_succ, i64_w, i32_w]
           rfl
          refine pure_ (i := 10) (N := some 33) (v := ?_) (a' := ?_) #[T_,F_,T_,F_,T_,F_,F_,F_,T_,F_,T_,F_,F_,F_,F_,F_,F_] rfl rfl (any_of HT_.out (by kernel_rfl)) (fun _ _ _ h => h) (Or.inl ⟨by rfl, ?_⟩) ?_ ?_
          rotate_left
          ·
           intro w'
           go_simp
           with_reducible rfl
          rotate_left
          ·
           simp only [Act.put, List.setIfInBounds_toArray, List.set_cons_zero, List.set_cons_succ, i64_w, i32_w]
           rfl
          refine pure_ (i := 11) (N := some 34) (v := ?_) (a' := ?_) #[T_,F_,T_,F_,T_,F_,F_,F_,T_,F_,T_,T_,F_,F_,F_,F_,F_] rfl rfl (any_of HT_.out (by kernel_rfl)) (fun _ _ _ h => h) (Or.inl ⟨by rfl, ?_⟩) ?_ ?_
          rotate_left
          ·
           intro w'
           go_simp
           with_reducible rfl
          rotate_left
          ·
           simp only [Act.put, List.setIfInBounds_toArray, List.set_cons_zero, List.set_cons_succ, i64_w, i32_w]
           rfl
          refine take_ (i := 1) (N := some 24) (v := ?_) (a' := ?_) #[T_,T_,T_,F_,T_,F_,F_,F_,T_,F_,T_,T_,F_,F_,F_,F_,F_] rfl rfl (take_ofW HT_.out HW_.out (by kernel_rfl)) (fun _ _ _ h => h) (Or.inl ⟨by rfl, ?_⟩) hHeld ?_ ?_
          rotate_left
          ·
           rintro w' ⟨s0, s1, s2⟩
           go_simp
           with_reducible rfl
          rotate_left
          ·
           simp only [Act.put, List.setIfInBounds_toArray, List.set_cons_zero, List.set_cons_succ, i64_w, i32_w]
           rfl
          refine take_ (i := 3) (N := some 26) (v := ?_) (a' := ?_) #[T_,T_,T_,T_,T_,F_,F_,F_,T_,F_,T_,T_,F_,F_,F_,F_,F_] rfl rfl (take_ofW HT_.out HW_.out (by kernel_rfl)) (fun _ _ _ h => h) (Or.inl ⟨by rfl, ?_⟩) hHeld ?_ ?_
          rotate_left
          ·
           rintro w' ⟨s0, s1, s2⟩
           go_simp
           with_reducible rfl
          rotate_left
          ·
           simp only [Act.put, List.setIfInBounds_toArray, List.set_cons_zero, List.set_cons_succ, i64_w, i32_w]
           rfl
          refine pure_ (i := 5) (N := some 28) (v := ?_) (a' := ?_) #[T_,T_,T_,T_,T_,T_,F_,F_,T_,F_,T_,T_,F_,F_,F_,F_,F_] rfl rfl (any_of HT_.out (by kernel_rfl)) (fun _ _ _ h => h) (Or.inl ⟨by rfl, ?_⟩) ?_ ?_
          rotate_left
          ·
           intro w'
           go_simp
           with_reducible rfl
          rotate_left
          ·
           simp only [Act.put, List.setIfInBounds_toArray, List.set_cons_zero, List.set_cons_succ, i64_w, i32_w]
           rfl
          refine take_ (i := 6) (N := some 29) (v := ?_) (a' := ?_) #[T_,T_,T_,T_,T_,T_,T_,F_,T_,F_,T_,T_,F_,F_,F_,F_,F_] rfl rfl (take_ofW HT_.out HW_.out (by kernel_rfl)) (fun _ _ _ h => h) (Or.inl ⟨by rfl, ?_⟩) hHeld ?_ ?_
          rotate_left
          ·
           rintro w' ⟨s0, s1, s2⟩
           go_simp
           with_reducible rfl
          rotate_left
          ·
           simp only [Act.put, List.setIfInBounds_toArray, List.set_cons_zero, List.set_cons_succ, i64_w, i32_w]
           rfl
          refine pure_ (i := 7) (N := some 30) (v := ?_) (a' := ?_) #[T_,T_,T_,T_,T_,T_,T_,T_,T_,F_,T_,T_,F_,F_,F_,F_,F_] rfl rfl (any_of HT_.out (by kernel_rfl)) (fun _ _ _ h => h) (Or.inl ⟨by rfl, ?_⟩) ?_ ?_
          rotate_left
          ·
           intro w'
           go_simp
           with_reducible rfl
          rotate_left
          ·
           simp only [Act.put, List.setIfInBounds_toArray, List.set_cons_zero, List.set_cons_succ, i64_w, i32_w]
           rfl
          refine take_ (i := 9) (N := some 32) (v := ?_) (a' := ?_) #[T_,T_,T_,T_,T_,T_,T_,T_,T_,T_,T_,T_,F_,F_,F_,F_,F_] rfl rfl (take_ofW HT_.out HW_.out (by kernel_rfl)) (fun _ _ _ h => h) (Or.inl ⟨by rfl, ?_⟩) hHeld ?_ ?_
          rotate_left
          ·
           rintro w' ⟨s0, s1, s2⟩
           go_simp
           with_reducible rfl
          rotate_left
          ·
           simp only [Act.put, List.setIfInBounds_toArray, List.set_cons_zero, List.set_cons_succ, i64_w, i32_w]
           rfl
          refine pure_ (i := 12) (N := some 35) (v := ?_) (a' := ?_) #[T_,T_,T_,T_,T_,T_,T_,T_,T_,T_,T_,T_,T_,F_,F_,F_,F_] rfl rfl (any_of HT_.out (by kernel_rfl)) (fun _ _ _ h => h) (Or.inl ⟨by rfl, ?_⟩) ?_ ?_
          rotate_left
          ·
           intro w'
           go_simp
           with_reducible rfl
          rotate_left
          ·
           simp only [Act.put, List.setIfInBounds_toArray, List.set_cons_zero, List.set_cons_succ, i64_w, i32_w]
           rfl
          refine pure_ (i := 13) (N := some 36) (v := ?_) (a' := ?_) #[T_,T_,T_,T_,T_,T_,T_,T_,T_,T_,T_,T_,T_,T_,F_,F_,F_] rfl rfl (any_of HT_.out (by kernel_rfl)) (fun _ _ _ h => h) (Or.inl ⟨by rfl, ?_⟩) ?_ ?_
          rotate_left
          ·
           intro w'
           go_simp
           with_reducible rfl
          rotate_left
          ·
           simp only [Act.put, List.setIfInBounds_toArray, List.set_cons_zero, List.set_cons_succ, i64_w, i32_w]
           rfl
          refine last_ (i := 14) (N := none) #[T_,T_,T_,T_,T_,T_,T_,T_,T_,T_,T_,T_,T_,T_,T_,F_,F_] rfl rfl (one_of HT_.out (by kernel_rfl)) (by decide) (fun K hK => ?_)
          have hs50 : w47.cell? ⟨gb152, 0, none⟩ = some (.slice Ao42 t154.length co42) := (kC BK152.out 0).trans rfl
          have hfs50 := kF BK152.out 0
          have hns50_1 := NBq0.out
          have hms50_1 := NBq1.out
          refine skip_ (w1 := ?_) (by rfl) rfl ?_ ?_
          rotate_left
          ·
           go_simp
           rfl
          refine hK.out _ _ ?_
          clear hK K
          refine pure_ (i := 15) (N := some 37) (v := ?_) (a' := ?_) #[T_,T_,T_,T_,T_,T_,T_,T_,T_,T_,T_,T_,T_,T_,T_,T_,F_] rfl rfl (any_of HT_.out (by kernel_rfl)) (fun _ _ _ h => h) (Or.inl ⟨by rfl, ?_⟩) ?_ ?_
          rotate_left
          ·
           intro w'
           go_simp
           with_reducible rfl
          rotate_left
          ·
           simp only [Act.put, List.setIfInBounds_toArray, List.set_cons_zero, List.set_cons_succ, i64_w, i32_w]
           rfl
          refine last_ (i := 16) (N := none) #[T_,T_,T_,T_,T_,T_,T_,T_,T_,T_,T_,T_,T_,T_,T_,T_,T_] rfl rfl (one_of HT_.out (by kernel_rfl)) (by decide) (fun K hK => ?_)
          have hs51 : w47.cell? ⟨gb152, 1, none⟩ = some (.slice (some ad161) t157.length co44) := (kC BK152.out 1).trans rfl
          have hfs51 := kF BK152.out 1
          have hns51_1 := NBq0.out
          have hms51_1 := NBq1.out
          refine skip_ (w1 := ?_) (by rfl) rfl ?_ ?_
          rotate_left
          ·
           go_simp
           rfl
          refine hK.out _ _ ?_
          clear hK K
          refine done_ (done_of HT_.out (by kernel_rfl)) ?_
          have hcz52_0 : w47.cell? ⟨gb152, 0, none⟩ = some (.slice Ao42 t154.length co42) := (kC BK152.out 0).trans rfl
          have hcz52_1 : w47.cell? ⟨gb152, 1, none⟩ = some (.slice (some ad161) t157.length co44) := (kC BK152.out 1).trans rfl
          have hfz52_0 := kF BK152.out 0
          have hfz52_1 := kF BK152.out 1
          have hcz53_0 : w47.cell? ⟨gb153, 0, none⟩ = some (.slice none 0 0) := (kC BK153.out 0).trans rfl
          have hcz53_1 : w47.cell? ⟨gb153, 1, none⟩ = some (.slice none 0 0) := (kC BK153.out 1).trans rfl
          have hfz53_0 := kF BK153.out 0
          have hfz53_1 := kF BK153.out 1
          try go_wp2
          refine bodyPost_ret (results_ct rfl _ _ gb153 25 #[.slice Ao42 y162.length co42, .slice (some ad161) y165.length co44] (0, 0) _ rfl (by (with_reducible repeat (first | refine blk_drewN ?_ _ | refine blk_drew ?_ | refine blk_alloc ?_ _)); refine blk_put (cs := #[.slice Ao42 y162.length co42, .slice none 0 0]) ?_ 1 _ rfl; (with_reducible repeat (first | refine blk_drewN ?_ _ | refine blk_drew ?_ | refine blk_alloc ?_ _)); refine blk_put (cs := #[.slice none 0 0, .slice none 0 0]) ?_ 0 _ rfl; (with_reducible repeat (first | refine blk_drewN ?_ _ | refine blk_drew ?_ | refine blk_alloc ?_ _)); refine blk_far ?_ NBq0.out _; (with_reducible repeat (first | refine blk_drewN ?_ _ | refine blk_drew ?_ | refine blk_alloc ?_ _)); refine blk_far ?_ NBq0.out _; (with_reducible repeat (first | refine blk_drewN ?_ _ | refine blk_drew ?_ | refine blk_alloc ?_ _)); exact BK153.out) Try.underlying25 rfl (by kernel_rfl)) rfl ?_
          exact ⟨_, _, by first | rfl | (simp [errW_none, errW_some] <;> rfl) | (simp only [← hji34]; first | rfl | (simp [errW_none, errW_some] <;> rfl)) | (simp [*, errW_none, errW_some] <;> rfl), by (with_reducible repeat (first | apply Kd.N_alloc | apply Kd.N_drewN | apply Kd.N_drew)); exact Kd.N_mono (Kd.N_far (p := ⟨gb153, 1, none⟩) (Kd.N_far (p := ⟨gb153, 0, none⟩) (Kd.N_far (p := ⟨gb152, 1, none⟩) (Kd.N_far (p := ⟨gb152, 0, none⟩) (Kd.N_mono (Kd.N_mono HO164.out (fun k_ hk => (⟨hk, hk.2.2.1⟩ : _ ∧ k_ ≠ gb152))) (fun k_ hk => (⟨hk, hk.1.2.2.2⟩ : _ ∧ k_ ≠ gb153))) (fun _ hk => hk.1.2) (.slice Ao42 y162.length co42)) (fun _ hk => hk.1.2) (.slice (some ad161) y165.length co44)) (fun _ hk => hk.2) (.slice Ao42 y162.length co42)) (fun _ hk => hk.2) (.slice (some ad161) y165.length co44)) (fun _ hk => ⟨hk.1.1.1, hk.1.1.2.1⟩), by (with_reducible repeat (first | apply Kd.R_alloc | apply Kd.R_drewN | apply Kd.R_drew)); exact Kd.R_mono (Kd.R_far (p := ⟨gb153, 1, none⟩) (Kd.R_far (p := ⟨gb153, 0, none⟩) (Kd.R_far (p := ⟨gb152, 1, none⟩) (Kd.R_far (p := ⟨gb152, 0, none⟩) (Kd.R_types (Kd.R_types HO167.out BK152.out (by decide)) BK153.out (by decide)) (fun _ hk => hk.1.2) (.slice Ao42 y162.length co42)) (fun _ hk => hk.1.2) (.slice (some ad161) y165.length co44)) (fun _ hk => hk.2) (.slice Ao42 y162.length co42)) (fun _ hk => hk.2) (.slice (some ad161) y165.length co44)) (fun _ hk => hk.1.1.1), by repeat (first | (with_reducible first | exact HB.out | apply bA | apply bN | apply bD | refine bS ?_ GE152.out | refine bS ?_ GE153.out) | exact HB.out)⟩
         ·
          rw [if_neg c36] at H
          exact absurd H (by simp)
        ·
         rw [if_neg c35] at H
         exact absurd H (by simp)
       ·
        rw [if_neg c33] at H
        exact absurd H (by simp)
      ·
       rw [if_neg c32] at H
       exact absurd H (by simp)
     ·
      rw [if_neg c31] at H
      exact absurd H (by simp)
    ·
     rw [if_neg c30] at H
     exact absurd H (by simp)
 ·
  replace c5 := Bool.eq_false_iff.mpr c5
  subst c5
  have H1 : (some (t154, t157, 1)) = some (r1, r2, r3) := by rw [if_neg (show ¬ (false = true) by decide)] at H; exact H
  clear H
  have H := H1
  clear H1
  simp only [Option.some.injEq, Prod.mk.injEq] at H
  obtain ⟨rfl, rfl, rfl⟩ := H
  go_enter Try.func14, Try.ntmps14
  go_wp2_with (first | ((with_reducible refine gate_dst (N := 2) rfl ?_); (try (refine gate_guard (by rfl) ?_; dsimp only)); refine box_event ?hg (N := 2) ?hd (cs := #[.slice A0_0 l0_0.length c0_0, .slice A0_1 l0_1.length c0_1]) (t := 25) ?hr ?_; (case hd => rfl); (case hg => rfl); (case hr => first | (go_simp; done) | (go_simp; rfl)); intro gb152 hg w54 hbox hb; replace HO0_0 := aM (vB (vE (vU HO0_0.out) gb152 (Nat.le_of_eq hg.symm)) hb); have BK152 := aM (hbox); have GW152 := aM ((by rw [hg]; exact (below_size (by repeat (first | (with_reducible first | exact HB.out | apply bA | apply bN | apply bD) | exact HB.out))) : w.heap.size ≤ gb152)); have GE152 := aM ((by rw [hg]; exact (below_size (by repeat (first | (with_reducible first | exact HB.out | apply bA | apply bN | apply bD) | exact HB.out))) : w.heap.size ≤ gb152)); replace HB := aM (below_step (by repeat (first | (with_reducible first | exact HB.out | apply bA | apply bN | apply bD) | exact HB.out)) hb); clear hb hbox hg) | ((with_reducible refine gate_dst (N := 4) rfl ?_); (try (refine gate_guard (by rfl) ?_; dsimp only)); refine box_event ?hg (N := 4) ?hd (cs := #[.slice none 0 0, .slice none 0 0]) (t := 25) ?hr ?_; (case hd => rfl); (case hg => rfl); (case hr => first | (go_simp; done) | (go_simp; rfl)); intro gb153 hg w55 hbox hb; replace HO0_0 := aM (vB (vE (vU HO0_0.out) gb153 (Nat.le_of_eq hg.symm)) hb); have BK153 := aM (hbox); have GW153 := aM ((by rw [hg]; exact (below_size (by repeat (first | (with_reducible first | exact HB.out | apply bA | apply bN | apply bD | refine bS ?_ GE152.out) | exact HB.out))) : w.heap.size ≤ gb153)); have GE153 := aM ((by rw [hg]; exact (below_size (by repeat (first | (with_reducible first | exact HB.out | apply bA | apply bN | apply bD | refine bS ?_ GE152.out) | exact HB.out))) : w.heap.size ≤ gb153)); replace HB := aM (below_step (by repeat (first | (with_reducible first | exact HB.out | apply bA | apply bN | apply bD | refine bS ?_ GE152.out) | exact HB.out)) hb); have NBq1 := aM ((by rw [hg]; exact Nat.ne_of_lt (blk_lt (g := gb152) (o := .cells #[.slice A0_0 l0_0.length c0_0, .slice A0_1 l0_1.length c0_1] 25 (0, 0)) (bU BK152.out)) : gb152 ≠ gb153)); have NBq0 := aM ((by rw [hg]; exact Nat.ne_of_gt (blk_lt (g := gb152) (o := .cells #[.slice A0_0 l0_0.length c0_0, .slice A0_1 l0_1.length c0_1] 25 (0, 0)) (bU BK152.out)) : gb153 ≠ gb152)); replace BK152 := aM (kB (g := gb152) (o := .cells #[.slice A0_0 l0_0.length c0_0, .slice A0_1 l0_1.length c0_1] 25 (0, 0)) (bU BK152.out) hb); clear hb hbox hg; have hnb56 := NBq1.out; have hnc56 := NBq0.out; have hcz57_0 : w55.cell? ⟨gb152, 0, none⟩ = some (.slice A0_0 l0_0.length c0_0) := (kC BK152.out 0).trans rfl; have hcz57_1 : w55.cell? ⟨gb152, 1, none⟩ = some (.slice A0_1 l0_1.length c0_1) := (kC BK152.out 1).trans rfl; have hfz57_0 := kF BK152.out 0; have hfz57_1 := kF BK152.out 1) | ((with_reducible refine gate_callee (f := 29) rfl ?_); refine goesL_ (some 7) rfl rfl Try.func29 (by kernel_rfl) rfl #[.agg #[.slice A0_0 l0_0.length c0_0, .slice A0_1 l0_1.length c0_1]] rfl (by (try simp only [List.map_toArray, List.map_cons, List.map_nil]); first | done | rfl | (simp only [List.length_drop, List.length_take]; rfl)) ?_; (with_reducible refine (delta_own.calls (fun k_ => (((P0_0_ k_ ∨ w.heap.size ≤ k_) ∧ k_ ≠ gb152) ∧ k_ ≠ gb153)) _ _ l0_0 _ _ l0_1 t154 t157 _ ?side1 ?side2 ?side3 A3.out).mono ?_); (case side1 => exact HO0_0.out); (case side2 => repeat (first | exact (Kd.C_below HR0_1.out HB.out) | (with_reducible refine Kd.C_alloc ?_ _) | (with_reducible refine Kd.C_drewN ?_ _) | (with_reducible refine Kd.C_drew ?_))); (case side3 => exact HC0_1.out); rintro e w58 ⟨v155, v158, rfl, ho0, ho1, hb⟩; refine ⟨_, rfl, ?_⟩; replace HO0_0 := aM (Kd.V_mono (Kd.V_told (Kd.V_told (Kd.V_old (vU HO0_0.out) hb) (Kd.N_base ho0)) (Kd.R_base ho1)) (fun _ h_ => h_.1)); have HO156 := aM (Kd.N_lower (Kd.N_mono (ok' := fun k_ => (P0_0_ k_ ∨ w.heap.size ≤ k_) ∧ some k_ ≠ (v158 : Value).ownBlock ∧ k_ ≠ gb152 ∧ k_ ≠ gb153) ho0 (fun k_ hk_ => ⟨Or.elim hk_.1 (fun hs_ => hs_.1.1) (fun hn_ => (.inr (Nat.le_trans (below_size (by repeat (first | (with_reducible first | exact HB.out | apply bA | apply bN | apply bD | refine bS ?_ GE152.out | refine bS ?_ GE153.out) | exact HB.out))) hn_))), hk_.2, Or.elim hk_.1 (fun hs_ => hs_.1.2) (fun hn_ => (Kd.freshB (g := gb152) (o := .cells #[.slice A0_0 l0_0.length c0_0, .slice A0_1 l0_1.length c0_1] 25 (0, 0)) (bU BK152.out) k_ hn_)), Or.elim hk_.1 (fun hs_ => hs_.2) (fun hn_ => (Kd.freshB (g := gb153) (o := .cells #[.slice none 0 0, .slice none 0 0] 25 (0, 0)) (bU BK153.out) k_ hn_))⟩)) (below_size (by repeat (first | (with_reducible first | exact HB.out | apply bA | apply bN | apply bD | refine bS ?_ GE152.out | refine bS ?_ GE153.out) | exact HB.out)))); have HO159 := aM (Kd.R_lower (Kd.R_newM (M := fun k_ => (w.heap.size ≤ k_)) (Kd.R_mono (ok' := fun k_ => True) ho1 (fun _ hk_ => trivial)) (below_size (by repeat (first | (with_reducible first | exact HB.out | apply bA | apply bN | apply bD | refine bS ?_ GE152.out | refine bS ?_ GE153.out) | exact HB.out))) (fun k_ h_ => h_)) (below_size (by repeat (first | (with_reducible first | exact HB.out | apply bA | apply bN | apply bD | refine bS ?_ GE152.out | refine bS ?_ GE153.out) | exact HB.out)))); replace BK152 := aM (kB (g := gb152) (o := .cells #[.slice A0_0 l0_0.length c0_0, .slice A0_1 l0_1.length c0_1] 25 (0, 0)) (bU BK152.out) hb); replace BK153 := aM (kB (g := gb153) (o := .cells #[.slice none 0 0, .slice none 0 0] 25 (0, 0)) (bU BK153.out) hb); replace HB := aM (below_step (by repeat (first | (with_reducible first | exact HB.out | apply bA | apply bN | apply bD | refine bS ?_ GE152.out | refine bS ?_ GE153.out) | exact HB.out)) hb); (try clear hb); (try clear hk); (try clear ho1); obtain ⟨Ao59, co59, eo59⟩ := Kd.N_slice HO156.out; subst eo59; have hcz60_0 : w58.cell? ⟨gb152, 0, none⟩ = some (.slice A0_0 l0_0.length c0_0) := (kC BK152.out 0).trans rfl; have hcz60_1 : w58.cell? ⟨gb152, 1, none⟩ = some (.slice A0_1 l0_1.length c0_1) := (kC BK152.out 1).trans rfl; have hfz60_0 := kF BK152.out 0; have hfz60_1 := kF BK152.out 1; obtain ⟨Ao61, co61, eo61⟩ := Kd.R_slice HO159.out; subst eo61) | ((with_reducible refine gate_callee (f := 17) rfl ?_); refine goesL_ (some 9) rfl rfl Try.func17 (by kernel_rfl) rfl #[.agg #[.slice Ao59 t154.length co59, .slice Ao61 t157.length co61]] rfl (by (try simp only [List.map_toArray, List.map_cons, List.map_nil]); first | done | rfl | (simp only [List.length_drop, List.length_take]; rfl)) ?_; (with_reducible refine (delta_Check.calls _ _ t154 _ _ t157 false _ ?side1 ?side2 ?side3 ?side4 A4.out).mono ?_); (case side1 => refine (Kd.N_reads' (e := 28) (base := w.heap.size) (ok := fun k_ => ((P0_0_ k_ ∨ w.heap.size ≤ k_) ∧ (some k_ ≠ (.slice Ao61 t157.length co61 : Value).ownBlock ∧ (k_ ≠ gb152 ∧ k_ ≠ gb153)))) (n := t154.length) (c := co59) ?_).2.2; exact (by (with_reducible repeat (first | apply Kd.N_alloc | apply Kd.N_drewN | apply Kd.N_drew)); exact (Kd.N_mono (Kd.N_far (p := ⟨gb152, 1, none⟩) (Kd.N_far (p := ⟨gb152, 0, none⟩) (Kd.N_mono HO156.out (fun k_ hk => (⟨hk, hk.2.2.1⟩ : _ ∧ k_ ≠ gb152))) (fun _ hk => hk.2) (.slice Ao59 t154.length co59)) (fun _ hk => hk.2) (.slice Ao61 t157.length co61)) (fun _ h_ => h_.1)))); (case side2 => exact (Kd.N_reads' HO156.out).2.1); (case side3 => refine (Kd.R_reads' (e := 3) (base := w.heap.size) (ok := fun k_ => ((w.heap.size ≤ k_) ∧ True)) (n := t157.length) (c := co61) ?_).2.2; exact (by (with_reducible repeat (first | apply Kd.R_alloc | apply Kd.R_drewN | apply Kd.R_drew)); exact (Kd.R_mono (Kd.R_far (p := ⟨gb152, 1, none⟩) (Kd.R_far (p := ⟨gb152, 0, none⟩) (Kd.R_types HO159.out BK152.out (by decide)) (fun _ hk => hk.2) (.slice Ao59 t154.length co59)) (fun _ hk => hk.2) (.slice Ao61 t157.length co61)) (fun _ h_ => h_.1)))); (case side4 => exact (Kd.R_reads' HO159.out).2.1); rintro e w62 ⟨rfl, hb⟩; refine ⟨_, rfl, ?_⟩; replace HO0_0 := aM (vB (by (with_reducible repeat (first | apply Kd.V_alloc | apply Kd.V_drewN | apply Kd.V_drew)); exact (Kd.V_mono (Kd.V_far (p := ⟨gb152, 1, none⟩) (Kd.V_far (p := ⟨gb152, 0, none⟩) (Kd.V_mono HO0_0.out (fun k_ hk => (⟨hk, hk.1.1.1.2⟩ : _ ∧ k_ ≠ gb152))) (fun _ hk => hk.2) (.slice Ao59 t154.length co59)) (fun _ hk => hk.2) (.slice Ao61 t157.length co61)) (fun _ h_ => h_.1))) hb); replace HO156 := aM (Kd.N_below (by (with_reducible repeat (first | apply Kd.N_alloc | apply Kd.N_drewN | apply Kd.N_drew)); exact (Kd.N_mono (Kd.N_far (p := ⟨gb152, 1, none⟩) (Kd.N_far (p := ⟨gb152, 0, none⟩) (Kd.N_mono HO156.out (fun k_ hk => (⟨hk, hk.2.2.1⟩ : _ ∧ k_ ≠ gb152))) (fun _ hk => hk.2) (.slice Ao59 t154.length co59)) (fun _ hk => hk.2) (.slice Ao61 t157.length co61)) (fun _ h_ => h_.1))) hb); replace HO159 := aM (Kd.R_below (by (with_reducible repeat (first | apply Kd.R_alloc | apply Kd.R_drewN | apply Kd.R_drew)); exact (Kd.R_mono (Kd.R_far (p := ⟨gb152, 1, none⟩) (Kd.R_far (p := ⟨gb152, 0, none⟩) (Kd.R_types HO159.out BK152.out (by decide)) (fun _ hk => hk.2) (.slice Ao59 t154.length co59)) (fun _ hk => hk.2) (.slice Ao61 t157.length co61)) (fun _ h_ => h_.1))) hb); replace BK152 := aM (kB (g := gb152) (o := .cells #[.slice Ao59 t154.length co59, .slice Ao61 t157.length co61] 25 (0, 0)) (by (with_reducible repeat (first | refine blk_drewN ?_ _ | refine blk_drew ?_ | refine blk_alloc ?_ _)); refine blk_put (cs := #[.slice Ao59 t154.length co59, .slice A0_1 l0_1.length c0_1]) ?_ 1 _ rfl; (with_reducible repeat (first | refine blk_drewN ?_ _ | refine blk_drew ?_ | refine blk_alloc ?_ _)); refine blk_put (cs := #[.slice A0_0 l0_0.length c0_0, .slice A0_1 l0_1.length c0_1]) ?_ 0 _ rfl; (with_reducible repeat (first | refine blk_drewN ?_ _ | refine blk_drew ?_ | refine blk_alloc ?_ _)); exact BK152.out) hb); replace BK153 := aM (kB (g := gb153) (o := .cells #[.slice none 0 0, .slice none 0 0] 25 (0, 0)) (by (with_reducible repeat (first | refine blk_drewN ?_ _ | refine blk_drew ?_ | refine blk_alloc ?_ _)); refine blk_far ?_ NBq0.out _; (with_reducible repeat (first | refine blk_drewN ?_ _ | refine blk_drew ?_ | refine blk_alloc ?_ _)); refine blk_far ?_ NBq0.out _; (with_reducible repeat (first | refine blk_drewN ?_ _ | refine blk_drew ?_ | refine blk_alloc ?_ _)); exact BK153.out) hb); replace HB := aM (below_step (by repeat (first | (with_reducible first | exact HB.out | apply bA | apply bN | apply bD | refine bS ?_ GE152.out | refine bS ?_ GE153.out) | exact HB.out)) hb); (try clear hb); (try clear hb2); (try clear hk); (try clear hi); have hcz63_0 : w62.cell? ⟨gb152, 0, none⟩ = some (.slice Ao59 t154.length co59) := (kC BK152.out 0).trans rfl; have hcz63_1 : w62.cell? ⟨gb152, 1, none⟩ = some (.slice Ao61 t157.length co61) := (kC BK152.out 1).trans rfl; have hfz63_0 := kF BK152.out 0; have hfz63_1 := kF BK152.out 1; have hcz64_0 : w62.cell? ⟨gb153, 0, none⟩ = some (.slice none 0 0) := (kC BK153.out 0).trans rfl; have hcz64_1 : w62.cell? ⟨gb153, 1, none⟩ = some (.slice none 0 0) := (kC BK153.out 1).trans rfl; have hfz64_0 := kF BK153.out 0; have hfz64_1 := kF BK153.out 1))
  refine bodyPost_ret (results_ct rfl _ _ gb153 25 #[.slice Ao59 t154.length co59, .slice Ao61 t157.length co61] (0, 0) _ rfl (by (with_reducible repeat (first | refine blk_drewN ?_ _ | refine blk_drew ?_ | refine blk_alloc ?_ _)); refine blk_put (cs := #[.slice Ao59 t154.length co59, .slice none 0 0]) ?_ 1 _ rfl; (with_reducible repeat (first | refine blk_drewN ?_ _ | refine blk_drew ?_ | refine blk_alloc ?_ _)); refine blk_put (cs := #[.slice none 0 0, .slice none 0 0]) ?_ 0 _ rfl; (with_reducible repeat (first | refine blk_drewN ?_ _ | refine blk_drew ?_ | refine blk_alloc ?_ _)); exact BK153.out) Try.underlying25 rfl (by kernel_rfl)) rfl ?_
  exact ⟨_, _, by first | rfl | (simp [errW_none, errW_some] <;> rfl) | (simp [*, errW_none, errW_some] <;> rfl), by (with_reducible repeat (first | apply Kd.N_alloc | apply Kd.N_drewN | apply Kd.N_drew)); exact Kd.N_mono (Kd.N_far (p := ⟨gb153, 1, none⟩) (Kd.N_far (p := ⟨gb153, 0, none⟩) (Kd.N_mono HO156.out (fun k_ hk => (⟨hk, hk.2.2.2⟩ : _ ∧ k_ ≠ gb153))) (fun _ hk => hk.2) (.slice Ao59 t154.length co59)) (fun _ hk => hk.2) (.slice Ao61 t157.length co61)) (fun _ hk => ⟨hk.1.1, hk.1.2.1⟩), by (with_reducible repeat (first | apply Kd.R_alloc | apply Kd.R_drewN | apply Kd.R_drew)); exact Kd.R_mono (Kd.R_far (p := ⟨gb153, 1, none⟩) (Kd.R_far (p := ⟨gb153, 0, none⟩) (Kd.R_types HO159.out BK153.out (by decide)) (fun _ hk => hk.2) (.slice Ao59 t154.length co59)) (fun _ hk => hk.2) (.slice Ao61 t157.length co61)) (fun _ hk => hk.1.1), by repeat (first | (with_reducible first | exact HB.out | apply bA | apply bN | apply bD | refine bS ?_ GE152.out | refine bS ?_ GE153.out) | exact HB.out)⟩
end Go.Proofs.Ytbjeaalbdaedpaa.P
