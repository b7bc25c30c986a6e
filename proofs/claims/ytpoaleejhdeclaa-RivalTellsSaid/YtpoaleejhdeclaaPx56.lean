import Derived.Test.YtpoaleejhdeclaaPx0
import Derived.Test.YtpoaleejhdeclaaPx54
import Derived.Test.YtpoaleejhdeclaaPx1
import Derived.Test.YtpoaleejhdeclaaPx41
import Derived.Test.YtpoaleejhdeclaaPx46
namespace Go.Proofs.Ytpoaleejhdeclaa.P
open Go.RowKit Go.Proofs.YtpoaleejhdeclaaW.PrintWords Go.Proofs.YtpoaleejhdeclaaW.PrintLast Go.Proofs.YtpoaleejhdeclaaW.PrintMore
attribute [local go_sem] max2_int min2_int max_two min_two max_three min_three max_four min_four
set_option linter.unusedVariables false
set_option linter.unusedSimpArgs false
def banksmanref10_Same.l0 : Nat → List (S57) → List (S57) → Int → Option (Bool)
 | 0, _, _, _ => none
 | k + 1, x0, x1, x5 => if x5 < (x0.length : Int) then (if 0 ≤ x5 then (if x5 < (x1.length : Int) then ((banksmanref10_One.f ((rd_T57 x0 x5).f0) ((rd_T57 x0 x5).f1) ((rd_T57 x0 x5).f2) ((rd_T57 x0 x5).f3) ((rd_T57 x1 x5).f0) ((rd_T57 x1 x5).f1) ((rd_T57 x1 x5).f2) ((rd_T57 x1 x5).f3)).bind fun t314 => (if t314 = true then (banksmanref10_Same.l0 k x0 x1 (wrap64 (x5 + 1))) else (some false))) else (none)) else (none)) else (some true)
def banksmanref10_Same.f (k : Nat) (l0 : List (S57)) (l1 : List (S57)) : Option (Bool) := if (l0.length : Int) = (l1.length : Int) then (banksmanref10_Same.l0 k l0 l1 0) else (some false)
def banksmanref10_Same.T6 : Bool × List (List Nat × List Nat) := (true, [([], []), ([], []), ([0, 1], [0, 1]), ([2], [2]), ([], []), ([], []), ([4, 5], [4, 5]), ([6], [6]), ([3, 7], [3, 7]), ([8, 8, 0, 1, 2, 3, 4, 5, 6, 7, 8], [8])])
def banksmanref10_Same.B6 : List Nat := [0, 0, 3, 7, 0, 0, 48, 112, 255, 511]
theorem banksmanref10_Same.tab6 : rtab .any (opsOf Try.f47 6) = banksmanref10_Same.T6 := by kernel_rfl
theorem banksmanref10_Same.bits6 : waitsOk banksmanref10_Same.T6.2 banksmanref10_Same.B6 = true := by kernel_rfl
set_option maxHeartbeats 8000000 in
set_option maxRecDepth 100000 in
theorem banksmanref10_Same.calls (k : Nat) (A0 : Option Addr) (c0 : Nat) (l0 : List (S57)) (A1 : Option Addr) (c1 : Nat) (l1 : List (S57)) (r : Bool) (w : World) (hr0 : Kd.C k57 w A0 l0.length l0) (hc0 : l0.length ≤ c0) (hr1 : Kd.C k57 w A1 l1.length l1) (hc1 : l1.length ≤ c1) (h : banksmanref10_Same.f k l0 l1 = some r) :
   Calls Try.prog 47 #[.slice A0 l0.length c0, .slice A1 l1.length c1] w fun e w' => e = .returned (.bool r) ∧ Below w.heap.size w w' := by
 have hu57 := Try.underlying57
 have HR0 := m0_ hr0
 have HC0 := m0_ hc0
 clear hr0 hc0
 have HR1 := m0_ hr1
 have HC1 := m0_ hc1
 clear hr1 hc1
 have HB := m0_ (Below.refl w.heap.size w)
 have H : (if (l0.length : Int) = (l1.length : Int) then (banksmanref10_Same.l0 k l0 l1 0) else (some false)) = some r := h
 clear h
 by_cases c3 : (l0.length : Int) = (l1.length : Int)
 · rw [if_pos c3] at H
   have c3b0 : ((l0.length : Int) == (l1.length : Int)) = true := beq_iff_eq.mpr c3
   have c3b1 : ((l0.length : Int) != (l1.length : Int)) = false := bne_eq_false_iff_eq.mpr c3
   have c3b2 : (l0.length == l1.length) = true := by first | simpa using c3 | (simp at c3 ⊢; omega)
   clear c3
   have H' := m0_ H
   clear H
   go_enter Try.func47, Try.ntmps47
   go_wp2
   go_loopg [5] k (fun kq v5 w' => ∃ (x5_1 : Int), v5 = .int .i64 x5_1 ∧ Aside0 (banksmanref10_Same.l0 kq l0 l1 x5_1 = some r) ∧ Aside0 (kq ≤ k) ∧ Aside0 (Below w.heap.size w w'))
   case atStart => exact ⟨(0), (by first | rfl | (simp; done) | (simp [*]; done)), H', ⟨Nat.le_refl _⟩, ⟨by repeat (first | (with_reducible first | exact HB.out | apply bA_ | apply dN_ | apply b1_) | exact HB.out)⟩⟩
   case round =>
    clear H'
    try clear c1
    try clear p2
    try clear c3
    try clear c3b0
    try clear c3b1
    try clear c3b2
    obtain ⟨x5_1, rfl, HA, HK1, HB⟩ := hrel
    cases gk with
    | zero => exact absurd HA.out (by simp [banksmanref10_Same.l0])
    | succ k1 =>
     have H := HA.out
     clear HA
     simp only [banksmanref10_Same.l0] at H
     by_cases c4 : x5_1 < (l0.length : Int)
     · rw [if_pos c4] at H
       have c4b0 : decide (x5_1 < (l0.length : Int)) = true := decide_eq_true c4
       clear c4
       by_cases c5 : 0 ≤ x5_1
       · rw [if_pos c5] at H
         have c5b0 : decide (0 ≤ x5_1) = true := decide_eq_true c5
         clear c5
         by_cases c6 : x5_1 < (l1.length : Int)
         · rw [if_pos c6] at H
           have c6b0 : decide (x5_1 < (l1.length : Int)) = true := decide_eq_true c6
           clear c6
           replace H := Option.bind_eq_some_iff.mp H
           obtain ⟨t314, A70, H⟩ := H
           replace H : (if t314 = true then (banksmanref10_Same.l0 k1 l0 l1 (wrap64 (x5_1 + 1))) else (some false)) = some r := H
           have A7 := m0_ A70
           clear A70
           by_cases c8 : t314 = true
           · subst c8
             have H1 : (banksmanref10_Same.l0 k1 l0 l1 (wrap64 (x5_1 + 1))) = some r := by rw [if_pos rfl] at H; exact H
             clear H
             have H := H1
             clear H1
             have H' := m0_ H
             clear H
             try go_wp2
             have n0_ := m0_ (b1_ HB.out)
             clear HB
             have HB := n0_
             clear n0_
             have p312 : 0 ≤ (x5_1 : Int) := dT_
             have q312 : x5_1 < (l0.length : Int) := dT_
             obtain ⟨ad312, A312_1, c312_1, A312_2, c312_2, e312, hx312_0, hx312_1, hx312_2, hx312_3, hl312_1, hi312_1, hl312_2, hi312_2⟩ := at_T57 HR0.out x5_1 p312 q312
             have hw312_3 := hx312_3
             have hw312_2 := hx312_2
             have hw312_1 := hx312_1
             have hw312_0 := hx312_0
             cases e312
             replace hx312_0 := (HB.out.cell (bL_ w _ hx312_0)).trans hx312_0
             replace hx312_1 := (HB.out.cell (bL_ w _ hx312_1)).trans hx312_1
             replace hx312_2 := (HB.out.cell (bL_ w _ hx312_2)).trans hx312_2
             replace hx312_3 := (HB.out.cell (bL_ w _ hx312_3)).trans hx312_3
             have HR312_1 := m0_ hi312_1
             have HC312_1 := m0_ hl312_1
             clear hi312_1 hl312_1
             have HR312_2 := m0_ hi312_2
             have HC312_2 := m0_ hl312_2
             clear hi312_2 hl312_2
             replace p312 := eq_true p312
             replace q312 := eq_true q312
             have p313 : 0 ≤ (x5_1 : Int) := dT_
             have q313 : x5_1 < (l1.length : Int) := dT_
             obtain ⟨ad313, A313_1, c313_1, A313_2, c313_2, e313, hx313_0, hx313_1, hx313_2, hx313_3, hl313_1, hi313_1, hl313_2, hi313_2⟩ := at_T57 HR1.out x5_1 p313 q313
             have hw313_3 := hx313_3
             have hw313_2 := hx313_2
             have hw313_1 := hx313_1
             have hw313_0 := hx313_0
             cases e313
             replace hx313_0 := (HB.out.cell (bL_ w _ hx313_0)).trans hx313_0
             replace hx313_1 := (HB.out.cell (bL_ w _ hx313_1)).trans hx313_1
             replace hx313_2 := (HB.out.cell (bL_ w _ hx313_2)).trans hx313_2
             replace hx313_3 := (HB.out.cell (bL_ w _ hx313_3)).trans hx313_3
             have HR313_1 := m0_ hi313_1
             have HC313_1 := m0_ hl313_1
             clear hi313_1 hl313_1
             have HR313_2 := m0_ hi313_2
             have HC313_2 := m0_ hl313_2
             clear hi313_2 hl313_2
             replace p313 := eq_true p313
             replace q313 := eq_true q313
             refine start_ (n := 10) (S := fun w' => w'.cell? (ad312.add ((x5_1).toNat * 4)) = some (.int .i64 ((rd_T57 l0 x5_1).f0)) ∧ w'.cell? ⟨(ad312.add ((x5_1).toNat * 4)).block, (ad312.add ((x5_1).toNat * 4)).off + 1, none⟩ = some (.slice A312_1 ((rd_T57 l0 x5_1).f1).length c312_1) ∧ w'.cell? ⟨(ad312.add ((x5_1).toNat * 4)).block, (ad312.add ((x5_1).toNat * 4)).off + 2, none⟩ = some (.slice A312_2 ((rd_T57 l0 x5_1).f2).length c312_2) ∧ w'.cell? ⟨(ad312.add ((x5_1).toNat * 4)).block, (ad312.add ((x5_1).toNat * 4)).off + 3, none⟩ = some (.bool ((rd_T57 l0 x5_1).f3)) ∧ w'.cell? (ad313.add ((x5_1).toNat * 4)) = some (.int .i64 ((rd_T57 l1 x5_1).f0)) ∧ w'.cell? ⟨(ad313.add ((x5_1).toNat * 4)).block, (ad313.add ((x5_1).toNat * 4)).off + 1, none⟩ = some (.slice A313_1 ((rd_T57 l1 x5_1).f1).length c313_1) ∧ w'.cell? ⟨(ad313.add ((x5_1).toNat * 4)).block, (ad313.add ((x5_1).toNat * 4)).off + 2, none⟩ = some (.slice A313_2 ((rd_T57 l1 x5_1).f2).length c313_2) ∧ w'.cell? ⟨(ad313.add ((x5_1).toNat * 4)).block, (ad313.add ((x5_1).toNat * 4)).off + 3, none⟩ = some (.bool ((rd_T57 l1 x5_1).f3))) (ds := []) #[false, false, false, false, false, false, false, false, false, false] (by kernel_rfl) rfl rfl ⟨((HB.out.cell (bL_ w _ hw312_0)).trans hw312_0), ((HB.out.cell (bL_ w _ hw312_1)).trans hw312_1), ((HB.out.cell (bL_ w _ hw312_2)).trans hw312_2), ((HB.out.cell (bL_ w _ hw312_3)).trans hw312_3), ((HB.out.cell (bL_ w _ hw313_0)).trans hw313_0), ((HB.out.cell (bL_ w _ hw313_1)).trans hw313_1), ((HB.out.cell (bL_ w _ hw313_2)).trans hw313_2), ((HB.out.cell (bL_ w _ hw313_3)).trans hw313_3)⟩ (fun hHeld => ?_); refine with_tabW banksmanref10_Same.tab6 banksmanref10_Same.bits6 (fun HT_ HW_ => ?_)
             generalize wr.drew = w9 at HB HR312_1 HR312_2 HR313_1 HR313_2 hx312_0 hx312_1 hx312_2 hx312_3 hx313_0 hx313_1 hx313_2 hx313_3 hHeld ⊢
             refine pure_ (i := 0) (N := some 18) (v := ?_) (a' := ?_) #[true, false, false, false, false, false, false, false, false, false] rfl rfl (any_of HT_.out (by kernel_rfl)) (fun _ _ _ h => h) (Or.inl ⟨by rfl, ?_⟩) ?_ ?_
             rotate_left
             · intro w'
               go_simp
               with_reducible rfl
             rotate_left
             · simp only [Act.put, sI_, sZ_, sS_, i64_w, i32_w]
               rfl
             refine pure_ (i := 1) (N := some 19) (v := ?_) (a' := ?_) #[true, true, false, false, false, false, false, false, false, false] rfl rfl (any_of HT_.out (by kernel_rfl)) (fun _ _ _ h => h) (Or.inl ⟨by rfl, ?_⟩) ?_ ?_
             rotate_left
             · intro w'
               go_simp
               with_reducible rfl
             rotate_left
             · simp only [Act.put, sI_, sZ_, sS_, i64_w, i32_w]
               rfl
             refine pure_ (i := 2) (N := some 20) (v := ?_) (a' := ?_) #[true, true, true, false, false, false, false, false, false, false] rfl rfl (any_of HT_.out (by kernel_rfl)) (fun _ _ _ h => h) (Or.inl ⟨by rfl, ?_⟩) ?_ ?_
             rotate_left
             · intro w'
               go_simp
               with_reducible rfl
             rotate_left
             · simp only [Act.put, sI_, sZ_, sS_, i64_w, i32_w]
               rfl
             refine pure_ (i := 4) (N := some 22) (v := ?_) (a' := ?_) #[true, true, true, false, true, false, false, false, false, false] rfl rfl (any_of HT_.out (by kernel_rfl)) (fun _ _ _ h => h) (Or.inl ⟨by rfl, ?_⟩) ?_ ?_
             rotate_left
             · intro w'
               go_simp
               with_reducible rfl
             rotate_left
             · simp only [Act.put, sI_, sZ_, sS_, i64_w, i32_w]
               rfl
             refine pure_ (i := 5) (N := some 23) (v := ?_) (a' := ?_) #[true, true, true, false, true, true, false, false, false, false] rfl rfl (any_of HT_.out (by kernel_rfl)) (fun _ _ _ h => h) (Or.inl ⟨by rfl, ?_⟩) ?_ ?_
             rotate_left
             · intro w'
               go_simp
               with_reducible rfl
             rotate_left
             · simp only [Act.put, sI_, sZ_, sS_, i64_w, i32_w]
               rfl
             refine pure_ (i := 6) (N := some 24) (v := ?_) (a' := ?_) #[true, true, true, false, true, true, true, false, false, false] rfl rfl (any_of HT_.out (by kernel_rfl)) (fun _ _ _ h => h) (Or.inl ⟨by rfl, ?_⟩) ?_ ?_
             rotate_left
             · intro w'
               go_simp
               with_reducible rfl
             rotate_left
             · simp only [Act.put, sI_, sZ_, sS_, i64_w, i32_w]
               rfl
             refine take_ (i := 3) (N := some 21) (v := ?_) (a' := ?_) #[true, true, true, true, true, true, true, false, false, false] rfl rfl (take_ofW HT_.out HW_.out (by kernel_rfl)) (fun _ _ _ h => h) (Or.inl ⟨by rfl, ?_⟩) hHeld ?_ ?_
             rotate_left
             · rintro w' ⟨s0, s1, s2, s3, s4, s5, s6, s7⟩
               go_simp
               with_reducible rfl
             rotate_left
             · simp only [Act.put, sI_, sZ_, sS_, i64_w, i32_w]
               rfl
             refine take_ (i := 7) (N := some 25) (v := ?_) (a' := ?_) #[true, true, true, true, true, true, true, true, false, false] rfl rfl (take_ofW HT_.out HW_.out (by kernel_rfl)) (fun _ _ _ h => h) (Or.inl ⟨by rfl, ?_⟩) hHeld ?_ ?_
             rotate_left
             · rintro w' ⟨s0, s1, s2, s3, s4, s5, s6, s7⟩
               go_simp
               with_reducible rfl
             rotate_left
             · simp only [Act.put, sI_, sZ_, sS_, i64_w, i32_w]
               rfl
             refine one_ (i := 8) (N := some 26) #[true, true, true, true, true, true, true, true, true, false] rfl rfl (one_of HT_.out (by kernel_rfl)) (by decide) (fun K hK => ?_)
             refine goes_ Try.func57 (by kernel_rfl) rfl #[.agg #[.int .i64 ((rd_T57 l0 x5_1).f0), .slice A312_1 ((rd_T57 l0 x5_1).f1).length c312_1, .slice A312_2 ((rd_T57 l0 x5_1).f2).length c312_2, .bool ((rd_T57 l0 x5_1).f3)], .agg #[.int .i64 ((rd_T57 l1 x5_1).f0), .slice A313_1 ((rd_T57 l1 x5_1).f1).length c313_1, .slice A313_2 ((rd_T57 l1 x5_1).f2).length c313_2, .bool ((rd_T57 l1 x5_1).f3)]] (by rfl) rfl rfl (by (try simp only [mT_, mC_, mN_]); first | done | rfl | (simp only [lD_, lT_]; rfl)) ?_
             with_reducible refine (banksmanref10_One.calls ((rd_T57 l0 x5_1).f0) _ _ ((rd_T57 l0 x5_1).f1) _ _ ((rd_T57 l0 x5_1).f2) ((rd_T57 l0 x5_1).f3) ((rd_T57 l1 x5_1).f0) _ _ ((rd_T57 l1 x5_1).f1) _ _ ((rd_T57 l1 x5_1).f2) ((rd_T57 l1 x5_1).f3) true _ ?side1 ?side2 ?side3 ?side4 ?side5 ?side6 ?side7 ?side8 A7.out).mono ?_
             (case side1 => repeat (first | exact (kB_ HR312_1.out HB.out) | (with_reducible first | refine kA_ ?_ _ | refine kN_ ?_ _ | refine kD_ ?_)))
             (case side2 => exact HC312_1.out)
             (case side3 => repeat (first | exact (kB_ HR312_2.out HB.out) | (with_reducible first | refine kA_ ?_ _ | refine kN_ ?_ _ | refine kD_ ?_)))
             (case side4 => exact HC312_2.out)
             (case side5 => repeat (first | exact (kB_ HR313_1.out HB.out) | (with_reducible first | refine kA_ ?_ _ | refine kN_ ?_ _ | refine kD_ ?_)))
             (case side6 => exact HC313_1.out)
             (case side7 => repeat (first | exact (kB_ HR313_2.out HB.out) | (with_reducible first | refine kA_ ?_ _ | refine kN_ ?_ _ | refine kD_ ?_)))
             (case side8 => exact HC313_2.out)
             rintro e w10 ⟨rfl, hb⟩
             refine ⟨_, rfl, ?_⟩
             have n0_ := m0_ (below_step (by repeat (first | (with_reducible first | exact HB.out | apply bA_ | apply dN_ | apply b1_) | exact HB.out)) hb)
             clear HB
             have HB := n0_
             clear n0_
             (try clear hb)
             (try clear hb2)
             (try clear hk)
             (try clear hi)
             refine hK.out _ _ ⟨((HB.out.cell (bL_ w _ hw312_0)).trans hw312_0), ((HB.out.cell (bL_ w _ hw312_1)).trans hw312_1), ((HB.out.cell (bL_ w _ hw312_2)).trans hw312_2), ((HB.out.cell (bL_ w _ hw312_3)).trans hw312_3), ((HB.out.cell (bL_ w _ hw313_0)).trans hw313_0), ((HB.out.cell (bL_ w _ hw313_1)).trans hw313_1), ((HB.out.cell (bL_ w _ hw313_2)).trans hw313_2), ((HB.out.cell (bL_ w _ hw313_3)).trans hw313_3)⟩ (fun hHeld => ?_)
             clear hK K
             refine norm_ (a' := ?_) ?_ ?_
             rotate_left
             · show Act.put _ (some 26) _ = _
               simp only [Act.put, sI_, sZ_, sS_, i64_w, i32_w]
               rfl
             refine pure_ (i := 9) (N := some 6) (v := ?_) (a' := ?_) #[true, true, true, true, true, true, true, true, true, true] rfl rfl (any_of HT_.out (by kernel_rfl)) (fun _ _ _ h => h) (Or.inl ⟨by rfl, ?_⟩) ?_ ?_
             rotate_left
             · intro w'
               go_simp
               with_reducible rfl
             rotate_left
             · simp only [Act.put, sI_, sZ_, sS_, i64_w, i32_w]
               rfl
             refine done_ (done_of HT_.out (by kernel_rfl)) ?_
             try go_wp2
             go_roundg k1
             case measure => have := HK1.out; omega
             case rel => exact ⟨(wrap64 (x5_1 + 1)), (by first | rfl | (simp; done) | (simp [*]; done)), H', ⟨by have := HK1.out; omega⟩, ⟨by repeat (first | (with_reducible first | exact HB.out | apply bA_ | apply dN_ | apply b1_) | exact HB.out)⟩⟩
           · replace c8 := Bool.eq_false_iff.mpr c8
             subst c8
             have H1 : (some false) = some r := by rw [if_neg (show ¬ (false = true) by decide)] at H; exact H
             clear H
             have H := H1
             clear H1
             obtain rfl := sO_ H
             try go_wp2
             have n0_ := m0_ (b1_ HB.out)
             clear HB
             have HB := n0_
             clear n0_
             have p312 : 0 ≤ (x5_1 : Int) := dT_
             have q312 : x5_1 < (l0.length : Int) := dT_
             obtain ⟨ad312, A312_1, c312_1, A312_2, c312_2, e312, hx312_0, hx312_1, hx312_2, hx312_3, hl312_1, hi312_1, hl312_2, hi312_2⟩ := at_T57 HR0.out x5_1 p312 q312
             have hw312_3 := hx312_3
             have hw312_2 := hx312_2
             have hw312_1 := hx312_1
             have hw312_0 := hx312_0
             cases e312
             replace hx312_0 := (HB.out.cell (bL_ w _ hx312_0)).trans hx312_0
             replace hx312_1 := (HB.out.cell (bL_ w _ hx312_1)).trans hx312_1
             replace hx312_2 := (HB.out.cell (bL_ w _ hx312_2)).trans hx312_2
             replace hx312_3 := (HB.out.cell (bL_ w _ hx312_3)).trans hx312_3
             have HR312_1 := m0_ hi312_1
             have HC312_1 := m0_ hl312_1
             clear hi312_1 hl312_1
             have HR312_2 := m0_ hi312_2
             have HC312_2 := m0_ hl312_2
             clear hi312_2 hl312_2
             replace p312 := eq_true p312
             replace q312 := eq_true q312
             have p313 : 0 ≤ (x5_1 : Int) := dT_
             have q313 : x5_1 < (l1.length : Int) := dT_
             obtain ⟨ad313, A313_1, c313_1, A313_2, c313_2, e313, hx313_0, hx313_1, hx313_2, hx313_3, hl313_1, hi313_1, hl313_2, hi313_2⟩ := at_T57 HR1.out x5_1 p313 q313
             have hw313_3 := hx313_3
             have hw313_2 := hx313_2
             have hw313_1 := hx313_1
             have hw313_0 := hx313_0
             cases e313
             replace hx313_0 := (HB.out.cell (bL_ w _ hx313_0)).trans hx313_0
             replace hx313_1 := (HB.out.cell (bL_ w _ hx313_1)).trans hx313_1
             replace hx313_2 := (HB.out.cell (bL_ w _ hx313_2)).trans hx313_2
             replace hx313_3 := (HB.out.cell (bL_ w _ hx313_3)).trans hx313_3
             have HR313_1 := m0_ hi313_1
             have HC313_1 := m0_ hl313_1
             clear hi313_1 hl313_1
             have HR313_2 := m0_ hi313_2
             have HC313_2 := m0_ hl313_2
             clear hi313_2 hl313_2
             replace p313 := eq_true p313
             replace q313 := eq_true q313
             refine start_ (n := 10) (S := fun w' => w'.cell? (ad312.add ((x5_1).toNat * 4)) = some (.int .i64 ((rd_T57 l0 x5_1).f0)) ∧ w'.cell? ⟨(ad312.add ((x5_1).toNat * 4)).block, (ad312.add ((x5_1).toNat * 4)).off + 1, none⟩ = some (.slice A312_1 ((rd_T57 l0 x5_1).f1).length c312_1) ∧ w'.cell? ⟨(ad312.add ((x5_1).toNat * 4)).block, (ad312.add ((x5_1).toNat * 4)).off + 2, none⟩ = some (.slice A312_2 ((rd_T57 l0 x5_1).f2).length c312_2) ∧ w'.cell? ⟨(ad312.add ((x5_1).toNat * 4)).block, (ad312.add ((x5_1).toNat * 4)).off + 3, none⟩ = some (.bool ((rd_T57 l0 x5_1).f3)) ∧ w'.cell? (ad313.add ((x5_1).toNat * 4)) = some (.int .i64 ((rd_T57 l1 x5_1).f0)) ∧ w'.cell? ⟨(ad313.add ((x5_1).toNat * 4)).block, (ad313.add ((x5_1).toNat * 4)).off + 1, none⟩ = some (.slice A313_1 ((rd_T57 l1 x5_1).f1).length c313_1) ∧ w'.cell? ⟨(ad313.add ((x5_1).toNat * 4)).block, (ad313.add ((x5_1).toNat * 4)).off + 2, none⟩ = some (.slice A313_2 ((rd_T57 l1 x5_1).f2).length c313_2) ∧ w'.cell? ⟨(ad313.add ((x5_1).toNat * 4)).block, (ad313.add ((x5_1).toNat * 4)).off + 3, none⟩ = some (.bool ((rd_T57 l1 x5_1).f3))) (ds := []) #[false, false, false, false, false, false, false, false, false, false] (by kernel_rfl) rfl rfl ⟨((HB.out.cell (bL_ w _ hw312_0)).trans hw312_0), ((HB.out.cell (bL_ w _ hw312_1)).trans hw312_1), ((HB.out.cell (bL_ w _ hw312_2)).trans hw312_2), ((HB.out.cell (bL_ w _ hw312_3)).trans hw312_3), ((HB.out.cell (bL_ w _ hw313_0)).trans hw313_0), ((HB.out.cell (bL_ w _ hw313_1)).trans hw313_1), ((HB.out.cell (bL_ w _ hw313_2)).trans hw313_2), ((HB.out.cell (bL_ w _ hw313_3)).trans hw313_3)⟩ (fun hHeld => ?_); refine with_tabW banksmanref10_Same.tab6 banksmanref10_Same.bits6 (fun HT_ HW_ => ?_)
             generalize wr.drew = w11 at HB HR312_1 HR312_2 HR313_1 HR313_2 hx312_0 hx312_1 hx312_2 hx312_3 hx313_0 hx313_1 hx313_2 hx313_3 hHeld ⊢
             refine pure_ (i := 0) (N := some 18) (v := ?_) (a' := ?_) #[true, false, false, false, false, false, false, false, false, false] rfl rfl (any_of HT_.out (by kernel_rfl)) (fun _ _ _ h => h) (Or.inl ⟨by rfl, ?_⟩) ?_ ?_
             rotate_left
             · intro w'
               go_simp
               with_reducible rfl
             rotate_left
             · simp only [Act.put, sI_, sZ_, sS_, i64_w, i32_w]
               rfl
             refine pure_ (i := 1) (N := some 19) (v := ?_) (a' := ?_) #[true, true, false, false, false, false, false, false, false, false] rfl rfl (any_of HT_.out (by kernel_rfl)) (fun _ _ _ h => h) (Or.inl ⟨by rfl, ?_⟩) ?_ ?_
             rotate_left
             · intro w'
               go_simp
               with_reducible rfl
             rotate_left
             · simp only [Act.put, sI_, sZ_, sS_, i64_w, i32_w]
               rfl
             refine pure_ (i := 2) (N := some 20) (v := ?_) (a' := ?_) #[true, true, true, false, false, false, false, false, false, false] rfl rfl (any_of HT_.out (by kernel_rfl)) (fun _ _ _ h => h) (Or.inl ⟨by rfl, ?_⟩) ?_ ?_
             rotate_left
             · intro w'
               go_simp
               with_reducible rfl
             rotate_left
             · simp only [Act.put, sI_, sZ_, sS_, i64_w, i32_w]
               rfl
             refine pure_ (i := 4) (N := some 22) (v := ?_) (a' := ?_) #[true, true, true, false, true, false, false, false, false, false] rfl rfl (any_of HT_.out (by kernel_rfl)) (fun _ _ _ h => h) (Or.inl ⟨by rfl, ?_⟩) ?_ ?_
             rotate_left
             · intro w'
               go_simp
               with_reducible rfl
             rotate_left
             · simp only [Act.put, sI_, sZ_, sS_, i64_w, i32_w]
               rfl
             refine pure_ (i := 5) (N := some 23) (v := ?_) (a' := ?_) #[true, true, true, false, true, true, false, false, false, false] rfl rfl (any_of HT_.out (by kernel_rfl)) (fun _ _ _ h => h) (Or.inl ⟨by rfl, ?_⟩) ?_ ?_
             rotate_left
             · intro w'
               go_simp
               with_reducible rfl
             rotate_left
             · simp only [Act.put, sI_, sZ_, sS_, i64_w, i32_w]
               rfl
             refine pure_ (i := 6) (N := some 24) (v := ?_) (a' := ?_) #[true, true, true, false, true, true, true, false, false, false] rfl rfl (any_of HT_.out (by kernel_rfl)) (fun _ _ _ h => h) (Or.inl ⟨by rfl, ?_⟩) ?_ ?_
             rotate_left
             · intro w'
               go_simp
               with_reducible rfl
             rotate_left
             · simp only [Act.put, sI_, sZ_, sS_, i64_w, i32_w]
               rfl
             refine take_ (i := 3) (N := some 21) (v := ?_) (a' := ?_) #[true, true, true, true, true, true, true, false, false, false] rfl rfl (take_ofW HT_.out HW_.out (by kernel_rfl)) (fun _ _ _ h => h) (Or.inl ⟨by rfl, ?_⟩) hHeld ?_ ?_
             rotate_left
             · rintro w' ⟨s0, s1, s2, s3, s4, s5, s6, s7⟩
               go_simp
               with_reducible rfl
             rotate_left
             · simp only [Act.put, sI_, sZ_, sS_, i64_w, i32_w]
               rfl
             refine take_ (i := 7) (N := some 25) (v := ?_) (a' := ?_) #[true, true, true, true, true, true, true, true, false, false] rfl rfl (take_ofW HT_.out HW_.out (by kernel_rfl)) (fun _ _ _ h => h) (Or.inl ⟨by rfl, ?_⟩) hHeld ?_ ?_
             rotate_left
             · rintro w' ⟨s0, s1, s2, s3, s4, s5, s6, s7⟩
               go_simp
               with_reducible rfl
             rotate_left
             · simp only [Act.put, sI_, sZ_, sS_, i64_w, i32_w]
               rfl
             refine one_ (i := 8) (N := some 26) #[true, true, true, true, true, true, true, true, true, false] rfl rfl (one_of HT_.out (by kernel_rfl)) (by decide) (fun K hK => ?_)
             refine goes_ Try.func57 (by kernel_rfl) rfl #[.agg #[.int .i64 ((rd_T57 l0 x5_1).f0), .slice A312_1 ((rd_T57 l0 x5_1).f1).length c312_1, .slice A312_2 ((rd_T57 l0 x5_1).f2).length c312_2, .bool ((rd_T57 l0 x5_1).f3)], .agg #[.int .i64 ((rd_T57 l1 x5_1).f0), .slice A313_1 ((rd_T57 l1 x5_1).f1).length c313_1, .slice A313_2 ((rd_T57 l1 x5_1).f2).length c313_2, .bool ((rd_T57 l1 x5_1).f3)]] (by rfl) rfl rfl (by (try simp only [mT_, mC_, mN_]); first | done | rfl | (simp only [lD_, lT_]; rfl)) ?_
             with_reducible refine (banksmanref10_One.calls ((rd_T57 l0 x5_1).f0) _ _ ((rd_T57 l0 x5_1).f1) _ _ ((rd_T57 l0 x5_1).f2) ((rd_T57 l0 x5_1).f3) ((rd_T57 l1 x5_1).f0) _ _ ((rd_T57 l1 x5_1).f1) _ _ ((rd_T57 l1 x5_1).f2) ((rd_T57 l1 x5_1).f3) false _ ?side1 ?side2 ?side3 ?side4 ?side5 ?side6 ?side7 ?side8 A7.out).mono ?_
             (case side1 => repeat (first | exact (kB_ HR312_1.out HB.out) | (with_reducible first | refine kA_ ?_ _ | refine kN_ ?_ _ | refine kD_ ?_)))
             (case side2 => exact HC312_1.out)
             (case side3 => repeat (first | exact (kB_ HR312_2.out HB.out) | (with_reducible first | refine kA_ ?_ _ | refine kN_ ?_ _ | refine kD_ ?_)))
             (case side4 => exact HC312_2.out)
             (case side5 => repeat (first | exact (kB_ HR313_1.out HB.out) | (with_reducible first | refine kA_ ?_ _ | refine kN_ ?_ _ | refine kD_ ?_)))
             (case side6 => exact HC313_1.out)
             (case side7 => repeat (first | exact (kB_ HR313_2.out HB.out) | (with_reducible first | refine kA_ ?_ _ | refine kN_ ?_ _ | refine kD_ ?_)))
             (case side8 => exact HC313_2.out)
             rintro e w12 ⟨rfl, hb⟩
             refine ⟨_, rfl, ?_⟩
             have n0_ := m0_ (below_step (by repeat (first | (with_reducible first | exact HB.out | apply bA_ | apply dN_ | apply b1_) | exact HB.out)) hb)
             clear HB
             have HB := n0_
             clear n0_
             (try clear hb)
             (try clear hb2)
             (try clear hk)
             (try clear hi)
             refine hK.out _ _ ⟨((HB.out.cell (bL_ w _ hw312_0)).trans hw312_0), ((HB.out.cell (bL_ w _ hw312_1)).trans hw312_1), ((HB.out.cell (bL_ w _ hw312_2)).trans hw312_2), ((HB.out.cell (bL_ w _ hw312_3)).trans hw312_3), ((HB.out.cell (bL_ w _ hw313_0)).trans hw313_0), ((HB.out.cell (bL_ w _ hw313_1)).trans hw313_1), ((HB.out.cell (bL_ w _ hw313_2)).trans hw313_2), ((HB.out.cell (bL_ w _ hw313_3)).trans hw313_3)⟩ (fun hHeld => ?_)
             clear hK K
             refine norm_ (a' := ?_) ?_ ?_
             rotate_left
             · show Act.put _ (some 26) _ = _
               simp only [Act.put, sI_, sZ_, sS_, i64_w, i32_w]
               rfl
             refine pure_ (i := 9) (N := some 6) (v := ?_) (a' := ?_) #[true, true, true, true, true, true, true, true, true, true] rfl rfl (any_of HT_.out (by kernel_rfl)) (fun _ _ _ h => h) (Or.inl ⟨by rfl, ?_⟩) ?_ ?_
             rotate_left
             · intro w'
               go_simp
               with_reducible rfl
             rotate_left
             · simp only [Act.put, sI_, sZ_, sS_, i64_w, i32_w]
               rfl
             refine done_ (done_of HT_.out (by kernel_rfl)) ?_
             try go_wp2
             go_ret
             exact ⟨by first | rfl | (simp [errW_none, errW_some] <;> rfl) | (simp [*, errW_none, errW_some] <;> rfl), by repeat (first | (with_reducible first | exact HB.out | apply bA_ | apply dN_ | apply b1_) | exact HB.out)⟩
         · rw [if_neg c6] at H
           exact absurd H (by simp)
       · rw [if_neg c5] at H
         exact absurd H (by simp)
     · rw [if_neg c4] at H
       have c4b0 : decide (x5_1 < (l0.length : Int)) = false := decide_eq_false c4
       clear c4
       obtain rfl := sO_ H
       go_wp2
       go_ret
       exact ⟨by first | rfl | (simp [errW_none, errW_some] <;> rfl) | (simp [*, errW_none, errW_some] <;> rfl), by repeat (first | (with_reducible first | exact HB.out | apply bA_ | apply dN_ | apply b1_) | exact HB.out)⟩
 · rw [if_neg c3] at H
   have c3b0 : ((l0.length : Int) == (l1.length : Int)) = false := beq_eq_false_iff_ne.mpr c3
   have c3b1 : ((l0.length : Int) != (l1.length : Int)) = true := bne_iff_ne.mpr c3
   have c3b2 : (l0.length == l1.length) = false := by first | simpa using c3 | (simp at c3 ⊢; omega)
   obtain rfl := sO_ H
   go_enter Try.func47, Try.ntmps47
   go_wp2
   go_ret
   exact ⟨by first | rfl | (simp [errW_none, errW_some] <;> rfl) | (simp [*, errW_none, errW_some] <;> rfl), by repeat (first | (with_reducible first | exact HB.out | apply bA_ | apply dN_ | apply b1_) | exact HB.out)⟩
def banksmanref08_Writes.l0 : Nat → List (S59) → List (S59) → Int → Option (Bool)
 | 0, _, _, _ => none
 | k + 1, x0, x1, x5 => if x5 < (x0.length : Int) then (if 0 ≤ x5 then (if x5 < (x1.length : Int) then (if ((rd_T59 x0 x5).f0) = ((rd_T59 x1 x5).f0) then (if (strOfNums ((rd_T59 x0 x5).f1)).toList = (strOfNums ((rd_T59 x1 x5).f1)).toList then (if (((rd_T59 x0 x5).f2) != ((rd_T59 x1 x5).f2)) = true then (some false) else (if (strOfNums ((rd_T59 x0 x5).f3)).toList = (strOfNums ((rd_T59 x1 x5).f3)).toList then (banksmanref08_Writes.l0 k x0 x1 (wrap64 (x5 + 1))) else (some false))) else (some false)) else (some false)) else (none)) else (none)) else (some true)
def banksmanref08_Writes.f (k : Nat) (l0 : List (S59)) (l1 : List (S59)) : Option (Bool) := if (l0.length : Int) = (l1.length : Int) then (banksmanref08_Writes.l0 k l0 l1 0) else (some false)
set_option maxHeartbeats 8000000 in
set_option maxRecDepth 100000 in
theorem banksmanref08_Writes.calls (k : Nat) (A0 : Option Addr) (c0 : Nat) (l0 : List (S59)) (A1 : Option Addr) (c1 : Nat) (l1 : List (S59)) (r : Bool) (w : World) (hr0 : Kd.C k59 w A0 l0.length l0) (hc0 : l0.length ≤ c0) (hr1 : Kd.C k59 w A1 l1.length l1) (hc1 : l1.length ≤ c1) (h : banksmanref08_Writes.f k l0 l1 = some r) :
   Calls Try.prog 48 #[.slice A0 l0.length c0, .slice A1 l1.length c1] w fun e w' => e = .returned (.bool r) ∧ Drawn0 w w' := by
 have HR0 := m0_ hr0
 have HC0 := m0_ hc0
 clear hr0 hc0
 have HR1 := m0_ hr1
 have HC1 := m0_ hc1
 clear hr1 hc1
 have H : (if (l0.length : Int) = (l1.length : Int) then (banksmanref08_Writes.l0 k l0 l1 0) else (some false)) = some r := h
 clear h
 by_cases c3 : (l0.length : Int) = (l1.length : Int)
 · rw [if_pos c3] at H
   have c3b0 : ((l0.length : Int) == (l1.length : Int)) = true := beq_iff_eq.mpr c3
   have c3b1 : ((l0.length : Int) != (l1.length : Int)) = false := bne_eq_false_iff_eq.mpr c3
   have c3b2 : (l0.length == l1.length) = true := by first | simpa using c3 | (simp at c3 ⊢; omega)
   clear c3
   have H' := m0_ H
   clear H
   go_enter Try.func48, Try.ntmps48
   go_wp2
   repeat (go_quiet (fail); try go_wp2)
   go_loopg [5] k (fun kq v5 w' => ∃ (x5_1 : Int), v5 = .int .i64 x5_1 ∧ Aside0 (banksmanref08_Writes.l0 kq l0 l1 x5_1 = some r) ∧ Aside0 (kq ≤ k) ∧ Drawn0 w w')
   case atStart => exact ⟨(0), (by first | rfl | (simp; done) | (simp [*]; done)), H', ⟨Nat.le_refl _⟩, by repeat (first | exact Drawn0.refl _ | apply Drawn0.step)⟩
   case round =>
    clear H'
    try clear c1
    try clear p2
    try clear c3
    try clear c3b0
    try clear c3b1
    try clear c3b2
    obtain ⟨x5_1, rfl, HA, HK1, ⟨m1, rfl⟩⟩ := hrel
    cases gk with
    | zero => exact absurd HA.out (by simp [banksmanref08_Writes.l0])
    | succ k1 =>
     have H := HA.out
     clear HA
     simp only [banksmanref08_Writes.l0] at H
     by_cases c4 : x5_1 < (l0.length : Int)
     · rw [if_pos c4] at H
       have c4b0 : decide (x5_1 < (l0.length : Int)) = true := decide_eq_true c4
       clear c4
       by_cases c5 : 0 ≤ x5_1
       · rw [if_pos c5] at H
         have c5b0 : decide (0 ≤ x5_1) = true := decide_eq_true c5
         clear c5
         by_cases c6 : x5_1 < (l1.length : Int)
         · rw [if_pos c6] at H
           have c6b0 : decide (x5_1 < (l1.length : Int)) = true := decide_eq_true c6
           clear c6
           by_cases c7 : ((rd_T59 l0 x5_1).f0) = ((rd_T59 l1 x5_1).f0)
           · rw [if_pos c7] at H
             have c7b0 : (((rd_T59 l0 x5_1).f0) == ((rd_T59 l1 x5_1).f0)) = true := beq_iff_eq.mpr c7
             have c7b1 : (((rd_T59 l0 x5_1).f0) != ((rd_T59 l1 x5_1).f0)) = false := bne_eq_false_iff_eq.mpr c7
             clear c7
             by_cases c8 : (strOfNums ((rd_T59 l0 x5_1).f1)).toList = (strOfNums ((rd_T59 l1 x5_1).f1)).toList
             · rw [if_pos c8] at H
               have c8b0 : ((strOfNums ((rd_T59 l0 x5_1).f1)).toList == (strOfNums ((rd_T59 l1 x5_1).f1)).toList) = true := beq_iff_eq.mpr c8
               have c8b1 : ((strOfNums ((rd_T59 l0 x5_1).f1)).toList != (strOfNums ((rd_T59 l1 x5_1).f1)).toList) = false := bne_eq_false_iff_eq.mpr c8
               clear c8
               by_cases c9 : (((rd_T59 l0 x5_1).f2) != ((rd_T59 l1 x5_1).f2)) = true
               · rw [if_pos c9] at H
                 have c9b0 : (((rd_T59 l0 x5_1).f2) != ((rd_T59 l1 x5_1).f2)) = true := c9
                 (try (have c9b1 : decide (((rd_T59 l0 x5_1).f2) = ((rd_T59 l1 x5_1).f2)) = false := by simpa using c9))
                 (try (have c9b2 : (((rd_T59 l0 x5_1).f2) == ((rd_T59 l1 x5_1).f2)) = false := by simpa using c9))
                 (try (have c9b3 : ¬ (((rd_T59 l0 x5_1).f2) = ((rd_T59 l1 x5_1).f2)) := by simpa using c9))
                 clear c9
                 obtain rfl := sO_ H
                 have p315 : 0 ≤ (x5_1 : Int) := dT_
                 have q315 : x5_1 < (l0.length : Int) := dT_
                 obtain ⟨ad315, A315_1, c315_1, A315_3, c315_3, e315, hx315_0, hx315_1, hx315_2, hx315_3, hl315_1, hi315_1, hl315_3, hi315_3⟩ := at_T59 HR0.out x5_1 p315 q315
                 cases e315
                 have HR315_1 := m0_ hi315_1
                 have HC315_1 := m0_ hl315_1
                 clear hi315_1 hl315_1
                 have HR315_3 := m0_ hi315_3
                 have HC315_3 := m0_ hl315_3
                 clear hi315_3 hl315_3
                 replace p315 := eq_true p315
                 replace q315 := eq_true q315
                 have p316 : 0 ≤ (x5_1 : Int) := dT_
                 have q316 : x5_1 < (l1.length : Int) := dT_
                 obtain ⟨ad316, A316_1, c316_1, A316_3, c316_3, e316, hx316_0, hx316_1, hx316_2, hx316_3, hl316_1, hi316_1, hl316_3, hi316_3⟩ := at_T59 HR1.out x5_1 p316 q316
                 cases e316
                 have HR316_1 := m0_ hi316_1
                 have HC316_1 := m0_ hl316_1
                 clear hi316_1 hl316_1
                 have HR316_3 := m0_ hi316_3
                 have HC316_3 := m0_ hl316_3
                 clear hi316_3 hl316_3
                 replace p316 := eq_true p316
                 replace q316 := eq_true q316
                 have p317 : 0 ≤ (x5_1 : Int) := dT_
                 have q317 : x5_1 < (l0.length : Int) := dT_
                 obtain ⟨ad317, A317_1, c317_1, A317_3, c317_3, e317, hx317_0, hx317_1, hx317_2, hx317_3, hl317_1, hi317_1, hl317_3, hi317_3⟩ := at_T59 HR0.out x5_1 p317 q317
                 obtain rfl : ad315 = ad317 := (by injection e317)
                 have HR317_1 := m0_ hi317_1
                 have HC317_1 := m0_ hl317_1
                 clear hi317_1 hl317_1
                 have HR317_3 := m0_ hi317_3
                 have HC317_3 := m0_ hl317_3
                 clear hi317_3 hl317_3
                 replace p317 := eq_true p317
                 replace q317 := eq_true q317
                 have ea_ := sO_ (hx315_1.symm.trans hx317_1)
                 injection ea_ with ea_ en_ ec_
                 subst ea_
                 subst ec_
                 clear en_
                 have ea_ := sO_ (hx315_3.symm.trans hx317_3)
                 injection ea_ with ea_ en_ ec_
                 subst ea_
                 subst ec_
                 clear en_
                 have hcv10 := Kd.C_string (P := Try.prog) (A := A315_1) (c := c315_1) Try.underlying55 Try.underlying5 Try.underlying9 HR317_1.out; have hcv10q := fun n_ => Kd.C_string (P := Try.prog) (A := A315_1) (c := c315_1) Try.underlying55 Try.underlying5 Try.underlying9 (kN_ HR317_1.out n_)
                 have p318 : 0 ≤ (x5_1 : Int) := dT_
                 have q318 : x5_1 < (l1.length : Int) := dT_
                 obtain ⟨ad318, A318_1, c318_1, A318_3, c318_3, e318, hx318_0, hx318_1, hx318_2, hx318_3, hl318_1, hi318_1, hl318_3, hi318_3⟩ := at_T59 HR1.out x5_1 p318 q318
                 obtain rfl : ad316 = ad318 := (by injection e318)
                 have HR318_1 := m0_ hi318_1
                 have HC318_1 := m0_ hl318_1
                 clear hi318_1 hl318_1
                 have HR318_3 := m0_ hi318_3
                 have HC318_3 := m0_ hl318_3
                 clear hi318_3 hl318_3
                 replace p318 := eq_true p318
                 replace q318 := eq_true q318
                 have ea_ := sO_ (hx316_1.symm.trans hx318_1)
                 injection ea_ with ea_ en_ ec_
                 subst ea_
                 subst ec_
                 clear en_
                 have ea_ := sO_ (hx316_3.symm.trans hx318_3)
                 injection ea_ with ea_ en_ ec_
                 subst ea_
                 subst ec_
                 clear en_
                 have hcv11 := Kd.C_string (P := Try.prog) (A := A316_1) (c := c316_1) Try.underlying55 Try.underlying5 Try.underlying9 HR318_1.out; have hcv11q := fun n_ => Kd.C_string (P := Try.prog) (A := A316_1) (c := c316_1) Try.underlying55 Try.underlying5 Try.underlying9 (kN_ HR318_1.out n_)
                 have p319 : 0 ≤ (x5_1 : Int) := dT_
                 have q319 : x5_1 < (l0.length : Int) := dT_
                 obtain ⟨ad319, A319_1, c319_1, A319_3, c319_3, e319, hx319_0, hx319_1, hx319_2, hx319_3, hl319_1, hi319_1, hl319_3, hi319_3⟩ := at_T59 HR0.out x5_1 p319 q319
                 obtain rfl : ad315 = ad319 := (by injection e319)
                 have HR319_1 := m0_ hi319_1
                 have HC319_1 := m0_ hl319_1
                 clear hi319_1 hl319_1
                 have HR319_3 := m0_ hi319_3
                 have HC319_3 := m0_ hl319_3
                 clear hi319_3 hl319_3
                 replace p319 := eq_true p319
                 replace q319 := eq_true q319
                 have ea_ := sO_ (hx315_1.symm.trans hx319_1)
                 injection ea_ with ea_ en_ ec_
                 subst ea_
                 subst ec_
                 clear en_
                 have ea_ := sO_ (hx315_3.symm.trans hx319_3)
                 injection ea_ with ea_ en_ ec_
                 subst ea_
                 subst ec_
                 clear en_
                 have p320 : 0 ≤ (x5_1 : Int) := dT_
                 have q320 : x5_1 < (l1.length : Int) := dT_
                 obtain ⟨ad320, A320_1, c320_1, A320_3, c320_3, e320, hx320_0, hx320_1, hx320_2, hx320_3, hl320_1, hi320_1, hl320_3, hi320_3⟩ := at_T59 HR1.out x5_1 p320 q320
                 obtain rfl : ad316 = ad320 := (by injection e320)
                 have HR320_1 := m0_ hi320_1
                 have HC320_1 := m0_ hl320_1
                 clear hi320_1 hl320_1
                 have HR320_3 := m0_ hi320_3
                 have HC320_3 := m0_ hl320_3
                 clear hi320_3 hl320_3
                 replace p320 := eq_true p320
                 replace q320 := eq_true q320
                 have ea_ := sO_ (hx316_1.symm.trans hx320_1)
                 injection ea_ with ea_ en_ ec_
                 subst ea_
                 subst ec_
                 clear en_
                 have ea_ := sO_ (hx316_3.symm.trans hx320_3)
                 injection ea_ with ea_ en_ ec_
                 subst ea_
                 subst ec_
                 clear en_
                 go_wp2
                 repeat (go_quiet (fail); try go_wp2)
                 go_ret
                 exact ⟨by first | rfl | (simp; done) | (simp [*]; done), by repeat (first | exact Drawn0.refl _ | apply Drawn0.step)⟩
               · rw [if_neg c9] at H
                 have c9b0 : (((rd_T59 l0 x5_1).f2) != ((rd_T59 l1 x5_1).f2)) = false := by simpa using c9
                 (try (have c9b1 : decide (((rd_T59 l0 x5_1).f2) = ((rd_T59 l1 x5_1).f2)) = true := by simpa using c9))
                 (try (have c9b2 : (((rd_T59 l0 x5_1).f2) == ((rd_T59 l1 x5_1).f2)) = true := by simpa using c9))
                 clear c9
                 by_cases c12 : (strOfNums ((rd_T59 l0 x5_1).f3)).toList = (strOfNums ((rd_T59 l1 x5_1).f3)).toList
                 · rw [if_pos c12] at H
                   have c12b0 : ((strOfNums ((rd_T59 l0 x5_1).f3)).toList == (strOfNums ((rd_T59 l1 x5_1).f3)).toList) = true := beq_iff_eq.mpr c12
                   have c12b1 : ((strOfNums ((rd_T59 l0 x5_1).f3)).toList != (strOfNums ((rd_T59 l1 x5_1).f3)).toList) = false := bne_eq_false_iff_eq.mpr c12
                   clear c12
                   have H' := m0_ H
                   clear H
                   have p315 : 0 ≤ (x5_1 : Int) := dT_
                   have q315 : x5_1 < (l0.length : Int) := dT_
                   obtain ⟨ad315, A315_1, c315_1, A315_3, c315_3, e315, hx315_0, hx315_1, hx315_2, hx315_3, hl315_1, hi315_1, hl315_3, hi315_3⟩ := at_T59 HR0.out x5_1 p315 q315
                   cases e315
                   have HR315_1 := m0_ hi315_1
                   have HC315_1 := m0_ hl315_1
                   clear hi315_1 hl315_1
                   have HR315_3 := m0_ hi315_3
                   have HC315_3 := m0_ hl315_3
                   clear hi315_3 hl315_3
                   replace p315 := eq_true p315
                   replace q315 := eq_true q315
                   have p316 : 0 ≤ (x5_1 : Int) := dT_
                   have q316 : x5_1 < (l1.length : Int) := dT_
                   obtain ⟨ad316, A316_1, c316_1, A316_3, c316_3, e316, hx316_0, hx316_1, hx316_2, hx316_3, hl316_1, hi316_1, hl316_3, hi316_3⟩ := at_T59 HR1.out x5_1 p316 q316
                   cases e316
                   have HR316_1 := m0_ hi316_1
                   have HC316_1 := m0_ hl316_1
                   clear hi316_1 hl316_1
                   have HR316_3 := m0_ hi316_3
                   have HC316_3 := m0_ hl316_3
                   clear hi316_3 hl316_3
                   replace p316 := eq_true p316
                   replace q316 := eq_true q316
                   have p317 : 0 ≤ (x5_1 : Int) := dT_
                   have q317 : x5_1 < (l0.length : Int) := dT_
                   obtain ⟨ad317, A317_1, c317_1, A317_3, c317_3, e317, hx317_0, hx317_1, hx317_2, hx317_3, hl317_1, hi317_1, hl317_3, hi317_3⟩ := at_T59 HR0.out x5_1 p317 q317
                   obtain rfl : ad315 = ad317 := (by injection e317)
                   have HR317_1 := m0_ hi317_1
                   have HC317_1 := m0_ hl317_1
                   clear hi317_1 hl317_1
                   have HR317_3 := m0_ hi317_3
                   have HC317_3 := m0_ hl317_3
                   clear hi317_3 hl317_3
                   replace p317 := eq_true p317
                   replace q317 := eq_true q317
                   have ea_ := sO_ (hx315_1.symm.trans hx317_1)
                   injection ea_ with ea_ en_ ec_
                   subst ea_
                   subst ec_
                   clear en_
                   have ea_ := sO_ (hx315_3.symm.trans hx317_3)
                   injection ea_ with ea_ en_ ec_
                   subst ea_
                   subst ec_
                   clear en_
                   have hcv13 := Kd.C_string (P := Try.prog) (A := A315_1) (c := c315_1) Try.underlying55 Try.underlying5 Try.underlying9 HR317_1.out; have hcv13q := fun n_ => Kd.C_string (P := Try.prog) (A := A315_1) (c := c315_1) Try.underlying55 Try.underlying5 Try.underlying9 (kN_ HR317_1.out n_)
                   have p318 : 0 ≤ (x5_1 : Int) := dT_
                   have q318 : x5_1 < (l1.length : Int) := dT_
                   obtain ⟨ad318, A318_1, c318_1, A318_3, c318_3, e318, hx318_0, hx318_1, hx318_2, hx318_3, hl318_1, hi318_1, hl318_3, hi318_3⟩ := at_T59 HR1.out x5_1 p318 q318
                   obtain rfl : ad316 = ad318 := (by injection e318)
                   have HR318_1 := m0_ hi318_1
                   have HC318_1 := m0_ hl318_1
                   clear hi318_1 hl318_1
                   have HR318_3 := m0_ hi318_3
                   have HC318_3 := m0_ hl318_3
                   clear hi318_3 hl318_3
                   replace p318 := eq_true p318
                   replace q318 := eq_true q318
                   have ea_ := sO_ (hx316_1.symm.trans hx318_1)
                   injection ea_ with ea_ en_ ec_
                   subst ea_
                   subst ec_
                   clear en_
                   have ea_ := sO_ (hx316_3.symm.trans hx318_3)
                   injection ea_ with ea_ en_ ec_
                   subst ea_
                   subst ec_
                   clear en_
                   have hcv14 := Kd.C_string (P := Try.prog) (A := A316_1) (c := c316_1) Try.underlying55 Try.underlying5 Try.underlying9 HR318_1.out; have hcv14q := fun n_ => Kd.C_string (P := Try.prog) (A := A316_1) (c := c316_1) Try.underlying55 Try.underlying5 Try.underlying9 (kN_ HR318_1.out n_)
                   have p319 : 0 ≤ (x5_1 : Int) := dT_
                   have q319 : x5_1 < (l0.length : Int) := dT_
                   obtain ⟨ad319, A319_1, c319_1, A319_3, c319_3, e319, hx319_0, hx319_1, hx319_2, hx319_3, hl319_1, hi319_1, hl319_3, hi319_3⟩ := at_T59 HR0.out x5_1 p319 q319
                   obtain rfl : ad315 = ad319 := (by injection e319)
                   have HR319_1 := m0_ hi319_1
                   have HC319_1 := m0_ hl319_1
                   clear hi319_1 hl319_1
                   have HR319_3 := m0_ hi319_3
                   have HC319_3 := m0_ hl319_3
                   clear hi319_3 hl319_3
                   replace p319 := eq_true p319
                   replace q319 := eq_true q319
                   have ea_ := sO_ (hx315_1.symm.trans hx319_1)
                   injection ea_ with ea_ en_ ec_
                   subst ea_
                   subst ec_
                   clear en_
                   have ea_ := sO_ (hx315_3.symm.trans hx319_3)
                   injection ea_ with ea_ en_ ec_
                   subst ea_
                   subst ec_
                   clear en_
                   have p320 : 0 ≤ (x5_1 : Int) := dT_
                   have q320 : x5_1 < (l1.length : Int) := dT_
                   obtain ⟨ad320, A320_1, c320_1, A320_3, c320_3, e320, hx320_0, hx320_1, hx320_2, hx320_3, hl320_1, hi320_1, hl320_3, hi320_3⟩ := at_T59 HR1.out x5_1 p320 q320
                   obtain rfl : ad316 = ad320 := (by injection e320)
                   have HR320_1 := m0_ hi320_1
                   have HC320_1 := m0_ hl320_1
                   clear hi320_1 hl320_1
                   have HR320_3 := m0_ hi320_3
                   have HC320_3 := m0_ hl320_3
                   clear hi320_3 hl320_3
                   replace p320 := eq_true p320
                   replace q320 := eq_true q320
                   have ea_ := sO_ (hx316_1.symm.trans hx320_1)
                   injection ea_ with ea_ en_ ec_
                   subst ea_
                   subst ec_
                   clear en_
                   have ea_ := sO_ (hx316_3.symm.trans hx320_3)
                   injection ea_ with ea_ en_ ec_
                   subst ea_
                   subst ec_
                   clear en_
                   have p321 : 0 ≤ (x5_1 : Int) := dT_
                   have q321 : x5_1 < (l0.length : Int) := dT_
                   obtain ⟨ad321, A321_1, c321_1, A321_3, c321_3, e321, hx321_0, hx321_1, hx321_2, hx321_3, hl321_1, hi321_1, hl321_3, hi321_3⟩ := at_T59 HR0.out x5_1 p321 q321
                   obtain rfl : ad315 = ad321 := (by injection e321)
                   have HR321_1 := m0_ hi321_1
                   have HC321_1 := m0_ hl321_1
                   clear hi321_1 hl321_1
                   have HR321_3 := m0_ hi321_3
                   have HC321_3 := m0_ hl321_3
                   clear hi321_3 hl321_3
                   replace p321 := eq_true p321
                   replace q321 := eq_true q321
                   have ea_ := sO_ (hx315_1.symm.trans hx321_1)
                   injection ea_ with ea_ en_ ec_
                   subst ea_
                   subst ec_
                   clear en_
                   have ea_ := sO_ (hx315_3.symm.trans hx321_3)
                   injection ea_ with ea_ en_ ec_
                   subst ea_
                   subst ec_
                   clear en_
                   have hcv15 := Kd.C_string (P := Try.prog) (A := A315_3) (c := c315_3) Try.underlying55 Try.underlying5 Try.underlying9 HR321_3.out; have hcv15q := fun n_ => Kd.C_string (P := Try.prog) (A := A315_3) (c := c315_3) Try.underlying55 Try.underlying5 Try.underlying9 (kN_ HR321_3.out n_)
                   have p322 : 0 ≤ (x5_1 : Int) := dT_
                   have q322 : x5_1 < (l1.length : Int) := dT_
                   obtain ⟨ad322, A322_1, c322_1, A322_3, c322_3, e322, hx322_0, hx322_1, hx322_2, hx322_3, hl322_1, hi322_1, hl322_3, hi322_3⟩ := at_T59 HR1.out x5_1 p322 q322
                   obtain rfl : ad316 = ad322 := (by injection e322)
                   have HR322_1 := m0_ hi322_1
                   have HC322_1 := m0_ hl322_1
                   clear hi322_1 hl322_1
                   have HR322_3 := m0_ hi322_3
                   have HC322_3 := m0_ hl322_3
                   clear hi322_3 hl322_3
                   replace p322 := eq_true p322
                   replace q322 := eq_true q322
                   have ea_ := sO_ (hx316_1.symm.trans hx322_1)
                   injection ea_ with ea_ en_ ec_
                   subst ea_
                   subst ec_
                   clear en_
                   have ea_ := sO_ (hx316_3.symm.trans hx322_3)
                   injection ea_ with ea_ en_ ec_
                   subst ea_
                   subst ec_
                   clear en_
                   have hcv16 := Kd.C_string (P := Try.prog) (A := A316_3) (c := c316_3) Try.underlying55 Try.underlying5 Try.underlying9 HR322_3.out; have hcv16q := fun n_ => Kd.C_string (P := Try.prog) (A := A316_3) (c := c316_3) Try.underlying55 Try.underlying5 Try.underlying9 (kN_ HR322_3.out n_)
                   go_wp2
                   repeat (go_quiet (fail); try go_wp2)
                   go_roundg k1
                   case measure => have := HK1.out; omega
                   case rel => exact ⟨(wrap64 (x5_1 + 1)), (by first | rfl | (simp; done) | (simp [*]; done)), H', ⟨by have := HK1.out; omega⟩, by repeat (first | exact Drawn0.refl _ | apply Drawn0.step)⟩
                 · rw [if_neg c12] at H
                   have c12b0 : ((strOfNums ((rd_T59 l0 x5_1).f3)).toList == (strOfNums ((rd_T59 l1 x5_1).f3)).toList) = false := beq_eq_false_iff_ne.mpr c12
                   have c12b1 : ((strOfNums ((rd_T59 l0 x5_1).f3)).toList != (strOfNums ((rd_T59 l1 x5_1).f3)).toList) = true := bne_iff_ne.mpr c12
                   obtain rfl := sO_ H
                   have p315 : 0 ≤ (x5_1 : Int) := dT_
                   have q315 : x5_1 < (l0.length : Int) := dT_
                   obtain ⟨ad315, A315_1, c315_1, A315_3, c315_3, e315, hx315_0, hx315_1, hx315_2, hx315_3, hl315_1, hi315_1, hl315_3, hi315_3⟩ := at_T59 HR0.out x5_1 p315 q315
                   cases e315
                   have HR315_1 := m0_ hi315_1
                   have HC315_1 := m0_ hl315_1
                   clear hi315_1 hl315_1
                   have HR315_3 := m0_ hi315_3
                   have HC315_3 := m0_ hl315_3
                   clear hi315_3 hl315_3
                   replace p315 := eq_true p315
                   replace q315 := eq_true q315
                   have p316 : 0 ≤ (x5_1 : Int) := dT_
                   have q316 : x5_1 < (l1.length : Int) := dT_
                   obtain ⟨ad316, A316_1, c316_1, A316_3, c316_3, e316, hx316_0, hx316_1, hx316_2, hx316_3, hl316_1, hi316_1, hl316_3, hi316_3⟩ := at_T59 HR1.out x5_1 p316 q316
                   cases e316
                   have HR316_1 := m0_ hi316_1
                   have HC316_1 := m0_ hl316_1
                   clear hi316_1 hl316_1
                   have HR316_3 := m0_ hi316_3
                   have HC316_3 := m0_ hl316_3
                   clear hi316_3 hl316_3
                   replace p316 := eq_true p316
                   replace q316 := eq_true q316
                   have p317 : 0 ≤ (x5_1 : Int) := dT_
                   have q317 : x5_1 < (l0.length : Int) := dT_
                   obtain ⟨ad317, A317_1, c317_1, A317_3, c317_3, e317, hx317_0, hx317_1, hx317_2, hx317_3, hl317_1, hi317_1, hl317_3, hi317_3⟩ := at_T59 HR0.out x5_1 p317 q317
                   obtain rfl : ad315 = ad317 := (by injection e317)
                   have HR317_1 := m0_ hi317_1
                   have HC317_1 := m0_ hl317_1
                   clear hi317_1 hl317_1
                   have HR317_3 := m0_ hi317_3
                   have HC317_3 := m0_ hl317_3
                   clear hi317_3 hl317_3
                   replace p317 := eq_true p317
                   replace q317 := eq_true q317
                   have ea_ := sO_ (hx315_1.symm.trans hx317_1)
                   injection ea_ with ea_ en_ ec_
                   subst ea_
                   subst ec_
                   clear en_
                   have ea_ := sO_ (hx315_3.symm.trans hx317_3)
                   injection ea_ with ea_ en_ ec_
                   subst ea_
                   subst ec_
                   clear en_
                   have hcv17 := Kd.C_string (P := Try.prog) (A := A315_1) (c := c315_1) Try.underlying55 Try.underlying5 Try.underlying9 HR317_1.out; have hcv17q := fun n_ => Kd.C_string (P := Try.prog) (A := A315_1) (c := c315_1) Try.underlying55 Try.underlying5 Try.underlying9 (kN_ HR317_1.out n_)
                   have p318 : 0 ≤ (x5_1 : Int) := dT_
                   have q318 : x5_1 < (l1.length : Int) := dT_
                   obtain ⟨ad318, A318_1, c318_1, A318_3, c318_3, e318, hx318_0, hx318_1, hx318_2, hx318_3, hl318_1, hi318_1, hl318_3, hi318_3⟩ := at_T59 HR1.out x5_1 p318 q318
                   obtain rfl : ad316 = ad318 := (by injection e318)
                   have HR318_1 := m0_ hi318_1
                   have HC318_1 := m0_ hl318_1
                   clear hi318_1 hl318_1
                   have HR318_3 := m0_ hi318_3
                   have HC318_3 := m0_ hl318_3
                   clear hi318_3 hl318_3
                   replace p318 := eq_true p318
                   replace q318 := eq_true q318
                   have ea_ := sO_ (hx316_1.symm.trans hx318_1)
                   injection ea_ with ea_ en_ ec_
                   subst ea_
                   subst ec_
                   clear en_
                   have ea_ := sO_ (hx316_3.symm.trans hx318_3)
                   injection ea_ with ea_ en_ ec_
                   subst ea_
                   subst ec_
                   clear en_
                   have hcv18 := Kd.C_string (P := Try.prog) (A := A316_1) (c := c316_1) Try.underlying55 Try.underlying5 Try.underlying9 HR318_1.out; have hcv18q := fun n_ => Kd.C_string (P := Try.prog) (A := A316_1) (c := c316_1) Try.underlying55 Try.underlying5 Try.underlying9 (kN_ HR318_1.out n_)
                   have p319 : 0 ≤ (x5_1 : Int) := dT_
                   have q319 : x5_1 < (l0.length : Int) := dT_
                   obtain ⟨ad319, A319_1, c319_1, A319_3, c319_3, e319, hx319_0, hx319_1, hx319_2, hx319_3, hl319_1, hi319_1, hl319_3, hi319_3⟩ := at_T59 HR0.out x5_1 p319 q319
                   obtain rfl : ad315 = ad319 := (by injection e319)
                   have HR319_1 := m0_ hi319_1
                   have HC319_1 := m0_ hl319_1
                   clear hi319_1 hl319_1
                   have HR319_3 := m0_ hi319_3
                   have HC319_3 := m0_ hl319_3
                   clear hi319_3 hl319_3
                   replace p319 := eq_true p319
                   replace q319 := eq_true q319
                   have ea_ := sO_ (hx315_1.symm.trans hx319_1)
                   injection ea_ with ea_ en_ ec_
                   subst ea_
                   subst ec_
                   clear en_
                   have ea_ := sO_ (hx315_3.symm.trans hx319_3)
                   injection ea_ with ea_ en_ ec_
                   subst ea_
                   subst ec_
                   clear en_
                   have p320 : 0 ≤ (x5_1 : Int) := dT_
                   have q320 : x5_1 < (l1.length : Int) := dT_
                   obtain ⟨ad320, A320_1, c320_1, A320_3, c320_3, e320, hx320_0, hx320_1, hx320_2, hx320_3, hl320_1, hi320_1, hl320_3, hi320_3⟩ := at_T59 HR1.out x5_1 p320 q320
                   obtain rfl : ad316 = ad320 := (by injection e320)
                   have HR320_1 := m0_ hi320_1
                   have HC320_1 := m0_ hl320_1
                   clear hi320_1 hl320_1
                   have HR320_3 := m0_ hi320_3
                   have HC320_3 := m0_ hl320_3
                   clear hi320_3 hl320_3
                   replace p320 := eq_true p320
                   replace q320 := eq_true q320
                   have ea_ := sO_ (hx316_1.symm.trans hx320_1)
                   injection ea_ with ea_ en_ ec_
                   subst ea_
                   subst ec_
                   clear en_
                   have ea_ := sO_ (hx316_3.symm.trans hx320_3)
                   injection ea_ with ea_ en_ ec_
                   subst ea_
                   subst ec_
                   clear en_
                   have p321 : 0 ≤ (x5_1 : Int) := dT_
                   have q321 : x5_1 < (l0.length : Int) := dT_
                   obtain ⟨ad321, A321_1, c321_1, A321_3, c321_3, e321, hx321_0, hx321_1, hx321_2, hx321_3, hl321_1, hi321_1, hl321_3, hi321_3⟩ := at_T59 HR0.out x5_1 p321 q321
                   obtain rfl : ad315 = ad321 := (by injection e321)
                   have HR321_1 := m0_ hi321_1
                   have HC321_1 := m0_ hl321_1
                   clear hi321_1 hl321_1
                   have HR321_3 := m0_ hi321_3
                   have HC321_3 := m0_ hl321_3
                   clear hi321_3 hl321_3
                   replace p321 := eq_true p321
                   replace q321 := eq_true q321
                   have ea_ := sO_ (hx315_1.symm.trans hx321_1)
                   injection ea_ with ea_ en_ ec_
                   subst ea_
                   subst ec_
                   clear en_
                   have ea_ := sO_ (hx315_3.symm.trans hx321_3)
                   injection ea_ with ea_ en_ ec_
                   subst ea_
                   subst ec_
                   clear en_
                   have hcv19 := Kd.C_string (P := Try.prog) (A := A315_3) (c := c315_3) Try.underlying55 Try.underlying5 Try.underlying9 HR321_3.out; have hcv19q := fun n_ => Kd.C_string (P := Try.prog) (A := A315_3) (c := c315_3) Try.underlying55 Try.underlying5 Try.underlying9 (kN_ HR321_3.out n_)
                   have p322 : 0 ≤ (x5_1 : Int) := dT_
                   have q322 : x5_1 < (l1.length : Int) := dT_
                   obtain ⟨ad322, A322_1, c322_1, A322_3, c322_3, e322, hx322_0, hx322_1, hx322_2, hx322_3, hl322_1, hi322_1, hl322_3, hi322_3⟩ := at_T59 HR1.out x5_1 p322 q322
                   obtain rfl : ad316 = ad322 := (by injection e322)
                   have HR322_1 := m0_ hi322_1
                   have HC322_1 := m0_ hl322_1
                   clear hi322_1 hl322_1
                   have HR322_3 := m0_ hi322_3
                   have HC322_3 := m0_ hl322_3
                   clear hi322_3 hl322_3
                   replace p322 := eq_true p322
                   replace q322 := eq_true q322
                   have ea_ := sO_ (hx316_1.symm.trans hx322_1)
                   injection ea_ with ea_ en_ ec_
                   subst ea_
                   subst ec_
                   clear en_
                   have ea_ := sO_ (hx316_3.symm.trans hx322_3)
                   injection ea_ with ea_ en_ ec_
                   subst ea_
                   subst ec_
                   clear en_
                   have hcv20 := Kd.C_string (P := Try.prog) (A := A316_3) (c := c316_3) Try.underlying55 Try.underlying5 Try.underlying9 HR322_3.out; have hcv20q := fun n_ => Kd.C_string (P := Try.prog) (A := A316_3) (c := c316_3) Try.underlying55 Try.underlying5 Try.underlying9 (kN_ HR322_3.out n_)
                   go_wp2
                   repeat (go_quiet (fail); try go_wp2)
                   go_ret
                   exact ⟨by first | rfl | (simp; done) | (simp [*]; done), by repeat (first | exact Drawn0.refl _ | apply Drawn0.step)⟩
             · rw [if_neg c8] at H
               have c8b0 : ((strOfNums ((rd_T59 l0 x5_1).f1)).toList == (strOfNums ((rd_T59 l1 x5_1).f1)).toList) = false := beq_eq_false_iff_ne.mpr c8
               have c8b1 : ((strOfNums ((rd_T59 l0 x5_1).f1)).toList != (strOfNums ((rd_T59 l1 x5_1).f1)).toList) = true := bne_iff_ne.mpr c8
               obtain rfl := sO_ H
               have p315 : 0 ≤ (x5_1 : Int) := dT_
               have q315 : x5_1 < (l0.length : Int) := dT_
               obtain ⟨ad315, A315_1, c315_1, A315_3, c315_3, e315, hx315_0, hx315_1, hx315_2, hx315_3, hl315_1, hi315_1, hl315_3, hi315_3⟩ := at_T59 HR0.out x5_1 p315 q315
               cases e315
               have HR315_1 := m0_ hi315_1
               have HC315_1 := m0_ hl315_1
               clear hi315_1 hl315_1
               have HR315_3 := m0_ hi315_3
               have HC315_3 := m0_ hl315_3
               clear hi315_3 hl315_3
               replace p315 := eq_true p315
               replace q315 := eq_true q315
               have p316 : 0 ≤ (x5_1 : Int) := dT_
               have q316 : x5_1 < (l1.length : Int) := dT_
               obtain ⟨ad316, A316_1, c316_1, A316_3, c316_3, e316, hx316_0, hx316_1, hx316_2, hx316_3, hl316_1, hi316_1, hl316_3, hi316_3⟩ := at_T59 HR1.out x5_1 p316 q316
               cases e316
               have HR316_1 := m0_ hi316_1
               have HC316_1 := m0_ hl316_1
               clear hi316_1 hl316_1
               have HR316_3 := m0_ hi316_3
               have HC316_3 := m0_ hl316_3
               clear hi316_3 hl316_3
               replace p316 := eq_true p316
               replace q316 := eq_true q316
               have p317 : 0 ≤ (x5_1 : Int) := dT_
               have q317 : x5_1 < (l0.length : Int) := dT_
               obtain ⟨ad317, A317_1, c317_1, A317_3, c317_3, e317, hx317_0, hx317_1, hx317_2, hx317_3, hl317_1, hi317_1, hl317_3, hi317_3⟩ := at_T59 HR0.out x5_1 p317 q317
               obtain rfl : ad315 = ad317 := (by injection e317)
               have HR317_1 := m0_ hi317_1
               have HC317_1 := m0_ hl317_1
               clear hi317_1 hl317_1
               have HR317_3 := m0_ hi317_3
               have HC317_3 := m0_ hl317_3
               clear hi317_3 hl317_3
               replace p317 := eq_true p317
               replace q317 := eq_true q317
               have ea_ := sO_ (hx315_1.symm.trans hx317_1)
               injection ea_ with ea_ en_ ec_
               subst ea_
               subst ec_
               clear en_
               have ea_ := sO_ (hx315_3.symm.trans hx317_3)
               injection ea_ with ea_ en_ ec_
               subst ea_
               subst ec_
               clear en_
               have hcv21 := Kd.C_string (P := Try.prog) (A := A315_1) (c := c315_1) Try.underlying55 Try.underlying5 Try.underlying9 HR317_1.out; have hcv21q := fun n_ => Kd.C_string (P := Try.prog) (A := A315_1) (c := c315_1) Try.underlying55 Try.underlying5 Try.underlying9 (kN_ HR317_1.out n_)
               have p318 : 0 ≤ (x5_1 : Int) := dT_
               have q318 : x5_1 < (l1.length : Int) := dT_
               obtain ⟨ad318, A318_1, c318_1, A318_3, c318_3, e318, hx318_0, hx318_1, hx318_2, hx318_3, hl318_1, hi318_1, hl318_3, hi318_3⟩ := at_T59 HR1.out x5_1 p318 q318
               obtain rfl : ad316 = ad318 := (by injection e318)
               have HR318_1 := m0_ hi318_1
               have HC318_1 := m0_ hl318_1
               clear hi318_1 hl318_1
               have HR318_3 := m0_ hi318_3
               have HC318_3 := m0_ hl318_3
               clear hi318_3 hl318_3
               replace p318 := eq_true p318
               replace q318 := eq_true q318
               have ea_ := sO_ (hx316_1.symm.trans hx318_1)
               injection ea_ with ea_ en_ ec_
               subst ea_
               subst ec_
               clear en_
               have ea_ := sO_ (hx316_3.symm.trans hx318_3)
               injection ea_ with ea_ en_ ec_
               subst ea_
               subst ec_
               clear en_
               have hcv22 := Kd.C_string (P := Try.prog) (A := A316_1) (c := c316_1) Try.underlying55 Try.underlying5 Try.underlying9 HR318_1.out; have hcv22q := fun n_ => Kd.C_string (P := Try.prog) (A := A316_1) (c := c316_1) Try.underlying55 Try.underlying5 Try.underlying9 (kN_ HR318_1.out n_)
               go_wp2
               repeat (go_quiet (fail); try go_wp2)
               go_ret
               exact ⟨by first | rfl | (simp; done) | (simp [*]; done), by repeat (first | exact Drawn0.refl _ | apply Drawn0.step)⟩
           · rw [if_neg c7] at H
             have c7b0 : (((rd_T59 l0 x5_1).f0) == ((rd_T59 l1 x5_1).f0)) = false := beq_eq_false_iff_ne.mpr c7
             have c7b1 : (((rd_T59 l0 x5_1).f0) != ((rd_T59 l1 x5_1).f0)) = true := bne_iff_ne.mpr c7
             obtain rfl := sO_ H
             have p315 : 0 ≤ (x5_1 : Int) := dT_
             have q315 : x5_1 < (l0.length : Int) := dT_
             obtain ⟨ad315, A315_1, c315_1, A315_3, c315_3, e315, hx315_0, hx315_1, hx315_2, hx315_3, hl315_1, hi315_1, hl315_3, hi315_3⟩ := at_T59 HR0.out x5_1 p315 q315
             cases e315
             have HR315_1 := m0_ hi315_1
             have HC315_1 := m0_ hl315_1
             clear hi315_1 hl315_1
             have HR315_3 := m0_ hi315_3
             have HC315_3 := m0_ hl315_3
             clear hi315_3 hl315_3
             replace p315 := eq_true p315
             replace q315 := eq_true q315
             have p316 : 0 ≤ (x5_1 : Int) := dT_
             have q316 : x5_1 < (l1.length : Int) := dT_
             obtain ⟨ad316, A316_1, c316_1, A316_3, c316_3, e316, hx316_0, hx316_1, hx316_2, hx316_3, hl316_1, hi316_1, hl316_3, hi316_3⟩ := at_T59 HR1.out x5_1 p316 q316
             cases e316
             have HR316_1 := m0_ hi316_1
             have HC316_1 := m0_ hl316_1
             clear hi316_1 hl316_1
             have HR316_3 := m0_ hi316_3
             have HC316_3 := m0_ hl316_3
             clear hi316_3 hl316_3
             replace p316 := eq_true p316
             replace q316 := eq_true q316
             go_wp2
             repeat (go_quiet (fail); try go_wp2)
             go_ret
             exact ⟨by first | rfl | (simp; done) | (simp [*]; done), by repeat (first | exact Drawn0.refl _ | apply Drawn0.step)⟩
         · rw [if_neg c6] at H
           exact absurd H (by simp)
       · rw [if_neg c5] at H
         exact absurd H (by simp)
     · rw [if_neg c4] at H
       have c4b0 : decide (x5_1 < (l0.length : Int)) = false := decide_eq_false c4
       clear c4
       obtain rfl := sO_ H
       go_wp2
       repeat (go_quiet (fail); try go_wp2)
       go_ret
       exact ⟨by first | rfl | (simp; done) | (simp [*]; done), by repeat (first | exact Drawn0.refl _ | apply Drawn0.step)⟩
 · rw [if_neg c3] at H
   have c3b0 : ((l0.length : Int) == (l1.length : Int)) = false := beq_eq_false_iff_ne.mpr c3
   have c3b1 : ((l0.length : Int) != (l1.length : Int)) = true := bne_iff_ne.mpr c3
   have c3b2 : (l0.length == l1.length) = false := by first | simpa using c3 | (simp at c3 ⊢; omega)
   obtain rfl := sO_ H
   go_enter Try.func48, Try.ntmps48
   go_wp2
   repeat (go_quiet (fail); try go_wp2)
   go_ret
   exact ⟨by first | rfl | (simp; done) | (simp [*]; done), by repeat (first | exact Drawn0.refl _ | apply Drawn0.step)⟩
def banksmanref13_One.f (k : Nat) (a0_0 : Int) (a0_1 : Int) (a0_2 : Bool) (l0_3 : List (S57)) (l0_4 : List (S59)) (a0_5 : Bool) (a1_0 : Int) (a1_1 : Int) (a1_2 : Bool) (l1_3 : List (S57)) (l1_4 : List (S59)) (a1_5 : Bool) : Option (Bool) := (banksmanref10_Same.f k l0_3 l1_3).bind fun t325 => (if t325 = true then ((banksmanref08_Writes.f k l0_4 l1_4).bind fun t326 => (if t326 = true then (if a0_0 = a1_0 then (if a0_1 = a1_1 then (if (a0_2 == a1_2) = true then (some (a0_5 == a1_5)) else (some false)) else (some false)) else (some false)) else (some false))) else (some false))
set_option maxHeartbeats 8000000 in
set_option maxRecDepth 100000 in
theorem banksmanref13_One.calls (k : Nat) (a0_0 : Int) (a0_1 : Int) (a0_2 : Bool) (A0_3 : Option Addr) (c0_3 : Nat) (l0_3 : List (S57)) (A0_4 : Option Addr) (c0_4 : Nat) (l0_4 : List (S59)) (a0_5 : Bool) (a1_0 : Int) (a1_1 : Int) (a1_2 : Bool) (A1_3 : Option Addr) (c1_3 : Nat) (l1_3 : List (S57)) (A1_4 : Option Addr) (c1_4 : Nat) (l1_4 : List (S59)) (a1_5 : Bool) (r : Bool) (w : World) (hr0_3 : Kd.C k57 w A0_3 l0_3.length l0_3) (hc0_3 : l0_3.length ≤ c0_3) (hr0_4 : Kd.C k59 w A0_4 l0_4.length l0_4) (hc0_4 : l0_4.length ≤ c0_4) (hr1_3 : Kd.C k57 w A1_3 l1_3.length l1_3) (hc1_3 : l1_3.length ≤ c1_3) (hr1_4 : Kd.C k59 w A1_4 l1_4.length l1_4) (hc1_4 : l1_4.length ≤ c1_4) (h : banksmanref13_One.f k a0_0 a0_1 a0_2 l0_3 l0_4 a0_5 a1_0 a1_1 a1_2 l1_3 l1_4 a1_5 = some r) :
   Calls Try.prog 31 #[.agg #[.int .i64 a0_0, .int .i64 a0_1, .bool a0_2, .slice A0_3 l0_3.length c0_3, .slice A0_4 l0_4.length c0_4, .bool a0_5], .agg #[.int .i64 a1_0, .int .i64 a1_1, .bool a1_2, .slice A1_3 l1_3.length c1_3, .slice A1_4 l1_4.length c1_4, .bool a1_5]] w fun e w' => e = .returned (.bool r) ∧ Below w.heap.size w w' := by
 have hu50 := Try.underlying50
 have HR0_3 := m0_ hr0_3
 have HC0_3 := m0_ hc0_3
 clear hr0_3 hc0_3
 have HR0_4 := m0_ hr0_4
 have HC0_4 := m0_ hc0_4
 clear hr0_4 hc0_4
 have HR1_3 := m0_ hr1_3
 have HC1_3 := m0_ hc1_3
 clear hr1_3 hc1_3
 have HR1_4 := m0_ hr1_4
 have HC1_4 := m0_ hc1_4
 clear hr1_4 hc1_4
 have HB := m0_ (Below.refl w.heap.size w)
 have H : ((banksmanref10_Same.f k l0_3 l1_3).bind fun t325 => (if t325 = true then ((banksmanref08_Writes.f k l0_4 l1_4).bind fun t326 => (if t326 = true then (if a0_0 = a1_0 then (if a0_1 = a1_1 then (if (a0_2 == a1_2) = true then (some (a0_5 == a1_5)) else (some false)) else (some false)) else (some false)) else (some false))) else (some false))) = some r := h
 clear h
 replace H := Option.bind_eq_some_iff.mp H
 obtain ⟨t325, A30, H⟩ := H
 replace H : (if t325 = true then ((banksmanref08_Writes.f k l0_4 l1_4).bind fun t326 => (if t326 = true then (if a0_0 = a1_0 then (if a0_1 = a1_1 then (if (a0_2 == a1_2) = true then (some (a0_5 == a1_5)) else (some false)) else (some false)) else (some false)) else (some false))) else (some false)) = some r := H
 have A3 := m0_ A30
 clear A30
 by_cases c4 : t325 = true
 · subst c4
   have H1 : ((banksmanref08_Writes.f k l0_4 l1_4).bind fun t326 => (if t326 = true then (if a0_0 = a1_0 then (if a0_1 = a1_1 then (if (a0_2 == a1_2) = true then (some (a0_5 == a1_5)) else (some false)) else (some false)) else (some false)) else (some false))) = some r := by rw [if_pos rfl] at H; exact H
   clear H
   have H := H1
   clear H1
   replace H := Option.bind_eq_some_iff.mp H
   obtain ⟨t326, A50, H⟩ := H
   replace H : (if t326 = true then (if a0_0 = a1_0 then (if a0_1 = a1_1 then (if (a0_2 == a1_2) = true then (some (a0_5 == a1_5)) else (some false)) else (some false)) else (some false)) else (some false)) = some r := H
   have A5 := m0_ A50
   clear A50
   by_cases c6 : t326 = true
   · subst c6
     have H1 : (if a0_0 = a1_0 then (if a0_1 = a1_1 then (if (a0_2 == a1_2) = true then (some (a0_5 == a1_5)) else (some false)) else (some false)) else (some false)) = some r := by rw [if_pos rfl] at H; exact H
     clear H
     have H := H1
     clear H1
     by_cases c7 : a0_0 = a1_0
     · rw [if_pos c7] at H
       have c7b0 : (a0_0 == a1_0) = true := beq_iff_eq.mpr c7
       have c7b1 : (a0_0 != a1_0) = false := bne_eq_false_iff_eq.mpr c7
       clear c7
       by_cases c8 : a0_1 = a1_1
       · rw [if_pos c8] at H
         have c8b0 : (a0_1 == a1_1) = true := beq_iff_eq.mpr c8
         have c8b1 : (a0_1 != a1_1) = false := bne_eq_false_iff_eq.mpr c8
         clear c8
         by_cases c9 : (a0_2 == a1_2) = true
         · rw [if_pos c9] at H
           have c9b0 : (a0_2 == a1_2) = true := c9
           (try (have c9b1 : decide (a0_2 = a1_2) = true := by simpa using c9))
           (try (have c9b2 : (a0_2 == a1_2) = true := by simpa using c9))
           clear c9
           obtain rfl := sO_ H
           go_enter Try.func31, Try.ntmps31
           go_wp2_with (first | ((with_reducible refine gate_dst (N := 2) rfl ?_); refine box_event ?hg (N := 2) ?hd (cs := #[.int .i64 a0_0, .int .i64 a0_1, .bool a0_2, .slice A0_3 l0_3.length c0_3, .slice A0_4 l0_4.length c0_4, .bool a0_5]) (t := 50) ?hr ?_; (case hd => rfl); (case hg => rfl); (case hr => first | (go_simp; done) | (go_simp; rfl)); intro gb323 hg w10 hbox hb; have n0_ := m0_ (below_step (by repeat (first | (with_reducible first | exact HB.out | apply bA_ | apply dN_ | apply b1_) | exact HB.out)) hb); have n1_ := m0_ (hbox); have n2_ := m0_ ((by rw [hg]; exact (below_size (by repeat (first | (with_reducible first | exact HB.out | apply bA_ | apply dN_ | apply b1_) | exact HB.out))) : w.heap.size ≤ gb323)); have n3_ := m0_ ((by rw [hg]; exact (below_size (by repeat (first | (with_reducible first | exact HB.out | apply bA_ | apply dN_ | apply b1_) | exact HB.out))) : w.heap.size ≤ gb323)); clear HB; have HB := n0_; have BK323 := n1_; have GW323 := n2_; have GE323 := n3_; clear n0_ n1_ n2_ n3_; clear hb hbox hg) | ((with_reducible refine gate_dst (N := 3) rfl ?_); refine box_event ?hg (N := 3) ?hd (cs := #[.int .i64 a1_0, .int .i64 a1_1, .bool a1_2, .slice A1_3 l1_3.length c1_3, .slice A1_4 l1_4.length c1_4, .bool a1_5]) (t := 50) ?hr ?_; (case hd => rfl); (case hg => rfl); (case hr => first | (go_simp; done) | (go_simp; rfl)); intro gb324 hg w11 hbox hb; have n0_ := m0_ (blk_below (g := gb323) (o := .cells #[.int .i64 a0_0, .int .i64 a0_1, .bool a0_2, .slice A0_3 l0_3.length c0_3, .slice A0_4 l0_4.length c0_4, .bool a0_5] 50 (0, 0)) (by (with_reducible repeat (first | refine blk_drewN ?_ _ | refine blk_drew ?_ | refine blk_alloc ?_ _)); exact BK323.out) hb); have n1_ := m0_ (below_step (by repeat (first | (with_reducible first | exact HB.out | apply bA_ | apply dN_ | apply b1_ | refine below_set ?_ GE323.out) | exact HB.out)) hb); have n2_ := m0_ (hbox); have n3_ := m0_ ((by rw [hg]; exact (below_size (by repeat (first | (with_reducible first | exact HB.out | apply bA_ | apply dN_ | apply b1_ | refine below_set ?_ GE323.out) | exact HB.out))) : w.heap.size ≤ gb324)); have n4_ := m0_ ((by rw [hg]; exact (below_size (by repeat (first | (with_reducible first | exact HB.out | apply bA_ | apply dN_ | apply b1_ | refine below_set ?_ GE323.out) | exact HB.out))) : w.heap.size ≤ gb324)); have n5_ := m0_ ((by rw [hg]; exact Nat.ne_of_lt (blk_lt (g := gb323) (o := .cells #[.int .i64 a0_0, .int .i64 a0_1, .bool a0_2, .slice A0_3 l0_3.length c0_3, .slice A0_4 l0_4.length c0_4, .bool a0_5] 50 (0, 0)) (by (with_reducible repeat (first | refine blk_drewN ?_ _ | refine blk_drew ?_ | refine blk_alloc ?_ _)); exact BK323.out)) : gb323 ≠ gb324)); have n6_ := m0_ ((by rw [hg]; exact Nat.ne_of_gt (blk_lt (g := gb323) (o := .cells #[.int .i64 a0_0, .int .i64 a0_1, .bool a0_2, .slice A0_3 l0_3.length c0_3, .slice A0_4 l0_4.length c0_4, .bool a0_5] 50 (0, 0)) (by (with_reducible repeat (first | refine blk_drewN ?_ _ | refine blk_drew ?_ | refine blk_alloc ?_ _)); exact BK323.out)) : gb324 ≠ gb323)); clear BK323; clear HB; have BK323 := n0_; have HB := n1_; have BK324 := n2_; have GW324 := n3_; have GE324 := n4_; have NB323_324 := n5_; have NB324_323 := n6_; clear n0_ n1_ n2_ n3_ n4_ n5_ n6_; clear hb hbox hg; have hnb12 := NB323_324.out; have hnc12 := NB324_323.out; have hcz13_0 : w11.cell? ⟨gb323, 0, none⟩ = some (.int .i64 a0_0) := (blk_cell BK323.out 0).trans rfl; have hcz13_1 : w11.cell? ⟨gb323, 1, none⟩ = some (.int .i64 a0_1) := (blk_cell BK323.out 1).trans rfl; have hcz13_2 : w11.cell? ⟨gb323, 2, none⟩ = some (.bool a0_2) := (blk_cell BK323.out 2).trans rfl; have hcz13_3 : w11.cell? ⟨gb323, 3, none⟩ = some (.slice A0_3 l0_3.length c0_3) := (blk_cell BK323.out 3).trans rfl; have hcz13_4 : w11.cell? ⟨gb323, 4, none⟩ = some (.slice A0_4 l0_4.length c0_4) := (blk_cell BK323.out 4).trans rfl; have hcz13_5 : w11.cell? ⟨gb323, 5, none⟩ = some (.bool a0_5) := (blk_cell BK323.out 5).trans rfl; have hfz13_0 := bf_ BK323.out 0; have hfz13_1 := bf_ BK323.out 1; have hfz13_2 := bf_ BK323.out 2; have hfz13_3 := bf_ BK323.out 3; have hfz13_4 := bf_ BK323.out 4; have hfz13_5 := bf_ BK323.out 5; have hcz14_0 : w11.cell? ⟨gb324, 0, none⟩ = some (.int .i64 a1_0) := (blk_cell BK324.out 0).trans rfl; have hcz14_1 : w11.cell? ⟨gb324, 1, none⟩ = some (.int .i64 a1_1) := (blk_cell BK324.out 1).trans rfl; have hcz14_2 : w11.cell? ⟨gb324, 2, none⟩ = some (.bool a1_2) := (blk_cell BK324.out 2).trans rfl; have hcz14_3 : w11.cell? ⟨gb324, 3, none⟩ = some (.slice A1_3 l1_3.length c1_3) := (blk_cell BK324.out 3).trans rfl; have hcz14_4 : w11.cell? ⟨gb324, 4, none⟩ = some (.slice A1_4 l1_4.length c1_4) := (blk_cell BK324.out 4).trans rfl; have hcz14_5 : w11.cell? ⟨gb324, 5, none⟩ = some (.bool a1_5) := (blk_cell BK324.out 5).trans rfl; have hfz14_0 := bf_ BK324.out 0; have hfz14_1 := bf_ BK324.out 1; have hfz14_2 := bf_ BK324.out 2; have hfz14_3 := bf_ BK324.out 3; have hfz14_4 := bf_ BK324.out 4; have hfz14_5 := bf_ BK324.out 5) | ((with_reducible refine gate_callee (f := 47) rfl ?_); refine goesL_ (some 10) rfl rfl Try.func47 (by kernel_rfl) rfl #[.slice A0_3 l0_3.length c0_3, .slice A1_3 l1_3.length c1_3] rfl (by (try simp only [mT_, mC_, mN_]); first | done | rfl | (simp only [lD_, lT_]; rfl)) ?_; (with_reducible refine (banksmanref10_Same.calls k _ _ l0_3 _ _ l1_3 true _ ?side1 ?side2 ?side3 ?side4 A3.out).mono ?_); (case side1 => repeat (first | exact (kB_ HR0_3.out HB.out) | (with_reducible first | refine kA_ ?_ _ | refine kN_ ?_ _ | refine kD_ ?_))); (case side2 => exact HC0_3.out); (case side3 => repeat (first | exact (kB_ HR1_3.out HB.out) | (with_reducible first | refine kA_ ?_ _ | refine kN_ ?_ _ | refine kD_ ?_))); (case side4 => exact HC1_3.out); rintro e w15 ⟨rfl, hb⟩; refine ⟨_, rfl, ?_⟩; have n0_ := m0_ (blk_below (g := gb323) (o := .cells #[.int .i64 a0_0, .int .i64 a0_1, .bool a0_2, .slice A0_3 l0_3.length c0_3, .slice A0_4 l0_4.length c0_4, .bool a0_5] 50 (0, 0)) (by (with_reducible repeat (first | refine blk_drewN ?_ _ | refine blk_drew ?_ | refine blk_alloc ?_ _)); exact BK323.out) hb); have n1_ := m0_ (blk_below (g := gb324) (o := .cells #[.int .i64 a1_0, .int .i64 a1_1, .bool a1_2, .slice A1_3 l1_3.length c1_3, .slice A1_4 l1_4.length c1_4, .bool a1_5] 50 (0, 0)) (by (with_reducible repeat (first | refine blk_drewN ?_ _ | refine blk_drew ?_ | refine blk_alloc ?_ _)); exact BK324.out) hb); have n2_ := m0_ (below_step (by repeat (first | (with_reducible first | exact HB.out | apply bA_ | apply dN_ | apply b1_ | refine below_set ?_ GE323.out | refine below_set ?_ GE324.out) | exact HB.out)) hb); clear BK323; clear BK324; clear HB; have BK323 := n0_; have BK324 := n1_; have HB := n2_; clear n0_ n1_ n2_; (try clear hb); (try clear hb2); (try clear hk); (try clear hi); have hcz16_0 : w15.cell? ⟨gb323, 0, none⟩ = some (.int .i64 a0_0) := (blk_cell BK323.out 0).trans rfl; have hcz16_1 : w15.cell? ⟨gb323, 1, none⟩ = some (.int .i64 a0_1) := (blk_cell BK323.out 1).trans rfl; have hcz16_2 : w15.cell? ⟨gb323, 2, none⟩ = some (.bool a0_2) := (blk_cell BK323.out 2).trans rfl; have hcz16_3 : w15.cell? ⟨gb323, 3, none⟩ = some (.slice A0_3 l0_3.length c0_3) := (blk_cell BK323.out 3).trans rfl; have hcz16_4 : w15.cell? ⟨gb323, 4, none⟩ = some (.slice A0_4 l0_4.length c0_4) := (blk_cell BK323.out 4).trans rfl; have hcz16_5 : w15.cell? ⟨gb323, 5, none⟩ = some (.bool a0_5) := (blk_cell BK323.out 5).trans rfl; have hfz16_0 := bf_ BK323.out 0; have hfz16_1 := bf_ BK323.out 1; have hfz16_2 := bf_ BK323.out 2; have hfz16_3 := bf_ BK323.out 3; have hfz16_4 := bf_ BK323.out 4; have hfz16_5 := bf_ BK323.out 5; have hcz17_0 : w15.cell? ⟨gb324, 0, none⟩ = some (.int .i64 a1_0) := (blk_cell BK324.out 0).trans rfl; have hcz17_1 : w15.cell? ⟨gb324, 1, none⟩ = some (.int .i64 a1_1) := (blk_cell BK324.out 1).trans rfl; have hcz17_2 : w15.cell? ⟨gb324, 2, none⟩ = some (.bool a1_2) := (blk_cell BK324.out 2).trans rfl; have hcz17_3 : w15.cell? ⟨gb324, 3, none⟩ = some (.slice A1_3 l1_3.length c1_3) := (blk_cell BK324.out 3).trans rfl; have hcz17_4 : w15.cell? ⟨gb324, 4, none⟩ = some (.slice A1_4 l1_4.length c1_4) := (blk_cell BK324.out 4).trans rfl; have hcz17_5 : w15.cell? ⟨gb324, 5, none⟩ = some (.bool a1_5) := (blk_cell BK324.out 5).trans rfl; have hfz17_0 := bf_ BK324.out 0; have hfz17_1 := bf_ BK324.out 1; have hfz17_2 := bf_ BK324.out 2; have hfz17_3 := bf_ BK324.out 3; have hfz17_4 := bf_ BK324.out 4; have hfz17_5 := bf_ BK324.out 5) | (go_at_call 48; (with_reducible refine (banksmanref08_Writes.calls k _ _ l0_4 _ _ l1_4 true _ ?side1 ?side2 ?side3 ?side4 A5.out).mono ?_); (case side1 => repeat (first | exact (kB_ HR0_4.out HB.out) | (with_reducible first | refine kA_ ?_ _ | refine kN_ ?_ _ | refine kD_ ?_))); (case side2 => exact HC0_4.out); (case side3 => repeat (first | exact (kB_ HR1_4.out HB.out) | (with_reducible first | refine kA_ ?_ _ | refine kN_ ?_ _ | refine kD_ ?_))); (case side4 => exact HC1_4.out); rintro e w' ⟨rfl, ⟨nd, rfl⟩⟩))
           go_ret
           exact ⟨by first | rfl | (simp [errW_none, errW_some] <;> rfl) | (simp [*, errW_none, errW_some] <;> rfl), by repeat (first | (with_reducible first | exact HB.out | apply bA_ | apply dN_ | apply b1_ | refine below_set ?_ GE323.out | refine below_set ?_ GE324.out) | exact HB.out)⟩
         · rw [if_neg c9] at H
           have c9b0 : (a0_2 == a1_2) = false := by simpa using c9
           (try (have c9b1 : decide (a0_2 = a1_2) = false := by simpa using c9))
           (try (have c9b2 : (a0_2 == a1_2) = false := by simpa using c9))
           (try (have c9b3 : ¬ (a0_2 = a1_2) := by simpa using c9))
           clear c9
           obtain rfl := sO_ H
           go_enter Try.func31, Try.ntmps31
           go_wp2_with (first | ((with_reducible refine gate_dst (N := 2) rfl ?_); refine box_event ?hg (N := 2) ?hd (cs := #[.int .i64 a0_0, .int .i64 a0_1, .bool a0_2, .slice A0_3 l0_3.length c0_3, .slice A0_4 l0_4.length c0_4, .bool a0_5]) (t := 50) ?hr ?_; (case hd => rfl); (case hg => rfl); (case hr => first | (go_simp; done) | (go_simp; rfl)); intro gb323 hg w18 hbox hb; have n0_ := m0_ (below_step (by repeat (first | (with_reducible first | exact HB.out | apply bA_ | apply dN_ | apply b1_) | exact HB.out)) hb); have n1_ := m0_ (hbox); have n2_ := m0_ ((by rw [hg]; exact (below_size (by repeat (first | (with_reducible first | exact HB.out | apply bA_ | apply dN_ | apply b1_) | exact HB.out))) : w.heap.size ≤ gb323)); have n3_ := m0_ ((by rw [hg]; exact (below_size (by repeat (first | (with_reducible first | exact HB.out | apply bA_ | apply dN_ | apply b1_) | exact HB.out))) : w.heap.size ≤ gb323)); clear HB; have HB := n0_; have BK323 := n1_; have GW323 := n2_; have GE323 := n3_; clear n0_ n1_ n2_ n3_; clear hb hbox hg) | ((with_reducible refine gate_dst (N := 3) rfl ?_); refine box_event ?hg (N := 3) ?hd (cs := #[.int .i64 a1_0, .int .i64 a1_1, .bool a1_2, .slice A1_3 l1_3.length c1_3, .slice A1_4 l1_4.length c1_4, .bool a1_5]) (t := 50) ?hr ?_; (case hd => rfl); (case hg => rfl); (case hr => first | (go_simp; done) | (go_simp; rfl)); intro gb324 hg w19 hbox hb; have n0_ := m0_ (blk_below (g := gb323) (o := .cells #[.int .i64 a0_0, .int .i64 a0_1, .bool a0_2, .slice A0_3 l0_3.length c0_3, .slice A0_4 l0_4.length c0_4, .bool a0_5] 50 (0, 0)) (by (with_reducible repeat (first | refine blk_drewN ?_ _ | refine blk_drew ?_ | refine blk_alloc ?_ _)); exact BK323.out) hb); have n1_ := m0_ (below_step (by repeat (first | (with_reducible first | exact HB.out | apply bA_ | apply dN_ | apply b1_ | refine below_set ?_ GE323.out) | exact HB.out)) hb); have n2_ := m0_ (hbox); have n3_ := m0_ ((by rw [hg]; exact (below_size (by repeat (first | (with_reducible first | exact HB.out | apply bA_ | apply dN_ | apply b1_ | refine below_set ?_ GE323.out) | exact HB.out))) : w.heap.size ≤ gb324)); have n4_ := m0_ ((by rw [hg]; exact (below_size (by repeat (first | (with_reducible first | exact HB.out | apply bA_ | apply dN_ | apply b1_ | refine below_set ?_ GE323.out) | exact HB.out))) : w.heap.size ≤ gb324)); have n5_ := m0_ ((by rw [hg]; exact Nat.ne_of_lt (blk_lt (g := gb323) (o := .cells #[.int .i64 a0_0, .int .i64 a0_1, .bool a0_2, .slice A0_3 l0_3.length c0_3, .slice A0_4 l0_4.length c0_4, .bool a0_5] 50 (0, 0)) (by (with_reducible repeat (first | refine blk_drewN ?_ _ | refine blk_drew ?_ | refine blk_alloc ?_ _)); exact BK323.out)) : gb323 ≠ gb324)); have n6_ := m0_ ((by rw [hg]; exact Nat.ne_of_gt (blk_lt (g := gb323) (o := .cells #[.int .i64 a0_0, .int .i64 a0_1, .bool a0_2, .slice A0_3 l0_3.length c0_3, .slice A0_4 l0_4.length c0_4, .bool a0_5] 50 (0, 0)) (by (with_reducible repeat (first | refine blk_drewN ?_ _ | refine blk_drew ?_ | refine blk_alloc ?_ _)); exact BK323.out)) : gb324 ≠ gb323)); clear BK323; clear HB; have BK323 := n0_; have HB := n1_; have BK324 := n2_; have GW324 := n3_; have GE324 := n4_; have NB323_324 := n5_; have NB324_323 := n6_; clear n0_ n1_ n2_ n3_ n4_ n5_ n6_; clear hb hbox hg; have hnb20 := NB323_324.out; have hnc20 := NB324_323.out; have hcz21_0 : w19.cell? ⟨gb323, 0, none⟩ = some (.int .i64 a0_0) := (blk_cell BK323.out 0).trans rfl; have hcz21_1 : w19.cell? ⟨gb323, 1, none⟩ = some (.int .i64 a0_1) := (blk_cell BK323.out 1).trans rfl; have hcz21_2 : w19.cell? ⟨gb323, 2, none⟩ = some (.bool a0_2) := (blk_cell BK323.out 2).trans rfl; have hcz21_3 : w19.cell? ⟨gb323, 3, none⟩ = some (.slice A0_3 l0_3.length c0_3) := (blk_cell BK323.out 3).trans rfl; have hcz21_4 : w19.cell? ⟨gb323, 4, none⟩ = some (.slice A0_4 l0_4.length c0_4) := (blk_cell BK323.out 4).trans rfl; have hcz21_5 : w19.cell? ⟨gb323, 5, none⟩ = some (.bool a0_5) := (blk_cell BK323.out 5).trans rfl; have hfz21_0 := bf_ BK323.out 0; have hfz21_1 := bf_ BK323.out 1; have hfz21_2 := bf_ BK323.out 2; have hfz21_3 := bf_ BK323.out 3; have hfz21_4 := bf_ BK323.out 4; have hfz21_5 := bf_ BK323.out 5; have hcz22_0 : w19.cell? ⟨gb324, 0, none⟩ = some (.int .i64 a1_0) := (blk_cell BK324.out 0).trans rfl; have hcz22_1 : w19.cell? ⟨gb324, 1, none⟩ = some (.int .i64 a1_1) := (blk_cell BK324.out 1).trans rfl; have hcz22_2 : w19.cell? ⟨gb324, 2, none⟩ = some (.bool a1_2) := (blk_cell BK324.out 2).trans rfl; have hcz22_3 : w19.cell? ⟨gb324, 3, none⟩ = some (.slice A1_3 l1_3.length c1_3) := (blk_cell BK324.out 3).trans rfl; have hcz22_4 : w19.cell? ⟨gb324, 4, none⟩ = some (.slice A1_4 l1_4.length c1_4) := (blk_cell BK324.out 4).trans rfl; have hcz22_5 : w19.cell? ⟨gb324, 5, none⟩ = some (.bool a1_5) := (blk_cell BK324.out 5).trans rfl; have hfz22_0 := bf_ BK324.out 0; have hfz22_1 := bf_ BK324.out 1; have hfz22_2 := bf_ BK324.out 2; have hfz22_3 := bf_ BK324.out 3; have hfz22_4 := bf_ BK324.out 4; have hfz22_5 := bf_ BK324.out 5) | ((with_reducible refine gate_callee (f := 47) rfl ?_); refine goesL_ (some 10) rfl rfl Try.func47 (by kernel_rfl) rfl #[.slice A0_3 l0_3.length c0_3, .slice A1_3 l1_3.length c1_3] rfl (by (try simp only [mT_, mC_, mN_]); first | done | rfl | (simp only [lD_, lT_]; rfl)) ?_; (with_reducible refine (banksmanref10_Same.calls k _ _ l0_3 _ _ l1_3 true _ ?side1 ?side2 ?side3 ?side4 A3.out).mono ?_); (case side1 => repeat (first | exact (kB_ HR0_3.out HB.out) | (with_reducible first | refine kA_ ?_ _ | refine kN_ ?_ _ | refine kD_ ?_))); (case side2 => exact HC0_3.out); (case side3 => repeat (first | exact (kB_ HR1_3.out HB.out) | (with_reducible first | refine kA_ ?_ _ | refine kN_ ?_ _ | refine kD_ ?_))); (case side4 => exact HC1_3.out); rintro e w23 ⟨rfl, hb⟩; refine ⟨_, rfl, ?_⟩; have n0_ := m0_ (blk_below (g := gb323) (o := .cells #[.int .i64 a0_0, .int .i64 a0_1, .bool a0_2, .slice A0_3 l0_3.length c0_3, .slice A0_4 l0_4.length c0_4, .bool a0_5] 50 (0, 0)) (by (with_reducible repeat (first | refine blk_drewN ?_ _ | refine blk_drew ?_ | refine blk_alloc ?_ _)); exact BK323.out) hb); have n1_ := m0_ (blk_below (g := gb324) (o := .cells #[.int .i64 a1_0, .int .i64 a1_1, .bool a1_2, .slice A1_3 l1_3.length c1_3, .slice A1_4 l1_4.length c1_4, .bool a1_5] 50 (0, 0)) (by (with_reducible repeat (first | refine blk_drewN ?_ _ | refine blk_drew ?_ | refine blk_alloc ?_ _)); exact BK324.out) hb); have n2_ := m0_ (below_step (by repeat (first | (with_reducible first | exact HB.out | apply bA_ | apply dN_ | apply b1_ | refine below_set ?_ GE323.out | refine below_set ?_ GE324.out) | exact HB.out)) hb); clear BK323; clear BK324; clear HB; have BK323 := n0_; have BK324 := n1_; have HB := n2_; clear n0_ n1_ n2_; (try clear hb); (try clear hb2); (try clear hk); (try clear hi); have hcz24_0 : w23.cell? ⟨gb323, 0, none⟩ = some (.int .i64 a0_0) := (blk_cell BK323.out 0).trans rfl; have hcz24_1 : w23.cell? ⟨gb323, 1, none⟩ = some (.int .i64 a0_1) := (blk_cell BK323.out 1).trans rfl; have hcz24_2 : w23.cell? ⟨gb323, 2, none⟩ = some (.bool a0_2) := (blk_cell BK323.out 2).trans rfl; have hcz24_3 : w23.cell? ⟨gb323, 3, none⟩ = some (.slice A0_3 l0_3.length c0_3) := (blk_cell BK323.out 3).trans rfl; have hcz24_4 : w23.cell? ⟨gb323, 4, none⟩ = some (.slice A0_4 l0_4.length c0_4) := (blk_cell BK323.out 4).trans rfl; have hcz24_5 : w23.cell? ⟨gb323, 5, none⟩ = some (.bool a0_5) := (blk_cell BK323.out 5).trans rfl; have hfz24_0 := bf_ BK323.out 0; have hfz24_1 := bf_ BK323.out 1; have hfz24_2 := bf_ BK323.out 2; have hfz24_3 := bf_ BK323.out 3; have hfz24_4 := bf_ BK323.out 4; have hfz24_5 := bf_ BK323.out 5; have hcz25_0 : w23.cell? ⟨gb324, 0, none⟩ = some (.int .i64 a1_0) := (blk_cell BK324.out 0).trans rfl; have hcz25_1 : w23.cell? ⟨gb324, 1, none⟩ = some (.int .i64 a1_1) := (blk_cell BK324.out 1).trans rfl; have hcz25_2 : w23.cell? ⟨gb324, 2, none⟩ = some (.bool a1_2) := (blk_cell BK324.out 2).trans rfl; have hcz25_3 : w23.cell? ⟨gb324, 3, none⟩ = some (.slice A1_3 l1_3.length c1_3) := (blk_cell BK324.out 3).trans rfl; have hcz25_4 : w23.cell? ⟨gb324, 4, none⟩ = some (.slice A1_4 l1_4.length c1_4) := (blk_cell BK324.out 4).trans rfl; have hcz25_5 : w23.cell? ⟨gb324, 5, none⟩ = some (.bool a1_5) := (blk_cell BK324.out 5).trans rfl; have hfz25_0 := bf_ BK324.out 0; have hfz25_1 := bf_ BK324.out 1; have hfz25_2 := bf_ BK324.out 2; have hfz25_3 := bf_ BK324.out 3; have hfz25_4 := bf_ BK324.out 4; have hfz25_5 := bf_ BK324.out 5) | (go_at_call 48; (with_reducible refine (banksmanref08_Writes.calls k _ _ l0_4 _ _ l1_4 true _ ?side1 ?side2 ?side3 ?side4 A5.out).mono ?_); (case side1 => repeat (first | exact (kB_ HR0_4.out HB.out) | (with_reducible first | refine kA_ ?_ _ | refine kN_ ?_ _ | refine kD_ ?_))); (case side2 => exact HC0_4.out); (case side3 => repeat (first | exact (kB_ HR1_4.out HB.out) | (with_reducible first | refine kA_ ?_ _ | refine kN_ ?_ _ | refine kD_ ?_))); (case side4 => exact HC1_4.out); rintro e w' ⟨rfl, ⟨nd, rfl⟩⟩))
           go_ret
           exact ⟨by first | rfl | (simp [errW_none, errW_some] <;> rfl) | (simp [*, errW_none, errW_some] <;> rfl), by repeat (first | (with_reducible first | exact HB.out | apply bA_ | apply dN_ | apply b1_ | refine below_set ?_ GE323.out | refine below_set ?_ GE324.out) | exact HB.out)⟩
       · rw [if_neg c8] at H
         have c8b0 : (a0_1 == a1_1) = false := beq_eq_false_iff_ne.mpr c8
         have c8b1 : (a0_1 != a1_1) = true := bne_iff_ne.mpr c8
         obtain rfl := sO_ H
         go_enter Try.func31, Try.ntmps31
         go_wp2_with (first | ((with_reducible refine gate_dst (N := 2) rfl ?_); refine box_event ?hg (N := 2) ?hd (cs := #[.int .i64 a0_0, .int .i64 a0_1, .bool a0_2, .slice A0_3 l0_3.length c0_3, .slice A0_4 l0_4.length c0_4, .bool a0_5]) (t := 50) ?hr ?_; (case hd => rfl); (case hg => rfl); (case hr => first | (go_simp; done) | (go_simp; rfl)); intro gb323 hg w26 hbox hb; have n0_ := m0_ (below_step (by repeat (first | (with_reducible first | exact HB.out | apply bA_ | apply dN_ | apply b1_) | exact HB.out)) hb); have n1_ := m0_ (hbox); have n2_ := m0_ ((by rw [hg]; exact (below_size (by repeat (first | (with_reducible first | exact HB.out | apply bA_ | apply dN_ | apply b1_) | exact HB.out))) : w.heap.size ≤ gb323)); have n3_ := m0_ ((by rw [hg]; exact (below_size (by repeat (first | (with_reducible first | exact HB.out | apply bA_ | apply dN_ | apply b1_) | exact HB.out))) : w.heap.size ≤ gb323)); clear HB; have HB := n0_; have BK323 := n1_; have GW323 := n2_; have GE323 := n3_; clear n0_ n1_ n2_ n3_; clear hb hbox hg) | ((with_reducible refine gate_dst (N := 3) rfl ?_); refine box_event ?hg (N := 3) ?hd (cs := #[.int .i64 a1_0, .int .i64 a1_1, .bool a1_2, .slice A1_3 l1_3.length c1_3, .slice A1_4 l1_4.length c1_4, .bool a1_5]) (t := 50) ?hr ?_; (case hd => rfl); (case hg => rfl); (case hr => first | (go_simp; done) | (go_simp; rfl)); intro gb324 hg w27 hbox hb; have n0_ := m0_ (blk_below (g := gb323) (o := .cells #[.int .i64 a0_0, .int .i64 a0_1, .bool a0_2, .slice A0_3 l0_3.length c0_3, .slice A0_4 l0_4.length c0_4, .bool a0_5] 50 (0, 0)) (by (with_reducible repeat (first | refine blk_drewN ?_ _ | refine blk_drew ?_ | refine blk_alloc ?_ _)); exact BK323.out) hb); have n1_ := m0_ (below_step (by repeat (first | (with_reducible first | exact HB.out | apply bA_ | apply dN_ | apply b1_ | refine below_set ?_ GE323.out) | exact HB.out)) hb); have n2_ := m0_ (hbox); have n3_ := m0_ ((by rw [hg]; exact (below_size (by repeat (first | (with_reducible first | exact HB.out | apply bA_ | apply dN_ | apply b1_ | refine below_set ?_ GE323.out) | exact HB.out))) : w.heap.size ≤ gb324)); have n4_ := m0_ ((by rw [hg]; exact (below_size (by repeat (first | (with_reducible first | exact HB.out | apply bA_ | apply dN_ | apply b1_ | refine below_set ?_ GE323.out) | exact HB.out))) : w.heap.size ≤ gb324)); have n5_ := m0_ ((by rw [hg]; exact Nat.ne_of_lt (blk_lt (g := gb323) (o := .cells #[.int .i64 a0_0, .int .i64 a0_1, .bool a0_2, .slice A0_3 l0_3.length c0_3, .slice A0_4 l0_4.length c0_4, .bool a0_5] 50 (0, 0)) (by (with_reducible repeat (first | refine blk_drewN ?_ _ | refine blk_drew ?_ | refine blk_alloc ?_ _)); exact BK323.out)) : gb323 ≠ gb324)); have n6_ := m0_ ((by rw [hg]; exact Nat.ne_of_gt (blk_lt (g := gb323) (o := .cells #[.int .i64 a0_0, .int .i64 a0_1, .bool a0_2, .slice A0_3 l0_3.length c0_3, .slice A0_4 l0_4.length c0_4, .bool a0_5] 50 (0, 0)) (by (with_reducible repeat (first | refine blk_drewN ?_ _ | refine blk_drew ?_ | refine blk_alloc ?_ _)); exact BK323.out)) : gb324 ≠ gb323)); clear BK323; clear HB; have BK323 := n0_; have HB := n1_; have BK324 := n2_; have GW324 := n3_; have GE324 := n4_; have NB323_324 := n5_; have NB324_323 := n6_; clear n0_ n1_ n2_ n3_ n4_ n5_ n6_; clear hb hbox hg; have hnb28 := NB323_324.out; have hnc28 := NB324_323.out; have hcz29_0 : w27.cell? ⟨gb323, 0, none⟩ = some (.int .i64 a0_0) := (blk_cell BK323.out 0).trans rfl; have hcz29_1 : w27.cell? ⟨gb323, 1, none⟩ = some (.int .i64 a0_1) := (blk_cell BK323.out 1).trans rfl; have hcz29_2 : w27.cell? ⟨gb323, 2, none⟩ = some (.bool a0_2) := (blk_cell BK323.out 2).trans rfl; have hcz29_3 : w27.cell? ⟨gb323, 3, none⟩ = some (.slice A0_3 l0_3.length c0_3) := (blk_cell BK323.out 3).trans rfl; have hcz29_4 : w27.cell? ⟨gb323, 4, none⟩ = some (.slice A0_4 l0_4.length c0_4) := (blk_cell BK323.out 4).trans rfl; have hcz29_5 : w27.cell? ⟨gb323, 5, none⟩ = some (.bool a0_5) := (blk_cell BK323.out 5).trans rfl; have hfz29_0 := bf_ BK323.out 0; have hfz29_1 := bf_ BK323.out 1; have hfz29_2 := bf_ BK323.out 2; have hfz29_3 := bf_ BK323.out 3; have hfz29_4 := bf_ BK323.out 4; have hfz29_5 := bf_ BK323.out 5; have hcz30_0 : w27.cell? ⟨gb324, 0, none⟩ = some (.int .i64 a1_0) := (blk_cell BK324.out 0).trans rfl; have hcz30_1 : w27.cell? ⟨gb324, 1, none⟩ = some (.int .i64 a1_1) := (blk_cell BK324.out 1).trans rfl; have hcz30_2 : w27.cell? ⟨gb324, 2, none⟩ = some (.bool a1_2) := (blk_cell BK324.out 2).trans rfl; have hcz30_3 : w27.cell? ⟨gb324, 3, none⟩ = some (.slice A1_3 l1_3.length c1_3) := (blk_cell BK324.out 3).trans rfl; have hcz30_4 : w27.cell? ⟨gb324, 4, none⟩ = some (.slice A1_4 l1_4.length c1_4) := (blk_cell BK324.out 4).trans rfl; have hcz30_5 : w27.cell? ⟨gb324, 5, none⟩ = some (.bool a1_5) := (blk_cell BK324.out 5).trans rfl; have hfz30_0 := bf_ BK324.out 0; have hfz30_1 := bf_ BK324.out 1; have hfz30_2 := bf_ BK324.out 2; have hfz30_3 := bf_ BK324.out 3; have hfz30_4 := bf_ BK324.out 4; have hfz30_5 := bf_ BK324.out 5) | ((with_reducible refine gate_callee (f := 47) rfl ?_); refine goesL_ (some 10) rfl rfl Try.func47 (by kernel_rfl) rfl #[.slice A0_3 l0_3.length c0_3, .slice A1_3 l1_3.length c1_3] rfl (by (try simp only [mT_, mC_, mN_]); first | done | rfl | (simp only [lD_, lT_]; rfl)) ?_; (with_reducible refine (banksmanref10_Same.calls k _ _ l0_3 _ _ l1_3 true _ ?side1 ?side2 ?side3 ?side4 A3.out).mono ?_); (case side1 => repeat (first | exact (kB_ HR0_3.out HB.out) | (with_reducible first | refine kA_ ?_ _ | refine kN_ ?_ _ | refine kD_ ?_))); (case side2 => exact HC0_3.out); (case side3 => repeat (first | exact (kB_ HR1_3.out HB.out) | (with_reducible first | refine kA_ ?_ _ | refine kN_ ?_ _ | refine kD_ ?_))); (case side4 => exact HC1_3.out); rintro e w31 ⟨rfl, hb⟩; refine ⟨_, rfl, ?_⟩; have n0_ := m0_ (blk_below (g := gb323) (o := .cells #[.int .i64 a0_0, .int .i64 a0_1, .bool a0_2, .slice A0_3 l0_3.length c0_3, .slice A0_4 l0_4.length c0_4, .bool a0_5] 50 (0, 0)) (by (with_reducible repeat (first | refine blk_drewN ?_ _ | refine blk_drew ?_ | refine blk_alloc ?_ _)); exact BK323.out) hb); have n1_ := m0_ (blk_below (g := gb324) (o := .cells #[.int .i64 a1_0, .int .i64 a1_1, .bool a1_2, .slice A1_3 l1_3.length c1_3, .slice A1_4 l1_4.length c1_4, .bool a1_5] 50 (0, 0)) (by (with_reducible repeat (first | refine blk_drewN ?_ _ | refine blk_drew ?_ | refine blk_alloc ?_ _)); exact BK324.out) hb); have n2_ := m0_ (below_step (by repeat (first | (with_reducible first | exact HB.out | apply bA_ | apply dN_ | apply b1_ | refine below_set ?_ GE323.out | refine below_set ?_ GE324.out) | exact HB.out)) hb); clear BK323; clear BK324; clear HB; have BK323 := n0_; have BK324 := n1_; have HB := n2_; clear n0_ n1_ n2_; (try clear hb); (try clear hb2); (try clear hk); (try clear hi); have hcz32_0 : w31.cell? ⟨gb323, 0, none⟩ = some (.int .i64 a0_0) := (blk_cell BK323.out 0).trans rfl; have hcz32_1 : w31.cell? ⟨gb323, 1, none⟩ = some (.int .i64 a0_1) := (blk_cell BK323.out 1).trans rfl; have hcz32_2 : w31.cell? ⟨gb323, 2, none⟩ = some (.bool a0_2) := (blk_cell BK323.out 2).trans rfl; have hcz32_3 : w31.cell? ⟨gb323, 3, none⟩ = some (.slice A0_3 l0_3.length c0_3) := (blk_cell BK323.out 3).trans rfl; have hcz32_4 : w31.cell? ⟨gb323, 4, none⟩ = some (.slice A0_4 l0_4.length c0_4) := (blk_cell BK323.out 4).trans rfl; have hcz32_5 : w31.cell? ⟨gb323, 5, none⟩ = some (.bool a0_5) := (blk_cell BK323.out 5).trans rfl; have hfz32_0 := bf_ BK323.out 0; have hfz32_1 := bf_ BK323.out 1; have hfz32_2 := bf_ BK323.out 2; have hfz32_3 := bf_ BK323.out 3; have hfz32_4 := bf_ BK323.out 4; have hfz32_5 := bf_ BK323.out 5; have hcz33_0 : w31.cell? ⟨gb324, 0, none⟩ = some (.int .i64 a1_0) := (blk_cell BK324.out 0).trans rfl; have hcz33_1 : w31.cell? ⟨gb324, 1, none⟩ = some (.int .i64 a1_1) := (blk_cell BK324.out 1).trans rfl; have hcz33_2 : w31.cell? ⟨gb324, 2, none⟩ = some (.bool a1_2) := (blk_cell BK324.out 2).trans rfl; have hcz33_3 : w31.cell? ⟨gb324, 3, none⟩ = some (.slice A1_3 l1_3.length c1_3) := (blk_cell BK324.out 3).trans rfl; have hcz33_4 : w31.cell? ⟨gb324, 4, none⟩ = some (.slice A1_4 l1_4.length c1_4) := (blk_cell BK324.out 4).trans rfl; have hcz33_5 : w31.cell? ⟨gb324, 5, none⟩ = some (.bool a1_5) := (blk_cell BK324.out 5).trans rfl; have hfz33_0 := bf_ BK324.out 0; have hfz33_1 := bf_ BK324.out 1; have hfz33_2 := bf_ BK324.out 2; have hfz33_3 := bf_ BK324.out 3; have hfz33_4 := bf_ BK324.out 4; have hfz33_5 := bf_ BK324.out 5) | (go_at_call 48; (with_reducible refine (banksmanref08_Writes.calls k _ _ l0_4 _ _ l1_4 true _ ?side1 ?side2 ?side3 ?side4 A5.out).mono ?_); (case side1 => repeat (first | exact (kB_ HR0_4.out HB.out) | (with_reducible first | refine kA_ ?_ _ | refine kN_ ?_ _ | refine kD_ ?_))); (case side2 => exact HC0_4.out); (case side3 => repeat (first | exact (kB_ HR1_4.out HB.out) | (with_reducible first | refine kA_ ?_ _ | refine kN_ ?_ _ | refine kD_ ?_))); (case side4 => exact HC1_4.out); rintro e w' ⟨rfl, ⟨nd, rfl⟩⟩))
         go_ret
         exact ⟨by first | rfl | (simp [errW_none, errW_some] <;> rfl) | (simp [*, errW_none, errW_some] <;> rfl), by repeat (first | (with_reducible first | exact HB.out | apply bA_ | apply dN_ | apply b1_ | refine below_set ?_ GE323.out | refine below_set ?_ GE324.out) | exact HB.out)⟩
     · rw [if_neg c7] at H
       have c7b0 : (a0_0 == a1_0) = false := beq_eq_false_iff_ne.mpr c7
       have c7b1 : (a0_0 != a1_0) = true := bne_iff_ne.mpr c7
       obtain rfl := sO_ H
       go_enter Try.func31, Try.ntmps31
       go_wp2_with (first | ((with_reducible refine gate_dst (N := 2) rfl ?_); refine box_event ?hg (N := 2) ?hd (cs := #[.int .i64 a0_0, .int .i64 a0_1, .bool a0_2, .slice A0_3 l0_3.length c0_3, .slice A0_4 l0_4.length c0_4, .bool a0_5]) (t := 50) ?hr ?_; (case hd => rfl); (case hg => rfl); (case hr => first | (go_simp; done) | (go_simp; rfl)); intro gb323 hg w34 hbox hb; have n0_ := m0_ (below_step (by repeat (first | (with_reducible first | exact HB.out | apply bA_ | apply dN_ | apply b1_) | exact HB.out)) hb); have n1_ := m0_ (hbox); have n2_ := m0_ ((by rw [hg]; exact (below_size (by repeat (first | (with_reducible first | exact HB.out | apply bA_ | apply dN_ | apply b1_) | exact HB.out))) : w.heap.size ≤ gb323)); have n3_ := m0_ ((by rw [hg]; exact (below_size (by repeat (first | (with_reducible first | exact HB.out | apply bA_ | apply dN_ | apply b1_) | exact HB.out))) : w.heap.size ≤ gb323)); clear HB; have HB := n0_; have BK323 := n1_; have GW323 := n2_; have GE323 := n3_; clear n0_ n1_ n2_ n3_; clear hb hbox hg) | ((with_reducible refine gate_dst (N := 3) rfl ?_); refine box_event ?hg (N := 3) ?hd (cs := #[.int .i64 a1_0, .int .i64 a1_1, .bool a1_2, .slice A1_3 l1_3.length c1_3, .slice A1_4 l1_4.length c1_4, .bool a1_5]) (t := 50) ?hr ?_; (case hd => rfl); (case hg => rfl); (case hr => first | (go_simp; done) | (go_simp; rfl)); intro gb324 hg w35 hbox hb; have n0_ := m0_ (blk_below (g := gb323) (o := .cells #[.int .i64 a0_0, .int .i64 a0_1, .bool a0_2, .slice A0_3 l0_3.length c0_3, .slice A0_4 l0_4.length c0_4, .bool a0_5] 50 (0, 0)) (by (with_reducible repeat (first | refine blk_drewN ?_ _ | refine blk_drew ?_ | refine blk_alloc ?_ _)); exact BK323.out) hb); have n1_ := m0_ (below_step (by repeat (first | (with_reducible first | exact HB.out | apply bA_ | apply dN_ | apply b1_ | refine below_set ?_ GE323.out) | exact HB.out)) hb); have n2_ := m0_ (hbox); have n3_ := m0_ ((by rw [hg]; exact (below_size (by repeat (first | (with_reducible first | exact HB.out | apply bA_ | apply dN_ | apply b1_ | refine below_set ?_ GE323.out) | exact HB.out))) : w.heap.size ≤ gb324)); have n4_ := m0_ ((by rw [hg]; exact (below_size (by repeat (first | (with_reducible first | exact HB.out | apply bA_ | apply dN_ | apply b1_ | refine below_set ?_ GE323.out) | exact HB.out))) : w.heap.size ≤ gb324)); have n5_ := m0_ ((by rw [hg]; exact Nat.ne_of_lt (blk_lt (g := gb323) (o := .cells #[.int .i64 a0_0, .int .i64 a0_1, .bool a0_2, .slice A0_3 l0_3.length c0_3, .slice A0_4 l0_4.length c0_4, .bool a0_5] 50 (0, 0)) (by (with_reducible repeat (first | refine blk_drewN ?_ _ | refine blk_drew ?_ | refine blk_alloc ?_ _)); exact BK323.out)) : gb323 ≠ gb324)); have n6_ := m0_ ((by rw [hg]; exact Nat.ne_of_gt (blk_lt (g := gb323) (o := .cells #[.int .i64 a0_0, .int .i64 a0_1, .bool a0_2, .slice A0_3 l0_3.length c0_3, .slice A0_4 l0_4.length c0_4, .bool a0_5] 50 (0, 0)) (by (with_reducible repeat (first | refine blk_drewN ?_ _ | refine blk_drew ?_ | refine blk_alloc ?_ _)); exact BK323.out)) : gb324 ≠ gb323)); clear BK323; clear HB; have BK323 := n0_; have HB := n1_; have BK324 := n2_; have GW324 := n3_; have GE324 := n4_; have NB323_324 := n5_; have NB324_323 := n6_; clear n0_ n1_ n2_ n3_ n4_ n5_ n6_; clear hb hbox hg; have hnb36 := NB323_324.out; have hnc36 := NB324_323.out; have hcz37_0 : w35.cell? ⟨gb323, 0, none⟩ = some (.int .i64 a0_0) := (blk_cell BK323.out 0).trans rfl; have hcz37_1 : w35.cell? ⟨gb323, 1, none⟩ = some (.int .i64 a0_1) := (blk_cell BK323.out 1).trans rfl; have hcz37_2 : w35.cell? ⟨gb323, 2, none⟩ = some (.bool a0_2) := (blk_cell BK323.out 2).trans rfl; have hcz37_3 : w35.cell? ⟨gb323, 3, none⟩ = some (.slice A0_3 l0_3.length c0_3) := (blk_cell BK323.out 3).trans rfl; have hcz37_4 : w35.cell? ⟨gb323, 4, none⟩ = some (.slice A0_4 l0_4.length c0_4) := (blk_cell BK323.out 4).trans rfl; have hcz37_5 : w35.cell? ⟨gb323, 5, none⟩ = some (.bool a0_5) := (blk_cell BK323.out 5).trans rfl; have hfz37_0 := bf_ BK323.out 0; have hfz37_1 := bf_ BK323.out 1; have hfz37_2 := bf_ BK323.out 2; have hfz37_3 := bf_ BK323.out 3; have hfz37_4 := bf_ BK323.out 4; have hfz37_5 := bf_ BK323.out 5; have hcz38_0 : w35.cell? ⟨gb324, 0, none⟩ = some (.int .i64 a1_0) := (blk_cell BK324.out 0).trans rfl; have hcz38_1 : w35.cell? ⟨gb324, 1, none⟩ = some (.int .i64 a1_1) := (blk_cell BK324.out 1).trans rfl; have hcz38_2 : w35.cell? ⟨gb324, 2, none⟩ = some (.bool a1_2) := (blk_cell BK324.out 2).trans rfl; have hcz38_3 : w35.cell? ⟨gb324, 3, none⟩ = some (.slice A1_3 l1_3.length c1_3) := (blk_cell BK324.out 3).trans rfl; have hcz38_4 : w35.cell? ⟨gb324, 4, none⟩ = some (.slice A1_4 l1_4.length c1_4) := (blk_cell BK324.out 4).trans rfl; have hcz38_5 : w35.cell? ⟨gb324, 5, none⟩ = some (.bool a1_5) := (blk_cell BK324.out 5).trans rfl; have hfz38_0 := bf_ BK324.out 0; have hfz38_1 := bf_ BK324.out 1; have hfz38_2 := bf_ BK324.out 2; have hfz38_3 := bf_ BK324.out 3; have hfz38_4 := bf_ BK324.out 4; have hfz38_5 := bf_ BK324.out 5) | ((with_reducible refine gate_callee (f := 47) rfl ?_); refine goesL_ (some 10) rfl rfl Try.func47 (by kernel_rfl) rfl #[.slice A0_3 l0_3.length c0_3, .slice A1_3 l1_3.length c1_3] rfl (by (try simp only [mT_, mC_, mN_]); first | done | rfl | (simp only [lD_, lT_]; rfl)) ?_; (with_reducible refine (banksmanref10_Same.calls k _ _ l0_3 _ _ l1_3 true _ ?side1 ?side2 ?side3 ?side4 A3.out).mono ?_); (case side1 => repeat (first | exact (kB_ HR0_3.out HB.out) | (with_reducible first | refine kA_ ?_ _ | refine kN_ ?_ _ | refine kD_ ?_))); (case side2 => exact HC0_3.out); (case side3 => repeat (first | exact (kB_ HR1_3.out HB.out) | (with_reducible first | refine kA_ ?_ _ | refine kN_ ?_ _ | refine kD_ ?_))); (case side4 => exact HC1_3.out); rintro e w39 ⟨rfl, hb⟩; refine ⟨_, rfl, ?_⟩; have n0_ := m0_ (blk_below (g := gb323) (o := .cells #[.int .i64 a0_0, .int .i64 a0_1, .bool a0_2, .slice A0_3 l0_3.length c0_3, .slice A0_4 l0_4.length c0_4, .bool a0_5] 50 (0, 0)) (by (with_reducible repeat (first | refine blk_drewN ?_ _ | refine blk_drew ?_ | refine blk_alloc ?_ _)); exact BK323.out) hb); have n1_ := m0_ (blk_below (g := gb324) (o := .cells #[.int .i64 a1_0, .int .i64 a1_1, .bool a1_2, .slice A1_3 l1_3.length c1_3, .slice A1_4 l1_4.length c1_4, .bool a1_5] 50 (0, 0)) (by (with_reducible repeat (first | refine blk_drewN ?_ _ | refine blk_drew ?_ | refine blk_alloc ?_ _)); exact BK324.out) hb); have n2_ := m0_ (below_step (by repeat (first | (with_reducible first | exact HB.out | apply bA_ | apply dN_ | apply b1_ | refine below_set ?_ GE323.out | refine below_set ?_ GE324.out) | exact HB.out)) hb); clear BK323; clear BK324; clear HB; have BK323 := n0_; have BK324 := n1_; have HB := n2_; clear n0_ n1_ n2_; (try clear hb); (try clear hb2); (try clear hk); (try clear hi); have hcz40_0 : w39.cell? ⟨gb323, 0, none⟩ = some (.int .i64 a0_0) := (blk_cell BK323.out 0).trans rfl; have hcz40_1 : w39.cell? ⟨gb323, 1, none⟩ = some (.int .i64 a0_1) := (blk_cell BK323.out 1).trans rfl; have hcz40_2 : w39.cell? ⟨gb323, 2, none⟩ = some (.bool a0_2) := (blk_cell BK323.out 2).trans rfl; have hcz40_3 : w39.cell? ⟨gb323, 3, none⟩ = some (.slice A0_3 l0_3.length c0_3) := (blk_cell BK323.out 3).trans rfl; have hcz40_4 : w39.cell? ⟨gb323, 4, none⟩ = some (.slice A0_4 l0_4.length c0_4) := (blk_cell BK323.out 4).trans rfl; have hcz40_5 : w39.cell? ⟨gb323, 5, none⟩ = some (.bool a0_5) := (blk_cell BK323.out 5).trans rfl; have hfz40_0 := bf_ BK323.out 0; have hfz40_1 := bf_ BK323.out 1; have hfz40_2 := bf_ BK323.out 2; have hfz40_3 := bf_ BK323.out 3; have hfz40_4 := bf_ BK323.out 4; have hfz40_5 := bf_ BK323.out 5; have hcz41_0 : w39.cell? ⟨gb324, 0, none⟩ = some (.int .i64 a1_0) := (blk_cell BK324.out 0).trans rfl; have hcz41_1 : w39.cell? ⟨gb324, 1, none⟩ = some (.int .i64 a1_1) := (blk_cell BK324.out 1).trans rfl; have hcz41_2 : w39.cell? ⟨gb324, 2, none⟩ = some (.bool a1_2) := (blk_cell BK324.out 2).trans rfl; have hcz41_3 : w39.cell? ⟨gb324, 3, none⟩ = some (.slice A1_3 l1_3.length c1_3) := (blk_cell BK324.out 3).trans rfl; have hcz41_4 : w39.cell? ⟨gb324, 4, none⟩ = some (.slice A1_4 l1_4.length c1_4) := (blk_cell BK324.out 4).trans rfl; have hcz41_5 : w39.cell? ⟨gb324, 5, none⟩ = some (.bool a1_5) := (blk_cell BK324.out 5).trans rfl; have hfz41_0 := bf_ BK324.out 0; have hfz41_1 := bf_ BK324.out 1; have hfz41_2 := bf_ BK324.out 2; have hfz41_3 := bf_ BK324.out 3; have hfz41_4 := bf_ BK324.out 4; have hfz41_5 := bf_ BK324.out 5) | (go_at_call 48; (with_reducible refine (banksmanref08_Writes.calls k _ _ l0_4 _ _ l1_4 true _ ?side1 ?side2 ?side3 ?side4 A5.out).mono ?_); (case side1 => repeat (first | exact (kB_ HR0_4.out HB.out) | (with_reducible first | refine kA_ ?_ _ | refine kN_ ?_ _ | refine kD_ ?_))); (case side2 => exact HC0_4.out); (case side3 => repeat (first | exact (kB_ HR1_4.out HB.out) | (with_reducible first | refine kA_ ?_ _ | refine kN_ ?_ _ | refine kD_ ?_))); (case side4 => exact HC1_4.out); rintro e w' ⟨rfl, ⟨nd, rfl⟩⟩))
       go_ret
       exact ⟨by first | rfl | (simp [errW_none, errW_some] <;> rfl) | (simp [*, errW_none, errW_some] <;> rfl), by repeat (first | (with_reducible first | exact HB.out | apply bA_ | apply dN_ | apply b1_ | refine below_set ?_ GE323.out | refine below_set ?_ GE324.out) | exact HB.out)⟩
   · replace c6 := Bool.eq_false_iff.mpr c6
     subst c6
     have H1 : (some false) = some r := by rw [if_neg (show ¬ (false = true) by decide)] at H; exact H
     clear H
     have H := H1
     clear H1
     obtain rfl := sO_ H
     go_enter Try.func31, Try.ntmps31
     go_wp2_with (first | ((with_reducible refine gate_dst (N := 2) rfl ?_); refine box_event ?hg (N := 2) ?hd (cs := #[.int .i64 a0_0, .int .i64 a0_1, .bool a0_2, .slice A0_3 l0_3.length c0_3, .slice A0_4 l0_4.length c0_4, .bool a0_5]) (t := 50) ?hr ?_; (case hd => rfl); (case hg => rfl); (case hr => first | (go_simp; done) | (go_simp; rfl)); intro gb323 hg w42 hbox hb; have n0_ := m0_ (below_step (by repeat (first | (with_reducible first | exact HB.out | apply bA_ | apply dN_ | apply b1_) | exact HB.out)) hb); have n1_ := m0_ (hbox); have n2_ := m0_ ((by rw [hg]; exact (below_size (by repeat (first | (with_reducible first | exact HB.out | apply bA_ | apply dN_ | apply b1_) | exact HB.out))) : w.heap.size ≤ gb323)); have n3_ := m0_ ((by rw [hg]; exact (below_size (by repeat (first | (with_reducible first | exact HB.out | apply bA_ | apply dN_ | apply b1_) | exact HB.out))) : w.heap.size ≤ gb323)); clear HB; have HB := n0_; have BK323 := n1_; have GW323 := n2_; have GE323 := n3_; clear n0_ n1_ n2_ n3_; clear hb hbox hg) | ((with_reducible refine gate_dst (N := 3) rfl ?_); refine box_event ?hg (N := 3) ?hd (cs := #[.int .i64 a1_0, .int .i64 a1_1, .bool a1_2, .slice A1_3 l1_3.length c1_3, .slice A1_4 l1_4.length c1_4, .bool a1_5]) (t := 50) ?hr ?_; (case hd => rfl); (case hg => rfl); (case hr => first | (go_simp; done) | (go_simp; rfl)); intro gb324 hg w43 hbox hb; have n0_ := m0_ (blk_below (g := gb323) (o := .cells #[.int .i64 a0_0, .int .i64 a0_1, .bool a0_2, .slice A0_3 l0_3.length c0_3, .slice A0_4 l0_4.length c0_4, .bool a0_5] 50 (0, 0)) (by (with_reducible repeat (first | refine blk_drewN ?_ _ | refine blk_drew ?_ | refine blk_alloc ?_ _)); exact BK323.out) hb); have n1_ := m0_ (below_step (by repeat (first | (with_reducible first | exact HB.out | apply bA_ | apply dN_ | apply b1_ | refine below_set ?_ GE323.out) | exact HB.out)) hb); have n2_ := m0_ (hbox); have n3_ := m0_ ((by rw [hg]; exact (below_size (by repeat (first | (with_reducible first | exact HB.out | apply bA_ | apply dN_ | apply b1_ | refine below_set ?_ GE323.out) | exact HB.out))) : w.heap.size ≤ gb324)); have n4_ := m0_ ((by rw [hg]; exact (below_size (by repeat (first | (with_reducible first | exact HB.out | apply bA_ | apply dN_ | apply b1_ | refine below_set ?_ GE323.out) | exact HB.out))) : w.heap.size ≤ gb324)); have n5_ := m0_ ((by rw [hg]; exact Nat.ne_of_lt (blk_lt (g := gb323) (o := .cells #[.int .i64 a0_0, .int .i64 a0_1, .bool a0_2, .slice A0_3 l0_3.length c0_3, .slice A0_4 l0_4.length c0_4, .bool a0_5] 50 (0, 0)) (by (with_reducible repeat (first | refine blk_drewN ?_ _ | refine blk_drew ?_ | refine blk_alloc ?_ _)); exact BK323.out)) : gb323 ≠ gb324)); have n6_ := m0_ ((by rw [hg]; exact Nat.ne_of_gt (blk_lt (g := gb323) (o := .cells #[.int .i64 a0_0, .int .i64 a0_1, .bool a0_2, .slice A0_3 l0_3.length c0_3, .slice A0_4 l0_4.length c0_4, .bool a0_5] 50 (0, 0)) (by (with_reducible repeat (first | refine blk_drewN ?_ _ | refine blk_drew ?_ | refine blk_alloc ?_ _)); exact BK323.out)) : gb324 ≠ gb323)); clear BK323; clear HB; have BK323 := n0_; have HB := n1_; have BK324 := n2_; have GW324 := n3_; have GE324 := n4_; have NB323_324 := n5_; have NB324_323 := n6_; clear n0_ n1_ n2_ n3_ n4_ n5_ n6_; clear hb hbox hg; have hnb44 := NB323_324.out; have hnc44 := NB324_323.out; have hcz45_0 : w43.cell? ⟨gb323, 0, none⟩ = some (.int .i64 a0_0) := (blk_cell BK323.out 0).trans rfl; have hcz45_1 : w43.cell? ⟨gb323, 1, none⟩ = some (.int .i64 a0_1) := (blk_cell BK323.out 1).trans rfl; have hcz45_2 : w43.cell? ⟨gb323, 2, none⟩ = some (.bool a0_2) := (blk_cell BK323.out 2).trans rfl; have hcz45_3 : w43.cell? ⟨gb323, 3, none⟩ = some (.slice A0_3 l0_3.length c0_3) := (blk_cell BK323.out 3).trans rfl; have hcz45_4 : w43.cell? ⟨gb323, 4, none⟩ = some (.slice A0_4 l0_4.length c0_4) := (blk_cell BK323.out 4).trans rfl; have hcz45_5 : w43.cell? ⟨gb323, 5, none⟩ = some (.bool a0_5) := (blk_cell BK323.out 5).trans rfl; have hfz45_0 := bf_ BK323.out 0; have hfz45_1 := bf_ BK323.out 1; have hfz45_2 := bf_ BK323.out 2; have hfz45_3 := bf_ BK323.out 3; have hfz45_4 := bf_ BK323.out 4; have hfz45_5 := bf_ BK323.out 5; have hcz46_0 : w43.cell? ⟨gb324, 0, none⟩ = some (.int .i64 a1_0) := (blk_cell BK324.out 0).trans rfl; have hcz46_1 : w43.cell? ⟨gb324, 1, none⟩ = some (.int .i64 a1_1) := (blk_cell BK324.out 1).trans rfl; have hcz46_2 : w43.cell? ⟨gb324, 2, none⟩ = some (.bool a1_2) := (blk_cell BK324.out 2).trans rfl; have hcz46_3 : w43.cell? ⟨gb324, 3, none⟩ = some (.slice A1_3 l1_3.length c1_3) := (blk_cell BK324.out 3).trans rfl; have hcz46_4 : w43.cell? ⟨gb324, 4, none⟩ = some (.slice A1_4 l1_4.length c1_4) := (blk_cell BK324.out 4).trans rfl; have hcz46_5 : w43.cell? ⟨gb324, 5, none⟩ = some (.bool a1_5) := (blk_cell BK324.out 5).trans rfl; have hfz46_0 := bf_ BK324.out 0; have hfz46_1 := bf_ BK324.out 1; have hfz46_2 := bf_ BK324.out 2; have hfz46_3 := bf_ BK324.out 3; have hfz46_4 := bf_ BK324.out 4; have hfz46_5 := bf_ BK324.out 5) | ((with_reducible refine gate_callee (f := 47) rfl ?_); refine goesL_ (some 10) rfl rfl Try.func47 (by kernel_rfl) rfl #[.slice A0_3 l0_3.length c0_3, .slice A1_3 l1_3.length c1_3] rfl (by (try simp only [mT_, mC_, mN_]); first | done | rfl | (simp only [lD_, lT_]; rfl)) ?_; (with_reducible refine (banksmanref10_Same.calls k _ _ l0_3 _ _ l1_3 true _ ?side1 ?side2 ?side3 ?side4 A3.out).mono ?_); (case side1 => repeat (first | exact (kB_ HR0_3.out HB.out) | (with_reducible first | refine kA_ ?_ _ | refine kN_ ?_ _ | refine kD_ ?_))); (case side2 => exact HC0_3.out); (case side3 => repeat (first | exact (kB_ HR1_3.out HB.out) | (with_reducible first | refine kA_ ?_ _ | refine kN_ ?_ _ | refine kD_ ?_))); (case side4 => exact HC1_3.out); rintro e w47 ⟨rfl, hb⟩; refine ⟨_, rfl, ?_⟩; have n0_ := m0_ (blk_below (g := gb323) (o := .cells #[.int .i64 a0_0, .int .i64 a0_1, .bool a0_2, .slice A0_3 l0_3.length c0_3, .slice A0_4 l0_4.length c0_4, .bool a0_5] 50 (0, 0)) (by (with_reducible repeat (first | refine blk_drewN ?_ _ | refine blk_drew ?_ | refine blk_alloc ?_ _)); exact BK323.out) hb); have n1_ := m0_ (blk_below (g := gb324) (o := .cells #[.int .i64 a1_0, .int .i64 a1_1, .bool a1_2, .slice A1_3 l1_3.length c1_3, .slice A1_4 l1_4.length c1_4, .bool a1_5] 50 (0, 0)) (by (with_reducible repeat (first | refine blk_drewN ?_ _ | refine blk_drew ?_ | refine blk_alloc ?_ _)); exact BK324.out) hb); have n2_ := m0_ (below_step (by repeat (first | (with_reducible first | exact HB.out | apply bA_ | apply dN_ | apply b1_ | refine below_set ?_ GE323.out | refine below_set ?_ GE324.out) | exact HB.out)) hb); clear BK323; clear BK324; clear HB; have BK323 := n0_; have BK324 := n1_; have HB := n2_; clear n0_ n1_ n2_; (try clear hb); (try clear hb2); (try clear hk); (try clear hi); have hcz48_0 : w47.cell? ⟨gb323, 0, none⟩ = some (.int .i64 a0_0) := (blk_cell BK323.out 0).trans rfl; have hcz48_1 : w47.cell? ⟨gb323, 1, none⟩ = some (.int .i64 a0_1) := (blk_cell BK323.out 1).trans rfl; have hcz48_2 : w47.cell? ⟨gb323, 2, none⟩ = some (.bool a0_2) := (blk_cell BK323.out 2).trans rfl; have hcz48_3 : w47.cell? ⟨gb323, 3, none⟩ = some (.slice A0_3 l0_3.length c0_3) := (blk_cell BK323.out 3).trans rfl; have hcz48_4 : w47.cell? ⟨gb323, 4, none⟩ = some (.slice A0_4 l0_4.length c0_4) := (blk_cell BK323.out 4).trans rfl; have hcz48_5 : w47.cell? ⟨gb323, 5, none⟩ = some (.bool a0_5) := (blk_cell BK323.out 5).trans rfl; have hfz48_0 := bf_ BK323.out 0; have hfz48_1 := bf_ BK323.out 1; have hfz48_2 := bf_ BK323.out 2; have hfz48_3 := bf_ BK323.out 3; have hfz48_4 := bf_ BK323.out 4; have hfz48_5 := bf_ BK323.out 5; have hcz49_0 : w47.cell? ⟨gb324, 0, none⟩ = some (.int .i64 a1_0) := (blk_cell BK324.out 0).trans rfl; have hcz49_1 : w47.cell? ⟨gb324, 1, none⟩ = some (.int .i64 a1_1) := (blk_cell BK324.out 1).trans rfl; have hcz49_2 : w47.cell? ⟨gb324, 2, none⟩ = some (.bool a1_2) := (blk_cell BK324.out 2).trans rfl; have hcz49_3 : w47.cell? ⟨gb324, 3, none⟩ = some (.slice A1_3 l1_3.length c1_3) := (blk_cell BK324.out 3).trans rfl; have hcz49_4 : w47.cell? ⟨gb324, 4, none⟩ = some (.slice A1_4 l1_4.length c1_4) := (blk_cell BK324.out 4).trans rfl; have hcz49_5 : w47.cell? ⟨gb324, 5, none⟩ = some (.bool a1_5) := (blk_cell BK324.out 5).trans rfl; have hfz49_0 := bf_ BK324.out 0; have hfz49_1 := bf_ BK324.out 1; have hfz49_2 := bf_ BK324.out 2; have hfz49_3 := bf_ BK324.out 3; have hfz49_4 := bf_ BK324.out 4; have hfz49_5 := bf_ BK324.out 5) | (go_at_call 48; (with_reducible refine (banksmanref08_Writes.calls k _ _ l0_4 _ _ l1_4 false _ ?side1 ?side2 ?side3 ?side4 A5.out).mono ?_); (case side1 => repeat (first | exact (kB_ HR0_4.out HB.out) | (with_reducible first | refine kA_ ?_ _ | refine kN_ ?_ _ | refine kD_ ?_))); (case side2 => exact HC0_4.out); (case side3 => repeat (first | exact (kB_ HR1_4.out HB.out) | (with_reducible first | refine kA_ ?_ _ | refine kN_ ?_ _ | refine kD_ ?_))); (case side4 => exact HC1_4.out); rintro e w' ⟨rfl, ⟨nd, rfl⟩⟩))
     go_ret
     exact ⟨by first | rfl | (simp [errW_none, errW_some] <;> rfl) | (simp [*, errW_none, errW_some] <;> rfl), by repeat (first | (with_reducible first | exact HB.out | apply bA_ | apply dN_ | apply b1_ | refine below_set ?_ GE323.out | refine below_set ?_ GE324.out) | exact HB.out)⟩
 · replace c4 := Bool.eq_false_iff.mpr c4
   subst c4
   have H1 : (some false) = some r := by rw [if_neg (show ¬ (false = true) by decide)] at H; exact H
   clear H
   have H := H1
   clear H1
   obtain rfl := sO_ H
   go_enter Try.func31, Try.ntmps31
   go_wp2_with (first | ((with_reducible refine gate_dst (N := 2) rfl ?_); refine box_event ?hg (N := 2) ?hd (cs := #[.int .i64 a0_0, .int .i64 a0_1, .bool a0_2, .slice A0_3 l0_3.length c0_3, .slice A0_4 l0_4.length c0_4, .bool a0_5]) (t := 50) ?hr ?_; (case hd => rfl); (case hg => rfl); (case hr => first | (go_simp; done) | (go_simp; rfl)); intro gb323 hg w50 hbox hb; have n0_ := m0_ (below_step (by repeat (first | (with_reducible first | exact HB.out | apply bA_ | apply dN_ | apply b1_) | exact HB.out)) hb); have n1_ := m0_ (hbox); have n2_ := m0_ ((by rw [hg]; exact (below_size (by repeat (first | (with_reducible first | exact HB.out | apply bA_ | apply dN_ | apply b1_) | exact HB.out))) : w.heap.size ≤ gb323)); have n3_ := m0_ ((by rw [hg]; exact (below_size (by repeat (first | (with_reducible first | exact HB.out | apply bA_ | apply dN_ | apply b1_) | exact HB.out))) : w.heap.size ≤ gb323)); clear HB; have HB := n0_; have BK323 := n1_; have GW323 := n2_; have GE323 := n3_; clear n0_ n1_ n2_ n3_; clear hb hbox hg) | ((with_reducible refine gate_dst (N := 3) rfl ?_); refine box_event ?hg (N := 3) ?hd (cs := #[.int .i64 a1_0, .int .i64 a1_1, .bool a1_2, .slice A1_3 l1_3.length c1_3, .slice A1_4 l1_4.length c1_4, .bool a1_5]) (t := 50) ?hr ?_; (case hd => rfl); (case hg => rfl); (case hr => first | (go_simp; done) | (go_simp; rfl)); intro gb324 hg w51 hbox hb; have n0_ := m0_ (blk_below (g := gb323) (o := .cells #[.int .i64 a0_0, .int .i64 a0_1, .bool a0_2, .slice A0_3 l0_3.length c0_3, .slice A0_4 l0_4.length c0_4, .bool a0_5] 50 (0, 0)) (by (with_reducible repeat (first | refine blk_drewN ?_ _ | refine blk_drew ?_ | refine blk_alloc ?_ _)); exact BK323.out) hb); have n1_ := m0_ (below_step (by repeat (first | (with_reducible first | exact HB.out | apply bA_ | apply dN_ | apply b1_ | refine below_set ?_ GE323.out) | exact HB.out)) hb); have n2_ := m0_ (hbox); have n3_ := m0_ ((by rw [hg]; exact (below_size (by repeat (first | (with_reducible first | exact HB.out | apply bA_ | apply dN_ | apply b1_ | refine below_set ?_ GE323.out) | exact HB.out))) : w.heap.size ≤ gb324)); have n4_ := m0_ ((by rw [hg]; exact (below_size (by repeat (first | (with_reducible first | exact HB.out | apply bA_ | apply dN_ | apply b1_ | refine below_set ?_ GE323.out) | exact HB.out))) : w.heap.size ≤ gb324)); have n5_ := m0_ ((by rw [hg]; exact Nat.ne_of_lt (blk_lt (g := gb323) (o := .cells #[.int .i64 a0_0, .int .i64 a0_1, .bool a0_2, .slice A0_3 l0_3.length c0_3, .slice A0_4 l0_4.length c0_4, .bool a0_5] 50 (0, 0)) (by (with_reducible repeat (first | refine blk_drewN ?_ _ | refine blk_drew ?_ | refine blk_alloc ?_ _)); exact BK323.out)) : gb323 ≠ gb324)); have n6_ := m0_ ((by rw [hg]; exact Nat.ne_of_gt (blk_lt (g := gb323) (o := .cells #[.int .i64 a0_0, .int .i64 a0_1, .bool a0_2, .slice A0_3 l0_3.length c0_3, .slice A0_4 l0_4.length c0_4, .bool a0_5] 50 (0, 0)) (by (with_reducible repeat (first | refine blk_drewN ?_ _ | refine blk_drew ?_ | refine blk_alloc ?_ _)); exact BK323.out)) : gb324 ≠ gb323)); clear BK323; clear HB; have BK323 := n0_; have HB := n1_; have BK324 := n2_; have GW324 := n3_; have GE324 := n4_; have NB323_324 := n5_; have NB324_323 := n6_; clear n0_ n1_ n2_ n3_ n4_ n5_ n6_; clear hb hbox hg; have hnb52 := NB323_324.out; have hnc52 := NB324_323.out; have hcz53_0 : w51.cell? ⟨gb323, 0, none⟩ = some (.int .i64 a0_0) := (blk_cell BK323.out 0).trans rfl; have hcz53_1 : w51.cell? ⟨gb323, 1, none⟩ = some (.int .i64 a0_1) := (blk_cell BK323.out 1).trans rfl; have hcz53_2 : w51.cell? ⟨gb323, 2, none⟩ = some (.bool a0_2) := (blk_cell BK323.out 2).trans rfl; have hcz53_3 : w51.cell? ⟨gb323, 3, none⟩ = some (.slice A0_3 l0_3.length c0_3) := (blk_cell BK323.out 3).trans rfl; have hcz53_4 : w51.cell? ⟨gb323, 4, none⟩ = some (.slice A0_4 l0_4.length c0_4) := (blk_cell BK323.out 4).trans rfl; have hcz53_5 : w51.cell? ⟨gb323, 5, none⟩ = some (.bool a0_5) := (blk_cell BK323.out 5).trans rfl; have hfz53_0 := bf_ BK323.out 0; have hfz53_1 := bf_ BK323.out 1; have hfz53_2 := bf_ BK323.out 2; have hfz53_3 := bf_ BK323.out 3; have hfz53_4 := bf_ BK323.out 4; have hfz53_5 := bf_ BK323.out 5; have hcz54_0 : w51.cell? ⟨gb324, 0, none⟩ = some (.int .i64 a1_0) := (blk_cell BK324.out 0).trans rfl; have hcz54_1 : w51.cell? ⟨gb324, 1, none⟩ = some (.int .i64 a1_1) := (blk_cell BK324.out 1).trans rfl; have hcz54_2 : w51.cell? ⟨gb324, 2, none⟩ = some (.bool a1_2) := (blk_cell BK324.out 2).trans rfl; have hcz54_3 : w51.cell? ⟨gb324, 3, none⟩ = some (.slice A1_3 l1_3.length c1_3) := (blk_cell BK324.out 3).trans rfl; have hcz54_4 : w51.cell? ⟨gb324, 4, none⟩ = some (.slice A1_4 l1_4.length c1_4) := (blk_cell BK324.out 4).trans rfl; have hcz54_5 : w51.cell? ⟨gb324, 5, none⟩ = some (.bool a1_5) := (blk_cell BK324.out 5).trans rfl; have hfz54_0 := bf_ BK324.out 0; have hfz54_1 := bf_ BK324.out 1; have hfz54_2 := bf_ BK324.out 2; have hfz54_3 := bf_ BK324.out 3; have hfz54_4 := bf_ BK324.out 4; have hfz54_5 := bf_ BK324.out 5) | ((with_reducible refine gate_callee (f := 47) rfl ?_); refine goesL_ (some 10) rfl rfl Try.func47 (by kernel_rfl) rfl #[.slice A0_3 l0_3.length c0_3, .slice A1_3 l1_3.length c1_3] rfl (by (try simp only [mT_, mC_, mN_]); first | done | rfl | (simp only [lD_, lT_]; rfl)) ?_; (with_reducible refine (banksmanref10_Same.calls k _ _ l0_3 _ _ l1_3 false _ ?side1 ?side2 ?side3 ?side4 A3.out).mono ?_); (case side1 => repeat (first | exact (kB_ HR0_3.out HB.out) | (with_reducible first | refine kA_ ?_ _ | refine kN_ ?_ _ | refine kD_ ?_))); (case side2 => exact HC0_3.out); (case side3 => repeat (first | exact (kB_ HR1_3.out HB.out) | (with_reducible first | refine kA_ ?_ _ | refine kN_ ?_ _ | refine kD_ ?_))); (case side4 => exact HC1_3.out); rintro e w55 ⟨rfl, hb⟩; refine ⟨_, rfl, ?_⟩; have n0_ := m0_ (blk_below (g := gb323) (o := .cells #[.int .i64 a0_0, .int .i64 a0_1, .bool a0_2, .slice A0_3 l0_3.length c0_3, .slice A0_4 l0_4.length c0_4, .bool a0_5] 50 (0, 0)) (by (with_reducible repeat (first | refine blk_drewN ?_ _ | refine blk_drew ?_ | refine blk_alloc ?_ _)); exact BK323.out) hb); have n1_ := m0_ (blk_below (g := gb324) (o := .cells #[.int .i64 a1_0, .int .i64 a1_1, .bool a1_2, .slice A1_3 l1_3.length c1_3, .slice A1_4 l1_4.length c1_4, .bool a1_5] 50 (0, 0)) (by (with_reducible repeat (first | refine blk_drewN ?_ _ | refine blk_drew ?_ | refine blk_alloc ?_ _)); exact BK324.out) hb); have n2_ := m0_ (below_step (by repeat (first | (with_reducible first | exact HB.out | apply bA_ | apply dN_ | apply b1_ | refine below_set ?_ GE323.out | refine below_set ?_ GE324.out) | exact HB.out)) hb); clear BK323; clear BK324; clear HB; have BK323 := n0_; have BK324 := n1_; have HB := n2_; clear n0_ n1_ n2_; (try clear hb); (try clear hb2); (try clear hk); (try clear hi)))
   go_ret
   exact ⟨by first | rfl | (simp [errW_none, errW_some] <;> rfl) | (simp [*, errW_none, errW_some] <;> rfl), by repeat (first | (with_reducible first | exact HB.out | apply bA_ | apply dN_ | apply b1_ | refine below_set ?_ GE323.out | refine below_set ?_ GE324.out) | exact HB.out)⟩
def banksmanref13_All.l0 : Nat → List (S50) → List (S50) → Int → Option (Bool)
 | 0, _, _, _ => none
 | k + 1, x0, x1, x5 => if x5 < (x0.length : Int) then (if 0 ≤ x5 then (if x5 < (x1.length : Int) then ((banksmanref13_One.f k ((rd_T50 x0 x5).f0) ((rd_T50 x0 x5).f1) ((rd_T50 x0 x5).f2) ((rd_T50 x0 x5).f3) ((rd_T50 x0 x5).f4) ((rd_T50 x0 x5).f5) ((rd_T50 x1 x5).f0) ((rd_T50 x1 x5).f1) ((rd_T50 x1 x5).f2) ((rd_T50 x1 x5).f3) ((rd_T50 x1 x5).f4) ((rd_T50 x1 x5).f5)).bind fun t329 => (if t329 = true then (banksmanref13_All.l0 k x0 x1 (wrap64 (x5 + 1))) else (some false))) else (none)) else (none)) else (some true)
def banksmanref13_All.f (k : Nat) (l0 : List (S50)) (l1 : List (S50)) : Option (Bool) := if (l0.length : Int) = (l1.length : Int) then (banksmanref13_All.l0 k l0 l1 0) else (some false)
def banksmanref13_All.T6 : Bool × List (List Nat × List Nat) := (true, [([], []), ([], []), ([0, 1], [0, 1]), ([2], [2]), ([], []), ([], []), ([4, 5], [4, 5]), ([6], [6]), ([3, 7], [3, 7]), ([8, 8, 0, 1, 2, 3, 4, 5, 6, 7, 8], [8])])
def banksmanref13_All.B6 : List Nat := [0, 0, 3, 7, 0, 0, 48, 112, 255, 511]
theorem banksmanref13_All.tab6 : rtab .any (opsOf Try.f14 6) = banksmanref13_All.T6 := by kernel_rfl
theorem banksmanref13_All.bits6 : waitsOk banksmanref13_All.T6.2 banksmanref13_All.B6 = true := by kernel_rfl
set_option maxHeartbeats 8000000 in
set_option maxRecDepth 100000 in
theorem banksmanref13_All.calls (k : Nat) (A0 : Option Addr) (c0 : Nat) (l0 : List (S50)) (A1 : Option Addr) (c1 : Nat) (l1 : List (S50)) (r : Bool) (w : World) (hr0 : Kd.C k50 w A0 l0.length l0) (hc0 : l0.length ≤ c0) (hr1 : Kd.C k50 w A1 l1.length l1) (hc1 : l1.length ≤ c1) (h : banksmanref13_All.f k l0 l1 = some r) :
   Calls Try.prog 14 #[.slice A0 l0.length c0, .slice A1 l1.length c1] w fun e w' => e = .returned (.bool r) ∧ Below w.heap.size w w' := by
 have hu50 := Try.underlying50
 have HR0 := m0_ hr0
 have HC0 := m0_ hc0
 clear hr0 hc0
 have HR1 := m0_ hr1
 have HC1 := m0_ hc1
 clear hr1 hc1
 have HB := m0_ (Below.refl w.heap.size w)
 have H : (if (l0.length : Int) = (l1.length : Int) then (banksmanref13_All.l0 k l0 l1 0) else (some false)) = some r := h
 clear h
 by_cases c3 : (l0.length : Int) = (l1.length : Int)
 · rw [if_pos c3] at H
   have c3b0 : ((l0.length : Int) == (l1.length : Int)) = true := beq_iff_eq.mpr c3
   have c3b1 : ((l0.length : Int) != (l1.length : Int)) = false := bne_eq_false_iff_eq.mpr c3
   have c3b2 : (l0.length == l1.length) = true := by first | simpa using c3 | (simp at c3 ⊢; omega)
   clear c3
   have H' := m0_ H
   clear H
   go_enter Try.func14, Try.ntmps14
   go_wp2
   go_loopg [5] k (fun kq v5 w' => ∃ (x5_1 : Int), v5 = .int .i64 x5_1 ∧ Aside0 (banksmanref13_All.l0 kq l0 l1 x5_1 = some r) ∧ Aside0 (kq ≤ k) ∧ Aside0 (Below w.heap.size w w'))
   case atStart => exact ⟨(0), (by first | rfl | (simp; done) | (simp [*]; done)), H', ⟨Nat.le_refl _⟩, ⟨by repeat (first | (with_reducible first | exact HB.out | apply bA_ | apply dN_ | apply b1_) | exact HB.out)⟩⟩
   case round =>
    clear H'
    try clear c1
    try clear p2
    try clear c3
    try clear c3b0
    try clear c3b1
    try clear c3b2
    obtain ⟨x5_1, rfl, HA, HK1, HB⟩ := hrel
    cases gk with
    | zero => exact absurd HA.out (by simp [banksmanref13_All.l0])
    | succ k1 =>
     have H := HA.out
     clear HA
     simp only [banksmanref13_All.l0] at H
     by_cases c4 : x5_1 < (l0.length : Int)
     · rw [if_pos c4] at H
       have c4b0 : decide (x5_1 < (l0.length : Int)) = true := decide_eq_true c4
       clear c4
       by_cases c5 : 0 ≤ x5_1
       · rw [if_pos c5] at H
         have c5b0 : decide (0 ≤ x5_1) = true := decide_eq_true c5
         clear c5
         by_cases c6 : x5_1 < (l1.length : Int)
         · rw [if_pos c6] at H
           have c6b0 : decide (x5_1 < (l1.length : Int)) = true := decide_eq_true c6
           clear c6
           replace H := Option.bind_eq_some_iff.mp H
           obtain ⟨t329, A70, H⟩ := H
           replace H : (if t329 = true then (banksmanref13_All.l0 k1 l0 l1 (wrap64 (x5_1 + 1))) else (some false)) = some r := H
           have A7 := m0_ A70
           clear A70
           by_cases c8 : t329 = true
           · subst c8
             have H1 : (banksmanref13_All.l0 k1 l0 l1 (wrap64 (x5_1 + 1))) = some r := by rw [if_pos rfl] at H; exact H
             clear H
             have H := H1
             clear H1
             have H' := m0_ H
             clear H
             try go_wp2
             have n0_ := m0_ (b1_ HB.out)
             clear HB
             have HB := n0_
             clear n0_
             have p327 : 0 ≤ (x5_1 : Int) := dT_
             have q327 : x5_1 < (l0.length : Int) := dT_
             obtain ⟨ad327, A327_3, c327_3, A327_4, c327_4, e327, hx327_0, hx327_1, hx327_2, hx327_3, hx327_4, hx327_5, hl327_3, hi327_3, hl327_4, hi327_4⟩ := at_T50 HR0.out x5_1 p327 q327
             have hw327_5 := hx327_5
             have hw327_4 := hx327_4
             have hw327_3 := hx327_3
             have hw327_2 := hx327_2
             have hw327_1 := hx327_1
             have hw327_0 := hx327_0
             cases e327
             replace hx327_0 := (HB.out.cell (bL_ w _ hx327_0)).trans hx327_0
             replace hx327_1 := (HB.out.cell (bL_ w _ hx327_1)).trans hx327_1
             replace hx327_2 := (HB.out.cell (bL_ w _ hx327_2)).trans hx327_2
             replace hx327_3 := (HB.out.cell (bL_ w _ hx327_3)).trans hx327_3
             replace hx327_4 := (HB.out.cell (bL_ w _ hx327_4)).trans hx327_4
             replace hx327_5 := (HB.out.cell (bL_ w _ hx327_5)).trans hx327_5
             have HR327_3 := m0_ hi327_3
             have HC327_3 := m0_ hl327_3
             clear hi327_3 hl327_3
             have HR327_4 := m0_ hi327_4
             have HC327_4 := m0_ hl327_4
             clear hi327_4 hl327_4
             replace p327 := eq_true p327
             replace q327 := eq_true q327
             have p328 : 0 ≤ (x5_1 : Int) := dT_
             have q328 : x5_1 < (l1.length : Int) := dT_
             obtain ⟨ad328, A328_3, c328_3, A328_4, c328_4, e328, hx328_0, hx328_1, hx328_2, hx328_3, hx328_4, hx328_5, hl328_3, hi328_3, hl328_4, hi328_4⟩ := at_T50 HR1.out x5_1 p328 q328
             have hw328_5 := hx328_5
             have hw328_4 := hx328_4
             have hw328_3 := hx328_3
             have hw328_2 := hx328_2
             have hw328_1 := hx328_1
             have hw328_0 := hx328_0
             cases e328
             replace hx328_0 := (HB.out.cell (bL_ w _ hx328_0)).trans hx328_0
             replace hx328_1 := (HB.out.cell (bL_ w _ hx328_1)).trans hx328_1
             replace hx328_2 := (HB.out.cell (bL_ w _ hx328_2)).trans hx328_2
             replace hx328_3 := (HB.out.cell (bL_ w _ hx328_3)).trans hx328_3
             replace hx328_4 := (HB.out.cell (bL_ w _ hx328_4)).trans hx328_4
             replace hx328_5 := (HB.out.cell (bL_ w _ hx328_5)).trans hx328_5
             have HR328_3 := m0_ hi328_3
             have HC328_3 := m0_ hl328_3
             clear hi328_3 hl328_3
             have HR328_4 := m0_ hi328_4
             have HC328_4 := m0_ hl328_4
             clear hi328_4 hl328_4
             replace p328 := eq_true p328
             replace q328 := eq_true q328
             refine start_ (n := 10) (S := fun w' => w'.cell? (ad327.add ((x5_1).toNat * 6)) = some (.int .i64 ((rd_T50 l0 x5_1).f0)) ∧ w'.cell? ⟨(ad327.add ((x5_1).toNat * 6)).block, (ad327.add ((x5_1).toNat * 6)).off + 1, none⟩ = some (.int .i64 ((rd_T50 l0 x5_1).f1)) ∧ w'.cell? ⟨(ad327.add ((x5_1).toNat * 6)).block, (ad327.add ((x5_1).toNat * 6)).off + 2, none⟩ = some (.bool ((rd_T50 l0 x5_1).f2)) ∧ w'.cell? ⟨(ad327.add ((x5_1).toNat * 6)).block, (ad327.add ((x5_1).toNat * 6)).off + 3, none⟩ = some (.slice A327_3 ((rd_T50 l0 x5_1).f3).length c327_3) ∧ w'.cell? ⟨(ad327.add ((x5_1).toNat * 6)).block, (ad327.add ((x5_1).toNat * 6)).off + 4, none⟩ = some (.slice A327_4 ((rd_T50 l0 x5_1).f4).length c327_4) ∧ w'.cell? ⟨(ad327.add ((x5_1).toNat * 6)).block, (ad327.add ((x5_1).toNat * 6)).off + 5, none⟩ = some (.bool ((rd_T50 l0 x5_1).f5)) ∧ w'.cell? (ad328.add ((x5_1).toNat * 6)) = some (.int .i64 ((rd_T50 l1 x5_1).f0)) ∧ w'.cell? ⟨(ad328.add ((x5_1).toNat * 6)).block, (ad328.add ((x5_1).toNat * 6)).off + 1, none⟩ = some (.int .i64 ((rd_T50 l1 x5_1).f1)) ∧ w'.cell? ⟨(ad328.add ((x5_1).toNat * 6)).block, (ad328.add ((x5_1).toNat * 6)).off + 2, none⟩ = some (.bool ((rd_T50 l1 x5_1).f2)) ∧ w'.cell? ⟨(ad328.add ((x5_1).toNat * 6)).block, (ad328.add ((x5_1).toNat * 6)).off + 3, none⟩ = some (.slice A328_3 ((rd_T50 l1 x5_1).f3).length c328_3) ∧ w'.cell? ⟨(ad328.add ((x5_1).toNat * 6)).block, (ad328.add ((x5_1).toNat * 6)).off + 4, none⟩ = some (.slice A328_4 ((rd_T50 l1 x5_1).f4).length c328_4) ∧ w'.cell? ⟨(ad328.add ((x5_1).toNat * 6)).block, (ad328.add ((x5_1).toNat * 6)).off + 5, none⟩ = some (.bool ((rd_T50 l1 x5_1).f5))) (ds := []) #[false, false, false, false, false, false, false, false, false, false] (by kernel_rfl) rfl rfl ⟨((HB.out.cell (bL_ w _ hw327_0)).trans hw327_0), ((HB.out.cell (bL_ w _ hw327_1)).trans hw327_1), ((HB.out.cell (bL_ w _ hw327_2)).trans hw327_2), ((HB.out.cell (bL_ w _ hw327_3)).trans hw327_3), ((HB.out.cell (bL_ w _ hw327_4)).trans hw327_4), ((HB.out.cell (bL_ w _ hw327_5)).trans hw327_5), ((HB.out.cell (bL_ w _ hw328_0)).trans hw328_0), ((HB.out.cell (bL_ w _ hw328_1)).trans hw328_1), ((HB.out.cell (bL_ w _ hw328_2)).trans hw328_2), ((HB.out.cell (bL_ w _ hw328_3)).trans hw328_3), ((HB.out.cell (bL_ w _ hw328_4)).trans hw328_4), ((HB.out.cell (bL_ w _ hw328_5)).trans hw328_5)⟩ (fun hHeld => ?_); refine with_tabW banksmanref13_All.tab6 banksmanref13_All.bits6 (fun HT_ HW_ => ?_)
             generalize wr.drew = w9 at HB HR327_3 HR327_4 HR328_3 HR328_4 hx327_0 hx327_1 hx327_2 hx327_3 hx327_4 hx327_5 hx328_0 hx328_1 hx328_2 hx328_3 hx328_4 hx328_5 hHeld ⊢
             refine pure_ (i := 0) (N := some 18) (v := ?_) (a' := ?_) #[true, false, false, false, false, false, false, false, false, false] rfl rfl (any_of HT_.out (by kernel_rfl)) (fun _ _ _ h => h) (Or.inl ⟨by rfl, ?_⟩) ?_ ?_
             rotate_left
             · intro w'
               go_simp
               with_reducible rfl
             rotate_left
             · simp only [Act.put, sI_, sZ_, sS_, i64_w, i32_w]
               rfl
             refine pure_ (i := 1) (N := some 19) (v := ?_) (a' := ?_) #[true, true, false, false, false, false, false, false, false, false] rfl rfl (any_of HT_.out (by kernel_rfl)) (fun _ _ _ h => h) (Or.inl ⟨by rfl, ?_⟩) ?_ ?_
             rotate_left
             · intro w'
               go_simp
               with_reducible rfl
             rotate_left
             · simp only [Act.put, sI_, sZ_, sS_, i64_w, i32_w]
               rfl
             refine pure_ (i := 2) (N := some 20) (v := ?_) (a' := ?_) #[true, true, true, false, false, false, false, false, false, false] rfl rfl (any_of HT_.out (by kernel_rfl)) (fun _ _ _ h => h) (Or.inl ⟨by rfl, ?_⟩) ?_ ?_
             rotate_left
             · intro w'
               go_simp
               with_reducible rfl
             rotate_left
             · simp only [Act.put, sI_, sZ_, sS_, i64_w, i32_w]
               rfl
             refine pure_ (i := 4) (N := some 22) (v := ?_) (a' := ?_) #[true, true, true, false, true, false, false, false, false, false] rfl rfl (any_of HT_.out (by kernel_rfl)) (fun _ _ _ h => h) (Or.inl ⟨by rfl, ?_⟩) ?_ ?_
             rotate_left
             · intro w'
               go_simp
               with_reducible rfl
             rotate_left
             · simp only [Act.put, sI_, sZ_, sS_, i64_w, i32_w]
               rfl
             refine pure_ (i := 5) (N := some 23) (v := ?_) (a' := ?_) #[true, true, true, false, true, true, false, false, false, false] rfl rfl (any_of HT_.out (by kernel_rfl)) (fun _ _ _ h => h) (Or.inl ⟨by rfl, ?_⟩) ?_ ?_
             rotate_left
             · intro w'
               go_simp
               with_reducible rfl
             rotate_left
             · simp only [Act.put, sI_, sZ_, sS_, i64_w, i32_w]
               rfl
             refine pure_ (i := 6) (N := some 24) (v := ?_) (a' := ?_) #[true, true, true, false, true, true, true, false, false, false] rfl rfl (any_of HT_.out (by kernel_rfl)) (fun _ _ _ h => h) (Or.inl ⟨by rfl, ?_⟩) ?_ ?_
             rotate_left
             · intro w'
               go_simp
               with_reducible rfl
             rotate_left
             · simp only [Act.put, sI_, sZ_, sS_, i64_w, i32_w]
               rfl
             refine take_ (i := 3) (N := some 21) (v := ?_) (a' := ?_) #[true, true, true, true, true, true, true, false, false, false] rfl rfl (take_ofW HT_.out HW_.out (by kernel_rfl)) (fun _ _ _ h => h) (Or.inl ⟨by rfl, ?_⟩) hHeld ?_ ?_
             rotate_left
             · rintro w' ⟨s0, s1, s2, s3, s4, s5, s6, s7, s8, s9, s10, s11⟩
               go_simp
               with_reducible rfl
             rotate_left
             · simp only [Act.put, sI_, sZ_, sS_, i64_w, i32_w]
               rfl
             refine take_ (i := 7) (N := some 25) (v := ?_) (a' := ?_) #[true, true, true, true, true, true, true, true, false, false] rfl rfl (take_ofW HT_.out HW_.out (by kernel_rfl)) (fun _ _ _ h => h) (Or.inl ⟨by rfl, ?_⟩) hHeld ?_ ?_
             rotate_left
             · rintro w' ⟨s0, s1, s2, s3, s4, s5, s6, s7, s8, s9, s10, s11⟩
               go_simp
               with_reducible rfl
             rotate_left
             · simp only [Act.put, sI_, sZ_, sS_, i64_w, i32_w]
               rfl
             refine one_ (i := 8) (N := some 26) #[true, true, true, true, true, true, true, true, true, false] rfl rfl (one_of HT_.out (by kernel_rfl)) (by decide) (fun K hK => ?_)
             refine goes_ Try.func31 (by kernel_rfl) rfl #[.agg #[.int .i64 ((rd_T50 l0 x5_1).f0), .int .i64 ((rd_T50 l0 x5_1).f1), .bool ((rd_T50 l0 x5_1).f2), .slice A327_3 ((rd_T50 l0 x5_1).f3).length c327_3, .slice A327_4 ((rd_T50 l0 x5_1).f4).length c327_4, .bool ((rd_T50 l0 x5_1).f5)], .agg #[.int .i64 ((rd_T50 l1 x5_1).f0), .int .i64 ((rd_T50 l1 x5_1).f1), .bool ((rd_T50 l1 x5_1).f2), .slice A328_3 ((rd_T50 l1 x5_1).f3).length c328_3, .slice A328_4 ((rd_T50 l1 x5_1).f4).length c328_4, .bool ((rd_T50 l1 x5_1).f5)]] (by rfl) rfl rfl (by (try simp only [mT_, mC_, mN_]); first | done | rfl | (simp only [lD_, lT_]; rfl)) ?_
             with_reducible refine (banksmanref13_One.calls k1 ((rd_T50 l0 x5_1).f0) ((rd_T50 l0 x5_1).f1) ((rd_T50 l0 x5_1).f2) _ _ ((rd_T50 l0 x5_1).f3) _ _ ((rd_T50 l0 x5_1).f4) ((rd_T50 l0 x5_1).f5) ((rd_T50 l1 x5_1).f0) ((rd_T50 l1 x5_1).f1) ((rd_T50 l1 x5_1).f2) _ _ ((rd_T50 l1 x5_1).f3) _ _ ((rd_T50 l1 x5_1).f4) ((rd_T50 l1 x5_1).f5) true _ ?side1 ?side2 ?side3 ?side4 ?side5 ?side6 ?side7 ?side8 A7.out).mono ?_
             (case side1 => repeat (first | exact (kB_ HR327_3.out HB.out) | (with_reducible first | refine kA_ ?_ _ | refine kN_ ?_ _ | refine kD_ ?_)))
             (case side2 => exact HC327_3.out)
             (case side3 => repeat (first | exact (kB_ HR327_4.out HB.out) | (with_reducible first | refine kA_ ?_ _ | refine kN_ ?_ _ | refine kD_ ?_)))
             (case side4 => exact HC327_4.out)
             (case side5 => repeat (first | exact (kB_ HR328_3.out HB.out) | (with_reducible first | refine kA_ ?_ _ | refine kN_ ?_ _ | refine kD_ ?_)))
             (case side6 => exact HC328_3.out)
             (case side7 => repeat (first | exact (kB_ HR328_4.out HB.out) | (with_reducible first | refine kA_ ?_ _ | refine kN_ ?_ _ | refine kD_ ?_)))
             (case side8 => exact HC328_4.out)
             rintro e w10 ⟨rfl, hb⟩
             refine ⟨_, rfl, ?_⟩
             have n0_ := m0_ (below_step (by repeat (first | (with_reducible first | exact HB.out | apply bA_ | apply dN_ | apply b1_) | exact HB.out)) hb)
             clear HB
             have HB := n0_
             clear n0_
             (try clear hb)
             (try clear hb2)
             (try clear hk)
             (try clear hi)
             refine hK.out _ _ ⟨((HB.out.cell (bL_ w _ hw327_0)).trans hw327_0), ((HB.out.cell (bL_ w _ hw327_1)).trans hw327_1), ((HB.out.cell (bL_ w _ hw327_2)).trans hw327_2), ((HB.out.cell (bL_ w _ hw327_3)).trans hw327_3), ((HB.out.cell (bL_ w _ hw327_4)).trans hw327_4), ((HB.out.cell (bL_ w _ hw327_5)).trans hw327_5), ((HB.out.cell (bL_ w _ hw328_0)).trans hw328_0), ((HB.out.cell (bL_ w _ hw328_1)).trans hw328_1), ((HB.out.cell (bL_ w _ hw328_2)).trans hw328_2), ((HB.out.cell (bL_ w _ hw328_3)).trans hw328_3), ((HB.out.cell (bL_ w _ hw328_4)).trans hw328_4), ((HB.out.cell (bL_ w _ hw328_5)).trans hw328_5)⟩ (fun hHeld => ?_)
             clear hK K
             refine norm_ (a' := ?_) ?_ ?_
             rotate_left
             · show Act.put _ (some 26) _ = _
               simp only [Act.put, sI_, sZ_, sS_, i64_w, i32_w]
               rfl
             refine pure_ (i := 9) (N := some 6) (v := ?_) (a' := ?_) #[true, true, true, true, true, true, true, true, true, true] rfl rfl (any_of HT_.out (by kernel_rfl)) (fun _ _ _ h => h) (Or.inl ⟨by rfl, ?_⟩) ?_ ?_
             rotate_left
             · intro w'
               go_simp
               with_reducible rfl
             rotate_left
             · simp only [Act.put, sI_, sZ_, sS_, i64_w, i32_w]
               rfl
             refine done_ (done_of HT_.out (by kernel_rfl)) ?_
             try go_wp2
             go_roundg k1
             case measure => have := HK1.out; omega
             case rel => exact ⟨(wrap64 (x5_1 + 1)), (by first | rfl | (simp; done) | (simp [*]; done)), H', ⟨by have := HK1.out; omega⟩, ⟨by repeat (first | (with_reducible first | exact HB.out | apply bA_ | apply dN_ | apply b1_) | exact HB.out)⟩⟩
           · replace c8 := Bool.eq_false_iff.mpr c8
             subst c8
             have H1 : (some false) = some r := by rw [if_neg (show ¬ (false = true) by decide)] at H; exact H
             clear H
             have H := H1
             clear H1
             obtain rfl := sO_ H
             try go_wp2
             have n0_ := m0_ (b1_ HB.out)
             clear HB
             have HB := n0_
             clear n0_
             have p327 : 0 ≤ (x5_1 : Int) := dT_
             have q327 : x5_1 < (l0.length : Int) := dT_
             obtain ⟨ad327, A327_3, c327_3, A327_4, c327_4, e327, hx327_0, hx327_1, hx327_2, hx327_3, hx327_4, hx327_5, hl327_3, hi327_3, hl327_4, hi327_4⟩ := at_T50 HR0.out x5_1 p327 q327
             have hw327_5 := hx327_5
             have hw327_4 := hx327_4
             have hw327_3 := hx327_3
             have hw327_2 := hx327_2
             have hw327_1 := hx327_1
             have hw327_0 := hx327_0
             cases e327
             replace hx327_0 := (HB.out.cell (bL_ w _ hx327_0)).trans hx327_0
             replace hx327_1 := (HB.out.cell (bL_ w _ hx327_1)).trans hx327_1
             replace hx327_2 := (HB.out.cell (bL_ w _ hx327_2)).trans hx327_2
             replace hx327_3 := (HB.out.cell (bL_ w _ hx327_3)).trans hx327_3
             replace hx327_4 := (HB.out.cell (bL_ w _ hx327_4)).trans hx327_4
             replace hx327_5 := (HB.out.cell (bL_ w _ hx327_5)).trans hx327_5
             have HR327_3 := m0_ hi327_3
             have HC327_3 := m0_ hl327_3
             clear hi327_3 hl327_3
             have HR327_4 := m0_ hi327_4
             have HC327_4 := m0_ hl327_4
             clear hi327_4 hl327_4
             replace p327 := eq_true p327
             replace q327 := eq_true q327
             have p328 : 0 ≤ (x5_1 : Int) := dT_
             have q328 : x5_1 < (l1.length : Int) := dT_
             obtain ⟨ad328, A328_3, c328_3, A328_4, c328_4, e328, hx328_0, hx328_1, hx328_2, hx328_3, hx328_4, hx328_5, hl328_3, hi328_3, hl328_4, hi328_4⟩ := at_T50 HR1.out x5_1 p328 q328
             have hw328_5 := hx328_5
             have hw328_4 := hx328_4
             have hw328_3 := hx328_3
             have hw328_2 := hx328_2
             have hw328_1 := hx328_1
             have hw328_0 := hx328_0
             cases e328
             replace hx328_0 := (HB.out.cell (bL_ w _ hx328_0)).trans hx328_0
             replace hx328_1 := (HB.out.cell (bL_ w _ hx328_1)).trans hx328_1
             replace hx328_2 := (HB.out.cell (bL_ w _ hx328_2)).trans hx328_2
             replace hx328_3 := (HB.out.cell (bL_ w _ hx328_3)).trans hx328_3
             replace hx328_4 := (HB.out.cell (bL_ w _ hx328_4)).trans hx328_4
             replace hx328_5 := (HB.out.cell (bL_ w _ hx328_5)).trans hx328_5
             have HR328_3 := m0_ hi328_3
             have HC328_3 := m0_ hl328_3
             clear hi328_3 hl328_3
             have HR328_4 := m0_ hi328_4
             have HC328_4 := m0_ hl328_4
             clear hi328_4 hl328_4
             replace p328 := eq_true p328
             replace q328 := eq_true q328
             refine start_ (n := 10) (S := fun w' => w'.cell? (ad327.add ((x5_1).toNat * 6)) = some (.int .i64 ((rd_T50 l0 x5_1).f0)) ∧ w'.cell? ⟨(ad327.add ((x5_1).toNat * 6)).block, (ad327.add ((x5_1).toNat * 6)).off + 1, none⟩ = some (.int .i64 ((rd_T50 l0 x5_1).f1)) ∧ w'.cell? ⟨(ad327.add ((x5_1).toNat * 6)).block, (ad327.add ((x5_1).toNat * 6)).off + 2, none⟩ = some (.bool ((rd_T50 l0 x5_1).f2)) ∧ w'.cell? ⟨(ad327.add ((x5_1).toNat * 6)).block, (ad327.add ((x5_1).toNat * 6)).off + 3, none⟩ = some (.slice A327_3 ((rd_T50 l0 x5_1).f3).length c327_3) ∧ w'.cell? ⟨(ad327.add ((x5_1).toNat * 6)).block, (ad327.add ((x5_1).toNat * 6)).off + 4, none⟩ = some (.slice A327_4 ((rd_T50 l0 x5_1).f4).length c327_4) ∧ w'.cell? ⟨(ad327.add ((x5_1).toNat * 6)).block, (ad327.add ((x5_1).toNat * 6)).off + 5, none⟩ = some (.bool ((rd_T50 l0 x5_1).f5)) ∧ w'.cell? (ad328.add ((x5_1).toNat * 6)) = some (.int .i64 ((rd_T50 l1 x5_1).f0)) ∧ w'.cell? ⟨(ad328.add ((x5_1).toNat * 6)).block, (ad328.add ((x5_1).toNat * 6)).off + 1, none⟩ = some (.int .i64 ((rd_T50 l1 x5_1).f1)) ∧ w'.cell? ⟨(ad328.add ((x5_1).toNat * 6)).block, (ad328.add ((x5_1).toNat * 6)).off + 2, none⟩ = some (.bool ((rd_T50 l1 x5_1).f2)) ∧ w'.cell? ⟨(ad328.add ((x5_1).toNat * 6)).block, (ad328.add ((x5_1).toNat * 6)).off + 3, none⟩ = some (.slice A328_3 ((rd_T50 l1 x5_1).f3).length c328_3) ∧ w'.cell? ⟨(ad328.add ((x5_1).toNat * 6)).block, (ad328.add ((x5_1).toNat * 6)).off + 4, none⟩ = some (.slice A328_4 ((rd_T50 l1 x5_1).f4).length c328_4) ∧ w'.cell? ⟨(ad328.add ((x5_1).toNat * 6)).block, (ad328.add ((x5_1).toNat * 6)).off + 5, none⟩ = some (.bool ((rd_T50 l1 x5_1).f5))) (ds := []) #[false, false, false, false, false, false, false, false, false, false] (by kernel_rfl) rfl rfl ⟨((HB.out.cell (bL_ w _ hw327_0)).trans hw327_0), ((HB.out.cell (bL_ w _ hw327_1)).trans hw327_1), ((HB.out.cell (bL_ w _ hw327_2)).trans hw327_2), ((HB.out.cell (bL_ w _ hw327_3)).trans hw327_3), ((HB.out.cell (bL_ w _ hw327_4)).trans hw327_4), ((HB.out.cell (bL_ w _ hw327_5)).trans hw327_5), ((HB.out.cell (bL_ w _ hw328_0)).trans hw328_0), ((HB.out.cell (bL_ w _ hw328_1)).trans hw328_1), ((HB.out.cell (bL_ w _ hw328_2)).trans hw328_2), ((HB.out.cell (bL_ w _ hw328_3)).trans hw328_3), ((HB.out.cell (bL_ w _ hw328_4)).trans hw328_4), ((HB.out.cell (bL_ w _ hw328_5)).trans hw328_5)⟩ (fun hHeld => ?_); refine with_tabW banksmanref13_All.tab6 banksmanref13_All.bits6 (fun HT_ HW_ => ?_)
             generalize wr.drew = w11 at HB HR327_3 HR327_4 HR328_3 HR328_4 hx327_0 hx327_1 hx327_2 hx327_3 hx327_4 hx327_5 hx328_0 hx328_1 hx328_2 hx328_3 hx328_4 hx328_5 hHeld ⊢
             refine pure_ (i := 0) (N := some 18) (v := ?_) (a' := ?_) #[true, false, false, false, false, false, false, false, false, false] rfl rfl (any_of HT_.out (by kernel_rfl)) (fun _ _ _ h => h) (Or.inl ⟨by rfl, ?_⟩) ?_ ?_
             rotate_left
             · intro w'
               go_simp
               with_reducible rfl
             rotate_left
             · simp only [Act.put, sI_, sZ_, sS_, i64_w, i32_w]
               rfl
             refine pure_ (i := 1) (N := some 19) (v := ?_) (a' := ?_) #[true, true, false, false, false, false, false, false, false, false] rfl rfl (any_of HT_.out (by kernel_rfl)) (fun _ _ _ h => h) (Or.inl ⟨by rfl, ?_⟩) ?_ ?_
             rotate_left
             · intro w'
               go_simp
               with_reducible rfl
             rotate_left
             · simp only [Act.put, sI_, sZ_, sS_, i64_w, i32_w]
               rfl
             refine pure_ (i := 2) (N := some 20) (v := ?_) (a' := ?_) #[true, true, true, false, false, false, false, false, false, false] rfl rfl (any_of HT_.out (by kernel_rfl)) (fun _ _ _ h => h) (Or.inl ⟨by rfl, ?_⟩) ?_ ?_
             rotate_left
             · intro w'
               go_simp
               with_reducible rfl
             rotate_left
             · simp only [Act.put, sI_, sZ_, sS_, i64_w, i32_w]
               rfl
             refine pure_ (i := 4) (N := some 22) (v := ?_) (a' := ?_) #[true, true, true, false, true, false, false, false, false, false] rfl rfl (any_of HT_.out (by kernel_rfl)) (fun _ _ _ h => h) (Or.inl ⟨by rfl, ?_⟩) ?_ ?_
             rotate_left
             · intro w'
               go_simp
               with_reducible rfl
             rotate_left
             · simp only [Act.put, sI_, sZ_, sS_, i64_w, i32_w]
               rfl
             refine pure_ (i := 5) (N := some 23) (v := ?_) (a' := ?_) #[true, true, true, false, true, true, false, false, false, false] rfl rfl (any_of HT_.out (by kernel_rfl)) (fun _ _ _ h => h) (Or.inl ⟨by rfl, ?_⟩) ?_ ?_
             rotate_left
             · intro w'
               go_simp
               with_reducible rfl
             rotate_left
             · simp only [Act.put, sI_, sZ_, sS_, i64_w, i32_w]
               rfl
             refine pure_ (i := 6) (N := some 24) (v := ?_) (a' := ?_) #[true, true, true, false, true, true, true, false, false, false] rfl rfl (any_of HT_.out (by kernel_rfl)) (fun _ _ _ h => h) (Or.inl ⟨by rfl, ?_⟩) ?_ ?_
             rotate_left
             · intro w'
               go_simp
               with_reducible rfl
             rotate_left
             · simp only [Act.put, sI_, sZ_, sS_, i64_w, i32_w]
               rfl
             refine take_ (i := 3) (N := some 21) (v := ?_) (a' := ?_) #[true, true, true, true, true, true, true, false, false, false] rfl rfl (take_ofW HT_.out HW_.out (by kernel_rfl)) (fun _ _ _ h => h) (Or.inl ⟨by rfl, ?_⟩) hHeld ?_ ?_
             rotate_left
             · rintro w' ⟨s0, s1, s2, s3, s4, s5, s6, s7, s8, s9, s10, s11⟩
               go_simp
               with_reducible rfl
             rotate_left
             · simp only [Act.put, sI_, sZ_, sS_, i64_w, i32_w]
               rfl
             refine take_ (i := 7) (N := some 25) (v := ?_) (a' := ?_) #[true, true, true, true, true, true, true, true, false, false] rfl rfl (take_ofW HT_.out HW_.out (by kernel_rfl)) (fun _ _ _ h => h) (Or.inl ⟨by rfl, ?_⟩) hHeld ?_ ?_
             rotate_left
             · rintro w' ⟨s0, s1, s2, s3, s4, s5, s6, s7, s8, s9, s10, s11⟩
               go_simp
               with_reducible rfl
             rotate_left
             · simp only [Act.put, sI_, sZ_, sS_, i64_w, i32_w]
               rfl
             refine one_ (i := 8) (N := some 26) #[true, true, true, true, true, true, true, true, true, false] rfl rfl (one_of HT_.out (by kernel_rfl)) (by decide) (fun K hK => ?_)
             refine goes_ Try.func31 (by kernel_rfl) rfl #[.agg #[.int .i64 ((rd_T50 l0 x5_1).f0), .int .i64 ((rd_T50 l0 x5_1).f1), .bool ((rd_T50 l0 x5_1).f2), .slice A327_3 ((rd_T50 l0 x5_1).f3).length c327_3, .slice A327_4 ((rd_T50 l0 x5_1).f4).length c327_4, .bool ((rd_T50 l0 x5_1).f5)], .agg #[.int .i64 ((rd_T50 l1 x5_1).f0), .int .i64 ((rd_T50 l1 x5_1).f1), .bool ((rd_T50 l1 x5_1).f2), .slice A328_3 ((rd_T50 l1 x5_1).f3).length c328_3, .slice A328_4 ((rd_T50 l1 x5_1).f4).length c328_4, .bool ((rd_T50 l1 x5_1).f5)]] (by rfl) rfl rfl (by (try simp only [mT_, mC_, mN_]); first | done | rfl | (simp only [lD_, lT_]; rfl)) ?_
             with_reducible refine (banksmanref13_One.calls k1 ((rd_T50 l0 x5_1).f0) ((rd_T50 l0 x5_1).f1) ((rd_T50 l0 x5_1).f2) _ _ ((rd_T50 l0 x5_1).f3) _ _ ((rd_T50 l0 x5_1).f4) ((rd_T50 l0 x5_1).f5) ((rd_T50 l1 x5_1).f0) ((rd_T50 l1 x5_1).f1) ((rd_T50 l1 x5_1).f2) _ _ ((rd_T50 l1 x5_1).f3) _ _ ((rd_T50 l1 x5_1).f4) ((rd_T50 l1 x5_1).f5) false _ ?side1 ?side2 ?side3 ?side4 ?side5 ?side6 ?side7 ?side8 A7.out).mono ?_
             (case side1 => repeat (first | exact (kB_ HR327_3.out HB.out) | (with_reducible first | refine kA_ ?_ _ | refine kN_ ?_ _ | refine kD_ ?_)))
             (case side2 => exact HC327_3.out)
             (case side3 => repeat (first | exact (kB_ HR327_4.out HB.out) | (with_reducible first | refine kA_ ?_ _ | refine kN_ ?_ _ | refine kD_ ?_)))
             (case side4 => exact HC327_4.out)
             (case side5 => repeat (first | exact (kB_ HR328_3.out HB.out) | (with_reducible first | refine kA_ ?_ _ | refine kN_ ?_ _ | refine kD_ ?_)))
             (case side6 => exact HC328_3.out)
             (case side7 => repeat (first | exact (kB_ HR328_4.out HB.out) | (with_reducible first | refine kA_ ?_ _ | refine kN_ ?_ _ | refine kD_ ?_)))
             (case side8 => exact HC328_4.out)
             rintro e w12 ⟨rfl, hb⟩
             refine ⟨_, rfl, ?_⟩
             have n0_ := m0_ (below_step (by repeat (first | (with_reducible first | exact HB.out | apply bA_ | apply dN_ | apply b1_) | exact HB.out)) hb)
             clear HB
             have HB := n0_
             clear n0_
             (try clear hb)
             (try clear hb2)
             (try clear hk)
             (try clear hi)
             refine hK.out _ _ ⟨((HB.out.cell (bL_ w _ hw327_0)).trans hw327_0), ((HB.out.cell (bL_ w _ hw327_1)).trans hw327_1), ((HB.out.cell (bL_ w _ hw327_2)).trans hw327_2), ((HB.out.cell (bL_ w _ hw327_3)).trans hw327_3), ((HB.out.cell (bL_ w _ hw327_4)).trans hw327_4), ((HB.out.cell (bL_ w _ hw327_5)).trans hw327_5), ((HB.out.cell (bL_ w _ hw328_0)).trans hw328_0), ((HB.out.cell (bL_ w _ hw328_1)).trans hw328_1), ((HB.out.cell (bL_ w _ hw328_2)).trans hw328_2), ((HB.out.cell (bL_ w _ hw328_3)).trans hw328_3), ((HB.out.cell (bL_ w _ hw328_4)).trans hw328_4), ((HB.out.cell (bL_ w _ hw328_5)).trans hw328_5)⟩ (fun hHeld => ?_)
             clear hK K
             refine norm_ (a' := ?_) ?_ ?_
             rotate_left
             · show Act.put _ (some 26) _ = _
               simp only [Act.put, sI_, sZ_, sS_, i64_w, i32_w]
               rfl
             refine pure_ (i := 9) (N := some 6) (v := ?_) (a' := ?_) #[true, true, true, true, true, true, true, true, true, true] rfl rfl (any_of HT_.out (by kernel_rfl)) (fun _ _ _ h => h) (Or.inl ⟨by rfl, ?_⟩) ?_ ?_
             rotate_left
             · intro w'
               go_simp
               with_reducible rfl
             rotate_left
             · simp only [Act.put, sI_, sZ_, sS_, i64_w, i32_w]
               rfl
             refine done_ (done_of HT_.out (by kernel_rfl)) ?_
             try go_wp2
             go_ret
             exact ⟨by first | rfl | (simp [errW_none, errW_some] <;> rfl) | (simp [*, errW_none, errW_some] <;> rfl), by repeat (first | (with_reducible first | exact HB.out | apply bA_ | apply dN_ | apply b1_) | exact HB.out)⟩
         · rw [if_neg c6] at H
           exact absurd H (by simp)
       · rw [if_neg c5] at H
         exact absurd H (by simp)
     · rw [if_neg c4] at H
       have c4b0 : decide (x5_1 < (l0.length : Int)) = false := decide_eq_false c4
       clear c4
       obtain rfl := sO_ H
       go_wp2
       go_ret
       exact ⟨by first | rfl | (simp [errW_none, errW_some] <;> rfl) | (simp [*, errW_none, errW_some] <;> rfl), by repeat (first | (with_reducible first | exact HB.out | apply bA_ | apply dN_ | apply b1_) | exact HB.out)⟩
 · rw [if_neg c3] at H
   have c3b0 : ((l0.length : Int) == (l1.length : Int)) = false := beq_eq_false_iff_ne.mpr c3
   have c3b1 : ((l0.length : Int) != (l1.length : Int)) = true := bne_iff_ne.mpr c3
   have c3b2 : (l0.length == l1.length) = false := by first | simpa using c3 | (simp at c3 ⊢; omega)
   obtain rfl := sO_ H
   go_enter Try.func14, Try.ntmps14
   go_wp2
   go_ret
   exact ⟨by first | rfl | (simp [errW_none, errW_some] <;> rfl) | (simp [*, errW_none, errW_some] <;> rfl), by repeat (first | (with_reducible first | exact HB.out | apply bA_ | apply dN_ | apply b1_) | exact HB.out)⟩
def banksmanlaw14_RivalTells.j0 : Nat → List (S59) → List (S50) → List (S24) → Bool → Bool → Int → List (S57) → Option (Bool)
 | 0, _, _, _, _, _, _, _ => none
 | k + 1, x1, x2, x3, x9, x31, x331000, x331001 => if x31 = true then (some x9) else ((rival_Judge.f x331000 x331001 x1 x2 x3).bind fun bt335 => ((banksmanref14_Judge.f k x331000 x331001 x1 x2 x3).bind fun bt337 => ((rival_Meets.f x331000 x2).bind fun t339 => ((banksmanref14_Meets.f k x331000 x2).bind fun t342 => ((banksmanref13_All.f k t339 t342).bind fun t345 => (if x9 = true then (if (bt335.1 == bt337.1) = true then (if bt335.2 = bt337.2 then (some t345) else (some false)) else (some false)) else (some false)))))))
def banksmanlaw14_RivalTells.f (k : Nat) (a0_0 : Int) (l0_1 : List (S57)) (l1 : List (S59)) (l2 : List (S50)) (l3 : List (S24)) : Option (Bool) := (banksmanlaw14_awake.f).bind fun t331 => ((banksmanref10_Few.f k l0_1).bind fun t332 => (if t332 = true then ((banksmanref08_Few.f k l1 ([] : List Int)).bind fun t333 => (if t333 = true then ((banksmanref13_Few.f k l2 l3).bind fun t334 => (banksmanlaw14_RivalTells.j0 k l1 l2 l3 t331 (!t334) a0_0 l0_1)) else (banksmanlaw14_RivalTells.j0 k l1 l2 l3 t331 true a0_0 l0_1))) else (banksmanlaw14_RivalTells.j0 k l1 l2 l3 t331 true a0_0 l0_1)))
def banksmanlaw14_RivalTells.T6 : Bool × List (List Nat × List Nat) := (true, [([], []), ([0], [0]), ([], []), ([1, 2], [1, 2]), ([], []), ([4], [4]), ([], []), ([5, 6, 3], [5, 6]), ([3, 7, 7], [3, 7]), ([8, 8, 0, 1, 2, 3, 4, 5, 6, 7, 8], [8])])
def banksmanlaw14_RivalTells.B6 : List Nat := [0, 1, 0, 7, 0, 16, 0, 127, 255, 511]
theorem banksmanlaw14_RivalTells.tab6 : rtab .any (opsOf Try.f3 6) = banksmanlaw14_RivalTells.T6 := by kernel_rfl
theorem banksmanlaw14_RivalTells.bits6 : waitsOk banksmanlaw14_RivalTells.T6.2 banksmanlaw14_RivalTells.B6 = true := by kernel_rfl
set_option maxHeartbeats 8000000 in
set_option maxRecDepth 100000 in
theorem banksmanlaw14_RivalTells.calls (k : Nat) (a0_0 : Int) (A0_1 : Option Addr) (c0_1 : Nat) (l0_1 : List (S57)) (A1 : Option Addr) (c1 : Nat) (l1 : List (S59)) (A2 : Option Addr) (c2 : Nat) (l2 : List (S50)) (A3 : Option Addr) (c3 : Nat) (l3 : List (S24)) (r : Bool) (w : World) (hr0_1 : Kd.C k57 w A0_1 l0_1.length l0_1) (hc0_1 : l0_1.length ≤ c0_1) (hr1 : Kd.C k59 w A1 l1.length l1) (hc1 : l1.length ≤ c1) (hr2 : Kd.C k50 w A2 l2.length l2) (hc2 : l2.length ≤ c2) (hr3 : Kd.C k24 w A3 l3.length l3) (hc3 : l3.length ≤ c3) (h : banksmanlaw14_RivalTells.f k a0_0 l0_1 l1 l2 l3 = some r) (HTr_ : r = true) :
  Calls Try.prog 3 #[.agg #[.int .i64 a0_0, .slice A0_1 l0_1.length c0_1], .slice A1 l1.length c1, .slice A2 l2.length c2, .slice A3 l3.length c3] w fun e w' => e = .returned (.bool r) ∧ Below w.heap.size w w' := by
 have hu24 := Try.underlying24
 have hu33 := Try.underlying33
 have HR0_1 := m0_ hr0_1
 have HC0_1 := m0_ hc0_1
 clear hr0_1 hc0_1
 have HR1 := m0_ hr1
 have HC1 := m0_ hc1
 clear hr1 hc1
 have HR2 := m0_ hr2
 have HC2 := m0_ hc2
 clear hr2 hc2
 have HR3 := m0_ hr3
 have HC3 := m0_ hc3
 clear hr3 hc3
 have HB := m0_ (Below.refl w.heap.size w)
 have H : ((banksmanlaw14_awake.f).bind fun t331 => ((banksmanref10_Few.f k l0_1).bind fun t332 => (if t332 = true then ((banksmanref08_Few.f k l1 ([] : List Int)).bind fun t333 => (if t333 = true then ((banksmanref13_Few.f k l2 l3).bind fun t334 => (banksmanlaw14_RivalTells.j0 k l1 l2 l3 t331 (!t334) a0_0 l0_1)) else (banksmanlaw14_RivalTells.j0 k l1 l2 l3 t331 true a0_0 l0_1))) else (banksmanlaw14_RivalTells.j0 k l1 l2 l3 t331 true a0_0 l0_1)))) = some r := h
 clear h
 replace H := Option.bind_eq_some_iff.mp H
 obtain ⟨t331, A50, H⟩ := H
 replace H : ((banksmanref10_Few.f k l0_1).bind fun t332 => (if t332 = true then ((banksmanref08_Few.f k l1 ([] : List Int)).bind fun t333 => (if t333 = true then ((banksmanref13_Few.f k l2 l3).bind fun t334 => (banksmanlaw14_RivalTells.j0 k l1 l2 l3 t331 (!t334) a0_0 l0_1)) else (banksmanlaw14_RivalTells.j0 k l1 l2 l3 t331 true a0_0 l0_1))) else (banksmanlaw14_RivalTells.j0 k l1 l2 l3 t331 true a0_0 l0_1))) = some r := H
 have A5 := m0_ A50
 clear A50
 have HC6 := m0_ H
 clear H
 go_enter Try.func3, Try.ntmps3
 go_upto_region 2 with (first | ((with_reducible refine gate_dst (N := 4) rfl ?_); refine box_event ?hg (N := 4) ?hd (cs := #[.int .i64 a0_0, .slice A0_1 l0_1.length c0_1]) (t := 24) ?hr ?_; (case hd => rfl); (case hg => rfl); (case hr => first | (go_simp; done) | (go_simp; rfl)); intro gb330 hg w7 hbox hb; have n0_ := m0_ (below_step (by repeat (first | (with_reducible first | exact HB.out | apply bA_ | apply dN_ | apply b1_) | exact HB.out)) hb); have n1_ := m0_ (hbox); have n2_ := m0_ ((by rw [hg]; exact (below_size (by repeat (first | (with_reducible first | exact HB.out | apply bA_ | apply dN_ | apply b1_) | exact HB.out))) : w.heap.size ≤ gb330)); have n3_ := m0_ ((by rw [hg]; exact (below_size (by repeat (first | (with_reducible first | exact HB.out | apply bA_ | apply dN_ | apply b1_) | exact HB.out))) : w.heap.size ≤ gb330)); clear HB; have HB := n0_; have BK330 := n1_; have GW330 := n2_; have GE330 := n3_; clear n0_ n1_ n2_ n3_; clear hb hbox hg) | ((with_reducible refine gate_callee (f := 8) rfl ?_); refine goesL_ (some 15) rfl rfl Try.func8 (by kernel_rfl) rfl #[] rfl (by (try simp only [mT_, mC_, mN_]); first | done | rfl | (simp only [lD_, lT_]; rfl)) ?_; (with_reducible refine (banksmanlaw14_awake.calls  t331 _ A5.out).mono ?_); rintro e w8 ⟨rfl, hb⟩; refine ⟨_, rfl, ?_⟩; have n0_ := m0_ (blk_below (g := gb330) (o := .cells #[.int .i64 a0_0, .slice A0_1 l0_1.length c0_1] 24 (0, 0)) (by (with_reducible repeat (first | refine blk_drewN ?_ _ | refine blk_drew ?_ | refine blk_alloc ?_ _)); exact BK330.out) hb); have n1_ := m0_ (below_step (by repeat (first | (with_reducible first | exact HB.out | apply bA_ | apply dN_ | apply b1_ | refine below_set ?_ GE330.out) | exact HB.out)) hb); clear BK330; clear HB; have BK330 := n0_; have HB := n1_; clear n0_ n1_; (try clear hb); (try clear hb2); (try clear hk); (try clear hi)))
 (try simp only [Act.put, sI_, sZ_, sS_])
 go_cut [31] (fun v31 wc => ∃ (kq : Nat) (x31_5 : Bool), v31 = .bool x31_5 ∧ Aside0 (banksmanlaw14_RivalTells.j0 kq l1 l2 l3 t331 x31_5 a0_0 l0_1 = some r) ∧ Aside0 (kq ≤ k) ∧ Aside0 (wc.heap[gb330]? = some (.cells #[.int .i64 a0_0, (.slice A0_1 l0_1.length c0_1)] 24 (0, 0))) ∧ Aside0 (Below w.heap.size w wc))
 case first =>
  have H := HC6.out
  clear HC6
  replace H := Option.bind_eq_some_iff.mp H
  obtain ⟨t332, A90, H⟩ := H
  replace H : (if t332 = true then ((banksmanref08_Few.f k l1 ([] : List Int)).bind fun t333 => (if t333 = true then ((banksmanref13_Few.f k l2 l3).bind fun t334 => (banksmanlaw14_RivalTells.j0 k l1 l2 l3 t331 (!t334) a0_0 l0_1)) else (banksmanlaw14_RivalTells.j0 k l1 l2 l3 t331 true a0_0 l0_1))) else (banksmanlaw14_RivalTells.j0 k l1 l2 l3 t331 true a0_0 l0_1)) = some r := H
  have A9 := m0_ A90
  clear A90
  by_cases c10 : t332 = true
  · subst c10
    have H1 : ((banksmanref08_Few.f k l1 ([] : List Int)).bind fun t333 => (if t333 = true then ((banksmanref13_Few.f k l2 l3).bind fun t334 => (banksmanlaw14_RivalTells.j0 k l1 l2 l3 t331 (!t334) a0_0 l0_1)) else (banksmanlaw14_RivalTells.j0 k l1 l2 l3 t331 true a0_0 l0_1))) = some r := by rw [if_pos rfl] at H; exact H
    clear H
    have H := H1
    clear H1
    replace H := Option.bind_eq_some_iff.mp H
    obtain ⟨t333, A110, H⟩ := H
    replace H : (if t333 = true then ((banksmanref13_Few.f k l2 l3).bind fun t334 => (banksmanlaw14_RivalTells.j0 k l1 l2 l3 t331 (!t334) a0_0 l0_1)) else (banksmanlaw14_RivalTells.j0 k l1 l2 l3 t331 true a0_0 l0_1)) = some r := H
    have A11 := m0_ A110
    clear A110
    by_cases c12 : t333 = true
    · subst c12
      have H1 : ((banksmanref13_Few.f k l2 l3).bind fun t334 => (banksmanlaw14_RivalTells.j0 k l1 l2 l3 t331 (!t334) a0_0 l0_1)) = some r := by rw [if_pos rfl] at H; exact H
      clear H
      have H := H1
      clear H1
      replace H := Option.bind_eq_some_iff.mp H
      obtain ⟨t334, A130, H⟩ := H
      replace H : (banksmanlaw14_RivalTells.j0 k l1 l2 l3 t331 (!t334) a0_0 l0_1) = some r := H
      have A13 := m0_ A130
      clear A130
      have H' := m0_ H
      clear H
      have hcz14_0 : w8.cell? ⟨gb330, 0, none⟩ = some (.int .i64 a0_0) := (blk_cell BK330.out 0).trans rfl
      have hcz14_1 : w8.cell? ⟨gb330, 1, none⟩ = some (.slice A0_1 l0_1.length c0_1) := (blk_cell BK330.out 1).trans rfl
      have hfz14_0 := bf_ BK330.out 0
      have hfz14_1 := bf_ BK330.out 1
      go_wp2_with (first | ((with_reducible refine gate_callee (f := 9) rfl ?_); refine goesL_ (some 18) rfl rfl Try.func9 (by kernel_rfl) rfl #[.slice A0_1 l0_1.length c0_1] rfl (by (try simp only [mT_, mC_, mN_]); first | done | rfl | (simp only [lD_, lT_]; rfl)) ?_; (with_reducible refine (banksmanref10_Few.calls k _ _ l0_1 true _ ?side1 ?side2 A9.out).mono ?_); (case side1 => repeat (first | exact (kB_ HR0_1.out HB.out) | (with_reducible first | refine kA_ ?_ _ | refine kN_ ?_ _ | refine kD_ ?_))); (case side2 => exact HC0_1.out); rintro e w' ⟨rfl, ⟨nd, rfl⟩⟩; refine ⟨_, rfl, ?_⟩) | (go_at_call 10; (refine (banksmanref08_Few.calls k _ _ l1 _ _ ([] : List Int) true _ ?side1 ?side2 ?side3 ?side4 A11.out).mono ?_); (case side1 => repeat (first | exact (kB_ HR1.out (by repeat (first | (with_reducible first | exact HB.out | apply bA_ | apply dN_ | apply b1_ | refine below_set ?_ GE330.out) | exact HB.out))) | (with_reducible first | refine kA_ ?_ _ | refine kN_ ?_ _ | refine kD_ ?_))); (case side2 => exact HC1.out); (case side3 => exact Kd.C_nil _ _); (case side4 => exact Nat.le_refl _); rintro e w15 ⟨rfl, hb⟩; have n0_ := m0_ (blk_below (g := gb330) (o := .cells #[.int .i64 a0_0, .slice A0_1 l0_1.length c0_1] 24 (0, 0)) (by (with_reducible repeat (first | refine blk_drewN ?_ _ | refine blk_drew ?_ | refine blk_alloc ?_ _)); exact BK330.out) hb); have n1_ := m0_ (below_step (by repeat (first | (with_reducible first | exact HB.out | apply bA_ | apply dN_ | apply b1_ | refine below_set ?_ GE330.out) | exact HB.out)) hb); clear BK330; clear HB; have BK330 := n0_; have HB := n1_; clear n0_ n1_; (try clear hb); (try clear hb2); (try clear hk); (try clear hi)) | (go_at_call 11; (with_reducible refine (banksmanref13_Few.calls k _ _ l2 _ _ l3 t334 _ ?side1 ?side2 ?side3 ?side4 A13.out).mono ?_); (case side1 => repeat (first | exact (kB_ HR2.out HB.out) | (with_reducible first | refine kA_ ?_ _ | refine kN_ ?_ _ | refine kD_ ?_))); (case side2 => exact HC2.out); (case side3 => repeat (first | exact (kB_ HR3.out HB.out) | (with_reducible first | refine kA_ ?_ _ | refine kN_ ?_ _ | refine kD_ ?_))); (case side4 => exact HC3.out); rintro e w16 ⟨rfl, hb⟩; have n0_ := m0_ (blk_below (g := gb330) (o := .cells #[.int .i64 a0_0, .slice A0_1 l0_1.length c0_1] 24 (0, 0)) (by (with_reducible repeat (first | refine blk_drewN ?_ _ | refine blk_drew ?_ | refine blk_alloc ?_ _)); exact BK330.out) hb); have n1_ := m0_ (below_step (by repeat (first | (with_reducible first | exact HB.out | apply bA_ | apply dN_ | apply b1_ | refine below_set ?_ GE330.out) | exact HB.out)) hb); clear BK330; clear HB; have BK330 := n0_; have HB := n1_; clear n0_ n1_; (try clear hb); (try clear hb2); (try clear hk); (try clear hi)))
      go_meet
      case rel => exact ⟨_, (!t334), (by first | rfl | (simp; done) | (simp [*]; done)), H', ⟨by first | omega | exact Nat.le_refl _⟩, ⟨by (with_reducible repeat (first | refine blk_drewN ?_ _ | refine blk_drew ?_ | refine blk_alloc ?_ _)); exact BK330.out⟩, ⟨by repeat (first | (with_reducible first | exact HB.out | apply bA_ | apply dN_ | apply b1_ | refine below_set ?_ GE330.out) | exact HB.out)⟩⟩
    · replace c12 := Bool.eq_false_iff.mpr c12
      subst c12
      have H1 : (banksmanlaw14_RivalTells.j0 k l1 l2 l3 t331 true a0_0 l0_1) = some r := by rw [if_neg (show ¬ (false = true) by decide)] at H; exact H
      clear H
      have H := H1
      clear H1
      have H' := m0_ H
      clear H
      have hcz17_0 : w8.cell? ⟨gb330, 0, none⟩ = some (.int .i64 a0_0) := (blk_cell BK330.out 0).trans rfl
      have hcz17_1 : w8.cell? ⟨gb330, 1, none⟩ = some (.slice A0_1 l0_1.length c0_1) := (blk_cell BK330.out 1).trans rfl
      have hfz17_0 := bf_ BK330.out 0
      have hfz17_1 := bf_ BK330.out 1
      go_wp2_with (first | ((with_reducible refine gate_callee (f := 9) rfl ?_); refine goesL_ (some 18) rfl rfl Try.func9 (by kernel_rfl) rfl #[.slice A0_1 l0_1.length c0_1] rfl (by (try simp only [mT_, mC_, mN_]); first | done | rfl | (simp only [lD_, lT_]; rfl)) ?_; (with_reducible refine (banksmanref10_Few.calls k _ _ l0_1 true _ ?side1 ?side2 A9.out).mono ?_); (case side1 => repeat (first | exact (kB_ HR0_1.out HB.out) | (with_reducible first | refine kA_ ?_ _ | refine kN_ ?_ _ | refine kD_ ?_))); (case side2 => exact HC0_1.out); rintro e w' ⟨rfl, ⟨nd, rfl⟩⟩; refine ⟨_, rfl, ?_⟩) | (go_at_call 10; (refine (banksmanref08_Few.calls k _ _ l1 _ _ ([] : List Int) false _ ?side1 ?side2 ?side3 ?side4 A11.out).mono ?_); (case side1 => repeat (first | exact (kB_ HR1.out (by repeat (first | (with_reducible first | exact HB.out | apply bA_ | apply dN_ | apply b1_ | refine below_set ?_ GE330.out) | exact HB.out))) | (with_reducible first | refine kA_ ?_ _ | refine kN_ ?_ _ | refine kD_ ?_))); (case side2 => exact HC1.out); (case side3 => exact Kd.C_nil _ _); (case side4 => exact Nat.le_refl _); rintro e w18 ⟨rfl, hb⟩; have n0_ := m0_ (blk_below (g := gb330) (o := .cells #[.int .i64 a0_0, .slice A0_1 l0_1.length c0_1] 24 (0, 0)) (by (with_reducible repeat (first | refine blk_drewN ?_ _ | refine blk_drew ?_ | refine blk_alloc ?_ _)); exact BK330.out) hb); have n1_ := m0_ (below_step (by repeat (first | (with_reducible first | exact HB.out | apply bA_ | apply dN_ | apply b1_ | refine below_set ?_ GE330.out) | exact HB.out)) hb); clear BK330; clear HB; have BK330 := n0_; have HB := n1_; clear n0_ n1_; (try clear hb); (try clear hb2); (try clear hk); (try clear hi)))
      go_meet
      case rel => exact ⟨_, (true), (by first | rfl | (simp; done) | (simp [*]; done)), H', ⟨by first | omega | exact Nat.le_refl _⟩, ⟨by (with_reducible repeat (first | refine blk_drewN ?_ _ | refine blk_drew ?_ | refine blk_alloc ?_ _)); exact BK330.out⟩, ⟨by repeat (first | (with_reducible first | exact HB.out | apply bA_ | apply dN_ | apply b1_ | refine below_set ?_ GE330.out) | exact HB.out)⟩⟩
  · replace c10 := Bool.eq_false_iff.mpr c10
    subst c10
    have H1 : (banksmanlaw14_RivalTells.j0 k l1 l2 l3 t331 true a0_0 l0_1) = some r := by rw [if_neg (show ¬ (false = true) by decide)] at H; exact H
    clear H
    have H := H1
    clear H1
    have H' := m0_ H
    clear H
    have hcz19_0 : w8.cell? ⟨gb330, 0, none⟩ = some (.int .i64 a0_0) := (blk_cell BK330.out 0).trans rfl
    have hcz19_1 : w8.cell? ⟨gb330, 1, none⟩ = some (.slice A0_1 l0_1.length c0_1) := (blk_cell BK330.out 1).trans rfl
    have hfz19_0 := bf_ BK330.out 0
    have hfz19_1 := bf_ BK330.out 1
    go_wp2_with (first | ((with_reducible refine gate_callee (f := 9) rfl ?_); refine goesL_ (some 18) rfl rfl Try.func9 (by kernel_rfl) rfl #[.slice A0_1 l0_1.length c0_1] rfl (by (try simp only [mT_, mC_, mN_]); first | done | rfl | (simp only [lD_, lT_]; rfl)) ?_; (with_reducible refine (banksmanref10_Few.calls k _ _ l0_1 false _ ?side1 ?side2 A9.out).mono ?_); (case side1 => repeat (first | exact (kB_ HR0_1.out HB.out) | (with_reducible first | refine kA_ ?_ _ | refine kN_ ?_ _ | refine kD_ ?_))); (case side2 => exact HC0_1.out); rintro e w' ⟨rfl, ⟨nd, rfl⟩⟩; refine ⟨_, rfl, ?_⟩))
    go_meet
    case rel => exact ⟨_, (true), (by first | rfl | (simp; done) | (simp [*]; done)), H', ⟨by first | omega | exact Nat.le_refl _⟩, ⟨by (with_reducible repeat (first | refine blk_drewN ?_ _ | refine blk_drew ?_ | refine blk_alloc ?_ _)); exact BK330.out⟩, ⟨by repeat (first | (with_reducible first | exact HB.out | apply bA_ | apply dN_ | apply b1_ | refine below_set ?_ GE330.out) | exact HB.out)⟩⟩
 case rest =>
  clear HC6
  try clear c1
  try clear c2
  try clear p2
  try clear c3
  try clear c8
  try clear c9
  try clear c10
  try clear c12
  try clear hcz14_0
  try clear hcz14_1
  try clear hcz17_0
  try clear hcz17_1
  try clear hcz19_0
  try clear hcz19_1
  try clear hfz14_0
  try clear hfz14_1
  try clear hfz17_0
  try clear hfz17_1
  try clear hfz19_0
  try clear hfz19_1
  obtain ⟨kq, x31_5, rfl, HA, HJ5, BK330, HB⟩ := hcut
  cases kq with
  | zero => exact absurd HA.out (by simp [banksmanlaw14_RivalTells.j0])
  | succ kj5 =>
    have H := HA.out
    clear HA
    simp only [banksmanlaw14_RivalTells.j0] at H
    by_cases c20 : x31_5 = true
    · subst c20
      have H1 : (some t331) = some r := by rw [if_pos rfl] at H; exact H
      clear H
      have H := H1
      clear H1
      obtain rfl := sO_ H
      go_wp2
      go_ret
      exact ⟨by first | rfl | (simp [errW_none, errW_some] <;> rfl) | (simp [*, errW_none, errW_some] <;> rfl), by repeat (first | (with_reducible first | exact HB.out | apply bA_ | apply dN_ | apply b1_ | refine below_set ?_ GE330.out) | exact HB.out)⟩
    · replace c20 := Bool.eq_false_iff.mpr c20
      subst c20
      have H1 : ((rival_Judge.f a0_0 l0_1 l1 l2 l3).bind fun bt335 => ((banksmanref14_Judge.f kj5 a0_0 l0_1 l1 l2 l3).bind fun bt337 => ((rival_Meets.f a0_0 l2).bind fun t339 => ((banksmanref14_Meets.f kj5 a0_0 l2).bind fun t342 => ((banksmanref13_All.f kj5 t339 t342).bind fun t345 => (if t331 = true then (if (bt335.1 == bt337.1) = true then (if bt335.2 = bt337.2 then (some t345) else (some false)) else (some false)) else (some false))))))) = some r := by rw [if_neg (show ¬ (false = true) by decide)] at H; exact H
      clear H
      have H := H1
      clear H1
      replace H := Option.bind_eq_some_iff.mp H
      obtain ⟨⟨t335, t336⟩, A210, H⟩ := H
      replace H : ((banksmanref14_Judge.f kj5 a0_0 l0_1 l1 l2 l3).bind fun bt337 => ((rival_Meets.f a0_0 l2).bind fun t339 => ((banksmanref14_Meets.f kj5 a0_0 l2).bind fun t342 => ((banksmanref13_All.f kj5 t339 t342).bind fun t345 => (if t331 = true then (if (t335 == bt337.1) = true then (if t336 = bt337.2 then (some t345) else (some false)) else (some false)) else (some false)))))) = some r := H
      have A21 := m0_ A210
      clear A210
      replace H := Option.bind_eq_some_iff.mp H
      obtain ⟨⟨t337, t338⟩, A220, H⟩ := H
      replace H : ((rival_Meets.f a0_0 l2).bind fun t339 => ((banksmanref14_Meets.f kj5 a0_0 l2).bind fun t342 => ((banksmanref13_All.f kj5 t339 t342).bind fun t345 => (if t331 = true then (if (t335 == t337) = true then (if t336 = t338 then (some t345) else (some false)) else (some false)) else (some false))))) = some r := H
      have A22 := m0_ A220
      clear A220
      replace H := Option.bind_eq_some_iff.mp H
      obtain ⟨t339, A230, H⟩ := H
      replace H : ((banksmanref14_Meets.f kj5 a0_0 l2).bind fun t342 => ((banksmanref13_All.f kj5 t339 t342).bind fun t345 => (if t331 = true then (if (t335 == t337) = true then (if t336 = t338 then (some t345) else (some false)) else (some false)) else (some false)))) = some r := H
      have A23 := m0_ A230
      clear A230
      replace H := Option.bind_eq_some_iff.mp H
      obtain ⟨t342, A240, H⟩ := H
      replace H : ((banksmanref13_All.f kj5 t339 t342).bind fun t345 => (if t331 = true then (if (t335 == t337) = true then (if t336 = t338 then (some t345) else (some false)) else (some false)) else (some false))) = some r := H
      have A24 := m0_ A240
      clear A240
      replace H := Option.bind_eq_some_iff.mp H
      obtain ⟨t345, A250, H⟩ := H
      replace H : (if t331 = true then (if (t335 == t337) = true then (if t336 = t338 then (some t345) else (some false)) else (some false)) else (some false)) = some r := H
      have A25 := m0_ A250
      clear A250
      by_cases c26 : t331 = true
      · subst c26
        have H1 : (if (t335 == t337) = true then (if t336 = t338 then (some t345) else (some false)) else (some false)) = some r := by rw [if_pos rfl] at H; exact H
        clear H
        have H := H1
        clear H1
        by_cases c27 : (t335 == t337) = true
        · rw [if_pos c27] at H
          have c27b0 : (t335 == t337) = true := c27
          (try (have c27b1 : decide (t335 = t337) = true := by simpa using c27))
          (try (have c27b2 : (t335 == t337) = true := by simpa using c27))
          clear c27
          by_cases c28 : t336 = t338
          · rw [if_pos c28] at H
            have c28b0 : (t336 == t338) = true := beq_iff_eq.mpr c28
            have c28b1 : (t336 != t338) = false := bne_eq_false_iff_eq.mpr c28
            clear c28
            obtain rfl := sO_ H
            have hcz29_0 : wc.cell? ⟨gb330, 0, none⟩ = some (.int .i64 a0_0) := (blk_cell BK330.out 0).trans rfl
            have hcz29_1 : wc.cell? ⟨gb330, 1, none⟩ = some (.slice A0_1 l0_1.length c0_1) := (blk_cell BK330.out 1).trans rfl
            have hfz29_0 := bf_ BK330.out 0
            have hfz29_1 := bf_ BK330.out 1
            try go_wp2_with (first | ((with_reducible refine gate_callee (f := 12) rfl ?_); refine goesL_ (some 38) rfl rfl Try.func12 (by kernel_rfl) rfl #[.agg #[.int .i64 a0_0, .slice A0_1 l0_1.length c0_1], .slice A1 l1.length c1, .slice A2 l2.length c2, .slice A3 l3.length c3] rfl (by (try simp only [mT_, mC_, mN_]); first | done | rfl | (simp only [lD_, lT_]; rfl)) ?_; (with_reducible refine (rival_Judge.calls a0_0 _ _ l0_1 _ _ l1 _ _ l2 _ _ l3 t335 t336 _ ?side1 ?side2 ?side3 ?side4 ?side5 ?side6 ?side7 ?side8 A21.out).mono ?_); (case side1 => repeat (first | exact (kB_ HR0_1.out HB.out) | (with_reducible first | refine kA_ ?_ _ | refine kN_ ?_ _ | refine kD_ ?_))); (case side2 => exact HC0_1.out); (case side3 => repeat (first | exact (kB_ HR1.out HB.out) | (with_reducible first | refine kA_ ?_ _ | refine kN_ ?_ _ | refine kD_ ?_))); (case side4 => exact HC1.out); (case side5 => repeat (first | exact (kB_ HR2.out HB.out) | (with_reducible first | refine kA_ ?_ _ | refine kN_ ?_ _ | refine kD_ ?_))); (case side6 => exact HC2.out); (case side7 => repeat (first | exact (kB_ HR3.out HB.out) | (with_reducible first | refine kA_ ?_ _ | refine kN_ ?_ _ | refine kD_ ?_))); (case side8 => exact HC3.out); rintro e w30 ⟨rfl, hb⟩; refine ⟨_, rfl, ?_⟩; have n0_ := m0_ (blk_below (g := gb330) (o := .cells #[.int .i64 a0_0, .slice A0_1 l0_1.length c0_1] 24 (0, 0)) (by (with_reducible repeat (first | refine blk_drewN ?_ _ | refine blk_drew ?_ | refine blk_alloc ?_ _)); exact BK330.out) hb); have n1_ := m0_ (below_step (by repeat (first | (with_reducible first | exact HB.out | apply bA_ | apply dN_ | apply b1_ | refine below_set ?_ GE330.out) | exact HB.out)) hb); clear BK330; clear HB; have BK330 := n0_; have HB := n1_; clear n0_ n1_; (try clear hb); (try clear hb2); (try clear hk); (try clear hi); have hcz31_0 : w30.cell? ⟨gb330, 0, none⟩ = some (.int .i64 a0_0) := (blk_cell BK330.out 0).trans rfl; have hcz31_1 : w30.cell? ⟨gb330, 1, none⟩ = some (.slice A0_1 l0_1.length c0_1) := (blk_cell BK330.out 1).trans rfl; have hfz31_0 := bf_ BK330.out 0; have hfz31_1 := bf_ BK330.out 1) | ((with_reducible refine gate_callee (f := 13) rfl ?_); refine goesL_ (some 46) rfl rfl Try.func13 (by kernel_rfl) rfl #[.agg #[.int .i64 a0_0, .slice A0_1 l0_1.length c0_1], .slice A1 l1.length c1, .slice A2 l2.length c2, .slice A3 l3.length c3] rfl (by (try simp only [mT_, mC_, mN_]); first | done | rfl | (simp only [lD_, lT_]; rfl)) ?_; (with_reducible refine (banksmanref14_Judge.calls kj5 a0_0 _ _ l0_1 _ _ l1 _ _ l2 _ _ l3 t337 t338 _ ?side1 ?side2 ?side3 ?side4 ?side5 ?side6 ?side7 ?side8 A22.out).mono ?_); (case side1 => repeat (first | exact (kB_ HR0_1.out HB.out) | (with_reducible first | refine kA_ ?_ _ | refine kN_ ?_ _ | refine kD_ ?_))); (case side2 => exact HC0_1.out); (case side3 => repeat (first | exact (kB_ HR1.out HB.out) | (with_reducible first | refine kA_ ?_ _ | refine kN_ ?_ _ | refine kD_ ?_))); (case side4 => exact HC1.out); (case side5 => repeat (first | exact (kB_ HR2.out HB.out) | (with_reducible first | refine kA_ ?_ _ | refine kN_ ?_ _ | refine kD_ ?_))); (case side6 => exact HC2.out); (case side7 => repeat (first | exact (kB_ HR3.out HB.out) | (with_reducible first | refine kA_ ?_ _ | refine kN_ ?_ _ | refine kD_ ?_))); (case side8 => exact HC3.out); rintro e w32 ⟨rfl, hb⟩; refine ⟨_, rfl, ?_⟩; have n0_ := m0_ (blk_below (g := gb330) (o := .cells #[.int .i64 a0_0, .slice A0_1 l0_1.length c0_1] 24 (0, 0)) (by (with_reducible repeat (first | refine blk_drewN ?_ _ | refine blk_drew ?_ | refine blk_alloc ?_ _)); exact BK330.out) hb); have n1_ := m0_ (below_step (by repeat (first | (with_reducible first | exact HB.out | apply bA_ | apply dN_ | apply b1_ | refine below_set ?_ GE330.out) | exact HB.out)) hb); clear BK330; clear HB; have BK330 := n0_; have HB := n1_; clear n0_ n1_; (try clear hb); (try clear hb2); (try clear hk); (try clear hi)))
            have n0_ := m0_ (blk_drew BK330.out)
            have n1_ := m0_ (b1_ HB.out)
            clear BK330
            clear HB
            have BK330 := n0_
            have HB := n1_
            clear n0_ n1_
            refine start_ (n := 10) (S := fun w' => w'.cell? ⟨gb330, 0, none⟩ = some (.int .i64 a0_0) ∧ w'.cell? ⟨gb330, 1, none⟩ = some (.slice A0_1 l0_1.length c0_1)) (ds := []) #[false, false, false, false, false, false, false, false, false, false] (by kernel_rfl) rfl rfl ⟨(blk_cell BK330.out 0).trans rfl, (blk_cell BK330.out 1).trans rfl⟩ (fun hHeld => ?_); refine with_tabW banksmanlaw14_RivalTells.tab6 banksmanlaw14_RivalTells.bits6 (fun HT_ HW_ => ?_)
            generalize w32.drew = w33 at BK330 HB hHeld ⊢
            refine pure_ (i := 0) (N := some 49) (v := ?_) (a' := ?_) #[true, false, false, false, false, false, false, false, false, false] rfl rfl (any_of HT_.out (by kernel_rfl)) (fun _ _ _ h => h) (Or.inl ⟨by rfl, ?_⟩) ?_ ?_
            rotate_left
            · intro w'
              go_simp
              with_reducible rfl
            rotate_left
            · simp only [Act.put, sI_, sZ_, sS_, i64_w, i32_w]
              rfl
            refine pure_ (i := 2) (N := some 51) (v := ?_) (a' := ?_) #[true, false, true, false, false, false, false, false, false, false] rfl rfl (any_of HT_.out (by kernel_rfl)) (fun _ _ _ h => h) (Or.inl ⟨by rfl, ?_⟩) ?_ ?_
            rotate_left
            · intro w'
              go_simp
              with_reducible rfl
            rotate_left
            · simp only [Act.put, sI_, sZ_, sS_, i64_w, i32_w]
              rfl
            refine pure_ (i := 4) (N := some 53) (v := ?_) (a' := ?_) #[true, false, true, false, true, false, false, false, false, false] rfl rfl (any_of HT_.out (by kernel_rfl)) (fun _ _ _ h => h) (Or.inl ⟨by rfl, ?_⟩) ?_ ?_
            rotate_left
            · intro w'
              go_simp
              with_reducible rfl
            rotate_left
            · simp only [Act.put, sI_, sZ_, sS_, i64_w, i32_w]
              rfl
            refine pure_ (i := 6) (N := some 55) (v := ?_) (a' := ?_) #[true, false, true, false, true, false, true, false, false, false] rfl rfl (any_of HT_.out (by kernel_rfl)) (fun _ _ _ h => h) (Or.inl ⟨by rfl, ?_⟩) ?_ ?_
            rotate_left
            · intro w'
              go_simp
              with_reducible rfl
            rotate_left
            · simp only [Act.put, sI_, sZ_, sS_, i64_w, i32_w]
              rfl
            refine take_ (i := 1) (N := some 50) (v := ?_) (a' := ?_) #[true, true, true, false, true, false, true, false, false, false] rfl rfl (take_ofW HT_.out HW_.out (by kernel_rfl)) (fun _ _ _ h => h) (Or.inl ⟨by rfl, ?_⟩) hHeld ?_ ?_
            rotate_left
            · rintro w' ⟨s0, s1⟩
              go_simp
              with_reducible rfl
            rotate_left
            · simp only [Act.put, sI_, sZ_, sS_, i64_w, i32_w]
              rfl
            refine take_ (i := 5) (N := some 54) (v := ?_) (a' := ?_) #[true, true, true, false, true, true, true, false, false, false] rfl rfl (take_ofW HT_.out HW_.out (by kernel_rfl)) (fun _ _ _ h => h) (Or.inl ⟨by rfl, ?_⟩) hHeld ?_ ?_
            rotate_left
            · rintro w' ⟨s0, s1⟩
              go_simp
              with_reducible rfl
            rotate_left
            · simp only [Act.put, sI_, sZ_, sS_, i64_w, i32_w]
              rfl
            refine one_ (i := 3) (N := some 52) #[true, true, true, true, true, true, true, false, false, false] rfl rfl (one_of HT_.out (by kernel_rfl)) (by decide) (fun K hK => ?_)
            refine goes_ Try.func15 (by kernel_rfl) rfl #[.int .i64 a0_0, .slice A2 l2.length c2] (by rfl) rfl rfl (by (try simp only [mT_, mC_, mN_]); first | done | rfl | (simp only [lD_, lT_]; rfl)) ?_
            with_reducible refine (rival_Meets.calls a0_0 _ _ l2 t339 _ ?side1 ?side2 A23.out).mono ?_
            (case side1 => repeat (first | exact (kB_ HR2.out HB.out) | (with_reducible first | refine kA_ ?_ _ | refine kN_ ?_ _ | refine kD_ ?_)))
            (case side2 => exact HC2.out)
            rintro e w34 ⟨v340, rfl, ho0, hb⟩
            refine ⟨_, rfl, ?_⟩
            have n0_ := m0_ (Kd.V_lower (Kd.V_mono (ok' := fun k_ => k_ ≠ gb330) ho0 (fun k_ hk_ => (Kd.freshB (g := gb330) (o := .cells #[.int .i64 a0_0, .slice A0_1 l0_1.length c0_1] 24 (0, 0)) (by (with_reducible repeat (first | refine blk_drewN ?_ _ | refine blk_drew ?_ | refine blk_alloc ?_ _)); exact BK330.out) k_ hk_))) (below_size (by repeat (first | (with_reducible first | exact HB.out | apply bA_ | apply dN_ | apply b1_ | refine below_set ?_ GE330.out) | exact HB.out))))
            have n1_ := m0_ (blk_below (g := gb330) (o := .cells #[.int .i64 a0_0, .slice A0_1 l0_1.length c0_1] 24 (0, 0)) (by (with_reducible repeat (first | refine blk_drewN ?_ _ | refine blk_drew ?_ | refine blk_alloc ?_ _)); exact BK330.out) hb)
            have n2_ := m0_ (below_step (by repeat (first | (with_reducible first | exact HB.out | apply bA_ | apply dN_ | apply b1_ | refine below_set ?_ GE330.out) | exact HB.out)) hb)
            clear BK330
            clear HB
            have HO341 := n0_
            have BK330 := n1_
            have HB := n2_
            clear n0_ n1_ n2_
            (try clear hb)
            (try clear hb2)
            (try clear hk)
            (try clear hi)
            (try clear ho0)
            refine hK.out _ _ ⟨(blk_cell BK330.out 0).trans rfl, (blk_cell BK330.out 1).trans rfl⟩ (fun hHeld => ?_)
            clear hK K
            refine norm_ (a' := ?_) ?_ ?_
            rotate_left
            · show Act.put _ (some 52) _ = _
              simp only [Act.put, sI_, sZ_, sS_, i64_w, i32_w]
              rfl
            refine one_ (i := 7) (N := some 56) #[true, true, true, true, true, true, true, true, false, false] rfl rfl (one_of HT_.out (by kernel_rfl)) (by decide) (fun K hK => ?_)
            refine goes_ Try.func16 (by kernel_rfl) rfl #[.int .i64 a0_0, .slice A2 l2.length c2] (by rfl) rfl rfl (by (try simp only [mT_, mC_, mN_]); first | done | rfl | (simp only [lD_, lT_]; rfl)) ?_
            with_reducible refine (banksmanref14_Meets.calls kj5 a0_0 _ _ l2 t342 _ ?side1 ?side2 A24.out).mono ?_
            (case side1 => repeat (first | exact (kB_ HR2.out HB.out) | (with_reducible first | refine kA_ ?_ _ | refine kN_ ?_ _ | refine kD_ ?_)))
            (case side2 => exact HC2.out)
            rintro e w35 ⟨v343, rfl, ho0, hb⟩
            refine ⟨_, rfl, ?_⟩
            have n0_ := m0_ (Kd.V_elder' (by (with_reducible repeat (first | apply vA_ | apply vN_ | apply vD_)); exact HO341.out) (Kd.R_base ho0) hb)
            have n1_ := m0_ (Kd.R_lower ho0 (below_size (by repeat (first | (with_reducible first | exact HB.out | apply bA_ | apply dN_ | apply b1_ | refine below_set ?_ GE330.out) | exact HB.out))))
            have n2_ := m0_ (blk_below (g := gb330) (o := .cells #[.int .i64 a0_0, .slice A0_1 l0_1.length c0_1] 24 (0, 0)) (by (with_reducible repeat (first | refine blk_drewN ?_ _ | refine blk_drew ?_ | refine blk_alloc ?_ _)); exact BK330.out) hb)
            have n3_ := m0_ (below_step (by repeat (first | (with_reducible first | exact HB.out | apply bA_ | apply dN_ | apply b1_ | refine below_set ?_ GE330.out) | exact HB.out)) hb)
            clear HO341
            clear BK330
            clear HB
            have HO341 := n0_
            have HO344 := n1_
            have BK330 := n2_
            have HB := n3_
            clear n0_ n1_ n2_ n3_
            (try clear hb)
            (try clear hb2)
            (try clear hk)
            (try clear hi)
            (try clear ho0)
            obtain ⟨Ao36, co36, eo36⟩ := Kd.V_slice HO341.out
            (first | subst eo36 | (injection eo36 with f1_ f2_ f3_; have f4_ := f1_.symm; have f5_ := f3_.symm; clear f1_ f2_ f3_; subst f4_; subst f5_))
            obtain ⟨Ao37, co37, eo37⟩ := Kd.R_slice HO344.out
            (first | subst eo37 | (injection eo37 with f1_ f2_ f3_; have f4_ := f1_.symm; have f5_ := f3_.symm; clear f1_ f2_ f3_; subst f4_; subst f5_))
            refine hK.out _ _ ⟨(blk_cell BK330.out 0).trans rfl, (blk_cell BK330.out 1).trans rfl⟩ (fun hHeld => ?_)
            clear hK K
            refine norm_ (a' := ?_) ?_ ?_
            rotate_left
            · show Act.put _ (some 56) _ = _
              simp only [Act.put, sI_, sZ_, sS_, i64_w, i32_w]
              rfl
            refine one_ (i := 8) (N := some 57) #[true, true, true, true, true, true, true, true, true, false] rfl rfl (one_of HT_.out (by kernel_rfl)) (by decide) (fun K hK => ?_)
            refine goes_ Try.func14 (by kernel_rfl) rfl #[.slice Ao36 t339.length co36, .slice Ao37 t342.length co37] (by rfl) rfl rfl (by (try simp only [mT_, mC_, mN_]); first | done | rfl | (simp only [lD_, lT_]; rfl)) ?_
            with_reducible refine (banksmanref13_All.calls kj5 _ _ t339 _ _ t342 t345 _ ?side1 ?side2 ?side3 ?side4 A25.out).mono ?_
            (case side1 => repeat (first | exact (Kd.V_reads' HO341.out).2.2 | (with_reducible first | refine kA_ ?_ _ | refine kN_ ?_ _ | refine kD_ ?_)))
            (case side2 => exact (Kd.V_reads' HO341.out).2.1)
            (case side3 => repeat (first | exact (Kd.R_reads' HO344.out).2.2 | (with_reducible first | refine kA_ ?_ _ | refine kN_ ?_ _ | refine kD_ ?_)))
            (case side4 => exact (Kd.R_reads' HO344.out).2.1)
            rintro e w38 ⟨rfl, hb⟩
            refine ⟨_, rfl, ?_⟩
            have n0_ := m0_ (Kd.V_below (by (with_reducible repeat (first | apply vA_ | apply vN_ | apply vD_)); exact HO341.out) hb)
            have n1_ := m0_ (Kd.R_below (by (with_reducible repeat (first | apply Kd.R_alloc | apply Kd.R_drewN | apply Kd.R_drew)); exact HO344.out) hb)
            have n2_ := m0_ (blk_below (g := gb330) (o := .cells #[.int .i64 a0_0, .slice A0_1 l0_1.length c0_1] 24 (0, 0)) (by (with_reducible repeat (first | refine blk_drewN ?_ _ | refine blk_drew ?_ | refine blk_alloc ?_ _)); exact BK330.out) hb)
            have n3_ := m0_ (below_step (by repeat (first | (with_reducible first | exact HB.out | apply bA_ | apply dN_ | apply b1_ | refine below_set ?_ GE330.out) | exact HB.out)) hb)
            clear HO341
            clear HO344
            clear BK330
            clear HB
            have HO341 := n0_
            have HO344 := n1_
            have BK330 := n2_
            have HB := n3_
            clear n0_ n1_ n2_ n3_
            (try clear hb)
            (try clear hb2)
            (try clear hk)
            (try clear hi)
            refine hK.out _ _ ⟨(blk_cell BK330.out 0).trans rfl, (blk_cell BK330.out 1).trans rfl⟩ (fun hHeld => ?_)
            clear hK K
            refine norm_ (a' := ?_) ?_ ?_
            rotate_left
            · show Act.put _ (some 57) _ = _
              simp only [Act.put, sI_, sZ_, sS_, i64_w, i32_w]
              rfl
            refine pure_ (i := 9) (N := some 14) (v := ?_) (a' := ?_) #[true, true, true, true, true, true, true, true, true, true] rfl rfl (any_of HT_.out (by kernel_rfl)) (fun _ _ _ h => h) (Or.inl ⟨by rfl, ?_⟩) ?_ ?_
            rotate_left
            · intro w'
              go_simp
              with_reducible rfl
            rotate_left
            · simp only [Act.put, sI_, sZ_, sS_, i64_w, i32_w]
              rfl
            refine done_ (done_of HT_.out (by kernel_rfl)) ?_
            try go_wp2
            go_ret
            exact ⟨by first | rfl | (simp [errW_none, errW_some] <;> rfl) | (simp [*, errW_none, errW_some] <;> rfl), by repeat (first | (with_reducible first | exact HB.out | apply bA_ | apply dN_ | apply b1_ | refine below_set ?_ GE330.out) | exact HB.out)⟩
          · rw [if_neg c28] at H
            rw [HTr_] at H
            exact absurd (sO_ H) (by decide)
        · rw [if_neg c27] at H
          rw [HTr_] at H
          exact absurd (sO_ H) (by decide)
      · replace c26 := Bool.eq_false_iff.mpr c26
        subst c26
        have H1 : (some false) = some r := by rw [if_neg (show ¬ (false = true) by decide)] at H; exact H
        rw [HTr_] at H1
        exact absurd (sO_ H1) (by decide)
def banksmanlaw14_RivalTells.Pure : Prop := ∀ (a0_0 : Int) (l0_1 : List (S57)) (l1 : List (S59)) (l2 : List (S50)) (l3 : List (S24)), (fun n_ : Int => (Lit.int .i64 n_).wf = true) a0_0 → (fun xs_ : List (S57) => xs_.length ≤ maxLen ∧ ∀ x ∈ xs_, (fun x_ : S57 => (fun n_ : Int => (Lit.int .i64 n_).wf = true) x_.f0 ∧ (fun xs_ : List Int => xs_.length ≤ maxLen ∧ ∀ x ∈ xs_, (fun n_ : Int => (Lit.int .u8 n_).wf = true) x) x_.f1 ∧ (fun xs_ : List Int => xs_.length ≤ maxLen ∧ ∀ x ∈ xs_, (fun n_ : Int => (Lit.int .u8 n_).wf = true) x) x_.f2 ∧ (fun _ : Bool => True) x_.f3) x) l0_1 → (fun xs_ : List (S59) => xs_.length ≤ maxLen ∧ ∀ x ∈ xs_, (fun x_ : S59 => (fun n_ : Int => (Lit.int .i64 n_).wf = true) x_.f0 ∧ (fun xs_ : List Int => xs_.length ≤ maxLen ∧ ∀ x ∈ xs_, (fun n_ : Int => (Lit.int .u8 n_).wf = true) x) x_.f1 ∧ (fun _ : Bool => True) x_.f2 ∧ (fun xs_ : List Int => xs_.length ≤ maxLen ∧ ∀ x ∈ xs_, (fun n_ : Int => (Lit.int .u8 n_).wf = true) x) x_.f3) x) l1 → (fun xs_ : List (S50) => xs_.length ≤ maxLen ∧ ∀ x ∈ xs_, (fun x_ : S50 => (fun n_ : Int => (Lit.int .i64 n_).wf = true) x_.f0 ∧ (fun n_ : Int => (Lit.int .i64 n_).wf = true) x_.f1 ∧ (fun _ : Bool => True) x_.f2 ∧ (fun xs_ : List (S57) => xs_.length ≤ maxLen ∧ ∀ x ∈ xs_, (fun x_ : S57 => (fun n_ : Int => (Lit.int .i64 n_).wf = true) x_.f0 ∧ (fun xs_ : List Int => xs_.length ≤ maxLen ∧ ∀ x ∈ xs_, (fun n_ : Int => (Lit.int .u8 n_).wf = true) x) x_.f1 ∧ (fun xs_ : List Int => xs_.length ≤ maxLen ∧ ∀ x ∈ xs_, (fun n_ : Int => (Lit.int .u8 n_).wf = true) x) x_.f2 ∧ (fun _ : Bool => True) x_.f3) x) x_.f3 ∧ (fun xs_ : List (S59) => xs_.length ≤ maxLen ∧ ∀ x ∈ xs_, (fun x_ : S59 => (fun n_ : Int => (Lit.int .i64 n_).wf = true) x_.f0 ∧ (fun xs_ : List Int => xs_.length ≤ maxLen ∧ ∀ x ∈ xs_, (fun n_ : Int => (Lit.int .u8 n_).wf = true) x) x_.f1 ∧ (fun _ : Bool => True) x_.f2 ∧ (fun xs_ : List Int => xs_.length ≤ maxLen ∧ ∀ x ∈ xs_, (fun n_ : Int => (Lit.int .u8 n_).wf = true) x) x_.f3) x) x_.f4 ∧ (fun _ : Bool => True) x_.f5) x) l2 → (fun xs_ : List (S24) => xs_.length ≤ maxLen ∧ ∀ x ∈ xs_, (fun x_ : S24 => (fun n_ : Int => (Lit.int .i64 n_).wf = true) x_.f0 ∧ (fun xs_ : List (S57) => xs_.length ≤ maxLen ∧ ∀ x ∈ xs_, (fun x_ : S57 => (fun n_ : Int => (Lit.int .i64 n_).wf = true) x_.f0 ∧ (fun xs_ : List Int => xs_.length ≤ maxLen ∧ ∀ x ∈ xs_, (fun n_ : Int => (Lit.int .u8 n_).wf = true) x) x_.f1 ∧ (fun xs_ : List Int => xs_.length ≤ maxLen ∧ ∀ x ∈ xs_, (fun n_ : Int => (Lit.int .u8 n_).wf = true) x) x_.f2 ∧ (fun _ : Bool => True) x_.f3) x) x_.f1) x) l3 → ∃ k, banksmanlaw14_RivalTells.f k a0_0 l0_1 l1 l2 l3 = some true
end Go.Proofs.Ytpoaleejhdeclaa.P
