import Derived.Test.YtpoaleejhdeclaaPx0
import Derived.Test.YtpoaleejhdeclaaPx41
import Derived.Test.YtpoaleejhdeclaaPx1
namespace Go.Proofs.Ytpoaleejhdeclaa.P
open Go.RowKit Go.Proofs.YtpoaleejhdeclaaW.PrintWords Go.Proofs.YtpoaleejhdeclaaW.PrintLast Go.Proofs.YtpoaleejhdeclaaW.PrintMore
attribute [local go_sem] max2_int min2_int max_two min_two max_three min_three max_four min_four
set_option linter.unusedVariables false
set_option linter.unusedSimpArgs false
def banksmanref08_write.f (a0_0 : Int) (l0_1 : List Int) (a0_2 : Bool) (l0_3 : List Int) : Option (Int × List Int × Bool × List Int) := (some (([] : List Int) : List Int)).bind fun y221 => (if y221.length + l0_1.length < 140737488355328 then ((some (([] : List Int) : List Int)).bind fun y227 => (if y227.length + l0_3.length < 140737488355328 then (some (a0_0, (y221 ++ l0_1), a0_2, (y227 ++ l0_3))) else (none))) else (none))
def banksmanref08_write.T1 : Bool × List (List Nat × List Nat) := (true, [([], []), ([0], [0]), ([], []), ([], []), ([3], [3]), ([2, 4], [2, 4]), ([], []), ([6], [6]), ([], []), ([], []), ([9], [9]), ([8, 10, 5], [8, 10]), ([1, 5, 7, 11], [1, 5, 7, 11]), ([12, 11, 0, 1, 2, 3, 4, 5, 6, 7, 8, 9, 10, 11, 12], [12])])
def banksmanref08_write.B1 : List Nat := [0, 1, 0, 0, 8, 28, 0, 64, 0, 0, 512, 1852, 4095, 8191]
theorem banksmanref08_write.tab1 : rtab .any (opsOf Try.f63 1) = banksmanref08_write.T1 := by kernel_rfl
theorem banksmanref08_write.bits1 : waitsOk banksmanref08_write.T1.2 banksmanref08_write.B1 = true := by kernel_rfl
set_option maxHeartbeats 8000000 in
set_option maxRecDepth 100000 in
theorem banksmanref08_write.calls (a0_0 : Int) (A0_1 : Option Addr) (c0_1 : Nat) (l0_1 : List Int) (a0_2 : Bool) (A0_3 : Option Addr) (c0_3 : Nat) (l0_3 : List Int) (r1 : Int) (r2 : List Int) (r3 : Bool) (r4 : List Int) (w : World) (hr0_1 : Kd.C (Kd.int .u8) w A0_1 l0_1.length l0_1) (hc0_1 : l0_1.length ≤ c0_1) (hr0_3 : Kd.C (Kd.int .u8) w A0_3 l0_3.length l0_3) (hc0_3 : l0_3.length ≤ c0_3) (h : banksmanref08_write.f a0_0 l0_1 a0_2 l0_3 = some (r1, r2, r3, r4)) :
   Calls Try.prog 63 #[.agg #[.int .i64 a0_0, .slice A0_1 l0_1.length c0_1, .bool a0_2, .slice A0_3 l0_3.length c0_3]] w fun e w' => ∃ v1_ v3_ : Value, e = .returned (.agg #[.int .i64 r1, v1_, .bool r3, v3_]) ∧ Kd.R (Kd.int .u8) 5 w' w.heap.size (fun k_ => some k_ ≠ (v3_ : Value).ownBlock) v1_ r2 ∧ Kd.R (Kd.int .u8) 5 w' w.heap.size (fun k_ => some k_ ≠ (v1_ : Value).ownBlock) v3_ r4 ∧ Below w.heap.size w w' := by
 have hu59 := Try.underlying59
 have HR0_1 := m0_ hr0_1
 have HC0_1 := m0_ hc0_1
 clear hr0_1 hc0_1
 have HR0_3 := m0_ hr0_3
 have HC0_3 := m0_ hc0_3
 clear hr0_3 hc0_3
 have HB := m0_ (Below.refl w.heap.size w)
 have H : ((some (([] : List Int) : List Int)).bind fun y221 => (if y221.length + l0_1.length < 140737488355328 then ((some (([] : List Int) : List Int)).bind fun y227 => (if y227.length + l0_3.length < 140737488355328 then (some (a0_0, (y221 ++ l0_1), a0_2, (y227 ++ l0_3))) else (none))) else (none))) = some (r1, r2, r3, r4) := h
 clear h
 obtain ⟨y221, hy221⟩ : ∃ y_ : List Int, y_ = (([] : List Int)) := ⟨_, rfl⟩
 replace H : (if y221.length + l0_1.length < 140737488355328 then ((some (([] : List Int) : List Int)).bind fun y227 => (if y227.length + l0_3.length < 140737488355328 then (some (a0_0, (y221 ++ l0_1), a0_2, (y227 ++ l0_3))) else (none))) else (none)) = some (r1, r2, r3, r4) := by first | (rw [hy221]; with_reducible exact H) | (have H2_ := (Option.bind_some _ _).symm.trans H; rw [hy221]; with_reducible exact H2_) | (have H2_ := (Option.bind_some _ _).symm.trans H; with_reducible exact H2_) | with_reducible exact H | (rw [hy221]; exact H) | exact H
 have Ny221 := m0_ hy221
 clear hy221
 by_cases c2 : y221.length + l0_1.length < 140737488355328
 · rw [if_pos c2] at H
   have LMc2 := m0_ c2
   clear c2
   obtain ⟨y224, hy224⟩ : ∃ y_ : List Int, y_ = (y221 ++ l0_1) := ⟨_, rfl⟩
   replace H : ((some (([] : List Int) : List Int)).bind fun y227 => (if y227.length + l0_3.length < 140737488355328 then (some (a0_0, y224, a0_2, (y227 ++ l0_3))) else (none))) = some (r1, r2, r3, r4) := by first | (rw [hy224]; with_reducible exact H) | (have H2_ := (Option.bind_some _ _).symm.trans H; rw [hy224]; with_reducible exact H2_) | (have H2_ := (Option.bind_some _ _).symm.trans H; with_reducible exact H2_) | with_reducible exact H | (rw [hy224]; exact H) | exact H
   have Ny224 := m0_ hy224
   clear hy224
   obtain ⟨y227, hy227⟩ : ∃ y_ : List Int, y_ = (([] : List Int)) := ⟨_, rfl⟩
   replace H : (if y227.length + l0_3.length < 140737488355328 then (some (a0_0, y224, a0_2, (y227 ++ l0_3))) else (none)) = some (r1, r2, r3, r4) := by first | (rw [hy227]; with_reducible exact H) | (have H2_ := (Option.bind_some _ _).symm.trans H; rw [hy227]; with_reducible exact H2_) | (have H2_ := (Option.bind_some _ _).symm.trans H; with_reducible exact H2_) | with_reducible exact H | (rw [hy227]; exact H) | exact H
   have Ny227 := m0_ hy227
   clear hy227
   by_cases c3 : y227.length + l0_3.length < 140737488355328
   · rw [if_pos c3] at H
     have LMc3 := m0_ c3
     clear c3
     obtain ⟨y230, hy230⟩ : ∃ y_ : List Int, y_ = (y227 ++ l0_3) := ⟨_, rfl⟩
     replace H : (some (a0_0, y224, a0_2, y230)) = some (r1, r2, r3, r4) := by first | (rw [hy230]; with_reducible exact H) | (have H2_ := (Option.bind_some _ _).symm.trans H; rw [hy230]; with_reducible exact H2_) | (have H2_ := (Option.bind_some _ _).symm.trans H; with_reducible exact H2_) | with_reducible exact H | (rw [hy230]; exact H) | exact H
     have Ny230 := m0_ hy230
     clear hy230
     simp only [Option.some.injEq, Prod.mk.injEq] at H
     obtain ⟨rfl, rfl, rfl, rfl⟩ := H
     go_enter Try.func63, Try.ntmps63
     try go_wp2_with (first | ((with_reducible refine gate_dst (N := 1) rfl ?_); refine box_event ?hg (N := 1) ?hd (cs := #[.int .i64 a0_0, .slice A0_1 l0_1.length c0_1, .bool a0_2, .slice A0_3 l0_3.length c0_3]) (t := 59) ?hr ?_; (case hd => rfl); (case hg => rfl); (case hr => first | (go_simp; done) | (go_simp; rfl)); intro gb219 hg w4 hbox hb; have n0_ := m0_ (below_step (by repeat (first | (with_reducible first | exact HB.out | apply bA_ | apply dN_ | apply b1_) | exact HB.out)) hb); have n1_ := m0_ (hbox); have n2_ := m0_ ((by rw [hg]; exact (below_size (by repeat (first | (with_reducible first | exact HB.out | apply bA_ | apply dN_ | apply b1_) | exact HB.out))) : w.heap.size ≤ gb219)); have n3_ := m0_ ((by rw [hg]; exact (below_size (by repeat (first | (with_reducible first | exact HB.out | apply bA_ | apply dN_ | apply b1_) | exact HB.out))) : w.heap.size ≤ gb219)); clear HB; have HB := n0_; have BK219 := n1_; have GW219 := n2_; have GE219 := n3_; clear n0_ n1_ n2_ n3_; clear hb hbox hg) | ((with_reducible refine gate_dst (N := 2) rfl ?_); refine box_event ?hg (N := 2) ?hd (cs := #[.int .i64 0, .slice none 0 0, .bool false, .slice none 0 0]) (t := 59) ?hr ?_; (case hd => rfl); (case hg => rfl); (case hr => first | (go_simp; done) | (go_simp; rfl)); intro gb220 hg w5 hbox hb; have n0_ := m0_ (blk_below (g := gb219) (o := .cells #[.int .i64 a0_0, .slice A0_1 l0_1.length c0_1, .bool a0_2, .slice A0_3 l0_3.length c0_3] 59 (0, 0)) (by (with_reducible repeat (first | refine blk_drewN ?_ _ | refine blk_drew ?_ | refine blk_alloc ?_ _)); exact BK219.out) hb); have n1_ := m0_ (below_step (by repeat (first | (with_reducible first | exact HB.out | apply bA_ | apply dN_ | apply b1_ | refine below_set ?_ GE219.out) | exact HB.out)) hb); have n2_ := m0_ (hbox); have n3_ := m0_ ((by rw [hg]; exact (below_size (by repeat (first | (with_reducible first | exact HB.out | apply bA_ | apply dN_ | apply b1_ | refine below_set ?_ GE219.out) | exact HB.out))) : w.heap.size ≤ gb220)); have n4_ := m0_ ((by rw [hg]; exact (below_size (by repeat (first | (with_reducible first | exact HB.out | apply bA_ | apply dN_ | apply b1_ | refine below_set ?_ GE219.out) | exact HB.out))) : w.heap.size ≤ gb220)); have n5_ := m0_ ((by rw [hg]; exact Nat.ne_of_lt (blk_lt (g := gb219) (o := .cells #[.int .i64 a0_0, .slice A0_1 l0_1.length c0_1, .bool a0_2, .slice A0_3 l0_3.length c0_3] 59 (0, 0)) (by (with_reducible repeat (first | refine blk_drewN ?_ _ | refine blk_drew ?_ | refine blk_alloc ?_ _)); exact BK219.out)) : gb219 ≠ gb220)); have n6_ := m0_ ((by rw [hg]; exact Nat.ne_of_gt (blk_lt (g := gb219) (o := .cells #[.int .i64 a0_0, .slice A0_1 l0_1.length c0_1, .bool a0_2, .slice A0_3 l0_3.length c0_3] 59 (0, 0)) (by (with_reducible repeat (first | refine blk_drewN ?_ _ | refine blk_drew ?_ | refine blk_alloc ?_ _)); exact BK219.out)) : gb220 ≠ gb219)); clear BK219; clear HB; have BK219 := n0_; have HB := n1_; have BK220 := n2_; have GW220 := n3_; have GE220 := n4_; have NB219_220 := n5_; have NB220_219 := n6_; clear n0_ n1_ n2_ n3_ n4_ n5_ n6_; clear hb hbox hg))
     have n0_ := m0_ (blk_drew BK219.out)
     have n1_ := m0_ (blk_drew BK220.out)
     have n2_ := m0_ (b1_ HB.out)
     clear BK219
     clear BK220
     clear HB
     have BK219 := n0_
     have BK220 := n1_
     have HB := n2_
     clear n0_ n1_ n2_
     refine start_ (n := 14) (S := fun w' => w'.cell? ⟨gb219, 0, none⟩ = some (.int .i64 a0_0) ∧ w'.cell? ⟨gb219, 1, none⟩ = some (.slice A0_1 l0_1.length c0_1) ∧ w'.cell? ⟨gb219, 2, none⟩ = some (.bool a0_2) ∧ w'.cell? ⟨gb219, 3, none⟩ = some (.slice A0_3 l0_3.length c0_3)) (ds := []) #[false, false, false, false, false, false, false, false, false, false, false, false, false, false] (by kernel_rfl) rfl rfl ⟨(blk_cell BK219.out 0).trans rfl, (blk_cell BK219.out 1).trans rfl, (blk_cell BK219.out 2).trans rfl, (blk_cell BK219.out 3).trans rfl⟩ (fun hHeld => ?_); refine with_tabW banksmanref08_write.tab1 banksmanref08_write.bits1 (fun HT_ HW_ => ?_)
     generalize w5.drew = w6 at BK219 BK220 HB hHeld ⊢
     refine pure_ (i := 0) (N := some 3) (v := ?_) (a' := ?_) #[true, false, false, false, false, false, false, false, false, false, false, false, false, false] rfl rfl (any_of HT_.out (by kernel_rfl)) (fun _ _ _ h => h) (Or.inl ⟨by rfl, ?_⟩) ?_ ?_
     rotate_left
     · intro w'
       go_simp
       with_reducible rfl
     rotate_left
     · simp only [Act.put, sI_, sZ_, sS_, i64_w, i32_w]
       rfl
     refine pure_ (i := 3) (N := some 6) (v := ?_) (a' := ?_) #[true, false, false, true, false, false, false, false, false, false, false, false, false, false] rfl rfl (any_of HT_.out (by kernel_rfl)) (fun _ _ _ h => h) (Or.inl ⟨by rfl, ?_⟩) ?_ ?_
     rotate_left
     · intro w'
       go_simp
       with_reducible rfl
     rotate_left
     · simp only [Act.put, sI_, sZ_, sS_, i64_w, i32_w]
       rfl
     refine pure_ (i := 6) (N := some 9) (v := ?_) (a' := ?_) #[true, false, false, true, false, false, true, false, false, false, false, false, false, false] rfl rfl (any_of HT_.out (by kernel_rfl)) (fun _ _ _ h => h) (Or.inl ⟨by rfl, ?_⟩) ?_ ?_
     rotate_left
     · intro w'
       go_simp
       with_reducible rfl
     rotate_left
     · simp only [Act.put, sI_, sZ_, sS_, i64_w, i32_w]
       rfl
     refine pure_ (i := 9) (N := some 12) (v := ?_) (a' := ?_) #[true, false, false, true, false, false, true, false, false, true, false, false, false, false] rfl rfl (any_of HT_.out (by kernel_rfl)) (fun _ _ _ h => h) (Or.inl ⟨by rfl, ?_⟩) ?_ ?_
     rotate_left
     · intro w'
       go_simp
       with_reducible rfl
     rotate_left
     · simp only [Act.put, sI_, sZ_, sS_, i64_w, i32_w]
       rfl
     refine take_ (i := 1) (N := some 4) (v := ?_) (a' := ?_) #[true, true, false, true, false, false, true, false, false, true, false, false, false, false] rfl rfl (take_ofW HT_.out HW_.out (by kernel_rfl)) (fun _ _ _ h => h) (Or.inl ⟨by rfl, ?_⟩) hHeld ?_ ?_
     rotate_left
     · rintro w' ⟨s0, s1, s2, s3⟩
       go_simp
       with_reducible rfl
     rotate_left
     · simp only [Act.put, sI_, sZ_, sS_, i64_w, i32_w]
       rfl
     refine take_ (i := 4) (N := some 7) (v := ?_) (a' := ?_) #[true, true, false, true, true, false, true, false, false, true, false, false, false, false] rfl rfl (take_ofW HT_.out HW_.out (by kernel_rfl)) (fun _ _ _ h => h) (Or.inl ⟨by rfl, ?_⟩) hHeld ?_ ?_
     rotate_left
     · rintro w' ⟨s0, s1, s2, s3⟩
       go_simp
       with_reducible rfl
     rotate_left
     · simp only [Act.put, sI_, sZ_, sS_, i64_w, i32_w]
       rfl
     refine take_ (i := 7) (N := some 10) (v := ?_) (a' := ?_) #[true, true, false, true, true, false, true, true, false, true, false, false, false, false] rfl rfl (take_ofW HT_.out HW_.out (by kernel_rfl)) (fun _ _ _ h => h) (Or.inl ⟨by rfl, ?_⟩) hHeld ?_ ?_
     rotate_left
     · rintro w' ⟨s0, s1, s2, s3⟩
       go_simp
       with_reducible rfl
     rotate_left
     · simp only [Act.put, sI_, sZ_, sS_, i64_w, i32_w]
       rfl
     refine take_ (i := 10) (N := some 13) (v := ?_) (a' := ?_) #[true, true, false, true, true, false, true, true, false, true, true, false, false, false] rfl rfl (take_ofW HT_.out HW_.out (by kernel_rfl)) (fun _ _ _ h => h) (Or.inl ⟨by rfl, ?_⟩) hHeld ?_ ?_
     rotate_left
     · rintro w' ⟨s0, s1, s2, s3⟩
       go_simp
       with_reducible rfl
     rotate_left
     · simp only [Act.put, sI_, sZ_, sS_, i64_w, i32_w]
       rfl
     refine join_ (σ := Value × Value × Value) 3 #[true, true, true, true, true, true, true, true, true, true, true, false, false, false] (fun s_ => [(5, s_.1), (8, s_.2.1), (11, s_.2.2)]) (fun s_ w' => (w'.cell? ⟨gb219, 0, none⟩ = some (.int .i64 a0_0) ∧ w'.cell? ⟨gb219, 1, none⟩ = some (.slice A0_1 l0_1.length c0_1) ∧ w'.cell? ⟨gb219, 2, none⟩ = some (.bool a0_2) ∧ w'.cell? ⟨gb219, 3, none⟩ = some (.slice A0_3 l0_3.length c0_3)) ∧ (Kd.R (Kd.int .u8) 5 w' w.heap.size (fun k_ => some k_ ≠ (s_.2.2 : Value).ownBlock) s_.2.1 y224) ∧ (Kd.R (Kd.int .u8) 5 w' w.heap.size (fun k_ => some k_ ≠ (s_.2.1 : Value).ownBlock) s_.2.2 y227) ∧ (w'.heap[gb219]? = some (.cells #[.int .i64 a0_0, .slice A0_1 l0_1.length c0_1, .bool a0_2, .slice A0_3 l0_3.length c0_3] 59 (0, 0))) ∧ (w'.heap[gb220]? = some (.cells #[.int .i64 0, .slice none 0 0, .bool false, .slice none 0 0] 59 (0, 0))) ∧ (Below w.heap.size w w')) ?_ ?_
     rotate_left
     · intro hCont
       refine two_ (i := 2) (j := 8) (Ni := some 5) (Nj := some 11) #[true, true, true, true, true, false, true, true, false, true, true, false, false, false] #[true, true, false, true, true, false, true, true, true, true, true, false, false, false] rfl rfl rfl rfl (two_of HT_.out (by kernel_rfl)) (by decide) (by decide) (fun K hK => ?_) (fun K hK => ?_)
       · skip
         refine Kd.R_lit_step (Kd.int .u8) _ 5 ?hg (N := 5) ?hd (xs := ([] : List Int)) (inner := []) (ok := fun _ => True) (okp := fun _ => True) ?hr ?hp (fun _ hk => hk) trivial (Below.refl _ _) (Nat.le_refl _) (by simp) ?_; (case hd => rfl); (case hg => rfl); (case hr => first | (go_simp; done) | (go_simp; rfl)); (case hp => exact (Reps.none _ _))
         intro v222 w7 ho8 hb hg_ hnew_
         clear hg_ hnew_
         (first | rw [← Ny221.out] at ho8 | (simp only [Int.reduceToNat] at ho8; rw [← Ny221.out] at ho8))
         have n0_ := m0_ (Kd.R_lower ho8 (below_size (by repeat (first | (with_reducible first | exact HB.out | apply bA_ | apply dN_ | apply b1_ | refine below_set ?_ GE219.out | refine below_set ?_ GE220.out) | exact HB.out))))
         have n1_ := m0_ (blk_below (g := gb219) (o := .cells #[.int .i64 a0_0, .slice A0_1 l0_1.length c0_1, .bool a0_2, .slice A0_3 l0_3.length c0_3] 59 (0, 0)) (by (with_reducible repeat (first | refine blk_drewN ?_ _ | refine blk_drew ?_ | refine blk_alloc ?_ _)); exact BK219.out) hb)
         have n2_ := m0_ (blk_below (g := gb220) (o := .cells #[.int .i64 0, .slice none 0 0, .bool false, .slice none 0 0] 59 (0, 0)) (by (with_reducible repeat (first | refine blk_drewN ?_ _ | refine blk_drew ?_ | refine blk_alloc ?_ _)); exact BK220.out) hb)
         have n3_ := m0_ (below_step (by repeat (first | (with_reducible first | exact HB.out | apply bA_ | apply dN_ | apply b1_ | refine below_set ?_ GE219.out | refine below_set ?_ GE220.out) | exact HB.out)) hb)
         clear BK219
         clear BK220
         clear HB
         have HO223 := n0_
         have BK219 := n1_
         have BK220 := n2_
         have HB := n3_
         clear n0_ n1_ n2_ n3_
         clear hb ho8
         refine hK.out _ _ ⟨(blk_cell BK219.out 0).trans rfl, (blk_cell BK219.out 1).trans rfl, (blk_cell BK219.out 2).trans rfl, (blk_cell BK219.out 3).trans rfl⟩ (fun hHeld => ?_)
         clear hK K
         refine norm_ (a' := ?_) ?_ ?_
         rotate_left
         · show Act.put _ (some 5) _ = _
           simp only [Act.put, sI_, sZ_, sS_, i64_w, i32_w]
           rfl
         refine two_ (i := 5) (j := 8) (Ni := some 8) (Nj := some 11) #[true, true, true, true, true, true, true, true, false, true, true, false, false, false] #[true, true, true, true, true, false, true, true, true, true, true, false, false, false] rfl rfl rfl rfl (two_of HT_.out (by kernel_rfl)) (by decide) (by decide) (fun K hK => ?_) (fun K hK => ?_)
         · skip
           refine Kd.R_append_rows_step (Kd.int .u8) (w0 := w) w.heap.size (by rfl) (.tmp 5) (.tmp 7) 55 5 (.int .u8 0) 1 rfl Try.underlying55 info5 rfl (by decide) (by omega) v222 y221 l0_1 _ _ _ (fun _ => True) (fun _ => False) rfl rfl ?aO ?aR (fun _ _ h => h) (fun _ h => h.elim) ?aF ?aB ?aS ?aL ?_
           (case aR => repeat (first | exact (kB_ HR0_1.out HB.out) | (with_reducible first | refine kA_ ?_ _ | refine kN_ ?_ _ | refine kD_ ?_)))
           (case aB => exact (by repeat (first | (with_reducible first | exact HB.out | apply bA_ | apply dN_ | apply b1_ | refine below_set ?_ GE219.out | refine below_set ?_ GE220.out) | exact HB.out)))
           (case aF => exact (fun _ _ => trivial))
           (case aO => exact (by (with_reducible repeat (first | apply Kd.R_alloc | apply Kd.R_drewN | apply Kd.R_drew)); exact HO223.out))
           (case aS => exact (below_size (by repeat (first | (with_reducible first | exact HB.out | apply bA_ | apply dN_ | apply b1_ | refine below_set ?_ GE219.out | refine below_set ?_ GE220.out) | exact HB.out))))
           (case aL => have := LMc2.out; omega)
           intro v225 w9 ho hb hg hat
           rw [← Ny224.out] at ho
           have n0_ := m0_ (blk_grown (g := gb219) (o := .cells #[.int .i64 a0_0, .slice A0_1 l0_1.length c0_1, .bool a0_2, .slice A0_3 l0_3.length c0_3] 59 (0, 0)) (by (with_reducible repeat (first | refine blk_drewN ?_ _ | refine blk_drew ?_ | refine blk_alloc ?_ _)); exact BK219.out) hg (Kd.R_ne HO223.out BK219.out (by decide)))
           have n1_ := m0_ (blk_grown (g := gb220) (o := .cells #[.int .i64 0, .slice none 0 0, .bool false, .slice none 0 0] 59 (0, 0)) (by (with_reducible repeat (first | refine blk_drewN ?_ _ | refine blk_drew ?_ | refine blk_alloc ?_ _)); exact BK220.out) hg (Kd.R_ne HO223.out BK220.out (by decide)))
           have n2_ := m0_ (hb)
           have n3_ := m0_ (ho)
           clear BK219
           clear BK220
           clear HB
           clear HO223
           have BK219 := n0_
           have BK220 := n1_
           have HB := n2_
           have HO226 := n3_
           clear n0_ n1_ n2_ n3_
           clear ho hb hg hat
           refine hK.out _ _ ⟨(blk_cell BK219.out 0).trans rfl, (blk_cell BK219.out 1).trans rfl, (blk_cell BK219.out 2).trans rfl, (blk_cell BK219.out 3).trans rfl⟩ (fun hHeld => ?_)
           clear hK K
           refine norm_ (a' := ?_) ?_ ?_
           rotate_left
           · show Act.put _ (some 8) _ = _
             simp only [Act.put, sI_, sZ_, sS_, i64_w, i32_w]
             rfl
           refine one_ (i := 8) (N := some 11) #[true, true, true, true, true, true, true, true, true, true, true, false, false, false] rfl rfl (one_of HT_.out (by kernel_rfl)) (by decide) (fun K hK => ?_)
           refine Kd.R_lit_step (Kd.int .u8) _ 5 ?hg (N := 11) ?hd (xs := ([] : List Int)) (inner := []) (ok := fun _ => True) (okp := fun _ => True) ?hr ?hp (fun _ hk => hk) trivial (Below.refl _ _) (Nat.le_refl _) (by simp) ?_; (case hd => rfl); (case hg => rfl); (case hr => first | (go_simp; done) | (go_simp; rfl)); (case hp => exact (Reps.none _ _))
           intro v228 w10 ho11 hb hg_ hnew_
           clear hg_ hnew_
           (first | rw [← Ny227.out] at ho11 | (simp only [Int.reduceToNat] at ho11; rw [← Ny227.out] at ho11))
           have n0_ := m0_ (Kd.R_elder' (by (with_reducible repeat (first | apply Kd.R_alloc | apply Kd.R_drewN | apply Kd.R_drew)); exact HO226.out) (Kd.R_base ho11) hb)
           have n1_ := m0_ (Kd.R_lower (Kd.R_new' ho11 (Kd.R_lt (by (with_reducible repeat (first | apply Kd.R_alloc | apply Kd.R_drewN | apply Kd.R_drew)); exact HO226.out))) (below_size (by repeat (first | (with_reducible first | exact HB.out | apply bA_ | apply dN_ | apply b1_ | refine below_set ?_ GE219.out | refine below_set ?_ GE220.out) | exact HB.out))))
           have n2_ := m0_ (blk_below (g := gb219) (o := .cells #[.int .i64 a0_0, .slice A0_1 l0_1.length c0_1, .bool a0_2, .slice A0_3 l0_3.length c0_3] 59 (0, 0)) (by (with_reducible repeat (first | refine blk_drewN ?_ _ | refine blk_drew ?_ | refine blk_alloc ?_ _)); exact BK219.out) hb)
           have n3_ := m0_ (blk_below (g := gb220) (o := .cells #[.int .i64 0, .slice none 0 0, .bool false, .slice none 0 0] 59 (0, 0)) (by (with_reducible repeat (first | refine blk_drewN ?_ _ | refine blk_drew ?_ | refine blk_alloc ?_ _)); exact BK220.out) hb)
           have n4_ := m0_ (below_step (by repeat (first | (with_reducible first | exact HB.out | apply bA_ | apply dN_ | apply b1_ | refine below_set ?_ GE219.out | refine below_set ?_ GE220.out) | exact HB.out)) hb)
           clear HO226
           clear BK219
           clear BK220
           clear HB
           have HO226 := n0_
           have HO229 := n1_
           have BK219 := n2_
           have BK220 := n3_
           have HB := n4_
           clear n0_ n1_ n2_ n3_ n4_
           clear hb ho11
           refine hK.out _ _ ⟨(blk_cell BK219.out 0).trans rfl, (blk_cell BK219.out 1).trans rfl, (blk_cell BK219.out 2).trans rfl, (blk_cell BK219.out 3).trans rfl⟩ (fun hHeld => ?_)
           clear hK K
           refine norm_ (a' := ?_) ?_ ?_
           rotate_left
           · show Act.put _ (some 11) _ = _
             simp only [Act.put, sI_, sZ_, sS_, i64_w, i32_w]
             rfl
           exact norm_ (by simp only [putAll, Act.put, sI_, sZ_, sS_]) (hCont (v222, v225, v228) _ ⟨hHeld, (by (with_reducible repeat (first | apply Kd.R_alloc | apply Kd.R_drewN | apply Kd.R_drew)); exact Kd.R_mono HO226.out (fun _ hk => hk.2)), (by (with_reducible repeat (first | apply Kd.R_alloc | apply Kd.R_drewN | apply Kd.R_drew)); exact Kd.R_mono HO229.out (fun _ hk => hk.2)), (by (with_reducible repeat (first | refine blk_drewN ?_ _ | refine blk_drew ?_ | refine blk_alloc ?_ _)); exact BK219.out), (by (with_reducible repeat (first | refine blk_drewN ?_ _ | refine blk_drew ?_ | refine blk_alloc ?_ _)); exact BK220.out), (by repeat (first | (with_reducible first | exact HB.out | apply bA_ | apply dN_ | apply b1_ | refine below_set ?_ GE219.out | refine below_set ?_ GE220.out) | exact HB.out))⟩)
         · skip
           refine Kd.R_lit_step (Kd.int .u8) _ 5 ?hg (N := 11) ?hd (xs := ([] : List Int)) (inner := []) (ok := fun _ => True) (okp := fun _ => True) ?hr ?hp (fun _ hk => hk) trivial (Below.refl _ _) (Nat.le_refl _) (by simp) ?_; (case hd => rfl); (case hg => rfl); (case hr => first | (go_simp; done) | (go_simp; rfl)); (case hp => exact (Reps.none _ _))
           intro v228 w9 ho10 hb hg_ hnew_
           clear hg_ hnew_
           (first | rw [← Ny227.out] at ho10 | (simp only [Int.reduceToNat] at ho10; rw [← Ny227.out] at ho10))
           have n0_ := m0_ (Kd.R_elder' (by (with_reducible repeat (first | apply Kd.R_alloc | apply Kd.R_drewN | apply Kd.R_drew)); exact HO223.out) (Kd.R_base ho10) hb)
           have n1_ := m0_ (Kd.R_lower (Kd.R_new' ho10 (Kd.R_lt (by (with_reducible repeat (first | apply Kd.R_alloc | apply Kd.R_drewN | apply Kd.R_drew)); exact HO223.out))) (below_size (by repeat (first | (with_reducible first | exact HB.out | apply bA_ | apply dN_ | apply b1_ | refine below_set ?_ GE219.out | refine below_set ?_ GE220.out) | exact HB.out))))
           have n2_ := m0_ (blk_below (g := gb219) (o := .cells #[.int .i64 a0_0, .slice A0_1 l0_1.length c0_1, .bool a0_2, .slice A0_3 l0_3.length c0_3] 59 (0, 0)) (by (with_reducible repeat (first | refine blk_drewN ?_ _ | refine blk_drew ?_ | refine blk_alloc ?_ _)); exact BK219.out) hb)
           have n3_ := m0_ (blk_below (g := gb220) (o := .cells #[.int .i64 0, .slice none 0 0, .bool false, .slice none 0 0] 59 (0, 0)) (by (with_reducible repeat (first | refine blk_drewN ?_ _ | refine blk_drew ?_ | refine blk_alloc ?_ _)); exact BK220.out) hb)
           have n4_ := m0_ (below_step (by repeat (first | (with_reducible first | exact HB.out | apply bA_ | apply dN_ | apply b1_ | refine below_set ?_ GE219.out | refine below_set ?_ GE220.out) | exact HB.out)) hb)
           clear HO223
           clear BK219
           clear BK220
           clear HB
           have HO223 := n0_
           have HO229 := n1_
           have BK219 := n2_
           have BK220 := n3_
           have HB := n4_
           clear n0_ n1_ n2_ n3_ n4_
           clear hb ho10
           refine hK.out _ _ ⟨(blk_cell BK219.out 0).trans rfl, (blk_cell BK219.out 1).trans rfl, (blk_cell BK219.out 2).trans rfl, (blk_cell BK219.out 3).trans rfl⟩ (fun hHeld => ?_)
           clear hK K
           refine norm_ (a' := ?_) ?_ ?_
           rotate_left
           · show Act.put _ (some 11) _ = _
             simp only [Act.put, sI_, sZ_, sS_, i64_w, i32_w]
             rfl
           refine one_ (i := 5) (N := some 8) #[true, true, true, true, true, true, true, true, true, true, true, false, false, false] rfl rfl (one_of HT_.out (by kernel_rfl)) (by decide) (fun K hK => ?_)
           refine Kd.R_append_rows_step (Kd.int .u8) (w0 := w) w.heap.size (by rfl) (.tmp 5) (.tmp 7) 55 5 (.int .u8 0) 1 rfl Try.underlying55 info5 rfl (by decide) (by omega) v222 y221 l0_1 _ _ _ (fun k_ => some k_ ≠ (v228 : Value).ownBlock) (fun _ => False) rfl rfl ?aO ?aR (fun _ _ h => h) (fun _ h => h.elim) ?aF ?aB ?aS ?aL ?_
           (case aR => repeat (first | exact (kB_ HR0_1.out HB.out) | (with_reducible first | refine kA_ ?_ _ | refine kN_ ?_ _ | refine kD_ ?_)))
           (case aB => exact (by repeat (first | (with_reducible first | exact HB.out | apply bA_ | apply dN_ | apply b1_ | refine below_set ?_ GE219.out | refine below_set ?_ GE220.out) | exact HB.out)))
           (case aF => exact (fun k_ hk => Kd.fresh' (Kd.R_lt (by (with_reducible repeat (first | apply Kd.R_alloc | apply Kd.R_drewN | apply Kd.R_drew)); exact HO229.out)) k_ hk))
           (case aO => exact (by (with_reducible repeat (first | apply Kd.R_alloc | apply Kd.R_drewN | apply Kd.R_drew)); exact Kd.R_mono HO223.out (fun _ hk => hk.2)))
           (case aS => exact (below_size (by repeat (first | (with_reducible first | exact HB.out | apply bA_ | apply dN_ | apply b1_ | refine below_set ?_ GE219.out | refine below_set ?_ GE220.out) | exact HB.out))))
           (case aL => have := LMc2.out; omega)
           intro v225 w11 ho hb hg hat
           rw [← Ny224.out] at ho
           have n0_ := m0_ (blk_grown (g := gb219) (o := .cells #[.int .i64 a0_0, .slice A0_1 l0_1.length c0_1, .bool a0_2, .slice A0_3 l0_3.length c0_3] 59 (0, 0)) (by (with_reducible repeat (first | refine blk_drewN ?_ _ | refine blk_drew ?_ | refine blk_alloc ?_ _)); exact BK219.out) hg (Kd.R_ne HO223.out BK219.out (by decide)))
           have n1_ := m0_ (blk_grown (g := gb220) (o := .cells #[.int .i64 0, .slice none 0 0, .bool false, .slice none 0 0] 59 (0, 0)) (by (with_reducible repeat (first | refine blk_drewN ?_ _ | refine blk_drew ?_ | refine blk_alloc ?_ _)); exact BK220.out) hg (Kd.R_ne HO223.out BK220.out (by decide)))
           have n2_ := m0_ (Kd.R_after (ok := (fun _ => True)) (by (with_reducible repeat (first | apply Kd.R_alloc | apply Kd.R_drewN | apply Kd.R_drew)); exact HO229.out) hg hat)
           have n3_ := m0_ (hb)
           have n4_ := m0_ (ho)
           clear BK219
           clear BK220
           clear HO229
           clear HB
           clear HO223
           have BK219 := n0_
           have BK220 := n1_
           have HO229 := n2_
           have HB := n3_
           have HO226 := n4_
           clear n0_ n1_ n2_ n3_ n4_
           clear ho hb hg hat
           refine hK.out _ _ ⟨(blk_cell BK219.out 0).trans rfl, (blk_cell BK219.out 1).trans rfl, (blk_cell BK219.out 2).trans rfl, (blk_cell BK219.out 3).trans rfl⟩ (fun hHeld => ?_)
           clear hK K
           refine norm_ (a' := ?_) ?_ ?_
           rotate_left
           · show Act.put _ (some 8) _ = _
             simp only [Act.put, sI_, sZ_, sS_, i64_w, i32_w]
             rfl
           exact norm_ (by simp only [putAll, Act.put, sI_, sZ_, sS_]) (hCont (v222, v225, v228) _ ⟨hHeld, (by (with_reducible repeat (first | apply Kd.R_alloc | apply Kd.R_drewN | apply Kd.R_drew)); exact HO226.out), (by (with_reducible repeat (first | apply Kd.R_alloc | apply Kd.R_drewN | apply Kd.R_drew)); exact Kd.R_mono HO229.out (fun _ hk => hk.2)), (by (with_reducible repeat (first | refine blk_drewN ?_ _ | refine blk_drew ?_ | refine blk_alloc ?_ _)); exact BK219.out), (by (with_reducible repeat (first | refine blk_drewN ?_ _ | refine blk_drew ?_ | refine blk_alloc ?_ _)); exact BK220.out), (by repeat (first | (with_reducible first | exact HB.out | apply bA_ | apply dN_ | apply b1_ | refine below_set ?_ GE219.out | refine below_set ?_ GE220.out) | exact HB.out))⟩)
       · skip
         refine Kd.R_lit_step (Kd.int .u8) _ 5 ?hg (N := 11) ?hd (xs := ([] : List Int)) (inner := []) (ok := fun _ => True) (okp := fun _ => True) ?hr ?hp (fun _ hk => hk) trivial (Below.refl _ _) (Nat.le_refl _) (by simp) ?_; (case hd => rfl); (case hg => rfl); (case hr => first | (go_simp; done) | (go_simp; rfl)); (case hp => exact (Reps.none _ _))
         intro v228 w7 ho8 hb hg_ hnew_
         clear hg_ hnew_
         (first | rw [← Ny227.out] at ho8 | (simp only [Int.reduceToNat] at ho8; rw [← Ny227.out] at ho8))
         have n0_ := m0_ (Kd.R_lower ho8 (below_size (by repeat (first | (with_reducible first | exact HB.out | apply bA_ | apply dN_ | apply b1_ | refine below_set ?_ GE219.out | refine below_set ?_ GE220.out) | exact HB.out))))
         have n1_ := m0_ (blk_below (g := gb219) (o := .cells #[.int .i64 a0_0, .slice A0_1 l0_1.length c0_1, .bool a0_2, .slice A0_3 l0_3.length c0_3] 59 (0, 0)) (by (with_reducible repeat (first | refine blk_drewN ?_ _ | refine blk_drew ?_ | refine blk_alloc ?_ _)); exact BK219.out) hb)
         have n2_ := m0_ (blk_below (g := gb220) (o := .cells #[.int .i64 0, .slice none 0 0, .bool false, .slice none 0 0] 59 (0, 0)) (by (with_reducible repeat (first | refine blk_drewN ?_ _ | refine blk_drew ?_ | refine blk_alloc ?_ _)); exact BK220.out) hb)
         have n3_ := m0_ (below_step (by repeat (first | (with_reducible first | exact HB.out | apply bA_ | apply dN_ | apply b1_ | refine below_set ?_ GE219.out | refine below_set ?_ GE220.out) | exact HB.out)) hb)
         clear BK219
         clear BK220
         clear HB
         have HO229 := n0_
         have BK219 := n1_
         have BK220 := n2_
         have HB := n3_
         clear n0_ n1_ n2_ n3_
         clear hb ho8
         refine hK.out _ _ ⟨(blk_cell BK219.out 0).trans rfl, (blk_cell BK219.out 1).trans rfl, (blk_cell BK219.out 2).trans rfl, (blk_cell BK219.out 3).trans rfl⟩ (fun hHeld => ?_)
         clear hK K
         refine norm_ (a' := ?_) ?_ ?_
         rotate_left
         · show Act.put _ (some 11) _ = _
           simp only [Act.put, sI_, sZ_, sS_, i64_w, i32_w]
           rfl
         refine one_ (i := 2) (N := some 5) #[true, true, true, true, true, false, true, true, true, true, true, false, false, false] rfl rfl (one_of HT_.out (by kernel_rfl)) (by decide) (fun K hK => ?_)
         refine Kd.R_lit_step (Kd.int .u8) _ 5 ?hg (N := 5) ?hd (xs := ([] : List Int)) (inner := []) (ok := fun _ => True) (okp := fun _ => True) ?hr ?hp (fun _ hk => hk) trivial (Below.refl _ _) (Nat.le_refl _) (by simp) ?_; (case hd => rfl); (case hg => rfl); (case hr => first | (go_simp; done) | (go_simp; rfl)); (case hp => exact (Reps.none _ _))
         intro v222 w9 ho10 hb hg_ hnew_
         clear hg_ hnew_
         (first | rw [← Ny221.out] at ho10 | (simp only [Int.reduceToNat] at ho10; rw [← Ny221.out] at ho10))
         have n0_ := m0_ (Kd.R_elder' (by (with_reducible repeat (first | apply Kd.R_alloc | apply Kd.R_drewN | apply Kd.R_drew)); exact HO229.out) (Kd.R_base ho10) hb)
         have n1_ := m0_ (Kd.R_lower (Kd.R_new' ho10 (Kd.R_lt (by (with_reducible repeat (first | apply Kd.R_alloc | apply Kd.R_drewN | apply Kd.R_drew)); exact HO229.out))) (below_size (by repeat (first | (with_reducible first | exact HB.out | apply bA_ | apply dN_ | apply b1_ | refine below_set ?_ GE219.out | refine below_set ?_ GE220.out) | exact HB.out))))
         have n2_ := m0_ (blk_below (g := gb219) (o := .cells #[.int .i64 a0_0, .slice A0_1 l0_1.length c0_1, .bool a0_2, .slice A0_3 l0_3.length c0_3] 59 (0, 0)) (by (with_reducible repeat (first | refine blk_drewN ?_ _ | refine blk_drew ?_ | refine blk_alloc ?_ _)); exact BK219.out) hb)
         have n3_ := m0_ (blk_below (g := gb220) (o := .cells #[.int .i64 0, .slice none 0 0, .bool false, .slice none 0 0] 59 (0, 0)) (by (with_reducible repeat (first | refine blk_drewN ?_ _ | refine blk_drew ?_ | refine blk_alloc ?_ _)); exact BK220.out) hb)
         have n4_ := m0_ (below_step (by repeat (first | (with_reducible first | exact HB.out | apply bA_ | apply dN_ | apply b1_ | refine below_set ?_ GE219.out | refine below_set ?_ GE220.out) | exact HB.out)) hb)
         clear HO229
         clear BK219
         clear BK220
         clear HB
         have HO229 := n0_
         have HO223 := n1_
         have BK219 := n2_
         have BK220 := n3_
         have HB := n4_
         clear n0_ n1_ n2_ n3_ n4_
         clear hb ho10
         refine hK.out _ _ ⟨(blk_cell BK219.out 0).trans rfl, (blk_cell BK219.out 1).trans rfl, (blk_cell BK219.out 2).trans rfl, (blk_cell BK219.out 3).trans rfl⟩ (fun hHeld => ?_)
         clear hK K
         refine norm_ (a' := ?_) ?_ ?_
         rotate_left
         · show Act.put _ (some 5) _ = _
           simp only [Act.put, sI_, sZ_, sS_, i64_w, i32_w]
           rfl
         refine one_ (i := 5) (N := some 8) #[true, true, true, true, true, true, true, true, true, true, true, false, false, false] rfl rfl (one_of HT_.out (by kernel_rfl)) (by decide) (fun K hK => ?_)
         refine Kd.R_append_rows_step (Kd.int .u8) (w0 := w) w.heap.size (by rfl) (.tmp 5) (.tmp 7) 55 5 (.int .u8 0) 1 rfl Try.underlying55 info5 rfl (by decide) (by omega) v222 y221 l0_1 _ _ _ (fun k_ => some k_ ≠ (v228 : Value).ownBlock) (fun _ => False) rfl rfl ?aO ?aR (fun _ _ h => h) (fun _ h => h.elim) ?aF ?aB ?aS ?aL ?_
         (case aR => repeat (first | exact (kB_ HR0_1.out HB.out) | (with_reducible first | refine kA_ ?_ _ | refine kN_ ?_ _ | refine kD_ ?_)))
         (case aB => exact (by repeat (first | (with_reducible first | exact HB.out | apply bA_ | apply dN_ | apply b1_ | refine below_set ?_ GE219.out | refine below_set ?_ GE220.out) | exact HB.out)))
         (case aF => exact (fun k_ hk => Kd.fresh' (Kd.R_lt (by (with_reducible repeat (first | apply Kd.R_alloc | apply Kd.R_drewN | apply Kd.R_drew)); exact HO229.out)) k_ hk))
         (case aO => exact (by (with_reducible repeat (first | apply Kd.R_alloc | apply Kd.R_drewN | apply Kd.R_drew)); exact Kd.R_mono HO223.out (fun _ hk => hk.2)))
         (case aS => exact (below_size (by repeat (first | (with_reducible first | exact HB.out | apply bA_ | apply dN_ | apply b1_ | refine below_set ?_ GE219.out | refine below_set ?_ GE220.out) | exact HB.out))))
         (case aL => have := LMc2.out; omega)
         intro v225 w11 ho hb hg hat
         rw [← Ny224.out] at ho
         have n0_ := m0_ (blk_grown (g := gb219) (o := .cells #[.int .i64 a0_0, .slice A0_1 l0_1.length c0_1, .bool a0_2, .slice A0_3 l0_3.length c0_3] 59 (0, 0)) (by (with_reducible repeat (first | refine blk_drewN ?_ _ | refine blk_drew ?_ | refine blk_alloc ?_ _)); exact BK219.out) hg (Kd.R_ne HO223.out BK219.out (by decide)))
         have n1_ := m0_ (blk_grown (g := gb220) (o := .cells #[.int .i64 0, .slice none 0 0, .bool false, .slice none 0 0] 59 (0, 0)) (by (with_reducible repeat (first | refine blk_drewN ?_ _ | refine blk_drew ?_ | refine blk_alloc ?_ _)); exact BK220.out) hg (Kd.R_ne HO223.out BK220.out (by decide)))
         have n2_ := m0_ (Kd.R_after (ok := (fun _ => True)) (by (with_reducible repeat (first | apply Kd.R_alloc | apply Kd.R_drewN | apply Kd.R_drew)); exact HO229.out) hg hat)
         have n3_ := m0_ (hb)
         have n4_ := m0_ (ho)
         clear BK219
         clear BK220
         clear HO229
         clear HB
         clear HO223
         have BK219 := n0_
         have BK220 := n1_
         have HO229 := n2_
         have HB := n3_
         have HO226 := n4_
         clear n0_ n1_ n2_ n3_ n4_
         clear ho hb hg hat
         refine hK.out _ _ ⟨(blk_cell BK219.out 0).trans rfl, (blk_cell BK219.out 1).trans rfl, (blk_cell BK219.out 2).trans rfl, (blk_cell BK219.out 3).trans rfl⟩ (fun hHeld => ?_)
         clear hK K
         refine norm_ (a' := ?_) ?_ ?_
         rotate_left
         · show Act.put _ (some 8) _ = _
           simp only [Act.put, sI_, sZ_, sS_, i64_w, i32_w]
           rfl
         exact norm_ (by simp only [putAll, Act.put, sI_, sZ_, sS_]) (hCont (v222, v225, v228) _ ⟨hHeld, (by (with_reducible repeat (first | apply Kd.R_alloc | apply Kd.R_drewN | apply Kd.R_drew)); exact HO226.out), (by (with_reducible repeat (first | apply Kd.R_alloc | apply Kd.R_drewN | apply Kd.R_drew)); exact Kd.R_mono HO229.out (fun _ hk => hk.2)), (by (with_reducible repeat (first | refine blk_drewN ?_ _ | refine blk_drew ?_ | refine blk_alloc ?_ _)); exact BK219.out), (by (with_reducible repeat (first | refine blk_drewN ?_ _ | refine blk_drew ?_ | refine blk_alloc ?_ _)); exact BK220.out), (by repeat (first | (with_reducible first | exact HB.out | apply bA_ | apply dN_ | apply b1_ | refine below_set ?_ GE219.out | refine below_set ?_ GE220.out) | exact HB.out))⟩)
     rintro ⟨v222, v225, v228⟩ w12 ⟨hS_, h0_, h1_, h2_, h3_, h4_⟩
     have n0_ : Aside0 (Kd.R (Kd.int .u8) 5 w12 w.heap.size (fun k_ => some k_ ≠ (v228 : Value).ownBlock) v225 y224) := ⟨h0_⟩
     have n1_ : Aside0 (Kd.R (Kd.int .u8) 5 w12 w.heap.size (fun k_ => some k_ ≠ (v225 : Value).ownBlock) v228 y227) := ⟨h1_⟩
     have n2_ : Aside0 (w12.heap[gb219]? = some (.cells #[.int .i64 a0_0, .slice A0_1 l0_1.length c0_1, .bool a0_2, .slice A0_3 l0_3.length c0_3] 59 (0, 0))) := ⟨h2_⟩
     have n3_ : Aside0 (w12.heap[gb220]? = some (.cells #[.int .i64 0, .slice none 0 0, .bool false, .slice none 0 0] 59 (0, 0))) := ⟨h3_⟩
     have n4_ : Aside0 (Below w.heap.size w w12) := ⟨h4_⟩
     clear BK219
     clear BK220
     clear HB
     clear h0_ h1_ h2_ h3_ h4_
     have HO226 := n0_
     have HO229 := n1_
     have BK219 := n2_
     have BK220 := n3_
     have HB := n4_
     clear n0_ n1_ n2_ n3_ n4_
     have hHeld : w12.cell? ⟨gb219, 0, none⟩ = some (.int .i64 a0_0) ∧ w12.cell? ⟨gb219, 1, none⟩ = some (.slice A0_1 l0_1.length c0_1) ∧ w12.cell? ⟨gb219, 2, none⟩ = some (.bool a0_2) ∧ w12.cell? ⟨gb219, 3, none⟩ = some (.slice A0_3 l0_3.length c0_3) := hS_
     refine norm_ (a' := ?_) ?_ ?_
     rotate_left
     · simp only [putAll, Act.put, sI_, sZ_, sS_]
       rfl
     refine one_ (i := 11) (N := some 14) #[true, true, true, true, true, true, true, true, true, true, true, true, false, false] rfl rfl (one_of HT_.out (by kernel_rfl)) (by decide) (fun K hK => ?_)
     refine Kd.R_append_rows_step (Kd.int .u8) (w0 := w) w.heap.size (by rfl) (.tmp 11) (.tmp 13) 55 5 (.int .u8 0) 1 rfl Try.underlying55 info5 rfl (by decide) (by omega) v228 y227 l0_3 _ _ _ (fun k_ => some k_ ≠ (v225 : Value).ownBlock) (fun _ => False) rfl rfl ?aO ?aR (fun _ _ h => h) (fun _ h => h.elim) ?aF ?aB ?aS ?aL ?_
     (case aR => repeat (first | exact (kB_ HR0_3.out HB.out) | (with_reducible first | refine kA_ ?_ _ | refine kN_ ?_ _ | refine kD_ ?_)))
     (case aB => exact (by repeat (first | (with_reducible first | exact HB.out | apply bA_ | apply dN_ | apply b1_ | refine below_set ?_ GE219.out | refine below_set ?_ GE220.out) | exact HB.out)))
     (case aF => exact (fun k_ hk => Kd.fresh' (Kd.R_lt (by (with_reducible repeat (first | apply Kd.R_alloc | apply Kd.R_drewN | apply Kd.R_drew)); exact HO226.out)) k_ hk))
     (case aO => exact (by (with_reducible repeat (first | apply Kd.R_alloc | apply Kd.R_drewN | apply Kd.R_drew)); exact HO229.out))
     (case aS => exact (below_size (by repeat (first | (with_reducible first | exact HB.out | apply bA_ | apply dN_ | apply b1_ | refine below_set ?_ GE219.out | refine below_set ?_ GE220.out) | exact HB.out))))
     (case aL => have := LMc3.out; omega)
     intro v231 w13 ho hb hg hat
     rw [← Ny230.out] at ho
     have n0_ := m0_ (blk_grown (g := gb219) (o := .cells #[.int .i64 a0_0, .slice A0_1 l0_1.length c0_1, .bool a0_2, .slice A0_3 l0_3.length c0_3] 59 (0, 0)) (by (with_reducible repeat (first | refine blk_drewN ?_ _ | refine blk_drew ?_ | refine blk_alloc ?_ _)); exact BK219.out) hg (Kd.R_ne HO229.out BK219.out (by decide)))
     have n1_ := m0_ (blk_grown (g := gb220) (o := .cells #[.int .i64 0, .slice none 0 0, .bool false, .slice none 0 0] 59 (0, 0)) (by (with_reducible repeat (first | refine blk_drewN ?_ _ | refine blk_drew ?_ | refine blk_alloc ?_ _)); exact BK220.out) hg (Kd.R_ne HO229.out BK220.out (by decide)))
     have n2_ := m0_ (Kd.R_after (ok := (fun _ => True)) (by (with_reducible repeat (first | apply Kd.R_alloc | apply Kd.R_drewN | apply Kd.R_drew)); exact Kd.R_mono HO226.out (fun _ hk => ⟨trivial, hk⟩)) hg hat)
     have n3_ := m0_ (hb)
     have n4_ := m0_ (ho)
     clear BK219
     clear BK220
     clear HO226
     clear HB
     clear HO229
     have BK219 := n0_
     have BK220 := n1_
     have HO226 := n2_
     have HB := n3_
     have HO232 := n4_
     clear n0_ n1_ n2_ n3_ n4_
     clear ho hb hg hat
     obtain ⟨Ao14, co14, eo14⟩ := Kd.R_slice HO232.out
     (first | subst eo14 | (injection eo14 with f1_ f2_ f3_; have f4_ := f1_.symm; have f5_ := f3_.symm; clear f1_ f2_ f3_; subst f4_; subst f5_))
     obtain ⟨Ao15, co15, eo15⟩ := Kd.R_slice HO226.out
     (first | subst eo15 | (injection eo15 with f1_ f2_ f3_; have f4_ := f1_.symm; have f5_ := f3_.symm; clear f1_ f2_ f3_; subst f4_; subst f5_))
     refine hK.out _ _ ⟨(blk_cell BK219.out 0).trans rfl, (blk_cell BK219.out 1).trans rfl, (blk_cell BK219.out 2).trans rfl, (blk_cell BK219.out 3).trans rfl⟩ (fun hHeld => ?_)
     clear hK K
     refine norm_ (a' := ?_) ?_ ?_
     rotate_left
     · show Act.put _ (some 14) _ = _
       simp only [Act.put, sI_, sZ_, sS_, i64_w, i32_w]
       rfl
     refine pure_ (i := 12) (N := some 15) (v := ?_) (a' := ?_) #[true, true, true, true, true, true, true, true, true, true, true, true, true, false] rfl rfl (any_of HT_.out (by kernel_rfl)) (fun _ _ _ h => h) (Or.inl ⟨by rfl, ?_⟩) ?_ ?_
     rotate_left
     · intro w'
       go_simp
       with_reducible rfl
     rotate_left
     · simp only [Act.put, sI_, sZ_, sS_, i64_w, i32_w]
       rfl
     refine one_ (i := 13) (N := none) #[true, true, true, true, true, true, true, true, true, true, true, true, true, true] rfl rfl (one_of HT_.out (by kernel_rfl)) (by decide) (fun K hK => ?_)
     have hs16 : w13.cell? ⟨gb220, 0, none⟩ = some (.int .i64 0) := (blk_cell BK220.out 0).trans rfl
     have hfs16 := bf_ BK220.out 0
     have hns16_0 := NB219_220.out
     have hms16_0 := NB220_219.out
     have hs17 : w13.cell? ⟨gb220, 1, none⟩ = some (.slice none 0 0) := (blk_cell BK220.out 1).trans rfl
     have hfs17 := bf_ BK220.out 1
     have hns17_0 := NB219_220.out
     have hms17_0 := NB220_219.out
     have hs18 : w13.cell? ⟨gb220, 2, none⟩ = some (.bool false) := (blk_cell BK220.out 2).trans rfl
     have hfs18 := bf_ BK220.out 2
     have hns18_0 := NB219_220.out
     have hms18_0 := NB220_219.out
     have hs19 : w13.cell? ⟨gb220, 3, none⟩ = some (.slice none 0 0) := (blk_cell BK220.out 3).trans rfl
     have hfs19 := bf_ BK220.out 3
     have hns19_0 := NB219_220.out
     have hms19_0 := NB220_219.out
     refine skip_ (w1 := ?_) (by rfl) rfl ?_ ?_
     rotate_left
     · go_simp
       rfl
     refine hK.out _ _ ⟨((cell_far (p := ⟨gb220, _, none⟩) NB219_220.out _).trans (((cell_far (p := ⟨gb220, _, none⟩) NB219_220.out _).trans (((cell_far (p := ⟨gb220, _, none⟩) NB219_220.out _).trans (((cell_far (p := ⟨gb220, _, none⟩) NB219_220.out _).trans (hHeld.1)))))))), ((cell_far (p := ⟨gb220, _, none⟩) NB219_220.out _).trans (((cell_far (p := ⟨gb220, _, none⟩) NB219_220.out _).trans (((cell_far (p := ⟨gb220, _, none⟩) NB219_220.out _).trans (((cell_far (p := ⟨gb220, _, none⟩) NB219_220.out _).trans (hHeld.2.1)))))))), ((cell_far (p := ⟨gb220, _, none⟩) NB219_220.out _).trans (((cell_far (p := ⟨gb220, _, none⟩) NB219_220.out _).trans (((cell_far (p := ⟨gb220, _, none⟩) NB219_220.out _).trans (((cell_far (p := ⟨gb220, _, none⟩) NB219_220.out _).trans (hHeld.2.2.1)))))))), ((cell_far (p := ⟨gb220, _, none⟩) NB219_220.out _).trans (((cell_far (p := ⟨gb220, _, none⟩) NB219_220.out _).trans (((cell_far (p := ⟨gb220, _, none⟩) NB219_220.out _).trans (((cell_far (p := ⟨gb220, _, none⟩) NB219_220.out _).trans (hHeld.2.2.2))))))))⟩ (fun hHeld => ?_)
     clear hK K
     refine done_ (done_of HT_.out (by kernel_rfl)) ?_
     try go_wp2
     refine bodyPost_ret (results_cell_row rfl _ _ gb220 59 #[.int .i64 a0_0, .slice Ao15 y224.length co15, .bool a0_2, .slice Ao14 y230.length co14] (0, 0) _ rfl (by (with_reducible repeat (first | refine blk_drewN ?_ _ | refine blk_drew ?_ | refine blk_alloc ?_ _)); refine blk_put (cs := #[.int .i64 a0_0, .slice Ao15 y224.length co15, .bool a0_2, .slice none 0 0]) ?_ 3 _ rfl; (with_reducible repeat (first | refine blk_drewN ?_ _ | refine blk_drew ?_ | refine blk_alloc ?_ _)); refine blk_put (cs := #[.int .i64 a0_0, .slice Ao15 y224.length co15, .bool false, .slice none 0 0]) ?_ 2 _ rfl; (with_reducible repeat (first | refine blk_drewN ?_ _ | refine blk_drew ?_ | refine blk_alloc ?_ _)); refine blk_put (cs := #[.int .i64 a0_0, .slice none 0 0, .bool false, .slice none 0 0]) ?_ 1 _ rfl; (with_reducible repeat (first | refine blk_drewN ?_ _ | refine blk_drew ?_ | refine blk_alloc ?_ _)); refine blk_put (cs := #[.int .i64 0, .slice none 0 0, .bool false, .slice none 0 0]) ?_ 0 _ rfl; (with_reducible repeat (first | refine blk_drewN ?_ _ | refine blk_drew ?_ | refine blk_alloc ?_ _)); exact BK220.out) Try.underlying59 rfl (by kernel_rfl)) rfl ?_
     exact ⟨_, _, by first | rfl | (simp [errW_none, errW_some] <;> rfl) | (simp [*, errW_none, errW_some] <;> rfl), by (with_reducible repeat (first | apply Kd.R_alloc | apply Kd.R_drewN | apply Kd.R_drew)); exact Kd.R_mono (Kd.R_far (p := ⟨gb220, 3, none⟩) (Kd.R_far (p := ⟨gb220, 2, none⟩) (Kd.R_far (p := ⟨gb220, 1, none⟩) (Kd.R_far (p := ⟨gb220, 0, none⟩) (Kd.R_types HO226.out BK220.out (by decide)) (fun _ hk => hk.2) (.int .i64 a0_0)) (fun _ hk => hk.2) (.slice Ao15 y224.length co15)) (fun _ hk => hk.2) (.bool a0_2)) (fun _ hk => hk.2) (.slice Ao14 y230.length co14)) (fun _ hk => hk.1.2), by (with_reducible repeat (first | apply Kd.R_alloc | apply Kd.R_drewN | apply Kd.R_drew)); exact Kd.R_mono (Kd.R_far (p := ⟨gb220, 3, none⟩) (Kd.R_far (p := ⟨gb220, 2, none⟩) (Kd.R_far (p := ⟨gb220, 1, none⟩) (Kd.R_far (p := ⟨gb220, 0, none⟩) (Kd.R_types HO232.out BK220.out (by decide)) (fun _ hk => hk.2) (.int .i64 a0_0)) (fun _ hk => hk.2) (.slice Ao15 y224.length co15)) (fun _ hk => hk.2) (.bool a0_2)) (fun _ hk => hk.2) (.slice Ao14 y230.length co14)) (fun _ hk => hk.1), by repeat (first | (with_reducible first | exact HB.out | apply bA_ | apply dN_ | apply b1_ | refine below_set ?_ GE219.out | refine below_set ?_ GE220.out) | exact HB.out)⟩
   · rw [if_neg c3] at H
     exact absurd H (by simp)
 · rw [if_neg c2] at H
   exact absurd H (by simp)
def banksmanref08_Copy.l0 : Nat → Int → List (S59) → List Int → List (S59) → List Int → Option ((List (S59)) × List Int)
 | 0, _, _, _, _, _ => none
 | k + 1, x4, x234000, x234001, x242000, x242001 => if x4 < (x234000.length : Int) then (if 0 ≤ x4 then ((banksmanref08_write.f ((rd_T59 x234000 x4).f0) ((rd_T59 x234000 x4).f1) ((rd_T59 x234000 x4).f2) ((rd_T59 x234000 x4).f3)).bind fun bt243 => (if x242000.length < 2199023255552 then (banksmanref08_Copy.l0 k (wrap64 (x4 + 1)) x234000 x234001 (x242000 ++ [(⟨bt243.1, bt243.2.1, bt243.2.2.1, bt243.2.2.2⟩ : S59)]) x242001) else (none))) else (none)) else (some (x242000, x242001))
def banksmanref08_Copy.f (k : Nat) (l0_0 : List (S59)) (l0_1 : List Int) : Option ((List (S59)) × List Int) := (some (([] : List Int) : List Int)).bind fun y235 => (if y235.length + l0_1.length < 17592186044416 then (banksmanref08_Copy.l0 k 0 l0_0 l0_1 ([] : List (S59)) (y235 ++ l0_1)) else (none))
def banksmanref08_Copy.T5 : Bool × List (List Nat × List Nat) := (true, [([], []), ([0], [0]), ([], []), ([2], [2]), ([], []), ([3, 4], [3, 4]), ([5], [5]), ([6], [6]), ([7], [7]), ([1, 8, 7], [1, 8]), ([0, 1, 2, 3, 4, 5, 6, 7, 8, 9], []), ([10, 9, 9, 0, 1, 2, 3, 4, 5, 6, 7, 8, 9], [9, 10])])
def banksmanref08_Copy.B5 : List Nat := [0, 1, 0, 4, 0, 28, 60, 124, 252, 511, 1023, 2047]
theorem banksmanref08_Copy.tab5 : rtab .any (opsOf Try.f61 5) = banksmanref08_Copy.T5 := by kernel_rfl
theorem banksmanref08_Copy.bits5 : waitsOk banksmanref08_Copy.T5.2 banksmanref08_Copy.B5 = true := by kernel_rfl
set_option maxHeartbeats 8000000 in
set_option maxRecDepth 100000 in
theorem banksmanref08_Copy.calls (k : Nat) (A0_0 : Option Addr) (c0_0 : Nat) (l0_0 : List (S59)) (A0_1 : Option Addr) (c0_1 : Nat) (l0_1 : List Int) (r1 : List (S59)) (r2 : List Int) (w : World) (hr0_0 : Kd.C k59 w A0_0 l0_0.length l0_0) (hc0_0 : l0_0.length ≤ c0_0) (hr0_1 : Kd.C (Kd.int .i64) w A0_1 l0_1.length l0_1) (hc0_1 : l0_1.length ≤ c0_1) (h : banksmanref08_Copy.f k l0_0 l0_1 = some (r1, r2)) :
   Calls Try.prog 61 #[.agg #[.slice A0_0 l0_0.length c0_0, .slice A0_1 l0_1.length c0_1]] w fun e w' => ∃ v0_ v1_ : Value, e = .returned (.agg #[v0_, v1_]) ∧ Kd.S k59 59 w' w.heap.size (fun _ => True) v0_ r1 ∧ Kd.R (Kd.int .i64) 3 w' w.heap.size (fun _ => True) v1_ r2 ∧ Below w.heap.size w w' := by
 have hu33 := Try.underlying33
 have hu59 := Try.underlying59
 have HR0_0 := m0_ hr0_0
 have HC0_0 := m0_ hc0_0
 clear hr0_0 hc0_0
 have HR0_1 := m0_ hr0_1
 have HC0_1 := m0_ hc0_1
 clear hr0_1 hc0_1
 have HB := m0_ (Below.refl w.heap.size w)
 have H : ((some (([] : List Int) : List Int)).bind fun y235 => (if y235.length + l0_1.length < 17592186044416 then (banksmanref08_Copy.l0 k 0 l0_0 l0_1 ([] : List (S59)) (y235 ++ l0_1)) else (none))) = some (r1, r2) := h
 clear h
 obtain ⟨y235, hy235⟩ : ∃ y_ : List Int, y_ = (([] : List Int)) := ⟨_, rfl⟩
 replace H : (if y235.length + l0_1.length < 17592186044416 then (banksmanref08_Copy.l0 k 0 l0_0 l0_1 ([] : List (S59)) (y235 ++ l0_1)) else (none)) = some (r1, r2) := by first | (rw [hy235]; with_reducible exact H) | (have H2_ := (Option.bind_some _ _).symm.trans H; rw [hy235]; with_reducible exact H2_) | (have H2_ := (Option.bind_some _ _).symm.trans H; with_reducible exact H2_) | with_reducible exact H | (rw [hy235]; exact H) | exact H
 have Ny235 := m0_ hy235
 clear hy235
 by_cases c2 : y235.length + l0_1.length < 17592186044416
 · rw [if_pos c2] at H
   have LMc2 := m0_ c2
   clear c2
   obtain ⟨y238, hy238⟩ : ∃ y_ : List Int, y_ = (y235 ++ l0_1) := ⟨_, rfl⟩
   replace H : (banksmanref08_Copy.l0 k 0 l0_0 l0_1 ([] : List (S59)) y238) = some (r1, r2) := by first | (rw [hy238]; with_reducible exact H) | (have H2_ := (Option.bind_some _ _).symm.trans H; rw [hy238]; with_reducible exact H2_) | (have H2_ := (Option.bind_some _ _).symm.trans H; with_reducible exact H2_) | with_reducible exact H | (rw [hy238]; exact H) | exact H
   have Ny238 := m0_ hy238
   clear hy238
   have H' := m0_ H
   clear H
   go_enter Try.func61, Try.ntmps61
   go_wp2_with (first | ((with_reducible refine gate_dst (N := 1) rfl ?_); refine box_event ?hg (N := 1) ?hd (cs := #[.slice A0_0 l0_0.length c0_0, .slice A0_1 l0_1.length c0_1]) (t := 33) ?hr ?_; (case hd => rfl); (case hg => rfl); (case hr => first | (go_simp; done) | (go_simp; rfl)); intro gb233 hg w3 hbox hb; have n0_ := m0_ (below_step (by repeat (first | (with_reducible first | exact HB.out | apply bA_ | apply dN_ | apply b1_) | exact HB.out)) hb); have n1_ := m0_ (hbox); have n2_ := m0_ ((by rw [hg]; exact (below_size (by repeat (first | (with_reducible first | exact HB.out | apply bA_ | apply dN_ | apply b1_) | exact HB.out))) : w.heap.size ≤ gb233)); have n3_ := m0_ ((by rw [hg]; exact (below_size (by repeat (first | (with_reducible first | exact HB.out | apply bA_ | apply dN_ | apply b1_) | exact HB.out))) : w.heap.size ≤ gb233)); clear HB; have HB := n0_; have BK233 := n1_; have GW233 := n2_; have GE233 := n3_; clear n0_ n1_ n2_ n3_; clear hb hbox hg) | ((with_reducible refine gate_dst (N := 2) rfl ?_); refine box_event ?hg (N := 2) ?hd (cs := #[.slice none 0 0, .slice none 0 0]) (t := 33) ?hr ?_; (case hd => rfl); (case hg => rfl); (case hr => first | (go_simp; done) | (go_simp; rfl)); intro gb234 hg w4 hbox hb; have n0_ := m0_ (blk_below (g := gb233) (o := .cells #[.slice A0_0 l0_0.length c0_0, .slice A0_1 l0_1.length c0_1] 33 (0, 0)) (by (with_reducible repeat (first | refine blk_drewN ?_ _ | refine blk_drew ?_ | refine blk_alloc ?_ _)); exact BK233.out) hb); have n1_ := m0_ (below_step (by repeat (first | (with_reducible first | exact HB.out | apply bA_ | apply dN_ | apply b1_ | refine below_set ?_ GE233.out) | exact HB.out)) hb); have n2_ := m0_ (hbox); have n3_ := m0_ ((by rw [hg]; exact (below_size (by repeat (first | (with_reducible first | exact HB.out | apply bA_ | apply dN_ | apply b1_ | refine below_set ?_ GE233.out) | exact HB.out))) : w.heap.size ≤ gb234)); have n4_ := m0_ ((by rw [hg]; exact (below_size (by repeat (first | (with_reducible first | exact HB.out | apply bA_ | apply dN_ | apply b1_ | refine below_set ?_ GE233.out) | exact HB.out))) : w.heap.size ≤ gb234)); have n5_ := m0_ ((by rw [hg]; exact Nat.ne_of_lt (blk_lt (g := gb233) (o := .cells #[.slice A0_0 l0_0.length c0_0, .slice A0_1 l0_1.length c0_1] 33 (0, 0)) (by (with_reducible repeat (first | refine blk_drewN ?_ _ | refine blk_drew ?_ | refine blk_alloc ?_ _)); exact BK233.out)) : gb233 ≠ gb234)); have n6_ := m0_ ((by rw [hg]; exact Nat.ne_of_gt (blk_lt (g := gb233) (o := .cells #[.slice A0_0 l0_0.length c0_0, .slice A0_1 l0_1.length c0_1] 33 (0, 0)) (by (with_reducible repeat (first | refine blk_drewN ?_ _ | refine blk_drew ?_ | refine blk_alloc ?_ _)); exact BK233.out)) : gb234 ≠ gb233)); clear BK233; clear HB; have BK233 := n0_; have HB := n1_; have BK234 := n2_; have GW234 := n3_; have GE234 := n4_; have NB233_234 := n5_; have NB234_233 := n6_; clear n0_ n1_ n2_ n3_ n4_ n5_ n6_; clear hb hbox hg) | ((with_reducible refine gate_dst (N := 5) rfl ?_); refine Kd.R_lit (Kd.int .i64) _ 3 ?hg (N := 5) ?hd (xs := ([] : List Int)) (inner := []) (ok := fun _ => True) (okp := fun _ => True) ?hr ?hp (fun _ hk => hk) trivial (Below.refl _ _) (Nat.le_refl _) (by simp) ?_; (case hd => rfl); (case hg => rfl); (case hr => first | (go_simp; done) | (go_simp; rfl)); (case hp => exact (Reps.none _ _)); intro v236 w5 ho6 hb hg_ hnew_; clear hg_ hnew_; (first | rw [← Ny235.out] at ho6 | (simp only [Int.reduceToNat] at ho6; rw [← Ny235.out] at ho6)); have n0_ := m0_ (Kd.R_lower ho6 (below_size (by repeat (first | (with_reducible first | exact HB.out | apply bA_ | apply dN_ | apply b1_ | refine below_set ?_ GE233.out | refine below_set ?_ GE234.out) | exact HB.out)))); have n1_ := m0_ (blk_below (g := gb233) (o := .cells #[.slice A0_0 l0_0.length c0_0, .slice A0_1 l0_1.length c0_1] 33 (0, 0)) (by (with_reducible repeat (first | refine blk_drewN ?_ _ | refine blk_drew ?_ | refine blk_alloc ?_ _)); exact BK233.out) hb); have n2_ := m0_ (blk_below (g := gb234) (o := .cells #[.slice none 0 0, .slice none 0 0] 33 (0, 0)) (by (with_reducible repeat (first | refine blk_drewN ?_ _ | refine blk_drew ?_ | refine blk_alloc ?_ _)); exact BK234.out) hb); have n3_ := m0_ (below_step (by repeat (first | (with_reducible first | exact HB.out | apply bA_ | apply dN_ | apply b1_ | refine below_set ?_ GE233.out | refine below_set ?_ GE234.out) | exact HB.out)) hb); clear BK233; clear BK234; clear HB; have HO237 := n0_; have BK233 := n1_; have BK234 := n2_; have HB := n3_; clear n0_ n1_ n2_ n3_; clear hb ho6; have hnb7 := NB233_234.out; have hnc7 := NB234_233.out; have hcz8_0 : w5.cell? ⟨gb233, 0, none⟩ = some (.slice A0_0 l0_0.length c0_0) := (blk_cell BK233.out 0).trans rfl; have hcz8_1 : w5.cell? ⟨gb233, 1, none⟩ = some (.slice A0_1 l0_1.length c0_1) := (blk_cell BK233.out 1).trans rfl; have hfz8_0 := bf_ BK233.out 0; have hfz8_1 := bf_ BK233.out 1) | ((with_reducible refine gate_builtin (b := .append) (xs := #[.tmp 5, .tmp 7]) rfl ?_); at_builtin; refine Kd.R_append_rows (Kd.int .i64) (w0 := w) w.heap.size rfl (.tmp 5) (.tmp 7) 31 3 (.int .i64 0) 8 rfl Try.underlying31 info3 rfl (by decide) (by omega) v236 y235 l0_1 _ _ _ (fun _ => True) (fun _ => False) rfl rfl ?aO ?aR (fun _ _ h => h) (fun _ h => h.elim) ?aF ?aB ?aS ?aL ?_; (case aR => repeat (first | exact (kB_ HR0_1.out HB.out) | (with_reducible first | refine kA_ ?_ _ | refine kN_ ?_ _ | refine kD_ ?_))); (case aB => exact (by repeat (first | (with_reducible first | exact HB.out | apply bA_ | apply dN_ | apply b1_ | refine below_set ?_ GE233.out | refine below_set ?_ GE234.out) | exact HB.out))); (case aF => exact (fun _ _ => trivial)); (case aO => exact (by (with_reducible repeat (first | apply Kd.R_alloc | apply Kd.R_drewN | apply Kd.R_drew)); exact HO237.out)); (case aS => exact (below_size (by repeat (first | (with_reducible first | exact HB.out | apply bA_ | apply dN_ | apply b1_ | refine below_set ?_ GE233.out | refine below_set ?_ GE234.out) | exact HB.out)))); (case aL => have := LMc2.out; omega); intro v239 w9 ho hb hg hat; rw [← Ny238.out] at ho; have n0_ := m0_ (blk_grown (g := gb233) (o := .cells #[.slice A0_0 l0_0.length c0_0, .slice A0_1 l0_1.length c0_1] 33 (0, 0)) (by (with_reducible repeat (first | refine blk_drewN ?_ _ | refine blk_drew ?_ | refine blk_alloc ?_ _)); exact BK233.out) hg (Kd.R_ne HO237.out BK233.out (by decide))); have n1_ := m0_ (blk_grown (g := gb234) (o := .cells #[.slice none 0 0, .slice none 0 0] 33 (0, 0)) (by (with_reducible repeat (first | refine blk_drewN ?_ _ | refine blk_drew ?_ | refine blk_alloc ?_ _)); exact BK234.out) hg (Kd.R_ne HO237.out BK234.out (by decide))); have n2_ := m0_ (hb); have n3_ := m0_ (ho); clear BK233; clear BK234; clear HB; clear HO237; have BK233 := n0_; have BK234 := n1_; have HB := n2_; have HO240 := n3_; clear n0_ n1_ n2_ n3_; clear ho hb hg hat; obtain ⟨Ao10, co10, eo10⟩ := Kd.R_slice HO240.out; subst eo10) | ((with_reducible refine gate_dst (N := 3) rfl ?_); refine box_event ?hg (N := 3) ?hd (cs := #[.slice none 0 0, .slice none 0 0]) (t := 33) ?hr ?_; (case hd => rfl); (case hg => rfl); (case hr => first | (go_simp; done) | (go_simp; rfl)); intro gb241 hg w11 hbox hb; have n0_ := m0_ (Kd.R_below (by (with_reducible repeat (first | apply Kd.R_alloc | apply Kd.R_drewN | apply Kd.R_drew)); exact HO240.out) hb); have n1_ := m0_ (blk_below (g := gb233) (o := .cells #[.slice A0_0 l0_0.length c0_0, .slice A0_1 l0_1.length c0_1] 33 (0, 0)) (by (with_reducible repeat (first | refine blk_drewN ?_ _ | refine blk_drew ?_ | refine blk_alloc ?_ _)); exact BK233.out) hb); have n2_ := m0_ (blk_below (g := gb234) (o := .cells #[.slice none 0 0, .slice none 0 0] 33 (0, 0)) (by (with_reducible repeat (first | refine blk_drewN ?_ _ | refine blk_drew ?_ | refine blk_alloc ?_ _)); exact BK234.out) hb); have n3_ := m0_ (below_step (by repeat (first | (with_reducible first | exact HB.out | apply bA_ | apply dN_ | apply b1_ | refine below_set ?_ GE233.out | refine below_set ?_ GE234.out) | exact HB.out)) hb); have n4_ := m0_ (hbox); have n5_ := m0_ ((by rw [hg]; exact (below_size (by repeat (first | (with_reducible first | exact HB.out | apply bA_ | apply dN_ | apply b1_ | refine below_set ?_ GE233.out | refine below_set ?_ GE234.out) | exact HB.out))) : w.heap.size ≤ gb241)); have n6_ := m0_ ((by rw [hg]; exact (below_size (by repeat (first | (with_reducible first | exact HB.out | apply bA_ | apply dN_ | apply b1_ | refine below_set ?_ GE233.out | refine below_set ?_ GE234.out) | exact HB.out))) : w.heap.size ≤ gb241)); have n7_ := m0_ ((by rw [hg]; exact Nat.ne_of_lt (blk_lt (g := gb233) (o := .cells #[.slice A0_0 l0_0.length c0_0, .slice A0_1 l0_1.length c0_1] 33 (0, 0)) (by (with_reducible repeat (first | refine blk_drewN ?_ _ | refine blk_drew ?_ | refine blk_alloc ?_ _)); exact BK233.out)) : gb233 ≠ gb241)); have n8_ := m0_ ((by rw [hg]; exact Nat.ne_of_gt (blk_lt (g := gb233) (o := .cells #[.slice A0_0 l0_0.length c0_0, .slice A0_1 l0_1.length c0_1] 33 (0, 0)) (by (with_reducible repeat (first | refine blk_drewN ?_ _ | refine blk_drew ?_ | refine blk_alloc ?_ _)); exact BK233.out)) : gb241 ≠ gb233)); have n9_ := m0_ ((by rw [hg]; exact Nat.ne_of_lt (blk_lt (g := gb234) (o := .cells #[.slice none 0 0, .slice none 0 0] 33 (0, 0)) (by (with_reducible repeat (first | refine blk_drewN ?_ _ | refine blk_drew ?_ | refine blk_alloc ?_ _)); exact BK234.out)) : gb234 ≠ gb241)); have n10_ := m0_ ((by rw [hg]; exact Nat.ne_of_gt (blk_lt (g := gb234) (o := .cells #[.slice none 0 0, .slice none 0 0] 33 (0, 0)) (by (with_reducible repeat (first | refine blk_drewN ?_ _ | refine blk_drew ?_ | refine blk_alloc ?_ _)); exact BK234.out)) : gb241 ≠ gb234)); clear HO240; clear BK233; clear BK234; clear HB; have HO240 := n0_; have BK233 := n1_; have BK234 := n2_; have HB := n3_; have BK241 := n4_; have GW241 := n5_; have GE241 := n6_; have NB233_241 := n7_; have NB241_233 := n8_; have NB234_241 := n9_; have NB241_234 := n10_; clear n0_ n1_ n2_ n3_ n4_ n5_ n6_ n7_ n8_ n9_ n10_; clear hb hbox hg; have hnb12 := NB241_233.out; have hnc12 := NB233_241.out; have hnb13 := NB241_234.out; have hnc13 := NB234_241.out; have hcz14_0 : w11.cell? ⟨gb241, 0, none⟩ = some (.slice none 0 0) := (blk_cell BK241.out 0).trans rfl; have hcz14_1 : w11.cell? ⟨gb241, 1, none⟩ = some (.slice none 0 0) := (blk_cell BK241.out 1).trans rfl; have hfz14_0 := bf_ BK241.out 0; have hfz14_1 := bf_ BK241.out 1))
   go_loopg [4] k (fun kq v4 w' => ∃ (x4_1 : Int) (x242000_1 : List (S59)) (u242000 : Value), v4 = .int .i64 x4_1 ∧ Aside0 (banksmanref08_Copy.l0 kq x4_1 l0_0 l0_1 x242000_1 y238 = some (r1, r2)) ∧ Aside0 (kq ≤ k) ∧ Aside0 (Kd.S k59 59 w' w.heap.size (fun _ => True) u242000 x242000_1) ∧ Aside0 (Kd.R (Kd.int .i64) 3 w' w.heap.size (fun _ => True) (.slice Ao10 y238.length co10) y238) ∧ Aside0 (w'.heap[gb233]? = some (.cells #[(.slice A0_0 l0_0.length c0_0), (.slice A0_1 l0_1.length c0_1)] 33 (0, 0))) ∧ Aside0 (w'.heap[gb234]? = some (.cells #[(.slice none 0 0), (.slice none 0 0)] 33 (0, 0))) ∧ Aside0 (w'.heap[gb241]? = some (.cells #[u242000, (.slice Ao10 y238.length co10)] 33 (0, 0))) ∧ Aside0 (Below w.heap.size w w'))
   case atStart => exact ⟨(0), (([] : List (S59))), (.slice none 0 0), (by first | rfl | (simp; done) | (simp [*]; done)), H', ⟨Nat.le_refl _⟩, ⟨by first | exact Kd.S_nil _ _ _ _ _ | exact Kd.N_nil _ _ _ _ _ | exact Kd.V_nil _ _ _ _ _ | exact Kd.Q_nil _ _ _ _ _ | exact Kd.R_nil _ _ _ _ _⟩, ⟨by (with_reducible repeat (first | apply Kd.R_alloc | apply Kd.R_drewN | apply Kd.R_drew)); exact Kd.R_mono (Kd.R_far (p := ⟨gb241, 1, none⟩) (Kd.R_far (p := ⟨gb241, 0, none⟩) (Kd.R_types HO240.out BK241.out (by decide)) (fun _ hk => hk.2) (.slice none 0 0)) (fun _ hk => hk.2) (.slice Ao10 y238.length co10)) (fun _ hk => trivial)⟩, ⟨by (with_reducible repeat (first | refine blk_drewN ?_ _ | refine blk_drew ?_ | refine blk_alloc ?_ _)); refine blk_far ?_ NB233_241.out _; (with_reducible repeat (first | refine blk_drewN ?_ _ | refine blk_drew ?_ | refine blk_alloc ?_ _)); refine blk_far ?_ NB233_241.out _; (with_reducible repeat (first | refine blk_drewN ?_ _ | refine blk_drew ?_ | refine blk_alloc ?_ _)); exact BK233.out⟩, ⟨by (with_reducible repeat (first | refine blk_drewN ?_ _ | refine blk_drew ?_ | refine blk_alloc ?_ _)); refine blk_far ?_ NB234_241.out _; (with_reducible repeat (first | refine blk_drewN ?_ _ | refine blk_drew ?_ | refine blk_alloc ?_ _)); refine blk_far ?_ NB234_241.out _; (with_reducible repeat (first | refine blk_drewN ?_ _ | refine blk_drew ?_ | refine blk_alloc ?_ _)); exact BK234.out⟩, ⟨by (with_reducible repeat (first | refine blk_drewN ?_ _ | refine blk_drew ?_ | refine blk_alloc ?_ _)); refine blk_put (cs := #[.slice none 0 0, .slice none 0 0]) ?_ 1 _ rfl; (with_reducible repeat (first | refine blk_drewN ?_ _ | refine blk_drew ?_ | refine blk_alloc ?_ _)); refine blk_put (cs := #[.slice none 0 0, .slice none 0 0]) ?_ 0 _ rfl; (with_reducible repeat (first | refine blk_drewN ?_ _ | refine blk_drew ?_ | refine blk_alloc ?_ _)); exact BK241.out⟩, ⟨by repeat (first | (with_reducible first | exact HB.out | apply bA_ | apply dN_ | apply b1_ | refine below_set ?_ GE233.out | refine below_set ?_ GE234.out | refine below_set ?_ GE241.out) | exact HB.out)⟩⟩
   case round =>
    clear H'
    try clear c1
    try clear c2
    try clear p2
    try clear c6
    try clear c7
    try clear c12
    try clear c13
    try clear hcz14_0
    try clear hcz14_1
    try clear hcz8_0
    try clear hcz8_1
    try clear hfz14_0
    try clear hfz14_1
    try clear hfz8_0
    try clear hfz8_1
    obtain ⟨x4_1, x242000_1, u242000, rfl, HA, HK1, HO_242000, HO_242001, BK233, BK234, BK241, HB⟩ := hrel
    cases gk with
    | zero => exact absurd HA.out (by simp [banksmanref08_Copy.l0])
    | succ k1 =>
     have H := HA.out
     clear HA
     simp only [banksmanref08_Copy.l0] at H
     by_cases c15 : x4_1 < (l0_0.length : Int)
     · rw [if_pos c15] at H
       have c15b0 : decide (x4_1 < (l0_0.length : Int)) = true := decide_eq_true c15
       clear c15
       by_cases c16 : 0 ≤ x4_1
       · rw [if_pos c16] at H
         have c16b0 : decide (0 ≤ x4_1) = true := decide_eq_true c16
         clear c16
         replace H := Option.bind_eq_some_iff.mp H
         obtain ⟨⟨t243, t244, t247, t248⟩, A170, H⟩ := H
         replace H : (if x242000_1.length < 2199023255552 then (banksmanref08_Copy.l0 k1 (wrap64 (x4_1 + 1)) l0_0 l0_1 (x242000_1 ++ [(⟨t243, t244, t247, t248⟩ : S59)]) y238) else (none)) = some (r1, r2) := H
         have A17 := m0_ A170
         clear A170
         by_cases c18 : x242000_1.length < 2199023255552
         · rw [if_pos c18] at H
           have LMc18 := m0_ c18
           clear c18
           obtain ⟨y251, hy251⟩ : ∃ y_ : List (S59), y_ = (x242000_1 ++ [(⟨t243, t244, t247, t248⟩ : S59)]) := ⟨_, rfl⟩
           replace H : (banksmanref08_Copy.l0 k1 (wrap64 (x4_1 + 1)) l0_0 l0_1 y251 y238) = some (r1, r2) := by first | (rw [hy251]; with_reducible exact H) | (have H2_ := (Option.bind_some _ _).symm.trans H; rw [hy251]; with_reducible exact H2_) | (have H2_ := (Option.bind_some _ _).symm.trans H; with_reducible exact H2_) | with_reducible exact H | (rw [hy251]; exact H) | exact H
           have Ny251 := m0_ hy251
           clear hy251
           have H' := m0_ H
           clear H
           have hnb19 := NB233_234.out
           have hnc19 := NB234_233.out
           have hnb20 := NB233_241.out
           have hnc20 := NB241_233.out
           have hcz21_0 : wr.cell? ⟨gb233, 0, none⟩ = some (.slice A0_0 l0_0.length c0_0) := (blk_cell BK233.out 0).trans rfl
           have hcz21_1 : wr.cell? ⟨gb233, 1, none⟩ = some (.slice A0_1 l0_1.length c0_1) := (blk_cell BK233.out 1).trans rfl
           have hfz21_0 := bf_ BK233.out 0
           have hfz21_1 := bf_ BK233.out 1
           try go_wp2
           have n0_ := m0_ (Kd.S_drew HO_242000.out)
           have n1_ := m0_ (Kd.R_drew HO_242001.out)
           have n2_ := m0_ (blk_drew BK233.out)
           have n3_ := m0_ (blk_drew BK234.out)
           have n4_ := m0_ (blk_drew BK241.out)
           have n5_ := m0_ (b1_ HB.out)
           clear HO_242000
           clear HO_242001
           clear BK233
           clear BK234
           clear BK241
           clear HB
           have HO_242000 := n0_
           have HO_242001 := n1_
           have BK233 := n2_
           have BK234 := n3_
           have BK241 := n4_
           have HB := n5_
           clear n0_ n1_ n2_ n3_ n4_ n5_
           have p242 : 0 ≤ (x4_1 : Int) := dT_
           have q242 : x4_1 < (l0_0.length : Int) := dT_
           obtain ⟨ad242, A242_1, c242_1, A242_3, c242_3, e242, hx242_0, hx242_1, hx242_2, hx242_3, hl242_1, hi242_1, hl242_3, hi242_3⟩ := at_T59 HR0_0.out x4_1 p242 q242
           have hw242_3 := hx242_3
           have hw242_2 := hx242_2
           have hw242_1 := hx242_1
           have hw242_0 := hx242_0
           cases e242
           replace hx242_0 := (HB.out.cell (bL_ w _ hx242_0)).trans hx242_0
           replace hx242_1 := (HB.out.cell (bL_ w _ hx242_1)).trans hx242_1
           replace hx242_2 := (HB.out.cell (bL_ w _ hx242_2)).trans hx242_2
           replace hx242_3 := (HB.out.cell (bL_ w _ hx242_3)).trans hx242_3
           have HR242_1 := m0_ hi242_1
           have HC242_1 := m0_ hl242_1
           clear hi242_1 hl242_1
           have HR242_3 := m0_ hi242_3
           have HC242_3 := m0_ hl242_3
           clear hi242_3 hl242_3
           replace p242 := eq_true p242
           replace q242 := eq_true q242
           refine start_ (n := 12) (S := fun w' => w'.cell? ⟨gb241, 0, none⟩ = some (u242000) ∧ w'.cell? ⟨gb241, 1, none⟩ = some (.slice Ao10 y238.length co10) ∧ w'.cell? ⟨gb233, 0, none⟩ = some (.slice (some ad242) l0_0.length c0_0) ∧ w'.cell? ⟨gb233, 1, none⟩ = some (.slice A0_1 l0_1.length c0_1) ∧ w'.cell? (ad242.add ((x4_1).toNat * 4)) = some (.int .i64 ((rd_T59 l0_0 x4_1).f0)) ∧ w'.cell? ⟨(ad242.add ((x4_1).toNat * 4)).block, (ad242.add ((x4_1).toNat * 4)).off + 1, none⟩ = some (.slice A242_1 ((rd_T59 l0_0 x4_1).f1).length c242_1) ∧ w'.cell? ⟨(ad242.add ((x4_1).toNat * 4)).block, (ad242.add ((x4_1).toNat * 4)).off + 2, none⟩ = some (.bool ((rd_T59 l0_0 x4_1).f2)) ∧ w'.cell? ⟨(ad242.add ((x4_1).toNat * 4)).block, (ad242.add ((x4_1).toNat * 4)).off + 3, none⟩ = some (.slice A242_3 ((rd_T59 l0_0 x4_1).f3).length c242_3)) (ds := [11]) #[false, false, false, false, false, false, false, false, false, false, false, false] (by kernel_rfl) rfl rfl ⟨(blk_cell BK241.out 0).trans rfl, (blk_cell BK241.out 1).trans rfl, (blk_cell BK233.out 0).trans rfl, (blk_cell BK233.out 1).trans rfl, ((HB.out.cell (bL_ w _ hw242_0)).trans hw242_0), ((HB.out.cell (bL_ w _ hw242_1)).trans hw242_1), ((HB.out.cell (bL_ w _ hw242_2)).trans hw242_2), ((HB.out.cell (bL_ w _ hw242_3)).trans hw242_3)⟩ (fun hHeld => ?_); refine with_tabW banksmanref08_Copy.tab5 banksmanref08_Copy.bits5 (fun HT_ HW_ => ?_)
           generalize wr.drew = w22 at HO_242000 HO_242001 BK233 BK234 BK241 HB HR242_1 HR242_3 hx242_0 hx242_1 hx242_2 hx242_3 hHeld ⊢
           refine pure_ (i := 0) (N := some 17) (v := ?_) (a' := ?_) #[true, false, false, false, false, false, false, false, false, false, false, false] rfl rfl (any_of HT_.out (by kernel_rfl)) (fun _ _ _ h => h) (Or.inl ⟨by rfl, ?_⟩) ?_ ?_
           rotate_left
           · intro w'
             go_simp
             with_reducible rfl
           rotate_left
           · simp only [Act.put, sI_, sZ_, sS_, i64_w, i32_w]
             rfl
           refine pure_ (i := 2) (N := some 19) (v := ?_) (a' := ?_) #[true, false, true, false, false, false, false, false, false, false, false, false] rfl rfl (any_of HT_.out (by kernel_rfl)) (fun _ _ _ h => h) (Or.inl ⟨by rfl, ?_⟩) ?_ ?_
           rotate_left
           · intro w'
             go_simp
             with_reducible rfl
           rotate_left
           · simp only [Act.put, sI_, sZ_, sS_, i64_w, i32_w]
             rfl
           refine pure_ (i := 4) (N := some 21) (v := ?_) (a' := ?_) #[true, false, true, false, true, false, false, false, false, false, false, false] rfl rfl (any_of HT_.out (by kernel_rfl)) (fun _ _ _ h => h) (Or.inl ⟨by rfl, ?_⟩) ?_ ?_
           rotate_left
           · intro w'
             go_simp
             with_reducible rfl
           rotate_left
           · simp only [Act.put, sI_, sZ_, sS_, i64_w, i32_w]
             rfl
           refine take_ (i := 1) (N := some 18) (v := ?_) (a' := ?_) #[true, true, true, false, true, false, false, false, false, false, false, false] rfl rfl (take_ofW HT_.out HW_.out (by kernel_rfl)) (fun _ _ _ h => h) (Or.inl ⟨by rfl, ?_⟩) hHeld ?_ ?_
           rotate_left
           · rintro w' ⟨s0, s1, s2, s3, s4, s5, s6, s7⟩
             go_simp
             with_reducible rfl
           rotate_left
           · simp only [Act.put, sI_, sZ_, sS_, i64_w, i32_w]
             rfl
           refine take_ (i := 3) (N := some 20) (v := ?_) (a' := ?_) #[true, true, true, true, true, false, false, false, false, false, false, false] rfl rfl (take_ofW HT_.out HW_.out (by kernel_rfl)) (fun _ _ _ h => h) (Or.inl ⟨by rfl, ?_⟩) hHeld ?_ ?_
           rotate_left
           · rintro w' ⟨s0, s1, s2, s3, s4, s5, s6, s7⟩
             go_simp
             with_reducible rfl
           rotate_left
           · simp only [Act.put, sI_, sZ_, sS_, i64_w, i32_w]
             rfl
           refine pure_ (i := 5) (N := some 22) (v := ?_) (a' := ?_) #[true, true, true, true, true, true, false, false, false, false, false, false] rfl rfl (any_of HT_.out (by kernel_rfl)) (fun _ _ _ h => h) (Or.inl ⟨by rfl, ?_⟩) ?_ ?_
           rotate_left
           · intro w'
             go_simp
             with_reducible rfl
           rotate_left
           · simp only [Act.put, sI_, sZ_, sS_, i64_w, i32_w]
             rfl
           refine take_ (i := 6) (N := some 23) (v := ?_) (a' := ?_) #[true, true, true, true, true, true, true, false, false, false, false, false] rfl rfl (take_ofW HT_.out HW_.out (by kernel_rfl)) (fun _ _ _ h => h) (Or.inl ⟨by rfl, ?_⟩) hHeld ?_ ?_
           rotate_left
           · rintro w' ⟨s0, s1, s2, s3, s4, s5, s6, s7⟩
             go_simp
             with_reducible rfl
           rotate_left
           · simp only [Act.put, sI_, sZ_, sS_, i64_w, i32_w]
             rfl
           refine one_ (i := 7) (N := some 24) #[true, true, true, true, true, true, true, true, false, false, false, false] rfl rfl (one_of HT_.out (by kernel_rfl)) (by decide) (fun K hK => ?_)
           refine goes_ Try.func63 (by kernel_rfl) rfl #[.agg #[.int .i64 ((rd_T59 l0_0 x4_1).f0), .slice A242_1 ((rd_T59 l0_0 x4_1).f1).length c242_1, .bool ((rd_T59 l0_0 x4_1).f2), .slice A242_3 ((rd_T59 l0_0 x4_1).f3).length c242_3]] (by rfl) rfl rfl (by (try simp only [mT_, mC_, mN_]); first | done | rfl | (simp only [lD_, lT_]; rfl)) ?_
           with_reducible refine (banksmanref08_write.calls ((rd_T59 l0_0 x4_1).f0) _ _ ((rd_T59 l0_0 x4_1).f1) ((rd_T59 l0_0 x4_1).f2) _ _ ((rd_T59 l0_0 x4_1).f3) t243 t244 t247 t248 _ ?side1 ?side2 ?side3 ?side4 A17.out).mono ?_
           (case side1 => repeat (first | exact (kB_ HR242_1.out HB.out) | (with_reducible first | refine kA_ ?_ _ | refine kN_ ?_ _ | refine kD_ ?_)))
           (case side2 => exact HC242_1.out)
           (case side3 => repeat (first | exact (kB_ HR242_3.out HB.out) | (with_reducible first | refine kA_ ?_ _ | refine kN_ ?_ _ | refine kD_ ?_)))
           (case side4 => exact HC242_3.out)
           rintro e w23 ⟨v245, v249, rfl, ho0, ho1, hb⟩
           refine ⟨_, rfl, ?_⟩
           have n0_ := m0_ (Kd.S_mono (Kd.S_told (Kd.S_told (Kd.S_old (by (with_reducible repeat (first | apply Kd.S_alloc | apply Kd.S_drewN | apply Kd.S_drew)); exact HO_242000.out) hb) (Kd.R_base ho0)) (Kd.R_base ho1)) (fun _ h_ => h_.1))
           have n1_ := m0_ (Kd.R_below (by (with_reducible repeat (first | apply Kd.R_alloc | apply Kd.R_drewN | apply Kd.R_drew)); exact HO_242001.out) hb)
           have n2_ := m0_ (Kd.R_lower ho0 (below_size (by repeat (first | (with_reducible first | exact HB.out | apply bA_ | apply dN_ | apply b1_ | refine below_set ?_ GE233.out | refine below_set ?_ GE234.out | refine below_set ?_ GE241.out) | exact HB.out))))
           have n3_ := m0_ (Kd.R_lower ho1 (below_size (by repeat (first | (with_reducible first | exact HB.out | apply bA_ | apply dN_ | apply b1_ | refine below_set ?_ GE233.out | refine below_set ?_ GE234.out | refine below_set ?_ GE241.out) | exact HB.out))))
           have n4_ := m0_ (blk_below (g := gb233) (o := .cells #[.slice (some ad242) l0_0.length c0_0, .slice A0_1 l0_1.length c0_1] 33 (0, 0)) (by (with_reducible repeat (first | refine blk_drewN ?_ _ | refine blk_drew ?_ | refine blk_alloc ?_ _)); exact BK233.out) hb)
           have n5_ := m0_ (blk_below (g := gb234) (o := .cells #[.slice none 0 0, .slice none 0 0] 33 (0, 0)) (by (with_reducible repeat (first | refine blk_drewN ?_ _ | refine blk_drew ?_ | refine blk_alloc ?_ _)); exact BK234.out) hb)
           have n6_ := m0_ (blk_below (g := gb241) (o := .cells #[u242000, .slice Ao10 y238.length co10] 33 (0, 0)) (by (with_reducible repeat (first | refine blk_drewN ?_ _ | refine blk_drew ?_ | refine blk_alloc ?_ _)); exact BK241.out) hb)
           have n7_ := m0_ (below_step (by repeat (first | (with_reducible first | exact HB.out | apply bA_ | apply dN_ | apply b1_ | refine below_set ?_ GE233.out | refine below_set ?_ GE234.out | refine below_set ?_ GE241.out) | exact HB.out)) hb)
           clear HO_242000
           clear HO_242001
           clear BK233
           clear BK234
           clear BK241
           clear HB
           have HO_242000 := n0_
           have HO_242001 := n1_
           have HO246 := n2_
           have HO250 := n3_
           have BK233 := n4_
           have BK234 := n5_
           have BK241 := n6_
           have HB := n7_
           clear n0_ n1_ n2_ n3_ n4_ n5_ n6_ n7_
           (try clear hb)
           (try clear hb2)
           (try clear hk)
           (try clear hi)
           (try clear ho0)
           (try clear ho1)
           obtain ⟨Ao25, co25, eo25⟩ := Kd.R_slice HO246.out
           (first | subst eo25 | (injection eo25 with f1_ f2_ f3_; have f4_ := f1_.symm; have f5_ := f3_.symm; clear f1_ f2_ f3_; subst f4_; subst f5_))
           obtain ⟨Ao26, co26, eo26⟩ := Kd.R_slice HO250.out
           (first | subst eo26 | (injection eo26 with f1_ f2_ f3_; have f4_ := f1_.symm; have f5_ := f3_.symm; clear f1_ f2_ f3_; subst f4_; subst f5_))
           refine hK.out _ _ ⟨(blk_cell BK241.out 0).trans rfl, (blk_cell BK241.out 1).trans rfl, (blk_cell BK233.out 0).trans rfl, (blk_cell BK233.out 1).trans rfl, ((HB.out.cell (bL_ w _ hw242_0)).trans hw242_0), ((HB.out.cell (bL_ w _ hw242_1)).trans hw242_1), ((HB.out.cell (bL_ w _ hw242_2)).trans hw242_2), ((HB.out.cell (bL_ w _ hw242_3)).trans hw242_3)⟩ (fun hHeld => ?_)
           clear hK K
           refine norm_ (a' := ?_) ?_ ?_
           rotate_left
           · show Act.put _ (some 24) _ = _
             simp only [Act.put, sI_, sZ_, sS_, i64_w, i32_w]
             rfl
           refine one_ (i := 8) (N := some 25) #[true, true, true, true, true, true, true, true, true, false, false, false] rfl rfl (one_of HT_.out (by kernel_rfl)) (by decide) (fun K hK => ?_)
           refine value_ (w1 := ?_) (v := ?_) (by rfl) rfl ?_ ?_
           rotate_left 2
           · go_simp
             constructor
             · rfl
             · rfl
           refine hK.out _ _ ⟨(blk_cell (blk_alloc BK241.out _) 0).trans rfl, (blk_cell (blk_alloc BK241.out _) 1).trans rfl, (blk_cell (blk_alloc BK233.out _) 0).trans rfl, (blk_cell (blk_alloc BK233.out _) 1).trans rfl, (World.cell?_alloc_lt _ _ _ (bL_ _ _ (((HB.out.cell (bL_ w _ hw242_0)).trans hw242_0)))).trans (((HB.out.cell (bL_ w _ hw242_0)).trans hw242_0)), (World.cell?_alloc_lt _ _ _ (bL_ _ _ (((HB.out.cell (bL_ w _ hw242_1)).trans hw242_1)))).trans (((HB.out.cell (bL_ w _ hw242_1)).trans hw242_1)), (World.cell?_alloc_lt _ _ _ (bL_ _ _ (((HB.out.cell (bL_ w _ hw242_2)).trans hw242_2)))).trans (((HB.out.cell (bL_ w _ hw242_2)).trans hw242_2)), (World.cell?_alloc_lt _ _ _ (bL_ _ _ (((HB.out.cell (bL_ w _ hw242_3)).trans hw242_3)))).trans (((HB.out.cell (bL_ w _ hw242_3)).trans hw242_3))⟩ (fun hHeld => ?_)
           clear hK K
           refine norm_ (a' := ?_) ?_ ?_
           rotate_left
           · show Act.put _ (some 25) _ = _
             simp only [Act.put, sI_, sZ_, sS_, i64_w, i32_w]
             rfl
           refine one_ (i := 9) (N := some 26) #[true, true, true, true, true, true, true, true, true, true, false, false] rfl rfl (one_of HT_.out (by kernel_rfl)) (by decide) (fun K hK => ?_)
           refine Kd.S_append_step k59 (w0 := w) w.heap.size (by rfl) (.tmp 18) (.tmp 25) 25 59 (.agg #[(.int .i64 0), (.slice none 0 0), (.bool false), (.slice none 0 0)]) 64 rfl Try.underlying25 info59 rfl (by decide) (by omega) u242000 x242000_1 (⟨t243, t244, t247, t248⟩ : S59) [.int .i64 t243, .slice Ao25 t244.length co25, .bool t247, .slice Ao26 t248.length co26] (fun _ => True) (fun k_ => some k_ = (.slice Ao25 t244.length co25 : Value).ownBlock ∨ some k_ = (.slice Ao26 t248.length co26 : Value).ownBlock) rfl rfl ?aP (fun k_ hk_ => hk_.elim (fun h_ => ((Kd.R_mono (ok' := fun k_ => ((fun _ => True)) k_ ∧ some k_ ≠ (u242000 : Value).ownBlock) (Kd.R_apart' (HO246.out) (Kd.S_typed HO_242000.out) (by decide)) (fun k_ hk => ⟨trivial, hk.2⟩))).1 k_ h_.symm) (fun h_ => ((Kd.R_mono (ok' := fun k_ => ((fun _ => True)) k_ ∧ some k_ ≠ (u242000 : Value).ownBlock) (Kd.R_apart' (HO250.out) (Kd.S_typed HO_242000.out) (by decide)) (fun k_ hk => ⟨trivial, hk.2⟩))).1 k_ h_.symm)) ?aF ?aO ?aB ?aS ?aL ?_
           (case aP => exact k59_mkM _ _ _ (⟨t243, t244, t247, t248⟩ : S59) (Kd.R_mono (Kd.R_tight rfl (Kd.R_mono (ok' := fun k_ => ((fun _ => True)) k_ ∧ some k_ ≠ (u242000 : Value).ownBlock) (Kd.R_apart' (HO246.out) (Kd.S_typed HO_242000.out) (by decide)) (fun k_ hk => ⟨trivial, hk.2⟩))) (fun _ h_ => Or.inl h_)) (Kd.R_mono (Kd.R_tight rfl (Kd.R_mono (ok' := fun k_ => ((fun _ => True)) k_ ∧ some k_ ≠ (u242000 : Value).ownBlock) (Kd.R_apart' (HO250.out) (Kd.S_typed HO_242000.out) (by decide)) (fun k_ hk => ⟨trivial, hk.2⟩))) (fun _ h_ => Or.inr (h_))))
           (case aB => exact (by repeat (first | (with_reducible first | exact HB.out | apply bA_ | apply dN_ | apply b1_ | refine below_set ?_ GE233.out | refine below_set ?_ GE234.out | refine below_set ?_ GE241.out) | exact HB.out)))
           (case aF => exact (fun _ _ => trivial))
           (case aO => exact (by (with_reducible repeat (first | apply Kd.S_alloc | apply Kd.S_drewN | apply Kd.S_drew)); exact Kd.S_mono HO_242000.out (fun k_ hk => ⟨trivial, fun e_ => e_.elim (fun h_ => hk.1.2 h_) (fun h_ => hk.2 h_)⟩)))
           (case aS => exact (below_size (by repeat (first | (with_reducible first | exact HB.out | apply bA_ | apply dN_ | apply b1_ | refine below_set ?_ GE233.out | refine below_set ?_ GE234.out | refine below_set ?_ GE241.out) | exact HB.out))))
           (case aL => have := LMc18.out; omega)
           intro v252 w24 ho hb hg hat
           rw [← Ny251.out] at ho
           have n0_ := m0_ (Kd.R_over' (by (with_reducible repeat (first | apply Kd.R_alloc | apply Kd.R_drewN | apply Kd.R_drew)); exact HO_242001.out) (Kd.S_typed (by (with_reducible repeat (first | apply Kd.S_alloc | apply Kd.S_drewN | apply Kd.S_drew)); exact HO_242000.out)) (by decide) hg)
           have n1_ := m0_ (blk_grown (g := gb233) (o := .cells #[.slice (some ad242) l0_0.length c0_0, .slice A0_1 l0_1.length c0_1] 33 (0, 0)) (by (with_reducible repeat (first | refine blk_drewN ?_ _ | refine blk_drew ?_ | refine blk_alloc ?_ _)); exact BK233.out) hg (Kd.S_ne HO_242000.out BK233.out (by decide)))
           have n2_ := m0_ (blk_grown (g := gb234) (o := .cells #[.slice none 0 0, .slice none 0 0] 33 (0, 0)) (by (with_reducible repeat (first | refine blk_drewN ?_ _ | refine blk_drew ?_ | refine blk_alloc ?_ _)); exact BK234.out) hg (Kd.S_ne HO_242000.out BK234.out (by decide)))
           have n3_ := m0_ (blk_grown (g := gb241) (o := .cells #[u242000, .slice Ao10 y238.length co10] 33 (0, 0)) (by (with_reducible repeat (first | refine blk_drewN ?_ _ | refine blk_drew ?_ | refine blk_alloc ?_ _)); exact BK241.out) hg (Kd.S_ne HO_242000.out BK241.out (by decide)))
           have n4_ := m0_ (hb)
           have n5_ := m0_ (ho)
           clear HO_242001
           clear BK233
           clear BK234
           clear BK241
           clear HB
           clear HO_242000
           clear HO246
           clear HO250
           have HO_242001 := n0_
           have BK233 := n1_
           have BK234 := n2_
           have BK241 := n3_
           have HB := n4_
           have HO253 := n5_
           clear n0_ n1_ n2_ n3_ n4_ n5_
           clear ho hb hg hat
           obtain ⟨Ao27, co27, eo27⟩ := Kd.S_slice HO253.out
           (first | subst eo27 | (injection eo27 with f1_ f2_ f3_; have f4_ := f1_.symm; have f5_ := f3_.symm; clear f1_ f2_ f3_; subst f4_; subst f5_))
           refine hK.out _ _ ⟨(blk_cell BK241.out 0).trans rfl, (blk_cell BK241.out 1).trans rfl, (blk_cell BK233.out 0).trans rfl, (blk_cell BK233.out 1).trans rfl, ((HB.out.cell (bL_ w _ hw242_0)).trans hw242_0), ((HB.out.cell (bL_ w _ hw242_1)).trans hw242_1), ((HB.out.cell (bL_ w _ hw242_2)).trans hw242_2), ((HB.out.cell (bL_ w _ hw242_3)).trans hw242_3)⟩ (fun hHeld => ?_)
           clear hK K
           refine norm_ (a' := ?_) ?_ ?_
           rotate_left
           · show Act.put _ (some 26) _ = _
             simp only [Act.put, sI_, sZ_, sS_, i64_w, i32_w]
             rfl
           refine pure_ (i := 10) (N := some 27) (v := ?_) (a' := ?_) #[true, true, true, true, true, true, true, true, true, true, true, false] rfl rfl (any_of HT_.out (by kernel_rfl)) (fun _ _ _ h => h) (Or.inl ⟨by rfl, ?_⟩) ?_ ?_
           rotate_left
           · intro w'
             go_simp
             with_reducible rfl
           rotate_left
           · simp only [Act.put, sI_, sZ_, sS_, i64_w, i32_w]
             rfl
           refine last_ (i := 11) (N := none) #[true, true, true, true, true, true, true, true, true, true, true, true] rfl rfl (one_of HT_.out (by kernel_rfl)) (by decide) (fun K hK => ?_)
           have hs28 : w24.cell? ⟨gb241, 0, none⟩ = some (u242000) := (blk_cell BK241.out 0).trans rfl
           have hfs28 := bf_ BK241.out 0
           have hns28_0 := NB233_241.out
           have hns28_1 := NB234_241.out
           have hms28_0 := NB241_233.out
           have hms28_1 := NB241_234.out
           refine skip_ (w1 := ?_) (by rfl) rfl ?_ ?_
           rotate_left
           · go_simp
             rfl
           refine hK.out _ _ ?_
           clear hK K
           refine done_ (done_of HT_.out (by kernel_rfl)) ?_
           try go_wp2
           go_roundg k1
           case measure => have := HK1.out; omega
           case rel => exact ⟨(wrap64 (x4_1 + 1)), (y251), (.slice Ao27 y251.length co27), (by first | rfl | (simp; done) | (simp [*]; done)), H', ⟨by have := HK1.out; omega⟩, ⟨by (with_reducible repeat (first | apply Kd.S_alloc | apply Kd.S_drewN | apply Kd.S_drew)); exact Kd.S_mono (Kd.S_far (p := ⟨gb241, 0, none⟩) (Kd.S_types HO253.out BK241.out (by decide)) (fun _ hk => hk.2) (.slice Ao27 y251.length co27)) (fun _ hk => trivial)⟩, ⟨by (with_reducible repeat (first | apply Kd.R_alloc | apply Kd.R_drewN | apply Kd.R_drew)); exact Kd.R_mono (Kd.R_far (p := ⟨gb241, 0, none⟩) (Kd.R_types HO_242001.out BK241.out (by decide)) (fun _ hk => hk.2) (.slice Ao27 y251.length co27)) (fun _ hk => trivial)⟩, ⟨by (with_reducible repeat (first | refine blk_drewN ?_ _ | refine blk_drew ?_ | refine blk_alloc ?_ _)); refine blk_far ?_ NB233_241.out _; (with_reducible repeat (first | refine blk_drewN ?_ _ | refine blk_drew ?_ | refine blk_alloc ?_ _)); exact BK233.out⟩, ⟨by (with_reducible repeat (first | refine blk_drewN ?_ _ | refine blk_drew ?_ | refine blk_alloc ?_ _)); refine blk_far ?_ NB234_241.out _; (with_reducible repeat (first | refine blk_drewN ?_ _ | refine blk_drew ?_ | refine blk_alloc ?_ _)); exact BK234.out⟩, ⟨by (with_reducible repeat (first | refine blk_drewN ?_ _ | refine blk_drew ?_ | refine blk_alloc ?_ _)); refine blk_put (cs := #[u242000, .slice Ao10 y238.length co10]) ?_ 0 _ rfl; (with_reducible repeat (first | refine blk_drewN ?_ _ | refine blk_drew ?_ | refine blk_alloc ?_ _)); exact BK241.out⟩, ⟨by repeat (first | (with_reducible first | exact HB.out | apply bA_ | apply dN_ | apply b1_ | refine below_set ?_ GE233.out | refine below_set ?_ GE234.out | refine below_set ?_ GE241.out) | exact HB.out)⟩⟩
         · rw [if_neg c18] at H
           exact absurd H (by simp)
       · rw [if_neg c16] at H
         exact absurd H (by simp)
     · rw [if_neg c15] at H
       have c15b0 : decide (x4_1 < (l0_0.length : Int)) = false := decide_eq_false c15
       clear c15
       simp only [Option.some.injEq, Prod.mk.injEq] at H
       obtain ⟨rfl, rfl⟩ := H
       have hnb29 := NB233_234.out
       have hnc29 := NB234_233.out
       have hnb30 := NB233_241.out
       have hnc30 := NB241_233.out
       have hcz31_0 : wr.cell? ⟨gb233, 0, none⟩ = some (.slice A0_0 l0_0.length c0_0) := (blk_cell BK233.out 0).trans rfl
       have hcz31_1 : wr.cell? ⟨gb233, 1, none⟩ = some (.slice A0_1 l0_1.length c0_1) := (blk_cell BK233.out 1).trans rfl
       have hfz31_0 := bf_ BK233.out 0
       have hfz31_1 := bf_ BK233.out 1
       have hnb32 := NB241_234.out
       have hnc32 := NB234_241.out
       have hcz33_0 : wr.cell? ⟨gb241, 0, none⟩ = some (u242000) := (blk_cell BK241.out 0).trans rfl
       have hcz33_1 : wr.cell? ⟨gb241, 1, none⟩ = some (.slice Ao10 y238.length co10) := (blk_cell BK241.out 1).trans rfl
       have hfz33_0 := bf_ BK241.out 0
       have hfz33_1 := bf_ BK241.out 1
       obtain ⟨Ao34, co34, eo34⟩ := Kd.S_slice HO_242000.out
       subst eo34
       have hcz35_0 : wr.cell? ⟨gb234, 0, none⟩ = some (.slice none 0 0) := (blk_cell BK234.out 0).trans rfl
       have hcz35_1 : wr.cell? ⟨gb234, 1, none⟩ = some (.slice none 0 0) := (blk_cell BK234.out 1).trans rfl
       have hfz35_0 := bf_ BK234.out 0
       have hfz35_1 := bf_ BK234.out 1
       go_wp2
       refine bodyPost_ret (results_cell_row rfl _ _ gb234 33 #[.slice Ao34 x242000_1.length co34, .slice Ao10 y238.length co10] (0, 0) _ rfl (by (with_reducible repeat (first | refine blk_drewN ?_ _ | refine blk_drew ?_ | refine blk_alloc ?_ _)); refine blk_put (cs := #[.slice Ao34 x242000_1.length co34, .slice none 0 0]) ?_ 1 _ rfl; (with_reducible repeat (first | refine blk_drewN ?_ _ | refine blk_drew ?_ | refine blk_alloc ?_ _)); refine blk_put (cs := #[.slice none 0 0, .slice none 0 0]) ?_ 0 _ rfl; (with_reducible repeat (first | refine blk_drewN ?_ _ | refine blk_drew ?_ | refine blk_alloc ?_ _)); exact BK234.out) Try.underlying33 rfl (by kernel_rfl)) rfl ?_
       exact ⟨_, _, by first | rfl | (simp [errW_none, errW_some] <;> rfl) | (simp [*, errW_none, errW_some] <;> rfl), by (with_reducible repeat (first | apply Kd.S_alloc | apply Kd.S_drewN | apply Kd.S_drew)); exact Kd.S_mono (Kd.S_far (p := ⟨gb234, 1, none⟩) (Kd.S_far (p := ⟨gb234, 0, none⟩) (Kd.S_types HO_242000.out BK234.out (by decide)) (fun _ hk => hk.2) (.slice Ao34 x242000_1.length co34)) (fun _ hk => hk.2) (.slice Ao10 y238.length co10)) (fun _ hk => trivial), by (with_reducible repeat (first | apply Kd.R_alloc | apply Kd.R_drewN | apply Kd.R_drew)); exact Kd.R_mono (Kd.R_far (p := ⟨gb234, 1, none⟩) (Kd.R_far (p := ⟨gb234, 0, none⟩) (Kd.R_types HO_242001.out BK234.out (by decide)) (fun _ hk => hk.2) (.slice Ao34 x242000_1.length co34)) (fun _ hk => hk.2) (.slice Ao10 y238.length co10)) (fun _ hk => trivial), by repeat (first | (with_reducible first | exact HB.out | apply bA_ | apply dN_ | apply b1_ | refine below_set ?_ GE233.out | refine below_set ?_ GE234.out | refine below_set ?_ GE241.out) | exact HB.out)⟩
 · rw [if_neg c2] at H
   exact absurd H (by simp)
def banksmanref13_Copy.f (k : Nat) (a0_0 : Int) (a0_1 : Int) (a0_2 : Bool) (l0_3 : List (S57)) (l0_4 : List (S59)) (a0_5 : Bool) : Option (Int × Int × Bool × (List (S57)) × (List (S59)) × Bool) := (banksmanref10_Copy.f k l0_3).bind fun t256 => ((banksmanref08_Copy.f k l0_4 ([] : List Int)).bind fun bt260 => (some (a0_0, a0_1, a0_2, t256, bt260.1, a0_5)))
def banksmanref13_Copy.T1 : Bool × List (List Nat × List Nat) := (true, [([], []), ([0], [0]), ([], []), ([2], [2]), ([], []), ([4], [4]), ([], []), ([6], [6]), ([7], [7]), ([], []), ([9], [9]), ([1, 3, 5, 8, 10], [1, 3, 5, 8, 10]), ([], []), ([12, 11, 8, 0, 1, 2, 3, 4, 5, 6, 7, 8, 9, 10, 11, 12], [11, 12])])
def banksmanref13_Copy.B1 : List Nat := [0, 1, 0, 4, 0, 16, 0, 64, 192, 0, 512, 2047, 0, 8191]
theorem banksmanref13_Copy.tab1 : rtab .any (opsOf Try.f53 1) = banksmanref13_Copy.T1 := by kernel_rfl
theorem banksmanref13_Copy.bits1 : waitsOk banksmanref13_Copy.T1.2 banksmanref13_Copy.B1 = true := by kernel_rfl
set_option maxHeartbeats 8000000 in
set_option maxRecDepth 100000 in
theorem banksmanref13_Copy.calls (k : Nat) (a0_0 : Int) (a0_1 : Int) (a0_2 : Bool) (A0_3 : Option Addr) (c0_3 : Nat) (l0_3 : List (S57)) (A0_4 : Option Addr) (c0_4 : Nat) (l0_4 : List (S59)) (a0_5 : Bool) (r1 : Int) (r2 : Int) (r3 : Bool) (r4 : List (S57)) (r5 : List (S59)) (r6 : Bool) (w : World) (hr0_3 : Kd.C k57 w A0_3 l0_3.length l0_3) (hc0_3 : l0_3.length ≤ c0_3) (hr0_4 : Kd.C k59 w A0_4 l0_4.length l0_4) (hc0_4 : l0_4.length ≤ c0_4) (h : banksmanref13_Copy.f k a0_0 a0_1 a0_2 l0_3 l0_4 a0_5 = some (r1, r2, r3, r4, r5, r6)) :
   Calls Try.prog 53 #[.agg #[.int .i64 a0_0, .int .i64 a0_1, .bool a0_2, .slice A0_3 l0_3.length c0_3, .slice A0_4 l0_4.length c0_4, .bool a0_5]] w fun e w' => ∃ v3_ v4_ : Value, e = .returned (.agg #[.int .i64 r1, .int .i64 r2, .bool r3, v3_, v4_, .bool r6]) ∧ Kd.S k57 57 w' w.heap.size (fun _ => True) v3_ r4 ∧ Kd.S k59 59 w' w.heap.size (fun _ => True) v4_ r5 ∧ Below w.heap.size w w' := by
 have hfd_ : ∀ (A : Option Addr) (n c : Nat) (B : Option Addr) (m d : Nat) (w : World), (Instr.field 33 (.agg #[.slice A n c, .slice B m d]) 0).run Try.prog w = .ok (.slice A n c) w := fun _ _ _ _ _ _ _ => by kernel_rfl
 have hu33_ := Try.underlying33
 have hu50 := Try.underlying50
 have hu33 := Try.underlying33
 have HR0_3 := m0_ hr0_3
 have HC0_3 := m0_ hc0_3
 clear hr0_3 hc0_3
 have HR0_4 := m0_ hr0_4
 have HC0_4 := m0_ hc0_4
 clear hr0_4 hc0_4
 have HB := m0_ (Below.refl w.heap.size w)
 have H : ((banksmanref10_Copy.f k l0_3).bind fun t256 => ((banksmanref08_Copy.f k l0_4 ([] : List Int)).bind fun bt260 => (some (a0_0, a0_1, a0_2, t256, bt260.1, a0_5)))) = some (r1, r2, r3, r4, r5, r6) := h
 clear h
 replace H := Option.bind_eq_some_iff.mp H
 obtain ⟨t256, A20, H⟩ := H
 replace H : ((banksmanref08_Copy.f k l0_4 ([] : List Int)).bind fun bt260 => (some (a0_0, a0_1, a0_2, t256, bt260.1, a0_5))) = some (r1, r2, r3, r4, r5, r6) := H
 have A2 := m0_ A20
 clear A20
 replace H := Option.bind_eq_some_iff.mp H
 obtain ⟨⟨t260, t263⟩, A30, H⟩ := H
 replace H : (some (a0_0, a0_1, a0_2, t256, t260, a0_5)) = some (r1, r2, r3, r4, r5, r6) := H
 have A3 := m0_ A30
 clear A30
 simp only [Option.some.injEq, Prod.mk.injEq] at H
 obtain ⟨rfl, rfl, rfl, rfl, rfl, rfl⟩ := H
 go_enter Try.func53, Try.ntmps53
 try go_wp2_with (first | ((with_reducible refine gate_dst (N := 1) rfl ?_); refine box_event ?hg (N := 1) ?hd (cs := #[.int .i64 a0_0, .int .i64 a0_1, .bool a0_2, .slice A0_3 l0_3.length c0_3, .slice A0_4 l0_4.length c0_4, .bool a0_5]) (t := 50) ?hr ?_; (case hd => rfl); (case hg => rfl); (case hr => first | (go_simp; done) | (go_simp; rfl)); intro gb254 hg w4 hbox hb; have n0_ := m0_ (below_step (by repeat (first | (with_reducible first | exact HB.out | apply bA_ | apply dN_ | apply b1_) | exact HB.out)) hb); have n1_ := m0_ (hbox); have n2_ := m0_ ((by rw [hg]; exact (below_size (by repeat (first | (with_reducible first | exact HB.out | apply bA_ | apply dN_ | apply b1_) | exact HB.out))) : w.heap.size ≤ gb254)); have n3_ := m0_ ((by rw [hg]; exact (below_size (by repeat (first | (with_reducible first | exact HB.out | apply bA_ | apply dN_ | apply b1_) | exact HB.out))) : w.heap.size ≤ gb254)); clear HB; have HB := n0_; have BK254 := n1_; have GW254 := n2_; have GE254 := n3_; clear n0_ n1_ n2_ n3_; clear hb hbox hg) | ((with_reducible refine gate_dst (N := 2) rfl ?_); refine box_event ?hg (N := 2) ?hd (cs := #[.int .i64 0, .int .i64 0, .bool false, .slice none 0 0, .slice none 0 0, .bool false]) (t := 50) ?hr ?_; (case hd => rfl); (case hg => rfl); (case hr => first | (go_simp; done) | (go_simp; rfl)); intro gb255 hg w5 hbox hb; have n0_ := m0_ (blk_below (g := gb254) (o := .cells #[.int .i64 a0_0, .int .i64 a0_1, .bool a0_2, .slice A0_3 l0_3.length c0_3, .slice A0_4 l0_4.length c0_4, .bool a0_5] 50 (0, 0)) (by (with_reducible repeat (first | refine blk_drewN ?_ _ | refine blk_drew ?_ | refine blk_alloc ?_ _)); exact BK254.out) hb); have n1_ := m0_ (below_step (by repeat (first | (with_reducible first | exact HB.out | apply bA_ | apply dN_ | apply b1_ | refine below_set ?_ GE254.out) | exact HB.out)) hb); have n2_ := m0_ (hbox); have n3_ := m0_ ((by rw [hg]; exact (below_size (by repeat (first | (with_reducible first | exact HB.out | apply bA_ | apply dN_ | apply b1_ | refine below_set ?_ GE254.out) | exact HB.out))) : w.heap.size ≤ gb255)); have n4_ := m0_ ((by rw [hg]; exact (below_size (by repeat (first | (with_reducible first | exact HB.out | apply bA_ | apply dN_ | apply b1_ | refine below_set ?_ GE254.out) | exact HB.out))) : w.heap.size ≤ gb255)); have n5_ := m0_ ((by rw [hg]; exact Nat.ne_of_lt (blk_lt (g := gb254) (o := .cells #[.int .i64 a0_0, .int .i64 a0_1, .bool a0_2, .slice A0_3 l0_3.length c0_3, .slice A0_4 l0_4.length c0_4, .bool a0_5] 50 (0, 0)) (by (with_reducible repeat (first | refine blk_drewN ?_ _ | refine blk_drew ?_ | refine blk_alloc ?_ _)); exact BK254.out)) : gb254 ≠ gb255)); have n6_ := m0_ ((by rw [hg]; exact Nat.ne_of_gt (blk_lt (g := gb254) (o := .cells #[.int .i64 a0_0, .int .i64 a0_1, .bool a0_2, .slice A0_3 l0_3.length c0_3, .slice A0_4 l0_4.length c0_4, .bool a0_5] 50 (0, 0)) (by (with_reducible repeat (first | refine blk_drewN ?_ _ | refine blk_drew ?_ | refine blk_alloc ?_ _)); exact BK254.out)) : gb255 ≠ gb254)); clear BK254; clear HB; have BK254 := n0_; have HB := n1_; have BK255 := n2_; have GW255 := n3_; have GE255 := n4_; have NB254_255 := n5_; have NB255_254 := n6_; clear n0_ n1_ n2_ n3_ n4_ n5_ n6_; clear hb hbox hg))
 have n0_ := m0_ (blk_drew BK254.out)
 have n1_ := m0_ (blk_drew BK255.out)
 have n2_ := m0_ (b1_ HB.out)
 clear BK254
 clear BK255
 clear HB
 have BK254 := n0_
 have BK255 := n1_
 have HB := n2_
 clear n0_ n1_ n2_
 refine start_ (n := 14) (S := fun w' => w'.cell? ⟨gb254, 0, none⟩ = some (.int .i64 a0_0) ∧ w'.cell? ⟨gb254, 1, none⟩ = some (.int .i64 a0_1) ∧ w'.cell? ⟨gb254, 2, none⟩ = some (.bool a0_2) ∧ w'.cell? ⟨gb254, 3, none⟩ = some (.slice A0_3 l0_3.length c0_3) ∧ w'.cell? ⟨gb254, 4, none⟩ = some (.slice A0_4 l0_4.length c0_4) ∧ w'.cell? ⟨gb254, 5, none⟩ = some (.bool a0_5)) (ds := []) #[false, false, false, false, false, false, false, false, false, false, false, false, false, false] (by kernel_rfl) rfl rfl ⟨(blk_cell BK254.out 0).trans rfl, (blk_cell BK254.out 1).trans rfl, (blk_cell BK254.out 2).trans rfl, (blk_cell BK254.out 3).trans rfl, (blk_cell BK254.out 4).trans rfl, (blk_cell BK254.out 5).trans rfl⟩ (fun hHeld => ?_); refine with_tabW banksmanref13_Copy.tab1 banksmanref13_Copy.bits1 (fun HT_ HW_ => ?_)
 generalize w5.drew = w6 at BK254 BK255 HB hHeld ⊢
 refine pure_ (i := 0) (N := some 4) (v := ?_) (a' := ?_) #[true, false, false, false, false, false, false, false, false, false, false, false, false, false] rfl rfl (any_of HT_.out (by kernel_rfl)) (fun _ _ _ h => h) (Or.inl ⟨by rfl, ?_⟩) ?_ ?_
 rotate_left
 · intro w'
   go_simp
   with_reducible rfl
 rotate_left
 · simp only [Act.put, sI_, sZ_, sS_, i64_w, i32_w]
   rfl
 refine pure_ (i := 2) (N := some 6) (v := ?_) (a' := ?_) #[true, false, true, false, false, false, false, false, false, false, false, false, false, false] rfl rfl (any_of HT_.out (by kernel_rfl)) (fun _ _ _ h => h) (Or.inl ⟨by rfl, ?_⟩) ?_ ?_
 rotate_left
 · intro w'
   go_simp
   with_reducible rfl
 rotate_left
 · simp only [Act.put, sI_, sZ_, sS_, i64_w, i32_w]
   rfl
 refine pure_ (i := 4) (N := some 8) (v := ?_) (a' := ?_) #[true, false, true, false, true, false, false, false, false, false, false, false, false, false] rfl rfl (any_of HT_.out (by kernel_rfl)) (fun _ _ _ h => h) (Or.inl ⟨by rfl, ?_⟩) ?_ ?_
 rotate_left
 · intro w'
   go_simp
   with_reducible rfl
 rotate_left
 · simp only [Act.put, sI_, sZ_, sS_, i64_w, i32_w]
   rfl
 refine pure_ (i := 6) (N := some 10) (v := ?_) (a' := ?_) #[true, false, true, false, true, false, true, false, false, false, false, false, false, false] rfl rfl (any_of HT_.out (by kernel_rfl)) (fun _ _ _ h => h) (Or.inl ⟨by rfl, ?_⟩) ?_ ?_
 rotate_left
 · intro w'
   go_simp
   with_reducible rfl
 rotate_left
 · simp only [Act.put, sI_, sZ_, sS_, i64_w, i32_w]
   rfl
 refine pure_ (i := 9) (N := some 13) (v := ?_) (a' := ?_) #[true, false, true, false, true, false, true, false, false, true, false, false, false, false] rfl rfl (any_of HT_.out (by kernel_rfl)) (fun _ _ _ h => h) (Or.inl ⟨by rfl, ?_⟩) ?_ ?_
 rotate_left
 · intro w'
   go_simp
   with_reducible rfl
 rotate_left
 · simp only [Act.put, sI_, sZ_, sS_, i64_w, i32_w]
   rfl
 refine take_ (i := 1) (N := some 5) (v := ?_) (a' := ?_) #[true, true, true, false, true, false, true, false, false, true, false, false, false, false] rfl rfl (take_ofW HT_.out HW_.out (by kernel_rfl)) (fun _ _ _ h => h) (Or.inl ⟨by rfl, ?_⟩) hHeld ?_ ?_
 rotate_left
 · rintro w' ⟨s0, s1, s2, s3, s4, s5⟩
   go_simp
   with_reducible rfl
 rotate_left
 · simp only [Act.put, sI_, sZ_, sS_, i64_w, i32_w]
   rfl
 refine take_ (i := 3) (N := some 7) (v := ?_) (a' := ?_) #[true, true, true, true, true, false, true, false, false, true, false, false, false, false] rfl rfl (take_ofW HT_.out HW_.out (by kernel_rfl)) (fun _ _ _ h => h) (Or.inl ⟨by rfl, ?_⟩) hHeld ?_ ?_
 rotate_left
 · rintro w' ⟨s0, s1, s2, s3, s4, s5⟩
   go_simp
   with_reducible rfl
 rotate_left
 · simp only [Act.put, sI_, sZ_, sS_, i64_w, i32_w]
   rfl
 refine take_ (i := 5) (N := some 9) (v := ?_) (a' := ?_) #[true, true, true, true, true, true, true, false, false, true, false, false, false, false] rfl rfl (take_ofW HT_.out HW_.out (by kernel_rfl)) (fun _ _ _ h => h) (Or.inl ⟨by rfl, ?_⟩) hHeld ?_ ?_
 rotate_left
 · rintro w' ⟨s0, s1, s2, s3, s4, s5⟩
   go_simp
   with_reducible rfl
 rotate_left
 · simp only [Act.put, sI_, sZ_, sS_, i64_w, i32_w]
   rfl
 refine take_ (i := 7) (N := some 11) (v := ?_) (a' := ?_) #[true, true, true, true, true, true, true, true, false, true, false, false, false, false] rfl rfl (take_ofW HT_.out HW_.out (by kernel_rfl)) (fun _ _ _ h => h) (Or.inl ⟨by rfl, ?_⟩) hHeld ?_ ?_
 rotate_left
 · rintro w' ⟨s0, s1, s2, s3, s4, s5⟩
   go_simp
   with_reducible rfl
 rotate_left
 · simp only [Act.put, sI_, sZ_, sS_, i64_w, i32_w]
   rfl
 refine take_ (i := 10) (N := some 14) (v := ?_) (a' := ?_) #[true, true, true, true, true, true, true, true, false, true, true, false, false, false] rfl rfl (take_ofW HT_.out HW_.out (by kernel_rfl)) (fun _ _ _ h => h) (Or.inl ⟨by rfl, ?_⟩) hHeld ?_ ?_
 rotate_left
 · rintro w' ⟨s0, s1, s2, s3, s4, s5⟩
   go_simp
   with_reducible rfl
 rotate_left
 · simp only [Act.put, sI_, sZ_, sS_, i64_w, i32_w]
   rfl
 refine join_ (σ := Value × Nat) 1 #[true, true, true, true, true, true, true, true, true, true, true, true, true, false] (fun s_ => [(12, s_.1), (3, .pointer (some ⟨s_.2, 0, none⟩)), (15, .agg #[.int .i64 a0_0, .int .i64 a0_1, .bool a0_2, s_.1, .slice none 0 0, .bool a0_5])]) (fun s_ w' => (w'.cell? ⟨gb254, 0, none⟩ = some (.int .i64 a0_0) ∧ w'.cell? ⟨gb254, 1, none⟩ = some (.int .i64 a0_1) ∧ w'.cell? ⟨gb254, 2, none⟩ = some (.bool a0_2) ∧ w'.cell? ⟨gb254, 3, none⟩ = some (.slice A0_3 l0_3.length c0_3) ∧ w'.cell? ⟨gb254, 4, none⟩ = some (.slice A0_4 l0_4.length c0_4) ∧ w'.cell? ⟨gb254, 5, none⟩ = some (.bool a0_5)) ∧ (Kd.S k57 57 w' w.heap.size (fun _ => True) s_.1 t256) ∧ (w'.heap[gb254]? = some (.cells #[.int .i64 a0_0, .int .i64 a0_1, .bool a0_2, .slice A0_3 l0_3.length c0_3, .slice A0_4 l0_4.length c0_4, .bool a0_5] 50 (0, 0))) ∧ (w'.heap[gb255]? = some (.cells #[.int .i64 0, .int .i64 0, .bool false, .slice none 0 0, .slice none 0 0, .bool false] 50 (0, 0))) ∧ (w'.heap[s_.2]? = some (.cells #[.int .i64 0, .int .i64 0, .bool false, .slice none 0 0, .slice none 0 0, .bool false] 50 (0, 0))) ∧ (w.heap.size ≤ s_.2) ∧ (w.heap.size ≤ s_.2) ∧ (gb254 ≠ s_.2) ∧ (s_.2 ≠ gb254) ∧ (gb255 ≠ s_.2) ∧ (s_.2 ≠ gb255) ∧ (Below w.heap.size w w')) ?_ ?_
 rotate_left
 · intro hCont
   refine two_ (i := 8) (j := 12) (Ni := some 12) (Nj := some 3) #[true, true, true, true, true, true, true, true, true, true, true, false, false, false] #[true, true, true, true, true, true, true, true, false, true, true, false, true, false] rfl rfl rfl rfl (two_of HT_.out (by kernel_rfl)) (by decide) (by decide) (fun K hK => ?_) (fun K hK => ?_)
   · skip
     refine goes_ Try.func60 (by kernel_rfl) rfl #[.slice A0_3 l0_3.length c0_3] (by rfl) rfl rfl (by (try simp only [mT_, mC_, mN_]); first | done | rfl | (simp only [lD_, lT_]; rfl)) ?_
     with_reducible refine (banksmanref10_Copy.calls k _ _ l0_3 t256 _ ?side1 ?side2 A2.out).mono ?_
     (case side1 => repeat (first | exact (kB_ HR0_3.out HB.out) | (with_reducible first | refine kA_ ?_ _ | refine kN_ ?_ _ | refine kD_ ?_)))
     (case side2 => exact HC0_3.out)
     rintro e w7 ⟨v257, rfl, ho0, hb⟩
     refine ⟨_, rfl, ?_⟩
     have n0_ := m0_ (Kd.S_lower ho0 (below_size (by repeat (first | (with_reducible first | exact HB.out | apply bA_ | apply dN_ | apply b1_ | refine below_set ?_ GE254.out | refine below_set ?_ GE255.out) | exact HB.out))))
     have n1_ := m0_ (blk_below (g := gb254) (o := .cells #[.int .i64 a0_0, .int .i64 a0_1, .bool a0_2, .slice A0_3 l0_3.length c0_3, .slice A0_4 l0_4.length c0_4, .bool a0_5] 50 (0, 0)) (by (with_reducible repeat (first | refine blk_drewN ?_ _ | refine blk_drew ?_ | refine blk_alloc ?_ _)); exact BK254.out) hb)
     have n2_ := m0_ (blk_below (g := gb255) (o := .cells #[.int .i64 0, .int .i64 0, .bool false, .slice none 0 0, .slice none 0 0, .bool false] 50 (0, 0)) (by (with_reducible repeat (first | refine blk_drewN ?_ _ | refine blk_drew ?_ | refine blk_alloc ?_ _)); exact BK255.out) hb)
     have n3_ := m0_ (below_step (by repeat (first | (with_reducible first | exact HB.out | apply bA_ | apply dN_ | apply b1_ | refine below_set ?_ GE254.out | refine below_set ?_ GE255.out) | exact HB.out)) hb)
     clear BK254
     clear BK255
     clear HB
     have HO258 := n0_
     have BK254 := n1_
     have BK255 := n2_
     have HB := n3_
     clear n0_ n1_ n2_ n3_
     (try clear hb)
     (try clear hb2)
     (try clear hk)
     (try clear hi)
     (try clear ho0)
     obtain ⟨Ao8, co8, eo8⟩ := Kd.S_slice HO258.out
     (first | subst eo8 | (injection eo8 with f1_ f2_ f3_; have f4_ := f1_.symm; have f5_ := f3_.symm; clear f1_ f2_ f3_; subst f4_; subst f5_))
     refine hK.out _ _ ⟨(blk_cell BK254.out 0).trans rfl, (blk_cell BK254.out 1).trans rfl, (blk_cell BK254.out 2).trans rfl, (blk_cell BK254.out 3).trans rfl, (blk_cell BK254.out 4).trans rfl, (blk_cell BK254.out 5).trans rfl⟩ (fun hHeld => ?_)
     clear hK K
     refine norm_ (a' := ?_) ?_ ?_
     rotate_left
     · show Act.put _ (some 12) _ = _
       simp only [Act.put, sI_, sZ_, sS_, i64_w, i32_w]
       rfl
     refine pure_ (i := 11) (N := some 15) (v := ?_) (a' := ?_) #[true, true, true, true, true, true, true, true, true, true, true, true, false, false] rfl rfl (any_of HT_.out (by kernel_rfl)) (fun _ _ _ h => h) (Or.inl ⟨by rfl, ?_⟩) ?_ ?_
     rotate_left
     · intro w'
       go_simp
       with_reducible rfl
     rotate_left
     · simp only [Act.put, sI_, sZ_, sS_, i64_w, i32_w]
       rfl
     refine one_ (i := 12) (N := some 3) #[true, true, true, true, true, true, true, true, true, true, true, true, true, false] rfl rfl (one_of HT_.out (by kernel_rfl)) (by decide) (fun K hK => ?_)
     refine box_step ?hg (N := 3) ?hd (cs := #[.int .i64 0, .int .i64 0, .bool false, .slice none 0 0, .slice none 0 0, .bool false]) (t := 50) ?hr ?_; (case hd => rfl); (case hg => rfl); (case hr => first | (go_simp; done) | (go_simp; rfl))
     intro gb259 hg w9 hbox hb
     have n0_ := m0_ (Kd.S_below (by (with_reducible repeat (first | apply Kd.S_alloc | apply Kd.S_drewN | apply Kd.S_drew)); exact HO258.out) hb)
     have n1_ := m0_ (blk_below (g := gb254) (o := .cells #[.int .i64 a0_0, .int .i64 a0_1, .bool a0_2, .slice A0_3 l0_3.length c0_3, .slice A0_4 l0_4.length c0_4, .bool a0_5] 50 (0, 0)) (by (with_reducible repeat (first | refine blk_drewN ?_ _ | refine blk_drew ?_ | refine blk_alloc ?_ _)); exact BK254.out) hb)
     have n2_ := m0_ (blk_below (g := gb255) (o := .cells #[.int .i64 0, .int .i64 0, .bool false, .slice none 0 0, .slice none 0 0, .bool false] 50 (0, 0)) (by (with_reducible repeat (first | refine blk_drewN ?_ _ | refine blk_drew ?_ | refine blk_alloc ?_ _)); exact BK255.out) hb)
     have n3_ := m0_ (below_step (by repeat (first | (with_reducible first | exact HB.out | apply bA_ | apply dN_ | apply b1_ | refine below_set ?_ GE254.out | refine below_set ?_ GE255.out) | exact HB.out)) hb)
     have n4_ := m0_ (hbox)
     have n5_ := m0_ ((by rw [hg]; exact (below_size (by repeat (first | (with_reducible first | exact HB.out | apply bA_ | apply dN_ | apply b1_ | refine below_set ?_ GE254.out | refine below_set ?_ GE255.out) | exact HB.out))) : w.heap.size ≤ gb259))
     have n6_ := m0_ ((by rw [hg]; exact (below_size (by repeat (first | (with_reducible first | exact HB.out | apply bA_ | apply dN_ | apply b1_ | refine below_set ?_ GE254.out | refine below_set ?_ GE255.out) | exact HB.out))) : w.heap.size ≤ gb259))
     have n7_ := m0_ ((by rw [hg]; exact Nat.ne_of_lt (blk_lt (g := gb254) (o := .cells #[.int .i64 a0_0, .int .i64 a0_1, .bool a0_2, .slice A0_3 l0_3.length c0_3, .slice A0_4 l0_4.length c0_4, .bool a0_5] 50 (0, 0)) (by (with_reducible repeat (first | refine blk_drewN ?_ _ | refine blk_drew ?_ | refine blk_alloc ?_ _)); exact BK254.out)) : gb254 ≠ gb259))
     have n8_ := m0_ ((by rw [hg]; exact Nat.ne_of_gt (blk_lt (g := gb254) (o := .cells #[.int .i64 a0_0, .int .i64 a0_1, .bool a0_2, .slice A0_3 l0_3.length c0_3, .slice A0_4 l0_4.length c0_4, .bool a0_5] 50 (0, 0)) (by (with_reducible repeat (first | refine blk_drewN ?_ _ | refine blk_drew ?_ | refine blk_alloc ?_ _)); exact BK254.out)) : gb259 ≠ gb254))
     have n9_ := m0_ ((by rw [hg]; exact Nat.ne_of_lt (blk_lt (g := gb255) (o := .cells #[.int .i64 0, .int .i64 0, .bool false, .slice none 0 0, .slice none 0 0, .bool false] 50 (0, 0)) (by (with_reducible repeat (first | refine blk_drewN ?_ _ | refine blk_drew ?_ | refine blk_alloc ?_ _)); exact BK255.out)) : gb255 ≠ gb259))
     have n10_ := m0_ ((by rw [hg]; exact Nat.ne_of_gt (blk_lt (g := gb255) (o := .cells #[.int .i64 0, .int .i64 0, .bool false, .slice none 0 0, .slice none 0 0, .bool false] 50 (0, 0)) (by (with_reducible repeat (first | refine blk_drewN ?_ _ | refine blk_drew ?_ | refine blk_alloc ?_ _)); exact BK255.out)) : gb259 ≠ gb255))
     clear HO258
     clear BK254
     clear BK255
     clear HB
     have HO258 := n0_
     have BK254 := n1_
     have BK255 := n2_
     have HB := n3_
     have BK259 := n4_
     have GW259 := n5_
     have GE259 := n6_
     have NB254_259 := n7_
     have NB259_254 := n8_
     have NB255_259 := n9_
     have NB259_255 := n10_
     clear n0_ n1_ n2_ n3_ n4_ n5_ n6_ n7_ n8_ n9_ n10_
     clear hb hbox hg
     refine hK.out _ _ ⟨(blk_cell BK254.out 0).trans rfl, (blk_cell BK254.out 1).trans rfl, (blk_cell BK254.out 2).trans rfl, (blk_cell BK254.out 3).trans rfl, (blk_cell BK254.out 4).trans rfl, (blk_cell BK254.out 5).trans rfl⟩ (fun hHeld => ?_)
     clear hK K
     refine norm_ (a' := ?_) ?_ ?_
     rotate_left
     · show Act.put _ (some 3) _ = _
       simp only [Act.put, sI_, sZ_, sS_, i64_w, i32_w]
       rfl
     exact norm_ (by simp only [putAll, Act.put, sI_, sZ_, sS_]) (hCont (.slice Ao8 t256.length co8, gb259) _ ⟨hHeld, (by (with_reducible repeat (first | apply Kd.S_alloc | apply Kd.S_drewN | apply Kd.S_drew)); exact HO258.out), (by (with_reducible repeat (first | refine blk_drewN ?_ _ | refine blk_drew ?_ | refine blk_alloc ?_ _)); exact BK254.out), (by (with_reducible repeat (first | refine blk_drewN ?_ _ | refine blk_drew ?_ | refine blk_alloc ?_ _)); exact BK255.out), (by (with_reducible repeat (first | refine blk_drewN ?_ _ | refine blk_drew ?_ | refine blk_alloc ?_ _)); exact BK259.out), GW259.out, GE259.out, NB254_259.out, NB259_254.out, NB255_259.out, NB259_255.out, (by repeat (first | (with_reducible first | exact HB.out | apply bA_ | apply dN_ | apply b1_ | refine below_set ?_ GE254.out | refine below_set ?_ GE255.out | refine below_set ?_ GE259.out) | exact HB.out))⟩)
   · skip
     refine box_step ?hg (N := 3) ?hd (cs := #[.int .i64 0, .int .i64 0, .bool false, .slice none 0 0, .slice none 0 0, .bool false]) (t := 50) ?hr ?_; (case hd => rfl); (case hg => rfl); (case hr => first | (go_simp; done) | (go_simp; rfl))
     intro gb259 hg w7 hbox hb
     have n0_ := m0_ (blk_below (g := gb254) (o := .cells #[.int .i64 a0_0, .int .i64 a0_1, .bool a0_2, .slice A0_3 l0_3.length c0_3, .slice A0_4 l0_4.length c0_4, .bool a0_5] 50 (0, 0)) (by (with_reducible repeat (first | refine blk_drewN ?_ _ | refine blk_drew ?_ | refine blk_alloc ?_ _)); exact BK254.out) hb)
     have n1_ := m0_ (blk_below (g := gb255) (o := .cells #[.int .i64 0, .int .i64 0, .bool false, .slice none 0 0, .slice none 0 0, .bool false] 50 (0, 0)) (by (with_reducible repeat (first | refine blk_drewN ?_ _ | refine blk_drew ?_ | refine blk_alloc ?_ _)); exact BK255.out) hb)
     have n2_ := m0_ (below_step (by repeat (first | (with_reducible first | exact HB.out | apply bA_ | apply dN_ | apply b1_ | refine below_set ?_ GE254.out | refine below_set ?_ GE255.out) | exact HB.out)) hb)
     have n3_ := m0_ (hbox)
     have n4_ := m0_ ((by rw [hg]; exact (below_size (by repeat (first | (with_reducible first | exact HB.out | apply bA_ | apply dN_ | apply b1_ | refine below_set ?_ GE254.out | refine below_set ?_ GE255.out) | exact HB.out))) : w.heap.size ≤ gb259))
     have n5_ := m0_ ((by rw [hg]; exact (below_size (by repeat (first | (with_reducible first | exact HB.out | apply bA_ | apply dN_ | apply b1_ | refine below_set ?_ GE254.out | refine below_set ?_ GE255.out) | exact HB.out))) : w.heap.size ≤ gb259))
     have n6_ := m0_ ((by rw [hg]; exact Nat.ne_of_lt (blk_lt (g := gb254) (o := .cells #[.int .i64 a0_0, .int .i64 a0_1, .bool a0_2, .slice A0_3 l0_3.length c0_3, .slice A0_4 l0_4.length c0_4, .bool a0_5] 50 (0, 0)) (by (with_reducible repeat (first | refine blk_drewN ?_ _ | refine blk_drew ?_ | refine blk_alloc ?_ _)); exact BK254.out)) : gb254 ≠ gb259))
     have n7_ := m0_ ((by rw [hg]; exact Nat.ne_of_gt (blk_lt (g := gb254) (o := .cells #[.int .i64 a0_0, .int .i64 a0_1, .bool a0_2, .slice A0_3 l0_3.length c0_3, .slice A0_4 l0_4.length c0_4, .bool a0_5] 50 (0, 0)) (by (with_reducible repeat (first | refine blk_drewN ?_ _ | refine blk_drew ?_ | refine blk_alloc ?_ _)); exact BK254.out)) : gb259 ≠ gb254))
     have n8_ := m0_ ((by rw [hg]; exact Nat.ne_of_lt (blk_lt (g := gb255) (o := .cells #[.int .i64 0, .int .i64 0, .bool false, .slice none 0 0, .slice none 0 0, .bool false] 50 (0, 0)) (by (with_reducible repeat (first | refine blk_drewN ?_ _ | refine blk_drew ?_ | refine blk_alloc ?_ _)); exact BK255.out)) : gb255 ≠ gb259))
     have n9_ := m0_ ((by rw [hg]; exact Nat.ne_of_gt (blk_lt (g := gb255) (o := .cells #[.int .i64 0, .int .i64 0, .bool false, .slice none 0 0, .slice none 0 0, .bool false] 50 (0, 0)) (by (with_reducible repeat (first | refine blk_drewN ?_ _ | refine blk_drew ?_ | refine blk_alloc ?_ _)); exact BK255.out)) : gb259 ≠ gb255))
     clear BK254
     clear BK255
     clear HB
     have BK254 := n0_
     have BK255 := n1_
     have HB := n2_
     have BK259 := n3_
     have GW259 := n4_
     have GE259 := n5_
     have NB254_259 := n6_
     have NB259_254 := n7_
     have NB255_259 := n8_
     have NB259_255 := n9_
     clear n0_ n1_ n2_ n3_ n4_ n5_ n6_ n7_ n8_ n9_
     clear hb hbox hg
     refine hK.out _ _ ⟨(blk_cell BK254.out 0).trans rfl, (blk_cell BK254.out 1).trans rfl, (blk_cell BK254.out 2).trans rfl, (blk_cell BK254.out 3).trans rfl, (blk_cell BK254.out 4).trans rfl, (blk_cell BK254.out 5).trans rfl⟩ (fun hHeld => ?_)
     clear hK K
     refine norm_ (a' := ?_) ?_ ?_
     rotate_left
     · show Act.put _ (some 3) _ = _
       simp only [Act.put, sI_, sZ_, sS_, i64_w, i32_w]
       rfl
     refine one_ (i := 8) (N := some 12) #[true, true, true, true, true, true, true, true, true, true, true, false, true, false] rfl rfl (one_of HT_.out (by kernel_rfl)) (by decide) (fun K hK => ?_)
     refine goes_ Try.func60 (by kernel_rfl) rfl #[.slice A0_3 l0_3.length c0_3] (by rfl) rfl rfl (by (try simp only [mT_, mC_, mN_]); first | done | rfl | (simp only [lD_, lT_]; rfl)) ?_
     with_reducible refine (banksmanref10_Copy.calls k _ _ l0_3 t256 _ ?side1 ?side2 A2.out).mono ?_
     (case side1 => repeat (first | exact (kB_ HR0_3.out HB.out) | (with_reducible first | refine kA_ ?_ _ | refine kN_ ?_ _ | refine kD_ ?_)))
     (case side2 => exact HC0_3.out)
     rintro e w8 ⟨v257, rfl, ho0, hb⟩
     refine ⟨_, rfl, ?_⟩
     have n0_ := m0_ (Kd.S_lower ho0 (below_size (by repeat (first | (with_reducible first | exact HB.out | apply bA_ | apply dN_ | apply b1_ | refine below_set ?_ GE254.out | refine below_set ?_ GE255.out | refine below_set ?_ GE259.out) | exact HB.out))))
     have n1_ := m0_ (blk_below (g := gb254) (o := .cells #[.int .i64 a0_0, .int .i64 a0_1, .bool a0_2, .slice A0_3 l0_3.length c0_3, .slice A0_4 l0_4.length c0_4, .bool a0_5] 50 (0, 0)) (by (with_reducible repeat (first | refine blk_drewN ?_ _ | refine blk_drew ?_ | refine blk_alloc ?_ _)); exact BK254.out) hb)
     have n2_ := m0_ (blk_below (g := gb255) (o := .cells #[.int .i64 0, .int .i64 0, .bool false, .slice none 0 0, .slice none 0 0, .bool false] 50 (0, 0)) (by (with_reducible repeat (first | refine blk_drewN ?_ _ | refine blk_drew ?_ | refine blk_alloc ?_ _)); exact BK255.out) hb)
     have n3_ := m0_ (blk_below (g := gb259) (o := .cells #[.int .i64 0, .int .i64 0, .bool false, .slice none 0 0, .slice none 0 0, .bool false] 50 (0, 0)) (by (with_reducible repeat (first | refine blk_drewN ?_ _ | refine blk_drew ?_ | refine blk_alloc ?_ _)); exact BK259.out) hb)
     have n4_ := m0_ (below_step (by repeat (first | (with_reducible first | exact HB.out | apply bA_ | apply dN_ | apply b1_ | refine below_set ?_ GE254.out | refine below_set ?_ GE255.out | refine below_set ?_ GE259.out) | exact HB.out)) hb)
     clear BK254
     clear BK255
     clear BK259
     clear HB
     have HO258 := n0_
     have BK254 := n1_
     have BK255 := n2_
     have BK259 := n3_
     have HB := n4_
     clear n0_ n1_ n2_ n3_ n4_
     (try clear hb)
     (try clear hb2)
     (try clear hk)
     (try clear hi)
     (try clear ho0)
     obtain ⟨Ao9, co9, eo9⟩ := Kd.S_slice HO258.out
     (first | subst eo9 | (injection eo9 with f1_ f2_ f3_; have f4_ := f1_.symm; have f5_ := f3_.symm; clear f1_ f2_ f3_; subst f4_; subst f5_))
     refine hK.out _ _ ⟨(blk_cell BK254.out 0).trans rfl, (blk_cell BK254.out 1).trans rfl, (blk_cell BK254.out 2).trans rfl, (blk_cell BK254.out 3).trans rfl, (blk_cell BK254.out 4).trans rfl, (blk_cell BK254.out 5).trans rfl⟩ (fun hHeld => ?_)
     clear hK K
     refine norm_ (a' := ?_) ?_ ?_
     rotate_left
     · show Act.put _ (some 12) _ = _
       simp only [Act.put, sI_, sZ_, sS_, i64_w, i32_w]
       rfl
     refine pure_ (i := 11) (N := some 15) (v := ?_) (a' := ?_) #[true, true, true, true, true, true, true, true, true, true, true, true, true, false] rfl rfl (any_of HT_.out (by kernel_rfl)) (fun _ _ _ h => h) (Or.inl ⟨by rfl, ?_⟩) ?_ ?_
     rotate_left
     · intro w'
       go_simp
       with_reducible rfl
     rotate_left
     · simp only [Act.put, sI_, sZ_, sS_, i64_w, i32_w]
       rfl
     exact norm_ (by simp only [putAll, Act.put, sI_, sZ_, sS_]) (hCont (.slice Ao9 t256.length co9, gb259) _ ⟨hHeld, (by (with_reducible repeat (first | apply Kd.S_alloc | apply Kd.S_drewN | apply Kd.S_drew)); exact HO258.out), (by (with_reducible repeat (first | refine blk_drewN ?_ _ | refine blk_drew ?_ | refine blk_alloc ?_ _)); exact BK254.out), (by (with_reducible repeat (first | refine blk_drewN ?_ _ | refine blk_drew ?_ | refine blk_alloc ?_ _)); exact BK255.out), (by (with_reducible repeat (first | refine blk_drewN ?_ _ | refine blk_drew ?_ | refine blk_alloc ?_ _)); exact BK259.out), GW259.out, GE259.out, NB254_259.out, NB259_254.out, NB255_259.out, NB259_255.out, (by repeat (first | (with_reducible first | exact HB.out | apply bA_ | apply dN_ | apply b1_ | refine below_set ?_ GE254.out | refine below_set ?_ GE255.out | refine below_set ?_ GE259.out) | exact HB.out))⟩)
 rintro ⟨v257, gb259⟩ w10 ⟨hS_, h0_, h1_, h2_, h3_, h4_, h5_, h6_, h7_, h8_, h9_, h10_⟩
 have n0_ : Aside0 (Kd.S k57 57 w10 w.heap.size (fun _ => True) v257 t256) := ⟨h0_⟩
 have n1_ : Aside0 (w10.heap[gb254]? = some (.cells #[.int .i64 a0_0, .int .i64 a0_1, .bool a0_2, .slice A0_3 l0_3.length c0_3, .slice A0_4 l0_4.length c0_4, .bool a0_5] 50 (0, 0))) := ⟨h1_⟩
 have n2_ : Aside0 (w10.heap[gb255]? = some (.cells #[.int .i64 0, .int .i64 0, .bool false, .slice none 0 0, .slice none 0 0, .bool false] 50 (0, 0))) := ⟨h2_⟩
 have n3_ : Aside0 (w10.heap[gb259]? = some (.cells #[.int .i64 0, .int .i64 0, .bool false, .slice none 0 0, .slice none 0 0, .bool false] 50 (0, 0))) := ⟨h3_⟩
 have n4_ : Aside0 (w.heap.size ≤ gb259) := ⟨h4_⟩
 have n5_ : Aside0 (w.heap.size ≤ gb259) := ⟨h5_⟩
 have n6_ : Aside0 (gb254 ≠ gb259) := ⟨h6_⟩
 have n7_ : Aside0 (gb259 ≠ gb254) := ⟨h7_⟩
 have n8_ : Aside0 (gb255 ≠ gb259) := ⟨h8_⟩
 have n9_ : Aside0 (gb259 ≠ gb255) := ⟨h9_⟩
 have n10_ : Aside0 (Below w.heap.size w w10) := ⟨h10_⟩
 clear BK254
 clear BK255
 clear HB
 clear h0_ h1_ h2_ h3_ h4_ h5_ h6_ h7_ h8_ h9_ h10_
 have HO258 := n0_
 have BK254 := n1_
 have BK255 := n2_
 have BK259 := n3_
 have GW259 := n4_
 have GE259 := n5_
 have NB254_259 := n6_
 have NB259_254 := n7_
 have NB255_259 := n8_
 have NB259_255 := n9_
 have HB := n10_
 clear n0_ n1_ n2_ n3_ n4_ n5_ n6_ n7_ n8_ n9_ n10_
 have hHeld : w10.cell? ⟨gb254, 0, none⟩ = some (.int .i64 a0_0) ∧ w10.cell? ⟨gb254, 1, none⟩ = some (.int .i64 a0_1) ∧ w10.cell? ⟨gb254, 2, none⟩ = some (.bool a0_2) ∧ w10.cell? ⟨gb254, 3, none⟩ = some (.slice A0_3 l0_3.length c0_3) ∧ w10.cell? ⟨gb254, 4, none⟩ = some (.slice A0_4 l0_4.length c0_4) ∧ w10.cell? ⟨gb254, 5, none⟩ = some (.bool a0_5) := hS_
 obtain ⟨Ao11, co11, eo11⟩ := Kd.S_slice HO258.out
 (first | subst eo11 | (injection eo11 with f1_ f2_ f3_; have f4_ := f1_.symm; have f5_ := f3_.symm; clear f1_ f2_ f3_; subst f4_; subst f5_))
 refine norm_ (a' := ?_) ?_ ?_
 rotate_left
 · simp only [putAll, Act.put, sI_, sZ_, sS_]
   rfl
 refine one_ (i := 13) (N := none) #[true, true, true, true, true, true, true, true, true, true, true, true, true, true] rfl rfl (one_of HT_.out (by kernel_rfl)) (by decide) (fun K hK => ?_)
 have hs12 : w10.cell? ⟨gb259, 0, none⟩ = some (.int .i64 0) := (blk_cell BK259.out 0).trans rfl
 have hfs12 := bf_ BK259.out 0
 have hns12_0 := NB254_259.out
 have hns12_1 := NB255_259.out
 have hms12_0 := NB259_254.out
 have hms12_1 := NB259_255.out
 have hs13 : w10.cell? ⟨gb259, 1, none⟩ = some (.int .i64 0) := (blk_cell BK259.out 1).trans rfl
 have hfs13 := bf_ BK259.out 1
 have hns13_0 := NB254_259.out
 have hns13_1 := NB255_259.out
 have hms13_0 := NB259_254.out
 have hms13_1 := NB259_255.out
 have hs14 : w10.cell? ⟨gb259, 2, none⟩ = some (.bool false) := (blk_cell BK259.out 2).trans rfl
 have hfs14 := bf_ BK259.out 2
 have hns14_0 := NB254_259.out
 have hns14_1 := NB255_259.out
 have hms14_0 := NB259_254.out
 have hms14_1 := NB259_255.out
 have hs15 : w10.cell? ⟨gb259, 3, none⟩ = some (.slice none 0 0) := (blk_cell BK259.out 3).trans rfl
 have hfs15 := bf_ BK259.out 3
 have hns15_0 := NB254_259.out
 have hns15_1 := NB255_259.out
 have hms15_0 := NB259_254.out
 have hms15_1 := NB259_255.out
 have hs16 : w10.cell? ⟨gb259, 4, none⟩ = some (.slice none 0 0) := (blk_cell BK259.out 4).trans rfl
 have hfs16 := bf_ BK259.out 4
 have hns16_0 := NB254_259.out
 have hns16_1 := NB255_259.out
 have hms16_0 := NB259_254.out
 have hms16_1 := NB259_255.out
 have hs17 : w10.cell? ⟨gb259, 5, none⟩ = some (.bool false) := (blk_cell BK259.out 5).trans rfl
 have hfs17 := bf_ BK259.out 5
 have hns17_0 := NB254_259.out
 have hns17_1 := NB255_259.out
 have hms17_0 := NB259_254.out
 have hms17_1 := NB259_255.out
 refine skip_ (w1 := ?_) (by rfl) rfl ?_ ?_
 rotate_left
 · go_simp
   rfl
 refine hK.out _ _ ⟨((cell_far (p := ⟨gb259, _, none⟩) NB254_259.out _).trans (((cell_far (p := ⟨gb259, _, none⟩) NB254_259.out _).trans (((cell_far (p := ⟨gb259, _, none⟩) NB254_259.out _).trans (((cell_far (p := ⟨gb259, _, none⟩) NB254_259.out _).trans (((cell_far (p := ⟨gb259, _, none⟩) NB254_259.out _).trans (((cell_far (p := ⟨gb259, _, none⟩) NB254_259.out _).trans (hHeld.1)))))))))))), ((cell_far (p := ⟨gb259, _, none⟩) NB254_259.out _).trans (((cell_far (p := ⟨gb259, _, none⟩) NB254_259.out _).trans (((cell_far (p := ⟨gb259, _, none⟩) NB254_259.out _).trans (((cell_far (p := ⟨gb259, _, none⟩) NB254_259.out _).trans (((cell_far (p := ⟨gb259, _, none⟩) NB254_259.out _).trans (((cell_far (p := ⟨gb259, _, none⟩) NB254_259.out _).trans (hHeld.2.1)))))))))))), ((cell_far (p := ⟨gb259, _, none⟩) NB254_259.out _).trans (((cell_far (p := ⟨gb259, _, none⟩) NB254_259.out _).trans (((cell_far (p := ⟨gb259, _, none⟩) NB254_259.out _).trans (((cell_far (p := ⟨gb259, _, none⟩) NB254_259.out _).trans (((cell_far (p := ⟨gb259, _, none⟩) NB254_259.out _).trans (((cell_far (p := ⟨gb259, _, none⟩) NB254_259.out _).trans (hHeld.2.2.1)))))))))))), ((cell_far (p := ⟨gb259, _, none⟩) NB254_259.out _).trans (((cell_far (p := ⟨gb259, _, none⟩) NB254_259.out _).trans (((cell_far (p := ⟨gb259, _, none⟩) NB254_259.out _).trans (((cell_far (p := ⟨gb259, _, none⟩) NB254_259.out _).trans (((cell_far (p := ⟨gb259, _, none⟩) NB254_259.out _).trans (((cell_far (p := ⟨gb259, _, none⟩) NB254_259.out _).trans (hHeld.2.2.2.1)))))))))))), ((cell_far (p := ⟨gb259, _, none⟩) NB254_259.out _).trans (((cell_far (p := ⟨gb259, _, none⟩) NB254_259.out _).trans (((cell_far (p := ⟨gb259, _, none⟩) NB254_259.out _).trans (((cell_far (p := ⟨gb259, _, none⟩) NB254_259.out _).trans (((cell_far (p := ⟨gb259, _, none⟩) NB254_259.out _).trans (((cell_far (p := ⟨gb259, _, none⟩) NB254_259.out _).trans (hHeld.2.2.2.2.1)))))))))))), ((cell_far (p := ⟨gb259, _, none⟩) NB254_259.out _).trans (((cell_far (p := ⟨gb259, _, none⟩) NB254_259.out _).trans (((cell_far (p := ⟨gb259, _, none⟩) NB254_259.out _).trans (((cell_far (p := ⟨gb259, _, none⟩) NB254_259.out _).trans (((cell_far (p := ⟨gb259, _, none⟩) NB254_259.out _).trans (((cell_far (p := ⟨gb259, _, none⟩) NB254_259.out _).trans (hHeld.2.2.2.2.2))))))))))))⟩ (fun hHeld => ?_)
 clear hK K
 refine done_ (done_of HT_.out (by kernel_rfl)) ?_
 have hnb18 := NB254_255.out
 have hnc18 := NB255_254.out
 have hnb19 := NB254_259.out
 have hnc19 := NB259_254.out
 have hcz20_0 : w10.cell? ⟨gb254, 0, none⟩ = some (.int .i64 a0_0) := (blk_cell BK254.out 0).trans rfl
 have hcz20_1 : w10.cell? ⟨gb254, 1, none⟩ = some (.int .i64 a0_1) := (blk_cell BK254.out 1).trans rfl
 have hcz20_2 : w10.cell? ⟨gb254, 2, none⟩ = some (.bool a0_2) := (blk_cell BK254.out 2).trans rfl
 have hcz20_3 : w10.cell? ⟨gb254, 3, none⟩ = some (.slice A0_3 l0_3.length c0_3) := (blk_cell BK254.out 3).trans rfl
 have hcz20_4 : w10.cell? ⟨gb254, 4, none⟩ = some (.slice A0_4 l0_4.length c0_4) := (blk_cell BK254.out 4).trans rfl
 have hcz20_5 : w10.cell? ⟨gb254, 5, none⟩ = some (.bool a0_5) := (blk_cell BK254.out 5).trans rfl
 have hfz20_0 := bf_ BK254.out 0
 have hfz20_1 := bf_ BK254.out 1
 have hfz20_2 := bf_ BK254.out 2
 have hfz20_3 := bf_ BK254.out 3
 have hfz20_4 := bf_ BK254.out 4
 have hfz20_5 := bf_ BK254.out 5
 try go_wp2_with (first | ((with_reducible refine gate_callee (f := 61) rfl ?_); refine goesL_ (some 19) rfl rfl Try.func61 (by kernel_rfl) rfl #[.agg #[.slice A0_4 l0_4.length c0_4, .slice none 0 0]] rfl (by (try simp only [mT_, mC_, mN_]); first | done | rfl | (simp only [lD_, lT_]; rfl)) ?_; (refine (banksmanref08_Copy.calls k _ _ l0_4 _ _ ([] : List Int) t260 t263 _ ?side1 ?side2 ?side3 ?side4 A3.out).mono ?_); (case side1 => exact kB_ HR0_4.out (by repeat (first | (with_reducible first | exact HB.out | apply bA_ | apply dN_ | apply b1_ | refine below_set ?_ GE254.out | refine below_set ?_ GE255.out | refine below_set ?_ GE259.out) | exact HB.out))); (case side2 => exact HC0_4.out); (case side3 => exact Kd.C_nil _ _); (case side4 => exact Nat.le_refl _); rintro e w21 ⟨v261, v264, rfl, ho0, ho1, hb⟩; (first | (obtain ⟨azv264, czv264, ezv264⟩ := Kd.R_slice ho1) | (obtain ⟨azv264, czv264, ezv264⟩ := Kd.N_slice ho1) | (obtain ⟨azv264, czv264, ezv264⟩ := Kd.V_slice ho1) | (obtain ⟨azv264, czv264, ezv264⟩ := Kd.S_slice ho1)); subst ezv264; refine ⟨_, rfl, ?_⟩; have n0_ := m0_ (Kd.S_below (by (with_reducible repeat (first | apply Kd.S_alloc | apply Kd.S_drewN | apply Kd.S_drew)); exact (Kd.S_mono (Kd.S_far (p := ⟨gb259, 5, none⟩) (Kd.S_far (p := ⟨gb259, 4, none⟩) (Kd.S_far (p := ⟨gb259, 3, none⟩) (Kd.S_far (p := ⟨gb259, 2, none⟩) (Kd.S_far (p := ⟨gb259, 1, none⟩) (Kd.S_far (p := ⟨gb259, 0, none⟩) (Kd.S_types HO258.out BK259.out (by decide)) (fun _ hk => hk.2) (.int .i64 a0_0)) (fun _ hk => hk.2) (.int .i64 a0_1)) (fun _ hk => hk.2) (.bool a0_2)) (fun _ hk => hk.2) (.slice Ao11 t256.length co11)) (fun _ hk => hk.2) (.slice none 0 0)) (fun _ hk => hk.2) (.bool a0_5)) (fun _ h_ => h_.1))) hb); have n1_ := m0_ (Kd.S_lower ho0 (below_size (by repeat (first | (with_reducible first | exact HB.out | apply bA_ | apply dN_ | apply b1_ | refine below_set ?_ GE254.out | refine below_set ?_ GE255.out | refine below_set ?_ GE259.out) | exact HB.out)))); have n2_ := m0_ (Kd.R_lower ho1 (below_size (by repeat (first | (with_reducible first | exact HB.out | apply bA_ | apply dN_ | apply b1_ | refine below_set ?_ GE254.out | refine below_set ?_ GE255.out | refine below_set ?_ GE259.out) | exact HB.out)))); have n3_ := m0_ (blk_below (g := gb254) (o := .cells #[.int .i64 a0_0, .int .i64 a0_1, .bool a0_2, .slice A0_3 l0_3.length c0_3, .slice A0_4 l0_4.length c0_4, .bool a0_5] 50 (0, 0)) (by (with_reducible repeat (first | refine blk_drewN ?_ _ | refine blk_drew ?_ | refine blk_alloc ?_ _)); refine blk_far ?_ NB254_259.out _; (with_reducible repeat (first | refine blk_drewN ?_ _ | refine blk_drew ?_ | refine blk_alloc ?_ _)); refine blk_far ?_ NB254_259.out _; (with_reducible repeat (first | refine blk_drewN ?_ _ | refine blk_drew ?_ | refine blk_alloc ?_ _)); refine blk_far ?_ NB254_259.out _; (with_reducible repeat (first | refine blk_drewN ?_ _ | refine blk_drew ?_ | refine blk_alloc ?_ _)); refine blk_far ?_ NB254_259.out _; (with_reducible repeat (first | refine blk_drewN ?_ _ | refine blk_drew ?_ | refine blk_alloc ?_ _)); refine blk_far ?_ NB254_259.out _; (with_reducible repeat (first | refine blk_drewN ?_ _ | refine blk_drew ?_ | refine blk_alloc ?_ _)); refine blk_far ?_ NB254_259.out _; (with_reducible repeat (first | refine blk_drewN ?_ _ | refine blk_drew ?_ | refine blk_alloc ?_ _)); exact BK254.out) hb); have n4_ := m0_ (blk_below (g := gb255) (o := .cells #[.int .i64 0, .int .i64 0, .bool false, .slice none 0 0, .slice none 0 0, .bool false] 50 (0, 0)) (by (with_reducible repeat (first | refine blk_drewN ?_ _ | refine blk_drew ?_ | refine blk_alloc ?_ _)); refine blk_far ?_ NB255_259.out _; (with_reducible repeat (first | refine blk_drewN ?_ _ | refine blk_drew ?_ | refine blk_alloc ?_ _)); refine blk_far ?_ NB255_259.out _; (with_reducible repeat (first | refine blk_drewN ?_ _ | refine blk_drew ?_ | refine blk_alloc ?_ _)); refine blk_far ?_ NB255_259.out _; (with_reducible repeat (first | refine blk_drewN ?_ _ | refine blk_drew ?_ | refine blk_alloc ?_ _)); refine blk_far ?_ NB255_259.out _; (with_reducible repeat (first | refine blk_drewN ?_ _ | refine blk_drew ?_ | refine blk_alloc ?_ _)); refine blk_far ?_ NB255_259.out _; (with_reducible repeat (first | refine blk_drewN ?_ _ | refine blk_drew ?_ | refine blk_alloc ?_ _)); refine blk_far ?_ NB255_259.out _; (with_reducible repeat (first | refine blk_drewN ?_ _ | refine blk_drew ?_ | refine blk_alloc ?_ _)); exact BK255.out) hb); have n5_ := m0_ (blk_below (g := gb259) (o := .cells #[.int .i64 a0_0, .int .i64 a0_1, .bool a0_2, .slice Ao11 t256.length co11, .slice none 0 0, .bool a0_5] 50 (0, 0)) (by (with_reducible repeat (first | refine blk_drewN ?_ _ | refine blk_drew ?_ | refine blk_alloc ?_ _)); refine blk_put (cs := #[.int .i64 a0_0, .int .i64 a0_1, .bool a0_2, .slice Ao11 t256.length co11, .slice none 0 0, .bool false]) ?_ 5 _ rfl; (with_reducible repeat (first | refine blk_drewN ?_ _ | refine blk_drew ?_ | refine blk_alloc ?_ _)); refine blk_put (cs := #[.int .i64 a0_0, .int .i64 a0_1, .bool a0_2, .slice Ao11 t256.length co11, .slice none 0 0, .bool false]) ?_ 4 _ rfl; (with_reducible repeat (first | refine blk_drewN ?_ _ | refine blk_drew ?_ | refine blk_alloc ?_ _)); refine blk_put (cs := #[.int .i64 a0_0, .int .i64 a0_1, .bool a0_2, .slice none 0 0, .slice none 0 0, .bool false]) ?_ 3 _ rfl; (with_reducible repeat (first | refine blk_drewN ?_ _ | refine blk_drew ?_ | refine blk_alloc ?_ _)); refine blk_put (cs := #[.int .i64 a0_0, .int .i64 a0_1, .bool false, .slice none 0 0, .slice none 0 0, .bool false]) ?_ 2 _ rfl; (with_reducible repeat (first | refine blk_drewN ?_ _ | refine blk_drew ?_ | refine blk_alloc ?_ _)); refine blk_put (cs := #[.int .i64 a0_0, .int .i64 0, .bool false, .slice none 0 0, .slice none 0 0, .bool false]) ?_ 1 _ rfl; (with_reducible repeat (first | refine blk_drewN ?_ _ | refine blk_drew ?_ | refine blk_alloc ?_ _)); refine blk_put (cs := #[.int .i64 0, .int .i64 0, .bool false, .slice none 0 0, .slice none 0 0, .bool false]) ?_ 0 _ rfl; (with_reducible repeat (first | refine blk_drewN ?_ _ | refine blk_drew ?_ | refine blk_alloc ?_ _)); exact BK259.out) hb); have n6_ := m0_ (below_step (by repeat (first | (with_reducible first | exact HB.out | apply bA_ | apply dN_ | apply b1_ | refine below_set ?_ GE254.out | refine below_set ?_ GE255.out | refine below_set ?_ GE259.out) | exact HB.out)) hb); clear HO258; clear BK254; clear BK255; clear BK259; clear HB; have HO258 := n0_; have HO262 := n1_; have HO265 := n2_; have BK254 := n3_; have BK255 := n4_; have BK259 := n5_; have HB := n6_; clear n0_ n1_ n2_ n3_ n4_ n5_ n6_; (try clear hb); (try clear hb2); (try clear hk); (try clear hi); (try clear ho0); (try clear ho1); obtain ⟨Ao22, co22, eo22⟩ := Kd.S_slice HO262.out; subst eo22; have hnb23 := NB259_255.out; have hnc23 := NB255_259.out; have hcz24_0 : w21.cell? ⟨gb259, 0, none⟩ = some (.int .i64 a0_0) := (blk_cell BK259.out 0).trans rfl; have hcz24_1 : w21.cell? ⟨gb259, 1, none⟩ = some (.int .i64 a0_1) := (blk_cell BK259.out 1).trans rfl; have hcz24_2 : w21.cell? ⟨gb259, 2, none⟩ = some (.bool a0_2) := (blk_cell BK259.out 2).trans rfl; have hcz24_3 : w21.cell? ⟨gb259, 3, none⟩ = some (.slice Ao11 t256.length co11) := (blk_cell BK259.out 3).trans rfl; have hcz24_4 : w21.cell? ⟨gb259, 4, none⟩ = some (.slice none 0 0) := (blk_cell BK259.out 4).trans rfl; have hcz24_5 : w21.cell? ⟨gb259, 5, none⟩ = some (.bool a0_5) := (blk_cell BK259.out 5).trans rfl; have hfz24_0 := bf_ BK259.out 0; have hfz24_1 := bf_ BK259.out 1; have hfz24_2 := bf_ BK259.out 2; have hfz24_3 := bf_ BK259.out 3; have hfz24_4 := bf_ BK259.out 4; have hfz24_5 := bf_ BK259.out 5; have hcz25_0 : w21.cell? ⟨gb255, 0, none⟩ = some (.int .i64 0) := (blk_cell BK255.out 0).trans rfl; have hcz25_1 : w21.cell? ⟨gb255, 1, none⟩ = some (.int .i64 0) := (blk_cell BK255.out 1).trans rfl; have hcz25_2 : w21.cell? ⟨gb255, 2, none⟩ = some (.bool false) := (blk_cell BK255.out 2).trans rfl; have hcz25_3 : w21.cell? ⟨gb255, 3, none⟩ = some (.slice none 0 0) := (blk_cell BK255.out 3).trans rfl; have hcz25_4 : w21.cell? ⟨gb255, 4, none⟩ = some (.slice none 0 0) := (blk_cell BK255.out 4).trans rfl; have hcz25_5 : w21.cell? ⟨gb255, 5, none⟩ = some (.bool false) := (blk_cell BK255.out 5).trans rfl; have hfz25_0 := bf_ BK255.out 0; have hfz25_1 := bf_ BK255.out 1; have hfz25_2 := bf_ BK255.out 2; have hfz25_3 := bf_ BK255.out 3; have hfz25_4 := bf_ BK255.out 4; have hfz25_5 := bf_ BK255.out 5))
 refine bodyPost_ret (results_cell_row rfl _ _ gb255 50 #[.int .i64 a0_0, .int .i64 a0_1, .bool a0_2, .slice Ao11 t256.length co11, .slice Ao22 t260.length co22, .bool a0_5] (0, 0) _ rfl (by (with_reducible repeat (first | refine blk_drewN ?_ _ | refine blk_drew ?_ | refine blk_alloc ?_ _)); refine blk_put (cs := #[.int .i64 a0_0, .int .i64 a0_1, .bool a0_2, .slice Ao11 t256.length co11, .slice Ao22 t260.length co22, .bool false]) ?_ 5 _ rfl; (with_reducible repeat (first | refine blk_drewN ?_ _ | refine blk_drew ?_ | refine blk_alloc ?_ _)); refine blk_put (cs := #[.int .i64 a0_0, .int .i64 a0_1, .bool a0_2, .slice Ao11 t256.length co11, .slice none 0 0, .bool false]) ?_ 4 _ rfl; (with_reducible repeat (first | refine blk_drewN ?_ _ | refine blk_drew ?_ | refine blk_alloc ?_ _)); refine blk_put (cs := #[.int .i64 a0_0, .int .i64 a0_1, .bool a0_2, .slice none 0 0, .slice none 0 0, .bool false]) ?_ 3 _ rfl; (with_reducible repeat (first | refine blk_drewN ?_ _ | refine blk_drew ?_ | refine blk_alloc ?_ _)); refine blk_put (cs := #[.int .i64 a0_0, .int .i64 a0_1, .bool false, .slice none 0 0, .slice none 0 0, .bool false]) ?_ 2 _ rfl; (with_reducible repeat (first | refine blk_drewN ?_ _ | refine blk_drew ?_ | refine blk_alloc ?_ _)); refine blk_put (cs := #[.int .i64 a0_0, .int .i64 0, .bool false, .slice none 0 0, .slice none 0 0, .bool false]) ?_ 1 _ rfl; (with_reducible repeat (first | refine blk_drewN ?_ _ | refine blk_drew ?_ | refine blk_alloc ?_ _)); refine blk_put (cs := #[.int .i64 0, .int .i64 0, .bool false, .slice none 0 0, .slice none 0 0, .bool false]) ?_ 0 _ rfl; (with_reducible repeat (first | refine blk_drewN ?_ _ | refine blk_drew ?_ | refine blk_alloc ?_ _)); refine blk_far ?_ NB255_259.out _; (with_reducible repeat (first | refine blk_drewN ?_ _ | refine blk_drew ?_ | refine blk_alloc ?_ _)); exact BK255.out) Try.underlying50 rfl (by kernel_rfl)) rfl ?_
 exact ⟨_, _, by first | rfl | (simp [errW_none, errW_some] <;> rfl) | (simp [*, errW_none, errW_some] <;> rfl), by (with_reducible repeat (first | apply Kd.S_alloc | apply Kd.S_drewN | apply Kd.S_drew)); exact Kd.S_mono (Kd.S_far (p := ⟨gb255, 5, none⟩) (Kd.S_far (p := ⟨gb255, 4, none⟩) (Kd.S_far (p := ⟨gb255, 3, none⟩) (Kd.S_far (p := ⟨gb255, 2, none⟩) (Kd.S_far (p := ⟨gb255, 1, none⟩) (Kd.S_far (p := ⟨gb255, 0, none⟩) (Kd.S_far (p := ⟨gb259, 4, none⟩) (Kd.S_types (Kd.S_types HO258.out BK259.out (by decide)) BK255.out (by decide)) (fun _ hk => hk.1.2) (.slice Ao22 t260.length co22)) (fun _ hk => hk.2) (.int .i64 a0_0)) (fun _ hk => hk.2) (.int .i64 a0_1)) (fun _ hk => hk.2) (.bool a0_2)) (fun _ hk => hk.2) (.slice Ao11 t256.length co11)) (fun _ hk => hk.2) (.slice Ao22 t260.length co22)) (fun _ hk => hk.2) (.bool a0_5)) (fun _ hk => trivial), by (with_reducible repeat (first | apply Kd.S_alloc | apply Kd.S_drewN | apply Kd.S_drew)); exact Kd.S_mono (Kd.S_far (p := ⟨gb255, 5, none⟩) (Kd.S_far (p := ⟨gb255, 4, none⟩) (Kd.S_far (p := ⟨gb255, 3, none⟩) (Kd.S_far (p := ⟨gb255, 2, none⟩) (Kd.S_far (p := ⟨gb255, 1, none⟩) (Kd.S_far (p := ⟨gb255, 0, none⟩) (Kd.S_far (p := ⟨gb259, 4, none⟩) (Kd.S_types (Kd.S_types HO262.out BK259.out (by decide)) BK255.out (by decide)) (fun _ hk => hk.1.2) (.slice Ao22 t260.length co22)) (fun _ hk => hk.2) (.int .i64 a0_0)) (fun _ hk => hk.2) (.int .i64 a0_1)) (fun _ hk => hk.2) (.bool a0_2)) (fun _ hk => hk.2) (.slice Ao11 t256.length co11)) (fun _ hk => hk.2) (.slice Ao22 t260.length co22)) (fun _ hk => hk.2) (.bool a0_5)) (fun _ hk => trivial), by repeat (first | (with_reducible first | exact HB.out | apply bA_ | apply dN_ | apply b1_ | refine below_set ?_ GE254.out | refine below_set ?_ GE255.out | refine below_set ?_ GE259.out) | exact HB.out)⟩
mutual
def banksmanref13_Keep.l0 : Nat → List (S50) → List (S24) → List (S50) → Int → Option ((List (S50)))
 | 0, _, _, _, _ => none
 | k + 1, x0, x1, x5, x6 => if x6 < (x0.length : Int) then (banksmanref13_Keep.l1 k x0 x1 x5 x6 false 0) else (some x5)
def banksmanref13_Keep.l1 : Nat → List (S50) → List (S24) → List (S50) → Int → Bool → Int → Option ((List (S50)))
 | 0, _, _, _, _, _, _ => none
 | k + 1, x0, x1, x5, x6, x7, x8 => if x8 < (x1.length : Int) then (if x7 = true then (banksmanref13_Keep.l1 k x0 x1 x5 x6 true (wrap64 (x8 + 1))) else (if 0 ≤ x6 then (if x6 < (x0.length : Int) then (if 0 ≤ x8 then (banksmanref13_Keep.l1 k x0 x1 x5 x6 (decide (((rd_T50 x0 x6).f1) > ((rd_T24 x1 x8).f0))) (wrap64 (x8 + 1))) else (none)) else (none)) else (none))) else (if x7 = true then (if 0 ≤ x6 then (if x6 < (x0.length : Int) then ((banksmanref13_Copy.f k ((rd_T50 x0 x6).f0) ((rd_T50 x0 x6).f1) ((rd_T50 x0 x6).f2) ((rd_T50 x0 x6).f3) ((rd_T50 x0 x6).f4) ((rd_T50 x0 x6).f5)).bind fun bt269 => (if x5.length < 1759218604441 then (banksmanref13_Keep.l0 k x0 x1 (x5 ++ [(⟨bt269.1, bt269.2.1, bt269.2.2.1, bt269.2.2.2.1, bt269.2.2.2.2.1, bt269.2.2.2.2.2⟩ : S50)]) (wrap64 (x6 + 1))) else (none))) else (none)) else (none)) else (banksmanref13_Keep.l0 k x0 x1 x5 (wrap64 (x6 + 1))))
end
def banksmanref13_Keep.f (k : Nat) (l0 : List (S50)) (l1 : List (S24)) : Option ((List (S50))) := banksmanref13_Keep.l0 k l0 l1 ([] : List (S50)) 0
set_option maxHeartbeats 8000000 in
set_option maxRecDepth 100000 in
theorem banksmanref13_Keep.calls (k : Nat) (A0 : Option Addr) (c0 : Nat) (l0 : List (S50)) (A1 : Option Addr) (c1 : Nat) (l1 : List (S24)) (r : List (S50)) (w : World) (hr0 : Kd.C k50 w A0 l0.length l0) (hc0 : l0.length ≤ c0) (hr1 : Kd.C k24 w A1 l1.length l1) (hc1 : l1.length ≤ c1) (h : banksmanref13_Keep.f k l0 l1 = some r) :
  Calls Try.prog 33 #[.slice A0 l0.length c0, .slice A1 l1.length c1] w fun e w' => ∃ v0_ : Value, e = .returned (v0_) ∧ Kd.R k50 50 w' w.heap.size (fun _ => True) v0_ r ∧ Below w.heap.size w w' := by
 have hu50 := Try.underlying50
 have HR0 := m0_ hr0
 have HC0 := m0_ hc0
 clear hr0 hc0
 have HR1 := m0_ hr1
 have HC1 := m0_ hc1
 clear hr1 hc1
 have HB := m0_ (Below.refl w.heap.size w)
 have H : (banksmanref13_Keep.l0 k l0 l1 ([] : List (S50)) 0) = some r := h
 clear h
 have H' := m0_ H
 clear H
 go_enter Try.func33, Try.ntmps33
 go_wp2
 repeat (go_quiet (fail); try go_wp2)
 go_loopg [5, 6] k (fun kq v5 v6 w' => ∃ (x5_1 : List (S50)) (x6_1 : Int), v6 = .int .i64 x6_1 ∧ Aside0 (banksmanref13_Keep.l0 kq l0 l1 x5_1 x6_1 = some r) ∧ Aside0 (kq ≤ k) ∧ Aside0 (Kd.R k50 50 w' w.heap.size (fun _ => True) v5 x5_1) ∧ Aside0 (Below w.heap.size w w'))
 case atStart => exact ⟨(([] : List (S50))), (0), (by first | rfl | (simp; done) | (simp [*]; done)), H', ⟨Nat.le_refl _⟩, ⟨by first | exact Kd.R_nil _ _ _ _ _ | exact Kd.N_nil _ _ _ _ _ | exact Kd.V_nil _ _ _ _ _ | exact Kd.Q_nil _ _ _ _ _ | exact Kd.S_nil _ _ _ _ _⟩, ⟨by repeat (first | (with_reducible first | exact HB.out | apply bA_ | apply dN_ | apply b1_) | exact HB.out)⟩⟩
 case round =>
  clear H'
  try clear c1
  try clear p2
  obtain ⟨x5_1, x6_1, rfl, HA, HK1, HO_5, HB⟩ := hrel
  cases gk with
  | zero => exact absurd HA.out (by simp [banksmanref13_Keep.l0])
  | succ k1 =>
   have H := HA.out
   clear HA
   simp only [banksmanref13_Keep.l0] at H
   by_cases c3 : x6_1 < (l0.length : Int)
   · rw [if_pos c3] at H
     have c3b0 : decide (x6_1 < (l0.length : Int)) = true := decide_eq_true c3
     clear c3
     have H' := m0_ H
     clear H
     go_wp2
     repeat (go_quiet (fail); try go_wp2)
     go_loopg [7, 8] k1 (fun kq v7 v8 w' => ∃ (x7_2 : Bool) (x8_2 : Int), v7 = .bool x7_2 ∧ v8 = .int .i64 x8_2 ∧ Aside0 (banksmanref13_Keep.l1 kq l0 l1 x5_1 x6_1 x7_2 x8_2 = some r) ∧ Aside0 (kq ≤ k1) ∧ Aside0 (Kd.R k50 50 w' w.heap.size (fun _ => True) u5 x5_1) ∧ Aside0 (Below w.heap.size w w'))
     case atStart => exact ⟨(false), (0), (by first | rfl | (simp; done) | (simp [*]; done)), (by first | rfl | (simp; done) | (simp [*]; done)), H', ⟨Nat.le_refl _⟩, ⟨by (with_reducible repeat (first | apply Kd.R_alloc | apply Kd.R_drewN | apply Kd.R_drew)); exact HO_5.out⟩, ⟨by repeat (first | (with_reducible first | exact HB.out | apply bA_ | apply dN_ | apply b1_) | exact HB.out)⟩⟩
     case round =>
      clear H'
      try clear c1
      try clear p2
      try clear c3
      try clear c3b0
      try clear p2
      obtain ⟨x7_2, x8_2, rfl, rfl, HA, HK2, HO_5, HB⟩ := hrel
      cases gk with
      | zero => exact absurd HA.out (by simp [banksmanref13_Keep.l1])
      | succ k2 =>
       have H := HA.out
       clear HA
       simp only [banksmanref13_Keep.l1] at H
       by_cases c4 : x8_2 < (l1.length : Int)
       · rw [if_pos c4] at H
         have c4b0 : decide (x8_2 < (l1.length : Int)) = true := decide_eq_true c4
         clear c4
         by_cases c5 : x7_2 = true
         · subst c5
           have H1 : (banksmanref13_Keep.l1 k2 l0 l1 x5_1 x6_1 true (wrap64 (x8_2 + 1))) = some r := by rw [if_pos rfl] at H; exact H
           clear H
           have H := H1
           clear H1
           have H' := m0_ H
           clear H
           go_wp2
           repeat (go_quiet (fail); try go_wp2)
           go_roundg k2
           case measure => have := HK1.out; have := HK2.out; omega
           case rel => exact ⟨(true), (wrap64 (x8_2 + 1)), (by first | rfl | (simp; done) | (simp [*]; done)), (by first | rfl | (simp; done) | (simp [*]; done)), H', ⟨by have := HK1.out; have := HK2.out; omega⟩, ⟨by (with_reducible repeat (first | apply Kd.R_alloc | apply Kd.R_drewN | apply Kd.R_drew)); exact HO_5.out⟩, ⟨by repeat (first | (with_reducible first | exact HB.out | apply bA_ | apply dN_ | apply b1_) | exact HB.out)⟩⟩
         · replace c5 := Bool.eq_false_iff.mpr c5
           subst c5
           have H1 : (if 0 ≤ x6_1 then (if x6_1 < (l0.length : Int) then (if 0 ≤ x8_2 then (banksmanref13_Keep.l1 k2 l0 l1 x5_1 x6_1 (decide (((rd_T50 l0 x6_1).f1) > ((rd_T24 l1 x8_2).f0))) (wrap64 (x8_2 + 1))) else (none)) else (none)) else (none)) = some r := by rw [if_neg (show ¬ (false = true) by decide)] at H; exact H
           clear H
           have H := H1
           clear H1
           by_cases c6 : 0 ≤ x6_1
           · rw [if_pos c6] at H
             have c6b0 : decide (0 ≤ x6_1) = true := decide_eq_true c6
             clear c6
             by_cases c7 : x6_1 < (l0.length : Int)
             · rw [if_pos c7] at H
               have c7b0 : decide (x6_1 < (l0.length : Int)) = true := decide_eq_true c7
               clear c7
               by_cases c8 : 0 ≤ x8_2
               · rw [if_pos c8] at H
                 have c8b0 : decide (0 ≤ x8_2) = true := decide_eq_true c8
                 clear c8
                 have H' := m0_ H
                 clear H
                 have p266 : 0 ≤ (x6_1 : Int) := dT_
                 have q266 : x6_1 < (l0.length : Int) := dT_
                 obtain ⟨ad266, A266_3, c266_3, A266_4, c266_4, e266, hx266_0, hx266_1, hx266_2, hx266_3, hx266_4, hx266_5, hl266_3, hi266_3, hl266_4, hi266_4⟩ := at_T50 HR0.out x6_1 p266 q266
                 cases e266
                 replace hx266_0 := (HB.out.cell (bL_ w _ hx266_0)).trans hx266_0
                 replace hx266_1 := (HB.out.cell (bL_ w _ hx266_1)).trans hx266_1
                 replace hx266_2 := (HB.out.cell (bL_ w _ hx266_2)).trans hx266_2
                 replace hx266_3 := (HB.out.cell (bL_ w _ hx266_3)).trans hx266_3
                 replace hx266_4 := (HB.out.cell (bL_ w _ hx266_4)).trans hx266_4
                 replace hx266_5 := (HB.out.cell (bL_ w _ hx266_5)).trans hx266_5
                 have HR266_3 := m0_ hi266_3
                 have HC266_3 := m0_ hl266_3
                 clear hi266_3 hl266_3
                 have HR266_4 := m0_ hi266_4
                 have HC266_4 := m0_ hl266_4
                 clear hi266_4 hl266_4
                 replace p266 := eq_true p266
                 replace q266 := eq_true q266
                 have p267 : 0 ≤ (x8_2 : Int) := dT_
                 have q267 : x8_2 < (l1.length : Int) := dT_
                 obtain ⟨ad267, A267_1, c267_1, e267, hx267_0, hx267_1, hl267_1, hi267_1⟩ := at_T24 HR1.out x8_2 p267 q267
                 cases e267
                 replace hx267_0 := (HB.out.cell (bL_ w _ hx267_0)).trans hx267_0
                 replace hx267_1 := (HB.out.cell (bL_ w _ hx267_1)).trans hx267_1
                 have HR267_1 := m0_ hi267_1
                 have HC267_1 := m0_ hl267_1
                 clear hi267_1 hl267_1
                 replace p267 := eq_true p267
                 replace q267 := eq_true q267
                 go_wp2
                 repeat (go_quiet (fail); try go_wp2)
                 go_roundg k2
                 case measure => have := HK1.out; have := HK2.out; omega
                 case rel => exact ⟨(decide (((rd_T50 l0 x6_1).f1) > ((rd_T24 l1 x8_2).f0))), (wrap64 (x8_2 + 1)), (by first | rfl | (simp; done) | (simp [*]; done)), (by first | rfl | (simp; done) | (simp [*]; done)), H', ⟨by have := HK1.out; have := HK2.out; omega⟩, ⟨by (with_reducible repeat (first | apply Kd.R_alloc | apply Kd.R_drewN | apply Kd.R_drew)); exact HO_5.out⟩, ⟨by repeat (first | (with_reducible first | exact HB.out | apply bA_ | apply dN_ | apply b1_) | exact HB.out)⟩⟩
               · rw [if_neg c8] at H
                 exact absurd H (by simp)
             · rw [if_neg c7] at H
               exact absurd H (by simp)
           · rw [if_neg c6] at H
             exact absurd H (by simp)
       · rw [if_neg c4] at H
         have c4b0 : decide (x8_2 < (l1.length : Int)) = false := decide_eq_false c4
         clear c4
         by_cases c9 : x7_2 = true
         · subst c9
           have H1 : (if 0 ≤ x6_1 then (if x6_1 < (l0.length : Int) then ((banksmanref13_Copy.f k2 ((rd_T50 l0 x6_1).f0) ((rd_T50 l0 x6_1).f1) ((rd_T50 l0 x6_1).f2) ((rd_T50 l0 x6_1).f3) ((rd_T50 l0 x6_1).f4) ((rd_T50 l0 x6_1).f5)).bind fun bt269 => (if x5_1.length < 1759218604441 then (banksmanref13_Keep.l0 k2 l0 l1 (x5_1 ++ [(⟨bt269.1, bt269.2.1, bt269.2.2.1, bt269.2.2.2.1, bt269.2.2.2.2.1, bt269.2.2.2.2.2⟩ : S50)]) (wrap64 (x6_1 + 1))) else (none))) else (none)) else (none)) = some r := by rw [if_pos rfl] at H; exact H
           clear H
           have H := H1
           clear H1
           by_cases c10 : 0 ≤ x6_1
           · rw [if_pos c10] at H
             have c10b0 : decide (0 ≤ x6_1) = true := decide_eq_true c10
             clear c10
             by_cases c11 : x6_1 < (l0.length : Int)
             · rw [if_pos c11] at H
               have c11b0 : decide (x6_1 < (l0.length : Int)) = true := decide_eq_true c11
               clear c11
               replace H := Option.bind_eq_some_iff.mp H
               obtain ⟨⟨t269, t270, t271, t272, t275, t278⟩, A120, H⟩ := H
               replace H : (if x5_1.length < 1759218604441 then (banksmanref13_Keep.l0 k2 l0 l1 (x5_1 ++ [(⟨t269, t270, t271, t272, t275, t278⟩ : S50)]) (wrap64 (x6_1 + 1))) else (none)) = some r := H
               have A12 := m0_ A120
               clear A120
               by_cases c13 : x5_1.length < 1759218604441
               · rw [if_pos c13] at H
                 have LMc13 := m0_ c13
                 clear c13
                 obtain ⟨y279, hy279⟩ : ∃ y_ : List (S50), y_ = (x5_1 ++ [(⟨t269, t270, t271, t272, t275, t278⟩ : S50)]) := ⟨_, rfl⟩
                 replace H : (banksmanref13_Keep.l0 k2 l0 l1 y279 (wrap64 (x6_1 + 1))) = some r := by first | (rw [hy279]; with_reducible exact H) | (have H2_ := (Option.bind_some _ _).symm.trans H; rw [hy279]; with_reducible exact H2_) | (have H2_ := (Option.bind_some _ _).symm.trans H; with_reducible exact H2_) | with_reducible exact H | (rw [hy279]; exact H) | exact H
                 have Ny279 := m0_ hy279
                 clear hy279
                 have H' := m0_ H
                 clear H
                 have p268 : 0 ≤ (x6_1 : Int) := dT_
                 have q268 : x6_1 < (l0.length : Int) := dT_
                 obtain ⟨ad268, A268_3, c268_3, A268_4, c268_4, e268, hx268_0, hx268_1, hx268_2, hx268_3, hx268_4, hx268_5, hl268_3, hi268_3, hl268_4, hi268_4⟩ := at_T50 HR0.out x6_1 p268 q268
                 cases e268
                 replace hx268_0 := (HB.out.cell (bL_ w _ hx268_0)).trans hx268_0
                 replace hx268_1 := (HB.out.cell (bL_ w _ hx268_1)).trans hx268_1
                 replace hx268_2 := (HB.out.cell (bL_ w _ hx268_2)).trans hx268_2
                 replace hx268_3 := (HB.out.cell (bL_ w _ hx268_3)).trans hx268_3
                 replace hx268_4 := (HB.out.cell (bL_ w _ hx268_4)).trans hx268_4
                 replace hx268_5 := (HB.out.cell (bL_ w _ hx268_5)).trans hx268_5
                 have HR268_3 := m0_ hi268_3
                 have HC268_3 := m0_ hl268_3
                 clear hi268_3 hl268_3
                 have HR268_4 := m0_ hi268_4
                 have HC268_4 := m0_ hl268_4
                 clear hi268_4 hl268_4
                 replace p268 := eq_true p268
                 replace q268 := eq_true q268
                 go_wp2_with (first | (go_at_call 53; (with_reducible refine (banksmanref13_Copy.calls k2 ((rd_T50 l0 x6_1).f0) ((rd_T50 l0 x6_1).f1) ((rd_T50 l0 x6_1).f2) _ _ ((rd_T50 l0 x6_1).f3) _ _ ((rd_T50 l0 x6_1).f4) ((rd_T50 l0 x6_1).f5) t269 t270 t271 t272 t275 t278 _ ?side1 ?side2 ?side3 ?side4 A12.out).mono ?_); (case side1 => repeat (first | exact (kB_ HR268_3.out HB.out) | (with_reducible first | refine kA_ ?_ _ | refine kN_ ?_ _ | refine kD_ ?_))); (case side2 => exact HC268_3.out); (case side3 => repeat (first | exact (kB_ HR268_4.out HB.out) | (with_reducible first | refine kA_ ?_ _ | refine kN_ ?_ _ | refine kD_ ?_))); (case side4 => exact HC268_4.out); rintro e w14 ⟨v273, v276, rfl, ho0, ho1, hb⟩; have n0_ := m0_ (Kd.R_mono (Kd.R_told (Kd.R_told (Kd.R_old (by (with_reducible repeat (first | apply Kd.R_alloc | apply Kd.R_drewN | apply Kd.R_drew)); exact HO_5.out) hb) (Kd.S_base ho0)) (Kd.S_base ho1)) (fun _ h_ => h_.1)); have n1_ := m0_ (Kd.S_lower ho0 (below_size (by repeat (first | (with_reducible first | exact HB.out | apply bA_ | apply dN_ | apply b1_) | exact HB.out)))); have n2_ := m0_ (Kd.S_lower ho1 (below_size (by repeat (first | (with_reducible first | exact HB.out | apply bA_ | apply dN_ | apply b1_) | exact HB.out)))); have n3_ := m0_ (below_step (by repeat (first | (with_reducible first | exact HB.out | apply bA_ | apply dN_ | apply b1_) | exact HB.out)) hb); clear HO_5; clear HB; have HO_5 := n0_; have HO274 := n1_; have HO277 := n2_; have HB := n3_; clear n0_ n1_ n2_ n3_; (try clear hb); (try clear hb2); (try clear hk); (try clear hi); (try clear ho0); (try clear ho1); obtain ⟨Ao16, co16, eo16⟩ := Kd.S_slice HO274.out; subst eo16; obtain ⟨Ao17, co17, eo17⟩ := Kd.S_slice HO277.out; subst eo17) | ((with_reducible refine gate_builtin (b := .append) (xs := #[.tmp 36, .tmp 42]) rfl ?_); at_builtin; refine Kd.R_append k50 (w0 := w) w.heap.size rfl (.tmp 36) (.tmp 42) 26 50 (.agg #[(.int .i64 0), (.int .i64 0), (.bool false), (.slice none 0 0), (.slice none 0 0), (.bool false)]) 80 rfl Try.underlying26 info50 rfl (by decide) (by omega) u5 x5_1 (⟨t269, t270, t271, t272, t275, t278⟩ : S50) [.int .i64 t269, .int .i64 t270, .bool t271, .slice Ao16 t272.length co16, .slice Ao17 t275.length co17, .bool t278] (fun _ => True) (fun k_ => ((fun _ => True)) k_ ∧ some k_ ≠ (u5 : Value).ownBlock) rfl rfl ?aP (fun _ hk => hk) ?aF ?aO ?aB ?aS ?aL ?_; (case aP => exact k50_mkM _ _ _ (⟨t269, t270, t271, t272, t275, t278⟩ : S50) (Kd.R_mono (Kd.R_apart' ((Kd.S_R HO274.out)) (Kd.R_typed HO_5.out) (by decide)) (fun k_ hk => ⟨trivial, hk.2⟩)) (Kd.R_mono (Kd.R_apart' ((Kd.S_R HO277.out)) (Kd.R_typed HO_5.out) (by decide)) (fun k_ hk => ⟨trivial, hk.2⟩))); (case aB => exact (by repeat (first | (with_reducible first | exact HB.out | apply bA_ | apply dN_ | apply b1_) | exact HB.out))); (case aF => exact (fun _ _ => trivial)); (case aO => exact (by (with_reducible repeat (first | apply Kd.R_alloc | apply Kd.R_drewN | apply Kd.R_drew)); exact Kd.R_mono HO_5.out (fun _ hk => trivial))); (case aS => exact (below_size (by repeat (first | (with_reducible first | exact HB.out | apply bA_ | apply dN_ | apply b1_) | exact HB.out)))); (case aL => have := LMc13.out; omega); intro v280 w15 ho hb hg hat; rw [← Ny279.out] at ho; have n0_ := m0_ (hb); have n1_ := m0_ (ho); clear HB; clear HO_5; clear HO274; clear HO277; have HB := n0_; have HO281 := n1_; clear n0_ n1_; clear ho hb hg hat))
                 repeat (go_quiet (first | (go_at_call 53; (with_reducible refine (banksmanref13_Copy.calls k2 ((rd_T50 l0 x6_1).f0) ((rd_T50 l0 x6_1).f1) ((rd_T50 l0 x6_1).f2) _ _ ((rd_T50 l0 x6_1).f3) _ _ ((rd_T50 l0 x6_1).f4) ((rd_T50 l0 x6_1).f5) t269 t270 t271 t272 t275 t278 _ ?side1 ?side2 ?side3 ?side4 A12.out).mono ?_); (case side1 => repeat (first | exact (kB_ HR268_3.out HB.out) | (with_reducible first | refine kA_ ?_ _ | refine kN_ ?_ _ | refine kD_ ?_))); (case side2 => exact HC268_3.out); (case side3 => repeat (first | exact (kB_ HR268_4.out HB.out) | (with_reducible first | refine kA_ ?_ _ | refine kN_ ?_ _ | refine kD_ ?_))); (case side4 => exact HC268_4.out); rintro e w14 ⟨v273, v276, rfl, ho0, ho1, hb⟩; have n0_ := m0_ (Kd.R_mono (Kd.R_told (Kd.R_told (Kd.R_old (by (with_reducible repeat (first | apply Kd.R_alloc | apply Kd.R_drewN | apply Kd.R_drew)); exact HO_5.out) hb) (Kd.S_base ho0)) (Kd.S_base ho1)) (fun _ h_ => h_.1)); have n1_ := m0_ (Kd.S_lower ho0 (below_size (by repeat (first | (with_reducible first | exact HB.out | apply bA_ | apply dN_ | apply b1_) | exact HB.out)))); have n2_ := m0_ (Kd.S_lower ho1 (below_size (by repeat (first | (with_reducible first | exact HB.out | apply bA_ | apply dN_ | apply b1_) | exact HB.out)))); have n3_ := m0_ (below_step (by repeat (first | (with_reducible first | exact HB.out | apply bA_ | apply dN_ | apply b1_) | exact HB.out)) hb); clear HO_5; clear HB; have HO_5 := n0_; have HO274 := n1_; have HO277 := n2_; have HB := n3_; clear n0_ n1_ n2_ n3_; (try clear hb); (try clear hb2); (try clear hk); (try clear hi); (try clear ho0); (try clear ho1); obtain ⟨Ao16, co16, eo16⟩ := Kd.S_slice HO274.out; subst eo16; obtain ⟨Ao17, co17, eo17⟩ := Kd.S_slice HO277.out; subst eo17) | ((with_reducible refine gate_builtin (b := .append) (xs := #[.tmp 36, .tmp 42]) rfl ?_); at_builtin; refine Kd.R_append k50 (w0 := w) w.heap.size rfl (.tmp 36) (.tmp 42) 26 50 (.agg #[(.int .i64 0), (.int .i64 0), (.bool false), (.slice none 0 0), (.slice none 0 0), (.bool false)]) 80 rfl Try.underlying26 info50 rfl (by decide) (by omega) u5 x5_1 (⟨t269, t270, t271, t272, t275, t278⟩ : S50) [.int .i64 t269, .int .i64 t270, .bool t271, .slice Ao16 t272.length co16, .slice Ao17 t275.length co17, .bool t278] (fun _ => True) (fun k_ => ((fun _ => True)) k_ ∧ some k_ ≠ (u5 : Value).ownBlock) rfl rfl ?aP (fun _ hk => hk) ?aF ?aO ?aB ?aS ?aL ?_; (case aP => exact k50_mkM _ _ _ (⟨t269, t270, t271, t272, t275, t278⟩ : S50) (Kd.R_mono (Kd.R_apart' ((Kd.S_R HO274.out)) (Kd.R_typed HO_5.out) (by decide)) (fun k_ hk => ⟨trivial, hk.2⟩)) (Kd.R_mono (Kd.R_apart' ((Kd.S_R HO277.out)) (Kd.R_typed HO_5.out) (by decide)) (fun k_ hk => ⟨trivial, hk.2⟩))); (case aB => exact (by repeat (first | (with_reducible first | exact HB.out | apply bA_ | apply dN_ | apply b1_) | exact HB.out))); (case aF => exact (fun _ _ => trivial)); (case aO => exact (by (with_reducible repeat (first | apply Kd.R_alloc | apply Kd.R_drewN | apply Kd.R_drew)); exact Kd.R_mono HO_5.out (fun _ hk => trivial))); (case aS => exact (below_size (by repeat (first | (with_reducible first | exact HB.out | apply bA_ | apply dN_ | apply b1_) | exact HB.out)))); (case aL => have := LMc13.out; omega); intro v280 w15 ho hb hg hat; rw [← Ny279.out] at ho; have n0_ := m0_ (hb); have n1_ := m0_ (ho); clear HB; clear HO_5; clear HO274; clear HO277; have HB := n0_; have HO281 := n1_; clear n0_ n1_; clear ho hb hg hat)); try go_wp2_with (first | (go_at_call 53; (with_reducible refine (banksmanref13_Copy.calls k2 ((rd_T50 l0 x6_1).f0) ((rd_T50 l0 x6_1).f1) ((rd_T50 l0 x6_1).f2) _ _ ((rd_T50 l0 x6_1).f3) _ _ ((rd_T50 l0 x6_1).f4) ((rd_T50 l0 x6_1).f5) t269 t270 t271 t272 t275 t278 _ ?side1 ?side2 ?side3 ?side4 A12.out).mono ?_); (case side1 => repeat (first | exact (kB_ HR268_3.out HB.out) | (with_reducible first | refine kA_ ?_ _ | refine kN_ ?_ _ | refine kD_ ?_))); (case side2 => exact HC268_3.out); (case side3 => repeat (first | exact (kB_ HR268_4.out HB.out) | (with_reducible first | refine kA_ ?_ _ | refine kN_ ?_ _ | refine kD_ ?_))); (case side4 => exact HC268_4.out); rintro e w14 ⟨v273, v276, rfl, ho0, ho1, hb⟩; have n0_ := m0_ (Kd.R_mono (Kd.R_told (Kd.R_told (Kd.R_old (by (with_reducible repeat (first | apply Kd.R_alloc | apply Kd.R_drewN | apply Kd.R_drew)); exact HO_5.out) hb) (Kd.S_base ho0)) (Kd.S_base ho1)) (fun _ h_ => h_.1)); have n1_ := m0_ (Kd.S_lower ho0 (below_size (by repeat (first | (with_reducible first | exact HB.out | apply bA_ | apply dN_ | apply b1_) | exact HB.out)))); have n2_ := m0_ (Kd.S_lower ho1 (below_size (by repeat (first | (with_reducible first | exact HB.out | apply bA_ | apply dN_ | apply b1_) | exact HB.out)))); have n3_ := m0_ (below_step (by repeat (first | (with_reducible first | exact HB.out | apply bA_ | apply dN_ | apply b1_) | exact HB.out)) hb); clear HO_5; clear HB; have HO_5 := n0_; have HO274 := n1_; have HO277 := n2_; have HB := n3_; clear n0_ n1_ n2_ n3_; (try clear hb); (try clear hb2); (try clear hk); (try clear hi); (try clear ho0); (try clear ho1); obtain ⟨Ao16, co16, eo16⟩ := Kd.S_slice HO274.out; subst eo16; obtain ⟨Ao17, co17, eo17⟩ := Kd.S_slice HO277.out; subst eo17) | ((with_reducible refine gate_builtin (b := .append) (xs := #[.tmp 36, .tmp 42]) rfl ?_); at_builtin; refine Kd.R_append k50 (w0 := w) w.heap.size rfl (.tmp 36) (.tmp 42) 26 50 (.agg #[(.int .i64 0), (.int .i64 0), (.bool false), (.slice none 0 0), (.slice none 0 0), (.bool false)]) 80 rfl Try.underlying26 info50 rfl (by decide) (by omega) u5 x5_1 (⟨t269, t270, t271, t272, t275, t278⟩ : S50) [.int .i64 t269, .int .i64 t270, .bool t271, .slice Ao16 t272.length co16, .slice Ao17 t275.length co17, .bool t278] (fun _ => True) (fun k_ => ((fun _ => True)) k_ ∧ some k_ ≠ (u5 : Value).ownBlock) rfl rfl ?aP (fun _ hk => hk) ?aF ?aO ?aB ?aS ?aL ?_; (case aP => exact k50_mkM _ _ _ (⟨t269, t270, t271, t272, t275, t278⟩ : S50) (Kd.R_mono (Kd.R_apart' ((Kd.S_R HO274.out)) (Kd.R_typed HO_5.out) (by decide)) (fun k_ hk => ⟨trivial, hk.2⟩)) (Kd.R_mono (Kd.R_apart' ((Kd.S_R HO277.out)) (Kd.R_typed HO_5.out) (by decide)) (fun k_ hk => ⟨trivial, hk.2⟩))); (case aB => exact (by repeat (first | (with_reducible first | exact HB.out | apply bA_ | apply dN_ | apply b1_) | exact HB.out))); (case aF => exact (fun _ _ => trivial)); (case aO => exact (by (with_reducible repeat (first | apply Kd.R_alloc | apply Kd.R_drewN | apply Kd.R_drew)); exact Kd.R_mono HO_5.out (fun _ hk => trivial))); (case aS => exact (below_size (by repeat (first | (with_reducible first | exact HB.out | apply bA_ | apply dN_ | apply b1_) | exact HB.out)))); (case aL => have := LMc13.out; omega); intro v280 w15 ho hb hg hat; rw [← Ny279.out] at ho; have n0_ := m0_ (hb); have n1_ := m0_ (ho); clear HB; clear HO_5; clear HO274; clear HO277; have HB := n0_; have HO281 := n1_; clear n0_ n1_; clear ho hb hg hat)))
                 go_roundg k2
                 case measure => have := HK1.out; have := HK2.out; omega
                 case rel => exact ⟨(y279), (wrap64 (x6_1 + 1)), (by first | rfl | (simp; done) | (simp [*]; done)), H', ⟨by have := HK1.out; have := HK2.out; omega⟩, ⟨by (with_reducible repeat (first | apply Kd.R_alloc | apply Kd.R_drewN | apply Kd.R_drew)); exact HO281.out⟩, ⟨by repeat (first | (with_reducible first | exact HB.out | apply bA_ | apply dN_ | apply b1_) | exact HB.out)⟩⟩
               · rw [if_neg c13] at H
                 exact absurd H (by simp)
             · rw [if_neg c11] at H
               exact absurd H (by simp)
           · rw [if_neg c10] at H
             exact absurd H (by simp)
         · replace c9 := Bool.eq_false_iff.mpr c9
           subst c9
           have H1 : (banksmanref13_Keep.l0 k2 l0 l1 x5_1 (wrap64 (x6_1 + 1))) = some r := by rw [if_neg (show ¬ (false = true) by decide)] at H; exact H
           clear H
           have H := H1
           clear H1
           have H' := m0_ H
           clear H
           go_wp2
           repeat (go_quiet (fail); try go_wp2)
           go_roundg k2
           case measure => have := HK1.out; have := HK2.out; omega
           case rel => exact ⟨(x5_1), (wrap64 (x6_1 + 1)), (by first | rfl | (simp; done) | (simp [*]; done)), H', ⟨by have := HK1.out; have := HK2.out; omega⟩, ⟨by (with_reducible repeat (first | apply Kd.R_alloc | apply Kd.R_drewN | apply Kd.R_drew)); exact HO_5.out⟩, ⟨by repeat (first | (with_reducible first | exact HB.out | apply bA_ | apply dN_ | apply b1_) | exact HB.out)⟩⟩
   · rw [if_neg c3] at H
     have c3b0 : decide (x6_1 < (l0.length : Int)) = false := decide_eq_false c3
     clear c3
     obtain rfl := sO_ H
     go_wp2
     repeat (go_quiet (fail); try go_wp2)
     go_ret
     exact ⟨_, by first | rfl | (simp [errW_none, errW_some] <;> rfl) | (simp [*, errW_none, errW_some] <;> rfl), by (with_reducible repeat (first | apply Kd.R_alloc | apply Kd.R_drewN | apply Kd.R_drew)); exact HO_5.out, by repeat (first | (with_reducible first | exact HB.out | apply bA_ | apply dN_ | apply b1_) | exact HB.out)⟩
def banksmanref14_Meets.f (k : Nat) (a0 : Int) (l1 : List (S50)) : Option ((List (S50))) := (banksmanref13_Keep.f k l1 (([(⟨a0, ([] : List (S57))⟩ : S24)] : List (S24)))).bind fun t285 => (some t285)
set_option maxHeartbeats 8000000 in
set_option maxRecDepth 100000 in
theorem banksmanref14_Meets.calls (k : Nat) (a0 : Int) (A1 : Option Addr) (c1 : Nat) (l1 : List (S50)) (r : List (S50)) (w : World) (hr1 : Kd.C k50 w A1 l1.length l1) (hc1 : l1.length ≤ c1) (h : banksmanref14_Meets.f k a0 l1 = some r) :
  Calls Try.prog 16 #[.int .i64 a0, .slice A1 l1.length c1] w fun e w' => ∃ v0_ : Value, e = .returned (v0_) ∧ Kd.R k50 50 w' w.heap.size (fun _ => True) v0_ r ∧ Below w.heap.size w w' := by
 have hu24 := Try.underlying24
 have HR1 := m0_ hr1
 have HC1 := m0_ hc1
 clear hr1 hc1
 have HB := m0_ (Below.refl w.heap.size w)
 have H : ((banksmanref13_Keep.f k l1 (([(⟨a0, ([] : List (S57))⟩ : S24)] : List (S24)))).bind fun t285 => (some t285)) = some r := h
 clear h
 obtain ⟨y282, hy282⟩ : ∃ y_ : List (S24), y_ = (([(⟨a0, ([] : List (S57))⟩ : S24)] : List (S24))) := ⟨_, rfl⟩
 replace H : ((banksmanref13_Keep.f k l1 y282).bind fun t285 => (some t285)) = some r := by first | (rw [hy282]; with_reducible exact H) | (have H2_ := (Option.bind_some _ _).symm.trans H; rw [hy282]; with_reducible exact H2_) | (have H2_ := (Option.bind_some _ _).symm.trans H; with_reducible exact H2_) | with_reducible exact H | (rw [hy282]; exact H) | exact H
 have Ny282 := m0_ hy282
 clear hy282
 replace H := Option.bind_eq_some_iff.mp H
 obtain ⟨t285, A30, H⟩ := H
 replace H : (some t285) = some r := H
 have A3 := m0_ A30
 clear A30
 obtain rfl := sO_ H
 go_enter Try.func16, Try.ntmps16
 go_wp2_with (first | ((with_reducible refine gate_dst (N := 8) rfl ?_); refine Kd.R_lit k24 _ 24 ?hg (N := 8) ?hd (xs := ([(⟨a0, ([] : List (S57))⟩ : S24)] : List (S24))) (inner := [.int .i64 a0, .slice none 0 0]) (ok := fun _ => True) (okp := fun _ => True) ?hr ?hp (fun _ hk => hk) trivial (Below.refl _ _) (Nat.le_refl _) (by simp) ?_; (case hd => rfl); (case hg => rfl); (case hr => first | (go_simp; done) | (go_simp; rfl)); (case hp => exact (Reps.c2 (show Kd.M k24 _ _ _ (⟨a0, ([] : List (S57))⟩ : S24) [.int .i64 a0, .slice none 0 0] from (k24_mkM _ _ _ (⟨a0, ([] : List (S57))⟩ : S24) (Kd.R_nil _ _ _ _ _))) (Reps.none _ _))); intro v283 w4 ho5 hb hg_ hnew_; clear hg_ hnew_; (first | rw [← Ny282.out] at ho5 | (simp only [Int.reduceToNat] at ho5; rw [← Ny282.out] at ho5)); have n0_ := m0_ (Kd.R_lower ho5 (below_size (by repeat (first | (with_reducible first | exact HB.out | apply bA_ | apply dN_ | apply b1_) | exact HB.out)))); have n1_ := m0_ (below_step (by repeat (first | (with_reducible first | exact HB.out | apply bA_ | apply dN_ | apply b1_) | exact HB.out)) hb); clear HB; have HO284 := n0_; have HB := n1_; clear n0_ n1_; clear hb ho5; obtain ⟨Ao6, co6, eo6⟩ := Kd.R_slice HO284.out; subst eo6) | ((with_reducible refine gate_callee (f := 33) rfl ?_); refine goesL_ (some 9) rfl rfl Try.func33 (by kernel_rfl) rfl #[.slice A1 l1.length c1, .slice Ao6 y282.length co6] rfl (by (try simp only [mT_, mC_, mN_]); first | done | rfl | (simp only [lD_, lT_]; rfl)) ?_; (with_reducible refine (banksmanref13_Keep.calls k _ _ l1 _ _ y282 t285 _ ?side1 ?side2 ?side3 ?side4 A3.out).mono ?_); (case side1 => repeat (first | exact (kB_ HR1.out HB.out) | (with_reducible first | refine kA_ ?_ _ | refine kN_ ?_ _ | refine kD_ ?_))); (case side2 => exact HC1.out); (case side3 => repeat (first | exact (Kd.R_reads' HO284.out).2.2 | (with_reducible first | refine kA_ ?_ _ | refine kN_ ?_ _ | refine kD_ ?_))); (case side4 => exact (Kd.R_reads' HO284.out).2.1); rintro e w7 ⟨v286, rfl, ho0, hb⟩; refine ⟨_, rfl, ?_⟩; have n0_ := m0_ (Kd.R_below (by (with_reducible repeat (first | apply Kd.R_alloc | apply Kd.R_drewN | apply Kd.R_drew)); exact HO284.out) hb); have n1_ := m0_ (Kd.R_lower ho0 (below_size (by repeat (first | (with_reducible first | exact HB.out | apply bA_ | apply dN_ | apply b1_) | exact HB.out)))); have n2_ := m0_ (below_step (by repeat (first | (with_reducible first | exact HB.out | apply bA_ | apply dN_ | apply b1_) | exact HB.out)) hb); clear HO284; clear HB; have HO284 := n0_; have HO287 := n1_; have HB := n2_; clear n0_ n1_ n2_; (try clear hb); (try clear hb2); (try clear hk); (try clear hi); (try clear ho0)))
 go_ret
 exact ⟨_, by first | rfl | (simp [errW_none, errW_some] <;> rfl) | (simp [*, errW_none, errW_some] <;> rfl), by (with_reducible repeat (first | apply Kd.R_alloc | apply Kd.R_drewN | apply Kd.R_drew)); exact HO287.out, by repeat (first | (with_reducible first | exact HB.out | apply bA_ | apply dN_ | apply b1_) | exact HB.out)⟩
mutual
def banksmanref13_Hit.l0 : Nat → List (S57) → List (S59) → Int → Option (Bool)
 | 0, _, _, _ => none
 | k + 1, x0, x1, x5 => if x5 < (x0.length : Int) then (banksmanref13_Hit.l1 k x0 x1 x5 0) else (some false)
def banksmanref13_Hit.l1 : Nat → List (S57) → List (S59) → Int → Int → Option (Bool)
 | 0, _, _, _, _ => none
 | k + 1, x0, x1, x5, x6 => if x6 < (x1.length : Int) then (if 0 ≤ x5 then (if x5 < (x0.length : Int) then (if 0 ≤ x6 then ((banksmanref10_In.f ((rd_T57 x0 x5).f0) ((rd_T57 x0 x5).f1) ((rd_T57 x0 x5).f2) ((rd_T57 x0 x5).f3) ((rd_T59 x1 x6).f0) ((rd_T59 x1 x6).f1)).bind fun t292 => (if t292 = true then (some true) else (banksmanref13_Hit.l1 k x0 x1 x5 (wrap64 (x6 + 1))))) else (none)) else (none)) else (none)) else (banksmanref13_Hit.l0 k x0 x1 (wrap64 (x5 + 1)))
end
def banksmanref13_Hit.f (k : Nat) (l0 : List (S57)) (l1 : List (S59)) : Option (Bool) := banksmanref13_Hit.l0 k l0 l1 0
def banksmanref13_Hit.T7 : Bool × List (List Nat × List Nat) := (true, [([], []), ([], []), ([0, 1], [0, 1]), ([2], [2]), ([], []), ([], []), ([4, 5], [4, 5]), ([6], [6]), ([7], [7]), ([], []), ([], []), ([9, 10], [9, 10]), ([11], [11]), ([12], [12]), ([3, 8, 13], [3, 8, 13]), ([14, 14, 0, 1, 2, 3, 4, 5, 6, 7, 8, 9, 10, 11, 12, 13, 14], [14])])
def banksmanref13_Hit.B7 : List Nat := [0, 0, 3, 7, 0, 0, 48, 112, 240, 0, 0, 1536, 3584, 7680, 16383, 32767]
theorem banksmanref13_Hit.tab7 : rtab .any (opsOf Try.f19 7) = banksmanref13_Hit.T7 := by kernel_rfl
theorem banksmanref13_Hit.bits7 : waitsOk banksmanref13_Hit.T7.2 banksmanref13_Hit.B7 = true := by kernel_rfl
set_option maxHeartbeats 8000000 in
set_option maxRecDepth 100000 in
theorem banksmanref13_Hit.calls (k : Nat) (A0 : Option Addr) (c0 : Nat) (l0 : List (S57)) (A1 : Option Addr) (c1 : Nat) (l1 : List (S59)) (r : Bool) (w : World) (hr0 : Kd.C k57 w A0 l0.length l0) (hc0 : l0.length ≤ c0) (hr1 : Kd.C k59 w A1 l1.length l1) (hc1 : l1.length ≤ c1) (h : banksmanref13_Hit.f k l0 l1 = some r) :
  Calls Try.prog 19 #[.slice A0 l0.length c0, .slice A1 l1.length c1] w fun e w' => e = .returned (.bool r) ∧ Below w.heap.size w w' := by
 have hu57 := Try.underlying57
 have HR0 := m0_ hr0
 have HC0 := m0_ hc0
 clear hr0 hc0
 have HR1 := m0_ hr1
 have HC1 := m0_ hc1
 clear hr1 hc1
 have HB := m0_ (Below.refl w.heap.size w)
 have H : (banksmanref13_Hit.l0 k l0 l1 0) = some r := h
 clear h
 have H' := m0_ H
 clear H
 go_enter Try.func19, Try.ntmps19
 go_wp2
 go_loopg [5] k (fun kq v5 w' => ∃ (x5_1 : Int), v5 = .int .i64 x5_1 ∧ Aside0 (banksmanref13_Hit.l0 kq l0 l1 x5_1 = some r) ∧ Aside0 (kq ≤ k) ∧ Aside0 (Below w.heap.size w w'))
 case atStart => exact ⟨(0), (by first | rfl | (simp; done) | (simp [*]; done)), H', ⟨Nat.le_refl _⟩, ⟨by repeat (first | (with_reducible first | exact HB.out | apply bA_ | apply dN_ | apply b1_) | exact HB.out)⟩⟩
 case round =>
  clear H'
  try clear c1
  try clear p2
  obtain ⟨x5_1, rfl, HA, HK1, HB⟩ := hrel
  cases gk with
  | zero => exact absurd HA.out (by simp [banksmanref13_Hit.l0])
  | succ k1 =>
   have H := HA.out
   clear HA
   simp only [banksmanref13_Hit.l0] at H
   by_cases c3 : x5_1 < (l0.length : Int)
   · rw [if_pos c3] at H
     have c3b0 : decide (x5_1 < (l0.length : Int)) = true := decide_eq_true c3
     clear c3
     have H' := m0_ H
     clear H
     go_wp2
     go_loopg [6] k1 (fun kq v6 w' => ∃ (x6_2 : Int), v6 = .int .i64 x6_2 ∧ Aside0 (banksmanref13_Hit.l1 kq l0 l1 x5_1 x6_2 = some r) ∧ Aside0 (kq ≤ k1) ∧ Aside0 (Below w.heap.size w w'))
     case atStart => exact ⟨(0), (by first | rfl | (simp; done) | (simp [*]; done)), H', ⟨Nat.le_refl _⟩, ⟨by repeat (first | (with_reducible first | exact HB.out | apply bA_ | apply dN_ | apply b1_) | exact HB.out)⟩⟩
     case round =>
      clear H'
      try clear c1
      try clear p2
      try clear c3
      try clear c3b0
      try clear p2
      obtain ⟨x6_2, rfl, HA, HK2, HB⟩ := hrel
      cases gk with
      | zero => exact absurd HA.out (by simp [banksmanref13_Hit.l1])
      | succ k2 =>
       have H := HA.out
       clear HA
       simp only [banksmanref13_Hit.l1] at H
       by_cases c4 : x6_2 < (l1.length : Int)
       · rw [if_pos c4] at H
         have c4b0 : decide (x6_2 < (l1.length : Int)) = true := decide_eq_true c4
         clear c4
         by_cases c5 : 0 ≤ x5_1
         · rw [if_pos c5] at H
           have c5b0 : decide (0 ≤ x5_1) = true := decide_eq_true c5
           clear c5
           by_cases c6 : x5_1 < (l0.length : Int)
           · rw [if_pos c6] at H
             have c6b0 : decide (x5_1 < (l0.length : Int)) = true := decide_eq_true c6
             clear c6
             by_cases c7 : 0 ≤ x6_2
             · rw [if_pos c7] at H
               have c7b0 : decide (0 ≤ x6_2) = true := decide_eq_true c7
               clear c7
               replace H := Option.bind_eq_some_iff.mp H
               obtain ⟨t292, A80, H⟩ := H
               replace H : (if t292 = true then (some true) else (banksmanref13_Hit.l1 k2 l0 l1 x5_1 (wrap64 (x6_2 + 1)))) = some r := H
               have A8 := m0_ A80
               clear A80
               by_cases c9 : t292 = true
               · subst c9
                 have H1 : (some true) = some r := by rw [if_pos rfl] at H; exact H
                 clear H
                 have H := H1
                 clear H1
                 obtain rfl := sO_ H
                 try go_wp2
                 have n0_ := m0_ (b1_ HB.out)
                 clear HB
                 have HB := n0_
                 clear n0_
                 have p289 : 0 ≤ (x5_1 : Int) := dT_
                 have q289 : x5_1 < (l0.length : Int) := dT_
                 obtain ⟨ad289, A289_1, c289_1, A289_2, c289_2, e289, hx289_0, hx289_1, hx289_2, hx289_3, hl289_1, hi289_1, hl289_2, hi289_2⟩ := at_T57 HR0.out x5_1 p289 q289
                 have hw289_3 := hx289_3
                 have hw289_2 := hx289_2
                 have hw289_1 := hx289_1
                 have hw289_0 := hx289_0
                 cases e289
                 replace hx289_0 := (HB.out.cell (bL_ w _ hx289_0)).trans hx289_0
                 replace hx289_1 := (HB.out.cell (bL_ w _ hx289_1)).trans hx289_1
                 replace hx289_2 := (HB.out.cell (bL_ w _ hx289_2)).trans hx289_2
                 replace hx289_3 := (HB.out.cell (bL_ w _ hx289_3)).trans hx289_3
                 have HR289_1 := m0_ hi289_1
                 have HC289_1 := m0_ hl289_1
                 clear hi289_1 hl289_1
                 have HR289_2 := m0_ hi289_2
                 have HC289_2 := m0_ hl289_2
                 clear hi289_2 hl289_2
                 replace p289 := eq_true p289
                 replace q289 := eq_true q289
                 have p290 : 0 ≤ (x6_2 : Int) := dT_
                 have q290 : x6_2 < (l1.length : Int) := dT_
                 obtain ⟨ad290, A290_1, c290_1, A290_3, c290_3, e290, hx290_0, hx290_1, hx290_2, hx290_3, hl290_1, hi290_1, hl290_3, hi290_3⟩ := at_T59 HR1.out x6_2 p290 q290
                 have hw290_3 := hx290_3
                 have hw290_2 := hx290_2
                 have hw290_1 := hx290_1
                 have hw290_0 := hx290_0
                 cases e290
                 replace hx290_0 := (HB.out.cell (bL_ w _ hx290_0)).trans hx290_0
                 replace hx290_1 := (HB.out.cell (bL_ w _ hx290_1)).trans hx290_1
                 replace hx290_2 := (HB.out.cell (bL_ w _ hx290_2)).trans hx290_2
                 replace hx290_3 := (HB.out.cell (bL_ w _ hx290_3)).trans hx290_3
                 have HR290_1 := m0_ hi290_1
                 have HC290_1 := m0_ hl290_1
                 clear hi290_1 hl290_1
                 have HR290_3 := m0_ hi290_3
                 have HC290_3 := m0_ hl290_3
                 clear hi290_3 hl290_3
                 replace p290 := eq_true p290
                 replace q290 := eq_true q290
                 have p291 : 0 ≤ (x6_2 : Int) := dT_
                 have q291 : x6_2 < (l1.length : Int) := dT_
                 obtain ⟨ad291, A291_1, c291_1, A291_3, c291_3, e291, hx291_0, hx291_1, hx291_2, hx291_3, hl291_1, hi291_1, hl291_3, hi291_3⟩ := at_T59 HR1.out x6_2 p291 q291
                 have hw291_3 := hx291_3
                 have hw291_2 := hx291_2
                 have hw291_1 := hx291_1
                 have hw291_0 := hx291_0
                 obtain rfl : ad290 = ad291 := (by injection e291)
                 replace hx291_0 := (HB.out.cell (bL_ w _ hx291_0)).trans hx291_0
                 replace hx291_1 := (HB.out.cell (bL_ w _ hx291_1)).trans hx291_1
                 replace hx291_2 := (HB.out.cell (bL_ w _ hx291_2)).trans hx291_2
                 replace hx291_3 := (HB.out.cell (bL_ w _ hx291_3)).trans hx291_3
                 have HR291_1 := m0_ hi291_1
                 have HC291_1 := m0_ hl291_1
                 clear hi291_1 hl291_1
                 have HR291_3 := m0_ hi291_3
                 have HC291_3 := m0_ hl291_3
                 clear hi291_3 hl291_3
                 replace p291 := eq_true p291
                 replace q291 := eq_true q291
                 have ea_ := sO_ (hx290_1.symm.trans hx291_1)
                 injection ea_ with ea_ en_ ec_
                 subst ea_
                 subst ec_
                 clear en_
                 have ea_ := sO_ (hx290_3.symm.trans hx291_3)
                 injection ea_ with ea_ en_ ec_
                 subst ea_
                 subst ec_
                 clear en_
                 refine start_ (n := 16) (S := fun w' => w'.cell? (ad289.add ((x5_1).toNat * 4)) = some (.int .i64 ((rd_T57 l0 x5_1).f0)) ∧ w'.cell? ⟨(ad289.add ((x5_1).toNat * 4)).block, (ad289.add ((x5_1).toNat * 4)).off + 1, none⟩ = some (.slice A289_1 ((rd_T57 l0 x5_1).f1).length c289_1) ∧ w'.cell? ⟨(ad289.add ((x5_1).toNat * 4)).block, (ad289.add ((x5_1).toNat * 4)).off + 2, none⟩ = some (.slice A289_2 ((rd_T57 l0 x5_1).f2).length c289_2) ∧ w'.cell? ⟨(ad289.add ((x5_1).toNat * 4)).block, (ad289.add ((x5_1).toNat * 4)).off + 3, none⟩ = some (.bool ((rd_T57 l0 x5_1).f3)) ∧ w'.cell? (ad290.add ((x6_2).toNat * 4)) = some (.int .i64 ((rd_T59 l1 x6_2).f0)) ∧ w'.cell? ⟨(ad290.add ((x6_2).toNat * 4)).block, (ad290.add ((x6_2).toNat * 4)).off + 1, none⟩ = some (.slice A290_1 ((rd_T59 l1 x6_2).f1).length c290_1) ∧ w'.cell? ⟨(ad290.add ((x6_2).toNat * 4)).block, (ad290.add ((x6_2).toNat * 4)).off + 2, none⟩ = some (.bool ((rd_T59 l1 x6_2).f2)) ∧ w'.cell? ⟨(ad290.add ((x6_2).toNat * 4)).block, (ad290.add ((x6_2).toNat * 4)).off + 3, none⟩ = some (.slice A290_3 ((rd_T59 l1 x6_2).f3).length c290_3) ∧ w'.cell? (ad290.add ((x6_2).toNat * 4)) = some (.int .i64 ((rd_T59 l1 x6_2).f0)) ∧ w'.cell? ⟨(ad290.add ((x6_2).toNat * 4)).block, (ad290.add ((x6_2).toNat * 4)).off + 1, none⟩ = some (.slice A290_1 ((rd_T59 l1 x6_2).f1).length c290_1) ∧ w'.cell? ⟨(ad290.add ((x6_2).toNat * 4)).block, (ad290.add ((x6_2).toNat * 4)).off + 2, none⟩ = some (.bool ((rd_T59 l1 x6_2).f2)) ∧ w'.cell? ⟨(ad290.add ((x6_2).toNat * 4)).block, (ad290.add ((x6_2).toNat * 4)).off + 3, none⟩ = some (.slice A290_3 ((rd_T59 l1 x6_2).f3).length c290_3)) (ds := []) #[false, false, false, false, false, false, false, false, false, false, false, false, false, false, false, false] (by kernel_rfl) rfl rfl ⟨((HB.out.cell (bL_ w _ hw289_0)).trans hw289_0), ((HB.out.cell (bL_ w _ hw289_1)).trans hw289_1), ((HB.out.cell (bL_ w _ hw289_2)).trans hw289_2), ((HB.out.cell (bL_ w _ hw289_3)).trans hw289_3), ((HB.out.cell (bL_ w _ hw290_0)).trans hw290_0), ((HB.out.cell (bL_ w _ hw290_1)).trans hw290_1), ((HB.out.cell (bL_ w _ hw290_2)).trans hw290_2), ((HB.out.cell (bL_ w _ hw290_3)).trans hw290_3), ((HB.out.cell (bL_ w _ hw291_0)).trans hw291_0), ((HB.out.cell (bL_ w _ hw291_1)).trans hw291_1), ((HB.out.cell (bL_ w _ hw291_2)).trans hw291_2), ((HB.out.cell (bL_ w _ hw291_3)).trans hw291_3)⟩ (fun hHeld => ?_); refine with_tabW banksmanref13_Hit.tab7 banksmanref13_Hit.bits7 (fun HT_ HW_ => ?_)
                 generalize wr.drew = w10 at HB HR289_1 HR289_2 HR290_1 HR290_3 HR291_1 HR291_3 hx289_0 hx289_1 hx289_2 hx289_3 hx290_0 hx290_1 hx290_2 hx290_3 hx291_0 hx291_1 hx291_2 hx291_3 hHeld ⊢
                 refine pure_ (i := 0) (N := some 20) (v := ?_) (a' := ?_) #[true, false, false, false, false, false, false, false, false, false, false, false, false, false, false, false] rfl rfl (any_of HT_.out (by kernel_rfl)) (fun _ _ _ h => h) (Or.inl ⟨by rfl, ?_⟩) ?_ ?_
                 rotate_left
                 · intro w'
                   go_simp
                   with_reducible rfl
                 rotate_left
                 · simp only [Act.put, sI_, sZ_, sS_, i64_w, i32_w]
                   rfl
                 refine pure_ (i := 1) (N := some 21) (v := ?_) (a' := ?_) #[true, true, false, false, false, false, false, false, false, false, false, false, false, false, false, false] rfl rfl (any_of HT_.out (by kernel_rfl)) (fun _ _ _ h => h) (Or.inl ⟨by rfl, ?_⟩) ?_ ?_
                 rotate_left
                 · intro w'
                   go_simp
                   with_reducible rfl
                 rotate_left
                 · simp only [Act.put, sI_, sZ_, sS_, i64_w, i32_w]
                   rfl
                 refine pure_ (i := 2) (N := some 22) (v := ?_) (a' := ?_) #[true, true, true, false, false, false, false, false, false, false, false, false, false, false, false, false] rfl rfl (any_of HT_.out (by kernel_rfl)) (fun _ _ _ h => h) (Or.inl ⟨by rfl, ?_⟩) ?_ ?_
                 rotate_left
                 · intro w'
                   go_simp
                   with_reducible rfl
                 rotate_left
                 · simp only [Act.put, sI_, sZ_, sS_, i64_w, i32_w]
                   rfl
                 refine pure_ (i := 4) (N := some 24) (v := ?_) (a' := ?_) #[true, true, true, false, true, false, false, false, false, false, false, false, false, false, false, false] rfl rfl (any_of HT_.out (by kernel_rfl)) (fun _ _ _ h => h) (Or.inl ⟨by rfl, ?_⟩) ?_ ?_
                 rotate_left
                 · intro w'
                   go_simp
                   with_reducible rfl
                 rotate_left
                 · simp only [Act.put, sI_, sZ_, sS_, i64_w, i32_w]
                   rfl
                 refine pure_ (i := 5) (N := some 25) (v := ?_) (a' := ?_) #[true, true, true, false, true, true, false, false, false, false, false, false, false, false, false, false] rfl rfl (any_of HT_.out (by kernel_rfl)) (fun _ _ _ h => h) (Or.inl ⟨by rfl, ?_⟩) ?_ ?_
                 rotate_left
                 · intro w'
                   go_simp
                   with_reducible rfl
                 rotate_left
                 · simp only [Act.put, sI_, sZ_, sS_, i64_w, i32_w]
                   rfl
                 refine pure_ (i := 6) (N := some 26) (v := ?_) (a' := ?_) #[true, true, true, false, true, true, true, false, false, false, false, false, false, false, false, false] rfl rfl (any_of HT_.out (by kernel_rfl)) (fun _ _ _ h => h) (Or.inl ⟨by rfl, ?_⟩) ?_ ?_
                 rotate_left
                 · intro w'
                   go_simp
                   with_reducible rfl
                 rotate_left
                 · simp only [Act.put, sI_, sZ_, sS_, i64_w, i32_w]
                   rfl
                 refine pure_ (i := 7) (N := some 27) (v := ?_) (a' := ?_) #[true, true, true, false, true, true, true, true, false, false, false, false, false, false, false, false] rfl rfl (any_of HT_.out (by kernel_rfl)) (fun _ _ _ h => h) (Or.inl ⟨by rfl, ?_⟩) ?_ ?_
                 rotate_left
                 · intro w'
                   go_simp
                   with_reducible rfl
                 rotate_left
                 · simp only [Act.put, sI_, sZ_, sS_, i64_w, i32_w]
                   rfl
                 refine pure_ (i := 9) (N := some 29) (v := ?_) (a' := ?_) #[true, true, true, false, true, true, true, true, false, true, false, false, false, false, false, false] rfl rfl (any_of HT_.out (by kernel_rfl)) (fun _ _ _ h => h) (Or.inl ⟨by rfl, ?_⟩) ?_ ?_
                 rotate_left
                 · intro w'
                   go_simp
                   with_reducible rfl
                 rotate_left
                 · simp only [Act.put, sI_, sZ_, sS_, i64_w, i32_w]
                   rfl
                 refine pure_ (i := 10) (N := some 30) (v := ?_) (a' := ?_) #[true, true, true, false, true, true, true, true, false, true, true, false, false, false, false, false] rfl rfl (any_of HT_.out (by kernel_rfl)) (fun _ _ _ h => h) (Or.inl ⟨by rfl, ?_⟩) ?_ ?_
                 rotate_left
                 · intro w'
                   go_simp
                   with_reducible rfl
                 rotate_left
                 · simp only [Act.put, sI_, sZ_, sS_, i64_w, i32_w]
                   rfl
                 refine pure_ (i := 11) (N := some 31) (v := ?_) (a' := ?_) #[true, true, true, false, true, true, true, true, false, true, true, true, false, false, false, false] rfl rfl (any_of HT_.out (by kernel_rfl)) (fun _ _ _ h => h) (Or.inl ⟨by rfl, ?_⟩) ?_ ?_
                 rotate_left
                 · intro w'
                   go_simp
                   with_reducible rfl
                 rotate_left
                 · simp only [Act.put, sI_, sZ_, sS_, i64_w, i32_w]
                   rfl
                 refine pure_ (i := 12) (N := some 32) (v := ?_) (a' := ?_) #[true, true, true, false, true, true, true, true, false, true, true, true, true, false, false, false] rfl rfl (any_of HT_.out (by kernel_rfl)) (fun _ _ _ h => h) (Or.inl ⟨by rfl, ?_⟩) ?_ ?_
                 rotate_left
                 · intro w'
                   go_simp
                   with_reducible rfl
                 rotate_left
                 · simp only [Act.put, sI_, sZ_, sS_, i64_w, i32_w]
                   rfl
                 refine take_ (i := 3) (N := some 23) (v := ?_) (a' := ?_) #[true, true, true, true, true, true, true, true, false, true, true, true, true, false, false, false] rfl rfl (take_ofW HT_.out HW_.out (by kernel_rfl)) (fun _ _ _ h => h) (Or.inl ⟨by rfl, ?_⟩) hHeld ?_ ?_
                 rotate_left
                 · rintro w' ⟨s0, s1, s2, s3, s4, s5, s6, s7, s8, s9, s10, s11⟩
                   go_simp
                   with_reducible rfl
                 rotate_left
                 · simp only [Act.put, sI_, sZ_, sS_, i64_w, i32_w]
                   rfl
                 refine take_ (i := 8) (N := some 28) (v := ?_) (a' := ?_) #[true, true, true, true, true, true, true, true, true, true, true, true, true, false, false, false] rfl rfl (take_ofW HT_.out HW_.out (by kernel_rfl)) (fun _ _ _ h => h) (Or.inl ⟨by rfl, ?_⟩) hHeld ?_ ?_
                 rotate_left
                 · rintro w' ⟨s0, s1, s2, s3, s4, s5, s6, s7, s8, s9, s10, s11⟩
                   go_simp
                   with_reducible rfl
                 rotate_left
                 · simp only [Act.put, sI_, sZ_, sS_, i64_w, i32_w]
                   rfl
                 refine take_ (i := 13) (N := some 33) (v := ?_) (a' := ?_) #[true, true, true, true, true, true, true, true, true, true, true, true, true, true, false, false] rfl rfl (take_ofW HT_.out HW_.out (by kernel_rfl)) (fun _ _ _ h => h) (Or.inl ⟨by rfl, ?_⟩) hHeld ?_ ?_
                 rotate_left
                 · rintro w' ⟨s0, s1, s2, s3, s4, s5, s6, s7, s8, s9, s10, s11⟩
                   go_simp
                   with_reducible rfl
                 rotate_left
                 · simp only [Act.put, sI_, sZ_, sS_, i64_w, i32_w]
                   rfl
                 refine one_ (i := 14) (N := some 34) #[true, true, true, true, true, true, true, true, true, true, true, true, true, true, true, false] rfl rfl (one_of HT_.out (by kernel_rfl)) (by decide) (fun K hK => ?_)
                 refine goes_ Try.func35 (by kernel_rfl) rfl #[.agg #[.int .i64 ((rd_T57 l0 x5_1).f0), .slice A289_1 ((rd_T57 l0 x5_1).f1).length c289_1, .slice A289_2 ((rd_T57 l0 x5_1).f2).length c289_2, .bool ((rd_T57 l0 x5_1).f3)], .int .i64 ((rd_T59 l1 x6_2).f0), .slice A290_1 ((rd_T59 l1 x6_2).f1).length c290_1] (by rfl) rfl rfl (by (try simp only [mT_, mC_, mN_]); first | done | rfl | (simp only [lD_, lT_]; rfl)) ?_
                 with_reducible refine (banksmanref10_In.calls ((rd_T57 l0 x5_1).f0) _ _ ((rd_T57 l0 x5_1).f1) _ _ ((rd_T57 l0 x5_1).f2) ((rd_T57 l0 x5_1).f3) ((rd_T59 l1 x6_2).f0) _ _ ((rd_T59 l1 x6_2).f1) true _ ?side1 ?side2 ?side3 ?side4 ?side5 ?side6 A8.out).mono ?_
                 (case side1 => repeat (first | exact (kB_ HR289_1.out HB.out) | (with_reducible first | refine kA_ ?_ _ | refine kN_ ?_ _ | refine kD_ ?_)))
                 (case side2 => exact HC289_1.out)
                 (case side3 => repeat (first | exact (kB_ HR289_2.out HB.out) | (with_reducible first | refine kA_ ?_ _ | refine kN_ ?_ _ | refine kD_ ?_)))
                 (case side4 => exact HC289_2.out)
                 (case side5 => repeat (first | exact (kB_ HR291_1.out HB.out) | (with_reducible first | refine kA_ ?_ _ | refine kN_ ?_ _ | refine kD_ ?_)))
                 (case side6 => exact HC291_1.out)
                 rintro e w11 ⟨rfl, hb⟩
                 refine ⟨_, rfl, ?_⟩
                 have n0_ := m0_ (below_step (by repeat (first | (with_reducible first | exact HB.out | apply bA_ | apply dN_ | apply b1_) | exact HB.out)) hb)
                 clear HB
                 have HB := n0_
                 clear n0_
                 (try clear hb)
                 (try clear hb2)
                 (try clear hk)
                 (try clear hi)
                 refine hK.out _ _ ⟨((HB.out.cell (bL_ w _ hw289_0)).trans hw289_0), ((HB.out.cell (bL_ w _ hw289_1)).trans hw289_1), ((HB.out.cell (bL_ w _ hw289_2)).trans hw289_2), ((HB.out.cell (bL_ w _ hw289_3)).trans hw289_3), ((HB.out.cell (bL_ w _ hw290_0)).trans hw290_0), ((HB.out.cell (bL_ w _ hw290_1)).trans hw290_1), ((HB.out.cell (bL_ w _ hw290_2)).trans hw290_2), ((HB.out.cell (bL_ w _ hw290_3)).trans hw290_3), ((HB.out.cell (bL_ w _ hw291_0)).trans hw291_0), ((HB.out.cell (bL_ w _ hw291_1)).trans hw291_1), ((HB.out.cell (bL_ w _ hw291_2)).trans hw291_2), ((HB.out.cell (bL_ w _ hw291_3)).trans hw291_3)⟩ (fun hHeld => ?_)
                 clear hK K
                 refine norm_ (a' := ?_) ?_ ?_
                 rotate_left
                 · show Act.put _ (some 34) _ = _
                   simp only [Act.put, sI_, sZ_, sS_, i64_w, i32_w]
                   rfl
                 refine pure_ (i := 15) (N := some 7) (v := ?_) (a' := ?_) #[true, true, true, true, true, true, true, true, true, true, true, true, true, true, true, true] rfl rfl (any_of HT_.out (by kernel_rfl)) (fun _ _ _ h => h) (Or.inl ⟨by rfl, ?_⟩) ?_ ?_
                 rotate_left
                 · intro w'
                   go_simp
                   with_reducible rfl
                 rotate_left
                 · simp only [Act.put, sI_, sZ_, sS_, i64_w, i32_w]
                   rfl
                 refine done_ (done_of HT_.out (by kernel_rfl)) ?_
                 try go_wp2
                 go_ret
                 exact ⟨by first | rfl | (simp [errW_none, errW_some] <;> rfl) | (simp [*, errW_none, errW_some] <;> rfl), by repeat (first | (with_reducible first | exact HB.out | apply bA_ | apply dN_ | apply b1_) | exact HB.out)⟩
               · replace c9 := Bool.eq_false_iff.mpr c9
                 subst c9
                 have H1 : (banksmanref13_Hit.l1 k2 l0 l1 x5_1 (wrap64 (x6_2 + 1))) = some r := by rw [if_neg (show ¬ (false = true) by decide)] at H; exact H
                 clear H
                 have H := H1
                 clear H1
                 have H' := m0_ H
                 clear H
                 try go_wp2
                 have n0_ := m0_ (b1_ HB.out)
                 clear HB
                 have HB := n0_
                 clear n0_
                 have p289 : 0 ≤ (x5_1 : Int) := dT_
                 have q289 : x5_1 < (l0.length : Int) := dT_
                 obtain ⟨ad289, A289_1, c289_1, A289_2, c289_2, e289, hx289_0, hx289_1, hx289_2, hx289_3, hl289_1, hi289_1, hl289_2, hi289_2⟩ := at_T57 HR0.out x5_1 p289 q289
                 have hw289_3 := hx289_3
                 have hw289_2 := hx289_2
                 have hw289_1 := hx289_1
                 have hw289_0 := hx289_0
                 cases e289
                 replace hx289_0 := (HB.out.cell (bL_ w _ hx289_0)).trans hx289_0
                 replace hx289_1 := (HB.out.cell (bL_ w _ hx289_1)).trans hx289_1
                 replace hx289_2 := (HB.out.cell (bL_ w _ hx289_2)).trans hx289_2
                 replace hx289_3 := (HB.out.cell (bL_ w _ hx289_3)).trans hx289_3
                 have HR289_1 := m0_ hi289_1
                 have HC289_1 := m0_ hl289_1
                 clear hi289_1 hl289_1
                 have HR289_2 := m0_ hi289_2
                 have HC289_2 := m0_ hl289_2
                 clear hi289_2 hl289_2
                 replace p289 := eq_true p289
                 replace q289 := eq_true q289
                 have p290 : 0 ≤ (x6_2 : Int) := dT_
                 have q290 : x6_2 < (l1.length : Int) := dT_
                 obtain ⟨ad290, A290_1, c290_1, A290_3, c290_3, e290, hx290_0, hx290_1, hx290_2, hx290_3, hl290_1, hi290_1, hl290_3, hi290_3⟩ := at_T59 HR1.out x6_2 p290 q290
                 have hw290_3 := hx290_3
                 have hw290_2 := hx290_2
                 have hw290_1 := hx290_1
                 have hw290_0 := hx290_0
                 cases e290
                 replace hx290_0 := (HB.out.cell (bL_ w _ hx290_0)).trans hx290_0
                 replace hx290_1 := (HB.out.cell (bL_ w _ hx290_1)).trans hx290_1
                 replace hx290_2 := (HB.out.cell (bL_ w _ hx290_2)).trans hx290_2
                 replace hx290_3 := (HB.out.cell (bL_ w _ hx290_3)).trans hx290_3
                 have HR290_1 := m0_ hi290_1
                 have HC290_1 := m0_ hl290_1
                 clear hi290_1 hl290_1
                 have HR290_3 := m0_ hi290_3
                 have HC290_3 := m0_ hl290_3
                 clear hi290_3 hl290_3
                 replace p290 := eq_true p290
                 replace q290 := eq_true q290
                 have p291 : 0 ≤ (x6_2 : Int) := dT_
                 have q291 : x6_2 < (l1.length : Int) := dT_
                 obtain ⟨ad291, A291_1, c291_1, A291_3, c291_3, e291, hx291_0, hx291_1, hx291_2, hx291_3, hl291_1, hi291_1, hl291_3, hi291_3⟩ := at_T59 HR1.out x6_2 p291 q291
                 have hw291_3 := hx291_3
                 have hw291_2 := hx291_2
                 have hw291_1 := hx291_1
                 have hw291_0 := hx291_0
                 obtain rfl : ad290 = ad291 := (by injection e291)
                 replace hx291_0 := (HB.out.cell (bL_ w _ hx291_0)).trans hx291_0
                 replace hx291_1 := (HB.out.cell (bL_ w _ hx291_1)).trans hx291_1
                 replace hx291_2 := (HB.out.cell (bL_ w _ hx291_2)).trans hx291_2
                 replace hx291_3 := (HB.out.cell (bL_ w _ hx291_3)).trans hx291_3
                 have HR291_1 := m0_ hi291_1
                 have HC291_1 := m0_ hl291_1
                 clear hi291_1 hl291_1
                 have HR291_3 := m0_ hi291_3
                 have HC291_3 := m0_ hl291_3
                 clear hi291_3 hl291_3
                 replace p291 := eq_true p291
                 replace q291 := eq_true q291
                 have ea_ := sO_ (hx290_1.symm.trans hx291_1)
                 injection ea_ with ea_ en_ ec_
                 subst ea_
                 subst ec_
                 clear en_
                 have ea_ := sO_ (hx290_3.symm.trans hx291_3)
                 injection ea_ with ea_ en_ ec_
                 subst ea_
                 subst ec_
                 clear en_
                 refine start_ (n := 16) (S := fun w' => w'.cell? (ad289.add ((x5_1).toNat * 4)) = some (.int .i64 ((rd_T57 l0 x5_1).f0)) ∧ w'.cell? ⟨(ad289.add ((x5_1).toNat * 4)).block, (ad289.add ((x5_1).toNat * 4)).off + 1, none⟩ = some (.slice A289_1 ((rd_T57 l0 x5_1).f1).length c289_1) ∧ w'.cell? ⟨(ad289.add ((x5_1).toNat * 4)).block, (ad289.add ((x5_1).toNat * 4)).off + 2, none⟩ = some (.slice A289_2 ((rd_T57 l0 x5_1).f2).length c289_2) ∧ w'.cell? ⟨(ad289.add ((x5_1).toNat * 4)).block, (ad289.add ((x5_1).toNat * 4)).off + 3, none⟩ = some (.bool ((rd_T57 l0 x5_1).f3)) ∧ w'.cell? (ad290.add ((x6_2).toNat * 4)) = some (.int .i64 ((rd_T59 l1 x6_2).f0)) ∧ w'.cell? ⟨(ad290.add ((x6_2).toNat * 4)).block, (ad290.add ((x6_2).toNat * 4)).off + 1, none⟩ = some (.slice A290_1 ((rd_T59 l1 x6_2).f1).length c290_1) ∧ w'.cell? ⟨(ad290.add ((x6_2).toNat * 4)).block, (ad290.add ((x6_2).toNat * 4)).off + 2, none⟩ = some (.bool ((rd_T59 l1 x6_2).f2)) ∧ w'.cell? ⟨(ad290.add ((x6_2).toNat * 4)).block, (ad290.add ((x6_2).toNat * 4)).off + 3, none⟩ = some (.slice A290_3 ((rd_T59 l1 x6_2).f3).length c290_3) ∧ w'.cell? (ad290.add ((x6_2).toNat * 4)) = some (.int .i64 ((rd_T59 l1 x6_2).f0)) ∧ w'.cell? ⟨(ad290.add ((x6_2).toNat * 4)).block, (ad290.add ((x6_2).toNat * 4)).off + 1, none⟩ = some (.slice A290_1 ((rd_T59 l1 x6_2).f1).length c290_1) ∧ w'.cell? ⟨(ad290.add ((x6_2).toNat * 4)).block, (ad290.add ((x6_2).toNat * 4)).off + 2, none⟩ = some (.bool ((rd_T59 l1 x6_2).f2)) ∧ w'.cell? ⟨(ad290.add ((x6_2).toNat * 4)).block, (ad290.add ((x6_2).toNat * 4)).off + 3, none⟩ = some (.slice A290_3 ((rd_T59 l1 x6_2).f3).length c290_3)) (ds := []) #[false, false, false, false, false, false, false, false, false, false, false, false, false, false, false, false] (by kernel_rfl) rfl rfl ⟨((HB.out.cell (bL_ w _ hw289_0)).trans hw289_0), ((HB.out.cell (bL_ w _ hw289_1)).trans hw289_1), ((HB.out.cell (bL_ w _ hw289_2)).trans hw289_2), ((HB.out.cell (bL_ w _ hw289_3)).trans hw289_3), ((HB.out.cell (bL_ w _ hw290_0)).trans hw290_0), ((HB.out.cell (bL_ w _ hw290_1)).trans hw290_1), ((HB.out.cell (bL_ w _ hw290_2)).trans hw290_2), ((HB.out.cell (bL_ w _ hw290_3)).trans hw290_3), ((HB.out.cell (bL_ w _ hw291_0)).trans hw291_0), ((HB.out.cell (bL_ w _ hw291_1)).trans hw291_1), ((HB.out.cell (bL_ w _ hw291_2)).trans hw291_2), ((HB.out.cell (bL_ w _ hw291_3)).trans hw291_3)⟩ (fun hHeld => ?_); refine with_tabW banksmanref13_Hit.tab7 banksmanref13_Hit.bits7 (fun HT_ HW_ => ?_)
                 generalize wr.drew = w12 at HB HR289_1 HR289_2 HR290_1 HR290_3 HR291_1 HR291_3 hx289_0 hx289_1 hx289_2 hx289_3 hx290_0 hx290_1 hx290_2 hx290_3 hx291_0 hx291_1 hx291_2 hx291_3 hHeld ⊢
                 refine pure_ (i := 0) (N := some 20) (v := ?_) (a' := ?_) #[true, false, false, false, false, false, false, false, false, false, false, false, false, false, false, false] rfl rfl (any_of HT_.out (by kernel_rfl)) (fun _ _ _ h => h) (Or.inl ⟨by rfl, ?_⟩) ?_ ?_
                 rotate_left
                 · intro w'
                   go_simp
                   with_reducible rfl
                 rotate_left
                 · simp only [Act.put, sI_, sZ_, sS_, i64_w, i32_w]
                   rfl
                 refine pure_ (i := 1) (N := some 21) (v := ?_) (a' := ?_) #[true, true, false, false, false, false, false, false, false, false, false, false, false, false, false, false] rfl rfl (any_of HT_.out (by kernel_rfl)) (fun _ _ _ h => h) (Or.inl ⟨by rfl, ?_⟩) ?_ ?_
                 rotate_left
                 · intro w'
                   go_simp
                   with_reducible rfl
                 rotate_left
                 · simp only [Act.put, sI_, sZ_, sS_, i64_w, i32_w]
                   rfl
                 refine pure_ (i := 2) (N := some 22) (v := ?_) (a' := ?_) #[true, true, true, false, false, false, false, false, false, false, false, false, false, false, false, false] rfl rfl (any_of HT_.out (by kernel_rfl)) (fun _ _ _ h => h) (Or.inl ⟨by rfl, ?_⟩) ?_ ?_
                 rotate_left
                 · intro w'
                   go_simp
                   with_reducible rfl
                 rotate_left
                 · simp only [Act.put, sI_, sZ_, sS_, i64_w, i32_w]
                   rfl
                 refine pure_ (i := 4) (N := some 24) (v := ?_) (a' := ?_) #[true, true, true, false, true, false, false, false, false, false, false, false, false, false, false, false] rfl rfl (any_of HT_.out (by kernel_rfl)) (fun _ _ _ h => h) (Or.inl ⟨by rfl, ?_⟩) ?_ ?_
                 rotate_left
                 · intro w'
                   go_simp
                   with_reducible rfl
                 rotate_left
                 · simp only [Act.put, sI_, sZ_, sS_, i64_w, i32_w]
                   rfl
                 refine pure_ (i := 5) (N := some 25) (v := ?_) (a' := ?_) #[true, true, true, false, true, true, false, false, false, false, false, false, false, false, false, false] rfl rfl (any_of HT_.out (by kernel_rfl)) (fun _ _ _ h => h) (Or.inl ⟨by rfl, ?_⟩) ?_ ?_
                 rotate_left
                 · intro w'
                   go_simp
                   with_reducible rfl
                 rotate_left
                 · simp only [Act.put, sI_, sZ_, sS_, i64_w, i32_w]
                   rfl
                 refine pure_ (i := 6) (N := some 26) (v := ?_) (a' := ?_) #[true, true, true, false, true, true, true, false, false, false, false, false, false, false, false, false] rfl rfl (any_of HT_.out (by kernel_rfl)) (fun _ _ _ h => h) (Or.inl ⟨by rfl, ?_⟩) ?_ ?_
                 rotate_left
                 · intro w'
                   go_simp
                   with_reducible rfl
                 rotate_left
                 · simp only [Act.put, sI_, sZ_, sS_, i64_w, i32_w]
                   rfl
                 refine pure_ (i := 7) (N := some 27) (v := ?_) (a' := ?_) #[true, true, true, false, true, true, true, true, false, false, false, false, false, false, false, false] rfl rfl (any_of HT_.out (by kernel_rfl)) (fun _ _ _ h => h) (Or.inl ⟨by rfl, ?_⟩) ?_ ?_
                 rotate_left
                 · intro w'
                   go_simp
                   with_reducible rfl
                 rotate_left
                 · simp only [Act.put, sI_, sZ_, sS_, i64_w, i32_w]
                   rfl
                 refine pure_ (i := 9) (N := some 29) (v := ?_) (a' := ?_) #[true, true, true, false, true, true, true, true, false, true, false, false, false, false, false, false] rfl rfl (any_of HT_.out (by kernel_rfl)) (fun _ _ _ h => h) (Or.inl ⟨by rfl, ?_⟩) ?_ ?_
                 rotate_left
                 · intro w'
                   go_simp
                   with_reducible rfl
                 rotate_left
                 · simp only [Act.put, sI_, sZ_, sS_, i64_w, i32_w]
                   rfl
                 refine pure_ (i := 10) (N := some 30) (v := ?_) (a' := ?_) #[true, true, true, false, true, true, true, true, false, true, true, false, false, false, false, false] rfl rfl (any_of HT_.out (by kernel_rfl)) (fun _ _ _ h => h) (Or.inl ⟨by rfl, ?_⟩) ?_ ?_
                 rotate_left
                 · intro w'
                   go_simp
                   with_reducible rfl
                 rotate_left
                 · simp only [Act.put, sI_, sZ_, sS_, i64_w, i32_w]
                   rfl
                 refine pure_ (i := 11) (N := some 31) (v := ?_) (a' := ?_) #[true, true, true, false, true, true, true, true, false, true, true, true, false, false, false, false] rfl rfl (any_of HT_.out (by kernel_rfl)) (fun _ _ _ h => h) (Or.inl ⟨by rfl, ?_⟩) ?_ ?_
                 rotate_left
                 · intro w'
                   go_simp
                   with_reducible rfl
                 rotate_left
                 · simp only [Act.put, sI_, sZ_, sS_, i64_w, i32_w]
                   rfl
                 refine pure_ (i := 12) (N := some 32) (v := ?_) (a' := ?_) #[true, true, true, false, true, true, true, true, false, true, true, true, true, false, false, false] rfl rfl (any_of HT_.out (by kernel_rfl)) (fun _ _ _ h => h) (Or.inl ⟨by rfl, ?_⟩) ?_ ?_
                 rotate_left
                 · intro w'
                   go_simp
                   with_reducible rfl
                 rotate_left
                 · simp only [Act.put, sI_, sZ_, sS_, i64_w, i32_w]
                   rfl
                 refine take_ (i := 3) (N := some 23) (v := ?_) (a' := ?_) #[true, true, true, true, true, true, true, true, false, true, true, true, true, false, false, false] rfl rfl (take_ofW HT_.out HW_.out (by kernel_rfl)) (fun _ _ _ h => h) (Or.inl ⟨by rfl, ?_⟩) hHeld ?_ ?_
                 rotate_left
                 · rintro w' ⟨s0, s1, s2, s3, s4, s5, s6, s7, s8, s9, s10, s11⟩
                   go_simp
                   with_reducible rfl
                 rotate_left
                 · simp only [Act.put, sI_, sZ_, sS_, i64_w, i32_w]
                   rfl
                 refine take_ (i := 8) (N := some 28) (v := ?_) (a' := ?_) #[true, true, true, true, true, true, true, true, true, true, true, true, true, false, false, false] rfl rfl (take_ofW HT_.out HW_.out (by kernel_rfl)) (fun _ _ _ h => h) (Or.inl ⟨by rfl, ?_⟩) hHeld ?_ ?_
                 rotate_left
                 · rintro w' ⟨s0, s1, s2, s3, s4, s5, s6, s7, s8, s9, s10, s11⟩
                   go_simp
                   with_reducible rfl
                 rotate_left
                 · simp only [Act.put, sI_, sZ_, sS_, i64_w, i32_w]
                   rfl
                 refine take_ (i := 13) (N := some 33) (v := ?_) (a' := ?_) #[true, true, true, true, true, true, true, true, true, true, true, true, true, true, false, false] rfl rfl (take_ofW HT_.out HW_.out (by kernel_rfl)) (fun _ _ _ h => h) (Or.inl ⟨by rfl, ?_⟩) hHeld ?_ ?_
                 rotate_left
                 · rintro w' ⟨s0, s1, s2, s3, s4, s5, s6, s7, s8, s9, s10, s11⟩
                   go_simp
                   with_reducible rfl
                 rotate_left
                 · simp only [Act.put, sI_, sZ_, sS_, i64_w, i32_w]
                   rfl
                 refine one_ (i := 14) (N := some 34) #[true, true, true, true, true, true, true, true, true, true, true, true, true, true, true, false] rfl rfl (one_of HT_.out (by kernel_rfl)) (by decide) (fun K hK => ?_)
                 refine goes_ Try.func35 (by kernel_rfl) rfl #[.agg #[.int .i64 ((rd_T57 l0 x5_1).f0), .slice A289_1 ((rd_T57 l0 x5_1).f1).length c289_1, .slice A289_2 ((rd_T57 l0 x5_1).f2).length c289_2, .bool ((rd_T57 l0 x5_1).f3)], .int .i64 ((rd_T59 l1 x6_2).f0), .slice A290_1 ((rd_T59 l1 x6_2).f1).length c290_1] (by rfl) rfl rfl (by (try simp only [mT_, mC_, mN_]); first | done | rfl | (simp only [lD_, lT_]; rfl)) ?_
                 with_reducible refine (banksmanref10_In.calls ((rd_T57 l0 x5_1).f0) _ _ ((rd_T57 l0 x5_1).f1) _ _ ((rd_T57 l0 x5_1).f2) ((rd_T57 l0 x5_1).f3) ((rd_T59 l1 x6_2).f0) _ _ ((rd_T59 l1 x6_2).f1) false _ ?side1 ?side2 ?side3 ?side4 ?side5 ?side6 A8.out).mono ?_
                 (case side1 => repeat (first | exact (kB_ HR289_1.out HB.out) | (with_reducible first | refine kA_ ?_ _ | refine kN_ ?_ _ | refine kD_ ?_)))
                 (case side2 => exact HC289_1.out)
                 (case side3 => repeat (first | exact (kB_ HR289_2.out HB.out) | (with_reducible first | refine kA_ ?_ _ | refine kN_ ?_ _ | refine kD_ ?_)))
                 (case side4 => exact HC289_2.out)
                 (case side5 => repeat (first | exact (kB_ HR291_1.out HB.out) | (with_reducible first | refine kA_ ?_ _ | refine kN_ ?_ _ | refine kD_ ?_)))
                 (case side6 => exact HC291_1.out)
                 rintro e w13 ⟨rfl, hb⟩
                 refine ⟨_, rfl, ?_⟩
                 have n0_ := m0_ (below_step (by repeat (first | (with_reducible first | exact HB.out | apply bA_ | apply dN_ | apply b1_) | exact HB.out)) hb)
                 clear HB
                 have HB := n0_
                 clear n0_
                 (try clear hb)
                 (try clear hb2)
                 (try clear hk)
                 (try clear hi)
                 refine hK.out _ _ ⟨((HB.out.cell (bL_ w _ hw289_0)).trans hw289_0), ((HB.out.cell (bL_ w _ hw289_1)).trans hw289_1), ((HB.out.cell (bL_ w _ hw289_2)).trans hw289_2), ((HB.out.cell (bL_ w _ hw289_3)).trans hw289_3), ((HB.out.cell (bL_ w _ hw290_0)).trans hw290_0), ((HB.out.cell (bL_ w _ hw290_1)).trans hw290_1), ((HB.out.cell (bL_ w _ hw290_2)).trans hw290_2), ((HB.out.cell (bL_ w _ hw290_3)).trans hw290_3), ((HB.out.cell (bL_ w _ hw291_0)).trans hw291_0), ((HB.out.cell (bL_ w _ hw291_1)).trans hw291_1), ((HB.out.cell (bL_ w _ hw291_2)).trans hw291_2), ((HB.out.cell (bL_ w _ hw291_3)).trans hw291_3)⟩ (fun hHeld => ?_)
                 clear hK K
                 refine norm_ (a' := ?_) ?_ ?_
                 rotate_left
                 · show Act.put _ (some 34) _ = _
                   simp only [Act.put, sI_, sZ_, sS_, i64_w, i32_w]
                   rfl
                 refine pure_ (i := 15) (N := some 7) (v := ?_) (a' := ?_) #[true, true, true, true, true, true, true, true, true, true, true, true, true, true, true, true] rfl rfl (any_of HT_.out (by kernel_rfl)) (fun _ _ _ h => h) (Or.inl ⟨by rfl, ?_⟩) ?_ ?_
                 rotate_left
                 · intro w'
                   go_simp
                   with_reducible rfl
                 rotate_left
                 · simp only [Act.put, sI_, sZ_, sS_, i64_w, i32_w]
                   rfl
                 refine done_ (done_of HT_.out (by kernel_rfl)) ?_
                 try go_wp2
                 go_roundg k2
                 case measure => have := HK1.out; have := HK2.out; omega
                 case rel => exact ⟨(wrap64 (x6_2 + 1)), (by first | rfl | (simp; done) | (simp [*]; done)), H', ⟨by have := HK1.out; have := HK2.out; omega⟩, ⟨by repeat (first | (with_reducible first | exact HB.out | apply bA_ | apply dN_ | apply b1_) | exact HB.out)⟩⟩
             · rw [if_neg c7] at H
               exact absurd H (by simp)
           · rw [if_neg c6] at H
             exact absurd H (by simp)
         · rw [if_neg c5] at H
           exact absurd H (by simp)
       · rw [if_neg c4] at H
         have c4b0 : decide (x6_2 < (l1.length : Int)) = false := decide_eq_false c4
         clear c4
         have H' := m0_ H
         clear H
         go_wp2
         go_roundg k2
         case measure => have := HK1.out; have := HK2.out; omega
         case rel => exact ⟨(wrap64 (x5_1 + 1)), (by first | rfl | (simp; done) | (simp [*]; done)), H', ⟨by have := HK1.out; have := HK2.out; omega⟩, ⟨by repeat (first | (with_reducible first | exact HB.out | apply bA_ | apply dN_ | apply b1_) | exact HB.out)⟩⟩
   · rw [if_neg c3] at H
     have c3b0 : decide (x5_1 < (l0.length : Int)) = false := decide_eq_false c3
     clear c3
     obtain rfl := sO_ H
     go_wp2
     go_ret
     exact ⟨by first | rfl | (simp [errW_none, errW_some] <;> rfl) | (simp [*, errW_none, errW_some] <;> rfl), by repeat (first | (with_reducible first | exact HB.out | apply bA_ | apply dN_ | apply b1_) | exact HB.out)⟩
mutual
def banksmanref13_Same.l0 : Nat → List (S59) → List (S59) → Int → Option (Bool)
 | 0, _, _, _ => none
 | k + 1, x0, x1, x5 => if x5 < (x0.length : Int) then (banksmanref13_Same.l1 k x0 x1 x5 0) else (some false)
def banksmanref13_Same.l1 : Nat → List (S59) → List (S59) → Int → Int → Option (Bool)
 | 0, _, _, _, _ => none
 | k + 1, x0, x1, x5, x6 => if x6 < (x1.length : Int) then (if 0 ≤ x5 then (if x5 < (x0.length : Int) then (if 0 ≤ x6 then (if ((rd_T59 x0 x5).f0) = ((rd_T59 x1 x6).f0) then (if (strOfNums ((rd_T59 x0 x5).f1)).toList = (strOfNums ((rd_T59 x1 x6).f1)).toList then (some true) else (banksmanref13_Same.l1 k x0 x1 x5 (wrap64 (x6 + 1)))) else (banksmanref13_Same.l1 k x0 x1 x5 (wrap64 (x6 + 1)))) else (none)) else (none)) else (none)) else (banksmanref13_Same.l0 k x0 x1 (wrap64 (x5 + 1)))
end
def banksmanref13_Same.f (k : Nat) (l0 : List (S59)) (l1 : List (S59)) : Option (Bool) := banksmanref13_Same.l0 k l0 l1 0
set_option maxHeartbeats 8000000 in
set_option maxRecDepth 100000 in
theorem banksmanref13_Same.calls (k : Nat) (A0 : Option Addr) (c0 : Nat) (l0 : List (S59)) (A1 : Option Addr) (c1 : Nat) (l1 : List (S59)) (r : Bool) (w : World) (hr0 : Kd.C k59 w A0 l0.length l0) (hc0 : l0.length ≤ c0) (hr1 : Kd.C k59 w A1 l1.length l1) (hc1 : l1.length ≤ c1) (h : banksmanref13_Same.f k l0 l1 = some r) :
  Calls Try.prog 20 #[.slice A0 l0.length c0, .slice A1 l1.length c1] w fun e w' => e = .returned (.bool r) ∧ Drawn0 w w' := by
 have HR0 := m0_ hr0
 have HC0 := m0_ hc0
 clear hr0 hc0
 have HR1 := m0_ hr1
 have HC1 := m0_ hc1
 clear hr1 hc1
 have H : (banksmanref13_Same.l0 k l0 l1 0) = some r := h
 clear h
 have H' := m0_ H
 clear H
 go_enter Try.func20, Try.ntmps20
 go_wp2
 repeat (go_quiet (fail); try go_wp2)
 go_loopg [5] k (fun kq v5 w' => ∃ (x5_1 : Int), v5 = .int .i64 x5_1 ∧ Aside0 (banksmanref13_Same.l0 kq l0 l1 x5_1 = some r) ∧ Aside0 (kq ≤ k) ∧ Drawn0 w w')
 case atStart => exact ⟨(0), (by first | rfl | (simp; done) | (simp [*]; done)), H', ⟨Nat.le_refl _⟩, by repeat (first | exact Drawn0.refl _ | apply Drawn0.step)⟩
 case round =>
  clear H'
  try clear c1
  try clear c2
  try clear p2
  obtain ⟨x5_1, rfl, HA, HK1, ⟨m1, rfl⟩⟩ := hrel
  cases gk with
  | zero => exact absurd HA.out (by simp [banksmanref13_Same.l0])
  | succ k1 =>
   have H := HA.out
   clear HA
   simp only [banksmanref13_Same.l0] at H
   by_cases c3 : x5_1 < (l0.length : Int)
   · rw [if_pos c3] at H
     have c3b0 : decide (x5_1 < (l0.length : Int)) = true := decide_eq_true c3
     clear c3
     have H' := m0_ H
     clear H
     go_wp2
     repeat (go_quiet (fail); try go_wp2)
     go_loopg [6] k1 (fun kq v6 w' => ∃ (x6_2 : Int), v6 = .int .i64 x6_2 ∧ Aside0 (banksmanref13_Same.l1 kq l0 l1 x5_1 x6_2 = some r) ∧ Aside0 (kq ≤ k1) ∧ Drawn0 w w')
     case atStart => exact ⟨(0), (by first | rfl | (simp; done) | (simp [*]; done)), H', ⟨Nat.le_refl _⟩, by repeat (first | exact Drawn0.refl _ | apply Drawn0.step)⟩
     case round =>
      clear H'
      try clear c1
      try clear c2
      try clear p2
      try clear c3
      try clear c3b0
      try clear p2
      obtain ⟨x6_2, rfl, HA, HK2, ⟨m2, rfl⟩⟩ := hrel
      cases gk with
      | zero => exact absurd HA.out (by simp [banksmanref13_Same.l1])
      | succ k2 =>
       have H := HA.out
       clear HA
       simp only [banksmanref13_Same.l1] at H
       by_cases c4 : x6_2 < (l1.length : Int)
       · rw [if_pos c4] at H
         have c4b0 : decide (x6_2 < (l1.length : Int)) = true := decide_eq_true c4
         clear c4
         by_cases c5 : 0 ≤ x5_1
         · rw [if_pos c5] at H
           have c5b0 : decide (0 ≤ x5_1) = true := decide_eq_true c5
           clear c5
           by_cases c6 : x5_1 < (l0.length : Int)
           · rw [if_pos c6] at H
             have c6b0 : decide (x5_1 < (l0.length : Int)) = true := decide_eq_true c6
             clear c6
             by_cases c7 : 0 ≤ x6_2
             · rw [if_pos c7] at H
               have c7b0 : decide (0 ≤ x6_2) = true := decide_eq_true c7
               clear c7
               by_cases c8 : ((rd_T59 l0 x5_1).f0) = ((rd_T59 l1 x6_2).f0)
               · rw [if_pos c8] at H
                 have c8b0 : (((rd_T59 l0 x5_1).f0) == ((rd_T59 l1 x6_2).f0)) = true := beq_iff_eq.mpr c8
                 have c8b1 : (((rd_T59 l0 x5_1).f0) != ((rd_T59 l1 x6_2).f0)) = false := bne_eq_false_iff_eq.mpr c8
                 clear c8
                 by_cases c9 : (strOfNums ((rd_T59 l0 x5_1).f1)).toList = (strOfNums ((rd_T59 l1 x6_2).f1)).toList
                 · rw [if_pos c9] at H
                   have c9b0 : ((strOfNums ((rd_T59 l0 x5_1).f1)).toList == (strOfNums ((rd_T59 l1 x6_2).f1)).toList) = true := beq_iff_eq.mpr c9
                   have c9b1 : ((strOfNums ((rd_T59 l0 x5_1).f1)).toList != (strOfNums ((rd_T59 l1 x6_2).f1)).toList) = false := bne_eq_false_iff_eq.mpr c9
                   clear c9
                   obtain rfl := sO_ H
                   have p293 : 0 ≤ (x5_1 : Int) := dT_
                   have q293 : x5_1 < (l0.length : Int) := dT_
                   obtain ⟨ad293, A293_1, c293_1, A293_3, c293_3, e293, hx293_0, hx293_1, hx293_2, hx293_3, hl293_1, hi293_1, hl293_3, hi293_3⟩ := at_T59 HR0.out x5_1 p293 q293
                   cases e293
                   have HR293_1 := m0_ hi293_1
                   have HC293_1 := m0_ hl293_1
                   clear hi293_1 hl293_1
                   have HR293_3 := m0_ hi293_3
                   have HC293_3 := m0_ hl293_3
                   clear hi293_3 hl293_3
                   replace p293 := eq_true p293
                   replace q293 := eq_true q293
                   have p294 : 0 ≤ (x6_2 : Int) := dT_
                   have q294 : x6_2 < (l1.length : Int) := dT_
                   obtain ⟨ad294, A294_1, c294_1, A294_3, c294_3, e294, hx294_0, hx294_1, hx294_2, hx294_3, hl294_1, hi294_1, hl294_3, hi294_3⟩ := at_T59 HR1.out x6_2 p294 q294
                   cases e294
                   have HR294_1 := m0_ hi294_1
                   have HC294_1 := m0_ hl294_1
                   clear hi294_1 hl294_1
                   have HR294_3 := m0_ hi294_3
                   have HC294_3 := m0_ hl294_3
                   clear hi294_3 hl294_3
                   replace p294 := eq_true p294
                   replace q294 := eq_true q294
                   have p295 : 0 ≤ (x5_1 : Int) := dT_
                   have q295 : x5_1 < (l0.length : Int) := dT_
                   obtain ⟨ad295, A295_1, c295_1, A295_3, c295_3, e295, hx295_0, hx295_1, hx295_2, hx295_3, hl295_1, hi295_1, hl295_3, hi295_3⟩ := at_T59 HR0.out x5_1 p295 q295
                   obtain rfl : ad293 = ad295 := (by injection e295)
                   have HR295_1 := m0_ hi295_1
                   have HC295_1 := m0_ hl295_1
                   clear hi295_1 hl295_1
                   have HR295_3 := m0_ hi295_3
                   have HC295_3 := m0_ hl295_3
                   clear hi295_3 hl295_3
                   replace p295 := eq_true p295
                   replace q295 := eq_true q295
                   have ea_ := sO_ (hx293_1.symm.trans hx295_1)
                   injection ea_ with ea_ en_ ec_
                   subst ea_
                   subst ec_
                   clear en_
                   have ea_ := sO_ (hx293_3.symm.trans hx295_3)
                   injection ea_ with ea_ en_ ec_
                   subst ea_
                   subst ec_
                   clear en_
                   have hcv10 := Kd.C_string (P := Try.prog) (A := A293_1) (c := c293_1) Try.underlying55 Try.underlying5 Try.underlying9 HR295_1.out; have hcv10q := fun n_ => Kd.C_string (P := Try.prog) (A := A293_1) (c := c293_1) Try.underlying55 Try.underlying5 Try.underlying9 (kN_ HR295_1.out n_)
                   have p296 : 0 ≤ (x6_2 : Int) := dT_
                   have q296 : x6_2 < (l1.length : Int) := dT_
                   obtain ⟨ad296, A296_1, c296_1, A296_3, c296_3, e296, hx296_0, hx296_1, hx296_2, hx296_3, hl296_1, hi296_1, hl296_3, hi296_3⟩ := at_T59 HR1.out x6_2 p296 q296
                   obtain rfl : ad294 = ad296 := (by injection e296)
                   have HR296_1 := m0_ hi296_1
                   have HC296_1 := m0_ hl296_1
                   clear hi296_1 hl296_1
                   have HR296_3 := m0_ hi296_3
                   have HC296_3 := m0_ hl296_3
                   clear hi296_3 hl296_3
                   replace p296 := eq_true p296
                   replace q296 := eq_true q296
                   have ea_ := sO_ (hx294_1.symm.trans hx296_1)
                   injection ea_ with ea_ en_ ec_
                   subst ea_
                   subst ec_
                   clear en_
                   have ea_ := sO_ (hx294_3.symm.trans hx296_3)
                   injection ea_ with ea_ en_ ec_
                   subst ea_
                   subst ec_
                   clear en_
                   have hcv11 := Kd.C_string (P := Try.prog) (A := A294_1) (c := c294_1) Try.underlying55 Try.underlying5 Try.underlying9 HR296_1.out; have hcv11q := fun n_ => Kd.C_string (P := Try.prog) (A := A294_1) (c := c294_1) Try.underlying55 Try.underlying5 Try.underlying9 (kN_ HR296_1.out n_)
                   go_wp2
                   repeat (go_quiet (fail); try go_wp2)
                   go_ret
                   exact ⟨by first | rfl | (simp; done) | (simp [*]; done), by repeat (first | exact Drawn0.refl _ | apply Drawn0.step)⟩
                 · rw [if_neg c9] at H
                   have c9b0 : ((strOfNums ((rd_T59 l0 x5_1).f1)).toList == (strOfNums ((rd_T59 l1 x6_2).f1)).toList) = false := beq_eq_false_iff_ne.mpr c9
                   have c9b1 : ((strOfNums ((rd_T59 l0 x5_1).f1)).toList != (strOfNums ((rd_T59 l1 x6_2).f1)).toList) = true := bne_iff_ne.mpr c9
                   have H' := m0_ H
                   clear H
                   have p293 : 0 ≤ (x5_1 : Int) := dT_
                   have q293 : x5_1 < (l0.length : Int) := dT_
                   obtain ⟨ad293, A293_1, c293_1, A293_3, c293_3, e293, hx293_0, hx293_1, hx293_2, hx293_3, hl293_1, hi293_1, hl293_3, hi293_3⟩ := at_T59 HR0.out x5_1 p293 q293
                   cases e293
                   have HR293_1 := m0_ hi293_1
                   have HC293_1 := m0_ hl293_1
                   clear hi293_1 hl293_1
                   have HR293_3 := m0_ hi293_3
                   have HC293_3 := m0_ hl293_3
                   clear hi293_3 hl293_3
                   replace p293 := eq_true p293
                   replace q293 := eq_true q293
                   have p294 : 0 ≤ (x6_2 : Int) := dT_
                   have q294 : x6_2 < (l1.length : Int) := dT_
                   obtain ⟨ad294, A294_1, c294_1, A294_3, c294_3, e294, hx294_0, hx294_1, hx294_2, hx294_3, hl294_1, hi294_1, hl294_3, hi294_3⟩ := at_T59 HR1.out x6_2 p294 q294
                   cases e294
                   have HR294_1 := m0_ hi294_1
                   have HC294_1 := m0_ hl294_1
                   clear hi294_1 hl294_1
                   have HR294_3 := m0_ hi294_3
                   have HC294_3 := m0_ hl294_3
                   clear hi294_3 hl294_3
                   replace p294 := eq_true p294
                   replace q294 := eq_true q294
                   have p295 : 0 ≤ (x5_1 : Int) := dT_
                   have q295 : x5_1 < (l0.length : Int) := dT_
                   obtain ⟨ad295, A295_1, c295_1, A295_3, c295_3, e295, hx295_0, hx295_1, hx295_2, hx295_3, hl295_1, hi295_1, hl295_3, hi295_3⟩ := at_T59 HR0.out x5_1 p295 q295
                   obtain rfl : ad293 = ad295 := (by injection e295)
                   have HR295_1 := m0_ hi295_1
                   have HC295_1 := m0_ hl295_1
                   clear hi295_1 hl295_1
                   have HR295_3 := m0_ hi295_3
                   have HC295_3 := m0_ hl295_3
                   clear hi295_3 hl295_3
                   replace p295 := eq_true p295
                   replace q295 := eq_true q295
                   have ea_ := sO_ (hx293_1.symm.trans hx295_1)
                   injection ea_ with ea_ en_ ec_
                   subst ea_
                   subst ec_
                   clear en_
                   have ea_ := sO_ (hx293_3.symm.trans hx295_3)
                   injection ea_ with ea_ en_ ec_
                   subst ea_
                   subst ec_
                   clear en_
                   have hcv12 := Kd.C_string (P := Try.prog) (A := A293_1) (c := c293_1) Try.underlying55 Try.underlying5 Try.underlying9 HR295_1.out; have hcv12q := fun n_ => Kd.C_string (P := Try.prog) (A := A293_1) (c := c293_1) Try.underlying55 Try.underlying5 Try.underlying9 (kN_ HR295_1.out n_)
                   have p296 : 0 ≤ (x6_2 : Int) := dT_
                   have q296 : x6_2 < (l1.length : Int) := dT_
                   obtain ⟨ad296, A296_1, c296_1, A296_3, c296_3, e296, hx296_0, hx296_1, hx296_2, hx296_3, hl296_1, hi296_1, hl296_3, hi296_3⟩ := at_T59 HR1.out x6_2 p296 q296
                   obtain rfl : ad294 = ad296 := (by injection e296)
                   have HR296_1 := m0_ hi296_1
                   have HC296_1 := m0_ hl296_1
                   clear hi296_1 hl296_1
                   have HR296_3 := m0_ hi296_3
                   have HC296_3 := m0_ hl296_3
                   clear hi296_3 hl296_3
                   replace p296 := eq_true p296
                   replace q296 := eq_true q296
                   have ea_ := sO_ (hx294_1.symm.trans hx296_1)
                   injection ea_ with ea_ en_ ec_
                   subst ea_
                   subst ec_
                   clear en_
                   have ea_ := sO_ (hx294_3.symm.trans hx296_3)
                   injection ea_ with ea_ en_ ec_
                   subst ea_
                   subst ec_
                   clear en_
                   have hcv13 := Kd.C_string (P := Try.prog) (A := A294_1) (c := c294_1) Try.underlying55 Try.underlying5 Try.underlying9 HR296_1.out; have hcv13q := fun n_ => Kd.C_string (P := Try.prog) (A := A294_1) (c := c294_1) Try.underlying55 Try.underlying5 Try.underlying9 (kN_ HR296_1.out n_)
                   go_wp2
                   repeat (go_quiet (fail); try go_wp2)
                   go_roundg k2
                   case measure => have := HK1.out; have := HK2.out; omega
                   case rel => exact ⟨(wrap64 (x6_2 + 1)), (by first | rfl | (simp; done) | (simp [*]; done)), H', ⟨by have := HK1.out; have := HK2.out; omega⟩, by repeat (first | exact Drawn0.refl _ | apply Drawn0.step)⟩
               · rw [if_neg c8] at H
                 have c8b0 : (((rd_T59 l0 x5_1).f0) == ((rd_T59 l1 x6_2).f0)) = false := beq_eq_false_iff_ne.mpr c8
                 have c8b1 : (((rd_T59 l0 x5_1).f0) != ((rd_T59 l1 x6_2).f0)) = true := bne_iff_ne.mpr c8
                 have H' := m0_ H
                 clear H
                 have p293 : 0 ≤ (x5_1 : Int) := dT_
                 have q293 : x5_1 < (l0.length : Int) := dT_
                 obtain ⟨ad293, A293_1, c293_1, A293_3, c293_3, e293, hx293_0, hx293_1, hx293_2, hx293_3, hl293_1, hi293_1, hl293_3, hi293_3⟩ := at_T59 HR0.out x5_1 p293 q293
                 cases e293
                 have HR293_1 := m0_ hi293_1
                 have HC293_1 := m0_ hl293_1
                 clear hi293_1 hl293_1
                 have HR293_3 := m0_ hi293_3
                 have HC293_3 := m0_ hl293_3
                 clear hi293_3 hl293_3
                 replace p293 := eq_true p293
                 replace q293 := eq_true q293
                 have p294 : 0 ≤ (x6_2 : Int) := dT_
                 have q294 : x6_2 < (l1.length : Int) := dT_
                 obtain ⟨ad294, A294_1, c294_1, A294_3, c294_3, e294, hx294_0, hx294_1, hx294_2, hx294_3, hl294_1, hi294_1, hl294_3, hi294_3⟩ := at_T59 HR1.out x6_2 p294 q294
                 cases e294
                 have HR294_1 := m0_ hi294_1
                 have HC294_1 := m0_ hl294_1
                 clear hi294_1 hl294_1
                 have HR294_3 := m0_ hi294_3
                 have HC294_3 := m0_ hl294_3
                 clear hi294_3 hl294_3
                 replace p294 := eq_true p294
                 replace q294 := eq_true q294
                 go_wp2
                 repeat (go_quiet (fail); try go_wp2)
                 go_roundg k2
                 case measure => have := HK1.out; have := HK2.out; omega
                 case rel => exact ⟨(wrap64 (x6_2 + 1)), (by first | rfl | (simp; done) | (simp [*]; done)), H', ⟨by have := HK1.out; have := HK2.out; omega⟩, by repeat (first | exact Drawn0.refl _ | apply Drawn0.step)⟩
             · rw [if_neg c7] at H
               exact absurd H (by simp)
           · rw [if_neg c6] at H
             exact absurd H (by simp)
         · rw [if_neg c5] at H
           exact absurd H (by simp)
       · rw [if_neg c4] at H
         have c4b0 : decide (x6_2 < (l1.length : Int)) = false := decide_eq_false c4
         clear c4
         have H' := m0_ H
         clear H
         go_wp2
         repeat (go_quiet (fail); try go_wp2)
         go_roundg k2
         case measure => have := HK1.out; have := HK2.out; omega
         case rel => exact ⟨(wrap64 (x5_1 + 1)), (by first | rfl | (simp; done) | (simp [*]; done)), H', ⟨by have := HK1.out; have := HK2.out; omega⟩, by repeat (first | exact Drawn0.refl _ | apply Drawn0.step)⟩
   · rw [if_neg c3] at H
     have c3b0 : decide (x5_1 < (l0.length : Int)) = false := decide_eq_false c3
     clear c3
     obtain rfl := sO_ H
     go_wp2
     repeat (go_quiet (fail); try go_wp2)
     go_ret
     exact ⟨by first | rfl | (simp; done) | (simp [*]; done), by repeat (first | exact Drawn0.refl _ | apply Drawn0.step)⟩
end Go.Proofs.Ytpoaleejhdeclaa.P
