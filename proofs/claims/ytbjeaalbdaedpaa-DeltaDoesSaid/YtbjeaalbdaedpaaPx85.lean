import Derived.Test.YtbjeaalbdaedpaaPx1
import Derived.Test.YtbjeaalbdaedpaaPx0
namespace Go.Proofs.Ytbjeaalbdaedpaa.P
open Go.RowKit Go.Proofs.YtbjeaalbdaedpaaW.PrintWords Go.Proofs.YtbjeaalbdaedpaaW.PrintLast Go.Proofs.YtbjeaalbdaedpaaW.PrintMore
attribute [local go_sem] max2_int min2_int max_two min_two max_three min_three max_four min_four
set_option linter.unusedVariables false
set_option linter.unusedSimpArgs false
def banksmanref08_write.f (a0_0 : Int) (l0_1 : List Int) (a0_2 : Bool) (l0_3 : List Int) : Option (Int × List Int × Bool × List Int) := (some (([] : List Int) : List Int)).bind fun y195 => (if y195.length + l0_1.length < 140737488355328 then ((some (([] : List Int) : List Int)).bind fun y201 => (if y201.length + l0_3.length < 140737488355328 then (some (a0_0, (y195 ++ l0_1), a0_2, (y201 ++ l0_3))) else (none))) else (none))
def banksmanref08_write.T1 : Bool × List (List Nat × List Nat) := (true, [([], []), ([0], [0]), ([], []), ([], []), ([3], [3]), ([2, 4], [2, 4]), ([], []), ([6], [6]), ([], []), ([], []), ([9], [9]), ([8, 10, 5], [8, 10]), ([1, 5, 7, 11], [1, 5, 7, 11]), ([12, 11, 0, 1, 2, 3, 4, 5, 6, 7, 8, 9, 10, 11, 12], [12])])
def banksmanref08_write.B1 : List Nat := [0, 1, 0, 0, 8, 28, 0, 64, 0, 0, 512, 1852, 4095, 8191]
theorem banksmanref08_write.tab1 : rtab .any (opsOf Try.f34 1) = banksmanref08_write.T1 := by kernel_rfl
theorem banksmanref08_write.bits1 : waitsOk banksmanref08_write.T1.2 banksmanref08_write.B1 = true := by kernel_rfl
set_option maxHeartbeats 8000000 in
set_option maxRecDepth 100000 in
theorem banksmanref08_write.calls (a0_0 : Int) (A0_1 : Option Addr) (c0_1 : Nat) (l0_1 : List Int) (a0_2 : Bool) (A0_3 : Option Addr) (c0_3 : Nat) (l0_3 : List Int) (r1 : Int) (r2 : List Int) (r3 : Bool) (r4 : List Int) (w : World) (hr0_1 : Kd.C (Kd.int .u8) w A0_1 l0_1.length l0_1) (hc0_1 : l0_1.length ≤ c0_1) (hr0_3 : Kd.C (Kd.int .u8) w A0_3 l0_3.length l0_3) (hc0_3 : l0_3.length ≤ c0_3) (h : banksmanref08_write.f a0_0 l0_1 a0_2 l0_3 = some (r1, r2, r3, r4)) :
  Calls Try.prog 34 #[.agg #[.int .i64 a0_0, .slice A0_1 l0_1.length c0_1, .bool a0_2, .slice A0_3 l0_3.length c0_3]] w fun e w' => ∃ v1_ v3_ : Value, e = .returned (.agg #[.int .i64 r1, v1_, .bool r3, v3_]) ∧ Kd.R (Kd.int .u8) 5 w' w.heap.size (fun k_ => some k_ ≠ (v3_ : Value).ownBlock) v1_ r2 ∧ Kd.R (Kd.int .u8) 5 w' w.heap.size (fun k_ => some k_ ≠ (v1_ : Value).ownBlock) v3_ r4 ∧ Below w.heap.size w w' := by
 have hu28 := Try.underlying28
 have HR0_1 := aM hr0_1
 have HC0_1 := aM hc0_1
 clear hr0_1 hc0_1
 have HR0_3 := aM hr0_3
 have HC0_3 := aM hc0_3
 clear hr0_3 hc0_3
 have HB := aM (Below.refl w.heap.size w)
 have H : ((some (([] : List Int) : List Int)).bind fun y195 => (if y195.length + l0_1.length < 140737488355328 then ((some (([] : List Int) : List Int)).bind fun y201 => (if y201.length + l0_3.length < 140737488355328 then (some (a0_0, (y195 ++ l0_1), a0_2, (y201 ++ l0_3))) else (none))) else (none))) = some (r1, r2, r3, r4) := h
 clear h
 obtain ⟨y195, hy195⟩ : ∃ y_ : List Int, y_ = (([] : List Int)) := ⟨_, rfl⟩
 replace H : (if y195.length + l0_1.length < 140737488355328 then ((some (([] : List Int) : List Int)).bind fun y201 => (if y201.length + l0_3.length < 140737488355328 then (some (a0_0, (y195 ++ l0_1), a0_2, (y201 ++ l0_3))) else (none))) else (none)) = some (r1, r2, r3, r4) := by first | (rw [hy195]; with_reducible exact H) | (have H2_ := (Option.bind_some _ _).symm.trans H; rw [hy195]; with_reducible exact H2_) | (have H2_ := (Option.bind_some _ _).symm.trans H; with_reducible exact H2_) | with_reducible exact H | (rw [hy195]; exact H) | exact H
 have Ny195 := aM hy195
 clear hy195
 by_cases c2 : y195.length + l0_1.length < 140737488355328
 ·
  rw [if_pos c2] at H
  have LMc2 := aM c2
  clear c2
  obtain ⟨y198, hy198⟩ : ∃ y_ : List Int, y_ = (y195 ++ l0_1) := ⟨_, rfl⟩
  replace H : ((some (([] : List Int) : List Int)).bind fun y201 => (if y201.length + l0_3.length < 140737488355328 then (some (a0_0, y198, a0_2, (y201 ++ l0_3))) else (none))) = some (r1, r2, r3, r4) := by first | (rw [hy198]; with_reducible exact H) | (have H2_ := (Option.bind_some _ _).symm.trans H; rw [hy198]; with_reducible exact H2_) | (have H2_ := (Option.bind_some _ _).symm.trans H; with_reducible exact H2_) | with_reducible exact H | (rw [hy198]; exact H) | exact H
  have Ny198 := aM hy198
  clear hy198
  obtain ⟨y201, hy201⟩ : ∃ y_ : List Int, y_ = (([] : List Int)) := ⟨_, rfl⟩
  replace H : (if y201.length + l0_3.length < 140737488355328 then (some (a0_0, y198, a0_2, (y201 ++ l0_3))) else (none)) = some (r1, r2, r3, r4) := by first | (rw [hy201]; with_reducible exact H) | (have H2_ := (Option.bind_some _ _).symm.trans H; rw [hy201]; with_reducible exact H2_) | (have H2_ := (Option.bind_some _ _).symm.trans H; with_reducible exact H2_) | with_reducible exact H | (rw [hy201]; exact H) | exact H
  have Ny201 := aM hy201
  clear hy201
  by_cases c3 : y201.length + l0_3.length < 140737488355328
  ·
   rw [if_pos c3] at H
   have LMc3 := aM c3
   clear c3
   obtain ⟨y204, hy204⟩ : ∃ y_ : List Int, y_ = (y201 ++ l0_3) := ⟨_, rfl⟩
   replace H : (some (a0_0, y198, a0_2, y204)) = some (r1, r2, r3, r4) := by first | (rw [hy204]; with_reducible exact H) | (have H2_ := (Option.bind_some _ _).symm.trans H; rw [hy204]; with_reducible exact H2_) | (have H2_ := (Option.bind_some _ _).symm.trans H; with_reducible exact H2_) | with_reducible exact H | (rw [hy204]; exact H) | exact H
   have Ny204 := aM hy204
   clear hy204
   simp only [Option.some.injEq, Prod.mk.injEq] at H
   obtain ⟨rfl, rfl, rfl, rfl⟩ := H
   go_enter Try.func34, Try.ntmps34
   try go_wp2_with (first | ((with_reducible refine gate_dst (N := 1) rfl ?_); refine box_event ?hg (N := 1) ?hd (cs := #[.int .i64 a0_0, .slice A0_1 l0_1.length c0_1, .bool a0_2, .slice A0_3 l0_3.length c0_3]) (t := 28) ?hr ?_; (case hd => rfl); (case hg => rfl); (case hr => first | (go_simp; done) | (go_simp; rfl)); intro gb193 hg w4 hbox hb; have BK193 := aM (hbox); have GW193 := aM ((by rw [hg]; exact (below_size (by repeat (first | (with_reducible first | exact HB.out | apply bA | apply bN | apply bD) | exact HB.out))) : w.heap.size ≤ gb193)); have GE193 := aM ((by rw [hg]; exact (below_size (by repeat (first | (with_reducible first | exact HB.out | apply bA | apply bN | apply bD) | exact HB.out))) : w.heap.size ≤ gb193)); replace HB := aM (below_step (by repeat (first | (with_reducible first | exact HB.out | apply bA | apply bN | apply bD) | exact HB.out)) hb); clear hb hbox hg) | ((with_reducible refine gate_dst (N := 2) rfl ?_); refine box_event ?hg (N := 2) ?hd (cs := #[.int .i64 0, .slice none 0 0, .bool false, .slice none 0 0]) (t := 28) ?hr ?_; (case hd => rfl); (case hg => rfl); (case hr => first | (go_simp; done) | (go_simp; rfl)); intro gb194 hg w5 hbox hb; have BK194 := aM (hbox); have GW194 := aM ((by rw [hg]; exact (below_size (by repeat (first | (with_reducible first | exact HB.out | apply bA | apply bN | apply bD | refine bS ?_ GE193.out) | exact HB.out))) : w.heap.size ≤ gb194)); have GE194 := aM ((by rw [hg]; exact (below_size (by repeat (first | (with_reducible first | exact HB.out | apply bA | apply bN | apply bD | refine bS ?_ GE193.out) | exact HB.out))) : w.heap.size ≤ gb194)); replace HB := aM (below_step (by repeat (first | (with_reducible first | exact HB.out | apply bA | apply bN | apply bD | refine bS ?_ GE193.out) | exact HB.out)) hb); have NBq0 := aM ((by rw [hg]; exact Nat.ne_of_lt (blk_lt (g := gb193) (o := .cells #[.int .i64 a0_0, .slice A0_1 l0_1.length c0_1, .bool a0_2, .slice A0_3 l0_3.length c0_3] 28 (0, 0)) (bU BK193.out)) : gb193 ≠ gb194)); have NBq1 := aM ((by rw [hg]; exact Nat.ne_of_gt (blk_lt (g := gb193) (o := .cells #[.int .i64 a0_0, .slice A0_1 l0_1.length c0_1, .bool a0_2, .slice A0_3 l0_3.length c0_3] 28 (0, 0)) (bU BK193.out)) : gb194 ≠ gb193)); replace BK193 := aM (kB (g := gb193) (o := .cells #[.int .i64 a0_0, .slice A0_1 l0_1.length c0_1, .bool a0_2, .slice A0_3 l0_3.length c0_3] 28 (0, 0)) (bU BK193.out) hb); clear hb hbox hg))
   have n0_ := aM (blk_drew BK193.out)
   have n1_ := aM (blk_drew BK194.out)
   have n2_ := aM (bD HB.out)
   clear BK193
   clear BK194
   clear HB
   have BK193 := n0_
   have BK194 := n1_
   have HB := n2_
   clear n0_ n1_ n2_
   refine start_ (n := 14) (S := fun w' => w'.cell? ⟨gb193, 0, none⟩ = some (.int .i64 a0_0) ∧ w'.cell? ⟨gb193, 1, none⟩ = some (.slice A0_1 l0_1.length c0_1) ∧ w'.cell? ⟨gb193, 2, none⟩ = some (.bool a0_2) ∧ w'.cell? ⟨gb193, 3, none⟩ = some (.slice A0_3 l0_3.length c0_3)) (ds := []) #[F_,F_,F_,F_,F_,F_,F_,F_,F_,F_,F_,F_,F_,F_] (by kernel_rfl) rfl rfl ⟨(kC BK193.out 0).trans rfl, (kC BK193.out 1).trans rfl, (kC BK193.out 2).trans rfl, (kC BK193.out 3).trans rfl⟩ (fun hHeld => ?_); refine with_tabW banksmanref08_write.tab1 banksmanref08_write.bits1 (fun HT_ HW_ => ?_)
   generalize w5.drew = w6 at BK193 BK194 HB hHeld ⊢
   refine pure_ (i := 0) (N := some 3) (v := ?_) (a' := ?_) #[T_,F_,F_,F_,F_,F_,F_,F_,F_,F_,F_,F_,F_,F_] rfl rfl (any_of HT_.out (by kernel_rfl)) (fun _ _ _ h => h) (Or.inl ⟨by rfl, ?_⟩) ?_ ?_
   rotate_left
   ·
    intro w'
    go_simp
    with_reducible rfl
   rotate_left
   ·
    simp only [Act.put, List.setIfInBounds_toArray, List.set_cons_zero, List.set_cons_succ, i64_w, i32_w]
    rfl
   refine pure_ (i := 3) (N := some 6) (v := ?_) (a' := ?_) #[T_,F_,F_,T_,F_,F_,F_,F_,F_,F_,F_,F_,F_,F_] rfl rfl (any_of HT_.out (by kernel_rfl)) (fun _ _ _ h => h) (Or.inl ⟨by rfl, ?_⟩) ?_ ?_
   rotate_left
   ·
    intro w'
    go_simp
    with_reducible rfl
   rotate_left
   ·
    simp only [Act.put, List.setIfInBounds_toArray, List.set_cons_zero, List.set_cons_succ, i64_w, i32_w]
    rfl
   refine pure_ (i := 6) (N := some 9) (v := ?_) (a' := ?_) #[T_,F_,F_,T_,F_,F_,T_,F_,F_,F_,F_,F_,F_,F_] rfl rfl (any_of HT_.out (by kernel_rfl)) (fun _ _ _ h => h) (Or.inl ⟨by rfl, ?_⟩) ?_ ?_
   rotate_left
   ·
    intro w'
    go_simp
    with_reducible rfl
   rotate_left
   ·
    simp only [Act.put, List.setIfInBounds_toArray, List.set_cons_zero, List.set_cons_succ, i64_w, i32_w]
    rfl
   refine pure_ (i := 9) (N := some 12) (v := ?_) (a' := ?_) #[T_,F_,F_,T_,F_,F_,T_,F_,F_,T_,F_,F_,F_,F_] rfl rfl (any_of HT_.out (by kernel_rfl)) (fun _ _ _ h => h) (Or.inl ⟨by rfl, ?_⟩) ?_ ?_
   rotate_left
   ·
    intro w'
    go_simp
    with_reducible rfl
   rotate_left
   ·
    simp only [Act.put, List.setIfInBounds_toArray, List.set_cons_zero, List.set_cons_succ, i64_w, i32_w]
    rfl
   refine take_ (i := 1) (N := some 4) (v := ?_) (a' := ?_) #[T_,T_,F_,T_,F_,F_,T_,F_,F_,T_,F_,F_,F_,F_] rfl rfl (take_ofW HT_.out HW_.out (by kernel_rfl)) (fun _ _ _ h => h) (Or.inl ⟨by rfl, ?_⟩) hHeld ?_ ?_
   rotate_left
   ·
    rintro w' ⟨s0, s1, s2, s3⟩
    go_simp
    with_reducible rfl
   rotate_left
   ·
    simp only [Act.put, List.setIfInBounds_toArray, List.set_cons_zero, List.set_cons_succ, i64_w, i32_w]
    rfl
   refine take_ (i := 4) (N := some 7) (v := ?_) (a' := ?_) #[T_,T_,F_,T_,T_,F_,T_,F_,F_,T_,F_,F_,F_,F_] rfl rfl (take_ofW HT_.out HW_.out (by kernel_rfl)) (fun _ _ _ h => h) (Or.inl ⟨by rfl, ?_⟩) hHeld ?_ ?_
   rotate_left
   ·
    rintro w' ⟨s0, s1, s2, s3⟩
    go_simp
    with_reducible rfl
   rotate_left
   ·
    simp only [Act.put, List.setIfInBounds_toArray, List.set_cons_zero, List.set_cons_succ, i64_w, i32_w]
    rfl
   refine take_ (i := 7) (N := some 10) (v := ?_) (a' := ?_) #[T_,T_,F_,T_,T_,F_,T_,T_,F_,T_,F_,F_,F_,F_] rfl rfl (take_ofW HT_.out HW_.out (by kernel_rfl)) (fun _ _ _ h => h) (Or.inl ⟨by rfl, ?_⟩) hHeld ?_ ?_
   rotate_left
   ·
    rintro w' ⟨s0, s1, s2, s3⟩
    go_simp
    with_reducible rfl
   rotate_left
   ·
    simp only [Act.put, List.setIfInBounds_toArray, List.set_cons_zero, List.set_cons_succ, i64_w, i32_w]
    rfl
   refine take_ (i := 10) (N := some 13) (v := ?_) (a' := ?_) #[T_,T_,F_,T_,T_,F_,T_,T_,F_,T_,T_,F_,F_,F_] rfl rfl (take_ofW HT_.out HW_.out (by kernel_rfl)) (fun _ _ _ h => h) (Or.inl ⟨by rfl, ?_⟩) hHeld ?_ ?_
   rotate_left
   ·
    rintro w' ⟨s0, s1, s2, s3⟩
    go_simp
    with_reducible rfl
   rotate_left
   ·
    simp only [Act.put, List.setIfInBounds_toArray, List.set_cons_zero, List.set_cons_succ, i64_w, i32_w]
    rfl
   refine join_ (σ := Value × Value × Value) 3 #[T_,T_,T_,T_,T_,T_,T_,T_,T_,T_,T_,F_,F_,F_] (fun s_ => [(5, s_.1), (8, s_.2.1), (11, s_.2.2)]) (fun s_ w' => (w'.cell? ⟨gb193, 0, none⟩ = some (.int .i64 a0_0) ∧ w'.cell? ⟨gb193, 1, none⟩ = some (.slice A0_1 l0_1.length c0_1) ∧ w'.cell? ⟨gb193, 2, none⟩ = some (.bool a0_2) ∧ w'.cell? ⟨gb193, 3, none⟩ = some (.slice A0_3 l0_3.length c0_3)) ∧ (Kd.R (Kd.int .u8) 5 w' w.heap.size (fun k_ => some k_ ≠ (s_.2.2 : Value).ownBlock) s_.2.1 y198) ∧ (Kd.R (Kd.int .u8) 5 w' w.heap.size (fun k_ => some k_ ≠ (s_.2.1 : Value).ownBlock) s_.2.2 y201) ∧ (w'.heap[gb193]? = some (.cells #[.int .i64 a0_0, .slice A0_1 l0_1.length c0_1, .bool a0_2, .slice A0_3 l0_3.length c0_3] 28 (0, 0))) ∧ (w'.heap[gb194]? = some (.cells #[.int .i64 0, .slice none 0 0, .bool false, .slice none 0 0] 28 (0, 0))) ∧ (Below w.heap.size w w')) ?_ ?_
   rotate_left
   ·
    intro hCont
    refine two_ (i := 2) (j := 8) (Ni := some 5) (Nj := some 11) #[T_,T_,T_,T_,T_,F_,T_,T_,F_,T_,T_,F_,F_,F_] #[T_,T_,F_,T_,T_,F_,T_,T_,T_,T_,T_,F_,F_,F_] rfl rfl rfl rfl (two_of HT_.out (by kernel_rfl)) (by decide) (by decide) (fun K hK => ?_) (fun K hK => ?_)
    ·
     skip
     refine Kd.R_lit_step (Kd.int .u8) _ 5 ?hg (N := 5) ?hd (xs := ([] : List Int)) (inner := []) (ok := fun _ => True) (okp := fun _ => True) ?hr ?hp (fun _ hk => hk) trivial (Below.refl _ _) (Nat.le_refl _) (by simp) ?_; (case hd => rfl); (case hg => rfl); (case hr => first | (go_simp; done) | (go_simp; rfl)); (case hp => exact (Reps.none _ _))
     intro v196 w7 ho8 hb hg_ hnew_
     clear hg_ hnew_
     (first | rw [← Ny195.out] at ho8 | (simp only [Int.reduceToNat] at ho8; rw [← Ny195.out] at ho8))
     have n0_ := aM (Kd.R_lower ho8 (below_size (by repeat (first | (with_reducible first | exact HB.out | apply bA | apply bN | apply bD | refine bS ?_ GE193.out | refine bS ?_ GE194.out) | exact HB.out))))
     have n1_ := aM (kB (g := gb193) (o := .cells #[.int .i64 a0_0, .slice A0_1 l0_1.length c0_1, .bool a0_2, .slice A0_3 l0_3.length c0_3] 28 (0, 0)) (bU BK193.out) hb)
     have n2_ := aM (kB (g := gb194) (o := .cells #[.int .i64 0, .slice none 0 0, .bool false, .slice none 0 0] 28 (0, 0)) (bU BK194.out) hb)
     have n3_ := aM (below_step (by repeat (first | (with_reducible first | exact HB.out | apply bA | apply bN | apply bD | refine bS ?_ GE193.out | refine bS ?_ GE194.out) | exact HB.out)) hb)
     clear BK193
     clear BK194
     clear HB
     have HO197 := n0_
     have BK193 := n1_
     have BK194 := n2_
     have HB := n3_
     clear n0_ n1_ n2_ n3_
     clear hb ho8
     refine hK.out _ _ ⟨(kC BK193.out 0).trans rfl, (kC BK193.out 1).trans rfl, (kC BK193.out 2).trans rfl, (kC BK193.out 3).trans rfl⟩ (fun hHeld => ?_)
     clear hK K
     refine norm_ (a' := ?_) ?_ ?_
     rotate_left
     ·
      show Act.put _ (some 5) _ = _
      simp only [Act.put, List.setIfInBounds_toArray, List.set_cons_zero, List.set_cons_succ, i64_w, i32_w]
      rfl
     refine two_ (i := 5) (j := 8) (Ni := some 8) (Nj := some 11) #[T_,T_,T_,T_,T_,T_,T_,T_,F_,T_,T_,F_,F_,F_] #[T_,T_,T_,T_,T_,F_,T_,T_,T_,T_,T_,F_,F_,F_] rfl rfl rfl rfl (two_of HT_.out (by kernel_rfl)) (by decide) (by decide) (fun K hK => ?_) (fun K hK => ?_)
     ·
      skip
      refine Kd.R_append_rows_step (Kd.int .u8) (w0 := w) w.heap.size (by rfl) (.tmp 5) (.tmp 7) 26 5 (.int .u8 0) 1 rfl Try.underlying26 info5 rfl (by decide) (by omega) v196 y195 l0_1 _ _ _ (fun _ => True) (fun _ => False) rfl rfl ?aO ?aR (fun _ _ h => h) (fun _ h => h.elim) ?aF ?aB ?aS ?aL ?_
      (case aR => repeat (first | exact (Kd.C_below HR0_1.out HB.out) | (with_reducible refine Kd.C_alloc ?_ _) | (with_reducible refine Kd.C_drewN ?_ _) | (with_reducible refine Kd.C_drew ?_)))
      (case aB => exact (by repeat (first | (with_reducible first | exact HB.out | apply bA | apply bN | apply bD | refine bS ?_ GE193.out | refine bS ?_ GE194.out) | exact HB.out)))
      (case aF => exact (fun _ _ => trivial))
      (case aO => exact (rU HO197.out))
      (case aS => exact (below_size (by repeat (first | (with_reducible first | exact HB.out | apply bA | apply bN | apply bD | refine bS ?_ GE193.out | refine bS ?_ GE194.out) | exact HB.out))))
      (case aL => have := LMc2.out; omega)
      intro v199 w9 ho hb hg hat
      rw [← Ny198.out] at ho
      have n0_ := aM (blk_grown (g := gb193) (o := .cells #[.int .i64 a0_0, .slice A0_1 l0_1.length c0_1, .bool a0_2, .slice A0_3 l0_3.length c0_3] 28 (0, 0)) (bU BK193.out) hg (Kd.R_ne HO197.out BK193.out (by decide)))
      have n1_ := aM (blk_grown (g := gb194) (o := .cells #[.int .i64 0, .slice none 0 0, .bool false, .slice none 0 0] 28 (0, 0)) (bU BK194.out) hg (Kd.R_ne HO197.out BK194.out (by decide)))
      have n2_ := aM (hb)
      have n3_ := aM (ho)
      clear BK193
      clear BK194
      clear HB
      clear HO197
      have BK193 := n0_
      have BK194 := n1_
      have HB := n2_
      have HO200 := n3_
      clear n0_ n1_ n2_ n3_
      clear ho hb hg hat
      refine hK.out _ _ ⟨(kC BK193.out 0).trans rfl, (kC BK193.out 1).trans rfl, (kC BK193.out 2).trans rfl, (kC BK193.out 3).trans rfl⟩ (fun hHeld => ?_)
      clear hK K
      refine norm_ (a' := ?_) ?_ ?_
      rotate_left
      ·
       show Act.put _ (some 8) _ = _
       simp only [Act.put, List.setIfInBounds_toArray, List.set_cons_zero, List.set_cons_succ, i64_w, i32_w]
       rfl
      refine one_ (i := 8) (N := some 11) #[T_,T_,T_,T_,T_,T_,T_,T_,T_,T_,T_,F_,F_,F_] rfl rfl (one_of HT_.out (by kernel_rfl)) (by decide) (fun K hK => ?_)
      refine Kd.R_lit_step (Kd.int .u8) _ 5 ?hg (N := 11) ?hd (xs := ([] : List Int)) (inner := []) (ok := fun _ => True) (okp := fun _ => True) ?hr ?hp (fun _ hk => hk) trivial (Below.refl _ _) (Nat.le_refl _) (by simp) ?_; (case hd => rfl); (case hg => rfl); (case hr => first | (go_simp; done) | (go_simp; rfl)); (case hp => exact (Reps.none _ _))
      intro v202 w10 ho11 hb hg_ hnew_
      clear hg_ hnew_
      (first | rw [← Ny201.out] at ho11 | (simp only [Int.reduceToNat] at ho11; rw [← Ny201.out] at ho11))
      have n0_ := aM (Kd.R_elder' (rU HO200.out) (Kd.R_base ho11) hb)
      have n1_ := aM (Kd.R_lower (Kd.R_new' ho11 (Kd.R_lt (rU HO200.out))) (below_size (by repeat (first | (with_reducible first | exact HB.out | apply bA | apply bN | apply bD | refine bS ?_ GE193.out | refine bS ?_ GE194.out) | exact HB.out))))
      have n2_ := aM (kB (g := gb193) (o := .cells #[.int .i64 a0_0, .slice A0_1 l0_1.length c0_1, .bool a0_2, .slice A0_3 l0_3.length c0_3] 28 (0, 0)) (bU BK193.out) hb)
      have n3_ := aM (kB (g := gb194) (o := .cells #[.int .i64 0, .slice none 0 0, .bool false, .slice none 0 0] 28 (0, 0)) (bU BK194.out) hb)
      have n4_ := aM (below_step (by repeat (first | (with_reducible first | exact HB.out | apply bA | apply bN | apply bD | refine bS ?_ GE193.out | refine bS ?_ GE194.out) | exact HB.out)) hb)
      clear HO200
      clear BK193
      clear BK194
      clear HB
      have HO200 := n0_
      have HO203 := n1_
      have BK193 := n2_
      have BK194 := n3_
      have HB := n4_
      clear n0_ n1_ n2_ n3_ n4_
      clear hb ho11
      refine hK.out _ _ ⟨(kC BK193.out 0).trans rfl, (kC BK193.out 1).trans rfl, (kC BK193.out 2).trans rfl, (kC BK193.out 3).trans rfl⟩ (fun hHeld => ?_)
      clear hK K
      refine norm_ (a' := ?_) ?_ ?_
      rotate_left
      ·
       show Act.put _ (some 11) _ = _
       simp only [Act.put, List.setIfInBounds_toArray, List.set_cons_zero, List.set_cons_succ, i64_w, i32_w]
       rfl
      exact norm_ (by simp only [putAll, Act.put, List.setIfInBounds_toArray, List.set_cons_zero, List.set_cons_succ]) (hCont (v196, v199, v202) _ ⟨hHeld, (by (with_reducible repeat (first | apply Kd.R_alloc | apply Kd.R_drewN | apply Kd.R_drew)); exact Kd.R_mono HO200.out (fun _ hk => hk.2)), (by (with_reducible repeat (first | apply Kd.R_alloc | apply Kd.R_drewN | apply Kd.R_drew)); exact Kd.R_mono HO203.out (fun _ hk => hk.2)), (bU BK193.out), (bU BK194.out), (by repeat (first | (with_reducible first | exact HB.out | apply bA | apply bN | apply bD | refine bS ?_ GE193.out | refine bS ?_ GE194.out) | exact HB.out))⟩)
     ·
      skip
      refine Kd.R_lit_step (Kd.int .u8) _ 5 ?hg (N := 11) ?hd (xs := ([] : List Int)) (inner := []) (ok := fun _ => True) (okp := fun _ => True) ?hr ?hp (fun _ hk => hk) trivial (Below.refl _ _) (Nat.le_refl _) (by simp) ?_; (case hd => rfl); (case hg => rfl); (case hr => first | (go_simp; done) | (go_simp; rfl)); (case hp => exact (Reps.none _ _))
      intro v202 w9 ho10 hb hg_ hnew_
      clear hg_ hnew_
      (first | rw [← Ny201.out] at ho10 | (simp only [Int.reduceToNat] at ho10; rw [← Ny201.out] at ho10))
      have n0_ := aM (Kd.R_elder' (rU HO197.out) (Kd.R_base ho10) hb)
      have n1_ := aM (Kd.R_lower (Kd.R_new' ho10 (Kd.R_lt (rU HO197.out))) (below_size (by repeat (first | (with_reducible first | exact HB.out | apply bA | apply bN | apply bD | refine bS ?_ GE193.out | refine bS ?_ GE194.out) | exact HB.out))))
      have n2_ := aM (kB (g := gb193) (o := .cells #[.int .i64 a0_0, .slice A0_1 l0_1.length c0_1, .bool a0_2, .slice A0_3 l0_3.length c0_3] 28 (0, 0)) (bU BK193.out) hb)
      have n3_ := aM (kB (g := gb194) (o := .cells #[.int .i64 0, .slice none 0 0, .bool false, .slice none 0 0] 28 (0, 0)) (bU BK194.out) hb)
      have n4_ := aM (below_step (by repeat (first | (with_reducible first | exact HB.out | apply bA | apply bN | apply bD | refine bS ?_ GE193.out | refine bS ?_ GE194.out) | exact HB.out)) hb)
      clear HO197
      clear BK193
      clear BK194
      clear HB
      have HO197 := n0_
      have HO203 := n1_
      have BK193 := n2_
      have BK194 := n3_
      have HB := n4_
      clear n0_ n1_ n2_ n3_ n4_
      clear hb ho10
      refine hK.out _ _ ⟨(kC BK193.out 0).trans rfl, (kC BK193.out 1).trans rfl, (kC BK193.out 2).trans rfl, (kC BK193.out 3).trans rfl⟩ (fun hHeld => ?_)
      clear hK K
      refine norm_ (a' := ?_) ?_ ?_
      rotate_left
      ·
       show Act.put _ (some 11) _ = _
       simp only [Act.put, List.setIfInBounds_toArray, List.set_cons_zero, List.set_cons_succ, i64_w, i32_w]
       rfl
      refine one_ (i := 5) (N := some 8) #[T_,T_,T_,T_,T_,T_,T_,T_,T_,T_,T_,F_,F_,F_] rfl rfl (one_of HT_.out (by kernel_rfl)) (by decide) (fun K hK => ?_)
      refine Kd.R_append_rows_step (Kd.int .u8) (w0 := w) w.heap.size (by rfl) (.tmp 5) (.tmp 7) 26 5 (.int .u8 0) 1 rfl Try.underlying26 info5 rfl (by decide) (by omega) v196 y195 l0_1 _ _ _ (fun k_ => some k_ ≠ (v202 : Value).ownBlock) (fun _ => False) rfl rfl ?aO ?aR (fun _ _ h => h) (fun _ h => h.elim) ?aF ?aB ?aS ?aL ?_
      (case aR => repeat (first | exact (Kd.C_below HR0_1.out HB.out) | (with_reducible refine Kd.C_alloc ?_ _) | (with_reducible refine Kd.C_drewN ?_ _) | (with_reducible refine Kd.C_drew ?_)))
      (case aB => exact (by repeat (first | (with_reducible first | exact HB.out | apply bA | apply bN | apply bD | refine bS ?_ GE193.out | refine bS ?_ GE194.out) | exact HB.out)))
      (case aF => exact (fun k_ hk => Kd.fresh' (Kd.R_lt (rU HO203.out)) k_ hk))
      (case aO => exact (by (with_reducible repeat (first | apply Kd.R_alloc | apply Kd.R_drewN | apply Kd.R_drew)); exact Kd.R_mono HO197.out (fun _ hk => hk.2)))
      (case aS => exact (below_size (by repeat (first | (with_reducible first | exact HB.out | apply bA | apply bN | apply bD | refine bS ?_ GE193.out | refine bS ?_ GE194.out) | exact HB.out))))
      (case aL => have := LMc2.out; omega)
      intro v199 w11 ho hb hg hat
      rw [← Ny198.out] at ho
      have n0_ := aM (blk_grown (g := gb193) (o := .cells #[.int .i64 a0_0, .slice A0_1 l0_1.length c0_1, .bool a0_2, .slice A0_3 l0_3.length c0_3] 28 (0, 0)) (bU BK193.out) hg (Kd.R_ne HO197.out BK193.out (by decide)))
      have n1_ := aM (blk_grown (g := gb194) (o := .cells #[.int .i64 0, .slice none 0 0, .bool false, .slice none 0 0] 28 (0, 0)) (bU BK194.out) hg (Kd.R_ne HO197.out BK194.out (by decide)))
      have n2_ := aM (Kd.R_after (ok := (fun _ => True)) (rU HO203.out) hg hat)
      have n3_ := aM (hb)
      have n4_ := aM (ho)
      clear BK193
      clear BK194
      clear HO203
      clear HB
      clear HO197
      have BK193 := n0_
      have BK194 := n1_
      have HO203 := n2_
      have HB := n3_
      have HO200 := n4_
      clear n0_ n1_ n2_ n3_ n4_
      clear ho hb hg hat
      refine hK.out _ _ ⟨(kC BK193.out 0).trans rfl, (kC BK193.out 1).trans rfl, (kC BK193.out 2).trans rfl, (kC BK193.out 3).trans rfl⟩ (fun hHeld => ?_)
      clear hK K
      refine norm_ (a' := ?_) ?_ ?_
      rotate_left
      ·
       show Act.put _ (some 8) _ = _
       simp only [Act.put, List.setIfInBounds_toArray, List.set_cons_zero, List.set_cons_succ, i64_w, i32_w]
       rfl
      exact norm_ (by simp only [putAll, Act.put, List.setIfInBounds_toArray, List.set_cons_zero, List.set_cons_succ]) (hCont (v196, v199, v202) _ ⟨hHeld, (rU HO200.out), (by (with_reducible repeat (first | apply Kd.R_alloc | apply Kd.R_drewN | apply Kd.R_drew)); exact Kd.R_mono HO203.out (fun _ hk => hk.2)), (bU BK193.out), (bU BK194.out), (by repeat (first | (with_reducible first | exact HB.out | apply bA | apply bN | apply bD | refine bS ?_ GE193.out | refine bS ?_ GE194.out) | exact HB.out))⟩)
    ·
     skip
     refine Kd.R_lit_step (Kd.int .u8) _ 5 ?hg (N := 11) ?hd (xs := ([] : List Int)) (inner := []) (ok := fun _ => True) (okp := fun _ => True) ?hr ?hp (fun _ hk => hk) trivial (Below.refl _ _) (Nat.le_refl _) (by simp) ?_; (case hd => rfl); (case hg => rfl); (case hr => first | (go_simp; done) | (go_simp; rfl)); (case hp => exact (Reps.none _ _))
     intro v202 w7 ho8 hb hg_ hnew_
     clear hg_ hnew_
     (first | rw [← Ny201.out] at ho8 | (simp only [Int.reduceToNat] at ho8; rw [← Ny201.out] at ho8))
     have n0_ := aM (Kd.R_lower ho8 (below_size (by repeat (first | (with_reducible first | exact HB.out | apply bA | apply bN | apply bD | refine bS ?_ GE193.out | refine bS ?_ GE194.out) | exact HB.out))))
     have n1_ := aM (kB (g := gb193) (o := .cells #[.int .i64 a0_0, .slice A0_1 l0_1.length c0_1, .bool a0_2, .slice A0_3 l0_3.length c0_3] 28 (0, 0)) (bU BK193.out) hb)
     have n2_ := aM (kB (g := gb194) (o := .cells #[.int .i64 0, .slice none 0 0, .bool false, .slice none 0 0] 28 (0, 0)) (bU BK194.out) hb)
     have n3_ := aM (below_step (by repeat (first | (with_reducible first | exact HB.out | apply bA | apply bN | apply bD | refine bS ?_ GE193.out | refine bS ?_ GE194.out) | exact HB.out)) hb)
     clear BK193
     clear BK194
     clear HB
     have HO203 := n0_
     have BK193 := n1_
     have BK194 := n2_
     have HB := n3_
     clear n0_ n1_ n2_ n3_
     clear hb ho8
     refine hK.out _ _ ⟨(kC BK193.out 0).trans rfl, (kC BK193.out 1).trans rfl, (kC BK193.out 2).trans rfl, (kC BK193.out 3).trans rfl⟩ (fun hHeld => ?_)
     clear hK K
     refine norm_ (a' := ?_) ?_ ?_
     rotate_left
     ·
      show Act.put _ (some 11) _ = _
      simp only [Act.put, List.setIfInBounds_toArray, List.set_cons_zero, List.set_cons_succ, i64_w, i32_w]
      rfl
     refine one_ (i := 2) (N := some 5) #[T_,T_,T_,T_,T_,F_,T_,T_,T_,T_,T_,F_,F_,F_] rfl rfl (one_of HT_.out (by kernel_rfl)) (by decide) (fun K hK => ?_)
     refine Kd.R_lit_step (Kd.int .u8) _ 5 ?hg (N := 5) ?hd (xs := ([] : List Int)) (inner := []) (ok := fun _ => True) (okp := fun _ => True) ?hr ?hp (fun _ hk => hk) trivial (Below.refl _ _) (Nat.le_refl _) (by simp) ?_; (case hd => rfl); (case hg => rfl); (case hr => first | (go_simp; done) | (go_simp; rfl)); (case hp => exact (Reps.none _ _))
     intro v196 w9 ho10 hb hg_ hnew_
     clear hg_ hnew_
     (first | rw [← Ny195.out] at ho10 | (simp only [Int.reduceToNat] at ho10; rw [← Ny195.out] at ho10))
     have n0_ := aM (Kd.R_elder' (rU HO203.out) (Kd.R_base ho10) hb)
     have n1_ := aM (Kd.R_lower (Kd.R_new' ho10 (Kd.R_lt (rU HO203.out))) (below_size (by repeat (first | (with_reducible first | exact HB.out | apply bA | apply bN | apply bD | refine bS ?_ GE193.out | refine bS ?_ GE194.out) | exact HB.out))))
     have n2_ := aM (kB (g := gb193) (o := .cells #[.int .i64 a0_0, .slice A0_1 l0_1.length c0_1, .bool a0_2, .slice A0_3 l0_3.length c0_3] 28 (0, 0)) (bU BK193.out) hb)
     have n3_ := aM (kB (g := gb194) (o := .cells #[.int .i64 0, .slice none 0 0, .bool false, .slice none 0 0] 28 (0, 0)) (bU BK194.out) hb)
     have n4_ := aM (below_step (by repeat (first | (with_reducible first | exact HB.out | apply bA | apply bN | apply bD | refine bS ?_ GE193.out | refine bS ?_ GE194.out) | exact HB.out)) hb)
     clear HO203
     clear BK193
     clear BK194
     clear HB
     have HO203 := n0_
     have HO197 := n1_
     have BK193 := n2_
     have BK194 := n3_
     have HB := n4_
     clear n0_ n1_ n2_ n3_ n4_
     clear hb ho10
     refine hK.out _ _ ⟨(kC BK193.out 0).trans rfl, (kC BK193.out 1).trans rfl, (kC BK193.out 2).trans rfl, (kC BK193.out 3).trans rfl⟩ (fun hHeld => ?_)
     clear hK K
     refine norm_ (a' := ?_) ?_ ?_
     rotate_left
     ·
      show Act.put _ (some 5) _ = _
      simp only [Act.put, List.setIfInBounds_toArray, List.set_cons_zero, List.set_cons_succ, i64_w, i32_w]
      rfl
     refine one_ (i := 5) (N := some 8) #[T_,T_,T_,T_,T_,T_,T_,T_,T_,T_,T_,F_,F_,F_] rfl rfl (one_of HT_.out (by kernel_rfl)) (by decide) (fun K hK => ?_)
     refine Kd.R_append_rows_step (Kd.int .u8) (w0 := w) w.heap.size (by rfl) (.tmp 5) (.tmp 7) 26 5 (.int .u8 0) 1 rfl Try.underlying26 info5 rfl (by decide) (by omega) v196 y195 l0_1 _ _ _ (fun k_ => some k_ ≠ (v202 : Value).ownBlock) (fun _ => False) rfl rfl ?aO ?aR (fun _ _ h => h) (fun _ h => h.elim) ?aF ?aB ?aS ?aL ?_
     (case aR => repeat (first | exact (Kd.C_below HR0_1.out HB.out) | (with_reducible refine Kd.C_alloc ?_ _) | (with_reducible refine Kd.C_drewN ?_ _) | (with_reducible refine Kd.C_drew ?_)))
     (case aB => exact (by repeat (first | (with_reducible first | exact HB.out | apply bA | apply bN | apply bD | refine bS ?_ GE193.out | refine bS ?_ GE194.out) | exact HB.out)))
     (case aF => exact (fun k_ hk => Kd.fresh' (Kd.R_lt (rU HO203.out)) k_ hk))
     (case aO => exact (by (with_reducible repeat (first | apply Kd.R_alloc | apply Kd.R_drewN | apply Kd.R_drew)); exact Kd.R_mono HO197.out (fun _ hk => hk.2)))
     (case aS => exact (below_size (by repeat (first | (with_reducible first | exact HB.out | apply bA | apply bN | apply bD | refine bS ?_ GE193.out | refine bS ?_ GE194.out) | exact HB.out))))
     (case aL => have := LMc2.out; omega)
     intro v199 w11 ho hb hg hat
     rw [← Ny198.out] at ho
     have n0_ := aM (blk_grown (g := gb193) (o := .cells #[.int .i64 a0_0, .slice A0_1 l0_1.length c0_1, .bool a0_2, .slice A0_3 l0_3.length c0_3] 28 (0, 0)) (bU BK193.out) hg (Kd.R_ne HO197.out BK193.out (by decide)))
     have n1_ := aM (blk_grown (g := gb194) (o := .cells #[.int .i64 0, .slice none 0 0, .bool false, .slice none 0 0] 28 (0, 0)) (bU BK194.out) hg (Kd.R_ne HO197.out BK194.out (by decide)))
     have n2_ := aM (Kd.R_after (ok := (fun _ => True)) (rU HO203.out) hg hat)
     have n3_ := aM (hb)
     have n4_ := aM (ho)
     clear BK193
     clear BK194
     clear HO203
     clear HB
     clear HO197
     have BK193 := n0_
     have BK194 := n1_
     have HO203 := n2_
     have HB := n3_
     have HO200 := n4_
     clear n0_ n1_ n2_ n3_ n4_
     clear ho hb hg hat
     refine hK.out _ _ ⟨(kC BK193.out 0).trans rfl, (kC BK193.out 1).trans rfl, (kC BK193.out 2).trans rfl, (kC BK193.out 3).trans rfl⟩ (fun hHeld => ?_)
     clear hK K
     refine norm_ (a' := ?_) ?_ ?_
     rotate_left
     ·
      show Act.put _ (some 8) _ = _
      simp only [Act.put, List.setIfInBounds_toArray, List.set_cons_zero, List.set_cons_succ, i64_w, i32_w]
      rfl
     exact norm_ (by simp only [putAll, Act.put, List.setIfInBounds_toArray, List.set_cons_zero, List.set_cons_succ]) (hCont (v196, v199, v202) _ ⟨hHeld, (rU HO200.out), (by (with_reducible repeat (first | apply Kd.R_alloc | apply Kd.R_drewN | apply Kd.R_drew)); exact Kd.R_mono HO203.out (fun _ hk => hk.2)), (bU BK193.out), (bU BK194.out), (by repeat (first | (with_reducible first | exact HB.out | apply bA | apply bN | apply bD | refine bS ?_ GE193.out | refine bS ?_ GE194.out) | exact HB.out))⟩)
   rintro ⟨v196, v199, v202⟩ w12 ⟨hS_, h0_, h1_, h2_, h3_, h4_⟩
   have n0_ : Aside0 (Kd.R (Kd.int .u8) 5 w12 w.heap.size (fun k_ => some k_ ≠ (v202 : Value).ownBlock) v199 y198) := ⟨h0_⟩
   have n1_ : Aside0 (Kd.R (Kd.int .u8) 5 w12 w.heap.size (fun k_ => some k_ ≠ (v199 : Value).ownBlock) v202 y201) := ⟨h1_⟩
   have n2_ : Aside0 (w12.heap[gb193]? = some (.cells #[.int .i64 a0_0, .slice A0_1 l0_1.length c0_1, .bool a0_2, .slice A0_3 l0_3.length c0_3] 28 (0, 0))) := ⟨h2_⟩
   have n3_ : Aside0 (w12.heap[gb194]? = some (.cells #[.int .i64 0, .slice none 0 0, .bool false, .slice none 0 0] 28 (0, 0))) := ⟨h3_⟩
   have n4_ : Aside0 (Below w.heap.size w w12) := ⟨h4_⟩
   clear BK193
   clear BK194
   clear HB
   clear h0_ h1_ h2_ h3_ h4_
   have HO200 := n0_
   have HO203 := n1_
   have BK193 := n2_
   have BK194 := n3_
   have HB := n4_
   clear n0_ n1_ n2_ n3_ n4_
   have hHeld : w12.cell? ⟨gb193, 0, none⟩ = some (.int .i64 a0_0) ∧ w12.cell? ⟨gb193, 1, none⟩ = some (.slice A0_1 l0_1.length c0_1) ∧ w12.cell? ⟨gb193, 2, none⟩ = some (.bool a0_2) ∧ w12.cell? ⟨gb193, 3, none⟩ = some (.slice A0_3 l0_3.length c0_3) := hS_
   refine norm_ (a' := ?_) ?_ ?_
   rotate_left
   ·
    simp only [putAll, Act.put, List.setIfInBounds_toArray, List.set_cons_zero, List.set_cons_succ]
    rfl
   refine one_ (i := 11) (N := some 14) #[T_,T_,T_,T_,T_,T_,T_,T_,T_,T_,T_,T_,F_,F_] rfl rfl (one_of HT_.out (by kernel_rfl)) (by decide) (fun K hK => ?_)
   refine Kd.R_append_rows_step (Kd.int .u8) (w0 := w) w.heap.size (by rfl) (.tmp 11) (.tmp 13) 26 5 (.int .u8 0) 1 rfl Try.underlying26 info5 rfl (by decide) (by omega) v202 y201 l0_3 _ _ _ (fun k_ => some k_ ≠ (v199 : Value).ownBlock) (fun _ => False) rfl rfl ?aO ?aR (fun _ _ h => h) (fun _ h => h.elim) ?aF ?aB ?aS ?aL ?_
   (case aR => repeat (first | exact (Kd.C_below HR0_3.out HB.out) | (with_reducible refine Kd.C_alloc ?_ _) | (with_reducible refine Kd.C_drewN ?_ _) | (with_reducible refine Kd.C_drew ?_)))
   (case aB => exact (by repeat (first | (with_reducible first | exact HB.out | apply bA | apply bN | apply bD | refine bS ?_ GE193.out | refine bS ?_ GE194.out) | exact HB.out)))
   (case aF => exact (fun k_ hk => Kd.fresh' (Kd.R_lt (rU HO200.out)) k_ hk))
   (case aO => exact (rU HO203.out))
   (case aS => exact (below_size (by repeat (first | (with_reducible first | exact HB.out | apply bA | apply bN | apply bD | refine bS ?_ GE193.out | refine bS ?_ GE194.out) | exact HB.out))))
   (case aL => have := LMc3.out; omega)
   intro v205 w13 ho hb hg hat
   rw [← Ny204.out] at ho
   have n0_ := aM (blk_grown (g := gb193) (o := .cells #[.int .i64 a0_0, .slice A0_1 l0_1.length c0_1, .bool a0_2, .slice A0_3 l0_3.length c0_3] 28 (0, 0)) (bU BK193.out) hg (Kd.R_ne HO203.out BK193.out (by decide)))
   have n1_ := aM (blk_grown (g := gb194) (o := .cells #[.int .i64 0, .slice none 0 0, .bool false, .slice none 0 0] 28 (0, 0)) (bU BK194.out) hg (Kd.R_ne HO203.out BK194.out (by decide)))
   have n2_ := aM (Kd.R_after (ok := (fun _ => True)) (by (with_reducible repeat (first | apply Kd.R_alloc | apply Kd.R_drewN | apply Kd.R_drew)); exact Kd.R_mono HO200.out (fun _ hk => ⟨trivial, hk⟩)) hg hat)
   have n3_ := aM (hb)
   have n4_ := aM (ho)
   clear BK193
   clear BK194
   clear HO200
   clear HB
   clear HO203
   have BK193 := n0_
   have BK194 := n1_
   have HO200 := n2_
   have HB := n3_
   have HO206 := n4_
   clear n0_ n1_ n2_ n3_ n4_
   clear ho hb hg hat
   obtain ⟨Ao14, co14, eo14⟩ := Kd.R_slice HO206.out
   (first | subst eo14 | (injection eo14 with f1_ f2_ f3_; have f4_ := f1_.symm; have f5_ := f3_.symm; clear f1_ f2_ f3_; subst f4_; subst f5_))
   obtain ⟨Ao15, co15, eo15⟩ := Kd.R_slice HO200.out
   (first | subst eo15 | (injection eo15 with f1_ f2_ f3_; have f4_ := f1_.symm; have f5_ := f3_.symm; clear f1_ f2_ f3_; subst f4_; subst f5_))
   refine hK.out _ _ ⟨(kC BK193.out 0).trans rfl, (kC BK193.out 1).trans rfl, (kC BK193.out 2).trans rfl, (kC BK193.out 3).trans rfl⟩ (fun hHeld => ?_)
   clear hK K
   refine norm_ (a' := ?_) ?_ ?_
   rotate_left
   ·
    show Act.put _ (some 14) _ = _
    simp only [Act.put, List.setIfInBounds_toArray, List.set_cons_zero, List.set_cons_succ, i64_w, i32_w]
    rfl
   refine pure_ (i := 12) (N := some 15) (v := ?_) (a' := ?_) #[T_,T_,T_,T_,T_,T_,T_,T_,T_,T_,T_,T_,T_,F_] rfl rfl (any_of HT_.out (by kernel_rfl)) (fun _ _ _ h => h) (Or.inl ⟨by rfl, ?_⟩) ?_ ?_
   rotate_left
   ·
    intro w'
    go_simp
    with_reducible rfl
   rotate_left
   ·
    simp only [Act.put, List.setIfInBounds_toArray, List.set_cons_zero, List.set_cons_succ, i64_w, i32_w]
    rfl
   refine one_ (i := 13) (N := none) #[T_,T_,T_,T_,T_,T_,T_,T_,T_,T_,T_,T_,T_,T_] rfl rfl (one_of HT_.out (by kernel_rfl)) (by decide) (fun K hK => ?_)
   have hs16 : w13.cell? ⟨gb194, 0, none⟩ = some (.int .i64 0) := (kC BK194.out 0).trans rfl
   have hfs16 := kF BK194.out 0
   have hns16_0 := NBq0.out
   have hms16_0 := NBq1.out
   have hs17 : w13.cell? ⟨gb194, 1, none⟩ = some (.slice none 0 0) := (kC BK194.out 1).trans rfl
   have hfs17 := kF BK194.out 1
   have hns17_0 := NBq0.out
   have hms17_0 := NBq1.out
   have hs18 : w13.cell? ⟨gb194, 2, none⟩ = some (.bool false) := (kC BK194.out 2).trans rfl
   have hfs18 := kF BK194.out 2
   have hns18_0 := NBq0.out
   have hms18_0 := NBq1.out
   have hs19 : w13.cell? ⟨gb194, 3, none⟩ = some (.slice none 0 0) := (kC BK194.out 3).trans rfl
   have hfs19 := kF BK194.out 3
   have hns19_0 := NBq0.out
   have hms19_0 := NBq1.out
   refine skip_ (w1 := ?_) (by rfl) rfl ?_ ?_
   rotate_left
   ·
    go_simp
    rfl
   refine hK.out _ _ ⟨((cell_far (p := ⟨gb194, _, none⟩) NBq0.out _).trans (((cell_far (p := ⟨gb194, _, none⟩) NBq0.out _).trans (((cell_far (p := ⟨gb194, _, none⟩) NBq0.out _).trans (((cell_far (p := ⟨gb194, _, none⟩) NBq0.out _).trans (hHeld.1)))))))), ((cell_far (p := ⟨gb194, _, none⟩) NBq0.out _).trans (((cell_far (p := ⟨gb194, _, none⟩) NBq0.out _).trans (((cell_far (p := ⟨gb194, _, none⟩) NBq0.out _).trans (((cell_far (p := ⟨gb194, _, none⟩) NBq0.out _).trans (hHeld.2.1)))))))), ((cell_far (p := ⟨gb194, _, none⟩) NBq0.out _).trans (((cell_far (p := ⟨gb194, _, none⟩) NBq0.out _).trans (((cell_far (p := ⟨gb194, _, none⟩) NBq0.out _).trans (((cell_far (p := ⟨gb194, _, none⟩) NBq0.out _).trans (hHeld.2.2.1)))))))), ((cell_far (p := ⟨gb194, _, none⟩) NBq0.out _).trans (((cell_far (p := ⟨gb194, _, none⟩) NBq0.out _).trans (((cell_far (p := ⟨gb194, _, none⟩) NBq0.out _).trans (((cell_far (p := ⟨gb194, _, none⟩) NBq0.out _).trans (hHeld.2.2.2))))))))⟩ (fun hHeld => ?_)
   clear hK K
   refine done_ (done_of HT_.out (by kernel_rfl)) ?_
   try go_wp2
   refine bodyPost_ret (results_cell_row rfl _ _ gb194 28 #[.int .i64 a0_0, .slice Ao15 y198.length co15, .bool a0_2, .slice Ao14 y204.length co14] (0, 0) _ rfl (by (with_reducible repeat (first | refine blk_drewN ?_ _ | refine blk_drew ?_ | refine blk_alloc ?_ _)); refine blk_put (cs := #[.int .i64 a0_0, .slice Ao15 y198.length co15, .bool a0_2, .slice none 0 0]) ?_ 3 _ rfl; (with_reducible repeat (first | refine blk_drewN ?_ _ | refine blk_drew ?_ | refine blk_alloc ?_ _)); refine blk_put (cs := #[.int .i64 a0_0, .slice Ao15 y198.length co15, .bool false, .slice none 0 0]) ?_ 2 _ rfl; (with_reducible repeat (first | refine blk_drewN ?_ _ | refine blk_drew ?_ | refine blk_alloc ?_ _)); refine blk_put (cs := #[.int .i64 a0_0, .slice none 0 0, .bool false, .slice none 0 0]) ?_ 1 _ rfl; (with_reducible repeat (first | refine blk_drewN ?_ _ | refine blk_drew ?_ | refine blk_alloc ?_ _)); refine blk_put (cs := #[.int .i64 0, .slice none 0 0, .bool false, .slice none 0 0]) ?_ 0 _ rfl; (with_reducible repeat (first | refine blk_drewN ?_ _ | refine blk_drew ?_ | refine blk_alloc ?_ _)); exact BK194.out) Try.underlying28 rfl (by kernel_rfl)) rfl ?_
   exact ⟨_, _, by first | rfl | (simp [errW_none, errW_some] <;> rfl) | (simp [*, errW_none, errW_some] <;> rfl), by (with_reducible repeat (first | apply Kd.R_alloc | apply Kd.R_drewN | apply Kd.R_drew)); exact Kd.R_mono (Kd.R_far (p := ⟨gb194, 3, none⟩) (Kd.R_far (p := ⟨gb194, 2, none⟩) (Kd.R_far (p := ⟨gb194, 1, none⟩) (Kd.R_far (p := ⟨gb194, 0, none⟩) (Kd.R_types HO200.out BK194.out (by decide)) (fun _ hk => hk.2) (.int .i64 a0_0)) (fun _ hk => hk.2) (.slice Ao15 y198.length co15)) (fun _ hk => hk.2) (.bool a0_2)) (fun _ hk => hk.2) (.slice Ao14 y204.length co14)) (fun _ hk => hk.1.2), by (with_reducible repeat (first | apply Kd.R_alloc | apply Kd.R_drewN | apply Kd.R_drew)); exact Kd.R_mono (Kd.R_far (p := ⟨gb194, 3, none⟩) (Kd.R_far (p := ⟨gb194, 2, none⟩) (Kd.R_far (p := ⟨gb194, 1, none⟩) (Kd.R_far (p := ⟨gb194, 0, none⟩) (Kd.R_types HO206.out BK194.out (by decide)) (fun _ hk => hk.2) (.int .i64 a0_0)) (fun _ hk => hk.2) (.slice Ao15 y198.length co15)) (fun _ hk => hk.2) (.bool a0_2)) (fun _ hk => hk.2) (.slice Ao14 y204.length co14)) (fun _ hk => hk.1), by repeat (first | (with_reducible first | exact HB.out | apply bA | apply bN | apply bD | refine bS ?_ GE193.out | refine bS ?_ GE194.out) | exact HB.out)⟩
  ·
   rw [if_neg c3] at H
   exact absurd H (by simp)
 ·
  rw [if_neg c2] at H
  exact absurd H (by simp)
end Go.Proofs.Ytbjeaalbdaedpaa.P
