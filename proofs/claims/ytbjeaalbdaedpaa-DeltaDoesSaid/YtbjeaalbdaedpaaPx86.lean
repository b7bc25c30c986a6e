import Derived.Test.YtbjeaalbdaedpaaPx1
import Derived.Test.YtbjeaalbdaedpaaPx0
import Derived.Test.YtbjeaalbdaedpaaPx85
namespace Go.Proofs.Ytbjeaalbdaedpaa.P
open Go.RowKit Go.Proofs.YtbjeaalbdaedpaaW.PrintWords Go.Proofs.YtbjeaalbdaedpaaW.PrintLast Go.Proofs.YtbjeaalbdaedpaaW.PrintMore
attribute [local go_sem] max2_int min2_int max_two min_two max_three min_three max_four min_four
set_option linter.unusedVariables false
set_option linter.unusedSimpArgs false
def banksmanref08_Copy.l0 : Nat → Int → List (S28) → List Int → List (S28) → List Int → Option ((List (S28)) × List Int)
  | 0, _, _, _, _, _ => none
  | k + 1, x4, x208000, x208001, x216000, x216001 => if x4 < (x208000.length : Int) then (if 0 ≤ x4 then ((banksmanref08_write.f ((rd_T28 x208000 x4).f0) ((rd_T28 x208000 x4).f1) ((rd_T28 x208000 x4).f2) ((rd_T28 x208000 x4).f3)).bind fun bt217 => (if x216000.length < 2199023255552 then (banksmanref08_Copy.l0 k (wrap64 (x4 + 1)) x208000 x208001 (x216000 ++ [(⟨bt217.1, bt217.2.1, bt217.2.2.1, bt217.2.2.2⟩ : S28)]) x216001) else (none))) else (none)) else (some (x216000, x216001))
def banksmanref08_Copy.f (k : Nat) (l0_0 : List (S28)) (l0_1 : List Int) : Option ((List (S28)) × List Int) := (some (([] : List Int) : List Int)).bind fun y209 => (if y209.length + l0_1.length < 17592186044416 then (banksmanref08_Copy.l0 k 0 l0_0 l0_1 ([] : List (S28)) (y209 ++ l0_1)) else (none))
def banksmanref08_Copy.T5 : Bool × List (List Nat × List Nat) := (true, [([], []), ([0], [0]), ([], []), ([2], [2]), ([], []), ([3, 4], [3, 4]), ([5], [5]), ([6], [6]), ([7], [7]), ([1, 8, 7], [1, 8]), ([0, 1, 2, 3, 4, 5, 6, 7, 8, 9], []), ([10, 9, 9, 0, 1, 2, 3, 4, 5, 6, 7, 8, 9], [9, 10])])
def banksmanref08_Copy.B5 : List Nat := [0, 1, 0, 4, 0, 28, 60, 124, 252, 511, 1023, 2047]
theorem banksmanref08_Copy.tab5 : rtab .any (opsOf Try.f32 5) = banksmanref08_Copy.T5 := by kernel_rfl
theorem banksmanref08_Copy.bits5 : waitsOk banksmanref08_Copy.T5.2 banksmanref08_Copy.B5 = true := by kernel_rfl
set_option maxHeartbeats 8000000 in
set_option maxRecDepth 100000 in
theorem banksmanref08_Copy.calls (k : Nat) (A0_0 : Option Addr) (c0_0 : Nat) (l0_0 : List (S28)) (A0_1 : Option Addr) (c0_1 : Nat) (l0_1 : List Int) (r1 : List (S28)) (r2 : List Int) (w : World) (hr0_0 : Kd.C k28 w A0_0 l0_0.length l0_0) (hc0_0 : l0_0.length ≤ c0_0) (hr0_1 : Kd.C (Kd.int .i64) w A0_1 l0_1.length l0_1) (hc0_1 : l0_1.length ≤ c0_1) (h : banksmanref08_Copy.f k l0_0 l0_1 = some (r1, r2)) :
  Calls Try.prog 32 #[.agg #[.slice A0_0 l0_0.length c0_0, .slice A0_1 l0_1.length c0_1]] w fun e w' => ∃ v0_ v1_ : Value, e = .returned (.agg #[v0_, v1_]) ∧ Kd.S k28 28 w' w.heap.size (fun _ => True) v0_ r1 ∧ Kd.R (Kd.int .i64) 3 w' w.heap.size (fun _ => True) v1_ r2 ∧ Below w.heap.size w w' := by
 have hu25 := Try.underlying25
 have hu28 := Try.underlying28
 have HR0_0 := aM hr0_0
 have HC0_0 := aM hc0_0
 clear hr0_0 hc0_0
 have HR0_1 := aM hr0_1
 have HC0_1 := aM hc0_1
 clear hr0_1 hc0_1
 have HB := aM (Below.refl w.heap.size w)
 have H : ((some (([] : List Int) : List Int)).bind fun y209 => (if y209.length + l0_1.length < 17592186044416 then (banksmanref08_Copy.l0 k 0 l0_0 l0_1 ([] : List (S28)) (y209 ++ l0_1)) else (none))) = some (r1, r2) := h
 clear h
 obtain ⟨y209, hy209⟩ : ∃ y_ : List Int, y_ = (([] : List Int)) := ⟨_, rfl⟩
 replace H : (if y209.length + l0_1.length < 17592186044416 then (banksmanref08_Copy.l0 k 0 l0_0 l0_1 ([] : List (S28)) (y209 ++ l0_1)) else (none)) = some (r1, r2) := by first | (rw [hy209]; with_reducible exact H) | (have H2_ := (Option.bind_some _ _).symm.trans H; rw [hy209]; with_reducible exact H2_) | (have H2_ := (Option.bind_some _ _).symm.trans H; with_reducible exact H2_) | with_reducible exact H | (rw [hy209]; exact H) | exact H
 have Ny209 := aM hy209
 clear hy209
 by_cases c2 : y209.length + l0_1.length < 17592186044416
 ·
  rw [if_pos c2] at H
  have LMc2 := aM c2
  clear c2
  obtain ⟨y212, hy212⟩ : ∃ y_ : List Int, y_ = (y209 ++ l0_1) := ⟨_, rfl⟩
  replace H : (banksmanref08_Copy.l0 k 0 l0_0 l0_1 ([] : List (S28)) y212) = some (r1, r2) := by first | (rw [hy212]; with_reducible exact H) | (have H2_ := (Option.bind_some _ _).symm.trans H; rw [hy212]; with_reducible exact H2_) | (have H2_ := (Option.bind_some _ _).symm.trans H; with_reducible exact H2_) | with_reducible exact H | (rw [hy212]; exact H) | exact H
  have Ny212 := aM hy212
  clear hy212
  have H' := aM H
  clear H
  go_enter Try.func32, Try.ntmps32
  go_wp2_with (first | ((with_reducible refine gate_dst (N := 1) rfl ?_); refine box_event ?hg (N := 1) ?hd (cs := #[.slice A0_0 l0_0.length c0_0, .slice A0_1 l0_1.length c0_1]) (t := 25) ?hr ?_; (case hd => rfl); (case hg => rfl); (case hr => first | (go_simp; done) | (go_simp; rfl)); intro gb207 hg w3 hbox hb; have BK207 := aM (hbox); have GW207 := aM ((by rw [hg]; exact (below_size (by repeat (first | (with_reducible first | exact HB.out | apply bA | apply bN | apply bD) | exact HB.out))) : w.heap.size ≤ gb207)); have GE207 := aM ((by rw [hg]; exact (below_size (by repeat (first | (with_reducible first | exact HB.out | apply bA | apply bN | apply bD) | exact HB.out))) : w.heap.size ≤ gb207)); replace HB := aM (below_step (by repeat (first | (with_reducible first | exact HB.out | apply bA | apply bN | apply bD) | exact HB.out)) hb); clear hb hbox hg) | ((with_reducible refine gate_dst (N := 2) rfl ?_); refine box_event ?hg (N := 2) ?hd (cs := #[.slice none 0 0, .slice none 0 0]) (t := 25) ?hr ?_; (case hd => rfl); (case hg => rfl); (case hr => first | (go_simp; done) | (go_simp; rfl)); intro gb208 hg w4 hbox hb; have BK208 := aM (hbox); have GW208 := aM ((by rw [hg]; exact (below_size (by repeat (first | (with_reducible first | exact HB.out | apply bA | apply bN | apply bD | refine bS ?_ GE207.out) | exact HB.out))) : w.heap.size ≤ gb208)); have GE208 := aM ((by rw [hg]; exact (below_size (by repeat (first | (with_reducible first | exact HB.out | apply bA | apply bN | apply bD | refine bS ?_ GE207.out) | exact HB.out))) : w.heap.size ≤ gb208)); replace HB := aM (below_step (by repeat (first | (with_reducible first | exact HB.out | apply bA | apply bN | apply bD | refine bS ?_ GE207.out) | exact HB.out)) hb); have NBq3 := aM ((by rw [hg]; exact Nat.ne_of_lt (blk_lt (g := gb207) (o := .cells #[.slice A0_0 l0_0.length c0_0, .slice A0_1 l0_1.length c0_1] 25 (0, 0)) (bU BK207.out)) : gb207 ≠ gb208)); have NBq4 := aM ((by rw [hg]; exact Nat.ne_of_gt (blk_lt (g := gb207) (o := .cells #[.slice A0_0 l0_0.length c0_0, .slice A0_1 l0_1.length c0_1] 25 (0, 0)) (bU BK207.out)) : gb208 ≠ gb207)); replace BK207 := aM (kB (g := gb207) (o := .cells #[.slice A0_0 l0_0.length c0_0, .slice A0_1 l0_1.length c0_1] 25 (0, 0)) (bU BK207.out) hb); clear hb hbox hg) | ((with_reducible refine gate_dst (N := 5) rfl ?_); refine Kd.R_lit (Kd.int .i64) _ 3 ?hg (N := 5) ?hd (xs := ([] : List Int)) (inner := []) (ok := fun _ => True) (okp := fun _ => True) ?hr ?hp (fun _ hk => hk) trivial (Below.refl _ _) (Nat.le_refl _) (by simp) ?_; (case hd => rfl); (case hg => rfl); (case hr => first | (go_simp; done) | (go_simp; rfl)); (case hp => exact (Reps.none _ _)); intro v210 w5 ho6 hb hg_ hnew_; clear hg_ hnew_; (first | rw [← Ny209.out] at ho6 | (simp only [Int.reduceToNat] at ho6; rw [← Ny209.out] at ho6)); have HO211 := aM (Kd.R_lower ho6 (below_size (by repeat (first | (with_reducible first | exact HB.out | apply bA | apply bN | apply bD | refine bS ?_ GE207.out | refine bS ?_ GE208.out) | exact HB.out)))); replace BK207 := aM (kB (g := gb207) (o := .cells #[.slice A0_0 l0_0.length c0_0, .slice A0_1 l0_1.length c0_1] 25 (0, 0)) (bU BK207.out) hb); replace BK208 := aM (kB (g := gb208) (o := .cells #[.slice none 0 0, .slice none 0 0] 25 (0, 0)) (bU BK208.out) hb); replace HB := aM (below_step (by repeat (first | (with_reducible first | exact HB.out | apply bA | apply bN | apply bD | refine bS ?_ GE207.out | refine bS ?_ GE208.out) | exact HB.out)) hb); clear hb ho6; have hnb7 := NBq3.out; have hnc7 := NBq4.out; have hcz8_0 : w5.cell? ⟨gb207, 0, none⟩ = some (.slice A0_0 l0_0.length c0_0) := (kC BK207.out 0).trans rfl; have hcz8_1 : w5.cell? ⟨gb207, 1, none⟩ = some (.slice A0_1 l0_1.length c0_1) := (kC BK207.out 1).trans rfl; have hfz8_0 := kF BK207.out 0; have hfz8_1 := kF BK207.out 1) | ((with_reducible refine gate_builtin (b := .append) (xs := #[.tmp 5, .tmp 7]) rfl ?_); at_builtin; refine Kd.R_append_rows (Kd.int .i64) (w0 := w) w.heap.size rfl (.tmp 5) (.tmp 7) 23 3 (.int .i64 0) 8 rfl Try.underlying23 info3 rfl (by decide) (by omega) v210 y209 l0_1 _ _ _ (fun _ => True) (fun _ => False) rfl rfl ?aO ?aR (fun _ _ h => h) (fun _ h => h.elim) ?aF ?aB ?aS ?aL ?_; (case aR => repeat (first | exact (Kd.C_below HR0_1.out HB.out) | (with_reducible refine Kd.C_alloc ?_ _) | (with_reducible refine Kd.C_drewN ?_ _) | (with_reducible refine Kd.C_drew ?_))); (case aB => exact (by repeat (first | (with_reducible first | exact HB.out | apply bA | apply bN | apply bD | refine bS ?_ GE207.out | refine bS ?_ GE208.out) | exact HB.out))); (case aF => exact (fun _ _ => trivial)); (case aO => exact (rU HO211.out)); (case aS => exact (below_size (by repeat (first | (with_reducible first | exact HB.out | apply bA | apply bN | apply bD | refine bS ?_ GE207.out | refine bS ?_ GE208.out) | exact HB.out)))); (case aL => have := LMc2.out; omega); intro v213 w9 ho hb hg hat; rw [← Ny212.out] at ho; have n0_ := aM (blk_grown (g := gb207) (o := .cells #[.slice A0_0 l0_0.length c0_0, .slice A0_1 l0_1.length c0_1] 25 (0, 0)) (bU BK207.out) hg (Kd.R_ne HO211.out BK207.out (by decide))); have n1_ := aM (blk_grown (g := gb208) (o := .cells #[.slice none 0 0, .slice none 0 0] 25 (0, 0)) (bU BK208.out) hg (Kd.R_ne HO211.out BK208.out (by decide))); have n2_ := aM (hb); have n3_ := aM (ho); clear BK207; clear BK208; clear HB; clear HO211; have BK207 := n0_; have BK208 := n1_; have HB := n2_; have HO214 := n3_; clear n0_ n1_ n2_ n3_; clear ho hb hg hat; obtain ⟨Ao10, co10, eo10⟩ := Kd.R_slice HO214.out; subst eo10) | ((with_reducible refine gate_dst (N := 3) rfl ?_); refine box_event ?hg (N := 3) ?hd (cs := #[.slice none 0 0, .slice none 0 0]) (t := 25) ?hr ?_; (case hd => rfl); (case hg => rfl); (case hr => first | (go_simp; done) | (go_simp; rfl)); intro gb215 hg w11 hbox hb; replace HO214 := aM (Kd.R_below (rU HO214.out) hb); have BK215 := aM (hbox); have GW215 := aM ((by rw [hg]; exact (below_size (by repeat (first | (with_reducible first | exact HB.out | apply bA | apply bN | apply bD | refine bS ?_ GE207.out | refine bS ?_ GE208.out) | exact HB.out))) : w.heap.size ≤ gb215)); have GE215 := aM ((by rw [hg]; exact (below_size (by repeat (first | (with_reducible first | exact HB.out | apply bA | apply bN | apply bD | refine bS ?_ GE207.out | refine bS ?_ GE208.out) | exact HB.out))) : w.heap.size ≤ gb215)); replace HB := aM (below_step (by repeat (first | (with_reducible first | exact HB.out | apply bA | apply bN | apply bD | refine bS ?_ GE207.out | refine bS ?_ GE208.out) | exact HB.out)) hb); have NBq0 := aM ((by rw [hg]; exact Nat.ne_of_lt (blk_lt (g := gb207) (o := .cells #[.slice A0_0 l0_0.length c0_0, .slice A0_1 l0_1.length c0_1] 25 (0, 0)) (bU BK207.out)) : gb207 ≠ gb215)); have NBq2 := aM ((by rw [hg]; exact Nat.ne_of_gt (blk_lt (g := gb207) (o := .cells #[.slice A0_0 l0_0.length c0_0, .slice A0_1 l0_1.length c0_1] 25 (0, 0)) (bU BK207.out)) : gb215 ≠ gb207)); replace BK207 := aM (kB (g := gb207) (o := .cells #[.slice A0_0 l0_0.length c0_0, .slice A0_1 l0_1.length c0_1] 25 (0, 0)) (bU BK207.out) hb); have NBq1 := aM ((by rw [hg]; exact Nat.ne_of_lt (blk_lt (g := gb208) (o := .cells #[.slice none 0 0, .slice none 0 0] 25 (0, 0)) (bU BK208.out)) : gb208 ≠ gb215)); have NBq5 := aM ((by rw [hg]; exact Nat.ne_of_gt (blk_lt (g := gb208) (o := .cells #[.slice none 0 0, .slice none 0 0] 25 (0, 0)) (bU BK208.out)) : gb215 ≠ gb208)); replace BK208 := aM (kB (g := gb208) (o := .cells #[.slice none 0 0, .slice none 0 0] 25 (0, 0)) (bU BK208.out) hb); clear hb hbox hg; have hnb12 := NBq2.out; have hnc12 := NBq0.out; have hnb13 := NBq5.out; have hnc13 := NBq1.out; have hcz14_0 : w11.cell? ⟨gb215, 0, none⟩ = some (.slice none 0 0) := (kC BK215.out 0).trans rfl; have hcz14_1 : w11.cell? ⟨gb215, 1, none⟩ = some (.slice none 0 0) := (kC BK215.out 1).trans rfl; have hfz14_0 := kF BK215.out 0; have hfz14_1 := kF BK215.out 1))
  go_loopg [4] k (fun kq v4 w' => ∃ (x4_1 : Int) (x216000_1 : List (S28)) (u216000 : Value), v4 = .int .i64 x4_1 ∧ Aside0 (banksmanref08_Copy.l0 kq x4_1 l0_0 l0_1 x216000_1 y212 = some (r1, r2)) ∧ Aside0 (kq ≤ k) ∧ Aside0 (Kd.S k28 28 w' w.heap.size (fun _ => True) u216000 x216000_1) ∧ Aside0 (Kd.R (Kd.int .i64) 3 w' w.heap.size (fun _ => True) (.slice Ao10 y212.length co10) y212) ∧ Aside0 (w'.heap[gb207]? = some (.cells #[(.slice A0_0 l0_0.length c0_0), (.slice A0_1 l0_1.length c0_1)] 25 (0, 0))) ∧ Aside0 (w'.heap[gb208]? = some (.cells #[(.slice none 0 0), (.slice none 0 0)] 25 (0, 0))) ∧ Aside0 (w'.heap[gb215]? = some (.cells #[u216000, (.slice Ao10 y212.length co10)] 25 (0, 0))) ∧ Aside0 (Below w.heap.size w w'))
  case atStart => exact ⟨(0), (([] : List (S28))), (.slice none 0 0), (by first | rfl | (simp; done) | (simp [*]; done)), H', ⟨Nat.le_refl _⟩, ⟨by first | exact Kd.S_nil _ _ _ _ _ | exact Kd.N_nil _ _ _ _ _ | exact Kd.V_nil _ _ _ _ _ | exact Kd.Q_nil _ _ _ _ _ | exact Kd.R_nil _ _ _ _ _⟩, ⟨by (with_reducible repeat (first | apply Kd.R_alloc | apply Kd.R_drewN | apply Kd.R_drew)); exact Kd.R_mono (Kd.R_far (p := ⟨gb215, 1, none⟩) (Kd.R_far (p := ⟨gb215, 0, none⟩) (Kd.R_types HO214.out BK215.out (by decide)) (fun _ hk => hk.2) (.slice none 0 0)) (fun _ hk => hk.2) (.slice Ao10 y212.length co10)) (fun _ hk => trivial)⟩, ⟨by (with_reducible repeat (first | refine blk_drewN ?_ _ | refine blk_drew ?_ | refine blk_alloc ?_ _)); refine blk_far ?_ NBq0.out _; (with_reducible repeat (first | refine blk_drewN ?_ _ | refine blk_drew ?_ | refine blk_alloc ?_ _)); refine blk_far ?_ NBq0.out _; (with_reducible repeat (first | refine blk_drewN ?_ _ | refine blk_drew ?_ | refine blk_alloc ?_ _)); exact BK207.out⟩, ⟨by (with_reducible repeat (first | refine blk_drewN ?_ _ | refine blk_drew ?_ | refine blk_alloc ?_ _)); refine blk_far ?_ NBq1.out _; (with_reducible repeat (first | refine blk_drewN ?_ _ | refine blk_drew ?_ | refine blk_alloc ?_ _)); refine blk_far ?_ NBq1.out _; (with_reducible repeat (first | refine blk_drewN ?_ _ | refine blk_drew ?_ | refine blk_alloc ?_ _)); exact BK208.out⟩, ⟨by (with_reducible repeat (first | refine blk_drewN ?_ _ | refine blk_drew ?_ | refine blk_alloc ?_ _)); refine blk_put (cs := #[.slice none 0 0, .slice none 0 0]) ?_ 1 _ rfl; (with_reducible repeat (first | refine blk_drewN ?_ _ | refine blk_drew ?_ | refine blk_alloc ?_ _)); refine blk_put (cs := #[.slice none 0 0, .slice none 0 0]) ?_ 0 _ rfl; (with_reducible repeat (first | refine blk_drewN ?_ _ | refine blk_drew ?_ | refine blk_alloc ?_ _)); exact BK215.out⟩, ⟨by repeat (first | (with_reducible first | exact HB.out | apply bA | apply bN | apply bD | refine bS ?_ GE207.out | refine bS ?_ GE208.out | refine bS ?_ GE215.out) | exact HB.out)⟩⟩
  case round =>
   clear H'
   try clear c1
   try clear c2
   try clear p2
   try clear c3
   try clear c7
   try clear c12
   try clear c13
   try clear hcz14_0
   try clear hcz14_1
   try clear hcz8_0
   try clear hcz8_1
   try clear hfz14_0
   try clear hfz14_1
   try clear hfz8_0
   try clear hfz8_1
   obtain ⟨x4_1, x216000_1, u216000, rfl, HA, HK1, HOq0, HOq1, BK207, BK208, BK215, HB⟩ := hrel
   cases gk with
   | zero => exact absurd HA.out (by simp [banksmanref08_Copy.l0])
   | succ k1 =>
    have H := HA.out
    clear HA
    simp only [banksmanref08_Copy.l0] at H
    by_cases c15 : x4_1 < (l0_0.length : Int)
    ·
     rw [if_pos c15] at H
     have c15b0 : decide (x4_1 < (l0_0.length : Int)) = true := decide_eq_true c15
     clear c15
     by_cases c16 : 0 ≤ x4_1
     ·
      rw [if_pos c16] at H
      have c16b0 : decide (0 ≤ x4_1) = true := decide_eq_true c16
      clear c16
      replace H := Option.bind_eq_some_iff.mp H
      obtain ⟨⟨t217, t218, t221, t222⟩, A170, H⟩ := H
      replace H : (if x216000_1.length < 2199023255552 then (banksmanref08_Copy.l0 k1 (wrap64 (x4_1 + 1)) l0_0 l0_1 (x216000_1 ++ [(⟨t217, t218, t221, t222⟩ : S28)]) y212) else (none)) = some (r1, r2) := H
      have A17 := aM A170
      clear A170
      by_cases c18 : x216000_1.length < 2199023255552
      ·
       rw [if_pos c18] at H
       have LMc18 := aM c18
       clear c18
       obtain ⟨y225, hy225⟩ : ∃ y_ : List (S28), y_ = (x216000_1 ++ [(⟨t217, t218, t221, t222⟩ : S28)]) := ⟨_, rfl⟩
       replace H : (banksmanref08_Copy.l0 k1 (wrap64 (x4_1 + 1)) l0_0 l0_1 y225 y212) = some (r1, r2) := by first | (rw [hy225]; with_reducible exact H) | (have H2_ := (Option.bind_some _ _).symm.trans H; rw [hy225]; with_reducible exact H2_) | (have H2_ := (Option.bind_some _ _).symm.trans H; with_reducible exact H2_) | with_reducible exact H | (rw [hy225]; exact H) | exact H
       have Ny225 := aM hy225
       clear hy225
       have H' := aM H
       clear H
       have hnb19 := NBq3.out
       have hnc19 := NBq4.out
       have hnb20 := NBq0.out
       have hnc20 := NBq2.out
       have hcz21_0 : wr.cell? ⟨gb207, 0, none⟩ = some (.slice A0_0 l0_0.length c0_0) := (kC BK207.out 0).trans rfl
       have hcz21_1 : wr.cell? ⟨gb207, 1, none⟩ = some (.slice A0_1 l0_1.length c0_1) := (kC BK207.out 1).trans rfl
       have hfz21_0 := kF BK207.out 0
       have hfz21_1 := kF BK207.out 1
       try go_wp2
       have n0_ := aM (Kd.S_drew HOq0.out)
       have n1_ := aM (Kd.R_drew HOq1.out)
       have n2_ := aM (blk_drew BK207.out)
       have n3_ := aM (blk_drew BK208.out)
       have n4_ := aM (blk_drew BK215.out)
       have n5_ := aM (bD HB.out)
       clear HOq0
       clear HOq1
       clear BK207
       clear BK208
       clear BK215
       clear HB
       have HOq0 := n0_
       have HOq1 := n1_
       have BK207 := n2_
       have BK208 := n3_
       have BK215 := n4_
       have HB := n5_
       clear n0_ n1_ n2_ n3_ n4_ n5_
       have p216 : 0 ≤ (x4_1 : Int) := of_decide_eq_true (by first | (with_reducible assumption) | assumption)
       have q216 : x4_1 < (l0_0.length : Int) := of_decide_eq_true (by first | (with_reducible assumption) | assumption)
       obtain ⟨ad216, A216_1, c216_1, A216_3, c216_3, e216, hx216_0, hx216_1, hx216_2, hx216_3, hl216_1, hi216_1, hl216_3, hi216_3⟩ := at_T28 HR0_0.out x4_1 p216 q216
       have hw216_3 := hx216_3
       have hw216_2 := hx216_2
       have hw216_1 := hx216_1
       have hw216_0 := hx216_0
       cases e216
       replace hx216_0 := (HB.out.cell (World.block_lt_of_cell? w _ hx216_0)).trans hx216_0
       replace hx216_1 := (HB.out.cell (World.block_lt_of_cell? w _ hx216_1)).trans hx216_1
       replace hx216_2 := (HB.out.cell (World.block_lt_of_cell? w _ hx216_2)).trans hx216_2
       replace hx216_3 := (HB.out.cell (World.block_lt_of_cell? w _ hx216_3)).trans hx216_3
       have HRq0 := aM hi216_1
       have HCq0 := aM hl216_1
       clear hi216_1 hl216_1
       have HRq1 := aM hi216_3
       have HCq1 := aM hl216_3
       clear hi216_3 hl216_3
       replace p216 := eq_true p216
       replace q216 := eq_true q216
       refine start_ (n := 12) (S := fun w' => w'.cell? ⟨gb215, 0, none⟩ = some (u216000) ∧ w'.cell? ⟨gb215, 1, none⟩ = some (.slice Ao10 y212.length co10) ∧ w'.cell? ⟨gb207, 0, none⟩ = some (.slice (some ad216) l0_0.length c0_0) ∧ w'.cell? ⟨gb207, 1, none⟩ = some (.slice A0_1 l0_1.length c0_1) ∧ w'.cell? (ad216.add ((x4_1).toNat * 4)) = some (.int .i64 ((rd_T28 l0_0 x4_1).f0)) ∧ w'.cell? ⟨(ad216.add ((x4_1).toNat * 4)).block, (ad216.add ((x4_1).toNat * 4)).off + 1, none⟩ = some (.slice A216_1 ((rd_T28 l0_0 x4_1).f1).length c216_1) ∧ w'.cell? ⟨(ad216.add ((x4_1).toNat * 4)).block, (ad216.add ((x4_1).toNat * 4)).off + 2, none⟩ = some (.bool ((rd_T28 l0_0 x4_1).f2)) ∧ w'.cell? ⟨(ad216.add ((x4_1).toNat * 4)).block, (ad216.add ((x4_1).toNat * 4)).off + 3, none⟩ = some (.slice A216_3 ((rd_T28 l0_0 x4_1).f3).length c216_3)) (ds := [11]) #[F_,F_,F_,F_,F_,F_,F_,F_,F_,F_,F_,F_] (by kernel_rfl) rfl rfl ⟨(kC BK215.out 0).trans rfl, (kC BK215.out 1).trans rfl, (kC BK207.out 0).trans rfl, (kC BK207.out 1).trans rfl, ((HB.out.cell (World.block_lt_of_cell? w _ hw216_0)).trans hw216_0), ((HB.out.cell (World.block_lt_of_cell? w _ hw216_1)).trans hw216_1), ((HB.out.cell (World.block_lt_of_cell? w _ hw216_2)).trans hw216_2), ((HB.out.cell (World.block_lt_of_cell? w _ hw216_3)).trans hw216_3)⟩ (fun hHeld => ?_); refine with_tabW banksmanref08_Copy.tab5 banksmanref08_Copy.bits5 (fun HT_ HW_ => ?_)
       generalize wr.drew = w22 at HOq0 HOq1 BK207 BK208 BK215 HB HRq0 HRq1 hx216_0 hx216_1 hx216_2 hx216_3 hHeld ⊢
       refine pure_ (i := 0) (N := some 17) (v := ?_) (a' := ?_) #[T_,F_,F_,F_,F_,F_,F_,F_,F_,F_,F_,F_] rfl rfl (any_of HT_.out (by kernel_rfl)) (fun _ _ _ h => h) (Or.inl ⟨by rfl, ?_⟩) ?_ ?_
       rotate_left
       ·
        intro w'
        go_simp
        with_reducible rfl
       rotate_left
       ·
        simp only [Act.put, List.setIfInBounds_toArray, List.set_cons_zero, List.set_cons_succ, i64_w, i32_w]
        rfl
       refine pure_ (i := 2) (N := some 19) (v := ?_) (a' := ?_) #[T_,F_,T_,F_,F_,F_,F_,F_,F_,F_,F_,F_] rfl rfl (any_of HT_.out (by kernel_rfl)) (fun _ _ _ h => h) (Or.inl ⟨by rfl, ?_⟩) ?_ ?_
       rotate_left
       ·
        intro w'
        go_simp
        with_reducible rfl
       rotate_left
       ·
        simp only [Act.put, List.setIfInBounds_toArray, List.set_cons_zero, List.set_cons_succ, i64_w, i32_w]
        rfl
       refine pure_ (i := 4) (N := some 21) (v := ?_) (a' := ?_) #[T_,F_,T_,F_,T_,F_,F_,F_,F_,F_,F_,F_] rfl rfl (any_of HT_.out (by kernel_rfl)) (fun _ _ _ h => h) (Or.inl ⟨by rfl, ?_⟩) ?_ ?_
       rotate_left
       ·
        intro w'
        go_simp
        with_reducible rfl
       rotate_left
       ·
        simp only [Act.put, List.setIfInBounds_toArray, List.set_cons_zero, List.set_cons_succ, i64_w, i32_w]
        rfl
       refine take_ (i := 1) (N := some 18) (v := ?_) (a' := ?_) #[T_,T_,T_,F_,T_,F_,F_,F_,F_,F_,F_,F_] rfl rfl (take_ofW HT_.out HW_.out (by kernel_rfl)) (fun _ _ _ h => h) (Or.inl ⟨by rfl, ?_⟩) hHeld ?_ ?_
       rotate_left
       ·
        rintro w' ⟨s0, s1, s2, s3, s4, s5, s6, s7⟩
        go_simp
        with_reducible rfl
       rotate_left
       ·
        simp only [Act.put, List.setIfInBounds_toArray, List.set_cons_zero, List.set_cons_succ, i64_w, i32_w]
        rfl
       refine take_ (i := 3) (N := some 20) (v := ?_) (a' := ?_) #[T_,T_,T_,T_,T_,F_,F_,F_,F_,F_,F_,F_] rfl rfl (take_ofW HT_.out HW_.out (by kernel_rfl)) (fun _ _ _ h => h) (Or.inl ⟨by rfl, ?_⟩) hHeld ?_ ?_
       rotate_left
       ·
        rintro w' ⟨s0, s1, s2, s3, s4, s5, s6, s7⟩
        go_simp
        with_reducible rfl
       rotate_left
       ·
        simp only [Act.put, List.setIfInBounds_toArray, List.set_cons_zero, List.set_cons_succ, i64_w, i32_w]
        rfl
       refine pure_ (i := 5) (N := some 22) (v := ?_) (a' := ?_) #[T_,T_,T_,T_,T_,T_,F_,F_,F_,F_,F_,F_] rfl rfl (any_of HT_.out (by kernel_rfl)) (fun _ _ _ h => h) (Or.inl ⟨by rfl, ?_⟩) ?_ ?_
       rotate_left
       ·
        intro w'
        go_simp
        with_reducible rfl
       rotate_left
       ·
        simp only [Act.put, List.setIfInBounds_toArray, List.set_cons_zero, List.set_cons_succ, i64_w, i32_w]
        rfl
       refine take_ (i := 6) (N := some 23) (v := ?_) (a' := ?_) #[T_,T_,T_,T_,T_,T_,T_,F_,F_,F_,F_,F_] rfl rfl (take_ofW HT_.out HW_.out (by kernel_rfl)) (fun _ _ _ h => h) (Or.inl ⟨by rfl, ?_⟩) hHeld ?_ ?_
       rotate_left
       ·
        rintro w' ⟨s0, s1, s2, s3, s4, s5, s6, s7⟩
        go_simp
        with_reducible rfl
       rotate_left
       ·
        simp only [Act.put, List.setIfInBounds_toArray, List.set_cons_zero, List.set_cons_succ, i64_w, i32_w]
        rfl
       refine one_ (i := 7) (N := some 24) #[T_,T_,T_,T_,T_,T_,T_,T_,F_,F_,F_,F_] rfl rfl (one_of HT_.out (by kernel_rfl)) (by decide) (fun K hK => ?_)
       refine goes_ Try.func34 (by kernel_rfl) rfl #[.agg #[.int .i64 ((rd_T28 l0_0 x4_1).f0), .slice A216_1 ((rd_T28 l0_0 x4_1).f1).length c216_1, .bool ((rd_T28 l0_0 x4_1).f2), .slice A216_3 ((rd_T28 l0_0 x4_1).f3).length c216_3]] (by rfl) rfl rfl (by (try simp only [List.map_toArray, List.map_cons, List.map_nil]); first | done | rfl | (simp only [List.length_drop, List.length_take]; rfl)) ?_
       with_reducible refine (banksmanref08_write.calls ((rd_T28 l0_0 x4_1).f0) _ _ ((rd_T28 l0_0 x4_1).f1) ((rd_T28 l0_0 x4_1).f2) _ _ ((rd_T28 l0_0 x4_1).f3) t217 t218 t221 t222 _ ?side1 ?side2 ?side3 ?side4 A17.out).mono ?_
       (case side1 => repeat (first | exact (Kd.C_below HRq0.out HB.out) | (with_reducible refine Kd.C_alloc ?_ _) | (with_reducible refine Kd.C_drewN ?_ _) | (with_reducible refine Kd.C_drew ?_)))
       (case side2 => exact HCq0.out)
       (case side3 => repeat (first | exact (Kd.C_below HRq1.out HB.out) | (with_reducible refine Kd.C_alloc ?_ _) | (with_reducible refine Kd.C_drewN ?_ _) | (with_reducible refine Kd.C_drew ?_)))
       (case side4 => exact HCq1.out)
       rintro e w23 ⟨v219, v223, rfl, ho0, ho1, hb⟩
       refine ⟨_, rfl, ?_⟩
       have n0_ := aM (Kd.S_mono (Kd.S_told (Kd.S_told (Kd.S_old (by (with_reducible repeat (first | apply Kd.S_alloc | apply Kd.S_drewN | apply Kd.S_drew)); exact HOq0.out) hb) (Kd.R_base ho0)) (Kd.R_base ho1)) (fun _ h_ => h_.1))
       have n1_ := aM (Kd.R_below (rU HOq1.out) hb)
       have n2_ := aM (Kd.R_lower ho0 (below_size (by repeat (first | (with_reducible first | exact HB.out | apply bA | apply bN | apply bD | refine bS ?_ GE207.out | refine bS ?_ GE208.out | refine bS ?_ GE215.out) | exact HB.out))))
       have n3_ := aM (Kd.R_lower ho1 (below_size (by repeat (first | (with_reducible first | exact HB.out | apply bA | apply bN | apply bD | refine bS ?_ GE207.out | refine bS ?_ GE208.out | refine bS ?_ GE215.out) | exact HB.out))))
       have n4_ := aM (kB (g := gb207) (o := .cells #[.slice (some ad216) l0_0.length c0_0, .slice A0_1 l0_1.length c0_1] 25 (0, 0)) (bU BK207.out) hb)
       have n5_ := aM (kB (g := gb208) (o := .cells #[.slice none 0 0, .slice none 0 0] 25 (0, 0)) (bU BK208.out) hb)
       have n6_ := aM (kB (g := gb215) (o := .cells #[u216000, .slice Ao10 y212.length co10] 25 (0, 0)) (bU BK215.out) hb)
       have n7_ := aM (below_step (by repeat (first | (with_reducible first | exact HB.out | apply bA | apply bN | apply bD | refine bS ?_ GE207.out | refine bS ?_ GE208.out | refine bS ?_ GE215.out) | exact HB.out)) hb)
       clear HOq0
       clear HOq1
       clear BK207
       clear BK208
       clear BK215
       clear HB
       have HOq0 := n0_
       have HOq1 := n1_
       have HO220 := n2_
       have HO224 := n3_
       have BK207 := n4_
       have BK208 := n5_
       have BK215 := n6_
       have HB := n7_
       clear n0_ n1_ n2_ n3_ n4_ n5_ n6_ n7_
       (try clear hb)
       (try clear hb2)
       (try clear hk)
       (try clear hi)
       (try clear ho0)
       (try clear ho1)
       obtain ⟨Ao25, co25, eo25⟩ := Kd.R_slice HO220.out
       (first | subst eo25 | (injection eo25 with f1_ f2_ f3_; have f4_ := f1_.symm; have f5_ := f3_.symm; clear f1_ f2_ f3_; subst f4_; subst f5_))
       obtain ⟨Ao26, co26, eo26⟩ := Kd.R_slice HO224.out
       (first | subst eo26 | (injection eo26 with f1_ f2_ f3_; have f4_ := f1_.symm; have f5_ := f3_.symm; clear f1_ f2_ f3_; subst f4_; subst f5_))
       refine hK.out _ _ ⟨(kC BK215.out 0).trans rfl, (kC BK215.out 1).trans rfl, (kC BK207.out 0).trans rfl, (kC BK207.out 1).trans rfl, ((HB.out.cell (World.block_lt_of_cell? w _ hw216_0)).trans hw216_0), ((HB.out.cell (World.block_lt_of_cell? w _ hw216_1)).trans hw216_1), ((HB.out.cell (World.block_lt_of_cell? w _ hw216_2)).trans hw216_2), ((HB.out.cell (World.block_lt_of_cell? w _ hw216_3)).trans hw216_3)⟩ (fun hHeld => ?_)
       clear hK K
       refine norm_ (a' := ?_) ?_ ?_
       rotate_left
       ·
        show Act.put _ (some 24) _ = _
        simp only [Act.put, List.setIfInBounds_toArray, List.set_cons_zero, List.set_cons_succ, i64_w, i32_w]
        rfl
       refine one_ (i := 8) (N := some 25) #[T_,T_,T_,T_,T_,T_,T_,T_,T_,F_,F_,F_] rfl rfl (one_of HT_.out (by kernel_rfl)) (by decide) (fun K hK => ?_)
       refine value_ (w1 := ?_) (v := ?_) (by rfl) rfl ?_ ?_
       rotate_left 2
       ·
        go_simp
        constructor
        ·
         rfl
        ·
         rfl
       refine hK.out _ _ ⟨(kC (blk_alloc BK215.out _) 0).trans rfl, (kC (blk_alloc BK215.out _) 1).trans rfl, (kC (blk_alloc BK207.out _) 0).trans rfl, (kC (blk_alloc BK207.out _) 1).trans rfl, (World.cell?_alloc_lt _ _ _ (World.block_lt_of_cell? _ _ (((HB.out.cell (World.block_lt_of_cell? w _ hw216_0)).trans hw216_0)))).trans (((HB.out.cell (World.block_lt_of_cell? w _ hw216_0)).trans hw216_0)), (World.cell?_alloc_lt _ _ _ (World.block_lt_of_cell? _ _ (((HB.out.cell (World.block_lt_of_cell? w _ hw216_1)).trans hw216_1)))).trans (((HB.out.cell (World.block_lt_of_cell? w _ hw216_1)).trans hw216_1)), (World.cell?_alloc_lt _ _ _ (World.block_lt_of_cell? _ _ (((HB.out.cell (World.block_lt_of_cell? w _ hw216_2)).trans hw216_2)))).trans (((HB.out.cell (World.block_lt_of_cell? w _ hw216_2)).trans hw216_2)), (World.cell?_alloc_lt _ _ _ (World.block_lt_of_cell? _ _ (((HB.out.cell (World.block_lt_of_cell? w _ hw216_3)).trans hw216_3)))).trans (((HB.out.cell (World.block_lt_of_cell? w _ hw216_3)).trans hw216_3))⟩ (fun hHeld => ?_)
       clear hK K
       refine norm_ (a' := ?_) ?_ ?_
       rotate_left
       ·
        show Act.put _ (some 25) _ = _
        simp only [Act.put, List.setIfInBounds_toArray, List.set_cons_zero, List.set_cons_succ, i64_w, i32_w]
        rfl
       refine one_ (i := 9) (N := some 26) #[T_,T_,T_,T_,T_,T_,T_,T_,T_,T_,F_,F_] rfl rfl (one_of HT_.out (by kernel_rfl)) (by decide) (fun K hK => ?_)
       refine Kd.S_append_step k28 (w0 := w) w.heap.size (by rfl) (.tmp 18) (.tmp 25) 22 28 (.agg #[(.int .i64 0), (.slice none 0 0), (.bool false), (.slice none 0 0)]) 64 rfl Try.underlying22 info28 rfl (by decide) (by omega) u216000 x216000_1 (⟨t217, t218, t221, t222⟩ : S28) [.int .i64 t217, .slice Ao25 t218.length co25, .bool t221, .slice Ao26 t222.length co26] (fun _ => True) (fun k_ => some k_ = (.slice Ao25 t218.length co25 : Value).ownBlock ∨ some k_ = (.slice Ao26 t222.length co26 : Value).ownBlock) rfl rfl ?aP (fun k_ hk_ => hk_.elim (fun h_ => ((Kd.R_mono (ok' := fun k_ => ((fun _ => True)) k_ ∧ some k_ ≠ (u216000 : Value).ownBlock) (Kd.R_apart' (HO220.out) (Kd.S_typed HOq0.out) (by decide)) (fun k_ hk => ⟨trivial, hk.2⟩))).1 k_ h_.symm) (fun h_ => ((Kd.R_mono (ok' := fun k_ => ((fun _ => True)) k_ ∧ some k_ ≠ (u216000 : Value).ownBlock) (Kd.R_apart' (HO224.out) (Kd.S_typed HOq0.out) (by decide)) (fun k_ hk => ⟨trivial, hk.2⟩))).1 k_ h_.symm)) ?aF ?aO ?aB ?aS ?aL ?_
       (case aP => exact k28_mkM _ _ _ (⟨t217, t218, t221, t222⟩ : S28) (Kd.R_mono (Kd.R_tight rfl (Kd.R_mono (ok' := fun k_ => ((fun _ => True)) k_ ∧ some k_ ≠ (u216000 : Value).ownBlock) (Kd.R_apart' (HO220.out) (Kd.S_typed HOq0.out) (by decide)) (fun k_ hk => ⟨trivial, hk.2⟩))) (fun _ h_ => Or.inl h_)) (Kd.R_mono (Kd.R_tight rfl (Kd.R_mono (ok' := fun k_ => ((fun _ => True)) k_ ∧ some k_ ≠ (u216000 : Value).ownBlock) (Kd.R_apart' (HO224.out) (Kd.S_typed HOq0.out) (by decide)) (fun k_ hk => ⟨trivial, hk.2⟩))) (fun _ h_ => Or.inr (h_))))
       (case aB => exact (by repeat (first | (with_reducible first | exact HB.out | apply bA | apply bN | apply bD | refine bS ?_ GE207.out | refine bS ?_ GE208.out | refine bS ?_ GE215.out) | exact HB.out)))
       (case aF => exact (fun _ _ => trivial))
       (case aO => exact (by (with_reducible repeat (first | apply Kd.S_alloc | apply Kd.S_drewN | apply Kd.S_drew)); exact Kd.S_mono HOq0.out (fun k_ hk => ⟨trivial, fun e_ => e_.elim (fun h_ => hk.1.2 h_) (fun h_ => hk.2 h_)⟩)))
       (case aS => exact (below_size (by repeat (first | (with_reducible first | exact HB.out | apply bA | apply bN | apply bD | refine bS ?_ GE207.out | refine bS ?_ GE208.out | refine bS ?_ GE215.out) | exact HB.out))))
       (case aL => have := LMc18.out; omega)
       intro v226 w24 ho hb hg hat
       rw [← Ny225.out] at ho
       have n0_ := aM (Kd.R_over' (rU HOq1.out) (Kd.S_typed (by (with_reducible repeat (first | apply Kd.S_alloc | apply Kd.S_drewN | apply Kd.S_drew)); exact HOq0.out)) (by decide) hg)
       have n1_ := aM (blk_grown (g := gb207) (o := .cells #[.slice (some ad216) l0_0.length c0_0, .slice A0_1 l0_1.length c0_1] 25 (0, 0)) (bU BK207.out) hg (Kd.S_ne HOq0.out BK207.out (by decide)))
       have n2_ := aM (blk_grown (g := gb208) (o := .cells #[.slice none 0 0, .slice none 0 0] 25 (0, 0)) (bU BK208.out) hg (Kd.S_ne HOq0.out BK208.out (by decide)))
       have n3_ := aM (blk_grown (g := gb215) (o := .cells #[u216000, .slice Ao10 y212.length co10] 25 (0, 0)) (bU BK215.out) hg (Kd.S_ne HOq0.out BK215.out (by decide)))
       have n4_ := aM (hb)
       have n5_ := aM (ho)
       clear HOq1
       clear BK207
       clear BK208
       clear BK215
       clear HB
       clear HOq0
       clear HO220
       clear HO224
       have HOq1 := n0_
       have BK207 := n1_
       have BK208 := n2_
       have BK215 := n3_
       have HB := n4_
       have HO227 := n5_
       clear n0_ n1_ n2_ n3_ n4_ n5_
       clear ho hb hg hat
       obtain ⟨Ao27, co27, eo27⟩ := Kd.S_slice HO227.out
       (first | subst eo27 | (injection eo27 with f1_ f2_ f3_; have f4_ := f1_.symm; have f5_ := f3_.symm; clear f1_ f2_ f3_; subst f4_; subst f5_))
       refine hK.out _ _ ⟨(kC BK215.out 0).trans rfl, (kC BK215.out 1).trans rfl, (kC BK207.out 0).trans rfl, (kC BK207.out 1).trans rfl, ((HB.out.cell (World.block_lt_of_cell? w _ hw216_0)).trans hw216_0), ((HB.out.cell (World.block_lt_of_cell? w _ hw216_1)).trans hw216_1), ((HB.out.cell (World.block_lt_of_cell? w _ hw216_2)).trans hw216_2), ((HB.out.cell (World.block_lt_of_cell? w _ hw216_3)).trans hw216_3)⟩ (fun hHeld => ?_)
       clear hK K
       refine norm_ (a' := ?_) ?_ ?_
       rotate_left
       ·
        show Act.put _ (some 26) _ = _
        simp only [Act.put, List.setIfInBounds_toArray, List.set_cons_zero, List.set_cons_succ, i64_w, i32_w]
        rfl
       refine pure_ (i := 10) (N := some 27) (v := ?_) (a' := ?_) #[T_,T_,T_,T_,T_,T_,T_,T_,T_,T_,T_,F_] rfl rfl (any_of HT_.out (by kernel_rfl)) (fun _ _ _ h => h) (Or.inl ⟨by rfl, ?_⟩) ?_ ?_
       rotate_left
       ·
        intro w'
        go_simp
        with_reducible rfl
       rotate_left
       ·
        simp only [Act.put, List.setIfInBounds_toArray, List.set_cons_zero, List.set_cons_succ, i64_w, i32_w]
        rfl
       refine last_ (i := 11) (N := none) #[T_,T_,T_,T_,T_,T_,T_,T_,T_,T_,T_,T_] rfl rfl (one_of HT_.out (by kernel_rfl)) (by decide) (fun K hK => ?_)
       have hs28 : w24.cell? ⟨gb215, 0, none⟩ = some (u216000) := (kC BK215.out 0).trans rfl
       have hfs28 := kF BK215.out 0
       have hns28_0 := NBq0.out
       have hns28_1 := NBq1.out
       have hms28_0 := NBq2.out
       have hms28_1 := NBq5.out
       refine skip_ (w1 := ?_) (by rfl) rfl ?_ ?_
       rotate_left
       ·
        go_simp
        rfl
       refine hK.out _ _ ?_
       clear hK K
       refine done_ (done_of HT_.out (by kernel_rfl)) ?_
       try go_wp2
       go_roundg k1
       case measure => have := HK1.out; omega
       case rel => exact ⟨(wrap64 (x4_1 + 1)), (y225), (.slice Ao27 y225.length co27), (by first | rfl | (simp; done) | (simp [*]; done)), H', ⟨by have := HK1.out; omega⟩, ⟨by (with_reducible repeat (first | apply Kd.S_alloc | apply Kd.S_drewN | apply Kd.S_drew)); exact Kd.S_mono (Kd.S_far (p := ⟨gb215, 0, none⟩) (Kd.S_types HO227.out BK215.out (by decide)) (fun _ hk => hk.2) (.slice Ao27 y225.length co27)) (fun _ hk => trivial)⟩, ⟨by (with_reducible repeat (first | apply Kd.R_alloc | apply Kd.R_drewN | apply Kd.R_drew)); exact Kd.R_mono (Kd.R_far (p := ⟨gb215, 0, none⟩) (Kd.R_types HOq1.out BK215.out (by decide)) (fun _ hk => hk.2) (.slice Ao27 y225.length co27)) (fun _ hk => trivial)⟩, ⟨by (with_reducible repeat (first | refine blk_drewN ?_ _ | refine blk_drew ?_ | refine blk_alloc ?_ _)); refine blk_far ?_ NBq0.out _; (with_reducible repeat (first | refine blk_drewN ?_ _ | refine blk_drew ?_ | refine blk_alloc ?_ _)); exact BK207.out⟩, ⟨by (with_reducible repeat (first | refine blk_drewN ?_ _ | refine blk_drew ?_ | refine blk_alloc ?_ _)); refine blk_far ?_ NBq1.out _; (with_reducible repeat (first | refine blk_drewN ?_ _ | refine blk_drew ?_ | refine blk_alloc ?_ _)); exact BK208.out⟩, ⟨by (with_reducible repeat (first | refine blk_drewN ?_ _ | refine blk_drew ?_ | refine blk_alloc ?_ _)); refine blk_put (cs := #[u216000, .slice Ao10 y212.length co10]) ?_ 0 _ rfl; (with_reducible repeat (first | refine blk_drewN ?_ _ | refine blk_drew ?_ | refine blk_alloc ?_ _)); exact BK215.out⟩, ⟨by repeat (first | (with_reducible first | exact HB.out | apply bA | apply bN | apply bD | refine bS ?_ GE207.out | refine bS ?_ GE208.out | refine bS ?_ GE215.out) | exact HB.out)⟩⟩
      ·
       rw [if_neg c18] at H
       exact absurd H (by simp)
     ·
      rw [if_neg c16] at H
      exact absurd H (by simp)
    ·
     rw [if_neg c15] at H
     have c15b0 : decide (x4_1 < (l0_0.length : Int)) = false := decide_eq_false c15
     clear c15
     simp only [Option.some.injEq, Prod.mk.injEq] at H
     obtain ⟨rfl, rfl⟩ := H
     have hnb29 := NBq3.out
     have hnc29 := NBq4.out
     have hnb30 := NBq0.out
     have hnc30 := NBq2.out
     have hcz31_0 : wr.cell? ⟨gb207, 0, none⟩ = some (.slice A0_0 l0_0.length c0_0) := (kC BK207.out 0).trans rfl
     have hcz31_1 : wr.cell? ⟨gb207, 1, none⟩ = some (.slice A0_1 l0_1.length c0_1) := (kC BK207.out 1).trans rfl
     have hfz31_0 := kF BK207.out 0
     have hfz31_1 := kF BK207.out 1
     have hnb32 := NBq5.out
     have hnc32 := NBq1.out
     have hcz33_0 : wr.cell? ⟨gb215, 0, none⟩ = some (u216000) := (kC BK215.out 0).trans rfl
     have hcz33_1 : wr.cell? ⟨gb215, 1, none⟩ = some (.slice Ao10 y212.length co10) := (kC BK215.out 1).trans rfl
     have hfz33_0 := kF BK215.out 0
     have hfz33_1 := kF BK215.out 1
     obtain ⟨Ao34, co34, eo34⟩ := Kd.S_slice HOq0.out
     subst eo34
     have hcz35_0 : wr.cell? ⟨gb208, 0, none⟩ = some (.slice none 0 0) := (kC BK208.out 0).trans rfl
     have hcz35_1 : wr.cell? ⟨gb208, 1, none⟩ = some (.slice none 0 0) := (kC BK208.out 1).trans rfl
     have hfz35_0 := kF BK208.out 0
     have hfz35_1 := kF BK208.out 1
     go_wp2
     refine bodyPost_ret (results_cell_row rfl _ _ gb208 25 #[.slice Ao34 x216000_1.length co34, .slice Ao10 y212.length co10] (0, 0) _ rfl (by (with_reducible repeat (first | refine blk_drewN ?_ _ | refine blk_drew ?_ | refine blk_alloc ?_ _)); refine blk_put (cs := #[.slice Ao34 x216000_1.length co34, .slice none 0 0]) ?_ 1 _ rfl; (with_reducible repeat (first | refine blk_drewN ?_ _ | refine blk_drew ?_ | refine blk_alloc ?_ _)); refine blk_put (cs := #[.slice none 0 0, .slice none 0 0]) ?_ 0 _ rfl; (with_reducible repeat (first | refine blk_drewN ?_ _ | refine blk_drew ?_ | refine blk_alloc ?_ _)); exact BK208.out) Try.underlying25 rfl (by kernel_rfl)) rfl ?_
     exact ⟨_, _, by first | rfl | (simp [errW_none, errW_some] <;> rfl) | (simp [*, errW_none, errW_some] <;> rfl), by (with_reducible repeat (first | apply Kd.S_alloc | apply Kd.S_drewN | apply Kd.S_drew)); exact Kd.S_mono (Kd.S_far (p := ⟨gb208, 1, none⟩) (Kd.S_far (p := ⟨gb208, 0, none⟩) (Kd.S_types HOq0.out BK208.out (by decide)) (fun _ hk => hk.2) (.slice Ao34 x216000_1.length co34)) (fun _ hk => hk.2) (.slice Ao10 y212.length co10)) (fun _ hk => trivial), by (with_reducible repeat (first | apply Kd.R_alloc | apply Kd.R_drewN | apply Kd.R_drew)); exact Kd.R_mono (Kd.R_far (p := ⟨gb208, 1, none⟩) (Kd.R_far (p := ⟨gb208, 0, none⟩) (Kd.R_types HOq1.out BK208.out (by decide)) (fun _ hk => hk.2) (.slice Ao34 x216000_1.length co34)) (fun _ hk => hk.2) (.slice Ao10 y212.length co10)) (fun _ hk => trivial), by repeat (first | (with_reducible first | exact HB.out | apply bA | apply bN | apply bD | refine bS ?_ GE207.out | refine bS ?_ GE208.out | refine bS ?_ GE215.out) | exact HB.out)⟩
 ·
  rw [if_neg c2] at H
  exact absurd H (by simp)
end Go.Proofs.Ytbjeaalbdaedpaa.P
