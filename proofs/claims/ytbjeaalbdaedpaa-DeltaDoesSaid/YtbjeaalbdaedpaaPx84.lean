import Derived.Test.YtbjeaalbdaedpaaPx1
import Derived.Test.YtbjeaalbdaedpaaPx0
import Derived.Test.YtbjeaalbdaedpaaPx83
namespace Go.Proofs.Ytbjeaalbdaedpaa.P
open Go.RowKit Go.Proofs.YtbjeaalbdaedpaaW.PrintWords Go.Proofs.YtbjeaalbdaedpaaW.PrintLast Go.Proofs.YtbjeaalbdaedpaaW.PrintMore
attribute [local go_sem] max2_int min2_int max_two min_two max_three min_three max_four min_four
set_option linter.unusedVariables false
set_option linter.unusedSimpArgs false
mutual
def banksmanref08_Check.j0 : Nat → Bool → List (S28) → List Int → Option (Bool)
  | 0, _, _, _ => none
  | k + 1, x15, x187000, x187001 => if x15 = true then (some false) else (banksmanref08_Check.l0 k 0 x187000 x187001)
def banksmanref08_Check.l0 : Nat → Int → List (S28) → List Int → Option (Bool)
  | 0, _, _, _ => none
  | k + 1, x3, x187000, x187001 => if x3 < (x187000.length : Int) then (if 0 ≤ x3 then ((banksmanref07_May.f ((rd_T28 x187000 x3).f0) ((rd_T28 x187000 x3).f1) ((rd_T28 x187000 x3).f2) ((rd_T28 x187000 x3).f3)).bind fun t188 => (if t188 = true then (banksmanref08_Check.l0 k (wrap64 (x3 + 1)) x187000 x187001) else (some false))) else (none)) else (banksmanref08_Check.l1 k 0 x187000 x187001)
def banksmanref08_Check.l1 : Nat → Int → List (S28) → List Int → Option (Bool)
  | 0, _, _, _ => none
  | k + 1, x5, x187000, x187001 => if x5 < (x187001.length : Int) then (if 0 ≤ x5 then (if (rd x187001 x5) < 0 then (some false) else (if (rd x187001 x5) > (x187000.length : Int) then (some false) else (if x5 > 0 then (if 0 ≤ (wrap64 (x5 - 1)) then (if (wrap64 (x5 - 1)) < (x187001.length : Int) then (if (rd x187001 (wrap64 (x5 - 1))) > (rd x187001 x5) then (some false) else (banksmanref08_Check.l1 k (wrap64 (x5 + 1)) x187000 x187001)) else (none)) else (none)) else (banksmanref08_Check.l1 k (wrap64 (x5 + 1)) x187000 x187001)))) else (none)) else (some true)
end
def banksmanref08_Check.f (k : Nat) (l0_0 : List (S28)) (l0_1 : List Int) : Option (Bool) := if (l0_0.length : Int) > 20 then (banksmanref08_Check.j0 k true l0_0 l0_1) else (banksmanref08_Check.j0 k (decide ((l0_1.length : Int) > 4)) l0_0 l0_1)
set_option maxHeartbeats 8000000 in
set_option maxRecDepth 100000 in
theorem banksmanref08_Check.calls (k : Nat) (A0_0 : Option Addr) (c0_0 : Nat) (l0_0 : List (S28)) (A0_1 : Option Addr) (c0_1 : Nat) (l0_1 : List Int) (r : Bool) (w : World) (hr0_0 : Kd.C k28 w A0_0 l0_0.length l0_0) (hc0_0 : l0_0.length ≤ c0_0) (hr0_1 : Kd.C (Kd.int .i64) w A0_1 l0_1.length l0_1) (hc0_1 : l0_1.length ≤ c0_1) (h : banksmanref08_Check.f k l0_0 l0_1 = some r) :
  Calls Try.prog 18 #[.agg #[.slice A0_0 l0_0.length c0_0, .slice A0_1 l0_1.length c0_1]] w fun e w' => e = .returned (.bool r) ∧ Below w.heap.size w w' := by
 have hu25 := Try.underlying25
 have hu28 := Try.underlying28
 have HR0_0 := aM hr0_0
 have HC0_0 := aM hc0_0
 clear hr0_0 hc0_0
 have HR0_1 := aM hr0_1
 have HC0_1 := aM hc0_1
 clear hr0_1 hc0_1
 have HB := aM (Below.refl w.heap.size w)
 have H : (if (l0_0.length : Int) > 20 then (banksmanref08_Check.j0 k true l0_0 l0_1) else (banksmanref08_Check.j0 k (decide ((l0_1.length : Int) > 4)) l0_0 l0_1)) = some r := h
 clear h
 have HC2 := aM H
 clear H
 go_enter Try.func18, Try.ntmps18
 go_upto_region 1 with (first | ((with_reducible refine gate_dst (N := 1) rfl ?_); (try (refine gate_guard (by rfl) ?_; dsimp only)); refine box_event ?hg (N := 1) ?hd (cs := #[.slice A0_0 l0_0.length c0_0, .slice A0_1 l0_1.length c0_1]) (t := 25) ?hr ?_; (case hd => rfl); (case hg => rfl); (case hr => first | (go_simp; done) | (go_simp; rfl)); intro gb186 hg w3 hbox hb; have BK186 := aM (hbox); have GW186 := aM ((by rw [hg]; exact (below_size (by repeat (first | (with_reducible first | exact HB.out | apply bA | apply bN | apply bD) | exact HB.out))) : w.heap.size ≤ gb186)); have GE186 := aM ((by rw [hg]; exact (below_size (by repeat (first | (with_reducible first | exact HB.out | apply bA | apply bN | apply bD) | exact HB.out))) : w.heap.size ≤ gb186)); replace HB := aM (below_step (by repeat (first | (with_reducible first | exact HB.out | apply bA | apply bN | apply bD) | exact HB.out)) hb); clear hb hbox hg))
 repeat (go_quiet (first | ((with_reducible refine gate_dst (N := 1) rfl ?_); (try (refine gate_guard (by rfl) ?_; dsimp only)); refine box_event ?hg (N := 1) ?hd (cs := #[.slice A0_0 l0_0.length c0_0, .slice A0_1 l0_1.length c0_1]) (t := 25) ?hr ?_; (case hd => rfl); (case hg => rfl); (case hr => first | (go_simp; done) | (go_simp; rfl)); intro gb186 hg w3 hbox hb; have BK186 := aM (hbox); have GW186 := aM ((by rw [hg]; exact (below_size (by repeat (first | (with_reducible first | exact HB.out | apply bA | apply bN | apply bD) | exact HB.out))) : w.heap.size ≤ gb186)); have GE186 := aM ((by rw [hg]; exact (below_size (by repeat (first | (with_reducible first | exact HB.out | apply bA | apply bN | apply bD) | exact HB.out))) : w.heap.size ≤ gb186)); replace HB := aM (below_step (by repeat (first | (with_reducible first | exact HB.out | apply bA | apply bN | apply bD) | exact HB.out)) hb); clear hb hbox hg)); go_upto_region 1 with (first | ((with_reducible refine gate_dst (N := 1) rfl ?_); (try (refine gate_guard (by rfl) ?_; dsimp only)); refine box_event ?hg (N := 1) ?hd (cs := #[.slice A0_0 l0_0.length c0_0, .slice A0_1 l0_1.length c0_1]) (t := 25) ?hr ?_; (case hd => rfl); (case hg => rfl); (case hr => first | (go_simp; done) | (go_simp; rfl)); intro gb186 hg w3 hbox hb; have BK186 := aM (hbox); have GW186 := aM ((by rw [hg]; exact (below_size (by repeat (first | (with_reducible first | exact HB.out | apply bA | apply bN | apply bD) | exact HB.out))) : w.heap.size ≤ gb186)); have GE186 := aM ((by rw [hg]; exact (below_size (by repeat (first | (with_reducible first | exact HB.out | apply bA | apply bN | apply bD) | exact HB.out))) : w.heap.size ≤ gb186)); replace HB := aM (below_step (by repeat (first | (with_reducible first | exact HB.out | apply bA | apply bN | apply bD) | exact HB.out)) hb); clear hb hbox hg)))
 (try simp only [Act.put, List.setIfInBounds_toArray, List.set_cons_zero, List.set_cons_succ])
 go_cut [15] (fun v15 wc => ∃ (kq : Nat) (x15_1 : Bool), v15 = .bool x15_1 ∧ Aside0 (banksmanref08_Check.j0 kq x15_1 l0_0 l0_1 = some r) ∧ Aside0 (kq ≤ k) ∧ Aside0 (wc.heap[gb186]? = some (.cells #[(.slice A0_0 l0_0.length c0_0), (.slice A0_1 l0_1.length c0_1)] 25 (0, 0))) ∧ Aside0 (Below w.heap.size w wc))
 case first =>
  have H := HC2.out
  clear HC2
  by_cases c4 : (l0_0.length : Int) > 20
  ·
   rw [if_pos c4] at H
   have c4b0 : decide (20 < (l0_0.length : Int)) = true := decide_eq_true c4
   have c4b1 : decide (20 < l0_0.length) = true := decide_eq_true (by omega)
   clear c4
   (first | rw [c4b0] | (simp only [i64_w, i32_w]; rw [c4b0]) | skip)
   have H' := aM H
   clear H
   have hcz5_0 : w3.cell? ⟨gb186, 0, none⟩ = some (.slice A0_0 l0_0.length c0_0) := (kC BK186.out 0).trans rfl
   have hcz5_1 : w3.cell? ⟨gb186, 1, none⟩ = some (.slice A0_1 l0_1.length c0_1) := (kC BK186.out 1).trans rfl
   have hfz5_0 := kF BK186.out 0
   have hfz5_1 := kF BK186.out 1
   go_wp2
   repeat (go_quiet (fail); try go_wp2)
   go_meet
   case rel => exact ⟨_, (true), (by first | rfl | (simp; done) | (simp [*]; done)), H', ⟨by first | omega | exact Nat.le_refl _⟩, ⟨by (with_reducible repeat (first | refine blk_drewN ?_ _ | refine blk_drew ?_ | refine blk_alloc ?_ _)); exact BK186.out⟩, ⟨by repeat (first | (with_reducible first | exact HB.out | apply bA | apply bN | apply bD | refine bS ?_ GE186.out) | exact HB.out)⟩⟩
  ·
   rw [if_neg c4] at H
   have c4b0 : decide (20 < (l0_0.length : Int)) = false := decide_eq_false c4
   have c4b1 : decide (20 < l0_0.length) = false := decide_eq_false (by omega)
   clear c4
   (first | rw [c4b0] | (simp only [i64_w, i32_w]; rw [c4b0]) | skip)
   have H' := aM H
   clear H
   have hcz6_0 : w3.cell? ⟨gb186, 0, none⟩ = some (.slice A0_0 l0_0.length c0_0) := (kC BK186.out 0).trans rfl
   have hcz6_1 : w3.cell? ⟨gb186, 1, none⟩ = some (.slice A0_1 l0_1.length c0_1) := (kC BK186.out 1).trans rfl
   have hfz6_0 := kF BK186.out 0
   have hfz6_1 := kF BK186.out 1
   go_wp2
   repeat (go_quiet (fail); try go_wp2)
   go_meet
   case rel => exact ⟨_, (decide ((l0_1.length : Int) > 4)), (by first | rfl | (simp; done) | (simp [*]; done)), H', ⟨by first | omega | exact Nat.le_refl _⟩, ⟨by (with_reducible repeat (first | refine blk_drewN ?_ _ | refine blk_drew ?_ | refine blk_alloc ?_ _)); exact BK186.out⟩, ⟨by repeat (first | (with_reducible first | exact HB.out | apply bA | apply bN | apply bD | refine bS ?_ GE186.out) | exact HB.out)⟩⟩
 case rest =>
  clear HC2
  try clear c1
  try clear p2
  try clear c4
  try clear c4b0
  try clear c4b1
  try clear hcz5_0
  try clear hcz5_1
  try clear hcz6_0
  try clear hcz6_1
  try clear hfz5_0
  try clear hfz5_1
  try clear hfz6_0
  try clear hfz6_1
  obtain ⟨kq, x15_1, rfl, HA, HJ1, BK186, HB⟩ := hcut
  cases kq with
  | zero => exact absurd HA.out (by simp [banksmanref08_Check.j0])
  | succ kj1 =>
   have H := HA.out
   clear HA
   simp only [banksmanref08_Check.j0] at H
   by_cases c7 : x15_1 = true
   ·
    subst c7
    have H1 : (some false) = some r := by rw [if_pos rfl] at H; exact H
    clear H
    have H := H1
    clear H1
    obtain rfl := Option.some.inj H
    go_wp2
    repeat (go_quiet (fail); try go_wp2)
    go_ret
    exact ⟨by first | rfl | (simp [errW_none, errW_some] <;> rfl) | (simp [*, errW_none, errW_some] <;> rfl), by repeat (first | (with_reducible first | exact HB.out | apply bA | apply bN | apply bD | refine bS ?_ GE186.out) | exact HB.out)⟩
   ·
    replace c7 := Bool.eq_false_iff.mpr c7
    subst c7
    have H1 : (banksmanref08_Check.l0 kj1 0 l0_0 l0_1) = some r := by rw [if_neg (show ¬ (false = true) by decide)] at H; exact H
    clear H
    have H := H1
    clear H1
    have H' := aM H
    clear H
    go_wp2
    repeat (go_quiet (fail); try go_wp2)
    go_loopg [3] kj1 (fun kq v3 w' => ∃ (x3_2 : Int), v3 = .int .i64 x3_2 ∧ Aside0 (banksmanref08_Check.l0 kq x3_2 l0_0 l0_1 = some r) ∧ Aside0 (kq ≤ kj1) ∧ Aside0 (w'.heap[gb186]? = some (.cells #[(.slice A0_0 l0_0.length c0_0), (.slice A0_1 l0_1.length c0_1)] 25 (0, 0))) ∧ Aside0 (Below w.heap.size w w'))
    case atStart => exact ⟨(0), (by first | rfl | (simp; done) | (simp [*]; done)), H', ⟨Nat.le_refl _⟩, ⟨by (with_reducible repeat (first | refine blk_drewN ?_ _ | refine blk_drew ?_ | refine blk_alloc ?_ _)); exact BK186.out⟩, ⟨by repeat (first | (with_reducible first | exact HB.out | apply bA | apply bN | apply bD | refine bS ?_ GE186.out) | exact HB.out)⟩⟩
    case round =>
     clear H'
     try clear c1
     try clear p2
     try clear c4
     try clear c4b0
     try clear c4b1
     try clear c7
     try clear hcz5_0
     try clear hcz5_1
     try clear hcz6_0
     try clear hcz6_1
     try clear hfz5_0
     try clear hfz5_1
     try clear hfz6_0
     try clear hfz6_1
     try clear p2
     obtain ⟨x3_2, rfl, HA, HK2, BK186, HB⟩ := hrel
     cases gk with
     | zero => exact absurd HA.out (by simp [banksmanref08_Check.l0])
     | succ k2 =>
      have H := HA.out
      clear HA
      simp only [banksmanref08_Check.l0] at H
      by_cases c8 : x3_2 < (l0_0.length : Int)
      ·
       rw [if_pos c8] at H
       have c8b0 : decide (x3_2 < (l0_0.length : Int)) = true := decide_eq_true c8
       clear c8
       by_cases c9 : 0 ≤ x3_2
       ·
        rw [if_pos c9] at H
        have c9b0 : decide (0 ≤ x3_2) = true := decide_eq_true c9
        clear c9
        replace H := Option.bind_eq_some_iff.mp H
        obtain ⟨t188, A100, H⟩ := H
        replace H : (if t188 = true then (banksmanref08_Check.l0 k2 (wrap64 (x3_2 + 1)) l0_0 l0_1) else (some false)) = some r := H
        have A10 := aM A100
        clear A100
        by_cases c11 : t188 = true
        ·
         subst c11
         have H1 : (banksmanref08_Check.l0 k2 (wrap64 (x3_2 + 1)) l0_0 l0_1) = some r := by rw [if_pos rfl] at H; exact H
         clear H
         have H := H1
         clear H1
         have H' := aM H
         clear H
         have hcz12_0 : wr.cell? ⟨gb186, 0, none⟩ = some (.slice A0_0 l0_0.length c0_0) := (kC BK186.out 0).trans rfl
         have hcz12_1 : wr.cell? ⟨gb186, 1, none⟩ = some (.slice A0_1 l0_1.length c0_1) := (kC BK186.out 1).trans rfl
         have hfz12_0 := kF BK186.out 0
         have hfz12_1 := kF BK186.out 1
         have p187 : 0 ≤ (x3_2 : Int) := of_decide_eq_true (by first | (with_reducible assumption) | assumption)
         have q187 : x3_2 < (l0_0.length : Int) := of_decide_eq_true (by first | (with_reducible assumption) | assumption)
         obtain ⟨ad187, A187_1, c187_1, A187_3, c187_3, e187, hx187_0, hx187_1, hx187_2, hx187_3, hl187_1, hi187_1, hl187_3, hi187_3⟩ := at_T28 HR0_0.out x3_2 p187 q187
         cases e187
         replace hx187_0 := (HB.out.cell (World.block_lt_of_cell? w _ hx187_0)).trans hx187_0
         replace hx187_1 := (HB.out.cell (World.block_lt_of_cell? w _ hx187_1)).trans hx187_1
         replace hx187_2 := (HB.out.cell (World.block_lt_of_cell? w _ hx187_2)).trans hx187_2
         replace hx187_3 := (HB.out.cell (World.block_lt_of_cell? w _ hx187_3)).trans hx187_3
         have HRq0 := aM hi187_1
         have HCq0 := aM hl187_1
         clear hi187_1 hl187_1
         have HRq1 := aM hi187_3
         have HCq1 := aM hl187_3
         clear hi187_3 hl187_3
         replace p187 := eq_true p187
         replace q187 := eq_true q187
         go_wp2_with (first | (go_at_call 33; (with_reducible refine (banksmanref07_May.calls ((rd_T28 l0_0 x3_2).f0) _ _ ((rd_T28 l0_0 x3_2).f1) ((rd_T28 l0_0 x3_2).f2) _ _ ((rd_T28 l0_0 x3_2).f3) true _ ?side1 ?side2 ?side3 ?side4 A10.out).mono ?_); (case side1 => repeat (first | exact (Kd.C_below HRq0.out HB.out) | (with_reducible refine Kd.C_alloc ?_ _) | (with_reducible refine Kd.C_drewN ?_ _) | (with_reducible refine Kd.C_drew ?_))); (case side2 => exact HCq0.out); (case side3 => repeat (first | exact (Kd.C_below HRq1.out HB.out) | (with_reducible refine Kd.C_alloc ?_ _) | (with_reducible refine Kd.C_drewN ?_ _) | (with_reducible refine Kd.C_drew ?_))); (case side4 => exact HCq1.out); rintro e w13 ⟨rfl, hb⟩; replace BK186 := aM (kB (g := gb186) (o := .cells #[.slice (some ad187) l0_0.length c0_0, .slice A0_1 l0_1.length c0_1] 25 (0, 0)) (bU BK186.out) hb); replace HB := aM (below_step (by repeat (first | (with_reducible first | exact HB.out | apply bA | apply bN | apply bD | refine bS ?_ GE186.out) | exact HB.out)) hb); (try clear hb); (try clear hb2); (try clear hk); (try clear hi)))
         repeat (go_quiet (first | (go_at_call 33; (with_reducible refine (banksmanref07_May.calls ((rd_T28 l0_0 x3_2).f0) _ _ ((rd_T28 l0_0 x3_2).f1) ((rd_T28 l0_0 x3_2).f2) _ _ ((rd_T28 l0_0 x3_2).f3) true _ ?side1 ?side2 ?side3 ?side4 A10.out).mono ?_); (case side1 => repeat (first | exact (Kd.C_below HRq0.out HB.out) | (with_reducible refine Kd.C_alloc ?_ _) | (with_reducible refine Kd.C_drewN ?_ _) | (with_reducible refine Kd.C_drew ?_))); (case side2 => exact HCq0.out); (case side3 => repeat (first | exact (Kd.C_below HRq1.out HB.out) | (with_reducible refine Kd.C_alloc ?_ _) | (with_reducible refine Kd.C_drewN ?_ _) | (with_reducible refine Kd.C_drew ?_))); (case side4 => exact HCq1.out); rintro e w13 ⟨rfl, hb⟩; replace BK186 := aM (kB (g := gb186) (o := .cells #[.slice (some ad187) l0_0.length c0_0, .slice A0_1 l0_1.length c0_1] 25 (0, 0)) (bU BK186.out) hb); replace HB := aM (below_step (by repeat (first | (with_reducible first | exact HB.out | apply bA | apply bN | apply bD | refine bS ?_ GE186.out) | exact HB.out)) hb); (try clear hb); (try clear hb2); (try clear hk); (try clear hi))); try go_wp2_with (first | (go_at_call 33; (with_reducible refine (banksmanref07_May.calls ((rd_T28 l0_0 x3_2).f0) _ _ ((rd_T28 l0_0 x3_2).f1) ((rd_T28 l0_0 x3_2).f2) _ _ ((rd_T28 l0_0 x3_2).f3) true _ ?side1 ?side2 ?side3 ?side4 A10.out).mono ?_); (case side1 => repeat (first | exact (Kd.C_below HRq0.out HB.out) | (with_reducible refine Kd.C_alloc ?_ _) | (with_reducible refine Kd.C_drewN ?_ _) | (with_reducible refine Kd.C_drew ?_))); (case side2 => exact HCq0.out); (case side3 => repeat (first | exact (Kd.C_below HRq1.out HB.out) | (with_reducible refine Kd.C_alloc ?_ _) | (with_reducible refine Kd.C_drewN ?_ _) | (with_reducible refine Kd.C_drew ?_))); (case side4 => exact HCq1.out); rintro e w13 ⟨rfl, hb⟩; replace BK186 := aM (kB (g := gb186) (o := .cells #[.slice (some ad187) l0_0.length c0_0, .slice A0_1 l0_1.length c0_1] 25 (0, 0)) (bU BK186.out) hb); replace HB := aM (below_step (by repeat (first | (with_reducible first | exact HB.out | apply bA | apply bN | apply bD | refine bS ?_ GE186.out) | exact HB.out)) hb); (try clear hb); (try clear hb2); (try clear hk); (try clear hi))))
         go_roundg k2
         case measure => have := HJ1.out; have := HK2.out; omega
         case rel => exact ⟨(wrap64 (x3_2 + 1)), (by first | rfl | (simp; done) | (simp [*]; done)), H', ⟨by have := HJ1.out; have := HK2.out; omega⟩, ⟨by (with_reducible repeat (first | refine blk_drewN ?_ _ | refine blk_drew ?_ | refine blk_alloc ?_ _)); exact BK186.out⟩, ⟨by repeat (first | (with_reducible first | exact HB.out | apply bA | apply bN | apply bD | refine bS ?_ GE186.out) | exact HB.out)⟩⟩
        ·
         replace c11 := Bool.eq_false_iff.mpr c11
         subst c11
         have H1 : (some false) = some r := by rw [if_neg (show ¬ (false = true) by decide)] at H; exact H
         clear H
         have H := H1
         clear H1
         obtain rfl := Option.some.inj H
         have hcz14_0 : wr.cell? ⟨gb186, 0, none⟩ = some (.slice A0_0 l0_0.length c0_0) := (kC BK186.out 0).trans rfl
         have hcz14_1 : wr.cell? ⟨gb186, 1, none⟩ = some (.slice A0_1 l0_1.length c0_1) := (kC BK186.out 1).trans rfl
         have hfz14_0 := kF BK186.out 0
         have hfz14_1 := kF BK186.out 1
         have p187 : 0 ≤ (x3_2 : Int) := of_decide_eq_true (by first | (with_reducible assumption) | assumption)
         have q187 : x3_2 < (l0_0.length : Int) := of_decide_eq_true (by first | (with_reducible assumption) | assumption)
         obtain ⟨ad187, A187_1, c187_1, A187_3, c187_3, e187, hx187_0, hx187_1, hx187_2, hx187_3, hl187_1, hi187_1, hl187_3, hi187_3⟩ := at_T28 HR0_0.out x3_2 p187 q187
         cases e187
         replace hx187_0 := (HB.out.cell (World.block_lt_of_cell? w _ hx187_0)).trans hx187_0
         replace hx187_1 := (HB.out.cell (World.block_lt_of_cell? w _ hx187_1)).trans hx187_1
         replace hx187_2 := (HB.out.cell (World.block_lt_of_cell? w _ hx187_2)).trans hx187_2
         replace hx187_3 := (HB.out.cell (World.block_lt_of_cell? w _ hx187_3)).trans hx187_3
         have HRq0 := aM hi187_1
         have HCq0 := aM hl187_1
         clear hi187_1 hl187_1
         have HRq1 := aM hi187_3
         have HCq1 := aM hl187_3
         clear hi187_3 hl187_3
         replace p187 := eq_true p187
         replace q187 := eq_true q187
         go_wp2_with (first | (go_at_call 33; (with_reducible refine (banksmanref07_May.calls ((rd_T28 l0_0 x3_2).f0) _ _ ((rd_T28 l0_0 x3_2).f1) ((rd_T28 l0_0 x3_2).f2) _ _ ((rd_T28 l0_0 x3_2).f3) false _ ?side1 ?side2 ?side3 ?side4 A10.out).mono ?_); (case side1 => repeat (first | exact (Kd.C_below HRq0.out HB.out) | (with_reducible refine Kd.C_alloc ?_ _) | (with_reducible refine Kd.C_drewN ?_ _) | (with_reducible refine Kd.C_drew ?_))); (case side2 => exact HCq0.out); (case side3 => repeat (first | exact (Kd.C_below HRq1.out HB.out) | (with_reducible refine Kd.C_alloc ?_ _) | (with_reducible refine Kd.C_drewN ?_ _) | (with_reducible refine Kd.C_drew ?_))); (case side4 => exact HCq1.out); rintro e w15 ⟨rfl, hb⟩; replace BK186 := aM (kB (g := gb186) (o := .cells #[.slice (some ad187) l0_0.length c0_0, .slice A0_1 l0_1.length c0_1] 25 (0, 0)) (bU BK186.out) hb); replace HB := aM (below_step (by repeat (first | (with_reducible first | exact HB.out | apply bA | apply bN | apply bD | refine bS ?_ GE186.out) | exact HB.out)) hb); (try clear hb); (try clear hb2); (try clear hk); (try clear hi)))
         repeat (go_quiet (first | (go_at_call 33; (with_reducible refine (banksmanref07_May.calls ((rd_T28 l0_0 x3_2).f0) _ _ ((rd_T28 l0_0 x3_2).f1) ((rd_T28 l0_0 x3_2).f2) _ _ ((rd_T28 l0_0 x3_2).f3) false _ ?side1 ?side2 ?side3 ?side4 A10.out).mono ?_); (case side1 => repeat (first | exact (Kd.C_below HRq0.out HB.out) | (with_reducible refine Kd.C_alloc ?_ _) | (with_reducible refine Kd.C_drewN ?_ _) | (with_reducible refine Kd.C_drew ?_))); (case side2 => exact HCq0.out); (case side3 => repeat (first | exact (Kd.C_below HRq1.out HB.out) | (with_reducible refine Kd.C_alloc ?_ _) | (with_reducible refine Kd.C_drewN ?_ _) | (with_reducible refine Kd.C_drew ?_))); (case side4 => exact HCq1.out); rintro e w15 ⟨rfl, hb⟩; replace BK186 := aM (kB (g := gb186) (o := .cells #[.slice (some ad187) l0_0.length c0_0, .slice A0_1 l0_1.length c0_1] 25 (0, 0)) (bU BK186.out) hb); replace HB := aM (below_step (by repeat (first | (with_reducible first | exact HB.out | apply bA | apply bN | apply bD | refine bS ?_ GE186.out) | exact HB.out)) hb); (try clear hb); (try clear hb2); (try clear hk); (try clear hi))); try go_wp2_with (first | (go_at_call 33; (with_reducible refine (banksmanref07_May.calls ((rd_T28 l0_0 x3_2).f0) _ _ ((rd_T28 l0_0 x3_2).f1) ((rd_T28 l0_0 x3_2).f2) _ _ ((rd_T28 l0_0 x3_2).f3) false _ ?side1 ?side2 ?side3 ?side4 A10.out).mono ?_); (case side1 => repeat (first | exact (Kd.C_below HRq0.out HB.out) | (with_reducible refine Kd.C_alloc ?_ _) | (with_reducible refine Kd.C_drewN ?_ _) | (with_reducible refine Kd.C_drew ?_))); (case side2 => exact HCq0.out); (case side3 => repeat (first | exact (Kd.C_below HRq1.out HB.out) | (with_reducible refine Kd.C_alloc ?_ _) | (with_reducible refine Kd.C_drewN ?_ _) | (with_reducible refine Kd.C_drew ?_))); (case side4 => exact HCq1.out); rintro e w15 ⟨rfl, hb⟩; replace BK186 := aM (kB (g := gb186) (o := .cells #[.slice (some ad187) l0_0.length c0_0, .slice A0_1 l0_1.length c0_1] 25 (0, 0)) (bU BK186.out) hb); replace HB := aM (below_step (by repeat (first | (with_reducible first | exact HB.out | apply bA | apply bN | apply bD | refine bS ?_ GE186.out) | exact HB.out)) hb); (try clear hb); (try clear hb2); (try clear hk); (try clear hi))))
         go_ret
         exact ⟨by first | rfl | (simp [errW_none, errW_some] <;> rfl) | (simp [*, errW_none, errW_some] <;> rfl), by repeat (first | (with_reducible first | exact HB.out | apply bA | apply bN | apply bD | refine bS ?_ GE186.out) | exact HB.out)⟩
       ·
        rw [if_neg c9] at H
        exact absurd H (by simp)
      ·
       rw [if_neg c8] at H
       have c8b0 : decide (x3_2 < (l0_0.length : Int)) = false := decide_eq_false c8
       clear c8
       have H' := aM H
       clear H
       have hcz16_0 : wr.cell? ⟨gb186, 0, none⟩ = some (.slice A0_0 l0_0.length c0_0) := (kC BK186.out 0).trans rfl
       have hcz16_1 : wr.cell? ⟨gb186, 1, none⟩ = some (.slice A0_1 l0_1.length c0_1) := (kC BK186.out 1).trans rfl
       have hfz16_0 := kF BK186.out 0
       have hfz16_1 := kF BK186.out 1
       go_wp2
       repeat (go_quiet (fail); try go_wp2)
       go_loopg [5] k2 (fun kq v5 w' => ∃ (x5_3 : Int), v5 = .int .i64 x5_3 ∧ Aside0 (banksmanref08_Check.l1 kq x5_3 l0_0 l0_1 = some r) ∧ Aside0 (kq ≤ k2) ∧ Aside0 (w'.heap[gb186]? = some (.cells #[(.slice A0_0 l0_0.length c0_0), (.slice A0_1 l0_1.length c0_1)] 25 (0, 0))) ∧ Aside0 (Below w.heap.size w w'))
       case atStart => exact ⟨(0), (by first | rfl | (simp; done) | (simp [*]; done)), H', ⟨Nat.le_refl _⟩, ⟨by (with_reducible repeat (first | refine blk_drewN ?_ _ | refine blk_drew ?_ | refine blk_alloc ?_ _)); exact BK186.out⟩, ⟨by repeat (first | (with_reducible first | exact HB.out | apply bA | apply bN | apply bD | refine bS ?_ GE186.out) | exact HB.out)⟩⟩
       case round =>
        clear H'
        try clear c1
        try clear p1
        try clear q1
        try clear hx1
        try clear p2
        try clear c4
        try clear c4b0
        try clear c4b1
        try clear p6
        try clear c7
        try clear c8
        try clear c8b0
        try clear c9
        try clear c9b0
        try clear c11
        try clear hcz12_0
        try clear hcz12_1
        try clear hcz14_0
        try clear hcz14_1
        try clear hcz16_0
        try clear hcz16_1
        try clear hcz5_0
        try clear hcz5_1
        try clear hcz6_0
        try clear hcz6_1
        try clear hfz12_0
        try clear hfz12_1
        try clear hfz14_0
        try clear hfz14_1
        try clear hfz16_0
        try clear hfz16_1
        try clear hfz5_0
        try clear hfz5_1
        try clear hfz6_0
        try clear hfz6_1
        try clear hx187_0
        try clear hx187_1
        try clear hx187_2
        try clear hx187_3
        try clear p187
        try clear p2
        try clear q187
        obtain ⟨x5_3, rfl, HA, HK3, BK186, HB⟩ := hrel
        cases gk with
        | zero => exact absurd HA.out (by simp [banksmanref08_Check.l1])
        | succ k3 =>
         have H := HA.out
         clear HA
         simp only [banksmanref08_Check.l1] at H
         by_cases c17 : x5_3 < (l0_1.length : Int)
         ·
          rw [if_pos c17] at H
          have c17b0 : decide (x5_3 < (l0_1.length : Int)) = true := decide_eq_true c17
          clear c17
          by_cases c18 : 0 ≤ x5_3
          ·
           rw [if_pos c18] at H
           have c18b0 : decide (0 ≤ x5_3) = true := decide_eq_true c18
           clear c18
           by_cases c19 : (rd l0_1 x5_3) < 0
           ·
            rw [if_pos c19] at H
            have c19b0 : decide ((rd l0_1 x5_3) < 0) = true := decide_eq_true c19
            clear c19
            obtain rfl := Option.some.inj H
            have hcz20_0 : wr.cell? ⟨gb186, 0, none⟩ = some (.slice A0_0 l0_0.length c0_0) := (kC BK186.out 0).trans rfl
            have hcz20_1 : wr.cell? ⟨gb186, 1, none⟩ = some (.slice A0_1 l0_1.length c0_1) := (kC BK186.out 1).trans rfl
            have hfz20_0 := kF BK186.out 0
            have hfz20_1 := kF BK186.out 1
            have p189 : 0 ≤ (x5_3 : Int) := of_decide_eq_true (by first | (with_reducible assumption) | assumption)
            have q189 : x5_3 < (l0_1.length : Int) := of_decide_eq_true (by first | (with_reducible assumption) | assumption)
            obtain ⟨ad189, e189, hx189_0⟩ := Kd.at_int HR0_1.out x5_3 p189 q189
            cases e189
            replace hx189_0 := (HB.out.cell (World.block_lt_of_cell? w _ hx189_0)).trans hx189_0
            replace p189 := eq_true p189
            replace q189 := eq_true q189
            go_wp2
            repeat (go_quiet (fail); try go_wp2)
            go_ret
            exact ⟨by first | rfl | (simp [errW_none, errW_some] <;> rfl) | (simp [*, errW_none, errW_some] <;> rfl), by repeat (first | (with_reducible first | exact HB.out | apply bA | apply bN | apply bD | refine bS ?_ GE186.out) | exact HB.out)⟩
           ·
            rw [if_neg c19] at H
            have c19b0 : decide ((rd l0_1 x5_3) < 0) = false := decide_eq_false c19
            clear c19
            by_cases c21 : (rd l0_1 x5_3) > (l0_0.length : Int)
            ·
             rw [if_pos c21] at H
             have c21b0 : decide ((l0_0.length : Int) < (rd l0_1 x5_3)) = true := decide_eq_true c21
             clear c21
             obtain rfl := Option.some.inj H
             have hcz22_0 : wr.cell? ⟨gb186, 0, none⟩ = some (.slice A0_0 l0_0.length c0_0) := (kC BK186.out 0).trans rfl
             have hcz22_1 : wr.cell? ⟨gb186, 1, none⟩ = some (.slice A0_1 l0_1.length c0_1) := (kC BK186.out 1).trans rfl
             have hfz22_0 := kF BK186.out 0
             have hfz22_1 := kF BK186.out 1
             have p189 : 0 ≤ (x5_3 : Int) := of_decide_eq_true (by first | (with_reducible assumption) | assumption)
             have q189 : x5_3 < (l0_1.length : Int) := of_decide_eq_true (by first | (with_reducible assumption) | assumption)
             obtain ⟨ad189, e189, hx189_0⟩ := Kd.at_int HR0_1.out x5_3 p189 q189
             cases e189
             replace hx189_0 := (HB.out.cell (World.block_lt_of_cell? w _ hx189_0)).trans hx189_0
             replace p189 := eq_true p189
             replace q189 := eq_true q189
             have p190 : 0 ≤ (x5_3 : Int) := of_decide_eq_true (by first | (with_reducible assumption) | assumption)
             have q190 : x5_3 < (l0_1.length : Int) := of_decide_eq_true (by first | (with_reducible assumption) | assumption)
             obtain ⟨ad190, e190, hx190_0⟩ := Kd.at_int HR0_1.out x5_3 p190 q190
             obtain rfl : ad189 = ad190 := (by injection e190)
             replace hx190_0 := (HB.out.cell (World.block_lt_of_cell? w _ hx190_0)).trans hx190_0
             replace p190 := eq_true p190
             replace q190 := eq_true q190
             go_wp2
             repeat (go_quiet (fail); try go_wp2)
             go_ret
             exact ⟨by first | rfl | (simp [errW_none, errW_some] <;> rfl) | (simp [*, errW_none, errW_some] <;> rfl), by repeat (first | (with_reducible first | exact HB.out | apply bA | apply bN | apply bD | refine bS ?_ GE186.out) | exact HB.out)⟩
            ·
             rw [if_neg c21] at H
             have c21b0 : decide ((l0_0.length : Int) < (rd l0_1 x5_3)) = false := decide_eq_false c21
             clear c21
             by_cases c23 : x5_3 > 0
             ·
              rw [if_pos c23] at H
              have c23b0 : decide (0 < x5_3) = true := decide_eq_true c23
              clear c23
              obtain ⟨ji24, hji24⟩ : ∃ j_ : Int, (wrap64 (x5_3 - 1)) = j_ := ⟨_, rfl⟩
              replace H : (if 0 ≤ (ji24) then (if (ji24) < (l0_1.length : Int) then (if (rd l0_1 (ji24)) > (rd l0_1 x5_3) then (some false) else (banksmanref08_Check.l1 k3 (wrap64 (x5_3 + 1)) l0_0 l0_1)) else (none)) else (none)) = some r := by first | (rw [hji24] at H; exact H) | (simp only [hji24] at H ⊢; exact H)
              have hji24w : (IntKind.i64.wrap (x5_3 - 1)) = ji24 := (i64_w _).trans hji24
              by_cases c25 : 0 ≤ (ji24)
              ·
               rw [if_pos c25] at H
               have c25b0 : decide (0 ≤ (ji24)) = true := decide_eq_true c25
               clear c25
               by_cases c26 : (ji24) < (l0_1.length : Int)
               ·
                rw [if_pos c26] at H
                have c26b0 : decide ((ji24) < (l0_1.length : Int)) = true := decide_eq_true c26
                clear c26
                by_cases c27 : (rd l0_1 (ji24)) > (rd l0_1 x5_3)
                ·
                 rw [if_pos c27] at H
                 have c27b0 : decide ((rd l0_1 x5_3) < (rd l0_1 (ji24))) = true := decide_eq_true c27
                 clear c27
                 obtain rfl := Option.some.inj H
                 have hcz28_0 : wr.cell? ⟨gb186, 0, none⟩ = some (.slice A0_0 l0_0.length c0_0) := (kC BK186.out 0).trans rfl
                 have hcz28_1 : wr.cell? ⟨gb186, 1, none⟩ = some (.slice A0_1 l0_1.length c0_1) := (kC BK186.out 1).trans rfl
                 have hfz28_0 := kF BK186.out 0
                 have hfz28_1 := kF BK186.out 1
                 have p189 : 0 ≤ (x5_3 : Int) := of_decide_eq_true (by first | (with_reducible assumption) | assumption)
                 have q189 : x5_3 < (l0_1.length : Int) := of_decide_eq_true (by first | (with_reducible assumption) | assumption)
                 obtain ⟨ad189, e189, hx189_0⟩ := Kd.at_int HR0_1.out x5_3 p189 q189
                 cases e189
                 replace hx189_0 := (HB.out.cell (World.block_lt_of_cell? w _ hx189_0)).trans hx189_0
                 replace p189 := eq_true p189
                 replace q189 := eq_true q189
                 have p190 : 0 ≤ (x5_3 : Int) := of_decide_eq_true (by first | (with_reducible assumption) | assumption)
                 have q190 : x5_3 < (l0_1.length : Int) := of_decide_eq_true (by first | (with_reducible assumption) | assumption)
                 obtain ⟨ad190, e190, hx190_0⟩ := Kd.at_int HR0_1.out x5_3 p190 q190
                 obtain rfl : ad189 = ad190 := (by injection e190)
                 replace hx190_0 := (HB.out.cell (World.block_lt_of_cell? w _ hx190_0)).trans hx190_0
                 replace p190 := eq_true p190
                 replace q190 := eq_true q190
                 have p191 : 0 ≤ ((ji24) : Int) := of_decide_eq_true (by first | (with_reducible assumption) | assumption)
                 have q191 : (ji24) < (l0_1.length : Int) := of_decide_eq_true (by first | (with_reducible assumption) | assumption)
                 obtain ⟨ad191, e191, hx191_0⟩ := Kd.at_int HR0_1.out (ji24) p191 q191
                 obtain rfl : ad189 = ad191 := (by injection e191)
                 replace hx191_0 := (HB.out.cell (World.block_lt_of_cell? w _ hx191_0)).trans hx191_0
                 replace p191 := eq_true p191
                 replace q191 := eq_true q191
                 have p192 : 0 ≤ (x5_3 : Int) := of_decide_eq_true (by first | (with_reducible assumption) | assumption)
                 have q192 : x5_3 < (l0_1.length : Int) := of_decide_eq_true (by first | (with_reducible assumption) | assumption)
                 obtain ⟨ad192, e192, hx192_0⟩ := Kd.at_int HR0_1.out x5_3 p192 q192
                 obtain rfl : ad189 = ad192 := (by injection e192)
                 replace hx192_0 := (HB.out.cell (World.block_lt_of_cell? w _ hx192_0)).trans hx192_0
                 replace p192 := eq_true p192
                 replace q192 := eq_true q192
                 go_wp2
                 repeat (go_quiet (fail); try go_wp2)
                 go_ret
                 exact ⟨by first | rfl | (simp [errW_none, errW_some] <;> rfl) | (simp only [← hji24]; first | rfl | (simp [errW_none, errW_some] <;> rfl)) | (simp [*, errW_none, errW_some] <;> rfl), by repeat (first | (with_reducible first | exact HB.out | apply bA | apply bN | apply bD | refine bS ?_ GE186.out) | exact HB.out)⟩
                ·
                 rw [if_neg c27] at H
                 have c27b0 : decide ((rd l0_1 x5_3) < (rd l0_1 (ji24))) = false := decide_eq_false c27
                 clear c27
                 have H' := aM H
                 clear H
                 have hcz29_0 : wr.cell? ⟨gb186, 0, none⟩ = some (.slice A0_0 l0_0.length c0_0) := (kC BK186.out 0).trans rfl
                 have hcz29_1 : wr.cell? ⟨gb186, 1, none⟩ = some (.slice A0_1 l0_1.length c0_1) := (kC BK186.out 1).trans rfl
                 have hfz29_0 := kF BK186.out 0
                 have hfz29_1 := kF BK186.out 1
                 have p189 : 0 ≤ (x5_3 : Int) := of_decide_eq_true (by first | (with_reducible assumption) | assumption)
                 have q189 : x5_3 < (l0_1.length : Int) := of_decide_eq_true (by first | (with_reducible assumption) | assumption)
                 obtain ⟨ad189, e189, hx189_0⟩ := Kd.at_int HR0_1.out x5_3 p189 q189
                 cases e189
                 replace hx189_0 := (HB.out.cell (World.block_lt_of_cell? w _ hx189_0)).trans hx189_0
                 replace p189 := eq_true p189
                 replace q189 := eq_true q189
                 have p190 : 0 ≤ (x5_3 : Int) := of_decide_eq_true (by first | (with_reducible assumption) | assumption)
                 have q190 : x5_3 < (l0_1.length : Int) := of_decide_eq_true (by first | (with_reducible assumption) | assumption)
                 obtain ⟨ad190, e190, hx190_0⟩ := Kd.at_int HR0_1.out x5_3 p190 q190
                 obtain rfl : ad189 = ad190 := (by injection e190)
                 replace hx190_0 := (HB.out.cell (World.block_lt_of_cell? w _ hx190_0)).trans hx190_0
                 replace p190 := eq_true p190
                 replace q190 := eq_true q190
                 have p191 : 0 ≤ ((ji24) : Int) := of_decide_eq_true (by first | (with_reducible assumption) | assumption)
                 have q191 : (ji24) < (l0_1.length : Int) := of_decide_eq_true (by first | (with_reducible assumption) | assumption)
                 obtain ⟨ad191, e191, hx191_0⟩ := Kd.at_int HR0_1.out (ji24) p191 q191
                 obtain rfl : ad189 = ad191 := (by injection e191)
                 replace hx191_0 := (HB.out.cell (World.block_lt_of_cell? w _ hx191_0)).trans hx191_0
                 replace p191 := eq_true p191
                 replace q191 := eq_true q191
                 have p192 : 0 ≤ (x5_3 : Int) := of_decide_eq_true (by first | (with_reducible assumption) | assumption)
                 have q192 : x5_3 < (l0_1.length : Int) := of_decide_eq_true (by first | (with_reducible assumption) | assumption)
                 obtain ⟨ad192, e192, hx192_0⟩ := Kd.at_int HR0_1.out x5_3 p192 q192
                 obtain rfl : ad189 = ad192 := (by injection e192)
                 replace hx192_0 := (HB.out.cell (World.block_lt_of_cell? w _ hx192_0)).trans hx192_0
                 replace p192 := eq_true p192
                 replace q192 := eq_true q192
                 go_wp2
                 repeat (go_quiet (fail); try go_wp2)
                 go_roundg k3
                 case measure => have := HJ1.out; have := HK2.out; have := HK3.out; omega
                 case rel => exact ⟨(wrap64 (x5_3 + 1)), (by first | rfl | (simp; done) | (simp [*]; done)), H', ⟨by have := HJ1.out; have := HK2.out; have := HK3.out; omega⟩, ⟨by (with_reducible repeat (first | refine blk_drewN ?_ _ | refine blk_drew ?_ | refine blk_alloc ?_ _)); exact BK186.out⟩, ⟨by repeat (first | (with_reducible first | exact HB.out | apply bA | apply bN | apply bD | refine bS ?_ GE186.out) | exact HB.out)⟩⟩
               ·
                rw [if_neg c26] at H
                exact absurd H (by simp)
              ·
               rw [if_neg c25] at H
               exact absurd H (by simp)
             ·
              rw [if_neg c23] at H
              have c23b0 : decide (0 < x5_3) = false := decide_eq_false c23
              clear c23
              have H' := aM H
              clear H
              have hcz30_0 : wr.cell? ⟨gb186, 0, none⟩ = some (.slice A0_0 l0_0.length c0_0) := (kC BK186.out 0).trans rfl
              have hcz30_1 : wr.cell? ⟨gb186, 1, none⟩ = some (.slice A0_1 l0_1.length c0_1) := (kC BK186.out 1).trans rfl
              have hfz30_0 := kF BK186.out 0
              have hfz30_1 := kF BK186.out 1
              have p189 : 0 ≤ (x5_3 : Int) := of_decide_eq_true (by first | (with_reducible assumption) | assumption)
              have q189 : x5_3 < (l0_1.length : Int) := of_decide_eq_true (by first | (with_reducible assumption) | assumption)
              obtain ⟨ad189, e189, hx189_0⟩ := Kd.at_int HR0_1.out x5_3 p189 q189
              cases e189
              replace hx189_0 := (HB.out.cell (World.block_lt_of_cell? w _ hx189_0)).trans hx189_0
              replace p189 := eq_true p189
              replace q189 := eq_true q189
              have p190 : 0 ≤ (x5_3 : Int) := of_decide_eq_true (by first | (with_reducible assumption) | assumption)
              have q190 : x5_3 < (l0_1.length : Int) := of_decide_eq_true (by first | (with_reducible assumption) | assumption)
              obtain ⟨ad190, e190, hx190_0⟩ := Kd.at_int HR0_1.out x5_3 p190 q190
              obtain rfl : ad189 = ad190 := (by injection e190)
              replace hx190_0 := (HB.out.cell (World.block_lt_of_cell? w _ hx190_0)).trans hx190_0
              replace p190 := eq_true p190
              replace q190 := eq_true q190
              go_wp2
              repeat (go_quiet (fail); try go_wp2)
              go_roundg k3
              case measure => have := HJ1.out; have := HK2.out; have := HK3.out; omega
              case rel => exact ⟨(wrap64 (x5_3 + 1)), (by first | rfl | (simp; done) | (simp [*]; done)), H', ⟨by have := HJ1.out; have := HK2.out; have := HK3.out; omega⟩, ⟨by (with_reducible repeat (first | refine blk_drewN ?_ _ | refine blk_drew ?_ | refine blk_alloc ?_ _)); exact BK186.out⟩, ⟨by repeat (first | (with_reducible first | exact HB.out | apply bA | apply bN | apply bD | refine bS ?_ GE186.out) | exact HB.out)⟩⟩
          ·
           rw [if_neg c18] at H
           exact absurd H (by simp)
         ·
          rw [if_neg c17] at H
          have c17b0 : decide (x5_3 < (l0_1.length : Int)) = false := decide_eq_false c17
          clear c17
          obtain rfl := Option.some.inj H
          have hcz31_0 : wr.cell? ⟨gb186, 0, none⟩ = some (.slice A0_0 l0_0.length c0_0) := (kC BK186.out 0).trans rfl
          have hcz31_1 : wr.cell? ⟨gb186, 1, none⟩ = some (.slice A0_1 l0_1.length c0_1) := (kC BK186.out 1).trans rfl
          have hfz31_0 := kF BK186.out 0
          have hfz31_1 := kF BK186.out 1
          go_wp2
          repeat (go_quiet (fail); try go_wp2)
          go_ret
          exact ⟨by first | rfl | (simp [errW_none, errW_some] <;> rfl) | (simp [*, errW_none, errW_some] <;> rfl), by repeat (first | (with_reducible first | exact HB.out | apply bA | apply bN | apply bD | refine bS ?_ GE186.out) | exact HB.out)⟩
end Go.Proofs.Ytbjeaalbdaedpaa.P
