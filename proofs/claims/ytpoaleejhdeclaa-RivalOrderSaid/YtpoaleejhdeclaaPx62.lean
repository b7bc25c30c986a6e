-- Written by wip/gprint.py, a program of this session over the kit's print; Lean checks it.
import Derived.Test.YtpoaleejhdeclaaPx0
import Derived.Test.YtpoaleejhdeclaaPx61
namespace Go.Proofs.Ytpoaleejhdeclaa.P
open Go.RowKit Go.Proofs.YtpoaleejhdeclaaW.PrintWords Go.Proofs.YtpoaleejhdeclaaW.PrintLast Go.Proofs.YtpoaleejhdeclaaW.PrintMore
attribute [local go_sem] max2_int min2_int max_two min_two max_three min_three max_four min_four   -- for this text's walks alone
set_option linter.unusedVariables false
set_option linter.unusedSimpArgs false

/-! ### banksmanref14_Order: function 18 -/
mutual
def banksmanref14_Order.l0 : Nat → List (S50) → List Int → List Bool → Option (List Int × Bool)
  | 0, _, _, _ => none
  | k + 1, x0, x4, x5 => if (x4.length : Int) < (x0.length : Int) then (banksmanref14_Order.l1 k x0 x4 x5 (-1) 0) else (some (x4, true))
def banksmanref14_Order.l1 : Nat → List (S50) → List Int → List Bool → Int → Int → Option (List Int × Bool)
  | 0, _, _, _, _, _ => none
  | k + 1, x0, x4, x5, x6, x7 => if x7 < (x0.length : Int) then (banksmanref14_Order.j2 k x0 x4 x5 x6 x7 (decide (x6 < 0))) else (banksmanref14_Order.j2 k x0 x4 x5 x6 x7 false)
def banksmanref14_Order.j2 : Nat → List (S50) → List Int → List Bool → Int → Int → Bool → Option (List Int × Bool)
  | 0, _, _, _, _, _, _ => none
  | k + 1, x0, x4, x5, x6, x7, x26 => if x26 = true then (if 0 ≤ x7 then (if x7 < (x5.length : Int) then (banksmanref14_Order.l2 k x0 x4 x5 x6 x7 (!(rdOf false x5 x7)) 0) else (none)) else (none)) else (if x6 < 0 then (some (([] : List Int), false)) else (if 0 ≤ x6 then (if x6 < (x5.length : Int) then (if x4.length < 17592186044416 then (banksmanref14_Order.l0 k x0 (x4 ++ [x6]) (x5.set (x6 : Int).toNat true)) else (none)) else (none)) else (none)))
def banksmanref14_Order.l2 : Nat → List (S50) → List Int → List Bool → Int → Int → Bool → Int → Option (List Int × Bool)
  | 0, _, _, _, _, _, _, _ => none
  | k + 1, x0, x4, x5, x6, x7, x8, x9 => if x9 < (x0.length : Int) then (banksmanref14_Order.j4 k x0 x4 x5 x6 x7 x8 x9 x8) else (banksmanref14_Order.j4 k x0 x4 x5 x6 x7 x8 x9 false)
def banksmanref14_Order.j4 : Nat → List (S50) → List Int → List Bool → Int → Int → Bool → Int → Bool → Option (List Int × Bool)
  | 0, _, _, _, _, _, _, _, _ => none
  | k + 1, x0, x4, x5, x6, x7, x8, x9, x40 => if x40 = true then (if x9 = x7 then (banksmanref14_Order.l2 k x0 x4 x5 x6 x7 x8 (wrap64 (x9 + 1))) else (if 0 ≤ x9 then (if x9 < (x5.length : Int) then (if rdOf false x5 x9 = true then (banksmanref14_Order.l2 k x0 x4 x5 x6 x7 x8 (wrap64 (x9 + 1))) else (if x9 < (x0.length : Int) then (if 0 ≤ x7 then (if x7 < (x0.length : Int) then ((banksmanref14_edge.f k ((rd_T50 x0 x9).f0) ((rd_T50 x0 x9).f1) ((rd_T50 x0 x9).f2) ((rd_T50 x0 x9).f3) ((rd_T50 x0 x9).f4) ((rd_T50 x0 x9).f5) ((rd_T50 x0 x7).f0) ((rd_T50 x0 x7).f1) ((rd_T50 x0 x7).f2) ((rd_T50 x0 x7).f3) ((rd_T50 x0 x7).f4) ((rd_T50 x0 x7).f5)).bind fun t392 => (banksmanref14_Order.l2 k x0 x4 x5 x6 x7 (!t392) (wrap64 (x9 + 1)))) else (none)) else (none)) else (none))) else (none)) else (none))) else (if x8 = true then (banksmanref14_Order.l1 k x0 x4 x5 x7 (wrap64 (x7 + 1))) else (banksmanref14_Order.l1 k x0 x4 x5 x6 (wrap64 (x7 + 1))))
end
def banksmanref14_Order.f (k : Nat) (l0 : List (S50)) : Option (List Int × Bool) := if 0 ≤ (l0.length : Int) then (if ((l0.length : Int) : Int).toNat ≤ 281474976710656 then (banksmanref14_Order.l0 k l0 ([] : List Int) (List.replicate ((l0.length : Int) : Int).toNat false)) else (none)) else (none)
theorem banksmanref14_Order.mono_l : ∀ k, (∀ y0 y1 y2, LeO (banksmanref14_Order.l0 k y0 y1 y2) (banksmanref14_Order.l0 (k + 1) y0 y1 y2)) ∧ (∀ y0 y1 y2 y3 y4, LeO (banksmanref14_Order.l1 k y0 y1 y2 y3 y4) (banksmanref14_Order.l1 (k + 1) y0 y1 y2 y3 y4)) ∧ (∀ y0 y1 y2 y3 y4 y5, LeO (banksmanref14_Order.j2 k y0 y1 y2 y3 y4 y5) (banksmanref14_Order.j2 (k + 1) y0 y1 y2 y3 y4 y5)) ∧ (∀ y0 y1 y2 y3 y4 y5 y6, LeO (banksmanref14_Order.l2 k y0 y1 y2 y3 y4 y5 y6) (banksmanref14_Order.l2 (k + 1) y0 y1 y2 y3 y4 y5 y6)) ∧ (∀ y0 y1 y2 y3 y4 y5 y6 y7, LeO (banksmanref14_Order.j4 k y0 y1 y2 y3 y4 y5 y6 y7) (banksmanref14_Order.j4 (k + 1) y0 y1 y2 y3 y4 y5 y6 y7))
  | 0 => ⟨fun _ _ _ r h => by simp [banksmanref14_Order.l0] at h, fun _ _ _ _ _ r h => by simp [banksmanref14_Order.l1] at h, fun _ _ _ _ _ _ r h => by simp [banksmanref14_Order.j2] at h, fun _ _ _ _ _ _ _ r h => by simp [banksmanref14_Order.l2] at h, fun _ _ _ _ _ _ _ _ r h => by simp [banksmanref14_Order.j4] at h⟩
  | k + 1 => by
    obtain ⟨ih0, ih1, ih2, ih3, ih4⟩ := banksmanref14_Order.mono_l k
    refine ⟨?_, ?_, ?_, ?_, ?_⟩
    · intro y0 y1 y2
      unfold banksmanref14_Order.l0
      repeat' first
      | (with_reducible exact ih0 _ _ _)
      | (with_reducible exact ih1 _ _ _ _ _)
      | (with_reducible exact ih2 _ _ _ _ _ _)
      | (with_reducible exact ih3 _ _ _ _ _ _ _)
      | (with_reducible exact ih4 _ _ _ _ _ _ _ _)
      | (with_reducible exact banksmanref14_edge.mono _ _ _ _ _ _ _ _ _ _ _ _ _)
      | (with_reducible exact LeO.refl _)
      | (with_reducible exact LeO.none _)
      | (with_reducible refine LeO.ite ?_ ?_)
      | (with_reducible refine LeO.bind ?_ (fun _ => ?_))
      | exact ih0 _ _ _
      | exact ih1 _ _ _ _ _
      | exact ih2 _ _ _ _ _ _
      | exact ih3 _ _ _ _ _ _ _
      | exact ih4 _ _ _ _ _ _ _ _
      | exact banksmanref14_edge.mono _ _ _ _ _ _ _ _ _ _ _ _ _
      | exact LeO.none _
      | refine LeO.ite ?_ ?_
      | refine LeO.bind ?_ (fun _ => ?_)
    · intro y0 y1 y2 y3 y4
      unfold banksmanref14_Order.l1
      repeat' first
      | (with_reducible exact ih0 _ _ _)
      | (with_reducible exact ih1 _ _ _ _ _)
      | (with_reducible exact ih2 _ _ _ _ _ _)
      | (with_reducible exact ih3 _ _ _ _ _ _ _)
      | (with_reducible exact ih4 _ _ _ _ _ _ _ _)
      | (with_reducible exact banksmanref14_edge.mono _ _ _ _ _ _ _ _ _ _ _ _ _)
      | (with_reducible exact LeO.refl _)
      | (with_reducible exact LeO.none _)
      | (with_reducible refine LeO.ite ?_ ?_)
      | (with_reducible refine LeO.bind ?_ (fun _ => ?_))
      | exact ih0 _ _ _
      | exact ih1 _ _ _ _ _
      | exact ih2 _ _ _ _ _ _
      | exact ih3 _ _ _ _ _ _ _
      | exact ih4 _ _ _ _ _ _ _ _
      | exact banksmanref14_edge.mono _ _ _ _ _ _ _ _ _ _ _ _ _
      | exact LeO.none _
      | refine LeO.ite ?_ ?_
      | refine LeO.bind ?_ (fun _ => ?_)
    · intro y0 y1 y2 y3 y4 y5
      unfold banksmanref14_Order.j2
      repeat' first
      | (with_reducible exact ih0 _ _ _)
      | (with_reducible exact ih1 _ _ _ _ _)
      | (with_reducible exact ih2 _ _ _ _ _ _)
      | (with_reducible exact ih3 _ _ _ _ _ _ _)
      | (with_reducible exact ih4 _ _ _ _ _ _ _ _)
      | (with_reducible exact banksmanref14_edge.mono _ _ _ _ _ _ _ _ _ _ _ _ _)
      | (with_reducible exact LeO.refl _)
      | (with_reducible exact LeO.none _)
      | (with_reducible refine LeO.ite ?_ ?_)
      | (with_reducible refine LeO.bind ?_ (fun _ => ?_))
      | exact ih0 _ _ _
      | exact ih1 _ _ _ _ _
      | exact ih2 _ _ _ _ _ _
      | exact ih3 _ _ _ _ _ _ _
      | exact ih4 _ _ _ _ _ _ _ _
      | exact banksmanref14_edge.mono _ _ _ _ _ _ _ _ _ _ _ _ _
      | exact LeO.none _
      | refine LeO.ite ?_ ?_
      | refine LeO.bind ?_ (fun _ => ?_)
    · intro y0 y1 y2 y3 y4 y5 y6
      unfold banksmanref14_Order.l2
      repeat' first
      | (with_reducible exact ih0 _ _ _)
      | (with_reducible exact ih1 _ _ _ _ _)
      | (with_reducible exact ih2 _ _ _ _ _ _)
      | (with_reducible exact ih3 _ _ _ _ _ _ _)
      | (with_reducible exact ih4 _ _ _ _ _ _ _ _)
      | (with_reducible exact banksmanref14_edge.mono _ _ _ _ _ _ _ _ _ _ _ _ _)
      | (with_reducible exact LeO.refl _)
      | (with_reducible exact LeO.none _)
      | (with_reducible refine LeO.ite ?_ ?_)
      | (with_reducible refine LeO.bind ?_ (fun _ => ?_))
      | exact ih0 _ _ _
      | exact ih1 _ _ _ _ _
      | exact ih2 _ _ _ _ _ _
      | exact ih3 _ _ _ _ _ _ _
      | exact ih4 _ _ _ _ _ _ _ _
      | exact banksmanref14_edge.mono _ _ _ _ _ _ _ _ _ _ _ _ _
      | exact LeO.none _
      | refine LeO.ite ?_ ?_
      | refine LeO.bind ?_ (fun _ => ?_)
    · intro y0 y1 y2 y3 y4 y5 y6 y7
      unfold banksmanref14_Order.j4
      repeat' first
      | (with_reducible exact ih0 _ _ _)
      | (with_reducible exact ih1 _ _ _ _ _)
      | (with_reducible exact ih2 _ _ _ _ _ _)
      | (with_reducible exact ih3 _ _ _ _ _ _ _)
      | (with_reducible exact ih4 _ _ _ _ _ _ _ _)
      | (with_reducible exact banksmanref14_edge.mono _ _ _ _ _ _ _ _ _ _ _ _ _)
      | (with_reducible exact LeO.refl _)
      | (with_reducible exact LeO.none _)
      | (with_reducible refine LeO.ite ?_ ?_)
      | (with_reducible refine LeO.bind ?_ (fun _ => ?_))
      | exact ih0 _ _ _
      | exact ih1 _ _ _ _ _
      | exact ih2 _ _ _ _ _ _
      | exact ih3 _ _ _ _ _ _ _
      | exact ih4 _ _ _ _ _ _ _ _
      | exact banksmanref14_edge.mono _ _ _ _ _ _ _ _ _ _ _ _ _
      | exact LeO.none _
      | refine LeO.ite ?_ ?_
      | refine LeO.bind ?_ (fun _ => ?_)
theorem banksmanref14_Order.mono : ∀ a0 k, LeO (banksmanref14_Order.f k a0) (banksmanref14_Order.f (k + 1) a0) := by
  intro a0 k
  obtain ⟨ih0, ih1, ih2, ih3, ih4⟩ := banksmanref14_Order.mono_l k
  unfold banksmanref14_Order.f
  repeat' first
      | (with_reducible exact ih0 _ _ _)
      | (with_reducible exact ih1 _ _ _ _ _)
      | (with_reducible exact ih2 _ _ _ _ _ _)
      | (with_reducible exact ih3 _ _ _ _ _ _ _)
      | (with_reducible exact ih4 _ _ _ _ _ _ _ _)
      | (with_reducible exact banksmanref14_edge.mono _ _ _ _ _ _ _ _ _ _ _ _ _)
      | (with_reducible exact LeO.refl _)
      | (with_reducible exact LeO.none _)
      | (with_reducible refine LeO.ite ?_ ?_)
      | (with_reducible refine LeO.bind ?_ (fun _ => ?_))
      | exact ih0 _ _ _
      | exact ih1 _ _ _ _ _
      | exact ih2 _ _ _ _ _ _
      | exact ih3 _ _ _ _ _ _ _
      | exact ih4 _ _ _ _ _ _ _ _
      | exact banksmanref14_edge.mono _ _ _ _ _ _ _ _ _ _ _ _ _
      | exact LeO.none _
      | refine LeO.ite ?_ ?_
      | refine LeO.bind ?_ (fun _ => ?_)
def banksmanref14_Order.T13 : Bool × List (List Nat × List Nat) := (true, [([], []), ([], []), ([0, 1], [0, 1]), ([2], [2]), ([], []), ([], []), ([4, 5], [4, 5]), ([6], [6]), ([3, 7], [3, 7]), ([8, 8, 0, 1, 2, 3, 4, 5, 6, 7, 8], [8])])
def banksmanref14_Order.B13 : List Nat := [0, 0, 3, 7, 0, 0, 48, 112, 255, 511]
theorem banksmanref14_Order.tab13 : rtab .any (opsOf Try.f18 13) = banksmanref14_Order.T13 := by kernel_rfl
theorem banksmanref14_Order.bits13 : waitsOk banksmanref14_Order.T13.2 banksmanref14_Order.B13 = true := by kernel_rfl
set_option maxHeartbeats 8000000 in
set_option maxRecDepth 100000 in
theorem banksmanref14_Order.calls (k : Nat) (A0 : Option Addr) (c0 : Nat) (l0 : List (S50)) (r1 : List Int) (r2 : Bool) (w : World) (hr0 : Kd.C k50 w A0 l0.length l0) (hc0 : l0.length ≤ c0) (h : banksmanref14_Order.f k l0 = some (r1, r2)) :
    Calls Try.prog 18 #[.slice A0 l0.length c0] w fun e w' => ∃ v0_ : Value, e = .returned (.tuple #[v0_, .bool r2]) ∧ Kd.R (Kd.int .i64) 3 w' w.heap.size (fun _ => True) v0_ r1 ∧ Below w.heap.size w w' := by
  have hu50 := Try.underlying50
  have HR0 := Aside0.mk hr0
  have HC0 := Aside0.mk hc0
  clear hr0 hc0
  have HB := Aside0.mk (Below.refl w.heap.size w)
  have H : (if 0 ≤ (l0.length : Int) then (if ((l0.length : Int) : Int).toNat ≤ 281474976710656 then (banksmanref14_Order.l0 k l0 ([] : List Int) (List.replicate ((l0.length : Int) : Int).toNat false)) else (none)) else (none)) = some (r1, r2) := h
  clear h
  by_cases c2 : 0 ≤ (l0.length : Int)
  · rw [if_pos c2] at H
    have c2b0 := eq_true c2
    have c2b1 : decide (0 ≤ (l0.length : Int)) = true := decide_eq_true c2
    clear c2
    by_cases c3 : ((l0.length : Int) : Int).toNat ≤ 281474976710656
    · rw [if_pos c3] at H
      have c3b0 := eq_true c3
      have c3b1 : decide (((l0.length : Int) : Int).toNat ≤ 281474976710656) = true := decide_eq_true c3
      clear c3
      obtain ⟨y381, hy381⟩ : ∃ y_ : List Bool, y_ = (List.replicate ((l0.length : Int) : Int).toNat false) := ⟨_, rfl⟩
      replace H : (banksmanref14_Order.l0 k l0 ([] : List Int) y381) = some (r1, r2) := by first | (rw [hy381]; with_reducible exact H) | (have H2_ := (Option.bind_some _ _).symm.trans H; rw [hy381]; with_reducible exact H2_) | (have H2_ := (Option.bind_some _ _).symm.trans H; with_reducible exact H2_) | with_reducible exact H | (rw [hy381]; exact H) | exact H
      have Ny381 := Aside0.mk hy381
      clear hy381
      have H' := Aside0.mk H
      clear H
      go_enter Try.func18, Try.ntmps18
      go_wp2_with (first | ((with_reducible refine gate_dst (N := 13) rfl ?_); refine Kd.R_make Kd.bool _ 4 rfl (N := 13) rfl 66 _ _ rfl (l0.length : Int) rfl rfl Try.underlying66 (.bool false) 1 info4 rfl (by decide) (by omega) false (ok := fun _ => True) (okp := fun _ => True) rfl (fun _ hk => hk) trivial (of_decide_eq_true (by first | (with_reducible assumption) | assumption)) (Nat.le_trans (Nat.mul_le_mul_right _ (of_decide_eq_true (by first | (with_reducible assumption) | assumption) : (l0.length : Int).toNat ≤ 281474976710656)) (by omega)) (Below.refl _ _) (Nat.le_refl _) ?_; intro v382 w4 ho5 hb hg_ hnew_; clear hg_ hnew_; (first | rw [← Ny381.out] at ho5 | (simp only [Int.reduceToNat] at ho5; rw [← Ny381.out] at ho5)); have n0_ := Aside0.mk (Kd.R_lower ho5 (below_size (by repeat (first | (with_reducible first | exact HB.out | apply below_alloc | apply pw_below_drewN | apply below_drew1) | exact HB.out)))); have n1_ := Aside0.mk (below_step (by repeat (first | (with_reducible first | exact HB.out | apply below_alloc | apply pw_below_drewN | apply below_drew1) | exact HB.out)) hb); clear HB; have HO383 := n0_; have HB := n1_; clear n0_ n1_; clear hb ho5))
      go_loopg [4] k (fun kq v4 w' => ∃ (x4_1 : List Int) (x5_1 : List Bool), Aside0 (banksmanref14_Order.l0 kq l0 x4_1 x5_1 = some (r1, r2)) ∧ Aside0 (kq ≤ k) ∧ Aside0 (Kd.R (Kd.int .i64) 3 w' w.heap.size (fun _ => True) v4 x4_1) ∧ Aside0 (Kd.R Kd.bool 4 w' w.heap.size (fun _ => True) v382 x5_1) ∧ Aside0 (Below w.heap.size w w'))
      case atStart => exact ⟨(([] : List Int)), (y381), H', ⟨Nat.le_refl _⟩, ⟨by first | exact Kd.R_nil _ _ _ _ _ | exact Kd.N_nil _ _ _ _ _ | exact Kd.V_nil _ _ _ _ _ | exact Kd.Q_nil _ _ _ _ _ | exact Kd.S_nil _ _ _ _ _⟩, ⟨by (with_reducible repeat (first | apply Kd.R_alloc | apply Kd.R_drewN | apply Kd.R_drew)); exact HO383.out⟩, ⟨by repeat (first | (with_reducible first | exact HB.out | apply below_alloc | apply pw_below_drewN | apply below_drew1) | exact HB.out)⟩⟩
      case round =>
        clear H'
        try clear c1
        try clear c2
        try clear c2b0
        try clear c2b1
        try clear p2
        try clear c3
        try clear c3b0
        try clear c3b1
        obtain ⟨x4_1, x5_1, HA, HK1, HO_4, HO_5, HB⟩ := hrel
        cases gk with
        | zero => exact absurd HA.out (by simp [banksmanref14_Order.l0])
        | succ k1 =>
          have H := HA.out
          clear HA
          simp only [banksmanref14_Order.l0] at H
          by_cases c6 : (x4_1.length : Int) < (l0.length : Int)
          · rw [if_pos c6] at H
            have c6b0 : decide ((x4_1.length : Int) < (l0.length : Int)) = true := decide_eq_true c6
            have c6b1 : decide (x4_1.length < l0.length) = true := decide_eq_true (Int.ofNat_lt.mp c6)
            clear c6
            have H' := Aside0.mk H
            clear H
            obtain ⟨Ao7, co7, eo7⟩ := Kd.R_slice HO_4.out
            subst eo7
            go_wp2
            go_loopg [6, 7] k1 (fun kq v6 v7 w' => ∃ (x6_2 : Int) (x7_2 : Int), v6 = .int .i64 x6_2 ∧ v7 = .int .i64 x7_2 ∧ Aside0 (banksmanref14_Order.l1 kq l0 x4_1 x5_1 x6_2 x7_2 = some (r1, r2)) ∧ Aside0 (kq ≤ k1) ∧ Aside0 (Kd.R (Kd.int .i64) 3 w' w.heap.size (fun _ => True) (.slice Ao7 x4_1.length co7) x4_1) ∧ Aside0 (Kd.R Kd.bool 4 w' w.heap.size (fun _ => True) v382 x5_1) ∧ Aside0 (Below w.heap.size w w'))
            case atStart => exact ⟨((-1)), (0), (by first | rfl | (simp; done) | (simp [*]; done)), (by first | rfl | (simp; done) | (simp [*]; done)), H', ⟨Nat.le_refl _⟩, ⟨by (with_reducible repeat (first | apply Kd.R_alloc | apply Kd.R_drewN | apply Kd.R_drew)); exact HO_4.out⟩, ⟨by (with_reducible repeat (first | apply Kd.R_alloc | apply Kd.R_drewN | apply Kd.R_drew)); exact HO_5.out⟩, ⟨by repeat (first | (with_reducible first | exact HB.out | apply below_alloc | apply pw_below_drewN | apply below_drew1) | exact HB.out)⟩⟩
            case round =>
              clear H'
              try clear c1
              try clear c2
              try clear c2b0
              try clear c2b1
              try clear p2
              try clear c3
              try clear c3b0
              try clear c3b1
              try clear c6
              try clear c6b0
              try clear c6b1
              try clear p2
              obtain ⟨x6_2, x7_2, rfl, rfl, HA, HK2, HO_4, HO_5, HB⟩ := hrel
              cases gk with
              | zero => exact absurd HA.out (by simp [banksmanref14_Order.l1])
              | succ k2 =>
                have H := HA.out
                clear HA
                simp only [banksmanref14_Order.l1] at H
                have HC8 := Aside0.mk H
                clear H
                go_upto_region 6 with (fail)
                go_cut [26] (fun v26 wc => ∃ (kq : Nat) (x26_7 : Bool), v26 = .bool x26_7 ∧ Aside0 (banksmanref14_Order.j2 kq l0 x4_1 x5_1 x6_2 x7_2 x26_7 = some (r1, r2)) ∧ Aside0 (kq ≤ k2) ∧ Aside0 (Kd.R (Kd.int .i64) 3 wc w.heap.size (fun _ => True) (.slice Ao7 x4_1.length co7) x4_1) ∧ Aside0 (Kd.R Kd.bool 4 wc w.heap.size (fun _ => True) v382 x5_1) ∧ Aside0 (Below w.heap.size w wc))
                case first =>
                  have H := HC8.out
                  clear HC8
                  by_cases c9 : x7_2 < (l0.length : Int)
                  · rw [if_pos c9] at H
                    have c9b0 : decide (x7_2 < (l0.length : Int)) = true := decide_eq_true c9
                    clear c9
                    (first | rw [c9b0] | (simp only [i64_w, i32_w]; rw [c9b0]) | skip)
                    have H' := Aside0.mk H
                    clear H
                    go_wp2
                    go_meet
                    case rel => exact ⟨_, (decide (x6_2 < 0)), (by first | rfl | (simp; done) | (simp [*]; done)), H', ⟨by have := HK1.out; have := HK2.out; first | omega | exact Nat.le_refl _⟩, ⟨by (with_reducible repeat (first | apply Kd.R_alloc | apply Kd.R_drewN | apply Kd.R_drew)); exact HO_4.out⟩, ⟨by (with_reducible repeat (first | apply Kd.R_alloc | apply Kd.R_drewN | apply Kd.R_drew)); exact HO_5.out⟩, ⟨by repeat (first | (with_reducible first | exact HB.out | apply below_alloc | apply pw_below_drewN | apply below_drew1) | exact HB.out)⟩⟩
                  · rw [if_neg c9] at H
                    have c9b0 : decide (x7_2 < (l0.length : Int)) = false := decide_eq_false c9
                    clear c9
                    (first | rw [c9b0] | (simp only [i64_w, i32_w]; rw [c9b0]) | skip)
                    have H' := Aside0.mk H
                    clear H
                    go_wp2
                    go_meet
                    case rel => exact ⟨_, (false), (by first | rfl | (simp; done) | (simp [*]; done)), H', ⟨by have := HK1.out; have := HK2.out; first | omega | exact Nat.le_refl _⟩, ⟨by (with_reducible repeat (first | apply Kd.R_alloc | apply Kd.R_drewN | apply Kd.R_drew)); exact HO_4.out⟩, ⟨by (with_reducible repeat (first | apply Kd.R_alloc | apply Kd.R_drewN | apply Kd.R_drew)); exact HO_5.out⟩, ⟨by repeat (first | (with_reducible first | exact HB.out | apply below_alloc | apply pw_below_drewN | apply below_drew1) | exact HB.out)⟩⟩
                case rest =>
                  clear HC8
                  try clear c1
                  try clear c2
                  try clear c2b0
                  try clear c2b1
                  try clear p2
                  try clear c3
                  try clear c3b0
                  try clear c3b1
                  try clear c6
                  try clear c6b0
                  try clear c6b1
                  try clear c9
                  try clear c9b0
                  try clear p2
                  obtain ⟨kq, x26_7, rfl, HA, HJ7, HO_4, HO_5, HB⟩ := hcut
                  cases kq with
                  | zero => exact absurd HA.out (by simp [banksmanref14_Order.j2])
                  | succ kj7 =>
                    have H := HA.out
                    clear HA
                    simp only [banksmanref14_Order.j2] at H
                    by_cases c10 : x26_7 = true
                    · subst c10
                      have H1 : (if 0 ≤ x7_2 then (if x7_2 < (x5_1.length : Int) then (banksmanref14_Order.l2 kj7 l0 x4_1 x5_1 x6_2 x7_2 (!(rdOf false x5_1 x7_2)) 0) else (none)) else (none)) = some (r1, r2) := by rw [if_pos rfl] at H; exact H
                      clear H
                      have H := H1
                      clear H1
                      by_cases c11 : 0 ≤ x7_2
                      · rw [if_pos c11] at H
                        have c11b0 : decide (0 ≤ x7_2) = true := decide_eq_true c11
                        clear c11
                        by_cases c12 : x7_2 < (x5_1.length : Int)
                        · rw [if_pos c12] at H
                          have c12b0 : decide (x7_2 < (x5_1.length : Int)) = true := decide_eq_true c12
                          clear c12
                          have H' := Aside0.mk H
                          clear H
                          obtain ⟨Ao13, co13, eo13⟩ := Kd.R_slice HO_5.out
                          subst eo13
                          have p388 : 0 ≤ (x7_2 : Int) := of_decide_eq_true (by first | (with_reducible assumption) | assumption)
                          have q388 : x7_2 < (x5_1.length : Int) := of_decide_eq_true (by first | (with_reducible assumption) | assumption)
                          obtain ⟨ad388, e388, hx388_0⟩ := Kd.at_bool (Kd.R_reads' HO_5.out).2.2 x7_2 p388 q388
                          cases e388
                          replace p388 := eq_true p388
                          replace q388 := eq_true q388
                          go_wp2
                          go_loopg [8, 9] kj7 (fun kq v8 v9 w' => ∃ (x8_4 : Bool) (x9_4 : Int), v8 = .bool x8_4 ∧ v9 = .int .i64 x9_4 ∧ Aside0 (banksmanref14_Order.l2 kq l0 x4_1 x5_1 x6_2 x7_2 x8_4 x9_4 = some (r1, r2)) ∧ Aside0 (kq ≤ kj7) ∧ Aside0 (Kd.R (Kd.int .i64) 3 w' w.heap.size (fun _ => True) (.slice Ao7 x4_1.length co7) x4_1) ∧ Aside0 (Kd.R Kd.bool 4 w' w.heap.size (fun _ => True) (.slice (some ad388) x5_1.length co13) x5_1) ∧ Aside0 (Below w.heap.size w w'))
                          case atStart => exact ⟨(!(rdOf false x5_1 x7_2)), (0), (by first | rfl | (simp; done) | (simp [*]; done)), (by first | rfl | (simp; done) | (simp [*]; done)), H', ⟨Nat.le_refl _⟩, ⟨by (with_reducible repeat (first | apply Kd.R_alloc | apply Kd.R_drewN | apply Kd.R_drew)); exact HO_4.out⟩, ⟨by (with_reducible repeat (first | apply Kd.R_alloc | apply Kd.R_drewN | apply Kd.R_drew)); exact HO_5.out⟩, ⟨by repeat (first | (with_reducible first | exact HB.out | apply below_alloc | apply pw_below_drewN | apply below_drew1) | exact HB.out)⟩⟩
                          case round =>
                            clear H'
                            try clear c1
                            try clear c2
                            try clear c2b0
                            try clear c2b1
                            try clear p2
                            try clear c3
                            try clear c3b0
                            try clear c3b1
                            try clear p3
                            try clear q3
                            try clear hx3
                            try clear c6
                            try clear c6b0
                            try clear c6b1
                            try clear c9
                            try clear c9b0
                            try clear c10
                            try clear c11
                            try clear c11b0
                            try clear c12
                            try clear c12b0
                            try clear hx388_0
                            try clear p2
                            try clear p388
                            try clear q388
                            obtain ⟨x8_4, x9_4, rfl, rfl, HA, HK4, HO_4, HO_5, HB⟩ := hrel
                            cases gk with
                            | zero => exact absurd HA.out (by simp [banksmanref14_Order.l2])
                            | succ k4 =>
                              have H := HA.out
                              clear HA
                              simp only [banksmanref14_Order.l2] at H
                              have HC14 := Aside0.mk H
                              clear H
                              go_upto_region 10 with (fail)
                              go_cut [40] (fun v40 wc => ∃ (kq : Nat) (x40_13 : Bool), v40 = .bool x40_13 ∧ Aside0 (banksmanref14_Order.j4 kq l0 x4_1 x5_1 x6_2 x7_2 x8_4 x9_4 x40_13 = some (r1, r2)) ∧ Aside0 (kq ≤ k4) ∧ Aside0 (Kd.R (Kd.int .i64) 3 wc w.heap.size (fun _ => True) (.slice Ao7 x4_1.length co7) x4_1) ∧ Aside0 (Kd.R Kd.bool 4 wc w.heap.size (fun _ => True) (.slice (some ad388) x5_1.length co13) x5_1) ∧ Aside0 (Below w.heap.size w wc))
                              case first =>
                                have H := HC14.out
                                clear HC14
                                by_cases c15 : x9_4 < (l0.length : Int)
                                · rw [if_pos c15] at H
                                  have c15b0 : decide (x9_4 < (l0.length : Int)) = true := decide_eq_true c15
                                  clear c15
                                  (first | rw [c15b0] | (simp only [i64_w, i32_w]; rw [c15b0]) | skip)
                                  have H' := Aside0.mk H
                                  clear H
                                  go_wp2
                                  go_meet
                                  case rel => exact ⟨_, (x8_4), (by first | rfl | (simp; done) | (simp [*]; done)), H', ⟨by have := HK1.out; have := HK2.out; have := HJ7.out; have := HK4.out; first | omega | exact Nat.le_refl _⟩, ⟨by (with_reducible repeat (first | apply Kd.R_alloc | apply Kd.R_drewN | apply Kd.R_drew)); exact HO_4.out⟩, ⟨by (with_reducible repeat (first | apply Kd.R_alloc | apply Kd.R_drewN | apply Kd.R_drew)); exact HO_5.out⟩, ⟨by repeat (first | (with_reducible first | exact HB.out | apply below_alloc | apply pw_below_drewN | apply below_drew1) | exact HB.out)⟩⟩
                                · rw [if_neg c15] at H
                                  have c15b0 : decide (x9_4 < (l0.length : Int)) = false := decide_eq_false c15
                                  clear c15
                                  (first | rw [c15b0] | (simp only [i64_w, i32_w]; rw [c15b0]) | skip)
                                  have H' := Aside0.mk H
                                  clear H
                                  go_wp2
                                  go_meet
                                  case rel => exact ⟨_, (false), (by first | rfl | (simp; done) | (simp [*]; done)), H', ⟨by have := HK1.out; have := HK2.out; have := HJ7.out; have := HK4.out; first | omega | exact Nat.le_refl _⟩, ⟨by (with_reducible repeat (first | apply Kd.R_alloc | apply Kd.R_drewN | apply Kd.R_drew)); exact HO_4.out⟩, ⟨by (with_reducible repeat (first | apply Kd.R_alloc | apply Kd.R_drewN | apply Kd.R_drew)); exact HO_5.out⟩, ⟨by repeat (first | (with_reducible first | exact HB.out | apply below_alloc | apply pw_below_drewN | apply below_drew1) | exact HB.out)⟩⟩
                              case rest =>
                                clear HC14
                                try clear c1
                                try clear c2
                                try clear c2b0
                                try clear c2b1
                                try clear p2
                                try clear c3
                                try clear c3b0
                                try clear c3b1
                                try clear p3
                                try clear q3
                                try clear hx3
                                try clear c6
                                try clear c6b0
                                try clear c6b1
                                try clear c9
                                try clear c9b0
                                try clear c10
                                try clear c11
                                try clear c11b0
                                try clear c12
                                try clear c12b0
                                try clear c15
                                try clear c15b0
                                try clear hx388_0
                                try clear p2
                                try clear p3
                                try clear p388
                                try clear q3
                                try clear q388
                                obtain ⟨kq, x40_13, rfl, HA, HJ13, HO_4, HO_5, HB⟩ := hcut
                                cases kq with
                                | zero => exact absurd HA.out (by simp [banksmanref14_Order.j4])
                                | succ kj13 =>
                                  have H := HA.out
                                  clear HA
                                  simp only [banksmanref14_Order.j4] at H
                                  by_cases c16 : x40_13 = true
                                  · subst c16
                                    have H1 : (if x9_4 = x7_2 then (banksmanref14_Order.l2 kj13 l0 x4_1 x5_1 x6_2 x7_2 x8_4 (wrap64 (x9_4 + 1))) else (if 0 ≤ x9_4 then (if x9_4 < (x5_1.length : Int) then (if rdOf false x5_1 x9_4 = true then (banksmanref14_Order.l2 kj13 l0 x4_1 x5_1 x6_2 x7_2 x8_4 (wrap64 (x9_4 + 1))) else (if x9_4 < (l0.length : Int) then (if 0 ≤ x7_2 then (if x7_2 < (l0.length : Int) then ((banksmanref14_edge.f kj13 ((rd_T50 l0 x9_4).f0) ((rd_T50 l0 x9_4).f1) ((rd_T50 l0 x9_4).f2) ((rd_T50 l0 x9_4).f3) ((rd_T50 l0 x9_4).f4) ((rd_T50 l0 x9_4).f5) ((rd_T50 l0 x7_2).f0) ((rd_T50 l0 x7_2).f1) ((rd_T50 l0 x7_2).f2) ((rd_T50 l0 x7_2).f3) ((rd_T50 l0 x7_2).f4) ((rd_T50 l0 x7_2).f5)).bind fun t392 => (banksmanref14_Order.l2 kj13 l0 x4_1 x5_1 x6_2 x7_2 (!t392) (wrap64 (x9_4 + 1)))) else (none)) else (none)) else (none))) else (none)) else (none))) = some (r1, r2) := by rw [if_pos rfl] at H; exact H
                                    clear H
                                    have H := H1
                                    clear H1
                                    by_cases c17 : x9_4 = x7_2
                                    · rw [if_pos c17] at H
                                      have c17b0 : (x9_4 == x7_2) = true := beq_iff_eq.mpr c17
                                      have c17b1 : (x9_4 != x7_2) = false := bne_eq_false_iff_eq.mpr c17
                                      clear c17
                                      have H' := Aside0.mk H
                                      clear H
                                      go_wp2
                                      go_roundg kj13
                                      case measure => have := HK1.out; have := HK2.out; have := HJ7.out; have := HK4.out; have := HJ13.out; omega
                                      case rel => exact ⟨(x8_4), (wrap64 (x9_4 + 1)), (by first | rfl | (simp; done) | (simp [*]; done)), (by first | rfl | (simp; done) | (simp [*]; done)), H', ⟨by have := HK1.out; have := HK2.out; have := HJ7.out; have := HK4.out; have := HJ13.out; omega⟩, ⟨by (with_reducible repeat (first | apply Kd.R_alloc | apply Kd.R_drewN | apply Kd.R_drew)); exact HO_4.out⟩, ⟨by (with_reducible repeat (first | apply Kd.R_alloc | apply Kd.R_drewN | apply Kd.R_drew)); exact HO_5.out⟩, ⟨by repeat (first | (with_reducible first | exact HB.out | apply below_alloc | apply pw_below_drewN | apply below_drew1) | exact HB.out)⟩⟩
                                    · rw [if_neg c17] at H
                                      have c17b0 : (x9_4 == x7_2) = false := beq_eq_false_iff_ne.mpr c17
                                      have c17b1 : (x9_4 != x7_2) = true := bne_iff_ne.mpr c17
                                      by_cases c18 : 0 ≤ x9_4
                                      · rw [if_pos c18] at H
                                        have c18b0 : decide (0 ≤ x9_4) = true := decide_eq_true c18
                                        clear c18
                                        by_cases c19 : x9_4 < (x5_1.length : Int)
                                        · rw [if_pos c19] at H
                                          have c19b0 : decide (x9_4 < (x5_1.length : Int)) = true := decide_eq_true c19
                                          clear c19
                                          obtain ⟨bq20, hbq20⟩ : ∃ b_ : Bool, b_ = (rdOf false x5_1 x9_4) := ⟨_, rfl⟩
                                          replace H : (if bq20 = true then (banksmanref14_Order.l2 kj13 l0 x4_1 x5_1 x6_2 x7_2 x8_4 (wrap64 (x9_4 + 1))) else (if x9_4 < (l0.length : Int) then (if 0 ≤ x7_2 then (if x7_2 < (l0.length : Int) then ((banksmanref14_edge.f kj13 ((rd_T50 l0 x9_4).f0) ((rd_T50 l0 x9_4).f1) ((rd_T50 l0 x9_4).f2) ((rd_T50 l0 x9_4).f3) ((rd_T50 l0 x9_4).f4) ((rd_T50 l0 x9_4).f5) ((rd_T50 l0 x7_2).f0) ((rd_T50 l0 x7_2).f1) ((rd_T50 l0 x7_2).f2) ((rd_T50 l0 x7_2).f3) ((rd_T50 l0 x7_2).f4) ((rd_T50 l0 x7_2).f5)).bind fun t392 => (banksmanref14_Order.l2 kj13 l0 x4_1 x5_1 x6_2 x7_2 (!t392) (wrap64 (x9_4 + 1)))) else (none)) else (none)) else (none))) = some (r1, r2) := by rw [← hbq20] at H; exact H
                                          have Nbq20 := Aside0.mk hbq20
                                          clear hbq20
                                          by_cases c21 : bq20 = true
                                          · subst c21
                                            have H1 : (banksmanref14_Order.l2 kj13 l0 x4_1 x5_1 x6_2 x7_2 x8_4 (wrap64 (x9_4 + 1))) = some (r1, r2) := by rw [if_pos rfl] at H; exact H
                                            clear H
                                            have H := H1
                                            clear H1
                                            have H' := Aside0.mk H
                                            clear H
                                            have p389 : 0 ≤ (x9_4 : Int) := of_decide_eq_true (by first | (with_reducible assumption) | assumption)
                                            have q389 : x9_4 < (x5_1.length : Int) := of_decide_eq_true (by first | (with_reducible assumption) | assumption)
                                            obtain ⟨ad389, e389, hx389_0⟩ := Kd.at_bool (Kd.R_reads' HO_5.out).2.2 x9_4 p389 q389
                                            (try rw [← Nbq20.out] at hx389_0)
                                            obtain rfl : ad388 = ad389 := (by injection e389)
                                            replace p389 := eq_true p389
                                            replace q389 := eq_true q389
                                            go_wp2
                                            go_roundg kj13
                                            case measure => have := HK1.out; have := HK2.out; have := HJ7.out; have := HK4.out; have := HJ13.out; omega
                                            case rel => exact ⟨(x8_4), (wrap64 (x9_4 + 1)), (by first | rfl | (simp; done) | (simp [*]; done)), (by first | rfl | (simp; done) | (simp [*]; done)), H', ⟨by have := HK1.out; have := HK2.out; have := HJ7.out; have := HK4.out; have := HJ13.out; omega⟩, ⟨by (with_reducible repeat (first | apply Kd.R_alloc | apply Kd.R_drewN | apply Kd.R_drew)); exact HO_4.out⟩, ⟨by (with_reducible repeat (first | apply Kd.R_alloc | apply Kd.R_drewN | apply Kd.R_drew)); exact HO_5.out⟩, ⟨by repeat (first | (with_reducible first | exact HB.out | apply below_alloc | apply pw_below_drewN | apply below_drew1) | exact HB.out)⟩⟩
                                          · replace c21 := Bool.eq_false_iff.mpr c21
                                            subst c21
                                            have H1 : (if x9_4 < (l0.length : Int) then (if 0 ≤ x7_2 then (if x7_2 < (l0.length : Int) then ((banksmanref14_edge.f kj13 ((rd_T50 l0 x9_4).f0) ((rd_T50 l0 x9_4).f1) ((rd_T50 l0 x9_4).f2) ((rd_T50 l0 x9_4).f3) ((rd_T50 l0 x9_4).f4) ((rd_T50 l0 x9_4).f5) ((rd_T50 l0 x7_2).f0) ((rd_T50 l0 x7_2).f1) ((rd_T50 l0 x7_2).f2) ((rd_T50 l0 x7_2).f3) ((rd_T50 l0 x7_2).f4) ((rd_T50 l0 x7_2).f5)).bind fun t392 => (banksmanref14_Order.l2 kj13 l0 x4_1 x5_1 x6_2 x7_2 (!t392) (wrap64 (x9_4 + 1)))) else (none)) else (none)) else (none)) = some (r1, r2) := by rw [if_neg (show ¬ (false = true) by decide)] at H; exact H
                                            clear H
                                            have H := H1
                                            clear H1
                                            by_cases c22 : x9_4 < (l0.length : Int)
                                            · rw [if_pos c22] at H
                                              have c22b0 : decide (x9_4 < (l0.length : Int)) = true := decide_eq_true c22
                                              clear c22
                                              by_cases c23 : 0 ≤ x7_2
                                              · rw [if_pos c23] at H
                                                have c23b0 : decide (0 ≤ x7_2) = true := decide_eq_true c23
                                                clear c23
                                                by_cases c24 : x7_2 < (l0.length : Int)
                                                · rw [if_pos c24] at H
                                                  have c24b0 : decide (x7_2 < (l0.length : Int)) = true := decide_eq_true c24
                                                  clear c24
                                                  replace H := Option.bind_eq_some_iff.mp H
                                                  obtain ⟨t392, A250, H⟩ := H
                                                  replace H : (banksmanref14_Order.l2 kj13 l0 x4_1 x5_1 x6_2 x7_2 (!t392) (wrap64 (x9_4 + 1))) = some (r1, r2) := H
                                                  have A25 := Aside0.mk A250
                                                  clear A250
                                                  have H' := Aside0.mk H
                                                  clear H
                                                  have p389 : 0 ≤ (x9_4 : Int) := of_decide_eq_true (by first | (with_reducible assumption) | assumption)
                                                  have q389 : x9_4 < (x5_1.length : Int) := of_decide_eq_true (by first | (with_reducible assumption) | assumption)
                                                  obtain ⟨ad389, e389, hx389_0⟩ := Kd.at_bool (Kd.R_reads' HO_5.out).2.2 x9_4 p389 q389
                                                  (try rw [← Nbq20.out] at hx389_0)
                                                  obtain rfl : ad388 = ad389 := (by injection e389)
                                                  replace p389 := eq_true p389
                                                  replace q389 := eq_true q389
                                                  try go_wp2
                                                  have n0_ := Aside0.mk (Kd.R_drew HO_4.out)
                                                  have n1_ := Aside0.mk (Kd.R_drew HO_5.out)
                                                  have n2_ := Aside0.mk (below_drew1 HB.out)
                                                  clear HO_4
                                                  clear HO_5
                                                  clear HB
                                                  have HO_4 := n0_
                                                  have HO_5 := n1_
                                                  have HB := n2_
                                                  clear n0_ n1_ n2_
                                                  have p390 : 0 ≤ (x9_4 : Int) := of_decide_eq_true (by first | (with_reducible assumption) | assumption)
                                                  have q390 : x9_4 < (l0.length : Int) := of_decide_eq_true (by first | (with_reducible assumption) | assumption)
                                                  obtain ⟨ad390, A390_3, c390_3, A390_4, c390_4, e390, hx390_0, hx390_1, hx390_2, hx390_3, hx390_4, hx390_5, hl390_3, hi390_3, hl390_4, hi390_4⟩ := at_T50 HR0.out x9_4 p390 q390
                                                  have hw390_5 := hx390_5
                                                  have hw390_4 := hx390_4
                                                  have hw390_3 := hx390_3
                                                  have hw390_2 := hx390_2
                                                  have hw390_1 := hx390_1
                                                  have hw390_0 := hx390_0
                                                  (try rw [← Nbq20.out] at hx390_2)
                                                  (try rw [← Nbq20.out] at hx390_5)
                                                  cases e390
                                                  replace hx390_0 := (HB.out.cell (World.block_lt_of_cell? w _ hx390_0)).trans hx390_0
                                                  replace hx390_1 := (HB.out.cell (World.block_lt_of_cell? w _ hx390_1)).trans hx390_1
                                                  replace hx390_2 := (HB.out.cell (World.block_lt_of_cell? w _ hx390_2)).trans hx390_2
                                                  replace hx390_3 := (HB.out.cell (World.block_lt_of_cell? w _ hx390_3)).trans hx390_3
                                                  replace hx390_4 := (HB.out.cell (World.block_lt_of_cell? w _ hx390_4)).trans hx390_4
                                                  replace hx390_5 := (HB.out.cell (World.block_lt_of_cell? w _ hx390_5)).trans hx390_5
                                                  have HR390_3 := Aside0.mk hi390_3
                                                  have HC390_3 := Aside0.mk hl390_3
                                                  clear hi390_3 hl390_3
                                                  have HR390_4 := Aside0.mk hi390_4
                                                  have HC390_4 := Aside0.mk hl390_4
                                                  clear hi390_4 hl390_4
                                                  replace p390 := eq_true p390
                                                  replace q390 := eq_true q390
                                                  have p391 : 0 ≤ (x7_2 : Int) := of_decide_eq_true (by first | (with_reducible assumption) | assumption)
                                                  have q391 : x7_2 < (l0.length : Int) := of_decide_eq_true (by first | (with_reducible assumption) | assumption)
                                                  obtain ⟨ad391, A391_3, c391_3, A391_4, c391_4, e391, hx391_0, hx391_1, hx391_2, hx391_3, hx391_4, hx391_5, hl391_3, hi391_3, hl391_4, hi391_4⟩ := at_T50 HR0.out x7_2 p391 q391
                                                  have hw391_5 := hx391_5
                                                  have hw391_4 := hx391_4
                                                  have hw391_3 := hx391_3
                                                  have hw391_2 := hx391_2
                                                  have hw391_1 := hx391_1
                                                  have hw391_0 := hx391_0
                                                  (try rw [← Nbq20.out] at hx391_2)
                                                  (try rw [← Nbq20.out] at hx391_5)
                                                  obtain rfl : ad390 = ad391 := (by injection e391)
                                                  replace hx391_0 := (HB.out.cell (World.block_lt_of_cell? w _ hx391_0)).trans hx391_0
                                                  replace hx391_1 := (HB.out.cell (World.block_lt_of_cell? w _ hx391_1)).trans hx391_1
                                                  replace hx391_2 := (HB.out.cell (World.block_lt_of_cell? w _ hx391_2)).trans hx391_2
                                                  replace hx391_3 := (HB.out.cell (World.block_lt_of_cell? w _ hx391_3)).trans hx391_3
                                                  replace hx391_4 := (HB.out.cell (World.block_lt_of_cell? w _ hx391_4)).trans hx391_4
                                                  replace hx391_5 := (HB.out.cell (World.block_lt_of_cell? w _ hx391_5)).trans hx391_5
                                                  have HR391_3 := Aside0.mk hi391_3
                                                  have HC391_3 := Aside0.mk hl391_3
                                                  clear hi391_3 hl391_3
                                                  have HR391_4 := Aside0.mk hi391_4
                                                  have HC391_4 := Aside0.mk hl391_4
                                                  clear hi391_4 hl391_4
                                                  replace p391 := eq_true p391
                                                  replace q391 := eq_true q391
                                                  refine start_ (n := 10) (S := fun w' => w'.cell? (ad390.add ((x9_4).toNat * 6)) = some (.int .i64 ((rd_T50 l0 x9_4).f0)) ∧ w'.cell? ⟨(ad390.add ((x9_4).toNat * 6)).block, (ad390.add ((x9_4).toNat * 6)).off + 1, none⟩ = some (.int .i64 ((rd_T50 l0 x9_4).f1)) ∧ w'.cell? ⟨(ad390.add ((x9_4).toNat * 6)).block, (ad390.add ((x9_4).toNat * 6)).off + 2, none⟩ = some (.bool ((rd_T50 l0 x9_4).f2)) ∧ w'.cell? ⟨(ad390.add ((x9_4).toNat * 6)).block, (ad390.add ((x9_4).toNat * 6)).off + 3, none⟩ = some (.slice A390_3 ((rd_T50 l0 x9_4).f3).length c390_3) ∧ w'.cell? ⟨(ad390.add ((x9_4).toNat * 6)).block, (ad390.add ((x9_4).toNat * 6)).off + 4, none⟩ = some (.slice A390_4 ((rd_T50 l0 x9_4).f4).length c390_4) ∧ w'.cell? ⟨(ad390.add ((x9_4).toNat * 6)).block, (ad390.add ((x9_4).toNat * 6)).off + 5, none⟩ = some (.bool ((rd_T50 l0 x9_4).f5)) ∧ w'.cell? (ad390.add ((x7_2).toNat * 6)) = some (.int .i64 ((rd_T50 l0 x7_2).f0)) ∧ w'.cell? ⟨(ad390.add ((x7_2).toNat * 6)).block, (ad390.add ((x7_2).toNat * 6)).off + 1, none⟩ = some (.int .i64 ((rd_T50 l0 x7_2).f1)) ∧ w'.cell? ⟨(ad390.add ((x7_2).toNat * 6)).block, (ad390.add ((x7_2).toNat * 6)).off + 2, none⟩ = some (.bool ((rd_T50 l0 x7_2).f2)) ∧ w'.cell? ⟨(ad390.add ((x7_2).toNat * 6)).block, (ad390.add ((x7_2).toNat * 6)).off + 3, none⟩ = some (.slice A391_3 ((rd_T50 l0 x7_2).f3).length c391_3) ∧ w'.cell? ⟨(ad390.add ((x7_2).toNat * 6)).block, (ad390.add ((x7_2).toNat * 6)).off + 4, none⟩ = some (.slice A391_4 ((rd_T50 l0 x7_2).f4).length c391_4) ∧ w'.cell? ⟨(ad390.add ((x7_2).toNat * 6)).block, (ad390.add ((x7_2).toNat * 6)).off + 5, none⟩ = some (.bool ((rd_T50 l0 x7_2).f5))) (ds := []) #[false, false, false, false, false, false, false, false, false, false] (by kernel_rfl) rfl rfl ⟨((HB.out.cell (World.block_lt_of_cell? w _ hw390_0)).trans hw390_0), ((HB.out.cell (World.block_lt_of_cell? w _ hw390_1)).trans hw390_1), ((HB.out.cell (World.block_lt_of_cell? w _ hw390_2)).trans hw390_2), ((HB.out.cell (World.block_lt_of_cell? w _ hw390_3)).trans hw390_3), ((HB.out.cell (World.block_lt_of_cell? w _ hw390_4)).trans hw390_4), ((HB.out.cell (World.block_lt_of_cell? w _ hw390_5)).trans hw390_5), ((HB.out.cell (World.block_lt_of_cell? w _ hw391_0)).trans hw391_0), ((HB.out.cell (World.block_lt_of_cell? w _ hw391_1)).trans hw391_1), ((HB.out.cell (World.block_lt_of_cell? w _ hw391_2)).trans hw391_2), ((HB.out.cell (World.block_lt_of_cell? w _ hw391_3)).trans hw391_3), ((HB.out.cell (World.block_lt_of_cell? w _ hw391_4)).trans hw391_4), ((HB.out.cell (World.block_lt_of_cell? w _ hw391_5)).trans hw391_5)⟩ (fun hHeld => ?_); refine with_tabW banksmanref14_Order.tab13 banksmanref14_Order.bits13 (fun HT_ HW_ => ?_)
                                                  generalize wc.drew = w26 at HO_4 HO_5 HB HR390_3 HR390_4 HR391_3 HR391_4 hx390_0 hx390_1 hx390_2 hx390_3 hx390_4 hx390_5 hx391_0 hx391_1 hx391_2 hx391_3 hx391_4 hx391_5 hHeld ⊢
                                                  refine pure_ (i := 0) (N := some 53) (v := ?_) (a' := ?_) #[true, false, false, false, false, false, false, false, false, false] rfl rfl (any_of HT_.out (by kernel_rfl)) (fun _ _ _ h => h) (Or.inl ⟨by rfl, ?_⟩) ?_ ?_
                                                  rotate_left
                                                  · intro w'
                                                    go_simp
                                                    with_reducible rfl
                                                  rotate_left
                                                  · simp only [Act.put, List.setIfInBounds_toArray, List.set_cons_zero, List.set_cons_succ, i64_w, i32_w]
                                                    rfl
                                                  refine pure_ (i := 1) (N := some 54) (v := ?_) (a' := ?_) #[true, true, false, false, false, false, false, false, false, false] rfl rfl (any_of HT_.out (by kernel_rfl)) (fun _ _ _ h => h) (Or.inl ⟨by rfl, ?_⟩) ?_ ?_
                                                  rotate_left
                                                  · intro w'
                                                    go_simp
                                                    with_reducible rfl
                                                  rotate_left
                                                  · simp only [Act.put, List.setIfInBounds_toArray, List.set_cons_zero, List.set_cons_succ, i64_w, i32_w]
                                                    rfl
                                                  refine pure_ (i := 2) (N := some 55) (v := ?_) (a' := ?_) #[true, true, true, false, false, false, false, false, false, false] rfl rfl (any_of HT_.out (by kernel_rfl)) (fun _ _ _ h => h) (Or.inl ⟨by rfl, ?_⟩) ?_ ?_
                                                  rotate_left
                                                  · intro w'
                                                    go_simp
                                                    with_reducible rfl
                                                  rotate_left
                                                  · simp only [Act.put, List.setIfInBounds_toArray, List.set_cons_zero, List.set_cons_succ, i64_w, i32_w]
                                                    rfl
                                                  refine pure_ (i := 4) (N := some 57) (v := ?_) (a' := ?_) #[true, true, true, false, true, false, false, false, false, false] rfl rfl (any_of HT_.out (by kernel_rfl)) (fun _ _ _ h => h) (Or.inl ⟨by rfl, ?_⟩) ?_ ?_
                                                  rotate_left
                                                  · intro w'
                                                    go_simp
                                                    with_reducible rfl
                                                  rotate_left
                                                  · simp only [Act.put, List.setIfInBounds_toArray, List.set_cons_zero, List.set_cons_succ, i64_w, i32_w]
                                                    rfl
                                                  refine pure_ (i := 5) (N := some 58) (v := ?_) (a' := ?_) #[true, true, true, false, true, true, false, false, false, false] rfl rfl (any_of HT_.out (by kernel_rfl)) (fun _ _ _ h => h) (Or.inl ⟨by rfl, ?_⟩) ?_ ?_
                                                  rotate_left
                                                  · intro w'
                                                    go_simp
                                                    with_reducible rfl
                                                  rotate_left
                                                  · simp only [Act.put, List.setIfInBounds_toArray, List.set_cons_zero, List.set_cons_succ, i64_w, i32_w]
                                                    rfl
                                                  refine pure_ (i := 6) (N := some 59) (v := ?_) (a' := ?_) #[true, true, true, false, true, true, true, false, false, false] rfl rfl (any_of HT_.out (by kernel_rfl)) (fun _ _ _ h => h) (Or.inl ⟨by rfl, ?_⟩) ?_ ?_
                                                  rotate_left
                                                  · intro w'
                                                    go_simp
                                                    with_reducible rfl
                                                  rotate_left
                                                  · simp only [Act.put, List.setIfInBounds_toArray, List.set_cons_zero, List.set_cons_succ, i64_w, i32_w]
                                                    rfl
                                                  refine take_ (i := 3) (N := some 56) (v := ?_) (a' := ?_) #[true, true, true, true, true, true, true, false, false, false] rfl rfl (take_ofW HT_.out HW_.out (by kernel_rfl)) (fun _ _ _ h => h) (Or.inl ⟨by rfl, ?_⟩) hHeld ?_ ?_
                                                  rotate_left
                                                  · rintro w' ⟨s0, s1, s2, s3, s4, s5, s6, s7, s8, s9, s10, s11⟩
                                                    go_simp
                                                    with_reducible rfl
                                                  rotate_left
                                                  · simp only [Act.put, List.setIfInBounds_toArray, List.set_cons_zero, List.set_cons_succ, i64_w, i32_w]
                                                    rfl
                                                  refine take_ (i := 7) (N := some 60) (v := ?_) (a' := ?_) #[true, true, true, true, true, true, true, true, false, false] rfl rfl (take_ofW HT_.out HW_.out (by kernel_rfl)) (fun _ _ _ h => h) (Or.inl ⟨by rfl, ?_⟩) hHeld ?_ ?_
                                                  rotate_left
                                                  · rintro w' ⟨s0, s1, s2, s3, s4, s5, s6, s7, s8, s9, s10, s11⟩
                                                    go_simp
                                                    with_reducible rfl
                                                  rotate_left
                                                  · simp only [Act.put, List.setIfInBounds_toArray, List.set_cons_zero, List.set_cons_succ, i64_w, i32_w]
                                                    rfl
                                                  refine one_ (i := 8) (N := some 61) #[true, true, true, true, true, true, true, true, true, false] rfl rfl (one_of HT_.out (by kernel_rfl)) (by decide) (fun K hK => ?_)
                                                  refine goes_ Try.func34 (by kernel_rfl) rfl #[.agg #[.int .i64 ((rd_T50 l0 x9_4).f0), .int .i64 ((rd_T50 l0 x9_4).f1), .bool ((rd_T50 l0 x9_4).f2), .slice A390_3 ((rd_T50 l0 x9_4).f3).length c390_3, .slice A390_4 ((rd_T50 l0 x9_4).f4).length c390_4, .bool ((rd_T50 l0 x9_4).f5)], .agg #[.int .i64 ((rd_T50 l0 x7_2).f0), .int .i64 ((rd_T50 l0 x7_2).f1), .bool ((rd_T50 l0 x7_2).f2), .slice A391_3 ((rd_T50 l0 x7_2).f3).length c391_3, .slice A391_4 ((rd_T50 l0 x7_2).f4).length c391_4, .bool ((rd_T50 l0 x7_2).f5)]] (by rfl) rfl rfl (by (try simp only [List.map_toArray, List.map_cons, List.map_nil]); first | done | rfl | (simp only [List.length_drop, List.length_take]; rfl)) ?_
                                                  with_reducible refine (banksmanref14_edge.calls kj13 ((rd_T50 l0 x9_4).f0) ((rd_T50 l0 x9_4).f1) ((rd_T50 l0 x9_4).f2) _ _ ((rd_T50 l0 x9_4).f3) _ _ ((rd_T50 l0 x9_4).f4) ((rd_T50 l0 x9_4).f5) ((rd_T50 l0 x7_2).f0) ((rd_T50 l0 x7_2).f1) ((rd_T50 l0 x7_2).f2) _ _ ((rd_T50 l0 x7_2).f3) _ _ ((rd_T50 l0 x7_2).f4) ((rd_T50 l0 x7_2).f5) t392 _ ?side1 ?side2 ?side3 ?side4 ?side5 ?side6 ?side7 ?side8 A25.out).mono ?_
                                                  (case side1 => repeat (first | exact (Kd.C_below HR390_3.out HB.out) | (with_reducible refine Kd.C_alloc ?_ _) | (with_reducible refine Kd.C_drewN ?_ _) | (with_reducible refine Kd.C_drew ?_)))
                                                  (case side2 => exact HC390_3.out)
                                                  (case side3 => repeat (first | exact (Kd.C_below HR390_4.out HB.out) | (with_reducible refine Kd.C_alloc ?_ _) | (with_reducible refine Kd.C_drewN ?_ _) | (with_reducible refine Kd.C_drew ?_)))
                                                  (case side4 => exact HC390_4.out)
                                                  (case side5 => repeat (first | exact (Kd.C_below HR391_3.out HB.out) | (with_reducible refine Kd.C_alloc ?_ _) | (with_reducible refine Kd.C_drewN ?_ _) | (with_reducible refine Kd.C_drew ?_)))
                                                  (case side6 => exact HC391_3.out)
                                                  (case side7 => repeat (first | exact (Kd.C_below HR391_4.out HB.out) | (with_reducible refine Kd.C_alloc ?_ _) | (with_reducible refine Kd.C_drewN ?_ _) | (with_reducible refine Kd.C_drew ?_)))
                                                  (case side8 => exact HC391_4.out)
                                                  rintro e w27 ⟨rfl, hb⟩
                                                  refine ⟨_, rfl, ?_⟩
                                                  have n0_ := Aside0.mk (Kd.R_below (by (with_reducible repeat (first | apply Kd.R_alloc | apply Kd.R_drewN | apply Kd.R_drew)); exact HO_4.out) hb)
                                                  have n1_ := Aside0.mk (Kd.R_below (by (with_reducible repeat (first | apply Kd.R_alloc | apply Kd.R_drewN | apply Kd.R_drew)); exact HO_5.out) hb)
                                                  have n2_ := Aside0.mk (below_step (by repeat (first | (with_reducible first | exact HB.out | apply below_alloc | apply pw_below_drewN | apply below_drew1) | exact HB.out)) hb)
                                                  clear HO_4
                                                  clear HO_5
                                                  clear HB
                                                  have HO_4 := n0_
                                                  have HO_5 := n1_
                                                  have HB := n2_
                                                  clear n0_ n1_ n2_
                                                  (try clear hb)
                                                  (try clear hb2)
                                                  (try clear hk)
                                                  (try clear hi)
                                                  refine hK.out _ _ ⟨((HB.out.cell (World.block_lt_of_cell? w _ hw390_0)).trans hw390_0), ((HB.out.cell (World.block_lt_of_cell? w _ hw390_1)).trans hw390_1), ((HB.out.cell (World.block_lt_of_cell? w _ hw390_2)).trans hw390_2), ((HB.out.cell (World.block_lt_of_cell? w _ hw390_3)).trans hw390_3), ((HB.out.cell (World.block_lt_of_cell? w _ hw390_4)).trans hw390_4), ((HB.out.cell (World.block_lt_of_cell? w _ hw390_5)).trans hw390_5), ((HB.out.cell (World.block_lt_of_cell? w _ hw391_0)).trans hw391_0), ((HB.out.cell (World.block_lt_of_cell? w _ hw391_1)).trans hw391_1), ((HB.out.cell (World.block_lt_of_cell? w _ hw391_2)).trans hw391_2), ((HB.out.cell (World.block_lt_of_cell? w _ hw391_3)).trans hw391_3), ((HB.out.cell (World.block_lt_of_cell? w _ hw391_4)).trans hw391_4), ((HB.out.cell (World.block_lt_of_cell? w _ hw391_5)).trans hw391_5)⟩ (fun hHeld => ?_)
                                                  clear hK K
                                                  refine norm_ (a' := ?_) ?_ ?_
                                                  rotate_left
                                                  · show Act.put _ (some 61) _ = _
                                                    simp only [Act.put, List.setIfInBounds_toArray, List.set_cons_zero, List.set_cons_succ, i64_w, i32_w]
                                                    rfl
                                                  refine pure_ (i := 9) (N := some 10) (v := ?_) (a' := ?_) #[true, true, true, true, true, true, true, true, true, true] rfl rfl (any_of HT_.out (by kernel_rfl)) (fun _ _ _ h => h) (Or.inl ⟨by rfl, ?_⟩) ?_ ?_
                                                  rotate_left
                                                  · intro w'
                                                    go_simp
                                                    with_reducible rfl
                                                  rotate_left
                                                  · simp only [Act.put, List.setIfInBounds_toArray, List.set_cons_zero, List.set_cons_succ, i64_w, i32_w]
                                                    rfl
                                                  refine done_ (done_of HT_.out (by kernel_rfl)) ?_
                                                  try go_wp2
                                                  go_roundg kj13
                                                  case measure => have := HK1.out; have := HK2.out; have := HJ7.out; have := HK4.out; have := HJ13.out; omega
                                                  case rel => exact ⟨(!t392), (wrap64 (x9_4 + 1)), (by first | rfl | (simp; done) | (simp [*]; done)), (by first | rfl | (simp; done) | (simp [*]; done)), H', ⟨by have := HK1.out; have := HK2.out; have := HJ7.out; have := HK4.out; have := HJ13.out; omega⟩, ⟨by (with_reducible repeat (first | apply Kd.R_alloc | apply Kd.R_drewN | apply Kd.R_drew)); exact HO_4.out⟩, ⟨by (with_reducible repeat (first | apply Kd.R_alloc | apply Kd.R_drewN | apply Kd.R_drew)); exact HO_5.out⟩, ⟨by repeat (first | (with_reducible first | exact HB.out | apply below_alloc | apply pw_below_drewN | apply below_drew1) | exact HB.out)⟩⟩
                                                · rw [if_neg c24] at H
                                                  exact absurd H (by simp)
                                              · rw [if_neg c23] at H
                                                exact absurd H (by simp)
                                            · rw [if_neg c22] at H
                                              exact absurd H (by simp)
                                        · rw [if_neg c19] at H
                                          exact absurd H (by simp)
                                      · rw [if_neg c18] at H
                                        exact absurd H (by simp)
                                  · replace c16 := Bool.eq_false_iff.mpr c16
                                    subst c16
                                    have H1 : (if x8_4 = true then (banksmanref14_Order.l1 kj13 l0 x4_1 x5_1 x7_2 (wrap64 (x7_2 + 1))) else (banksmanref14_Order.l1 kj13 l0 x4_1 x5_1 x6_2 (wrap64 (x7_2 + 1)))) = some (r1, r2) := by rw [if_neg (show ¬ (false = true) by decide)] at H; exact H
                                    clear H
                                    have H := H1
                                    clear H1
                                    by_cases c28 : x8_4 = true
                                    · subst c28
                                      have H1 : (banksmanref14_Order.l1 kj13 l0 x4_1 x5_1 x7_2 (wrap64 (x7_2 + 1))) = some (r1, r2) := by rw [if_pos rfl] at H; exact H
                                      clear H
                                      have H := H1
                                      clear H1
                                      have H' := Aside0.mk H
                                      clear H
                                      go_wp2
                                      go_roundg kj13
                                      case measure => have := HK1.out; have := HK2.out; have := HJ7.out; have := HK4.out; have := HJ13.out; omega
                                      case rel => exact ⟨(x7_2), (wrap64 (x7_2 + 1)), (by first | rfl | (simp; done) | (simp [*]; done)), (by first | rfl | (simp; done) | (simp [*]; done)), H', ⟨by have := HK1.out; have := HK2.out; have := HJ7.out; have := HK4.out; have := HJ13.out; omega⟩, ⟨by (with_reducible repeat (first | apply Kd.R_alloc | apply Kd.R_drewN | apply Kd.R_drew)); exact HO_4.out⟩, ⟨by (with_reducible repeat (first | apply Kd.R_alloc | apply Kd.R_drewN | apply Kd.R_drew)); exact HO_5.out⟩, ⟨by repeat (first | (with_reducible first | exact HB.out | apply below_alloc | apply pw_below_drewN | apply below_drew1) | exact HB.out)⟩⟩
                                    · replace c28 := Bool.eq_false_iff.mpr c28
                                      subst c28
                                      have H1 : (banksmanref14_Order.l1 kj13 l0 x4_1 x5_1 x6_2 (wrap64 (x7_2 + 1))) = some (r1, r2) := by rw [if_neg (show ¬ (false = true) by decide)] at H; exact H
                                      clear H
                                      have H := H1
                                      clear H1
                                      have H' := Aside0.mk H
                                      clear H
                                      go_wp2
                                      go_roundg kj13
                                      case measure => have := HK1.out; have := HK2.out; have := HJ7.out; have := HK4.out; have := HJ13.out; omega
                                      case rel => exact ⟨(x6_2), (wrap64 (x7_2 + 1)), (by first | rfl | (simp; done) | (simp [*]; done)), (by first | rfl | (simp; done) | (simp [*]; done)), H', ⟨by have := HK1.out; have := HK2.out; have := HJ7.out; have := HK4.out; have := HJ13.out; omega⟩, ⟨by (with_reducible repeat (first | apply Kd.R_alloc | apply Kd.R_drewN | apply Kd.R_drew)); exact HO_4.out⟩, ⟨by (with_reducible repeat (first | apply Kd.R_alloc | apply Kd.R_drewN | apply Kd.R_drew)); exact HO_5.out⟩, ⟨by repeat (first | (with_reducible first | exact HB.out | apply below_alloc | apply pw_below_drewN | apply below_drew1) | exact HB.out)⟩⟩
                        · rw [if_neg c12] at H
                          exact absurd H (by simp)
                      · rw [if_neg c11] at H
                        exact absurd H (by simp)
                    · replace c10 := Bool.eq_false_iff.mpr c10
                      subst c10
                      have H1 : (if x6_2 < 0 then (some (([] : List Int), false)) else (if 0 ≤ x6_2 then (if x6_2 < (x5_1.length : Int) then (if x4_1.length < 17592186044416 then (banksmanref14_Order.l0 kj7 l0 (x4_1 ++ [x6_2]) (x5_1.set (x6_2 : Int).toNat true)) else (none)) else (none)) else (none))) = some (r1, r2) := by rw [if_neg (show ¬ (false = true) by decide)] at H; exact H
                      clear H
                      have H := H1
                      clear H1
                      by_cases c29 : x6_2 < 0
                      · rw [if_pos c29] at H
                        have c29b0 : decide (x6_2 < 0) = true := decide_eq_true c29
                        clear c29
                        simp only [Option.some.injEq, Prod.mk.injEq] at H
                        obtain ⟨rfl, rfl⟩ := H
                        go_wp2
                        go_ret2
                        exact ⟨_, by first | rfl | (simp [errW_none, errW_some] <;> rfl) | (simp [*, errW_none, errW_some] <;> rfl), by first | exact Kd.R_nil _ _ _ _ _ | exact Kd.N_nil _ _ _ _ _ | exact Kd.V_nil _ _ _ _ _ | exact Kd.Q_nil _ _ _ _ _ | exact Kd.S_nil _ _ _ _ _, by repeat (first | (with_reducible first | exact HB.out | apply below_alloc | apply pw_below_drewN | apply below_drew1) | exact HB.out)⟩
                      · rw [if_neg c29] at H
                        have c29b0 : decide (x6_2 < 0) = false := decide_eq_false c29
                        clear c29
                        by_cases c30 : 0 ≤ x6_2
                        · rw [if_pos c30] at H
                          have c30b0 : decide (0 ≤ x6_2) = true := decide_eq_true c30
                          clear c30
                          by_cases c31 : x6_2 < (x5_1.length : Int)
                          · rw [if_pos c31] at H
                            have c31b0 : decide (x6_2 < (x5_1.length : Int)) = true := decide_eq_true c31
                            clear c31
                            obtain ⟨y384, hy384⟩ : ∃ y_ : List Bool, y_ = (x5_1.set (x6_2 : Int).toNat true) := ⟨_, rfl⟩
                            replace H : (if x4_1.length < 17592186044416 then (banksmanref14_Order.l0 kj7 l0 (x4_1 ++ [x6_2]) y384) else (none)) = some (r1, r2) := by first | (rw [hy384]; with_reducible exact H) | (have H2_ := (Option.bind_some _ _).symm.trans H; rw [hy384]; with_reducible exact H2_) | (have H2_ := (Option.bind_some _ _).symm.trans H; with_reducible exact H2_) | with_reducible exact H | (rw [hy384]; exact H) | exact H
                            have Ny384 := Aside0.mk hy384
                            clear hy384
                            by_cases c33 : x4_1.length < 17592186044416
                            · rw [if_pos c33] at H
                              have LMc33 := Aside0.mk c33
                              clear c33
                              obtain ⟨y385, hy385⟩ : ∃ y_ : List Int, y_ = (x4_1 ++ [x6_2]) := ⟨_, rfl⟩
                              replace H : (banksmanref14_Order.l0 kj7 l0 y385 y384) = some (r1, r2) := by first | (rw [hy385]; with_reducible exact H) | (have H2_ := (Option.bind_some _ _).symm.trans H; rw [hy385]; with_reducible exact H2_) | (have H2_ := (Option.bind_some _ _).symm.trans H; with_reducible exact H2_) | with_reducible exact H | (rw [hy385]; exact H) | exact H
                              have Ny385 := Aside0.mk hy385
                              clear hy385
                              have H' := Aside0.mk H
                              clear H
                              have p32 : 0 ≤ (x6_2 : Int) := of_decide_eq_true (by first | (with_reducible assumption) | assumption)
                              have q32 : (x6_2 : Int) < ((x5_1.length : Int) : Int) := of_decide_eq_true (by first | (with_reducible assumption) | assumption)
                              obtain ⟨go32, co32, eo32, gb32, gl32, cl32, HG32⟩ := Kd.R_form HO_5.out (by omega)
                              (first | cases eo32 | (injection eo32 with ea_ en_ ec_; (first | subst ea_ | (injection ea_ with ea_; subst ea_)); subst ec_; clear en_))
                              have GB32 := Aside0.mk gb32
                              have GG32 := Aside0.mk HG32
                              clear gb32 gl32 HG32
                              obtain ⟨hx32_0, hf32_0⟩ := Kd.R_celln false HO_5.out (x6_2 : Int) p32 q32
                              replace p32 := eq_true p32
                              replace q32 := eq_true q32
                              have HP34 := Kd.R_putg HO_5.out (x6_2 : Int) true
                              go_wp2_with (first | ((with_reducible refine gate_store (t := 4) (p := 70) rfl ?_); refine store_event (t := 4) (p := 70) (v := ?vo_w35) (w1 := (wc.setCell ⟨go32, (x6_2 : Int).toNat, none⟩ (.bool true))) ?hg ?ho ?hn ?hr ?_; (case ho => rfl); (case hg => rfl); (case hn => rfl); (case hr => first | (go_simp; done) | (go_simp; rfl)); intro w35 hw; have hg : wc.grownBy w35 (some go32) := (by rw [hw]; exact HP34.2); have hp_ : Kd.R Kd.bool 4 w35 w.heap.size (fun _ => True) (.slice (some ⟨go32, 0, none⟩) x5_1.length co32) y384 := (by rw [hw, Ny384.out]; exact HP34.1); clear HP34; have n0_ := Aside0.mk (Kd.R_over' (v := (.slice (some ⟨go32, 0, none⟩) x5_1.length co32)) (by (with_reducible repeat (first | apply Kd.R_alloc | apply Kd.R_drewN | apply Kd.R_drew)); exact HO_4.out) (Kd.R_typed HO_5.out) (by decide) hg); have n1_ := Aside0.mk (hp_); have n2_ := Aside0.mk ((by rw [hw]; exact below_set (HB.out) GB32.out : Below w.heap.size w w35)); clear HO_4; clear HO_5; clear HB; have HO_4 := n0_; have HO_5 := n1_; have HB := n2_; clear n0_ n1_ n2_; clear hg hw hp_) | ((with_reducible refine gate_builtin (b := .append) (xs := #[.tmp 71, .tmp 73]) rfl ?_); at_builtin; refine Kd.R_append (Kd.int .i64) (w0 := w) w.heap.size rfl (.tmp 71) (.tmp 73) 31 3 (.int .i64 0) 8 rfl Try.underlying31 info3 rfl (by decide) (by omega) (.slice Ao7 x4_1.length co7) x4_1 x6_2 [.int .i64 x6_2] (fun _ => True) (fun _ => False) rfl rfl ?aP (fun _ hk => hk.elim) ?aF ?aO ?aB ?aS ?aL ?_; (case aP => exact rfl); (case aB => exact (by repeat (first | (with_reducible first | exact HB.out | apply below_alloc | apply pw_below_drewN | apply below_drew1) | exact HB.out))); (case aF => exact (fun _ _ => trivial)); (case aO => exact (by (with_reducible repeat (first | apply Kd.R_alloc | apply Kd.R_drewN | apply Kd.R_drew)); exact HO_4.out)); (case aS => exact (below_size (by repeat (first | (with_reducible first | exact HB.out | apply below_alloc | apply pw_below_drewN | apply below_drew1) | exact HB.out)))); (case aL => have := LMc33.out; omega); intro v386 w36 ho hb hg hat; rw [← Ny385.out] at ho; have n0_ := Aside0.mk (Kd.R_over' (by (with_reducible repeat (first | apply Kd.R_alloc | apply Kd.R_drewN | apply Kd.R_drew)); exact HO_5.out) (Kd.R_typed (by (with_reducible repeat (first | apply Kd.R_alloc | apply Kd.R_drewN | apply Kd.R_drew)); exact HO_4.out)) (by decide) hg); have n1_ := Aside0.mk (hb); have n2_ := Aside0.mk (ho); clear HO_5; clear HB; clear HO_4; have HO_5 := n0_; have HB := n1_; have HO387 := n2_; clear n0_ n1_ n2_; clear ho hb hg hat))
                              go_roundg kj7
                              case measure => have := HK1.out; have := HK2.out; have := HJ7.out; omega
                              case rel => exact ⟨(y385), (y384), H', ⟨by have := HK1.out; have := HK2.out; have := HJ7.out; omega⟩, ⟨by (with_reducible repeat (first | apply Kd.R_alloc | apply Kd.R_drewN | apply Kd.R_drew)); exact HO387.out⟩, ⟨by (with_reducible repeat (first | apply Kd.R_alloc | apply Kd.R_drewN | apply Kd.R_drew)); exact HO_5.out⟩, ⟨by repeat (first | (with_reducible first | exact HB.out | apply below_alloc | apply pw_below_drewN | apply below_drew1) | exact HB.out)⟩⟩
                            · rw [if_neg c33] at H
                              exact absurd H (by simp)
                          · rw [if_neg c31] at H
                            exact absurd H (by simp)
                        · rw [if_neg c30] at H
                          exact absurd H (by simp)
          · rw [if_neg c6] at H
            have c6b0 : decide ((x4_1.length : Int) < (l0.length : Int)) = false := decide_eq_false c6
            have c6b1 : decide (x4_1.length < l0.length) = false := decide_eq_false (fun h => c6 (Int.ofNat_lt.mpr h))
            clear c6
            simp only [Option.some.injEq, Prod.mk.injEq] at H
            obtain ⟨rfl, rfl⟩ := H
            obtain ⟨Ao37, co37, eo37⟩ := Kd.R_slice HO_4.out
            subst eo37
            go_wp2
            go_ret2
            exact ⟨_, by first | rfl | (simp [errW_none, errW_some] <;> rfl) | (simp [*, errW_none, errW_some] <;> rfl), by (with_reducible repeat (first | apply Kd.R_alloc | apply Kd.R_drewN | apply Kd.R_drew)); exact HO_4.out, by repeat (first | (with_reducible first | exact HB.out | apply below_alloc | apply pw_below_drewN | apply below_drew1) | exact HB.out)⟩
    · rw [if_neg c3] at H
      exact absurd H (by simp)
  · rw [if_neg c2] at H
    exact absurd H (by simp)

end Go.Proofs.Ytpoaleejhdeclaa.P
