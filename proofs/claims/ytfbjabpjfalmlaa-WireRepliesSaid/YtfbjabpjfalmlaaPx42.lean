import Derived.Test.YtfbjabpjfalmlaaPx0
import Derived.Test.YtfbjabpjfalmlaaPx38
namespace Go.Proofs.Ytfbjabpjfalmlaa.P
open Go.RowKit Go.Proofs.YtfbjabpjfalmlaaW.PrintWords Go.Proofs.YtfbjabpjfalmlaaW.PrintLast Go.Proofs.YtfbjabpjfalmlaaW.PrintMore
attribute [local go_sem] max2_int min2_int max_two min_two max_three min_three max_four min_four
set_option linter.unusedVariables false
set_option linter.unusedSimpArgs false
mutual
def banksmanref01_Take.l0 : Nat → List Int → Int → Int → Int → Option (Int × List Int × Int)
  | 0, _, _, _, _ => none
  | k + 1, x0, x5, x6, x7 => if x7 < (x0.length : Int) then (banksmanref01_Take.j1 k x0 x5 x6 x7 (decide (x7 < 5))) else (banksmanref01_Take.j1 k x0 x5 x6 x7 false)
def banksmanref01_Take.j1 : Nat → List Int → Int → Int → Int → Bool → Option (Int × List Int × Int)
  | 0, _, _, _, _, _ => none
  | k + 1, x0, x5, x6, x7, x17 => if x17 = true then (if 0 ≤ x7 then (if x7 < (x0.length : Int) then (if (rd x0 x7) < 128 then ((banksmanref01_Number.f k ([] : List Int) (wrap64 (x5 + (wrap64 ((Int.tmod (wrap64 (rd x0 x7)) 128) * x6))))).bind fun bt290 => (if bt290.2 = 0 then (if 0 ≤ (wrap64 (x7 + 1)) then (if (wrap64 (x7 + 1)) ≤ (x0.length : Int) then (if (strOfNums bt290.1).toList = (strOfNums (x0.take ((wrap64 (x7 + 1)) : Int).toNat)).toList then ((some (([] : List Int) : List Int)).bind fun y295 => (if y295.length + (x0.drop ((wrap64 (x7 + 1)) : Int).toNat).length < 140737488355328 then (some (wrap64 (x5 + (wrap64 ((Int.tmod (wrap64 (rd x0 x7)) 128) * x6))), (y295 ++ (x0.drop ((wrap64 (x7 + 1)) : Int).toNat)), 0)) else (none))) else (some (0, ([] : List Int), 10))) else (none)) else (none)) else (some (0, ([] : List Int), 10)))) else (banksmanref01_Take.l0 k x0 (wrap64 (x5 + (wrap64 ((Int.tmod (wrap64 (rd x0 x7)) 128) * x6)))) (wrap64 (x6 * 128)) (wrap64 (x7 + 1)))) else (none)) else (none)) else (some (0, ([] : List Int), 10))
end
def banksmanref01_Take.f (k : Nat) (l0 : List Int) : Option (Int × List Int × Int) := banksmanref01_Take.l0 k l0 0 1 0
theorem banksmanref01_Take.mono_l : ∀ k, (∀ y0 y1 y2 y3, LeO (banksmanref01_Take.l0 k y0 y1 y2 y3) (banksmanref01_Take.l0 (k + 1) y0 y1 y2 y3)) ∧ (∀ y0 y1 y2 y3 y4, LeO (banksmanref01_Take.j1 k y0 y1 y2 y3 y4) (banksmanref01_Take.j1 (k + 1) y0 y1 y2 y3 y4))
  | 0 => ⟨fun _ _ _ _ r h => by simp [banksmanref01_Take.l0] at h, fun _ _ _ _ _ r h => by simp [banksmanref01_Take.j1] at h⟩
  | k + 1 => by
    obtain ⟨ih0, ih1⟩ := banksmanref01_Take.mono_l k
    refine ⟨?_, ?_⟩
    · intro y0 y1 y2 y3
      unfold banksmanref01_Take.l0
      repeat' first
      | (with_reducible exact ih0 _ _ _ _)
      | (with_reducible exact ih1 _ _ _ _ _)
      | (with_reducible exact banksmanref01_Number.mono _ _ _)
      | (with_reducible exact LeO.refl _)
      | (with_reducible exact LeO.none _)
      | (with_reducible refine LeO.ite ?_ ?_)
      | (with_reducible refine LeO.bind ?_ (fun _ => ?_))
      | exact ih0 _ _ _ _
      | exact ih1 _ _ _ _ _
      | exact banksmanref01_Number.mono _ _ _
      | exact LeO.none _
      | refine LeO.ite ?_ ?_
      | refine LeO.bind ?_ (fun _ => ?_)
    · intro y0 y1 y2 y3 y4
      unfold banksmanref01_Take.j1
      repeat' first
      | (with_reducible exact ih0 _ _ _ _)
      | (with_reducible exact ih1 _ _ _ _ _)
      | (with_reducible exact banksmanref01_Number.mono _ _ _)
      | (with_reducible exact LeO.refl _)
      | (with_reducible exact LeO.none _)
      | (with_reducible refine LeO.ite ?_ ?_)
      | (with_reducible refine LeO.bind ?_ (fun _ => ?_))
      | exact ih0 _ _ _ _
      | exact ih1 _ _ _ _ _
      | exact banksmanref01_Number.mono _ _ _
      | exact LeO.none _
      | refine LeO.ite ?_ ?_
      | refine LeO.bind ?_ (fun _ => ?_)
theorem banksmanref01_Take.mono : ∀ a0 k, LeO (banksmanref01_Take.f k a0) (banksmanref01_Take.f (k + 1) a0) := by
  intro a0 k
  obtain ⟨ih0, ih1⟩ := banksmanref01_Take.mono_l k
  unfold banksmanref01_Take.f
  repeat' first
      | (with_reducible exact ih0 _ _ _ _)
      | (with_reducible exact ih1 _ _ _ _ _)
      | (with_reducible exact banksmanref01_Number.mono _ _ _)
      | (with_reducible exact LeO.refl _)
      | (with_reducible exact LeO.none _)
      | (with_reducible refine LeO.ite ?_ ?_)
      | (with_reducible refine LeO.bind ?_ (fun _ => ?_))
      | exact ih0 _ _ _ _
      | exact ih1 _ _ _ _ _
      | exact banksmanref01_Number.mono _ _ _
      | exact LeO.none _
      | refine LeO.ite ?_ ?_
      | refine LeO.bind ?_ (fun _ => ?_)
set_option maxHeartbeats 8000000 in
set_option maxRecDepth 100000 in
theorem banksmanref01_Take.callsR (k : Nat) (A0 : Option Addr) (c0 : Nat) (l0 : List Int) (r1 : Int) (r2 : List Int) (r3 : Int) (w : World) (hr0 : Kd.C (Kd.int .u8) w A0 l0.length l0) (hc0 : l0.length ≤ c0) (h : banksmanref01_Take.f k l0 = some (r1, r2, r3)) :
    Calls Try.prog 30 #[.slice A0 l0.length c0] w fun e w' => ∃ v1_ : Value, e = .returned (.tuple #[.int .i64 r1, v1_, .int .i64 r3]) ∧ Kd.R (Kd.int .u8) 5 w' w.heap.size (fun _ => True) v1_ r2 ∧ Below w.heap.size w w' := by
  have HR0 := Aside0.mk hr0
  have HC0 := Aside0.mk hc0
  clear hr0 hc0
  have HB := Aside0.mk (Below.refl w.heap.size w)
  have H : (banksmanref01_Take.l0 k l0 0 1 0) = some (r1, r2, r3) := h
  clear h
  have H' := Aside0.mk H
  clear H
  go_enter Try.func30, Try.ntmps30
  go_wp2
  repeat (go_quiet (fail); try go_wp2)
  go_loopg [5, 6, 7] k (fun kq v5 v6 v7 w' => ∃ (x5_1 : Int) (x6_1 : Int) (x7_1 : Int), v5 = .int .i64 x5_1 ∧ v6 = .int .i64 x6_1 ∧ v7 = .int .i64 x7_1 ∧ Aside0 (banksmanref01_Take.l0 kq l0 x5_1 x6_1 x7_1 = some (r1, r2, r3)) ∧ Aside0 (kq ≤ k) ∧ Aside0 (Below w.heap.size w w'))
  case atStart => exact ⟨(0), (1), (0), (by first | rfl | (simp; done) | (simp [*]; done)), (by first | rfl | (simp; done) | (simp [*]; done)), (by first | rfl | (simp; done) | (simp [*]; done)), H', ⟨Nat.le_refl _⟩, ⟨by repeat (first | (with_reducible first | exact HB.out | apply below_alloc | apply pw_below_drewN | apply below_drew1) | exact HB.out)⟩⟩
  case round =>
    clear H'
    obtain ⟨x5_1, x6_1, x7_1, rfl, rfl, rfl, HA, HK1, HB⟩ := hrel
    cases gk with
    | zero => exact absurd HA.out (by simp [banksmanref01_Take.l0])
    | succ k1 =>
      have H := HA.out
      clear HA
      simp only [banksmanref01_Take.l0] at H
      have HC2 := Aside0.mk H
      clear H
      go_upto_region 4 with (fail)
      repeat (go_quiet (fail); go_upto_region 4 with (fail))
      go_cut [17] (fun v17 wc => ∃ (kq : Nat) (x17_1 : Bool), v17 = .bool x17_1 ∧ Aside0 (banksmanref01_Take.j1 kq l0 x5_1 x6_1 x7_1 x17_1 = some (r1, r2, r3)) ∧ Aside0 (kq ≤ k1) ∧ Aside0 (Below w.heap.size w wc))
      case first =>
        have H := HC2.out
        clear HC2
        by_cases c3 : x7_1 < (l0.length : Int)
        · rw [if_pos c3] at H
          have c3b0 : decide (x7_1 < (l0.length : Int)) = true := decide_eq_true c3
          clear c3
          (first | rw [c3b0] | (simp only [i64_w, i32_w]; rw [c3b0]) | skip)
          have H' := Aside0.mk H
          clear H
          go_wp2
          repeat (go_quiet (fail); try go_wp2)
          go_meet
          case rel => exact ⟨_, (decide (x7_1 < 5)), (by first | rfl | (simp; done) | (simp [*]; done)), H', ⟨by have := HK1.out; first | omega | exact Nat.le_refl _⟩, ⟨by repeat (first | (with_reducible first | exact HB.out | apply below_alloc | apply pw_below_drewN | apply below_drew1) | exact HB.out)⟩⟩
        · rw [if_neg c3] at H
          have c3b0 : decide (x7_1 < (l0.length : Int)) = false := decide_eq_false c3
          clear c3
          (first | rw [c3b0] | (simp only [i64_w, i32_w]; rw [c3b0]) | skip)
          have H' := Aside0.mk H
          clear H
          go_wp2
          repeat (go_quiet (fail); try go_wp2)
          go_meet
          case rel => exact ⟨_, (false), (by first | rfl | (simp; done) | (simp [*]; done)), H', ⟨by have := HK1.out; first | omega | exact Nat.le_refl _⟩, ⟨by repeat (first | (with_reducible first | exact HB.out | apply below_alloc | apply pw_below_drewN | apply below_drew1) | exact HB.out)⟩⟩
      case rest =>
        clear HC2
        try clear p2
        try clear c3
        try clear c3b0
        obtain ⟨kq, x17_1, rfl, HA, HJ1, HB⟩ := hcut
        cases kq with
        | zero => exact absurd HA.out (by simp [banksmanref01_Take.j1])
        | succ kj1 =>
          have H := HA.out
          clear HA
          simp only [banksmanref01_Take.j1] at H
          by_cases c4 : x17_1 = true
          · subst c4
            have H1 : (if 0 ≤ x7_1 then (if x7_1 < (l0.length : Int) then (if (rd l0 x7_1) < 128 then ((banksmanref01_Number.f kj1 ([] : List Int) (wrap64 (x5_1 + (wrap64 ((Int.tmod (wrap64 (rd l0 x7_1)) 128) * x6_1))))).bind fun bt290 => (if bt290.2 = 0 then (if 0 ≤ (wrap64 (x7_1 + 1)) then (if (wrap64 (x7_1 + 1)) ≤ (l0.length : Int) then (if (strOfNums bt290.1).toList = (strOfNums (l0.take ((wrap64 (x7_1 + 1)) : Int).toNat)).toList then ((some (([] : List Int) : List Int)).bind fun y295 => (if y295.length + (l0.drop ((wrap64 (x7_1 + 1)) : Int).toNat).length < 140737488355328 then (some (wrap64 (x5_1 + (wrap64 ((Int.tmod (wrap64 (rd l0 x7_1)) 128) * x6_1))), (y295 ++ (l0.drop ((wrap64 (x7_1 + 1)) : Int).toNat)), 0)) else (none))) else (some (0, ([] : List Int), 10))) else (none)) else (none)) else (some (0, ([] : List Int), 10)))) else (banksmanref01_Take.l0 kj1 l0 (wrap64 (x5_1 + (wrap64 ((Int.tmod (wrap64 (rd l0 x7_1)) 128) * x6_1)))) (wrap64 (x6_1 * 128)) (wrap64 (x7_1 + 1)))) else (none)) else (none)) = some (r1, r2, r3) := by rw [if_pos rfl] at H; exact H
            clear H
            have H := H1
            clear H1
            by_cases c5 : 0 ≤ x7_1
            · rw [if_pos c5] at H
              have c5b0 : decide (0 ≤ x7_1) = true := decide_eq_true c5
              clear c5
              by_cases c6 : x7_1 < (l0.length : Int)
              · rw [if_pos c6] at H
                have c6b0 : decide (x7_1 < (l0.length : Int)) = true := decide_eq_true c6
                clear c6
                by_cases c7 : (rd l0 x7_1) < 128
                · rw [if_pos c7] at H
                  have c7b0 : decide ((rd l0 x7_1) < 128) = true := decide_eq_true c7
                  clear c7
                  replace H := Option.bind_eq_some_iff.mp H
                  obtain ⟨⟨t290, t291⟩, A80, H⟩ := H
                  replace H : (if t291 = 0 then (if 0 ≤ (wrap64 (x7_1 + 1)) then (if (wrap64 (x7_1 + 1)) ≤ (l0.length : Int) then (if (strOfNums t290).toList = (strOfNums (l0.take ((wrap64 (x7_1 + 1)) : Int).toNat)).toList then ((some (([] : List Int) : List Int)).bind fun y295 => (if y295.length + (l0.drop ((wrap64 (x7_1 + 1)) : Int).toNat).length < 140737488355328 then (some (wrap64 (x5_1 + (wrap64 ((Int.tmod (wrap64 (rd l0 x7_1)) 128) * x6_1))), (y295 ++ (l0.drop ((wrap64 (x7_1 + 1)) : Int).toNat)), 0)) else (none))) else (some (0, ([] : List Int), 10))) else (none)) else (none)) else (some (0, ([] : List Int), 10))) = some (r1, r2, r3) := H
                  have A8 := Aside0.mk A80
                  clear A80
                  by_cases c9 : t291 = 0
                  · rw [if_pos c9] at H
                    have c9b0 : (t291 == 0) = true := beq_iff_eq.mpr c9
                    have c9b1 : (t291 != 0) = false := bne_eq_false_iff_eq.mpr c9
                    clear c9
                    obtain ⟨ji10, hji10⟩ : ∃ j_ : Int, (wrap64 (x7_1 + 1)) = j_ := ⟨_, rfl⟩
                    replace H : (if 0 ≤ (ji10) then (if (ji10) ≤ (l0.length : Int) then (if (strOfNums t290).toList = (strOfNums (l0.take ((ji10) : Int).toNat)).toList then ((some (([] : List Int) : List Int)).bind fun y295 => (if y295.length + (l0.drop ((ji10) : Int).toNat).length < 140737488355328 then (some (wrap64 (x5_1 + (wrap64 ((Int.tmod (wrap64 (rd l0 x7_1)) 128) * x6_1))), (y295 ++ (l0.drop ((ji10) : Int).toNat)), 0)) else (none))) else (some (0, ([] : List Int), 10))) else (none)) else (none)) = some (r1, r2, r3) := by first | (rw [hji10] at H; exact H) | (simp only [hji10] at H ⊢; exact H)
                    (try rw [hji10] at A8)
                    have hji10w : (IntKind.i64.wrap (x7_1 + 1)) = ji10 := (i64_w _).trans hji10
                    by_cases c11 : 0 ≤ (ji10)
                    · rw [if_pos c11] at H
                      have c11b0 := eq_true c11
                      have c11b1 : decide (0 ≤ (ji10)) = true := decide_eq_true c11
                      clear c11
                      by_cases c12 : (ji10) ≤ (l0.length : Int)
                      · rw [if_pos c12] at H
                        have c12b0 := eq_true c12
                        have c12b1 : decide ((ji10) ≤ (l0.length : Int)) = true := decide_eq_true c12
                        clear c12
                        by_cases c13 : (strOfNums t290).toList = (strOfNums (l0.take ((ji10) : Int).toNat)).toList
                        · rw [if_pos c13] at H
                          have c13b0 : ((strOfNums t290).toList == (strOfNums (l0.take ((ji10) : Int).toNat)).toList) = true := beq_iff_eq.mpr c13
                          have c13b1 : ((strOfNums t290).toList != (strOfNums (l0.take ((ji10) : Int).toNat)).toList) = false := bne_eq_false_iff_eq.mpr c13
                          clear c13
                          obtain ⟨y295, hy295⟩ : ∃ y_ : List Int, y_ = (([] : List Int)) := ⟨_, rfl⟩
                          replace H : (if y295.length + (l0.drop ((ji10) : Int).toNat).length < 140737488355328 then (some (wrap64 (x5_1 + (wrap64 ((Int.tmod (wrap64 (rd l0 x7_1)) 128) * x6_1))), (y295 ++ (l0.drop ((ji10) : Int).toNat)), 0)) else (none)) = some (r1, r2, r3) := by first | (rw [hy295]; with_reducible exact H) | (have H2_ := (Option.bind_some _ _).symm.trans H; rw [hy295]; with_reducible exact H2_) | (have H2_ := (Option.bind_some _ _).symm.trans H; with_reducible exact H2_) | with_reducible exact H | (rw [hy295]; exact H) | exact H
                          have Ny295 := Aside0.mk hy295
                          clear hy295
                          have c14b0 := eq_true (of_decide_eq_true (by first | (with_reducible assumption) | assumption) : 0 ≤ (ji10))
                          have c15b0 := eq_true (of_decide_eq_true (by first | (with_reducible assumption) | assumption) : (ji10) ≤ (l0.length : Int))
                          by_cases c16 : y295.length + (l0.drop ((ji10) : Int).toNat).length < 140737488355328
                          · rw [if_pos c16] at H
                            have LMc16 := Aside0.mk c16
                            clear c16
                            obtain ⟨y299, hy299⟩ : ∃ y_ : List Int, y_ = (y295 ++ (l0.drop ((ji10) : Int).toNat)) := ⟨_, rfl⟩
                            replace H : (some (wrap64 (x5_1 + (wrap64 ((Int.tmod (wrap64 (rd l0 x7_1)) 128) * x6_1))), y299, 0)) = some (r1, r2, r3) := by first | (rw [hy299]; with_reducible exact H) | (have H2_ := (Option.bind_some _ _).symm.trans H; rw [hy299]; with_reducible exact H2_) | (have H2_ := (Option.bind_some _ _).symm.trans H; with_reducible exact H2_) | with_reducible exact H | (rw [hy299]; exact H) | exact H
                            have Ny299 := Aside0.mk hy299
                            clear hy299
                            simp only [Option.some.injEq, Prod.mk.injEq] at H
                            obtain ⟨rfl, rfl, rfl⟩ := H
                            have p288 : 0 ≤ (x7_1 : Int) := of_decide_eq_true (by first | (with_reducible assumption) | assumption)
                            have q288 : x7_1 < (l0.length : Int) := of_decide_eq_true (by first | (with_reducible assumption) | assumption)
                            obtain ⟨ad288, e288, hx288_0⟩ := Kd.at_int HR0.out x7_1 p288 q288
                            cases e288
                            replace hx288_0 := (HB.out.cell (World.block_lt_of_cell? w _ hx288_0)).trans hx288_0
                            replace p288 := eq_true p288
                            replace q288 := eq_true q288
                            have p289 : 0 ≤ (x7_1 : Int) := of_decide_eq_true (by first | (with_reducible assumption) | assumption)
                            have q289 : x7_1 < (l0.length : Int) := of_decide_eq_true (by first | (with_reducible assumption) | assumption)
                            obtain ⟨ad289, e289, hx289_0⟩ := Kd.at_int HR0.out x7_1 p289 q289
                            obtain rfl : ad288 = ad289 := (by injection e289)
                            replace hx289_0 := (HB.out.cell (World.block_lt_of_cell? w _ hx289_0)).trans hx289_0
                            replace p289 := eq_true p289
                            replace q289 := eq_true q289
                            go_wp2_with (first | (go_at_call 24; (refine (banksmanref01_Number.calls kj1 _ _ ([] : List Int) (wrap64 (x5_1 + (wrap64 ((Int.tmod (wrap64 (rd l0 x7_1)) 128) * x6_1)))) t290 t291 _ ?side1 ?side2 A8.out).mono ?_); (case side1 => exact Kd.C_nil _ _); (case side2 => exact Nat.le_refl _); rintro e w17 ⟨v292, rfl, ho0, hb⟩; have n0_ := Aside0.mk (Kd.R_lower ho0 (below_size (by repeat (first | (with_reducible first | exact HB.out | apply below_alloc | apply pw_below_drewN | apply below_drew1) | exact HB.out)))); have n1_ := Aside0.mk (below_step (by repeat (first | (with_reducible first | exact HB.out | apply below_alloc | apply pw_below_drewN | apply below_drew1) | exact HB.out)) hb); clear HB; have HO293 := n0_; have HB := n1_; clear n0_ n1_; (try clear hb); (try clear hb2); (try clear hk); (try clear hi); (try clear ho0); have hcv18 := own_string (P := Try.prog) Try.underlying22 Try.underlying5 Try.underlying9 (Kd.own_of_R HO293.out); have hcv18q := fun n_ => own_string (P := Try.prog) Try.underlying22 Try.underlying5 Try.underlying9 (Kd.own_of_R (Kd.R_drewN HO293.out n_)); obtain ⟨i019, hi019, _, hsz19, _⟩ := info_parts info5; obtain ⟨hcut19, hA19, hC19⟩ := print_take_of (P := Try.prog) (Value.int .u8) 0 22 5 .i64 Try.underlying22 hi019 hsz19 (some ad288) c0 l0 (ji10) (of_decide_eq_true (by first | (with_reducible assumption) | assumption)) (of_decide_eq_true (by first | (with_reducible assumption) | assumption)) HC0.out; have HR294 := Aside0.mk (Kd.C_of_reads (h1 := fun _ => rfl) (hA19 _ (Kd.reads_of_C HR0.out))); have HC294 := Aside0.mk hC19; clear hA19 hC19 hi019 hsz19; have hcv20 := Kd.C_string (P := Try.prog) (A := (some ad288)) (c := c0) Try.underlying22 Try.underlying5 Try.underlying9 (Kd.C_below HR294.out HB.out); have hcv20q := fun n_ => Kd.C_string (P := Try.prog) (A := (some ad288)) (c := c0) Try.underlying22 Try.underlying5 Try.underlying9 (Kd.C_drewN (Kd.C_below HR294.out HB.out) n_); have hcv20r := hcv20q; (try rw [List.length_take, Nat.min_eq_left (by have h1_ := (show 0 ≤ ((ji10) : Int) from of_decide_eq_true (by first | (with_reducible assumption) | assumption)); have h2_ := (show ((ji10) : Int) ≤ (l0.length : Int) from of_decide_eq_true (by first | (with_reducible assumption) | assumption)); omega)] at hcv20r)) | ((with_reducible refine gate_dst (N := 55) rfl ?_); refine Kd.R_lit (Kd.int .u8) _ 5 ?hg (N := 55) ?hd (xs := ([] : List Int)) (inner := []) (ok := fun _ => True) (okp := fun _ => True) ?hr ?hp (fun _ hk => hk) trivial (Below.refl _ _) (Nat.le_refl _) (by simp) ?_; (case hd => rfl); (case hg => rfl); (case hr => first | (go_simp; done) | (go_simp; rfl)); (case hp => exact (Reps.none _ _)); intro v296 w21 ho22 hb hg_ hnew_; clear hg_ hnew_; (first | rw [← Ny295.out] at ho22 | (simp only [Int.reduceToNat] at ho22; rw [← Ny295.out] at ho22)); have n0_ := Aside0.mk (Kd.R_elder' (by (with_reducible repeat (first | apply Kd.R_alloc | apply Kd.R_drewN | apply Kd.R_drew)); exact HO293.out) (Kd.R_base ho22) hb); have n1_ := Aside0.mk (Kd.R_lower (Kd.R_new' ho22 (Kd.R_lt (by (with_reducible repeat (first | apply Kd.R_alloc | apply Kd.R_drewN | apply Kd.R_drew)); exact HO293.out))) (below_size (by repeat (first | (with_reducible first | exact HB.out | apply below_alloc | apply pw_below_drewN | apply below_drew1) | exact HB.out)))); have n2_ := Aside0.mk (below_step (by repeat (first | (with_reducible first | exact HB.out | apply below_alloc | apply pw_below_drewN | apply below_drew1) | exact HB.out)) hb); clear HO293; clear HB; have HO293 := n0_; have HO297 := n1_; have HB := n2_; clear n0_ n1_ n2_; clear hb ho22; obtain ⟨i023, hi023, _, hsz23, _⟩ := info_parts info5; obtain ⟨A23, hcut23, hA23, hC23⟩ := print_drop_of (P := Try.prog) (Value.int .u8) 0 22 5 .i64 Try.underlying22 hi023 hsz23 (some ad288) c0 l0 (ji10) (of_decide_eq_true (by first | (with_reducible assumption) | assumption)) (of_decide_eq_true (by first | (with_reducible assumption) | assumption)) HC0.out; have HR298 := Aside0.mk (Kd.C_of_reads (h1 := fun _ => rfl) (hA23 _ (Kd.reads_of_C HR0.out))); have HC298 := Aside0.mk hC23; clear hA23 hC23 hi023 hsz23) | ((with_reducible refine gate_builtin (b := .append) (xs := #[.tmp 55, .tmp 59]) rfl ?_); at_builtin; refine Kd.R_append_rows (Kd.int .u8) (w0 := w) w.heap.size rfl (.tmp 55) (.tmp 59) 22 5 (.int .u8 0) 1 rfl Try.underlying22 info5 rfl (by decide) (by omega) v296 y295 (l0.drop ((ji10) : Int).toNat) _ _ _ (fun k_ => some k_ ≠ (v292 : Value).ownBlock) (fun _ => False) rfl rfl ?aO ?aR (fun _ _ h => h) (fun _ h => h.elim) ?aF ?aB ?aS ?aL ?_; (case aR => first | (rw [← show (l0.drop ((ji10) : Int).toNat).length = (l0.length - (ji10).toNat) from List.length_drop]; repeat (first | exact (Kd.C_below HR298.out HB.out) | (with_reducible refine Kd.C_alloc ?_ _) | (with_reducible refine Kd.C_drewN ?_ _) | (with_reducible refine Kd.C_drew ?_))) | (repeat (first | exact (Kd.C_below HR298.out HB.out) | (with_reducible refine Kd.C_alloc ?_ _) | (with_reducible refine Kd.C_drewN ?_ _) | (with_reducible refine Kd.C_drew ?_)))); (case aB => exact (by repeat (first | (with_reducible first | exact HB.out | apply below_alloc | apply pw_below_drewN | apply below_drew1) | exact HB.out))); (case aF => exact (fun k_ hk => Kd.fresh' (Kd.R_lt (by (with_reducible repeat (first | apply Kd.R_alloc | apply Kd.R_drewN | apply Kd.R_drew)); exact HO293.out)) k_ hk)); (case aO => exact (by (with_reducible repeat (first | apply Kd.R_alloc | apply Kd.R_drewN | apply Kd.R_drew)); exact Kd.R_mono HO297.out (fun _ hk => hk.2))); (case aS => exact (below_size (by repeat (first | (with_reducible first | exact HB.out | apply below_alloc | apply pw_below_drewN | apply below_drew1) | exact HB.out)))); (case aL => have := LMc16.out; have hlx_ := (show (l0.drop ((ji10) : Int).toNat).length = (l0.length - (ji10).toNat) from List.length_drop); omega); intro v300 w24 ho hb hg hat; rw [← Ny299.out] at ho; have n0_ := Aside0.mk (Kd.R_after (ok := (fun _ => True)) (by (with_reducible repeat (first | apply Kd.R_alloc | apply Kd.R_drewN | apply Kd.R_drew)); exact HO293.out) hg hat); have n1_ := Aside0.mk (hb); have n2_ := Aside0.mk (ho); clear HO293; clear HB; clear HO297; have HO293 := n0_; have HB := n1_; have HO301 := n2_; clear n0_ n1_ n2_; clear ho hb hg hat))
                            repeat (go_quiet (first | (go_at_call 24; (refine (banksmanref01_Number.calls kj1 _ _ ([] : List Int) (wrap64 (x5_1 + (wrap64 ((Int.tmod (wrap64 (rd l0 x7_1)) 128) * x6_1)))) t290 t291 _ ?side1 ?side2 A8.out).mono ?_); (case side1 => exact Kd.C_nil _ _); (case side2 => exact Nat.le_refl _); rintro e w17 ⟨v292, rfl, ho0, hb⟩; have n0_ := Aside0.mk (Kd.R_lower ho0 (below_size (by repeat (first | (with_reducible first | exact HB.out | apply below_alloc | apply pw_below_drewN | apply below_drew1) | exact HB.out)))); have n1_ := Aside0.mk (below_step (by repeat (first | (with_reducible first | exact HB.out | apply below_alloc | apply pw_below_drewN | apply below_drew1) | exact HB.out)) hb); clear HB; have HO293 := n0_; have HB := n1_; clear n0_ n1_; (try clear hb); (try clear hb2); (try clear hk); (try clear hi); (try clear ho0); have hcv18 := own_string (P := Try.prog) Try.underlying22 Try.underlying5 Try.underlying9 (Kd.own_of_R HO293.out); have hcv18q := fun n_ => own_string (P := Try.prog) Try.underlying22 Try.underlying5 Try.underlying9 (Kd.own_of_R (Kd.R_drewN HO293.out n_)); obtain ⟨i019, hi019, _, hsz19, _⟩ := info_parts info5; obtain ⟨hcut19, hA19, hC19⟩ := print_take_of (P := Try.prog) (Value.int .u8) 0 22 5 .i64 Try.underlying22 hi019 hsz19 (some ad288) c0 l0 (ji10) (of_decide_eq_true (by first | (with_reducible assumption) | assumption)) (of_decide_eq_true (by first | (with_reducible assumption) | assumption)) HC0.out; have HR294 := Aside0.mk (Kd.C_of_reads (h1 := fun _ => rfl) (hA19 _ (Kd.reads_of_C HR0.out))); have HC294 := Aside0.mk hC19; clear hA19 hC19 hi019 hsz19; have hcv20 := Kd.C_string (P := Try.prog) (A := (some ad288)) (c := c0) Try.underlying22 Try.underlying5 Try.underlying9 (Kd.C_below HR294.out HB.out); have hcv20q := fun n_ => Kd.C_string (P := Try.prog) (A := (some ad288)) (c := c0) Try.underlying22 Try.underlying5 Try.underlying9 (Kd.C_drewN (Kd.C_below HR294.out HB.out) n_); have hcv20r := hcv20q; (try rw [List.length_take, Nat.min_eq_left (by have h1_ := (show 0 ≤ ((ji10) : Int) from of_decide_eq_true (by first | (with_reducible assumption) | assumption)); have h2_ := (show ((ji10) : Int) ≤ (l0.length : Int) from of_decide_eq_true (by first | (with_reducible assumption) | assumption)); omega)] at hcv20r)) | ((with_reducible refine gate_dst (N := 55) rfl ?_); refine Kd.R_lit (Kd.int .u8) _ 5 ?hg (N := 55) ?hd (xs := ([] : List Int)) (inner := []) (ok := fun _ => True) (okp := fun _ => True) ?hr ?hp (fun _ hk => hk) trivial (Below.refl _ _) (Nat.le_refl _) (by simp) ?_; (case hd => rfl); (case hg => rfl); (case hr => first | (go_simp; done) | (go_simp; rfl)); (case hp => exact (Reps.none _ _)); intro v296 w21 ho22 hb hg_ hnew_; clear hg_ hnew_; (first | rw [← Ny295.out] at ho22 | (simp only [Int.reduceToNat] at ho22; rw [← Ny295.out] at ho22)); have n0_ := Aside0.mk (Kd.R_elder' (by (with_reducible repeat (first | apply Kd.R_alloc | apply Kd.R_drewN | apply Kd.R_drew)); exact HO293.out) (Kd.R_base ho22) hb); have n1_ := Aside0.mk (Kd.R_lower (Kd.R_new' ho22 (Kd.R_lt (by (with_reducible repeat (first | apply Kd.R_alloc | apply Kd.R_drewN | apply Kd.R_drew)); exact HO293.out))) (below_size (by repeat (first | (with_reducible first | exact HB.out | apply below_alloc | apply pw_below_drewN | apply below_drew1) | exact HB.out)))); have n2_ := Aside0.mk (below_step (by repeat (first | (with_reducible first | exact HB.out | apply below_alloc | apply pw_below_drewN | apply below_drew1) | exact HB.out)) hb); clear HO293; clear HB; have HO293 := n0_; have HO297 := n1_; have HB := n2_; clear n0_ n1_ n2_; clear hb ho22; obtain ⟨i023, hi023, _, hsz23, _⟩ := info_parts info5; obtain ⟨A23, hcut23, hA23, hC23⟩ := print_drop_of (P := Try.prog) (Value.int .u8) 0 22 5 .i64 Try.underlying22 hi023 hsz23 (some ad288) c0 l0 (ji10) (of_decide_eq_true (by first | (with_reducible assumption) | assumption)) (of_decide_eq_true (by first | (with_reducible assumption) | assumption)) HC0.out; have HR298 := Aside0.mk (Kd.C_of_reads (h1 := fun _ => rfl) (hA23 _ (Kd.reads_of_C HR0.out))); have HC298 := Aside0.mk hC23; clear hA23 hC23 hi023 hsz23) | ((with_reducible refine gate_builtin (b := .append) (xs := #[.tmp 55, .tmp 59]) rfl ?_); at_builtin; refine Kd.R_append_rows (Kd.int .u8) (w0 := w) w.heap.size rfl (.tmp 55) (.tmp 59) 22 5 (.int .u8 0) 1 rfl Try.underlying22 info5 rfl (by decide) (by omega) v296 y295 (l0.drop ((ji10) : Int).toNat) _ _ _ (fun k_ => some k_ ≠ (v292 : Value).ownBlock) (fun _ => False) rfl rfl ?aO ?aR (fun _ _ h => h) (fun _ h => h.elim) ?aF ?aB ?aS ?aL ?_; (case aR => first | (rw [← show (l0.drop ((ji10) : Int).toNat).length = (l0.length - (ji10).toNat) from List.length_drop]; repeat (first | exact (Kd.C_below HR298.out HB.out) | (with_reducible refine Kd.C_alloc ?_ _) | (with_reducible refine Kd.C_drewN ?_ _) | (with_reducible refine Kd.C_drew ?_))) | (repeat (first | exact (Kd.C_below HR298.out HB.out) | (with_reducible refine Kd.C_alloc ?_ _) | (with_reducible refine Kd.C_drewN ?_ _) | (with_reducible refine Kd.C_drew ?_)))); (case aB => exact (by repeat (first | (with_reducible first | exact HB.out | apply below_alloc | apply pw_below_drewN | apply below_drew1) | exact HB.out))); (case aF => exact (fun k_ hk => Kd.fresh' (Kd.R_lt (by (with_reducible repeat (first | apply Kd.R_alloc | apply Kd.R_drewN | apply Kd.R_drew)); exact HO293.out)) k_ hk)); (case aO => exact (by (with_reducible repeat (first | apply Kd.R_alloc | apply Kd.R_drewN | apply Kd.R_drew)); exact Kd.R_mono HO297.out (fun _ hk => hk.2))); (case aS => exact (below_size (by repeat (first | (with_reducible first | exact HB.out | apply below_alloc | apply pw_below_drewN | apply below_drew1) | exact HB.out)))); (case aL => have := LMc16.out; have hlx_ := (show (l0.drop ((ji10) : Int).toNat).length = (l0.length - (ji10).toNat) from List.length_drop); omega); intro v300 w24 ho hb hg hat; rw [← Ny299.out] at ho; have n0_ := Aside0.mk (Kd.R_after (ok := (fun _ => True)) (by (with_reducible repeat (first | apply Kd.R_alloc | apply Kd.R_drewN | apply Kd.R_drew)); exact HO293.out) hg hat); have n1_ := Aside0.mk (hb); have n2_ := Aside0.mk (ho); clear HO293; clear HB; clear HO297; have HO293 := n0_; have HB := n1_; have HO301 := n2_; clear n0_ n1_ n2_; clear ho hb hg hat)); try go_wp2_with (first | (go_at_call 24; (refine (banksmanref01_Number.calls kj1 _ _ ([] : List Int) (wrap64 (x5_1 + (wrap64 ((Int.tmod (wrap64 (rd l0 x7_1)) 128) * x6_1)))) t290 t291 _ ?side1 ?side2 A8.out).mono ?_); (case side1 => exact Kd.C_nil _ _); (case side2 => exact Nat.le_refl _); rintro e w17 ⟨v292, rfl, ho0, hb⟩; have n0_ := Aside0.mk (Kd.R_lower ho0 (below_size (by repeat (first | (with_reducible first | exact HB.out | apply below_alloc | apply pw_below_drewN | apply below_drew1) | exact HB.out)))); have n1_ := Aside0.mk (below_step (by repeat (first | (with_reducible first | exact HB.out | apply below_alloc | apply pw_below_drewN | apply below_drew1) | exact HB.out)) hb); clear HB; have HO293 := n0_; have HB := n1_; clear n0_ n1_; (try clear hb); (try clear hb2); (try clear hk); (try clear hi); (try clear ho0); have hcv18 := own_string (P := Try.prog) Try.underlying22 Try.underlying5 Try.underlying9 (Kd.own_of_R HO293.out); have hcv18q := fun n_ => own_string (P := Try.prog) Try.underlying22 Try.underlying5 Try.underlying9 (Kd.own_of_R (Kd.R_drewN HO293.out n_)); obtain ⟨i019, hi019, _, hsz19, _⟩ := info_parts info5; obtain ⟨hcut19, hA19, hC19⟩ := print_take_of (P := Try.prog) (Value.int .u8) 0 22 5 .i64 Try.underlying22 hi019 hsz19 (some ad288) c0 l0 (ji10) (of_decide_eq_true (by first | (with_reducible assumption) | assumption)) (of_decide_eq_true (by first | (with_reducible assumption) | assumption)) HC0.out; have HR294 := Aside0.mk (Kd.C_of_reads (h1 := fun _ => rfl) (hA19 _ (Kd.reads_of_C HR0.out))); have HC294 := Aside0.mk hC19; clear hA19 hC19 hi019 hsz19; have hcv20 := Kd.C_string (P := Try.prog) (A := (some ad288)) (c := c0) Try.underlying22 Try.underlying5 Try.underlying9 (Kd.C_below HR294.out HB.out); have hcv20q := fun n_ => Kd.C_string (P := Try.prog) (A := (some ad288)) (c := c0) Try.underlying22 Try.underlying5 Try.underlying9 (Kd.C_drewN (Kd.C_below HR294.out HB.out) n_); have hcv20r := hcv20q; (try rw [List.length_take, Nat.min_eq_left (by have h1_ := (show 0 ≤ ((ji10) : Int) from of_decide_eq_true (by first | (with_reducible assumption) | assumption)); have h2_ := (show ((ji10) : Int) ≤ (l0.length : Int) from of_decide_eq_true (by first | (with_reducible assumption) | assumption)); omega)] at hcv20r)) | ((with_reducible refine gate_dst (N := 55) rfl ?_); refine Kd.R_lit (Kd.int .u8) _ 5 ?hg (N := 55) ?hd (xs := ([] : List Int)) (inner := []) (ok := fun _ => True) (okp := fun _ => True) ?hr ?hp (fun _ hk => hk) trivial (Below.refl _ _) (Nat.le_refl _) (by simp) ?_; (case hd => rfl); (case hg => rfl); (case hr => first | (go_simp; done) | (go_simp; rfl)); (case hp => exact (Reps.none _ _)); intro v296 w21 ho22 hb hg_ hnew_; clear hg_ hnew_; (first | rw [← Ny295.out] at ho22 | (simp only [Int.reduceToNat] at ho22; rw [← Ny295.out] at ho22)); have n0_ := Aside0.mk (Kd.R_elder' (by (with_reducible repeat (first | apply Kd.R_alloc | apply Kd.R_drewN | apply Kd.R_drew)); exact HO293.out) (Kd.R_base ho22) hb); have n1_ := Aside0.mk (Kd.R_lower (Kd.R_new' ho22 (Kd.R_lt (by (with_reducible repeat (first | apply Kd.R_alloc | apply Kd.R_drewN | apply Kd.R_drew)); exact HO293.out))) (below_size (by repeat (first | (with_reducible first | exact HB.out | apply below_alloc | apply pw_below_drewN | apply below_drew1) | exact HB.out)))); have n2_ := Aside0.mk (below_step (by repeat (first | (with_reducible first | exact HB.out | apply below_alloc | apply pw_below_drewN | apply below_drew1) | exact HB.out)) hb); clear HO293; clear HB; have HO293 := n0_; have HO297 := n1_; have HB := n2_; clear n0_ n1_ n2_; clear hb ho22; obtain ⟨i023, hi023, _, hsz23, _⟩ := info_parts info5; obtain ⟨A23, hcut23, hA23, hC23⟩ := print_drop_of (P := Try.prog) (Value.int .u8) 0 22 5 .i64 Try.underlying22 hi023 hsz23 (some ad288) c0 l0 (ji10) (of_decide_eq_true (by first | (with_reducible assumption) | assumption)) (of_decide_eq_true (by first | (with_reducible assumption) | assumption)) HC0.out; have HR298 := Aside0.mk (Kd.C_of_reads (h1 := fun _ => rfl) (hA23 _ (Kd.reads_of_C HR0.out))); have HC298 := Aside0.mk hC23; clear hA23 hC23 hi023 hsz23) | ((with_reducible refine gate_builtin (b := .append) (xs := #[.tmp 55, .tmp 59]) rfl ?_); at_builtin; refine Kd.R_append_rows (Kd.int .u8) (w0 := w) w.heap.size rfl (.tmp 55) (.tmp 59) 22 5 (.int .u8 0) 1 rfl Try.underlying22 info5 rfl (by decide) (by omega) v296 y295 (l0.drop ((ji10) : Int).toNat) _ _ _ (fun k_ => some k_ ≠ (v292 : Value).ownBlock) (fun _ => False) rfl rfl ?aO ?aR (fun _ _ h => h) (fun _ h => h.elim) ?aF ?aB ?aS ?aL ?_; (case aR => first | (rw [← show (l0.drop ((ji10) : Int).toNat).length = (l0.length - (ji10).toNat) from List.length_drop]; repeat (first | exact (Kd.C_below HR298.out HB.out) | (with_reducible refine Kd.C_alloc ?_ _) | (with_reducible refine Kd.C_drewN ?_ _) | (with_reducible refine Kd.C_drew ?_))) | (repeat (first | exact (Kd.C_below HR298.out HB.out) | (with_reducible refine Kd.C_alloc ?_ _) | (with_reducible refine Kd.C_drewN ?_ _) | (with_reducible refine Kd.C_drew ?_)))); (case aB => exact (by repeat (first | (with_reducible first | exact HB.out | apply below_alloc | apply pw_below_drewN | apply below_drew1) | exact HB.out))); (case aF => exact (fun k_ hk => Kd.fresh' (Kd.R_lt (by (with_reducible repeat (first | apply Kd.R_alloc | apply Kd.R_drewN | apply Kd.R_drew)); exact HO293.out)) k_ hk)); (case aO => exact (by (with_reducible repeat (first | apply Kd.R_alloc | apply Kd.R_drewN | apply Kd.R_drew)); exact Kd.R_mono HO297.out (fun _ hk => hk.2))); (case aS => exact (below_size (by repeat (first | (with_reducible first | exact HB.out | apply below_alloc | apply pw_below_drewN | apply below_drew1) | exact HB.out)))); (case aL => have := LMc16.out; have hlx_ := (show (l0.drop ((ji10) : Int).toNat).length = (l0.length - (ji10).toNat) from List.length_drop); omega); intro v300 w24 ho hb hg hat; rw [← Ny299.out] at ho; have n0_ := Aside0.mk (Kd.R_after (ok := (fun _ => True)) (by (with_reducible repeat (first | apply Kd.R_alloc | apply Kd.R_drewN | apply Kd.R_drew)); exact HO293.out) hg hat); have n1_ := Aside0.mk (hb); have n2_ := Aside0.mk (ho); clear HO293; clear HB; clear HO297; have HO293 := n0_; have HB := n1_; have HO301 := n2_; clear n0_ n1_ n2_; clear ho hb hg hat)))
                            go_ret3
                            exact ⟨_, by first | rfl | (simp [errW_none, errW_some] <;> rfl) | (simp only [← hji10]; first | rfl | (simp [errW_none, errW_some] <;> rfl)) | (simp [*, errW_none, errW_some] <;> rfl), by (with_reducible repeat (first | apply Kd.R_alloc | apply Kd.R_drewN | apply Kd.R_drew)); exact Kd.R_mono HO301.out (fun _ hk => trivial), by repeat (first | (with_reducible first | exact HB.out | apply below_alloc | apply pw_below_drewN | apply below_drew1) | exact HB.out)⟩
                          · rw [if_neg c16] at H
                            exact absurd H (by simp)
                        · rw [if_neg c13] at H
                          have c13b0 : ((strOfNums t290).toList == (strOfNums (l0.take ((ji10) : Int).toNat)).toList) = false := beq_eq_false_iff_ne.mpr c13
                          have c13b1 : ((strOfNums t290).toList != (strOfNums (l0.take ((ji10) : Int).toNat)).toList) = true := bne_iff_ne.mpr c13
                          simp only [Option.some.injEq, Prod.mk.injEq] at H
                          obtain ⟨rfl, rfl, rfl⟩ := H
                          have p288 : 0 ≤ (x7_1 : Int) := of_decide_eq_true (by first | (with_reducible assumption) | assumption)
                          have q288 : x7_1 < (l0.length : Int) := of_decide_eq_true (by first | (with_reducible assumption) | assumption)
                          obtain ⟨ad288, e288, hx288_0⟩ := Kd.at_int HR0.out x7_1 p288 q288
                          cases e288
                          replace hx288_0 := (HB.out.cell (World.block_lt_of_cell? w _ hx288_0)).trans hx288_0
                          replace p288 := eq_true p288
                          replace q288 := eq_true q288
                          have p289 : 0 ≤ (x7_1 : Int) := of_decide_eq_true (by first | (with_reducible assumption) | assumption)
                          have q289 : x7_1 < (l0.length : Int) := of_decide_eq_true (by first | (with_reducible assumption) | assumption)
                          obtain ⟨ad289, e289, hx289_0⟩ := Kd.at_int HR0.out x7_1 p289 q289
                          obtain rfl : ad288 = ad289 := (by injection e289)
                          replace hx289_0 := (HB.out.cell (World.block_lt_of_cell? w _ hx289_0)).trans hx289_0
                          replace p289 := eq_true p289
                          replace q289 := eq_true q289
                          go_wp2_with (first | (go_at_call 24; (refine (banksmanref01_Number.calls kj1 _ _ ([] : List Int) (wrap64 (x5_1 + (wrap64 ((Int.tmod (wrap64 (rd l0 x7_1)) 128) * x6_1)))) t290 t291 _ ?side1 ?side2 A8.out).mono ?_); (case side1 => exact Kd.C_nil _ _); (case side2 => exact Nat.le_refl _); rintro e w25 ⟨v292, rfl, ho0, hb⟩; have n0_ := Aside0.mk (Kd.R_lower ho0 (below_size (by repeat (first | (with_reducible first | exact HB.out | apply below_alloc | apply pw_below_drewN | apply below_drew1) | exact HB.out)))); have n1_ := Aside0.mk (below_step (by repeat (first | (with_reducible first | exact HB.out | apply below_alloc | apply pw_below_drewN | apply below_drew1) | exact HB.out)) hb); clear HB; have HO293 := n0_; have HB := n1_; clear n0_ n1_; (try clear hb); (try clear hb2); (try clear hk); (try clear hi); (try clear ho0); have hcv26 := own_string (P := Try.prog) Try.underlying22 Try.underlying5 Try.underlying9 (Kd.own_of_R HO293.out); have hcv26q := fun n_ => own_string (P := Try.prog) Try.underlying22 Try.underlying5 Try.underlying9 (Kd.own_of_R (Kd.R_drewN HO293.out n_)); obtain ⟨i027, hi027, _, hsz27, _⟩ := info_parts info5; obtain ⟨hcut27, hA27, hC27⟩ := print_take_of (P := Try.prog) (Value.int .u8) 0 22 5 .i64 Try.underlying22 hi027 hsz27 (some ad288) c0 l0 (ji10) (of_decide_eq_true (by first | (with_reducible assumption) | assumption)) (of_decide_eq_true (by first | (with_reducible assumption) | assumption)) HC0.out; have HR294 := Aside0.mk (Kd.C_of_reads (h1 := fun _ => rfl) (hA27 _ (Kd.reads_of_C HR0.out))); have HC294 := Aside0.mk hC27; clear hA27 hC27 hi027 hsz27; have hcv28 := Kd.C_string (P := Try.prog) (A := (some ad288)) (c := c0) Try.underlying22 Try.underlying5 Try.underlying9 (Kd.C_below HR294.out HB.out); have hcv28q := fun n_ => Kd.C_string (P := Try.prog) (A := (some ad288)) (c := c0) Try.underlying22 Try.underlying5 Try.underlying9 (Kd.C_drewN (Kd.C_below HR294.out HB.out) n_); have hcv28r := hcv28q; (try rw [List.length_take, Nat.min_eq_left (by have h1_ := (show 0 ≤ ((ji10) : Int) from of_decide_eq_true (by first | (with_reducible assumption) | assumption)); have h2_ := (show ((ji10) : Int) ≤ (l0.length : Int) from of_decide_eq_true (by first | (with_reducible assumption) | assumption)); omega)] at hcv28r)))
                          repeat (go_quiet (first | (go_at_call 24; (refine (banksmanref01_Number.calls kj1 _ _ ([] : List Int) (wrap64 (x5_1 + (wrap64 ((Int.tmod (wrap64 (rd l0 x7_1)) 128) * x6_1)))) t290 t291 _ ?side1 ?side2 A8.out).mono ?_); (case side1 => exact Kd.C_nil _ _); (case side2 => exact Nat.le_refl _); rintro e w25 ⟨v292, rfl, ho0, hb⟩; have n0_ := Aside0.mk (Kd.R_lower ho0 (below_size (by repeat (first | (with_reducible first | exact HB.out | apply below_alloc | apply pw_below_drewN | apply below_drew1) | exact HB.out)))); have n1_ := Aside0.mk (below_step (by repeat (first | (with_reducible first | exact HB.out | apply below_alloc | apply pw_below_drewN | apply below_drew1) | exact HB.out)) hb); clear HB; have HO293 := n0_; have HB := n1_; clear n0_ n1_; (try clear hb); (try clear hb2); (try clear hk); (try clear hi); (try clear ho0); have hcv26 := own_string (P := Try.prog) Try.underlying22 Try.underlying5 Try.underlying9 (Kd.own_of_R HO293.out); have hcv26q := fun n_ => own_string (P := Try.prog) Try.underlying22 Try.underlying5 Try.underlying9 (Kd.own_of_R (Kd.R_drewN HO293.out n_)); obtain ⟨i027, hi027, _, hsz27, _⟩ := info_parts info5; obtain ⟨hcut27, hA27, hC27⟩ := print_take_of (P := Try.prog) (Value.int .u8) 0 22 5 .i64 Try.underlying22 hi027 hsz27 (some ad288) c0 l0 (ji10) (of_decide_eq_true (by first | (with_reducible assumption) | assumption)) (of_decide_eq_true (by first | (with_reducible assumption) | assumption)) HC0.out; have HR294 := Aside0.mk (Kd.C_of_reads (h1 := fun _ => rfl) (hA27 _ (Kd.reads_of_C HR0.out))); have HC294 := Aside0.mk hC27; clear hA27 hC27 hi027 hsz27; have hcv28 := Kd.C_string (P := Try.prog) (A := (some ad288)) (c := c0) Try.underlying22 Try.underlying5 Try.underlying9 (Kd.C_below HR294.out HB.out); have hcv28q := fun n_ => Kd.C_string (P := Try.prog) (A := (some ad288)) (c := c0) Try.underlying22 Try.underlying5 Try.underlying9 (Kd.C_drewN (Kd.C_below HR294.out HB.out) n_); have hcv28r := hcv28q; (try rw [List.length_take, Nat.min_eq_left (by have h1_ := (show 0 ≤ ((ji10) : Int) from of_decide_eq_true (by first | (with_reducible assumption) | assumption)); have h2_ := (show ((ji10) : Int) ≤ (l0.length : Int) from of_decide_eq_true (by first | (with_reducible assumption) | assumption)); omega)] at hcv28r))); try go_wp2_with (first | (go_at_call 24; (refine (banksmanref01_Number.calls kj1 _ _ ([] : List Int) (wrap64 (x5_1 + (wrap64 ((Int.tmod (wrap64 (rd l0 x7_1)) 128) * x6_1)))) t290 t291 _ ?side1 ?side2 A8.out).mono ?_); (case side1 => exact Kd.C_nil _ _); (case side2 => exact Nat.le_refl _); rintro e w25 ⟨v292, rfl, ho0, hb⟩; have n0_ := Aside0.mk (Kd.R_lower ho0 (below_size (by repeat (first | (with_reducible first | exact HB.out | apply below_alloc | apply pw_below_drewN | apply below_drew1) | exact HB.out)))); have n1_ := Aside0.mk (below_step (by repeat (first | (with_reducible first | exact HB.out | apply below_alloc | apply pw_below_drewN | apply below_drew1) | exact HB.out)) hb); clear HB; have HO293 := n0_; have HB := n1_; clear n0_ n1_; (try clear hb); (try clear hb2); (try clear hk); (try clear hi); (try clear ho0); have hcv26 := own_string (P := Try.prog) Try.underlying22 Try.underlying5 Try.underlying9 (Kd.own_of_R HO293.out); have hcv26q := fun n_ => own_string (P := Try.prog) Try.underlying22 Try.underlying5 Try.underlying9 (Kd.own_of_R (Kd.R_drewN HO293.out n_)); obtain ⟨i027, hi027, _, hsz27, _⟩ := info_parts info5; obtain ⟨hcut27, hA27, hC27⟩ := print_take_of (P := Try.prog) (Value.int .u8) 0 22 5 .i64 Try.underlying22 hi027 hsz27 (some ad288) c0 l0 (ji10) (of_decide_eq_true (by first | (with_reducible assumption) | assumption)) (of_decide_eq_true (by first | (with_reducible assumption) | assumption)) HC0.out; have HR294 := Aside0.mk (Kd.C_of_reads (h1 := fun _ => rfl) (hA27 _ (Kd.reads_of_C HR0.out))); have HC294 := Aside0.mk hC27; clear hA27 hC27 hi027 hsz27; have hcv28 := Kd.C_string (P := Try.prog) (A := (some ad288)) (c := c0) Try.underlying22 Try.underlying5 Try.underlying9 (Kd.C_below HR294.out HB.out); have hcv28q := fun n_ => Kd.C_string (P := Try.prog) (A := (some ad288)) (c := c0) Try.underlying22 Try.underlying5 Try.underlying9 (Kd.C_drewN (Kd.C_below HR294.out HB.out) n_); have hcv28r := hcv28q; (try rw [List.length_take, Nat.min_eq_left (by have h1_ := (show 0 ≤ ((ji10) : Int) from of_decide_eq_true (by first | (with_reducible assumption) | assumption)); have h2_ := (show ((ji10) : Int) ≤ (l0.length : Int) from of_decide_eq_true (by first | (with_reducible assumption) | assumption)); omega)] at hcv28r))))
                          go_ret3
                          exact ⟨_, by first | rfl | (simp [errW_none, errW_some] <;> rfl) | (simp only [← hji10]; first | rfl | (simp [errW_none, errW_some] <;> rfl)) | (simp [*, errW_none, errW_some] <;> rfl), by first | exact Kd.R_nil _ _ _ _ _ | exact Kd.N_nil _ _ _ _ _ | exact Kd.V_nil _ _ _ _ _ | exact Kd.Q_nil _ _ _ _ _ | exact Kd.S_nil _ _ _ _ _, by repeat (first | (with_reducible first | exact HB.out | apply below_alloc | apply pw_below_drewN | apply below_drew1) | exact HB.out)⟩
                      · rw [if_neg c12] at H
                        exact absurd H (by simp)
                    · rw [if_neg c11] at H
                      exact absurd H (by simp)
                  · rw [if_neg c9] at H
                    have c9b0 : (t291 == 0) = false := beq_eq_false_iff_ne.mpr c9
                    have c9b1 : (t291 != 0) = true := bne_iff_ne.mpr c9
                    simp only [Option.some.injEq, Prod.mk.injEq] at H
                    obtain ⟨rfl, rfl, rfl⟩ := H
                    have p288 : 0 ≤ (x7_1 : Int) := of_decide_eq_true (by first | (with_reducible assumption) | assumption)
                    have q288 : x7_1 < (l0.length : Int) := of_decide_eq_true (by first | (with_reducible assumption) | assumption)
                    obtain ⟨ad288, e288, hx288_0⟩ := Kd.at_int HR0.out x7_1 p288 q288
                    cases e288
                    replace hx288_0 := (HB.out.cell (World.block_lt_of_cell? w _ hx288_0)).trans hx288_0
                    replace p288 := eq_true p288
                    replace q288 := eq_true q288
                    have p289 : 0 ≤ (x7_1 : Int) := of_decide_eq_true (by first | (with_reducible assumption) | assumption)
                    have q289 : x7_1 < (l0.length : Int) := of_decide_eq_true (by first | (with_reducible assumption) | assumption)
                    obtain ⟨ad289, e289, hx289_0⟩ := Kd.at_int HR0.out x7_1 p289 q289
                    obtain rfl : ad288 = ad289 := (by injection e289)
                    replace hx289_0 := (HB.out.cell (World.block_lt_of_cell? w _ hx289_0)).trans hx289_0
                    replace p289 := eq_true p289
                    replace q289 := eq_true q289
                    go_wp2_with (first | (go_at_call 24; (refine (banksmanref01_Number.calls kj1 _ _ ([] : List Int) (wrap64 (x5_1 + (wrap64 ((Int.tmod (wrap64 (rd l0 x7_1)) 128) * x6_1)))) t290 t291 _ ?side1 ?side2 A8.out).mono ?_); (case side1 => exact Kd.C_nil _ _); (case side2 => exact Nat.le_refl _); rintro e w29 ⟨v292, rfl, ho0, hb⟩; have n0_ := Aside0.mk (Kd.R_lower ho0 (below_size (by repeat (first | (with_reducible first | exact HB.out | apply below_alloc | apply pw_below_drewN | apply below_drew1) | exact HB.out)))); have n1_ := Aside0.mk (below_step (by repeat (first | (with_reducible first | exact HB.out | apply below_alloc | apply pw_below_drewN | apply below_drew1) | exact HB.out)) hb); clear HB; have HO293 := n0_; have HB := n1_; clear n0_ n1_; (try clear hb); (try clear hb2); (try clear hk); (try clear hi); (try clear ho0)))
                    repeat (go_quiet (first | (go_at_call 24; (refine (banksmanref01_Number.calls kj1 _ _ ([] : List Int) (wrap64 (x5_1 + (wrap64 ((Int.tmod (wrap64 (rd l0 x7_1)) 128) * x6_1)))) t290 t291 _ ?side1 ?side2 A8.out).mono ?_); (case side1 => exact Kd.C_nil _ _); (case side2 => exact Nat.le_refl _); rintro e w29 ⟨v292, rfl, ho0, hb⟩; have n0_ := Aside0.mk (Kd.R_lower ho0 (below_size (by repeat (first | (with_reducible first | exact HB.out | apply below_alloc | apply pw_below_drewN | apply below_drew1) | exact HB.out)))); have n1_ := Aside0.mk (below_step (by repeat (first | (with_reducible first | exact HB.out | apply below_alloc | apply pw_below_drewN | apply below_drew1) | exact HB.out)) hb); clear HB; have HO293 := n0_; have HB := n1_; clear n0_ n1_; (try clear hb); (try clear hb2); (try clear hk); (try clear hi); (try clear ho0))); try go_wp2_with (first | (go_at_call 24; (refine (banksmanref01_Number.calls kj1 _ _ ([] : List Int) (wrap64 (x5_1 + (wrap64 ((Int.tmod (wrap64 (rd l0 x7_1)) 128) * x6_1)))) t290 t291 _ ?side1 ?side2 A8.out).mono ?_); (case side1 => exact Kd.C_nil _ _); (case side2 => exact Nat.le_refl _); rintro e w29 ⟨v292, rfl, ho0, hb⟩; have n0_ := Aside0.mk (Kd.R_lower ho0 (below_size (by repeat (first | (with_reducible first | exact HB.out | apply below_alloc | apply pw_below_drewN | apply below_drew1) | exact HB.out)))); have n1_ := Aside0.mk (below_step (by repeat (first | (with_reducible first | exact HB.out | apply below_alloc | apply pw_below_drewN | apply below_drew1) | exact HB.out)) hb); clear HB; have HO293 := n0_; have HB := n1_; clear n0_ n1_; (try clear hb); (try clear hb2); (try clear hk); (try clear hi); (try clear ho0))))
                    go_ret3
                    exact ⟨_, by first | rfl | (simp [errW_none, errW_some] <;> rfl) | (simp [*, errW_none, errW_some] <;> rfl), by first | exact Kd.R_nil _ _ _ _ _ | exact Kd.N_nil _ _ _ _ _ | exact Kd.V_nil _ _ _ _ _ | exact Kd.Q_nil _ _ _ _ _ | exact Kd.S_nil _ _ _ _ _, by repeat (first | (with_reducible first | exact HB.out | apply below_alloc | apply pw_below_drewN | apply below_drew1) | exact HB.out)⟩
                · rw [if_neg c7] at H
                  have c7b0 : decide ((rd l0 x7_1) < 128) = false := decide_eq_false c7
                  clear c7
                  have H' := Aside0.mk H
                  clear H
                  have p288 : 0 ≤ (x7_1 : Int) := of_decide_eq_true (by first | (with_reducible assumption) | assumption)
                  have q288 : x7_1 < (l0.length : Int) := of_decide_eq_true (by first | (with_reducible assumption) | assumption)
                  obtain ⟨ad288, e288, hx288_0⟩ := Kd.at_int HR0.out x7_1 p288 q288
                  cases e288
                  replace hx288_0 := (HB.out.cell (World.block_lt_of_cell? w _ hx288_0)).trans hx288_0
                  replace p288 := eq_true p288
                  replace q288 := eq_true q288
                  have p289 : 0 ≤ (x7_1 : Int) := of_decide_eq_true (by first | (with_reducible assumption) | assumption)
                  have q289 : x7_1 < (l0.length : Int) := of_decide_eq_true (by first | (with_reducible assumption) | assumption)
                  obtain ⟨ad289, e289, hx289_0⟩ := Kd.at_int HR0.out x7_1 p289 q289
                  obtain rfl : ad288 = ad289 := (by injection e289)
                  replace hx289_0 := (HB.out.cell (World.block_lt_of_cell? w _ hx289_0)).trans hx289_0
                  replace p289 := eq_true p289
                  replace q289 := eq_true q289
                  go_wp2
                  repeat (go_quiet (fail); try go_wp2)
                  go_roundg kj1
                  case measure => have := HK1.out; have := HJ1.out; omega
                  case rel => exact ⟨(wrap64 (x5_1 + (wrap64 ((Int.tmod (wrap64 (rd l0 x7_1)) 128) * x6_1)))), (wrap64 (x6_1 * 128)), (wrap64 (x7_1 + 1)), (by first | rfl | (simp; done) | (simp [*]; done)), (by first | rfl | (simp; done) | (simp [*]; done)), (by first | rfl | (simp; done) | (simp [*]; done)), H', ⟨by have := HK1.out; have := HJ1.out; omega⟩, ⟨by repeat (first | (with_reducible first | exact HB.out | apply below_alloc | apply pw_below_drewN | apply below_drew1) | exact HB.out)⟩⟩
              · rw [if_neg c6] at H
                exact absurd H (by simp)
            · rw [if_neg c5] at H
              exact absurd H (by simp)
          · replace c4 := Bool.eq_false_iff.mpr c4
            subst c4
            have H1 : (some (0, ([] : List Int), 10)) = some (r1, r2, r3) := by rw [if_neg (show ¬ (false = true) by decide)] at H; exact H
            clear H
            have H := H1
            clear H1
            simp only [Option.some.injEq, Prod.mk.injEq] at H
            obtain ⟨rfl, rfl, rfl⟩ := H
            go_wp2
            repeat (go_quiet (fail); try go_wp2)
            go_ret3
            exact ⟨_, by first | rfl | (simp [errW_none, errW_some] <;> rfl) | (simp [*, errW_none, errW_some] <;> rfl), by first | exact Kd.R_nil _ _ _ _ _ | exact Kd.N_nil _ _ _ _ _ | exact Kd.V_nil _ _ _ _ _ | exact Kd.Q_nil _ _ _ _ _ | exact Kd.S_nil _ _ _ _ _, by repeat (first | (with_reducible first | exact HB.out | apply below_alloc | apply pw_below_drewN | apply below_drew1) | exact HB.out)⟩
theorem banksmanref01_Take.calls (k : Nat) (A0 : Option Addr) (c0 : Nat) (l0 : List Int) (r1 : Int) (r2 : List Int) (r3 : Int) (w : World) (hr0 : Kd.C (Kd.int .u8) w A0 l0.length l0) (hc0 : l0.length ≤ c0) (h : banksmanref01_Take.f k l0 = some (r1, r2, r3)) :
    Calls Try.prog 30 #[.slice A0 l0.length c0] w fun e w' => ∃ v1_ : Value, e = .returned (.tuple #[.int .i64 r1, v1_, .int .i64 r3]) ∧ Kd.V (Kd.int .u8) 5 w' w.heap.size (fun k_ => (w.heap.size ≤ k_)) v1_ r2 ∧ Below w.heap.size w w' := (banksmanref01_Take.callsR k A0 c0 l0 r1 r2 r3 w hr0 hc0 h).mono fun _ _ ⟨v_, h1_, h2_, h3_⟩ => ⟨v_, h1_, Kd.R_V (Kd.R_mono (Kd.R_tight rfl h2_) (fun k_ hk_ => Kd.R_base h2_ k_ hk_.symm)), h3_⟩
end Go.Proofs.Ytfbjabpjfalmlaa.P
