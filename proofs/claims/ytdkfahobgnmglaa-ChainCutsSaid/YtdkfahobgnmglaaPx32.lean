-- Written by wip/gprint.py, a program of this session over the kit's print; Lean checks it.
import Derived.Test.YtdkfahobgnmglaaPx0
import Derived.Test.YtdkfahobgnmglaaPx6
import Derived.Test.YtdkfahobgnmglaaPx10
import Derived.Test.YtdkfahobgnmglaaPx16
namespace Go.Proofs.Ytdkfahobgnmglaa.P
open Go.RowKit Go.Proofs.YtdkfahobgnmglaaW.PrintWords Go.Proofs.YtdkfahobgnmglaaW.PrintLast Go.Proofs.YtdkfahobgnmglaaW.PrintMore
attribute [local go_sem] max2_int min2_int max_two min_two max_three min_three max_four min_four   -- for this text's walks alone
set_option linter.unusedVariables false
set_option linter.unusedSimpArgs false

/-! ### banksmanlaw05_ChainCuts: function 8 -/
def banksmanlaw05_ChainCuts.j0 : Nat → List (S25) → Int → Int → Bool → Bool → Option (Bool)
  | 0, _, _, _, _, _ => none
  | k + 1, x0, x1, x2, x7, x22 => if x22 = true then (some x7) else (if (wrap64 ((x0.length : Int) + 1)) = 0 then (none) else ((chain_Read.f k x0 x2).bind fun bt403 => (if 0 ≤ (Int.tmod (wrap64 (x1)) (wrap64 ((x0.length : Int) + 1))) then (if (Int.tmod (wrap64 (x1)) (wrap64 ((x0.length : Int) + 1))) ≤ (x0.length : Int) then ((chain_Read.f k (x0.take ((Int.tmod (wrap64 (x1)) (wrap64 ((x0.length : Int) + 1))) : Int).toNat) x2).bind fun bt411 => (if (Int.tmod (wrap64 (x1)) (wrap64 ((x0.length : Int) + 1))) = (x0.length : Int) then (if x7 = true then ((chain_Check.f k (x0.take ((Int.tmod (wrap64 (x1)) (wrap64 ((x0.length : Int) + 1))) : Int).toNat)).bind fun t419 => (if t419 = true then (if (bt403.2 == bt411.2) = true then (some ((strOfNums bt403.1).toList == (strOfNums bt411.1).toList)) else (some false)) else (some false))) else (some false)) else (if 0 ≤ (mn (Int.tmod (wrap64 (x1)) (wrap64 ((x0.length : Int) + 1))) (mx 0 (wrap64 ((x0.length : Int) - 1)))) then (if (mn (Int.tmod (wrap64 (x1)) (wrap64 ((x0.length : Int) + 1))) (mx 0 (wrap64 ((x0.length : Int) - 1)))) < (x0.length : Int) then (if x7 = true then ((chain_Check.f k (x0.take ((Int.tmod (wrap64 (x1)) (wrap64 ((x0.length : Int) + 1))) : Int).toNat)).bind fun t425 => (if t425 = true then (if (x2 < ((rd_T25 x0 (mn (Int.tmod (wrap64 (x1)) (wrap64 ((x0.length : Int) + 1))) (mx 0 (wrap64 ((x0.length : Int) - 1))))).f0)) then (if (bt403.2 == bt411.2) = true then (some ((strOfNums bt403.1).toList == (strOfNums bt411.1).toList)) else (some false)) else (some true)) else (some false))) else (some false)) else (none)) else (none)))) else (none)) else (none))))
def banksmanlaw05_ChainCuts.f (k : Nat) (l0 : List (S25)) (a1 : Int) (a2 : Int) : Option (Bool) := (banksmanlaw05_awake.f k).bind fun t401 => (if (l0.length : Int) > 100 then (banksmanlaw05_ChainCuts.j0 k l0 a1 a2 t401 true) else ((chain_Check.f k l0).bind fun t402 => (banksmanlaw05_ChainCuts.j0 k l0 a1 a2 t401 (!t402))))
theorem banksmanlaw05_ChainCuts.mono_l : ∀ k, (∀ y0 y1 y2 y3 y4, LeO (banksmanlaw05_ChainCuts.j0 k y0 y1 y2 y3 y4) (banksmanlaw05_ChainCuts.j0 (k + 1) y0 y1 y2 y3 y4))
  | 0 => fun _ _ _ _ _ r h => by simp [banksmanlaw05_ChainCuts.j0] at h
  | k + 1 => by
    have ih0 := banksmanlaw05_ChainCuts.mono_l k
    · intro y0 y1 y2 y3 y4
      unfold banksmanlaw05_ChainCuts.j0
      repeat' first
      | (with_reducible exact ih0 _ _ _ _ _)
      | (with_reducible exact banksmanlaw05_awake.mono _)
      | (with_reducible exact chain_Check.mono _ _)
      | (with_reducible exact chain_Read.mono _ _ _)
      | (with_reducible exact LeO.refl _)
      | (with_reducible exact LeO.none _)
      | (with_reducible refine LeO.ite ?_ ?_)
      | (with_reducible refine LeO.bind ?_ (fun _ => ?_))
      | exact ih0 _ _ _ _ _
      | exact banksmanlaw05_awake.mono _
      | exact chain_Check.mono _ _
      | exact chain_Read.mono _ _ _
      | exact LeO.none _
      | refine LeO.ite ?_ ?_
      | refine LeO.bind ?_ (fun _ => ?_)
theorem banksmanlaw05_ChainCuts.mono : ∀ a0 a1 a2 k, LeO (banksmanlaw05_ChainCuts.f k a0 a1 a2) (banksmanlaw05_ChainCuts.f (k + 1) a0 a1 a2) := by
  intro a0 a1 a2 k
  have ih0 := banksmanlaw05_ChainCuts.mono_l k
  unfold banksmanlaw05_ChainCuts.f
  repeat' first
      | (with_reducible exact ih0 _ _ _ _ _)
      | (with_reducible exact banksmanlaw05_awake.mono _)
      | (with_reducible exact chain_Check.mono _ _)
      | (with_reducible exact chain_Read.mono _ _ _)
      | (with_reducible exact LeO.refl _)
      | (with_reducible exact LeO.none _)
      | (with_reducible refine LeO.ite ?_ ?_)
      | (with_reducible refine LeO.bind ?_ (fun _ => ?_))
      | exact ih0 _ _ _ _ _
      | exact banksmanlaw05_awake.mono _
      | exact chain_Check.mono _ _
      | exact chain_Read.mono _ _ _
      | exact LeO.none _
      | refine LeO.ite ?_ ?_
      | refine LeO.bind ?_ (fun _ => ?_)
set_option maxHeartbeats 8000000 in
set_option maxRecDepth 100000 in
theorem banksmanlaw05_ChainCuts.calls (k : Nat) (A0 : Option Addr) (c0 : Nat) (l0 : List (S25)) (a1 : Int) (a2 : Int) (r : Bool) (w : World) (hr0 : Kd.C k25 w A0 l0.length l0) (hc0 : l0.length ≤ c0) (h : banksmanlaw05_ChainCuts.f k l0 a1 a2 = some r) (HTr_ : r = true) :
    Calls Try.prog 8 #[.slice A0 l0.length c0, .int .u8 a1, .int .i64 a2] w fun e w' => e = .returned (.bool r) ∧ Below w.heap.size w w' := by
  have HR0 := Aside0.mk hr0
  have HC0 := Aside0.mk hc0
  clear hr0 hc0
  have HB := Aside0.mk (Below.refl w.heap.size w)
  have H : ((banksmanlaw05_awake.f k).bind fun t401 => (if (l0.length : Int) > 100 then (banksmanlaw05_ChainCuts.j0 k l0 a1 a2 t401 true) else ((chain_Check.f k l0).bind fun t402 => (banksmanlaw05_ChainCuts.j0 k l0 a1 a2 t401 (!t402))))) = some r := h
  clear h
  replace H := Option.bind_eq_some_iff.mp H
  obtain ⟨t401, A40, H⟩ := H
  replace H : (if (l0.length : Int) > 100 then (banksmanlaw05_ChainCuts.j0 k l0 a1 a2 t401 true) else ((chain_Check.f k l0).bind fun t402 => (banksmanlaw05_ChainCuts.j0 k l0 a1 a2 t401 (!t402)))) = some r := H
  have A4 := Aside0.mk A40
  clear A40
  have HC5 := Aside0.mk H
  clear H
  go_enter Try.func8, Try.ntmps8
  go_upto_region 2 with (first | ((with_reducible refine gate_callee (f := 10) rfl ?_); refine goesL_ (some 14) rfl rfl Try.func10 (by kernel_rfl) rfl #[] rfl (by (try simp only [List.map_toArray, List.map_cons, List.map_nil]); first | done | rfl | (simp only [List.length_drop, List.length_take]; rfl)) ?_; (with_reducible refine (banksmanlaw05_awake.calls k  t401 _ A4.out).mono ?_); rintro e w6 ⟨rfl, hb⟩; refine ⟨_, rfl, ?_⟩; have n0_ := Aside0.mk (below_step (by repeat (first | (with_reducible first | exact HB.out | apply below_alloc | apply pw_below_drewN | apply below_drew1) | exact HB.out)) hb); clear HB; have HB := n0_; clear n0_; (try clear hb); (try clear hb2); (try clear hk); (try clear hi)))
  (try simp only [Act.put, List.setIfInBounds_toArray, List.set_cons_zero, List.set_cons_succ])
  go_cut [22] (fun v22 wc => ∃ (kq : Nat) (x22_4 : Bool), v22 = .bool x22_4 ∧ Aside0 (banksmanlaw05_ChainCuts.j0 kq l0 a1 a2 t401 x22_4 = some r) ∧ Aside0 (kq ≤ k) ∧ Aside0 (Below w.heap.size w wc))
  case first =>
    have H := HC5.out
    clear HC5
    by_cases c7 : (l0.length : Int) > 100
    · rw [if_pos c7] at H
      have c7b0 : decide (100 < (l0.length : Int)) = true := decide_eq_true c7
      have c7b1 : decide (100 < l0.length) = true := decide_eq_true (by omega)
      clear c7
      (first | rw [c7b0] | (simp only [i64_w, i32_w]; rw [c7b0]) | skip)
      have H' := Aside0.mk H
      clear H
      go_wp2
      go_meet
      case rel => exact ⟨_, (true), (by first | rfl | (simp; done) | (simp [*]; done)), H', ⟨by first | omega | exact Nat.le_refl _⟩, ⟨by repeat (first | (with_reducible first | exact HB.out | apply below_alloc | apply pw_below_drewN | apply below_drew1) | exact HB.out)⟩⟩
    · rw [if_neg c7] at H
      have c7b0 : decide (100 < (l0.length : Int)) = false := decide_eq_false c7
      have c7b1 : decide (100 < l0.length) = false := decide_eq_false (by omega)
      clear c7
      (first | rw [c7b0] | (simp only [i64_w, i32_w]; rw [c7b0]) | skip)
      replace H := Option.bind_eq_some_iff.mp H
      obtain ⟨t402, A80, H⟩ := H
      replace H : (banksmanlaw05_ChainCuts.j0 k l0 a1 a2 t401 (!t402)) = some r := H
      have A8 := Aside0.mk A80
      clear A80
      have H' := Aside0.mk H
      clear H
      go_wp2_with (first | (go_at_call 19; (with_reducible refine (chain_Check.calls k _ _ l0 t402 _ ?side1 ?side2 A8.out).mono ?_); (case side1 => repeat (first | exact (Kd.C_below HR0.out HB.out) | (with_reducible refine Kd.C_alloc ?_ _) | (with_reducible refine Kd.C_drewN ?_ _) | (with_reducible refine Kd.C_drew ?_))); (case side2 => exact HC0.out); rintro e w9 ⟨rfl, hb⟩; have n0_ := Aside0.mk (below_step (by repeat (first | (with_reducible first | exact HB.out | apply below_alloc | apply pw_below_drewN | apply below_drew1) | exact HB.out)) hb); clear HB; have HB := n0_; clear n0_; (try clear hb); (try clear hb2); (try clear hk); (try clear hi)))
      go_meet
      case rel => exact ⟨_, (!t402), (by first | rfl | (simp; done) | (simp [*]; done)), H', ⟨by first | omega | exact Nat.le_refl _⟩, ⟨by repeat (first | (with_reducible first | exact HB.out | apply below_alloc | apply pw_below_drewN | apply below_drew1) | exact HB.out)⟩⟩
  case rest =>
    clear HC5
    try clear c1
    try clear p2
    try clear c7
    try clear c7b0
    try clear c7b1
    try clear c8
    obtain ⟨kq, x22_4, rfl, HA, HJ4, HB⟩ := hcut
    cases kq with
    | zero => exact absurd HA.out (by simp [banksmanlaw05_ChainCuts.j0])
    | succ kj4 =>
      have H := HA.out
      clear HA
      simp only [banksmanlaw05_ChainCuts.j0] at H
      by_cases c10 : x22_4 = true
      · subst c10
        have H1 : (some t401) = some r := by rw [if_pos rfl] at H; exact H
        clear H
        have H := H1
        clear H1
        obtain rfl := Option.some.inj H
        go_wp2
        go_ret
        exact ⟨by first | rfl | (simp [errW_none, errW_some] <;> rfl) | (simp [*, errW_none, errW_some] <;> rfl), by repeat (first | (with_reducible first | exact HB.out | apply below_alloc | apply pw_below_drewN | apply below_drew1) | exact HB.out)⟩
      · replace c10 := Bool.eq_false_iff.mpr c10
        subst c10
        have H1 : (if (wrap64 ((l0.length : Int) + 1)) = 0 then (none) else ((chain_Read.f kj4 l0 a2).bind fun bt403 => (if 0 ≤ (Int.tmod (wrap64 (a1)) (wrap64 ((l0.length : Int) + 1))) then (if (Int.tmod (wrap64 (a1)) (wrap64 ((l0.length : Int) + 1))) ≤ (l0.length : Int) then ((chain_Read.f kj4 (l0.take ((Int.tmod (wrap64 (a1)) (wrap64 ((l0.length : Int) + 1))) : Int).toNat) a2).bind fun bt411 => (if (Int.tmod (wrap64 (a1)) (wrap64 ((l0.length : Int) + 1))) = (l0.length : Int) then (if t401 = true then ((chain_Check.f kj4 (l0.take ((Int.tmod (wrap64 (a1)) (wrap64 ((l0.length : Int) + 1))) : Int).toNat)).bind fun t419 => (if t419 = true then (if (bt403.2 == bt411.2) = true then (some ((strOfNums bt403.1).toList == (strOfNums bt411.1).toList)) else (some false)) else (some false))) else (some false)) else (if 0 ≤ (mn (Int.tmod (wrap64 (a1)) (wrap64 ((l0.length : Int) + 1))) (mx 0 (wrap64 ((l0.length : Int) - 1)))) then (if (mn (Int.tmod (wrap64 (a1)) (wrap64 ((l0.length : Int) + 1))) (mx 0 (wrap64 ((l0.length : Int) - 1)))) < (l0.length : Int) then (if t401 = true then ((chain_Check.f kj4 (l0.take ((Int.tmod (wrap64 (a1)) (wrap64 ((l0.length : Int) + 1))) : Int).toNat)).bind fun t425 => (if t425 = true then (if (a2 < ((rd_T25 l0 (mn (Int.tmod (wrap64 (a1)) (wrap64 ((l0.length : Int) + 1))) (mx 0 (wrap64 ((l0.length : Int) - 1))))).f0)) then (if (bt403.2 == bt411.2) = true then (some ((strOfNums bt403.1).toList == (strOfNums bt411.1).toList)) else (some false)) else (some true)) else (some false))) else (some false)) else (none)) else (none)))) else (none)) else (none)))) = some r := by rw [if_neg (show ¬ (false = true) by decide)] at H; exact H
        clear H
        have H := H1
        clear H1
        by_cases c11 : (wrap64 ((l0.length : Int) + 1)) = 0
        · rw [if_pos c11] at H
          exact absurd H (by simp)
        · rw [if_neg c11] at H
          have c11b0 : ((wrap64 ((l0.length : Int) + 1)) == 0) = false := beq_eq_false_iff_ne.mpr c11
          have c11b1 : ((wrap64 ((l0.length : Int) + 1)) != 0) = true := bne_iff_ne.mpr c11
          replace H := Option.bind_eq_some_iff.mp H
          obtain ⟨⟨t403, t404⟩, A120, H⟩ := H
          replace H : (if 0 ≤ (Int.tmod (wrap64 (a1)) (wrap64 ((l0.length : Int) + 1))) then (if (Int.tmod (wrap64 (a1)) (wrap64 ((l0.length : Int) + 1))) ≤ (l0.length : Int) then ((chain_Read.f kj4 (l0.take ((Int.tmod (wrap64 (a1)) (wrap64 ((l0.length : Int) + 1))) : Int).toNat) a2).bind fun bt411 => (if (Int.tmod (wrap64 (a1)) (wrap64 ((l0.length : Int) + 1))) = (l0.length : Int) then (if t401 = true then ((chain_Check.f kj4 (l0.take ((Int.tmod (wrap64 (a1)) (wrap64 ((l0.length : Int) + 1))) : Int).toNat)).bind fun t419 => (if t419 = true then (if (t404 == bt411.2) = true then (some ((strOfNums t403).toList == (strOfNums bt411.1).toList)) else (some false)) else (some false))) else (some false)) else (if 0 ≤ (mn (Int.tmod (wrap64 (a1)) (wrap64 ((l0.length : Int) + 1))) (mx 0 (wrap64 ((l0.length : Int) - 1)))) then (if (mn (Int.tmod (wrap64 (a1)) (wrap64 ((l0.length : Int) + 1))) (mx 0 (wrap64 ((l0.length : Int) - 1)))) < (l0.length : Int) then (if t401 = true then ((chain_Check.f kj4 (l0.take ((Int.tmod (wrap64 (a1)) (wrap64 ((l0.length : Int) + 1))) : Int).toNat)).bind fun t425 => (if t425 = true then (if (a2 < ((rd_T25 l0 (mn (Int.tmod (wrap64 (a1)) (wrap64 ((l0.length : Int) + 1))) (mx 0 (wrap64 ((l0.length : Int) - 1))))).f0)) then (if (t404 == bt411.2) = true then (some ((strOfNums t403).toList == (strOfNums bt411.1).toList)) else (some false)) else (some true)) else (some false))) else (some false)) else (none)) else (none)))) else (none)) else (none)) = some r := H
          have A12 := Aside0.mk A120
          clear A120
          obtain ⟨ji13, hji13⟩ : ∃ j_ : Int, (Int.tmod (wrap64 (a1)) (wrap64 ((l0.length : Int) + 1))) = j_ := ⟨_, rfl⟩
          replace H : (if 0 ≤ (ji13) then (if (ji13) ≤ (l0.length : Int) then ((chain_Read.f kj4 (l0.take ((ji13) : Int).toNat) a2).bind fun bt411 => (if (ji13) = (l0.length : Int) then (if t401 = true then ((chain_Check.f kj4 (l0.take ((ji13) : Int).toNat)).bind fun t419 => (if t419 = true then (if (t404 == bt411.2) = true then (some ((strOfNums t403).toList == (strOfNums bt411.1).toList)) else (some false)) else (some false))) else (some false)) else (if 0 ≤ (mn (ji13) (mx 0 (wrap64 ((l0.length : Int) - 1)))) then (if (mn (ji13) (mx 0 (wrap64 ((l0.length : Int) - 1)))) < (l0.length : Int) then (if t401 = true then ((chain_Check.f kj4 (l0.take ((ji13) : Int).toNat)).bind fun t425 => (if t425 = true then (if (a2 < ((rd_T25 l0 (mn (ji13) (mx 0 (wrap64 ((l0.length : Int) - 1))))).f0)) then (if (t404 == bt411.2) = true then (some ((strOfNums t403).toList == (strOfNums bt411.1).toList)) else (some false)) else (some true)) else (some false))) else (some false)) else (none)) else (none)))) else (none)) else (none)) = some r := by first | (rw [hji13] at H; exact H) | (simp only [hji13] at H ⊢; exact H)
          (try rw [hji13] at A12)
          by_cases c14 : 0 ≤ (ji13)
          · rw [if_pos c14] at H
            have c14b0 := eq_true c14
            have c14b1 : decide (0 ≤ (ji13)) = true := decide_eq_true c14
            clear c14
            by_cases c15 : (ji13) ≤ (l0.length : Int)
            · rw [if_pos c15] at H
              have c15b0 := eq_true c15
              have c15b1 : decide ((ji13) ≤ (l0.length : Int)) = true := decide_eq_true c15
              clear c15
              obtain ⟨y407, hy407⟩ : ∃ y_ : List (S25), y_ = (l0.take ((ji13) : Int).toNat) := ⟨_, rfl⟩
              replace H : ((chain_Read.f kj4 y407 a2).bind fun bt411 => (if (ji13) = (l0.length : Int) then (if t401 = true then ((chain_Check.f kj4 (l0.take ((ji13) : Int).toNat)).bind fun t419 => (if t419 = true then (if (t404 == bt411.2) = true then (some ((strOfNums t403).toList == (strOfNums bt411.1).toList)) else (some false)) else (some false))) else (some false)) else (if 0 ≤ (mn (ji13) (mx 0 (wrap64 ((l0.length : Int) - 1)))) then (if (mn (ji13) (mx 0 (wrap64 ((l0.length : Int) - 1)))) < (l0.length : Int) then (if t401 = true then ((chain_Check.f kj4 (l0.take ((ji13) : Int).toNat)).bind fun t425 => (if t425 = true then (if (a2 < ((rd_T25 l0 (mn (ji13) (mx 0 (wrap64 ((l0.length : Int) - 1))))).f0)) then (if (t404 == bt411.2) = true then (some ((strOfNums t403).toList == (strOfNums bt411.1).toList)) else (some false)) else (some true)) else (some false))) else (some false)) else (none)) else (none)))) = some r := by first | (rw [hy407]; with_reducible exact H) | (have H2_ := (Option.bind_some _ _).symm.trans H; rw [hy407]; with_reducible exact H2_) | (have H2_ := (Option.bind_some _ _).symm.trans H; with_reducible exact H2_) | with_reducible exact H | (rw [hy407]; exact H) | exact H
              have Ny407 := Aside0.mk hy407
              clear hy407
              replace H := Option.bind_eq_some_iff.mp H
              obtain ⟨⟨t411, t412⟩, A160, H⟩ := H
              replace H : (if (ji13) = (l0.length : Int) then (if t401 = true then ((chain_Check.f kj4 (l0.take ((ji13) : Int).toNat)).bind fun t419 => (if t419 = true then (if (t404 == t412) = true then (some ((strOfNums t403).toList == (strOfNums t411).toList)) else (some false)) else (some false))) else (some false)) else (if 0 ≤ (mn (ji13) (mx 0 (wrap64 ((l0.length : Int) - 1)))) then (if (mn (ji13) (mx 0 (wrap64 ((l0.length : Int) - 1)))) < (l0.length : Int) then (if t401 = true then ((chain_Check.f kj4 (l0.take ((ji13) : Int).toNat)).bind fun t425 => (if t425 = true then (if (a2 < ((rd_T25 l0 (mn (ji13) (mx 0 (wrap64 ((l0.length : Int) - 1))))).f0)) then (if (t404 == t412) = true then (some ((strOfNums t403).toList == (strOfNums t411).toList)) else (some false)) else (some true)) else (some false))) else (some false)) else (none)) else (none))) = some r := H
              have A16 := Aside0.mk A160
              clear A160
              by_cases c17 : (ji13) = (l0.length : Int)
              · rw [if_pos c17] at H
                have c17b0 : ((ji13) == (l0.length : Int)) = true := beq_iff_eq.mpr c17
                have c17b1 : ((ji13) != (l0.length : Int)) = false := bne_eq_false_iff_eq.mpr c17
                clear c17
                by_cases c18 : t401 = true
                · subst c18
                  have H1 : ((chain_Check.f kj4 (l0.take ((ji13) : Int).toNat)).bind fun t419 => (if t419 = true then (if (t404 == t412) = true then (some ((strOfNums t403).toList == (strOfNums t411).toList)) else (some false)) else (some false))) = some r := by rw [if_pos rfl] at H; exact H
                  clear H
                  have H := H1
                  clear H1
                  have c19b0 := eq_true (of_decide_eq_true (by first | (with_reducible assumption) | assumption) : 0 ≤ (ji13))
                  have c20b0 := eq_true (of_decide_eq_true (by first | (with_reducible assumption) | assumption) : (ji13) ≤ (l0.length : Int))
                  have hy407 := Ny407.out
                  replace H : ((chain_Check.f kj4 y407).bind fun t419 => (if t419 = true then (if (t404 == t412) = true then (some ((strOfNums t403).toList == (strOfNums t411).toList)) else (some false)) else (some false))) = some r := by first | (rw [hy407]; with_reducible exact H) | (have H2_ := (Option.bind_some _ _).symm.trans H; rw [hy407]; with_reducible exact H2_) | (have H2_ := (Option.bind_some _ _).symm.trans H; with_reducible exact H2_) | with_reducible exact H | (rw [hy407]; exact H) | exact H
                  have Ny407 := Aside0.mk hy407
                  clear hy407
                  replace H := Option.bind_eq_some_iff.mp H
                  obtain ⟨t419, A210, H⟩ := H
                  replace H : (if t419 = true then (if (t404 == t412) = true then (some ((strOfNums t403).toList == (strOfNums t411).toList)) else (some false)) else (some false)) = some r := H
                  have A21 := Aside0.mk A210
                  clear A210
                  by_cases c22 : t419 = true
                  · subst c22
                    have H1 : (if (t404 == t412) = true then (some ((strOfNums t403).toList == (strOfNums t411).toList)) else (some false)) = some r := by rw [if_pos rfl] at H; exact H
                    clear H
                    have H := H1
                    clear H1
                    by_cases c23 : (t404 == t412) = true
                    · rw [if_pos c23] at H
                      have c23b0 : (t404 == t412) = true := c23
                      (try (have c23b1 : decide (t404 = t412) = true := by simpa using c23))
                      (try (have c23b2 : (t404 == t412) = true := by simpa using c23))
                      clear c23
                      obtain rfl := Option.some.inj H
                      go_wp2_with (first | ((with_reducible refine gate_callee (f := 12) rfl ?_); refine goesL_ (some 33) rfl rfl Try.func12 (by kernel_rfl) rfl #[.slice A0 l0.length c0, .int .i64 a2] rfl (by (try simp only [List.map_toArray, List.map_cons, List.map_nil]); first | done | rfl | (simp only [List.length_drop, List.length_take]; rfl)) ?_; (with_reducible refine (chain_Read.calls kj4 _ _ l0 a2 t403 t404 _ ?side1 ?side2 A12.out).mono ?_); (case side1 => repeat (first | exact (Kd.C_below HR0.out HB.out) | (with_reducible refine Kd.C_alloc ?_ _) | (with_reducible refine Kd.C_drewN ?_ _) | (with_reducible refine Kd.C_drew ?_))); (case side2 => exact HC0.out); rintro e w24 ⟨v405, rfl, ho0, hb⟩; refine ⟨_, rfl, ?_⟩; have n0_ := Aside0.mk (Kd.R_lower ho0 (below_size (by repeat (first | (with_reducible first | exact HB.out | apply below_alloc | apply pw_below_drewN | apply below_drew1) | exact HB.out)))); have n1_ := Aside0.mk (below_step (by repeat (first | (with_reducible first | exact HB.out | apply below_alloc | apply pw_below_drewN | apply below_drew1) | exact HB.out)) hb); clear HB; have HO406 := n0_; have HB := n1_; clear n0_ n1_; (try clear hb); (try clear hb2); (try clear hk); (try clear hi); (try clear ho0); have q25 : ((ji13) : Int) ≤ ((l0.length : Int) : Int) := of_decide_eq_true (by first | (with_reducible assumption) | assumption); obtain ⟨i025, hi025, _, hsz25, _⟩ := info_parts info25; have hroom25 : l0.length ≤ c0 := HC0.out; have hC25 : Kd.C k25 _ A0 l0.length l0 := HR0.out; have hcut25 := cut_to (P := Try.prog) 22 25 .i64 Try.underlying22 hi025 A0 l0.length c0 (ji13) (of_decide_eq_true (by first | (with_reducible assumption) | assumption)) q25 hroom25; have hr25 := Kd.C_take (m := ((ji13) : Int).toNat) hC25 (by omega); have hy25 : y407.length = ((ji13) : Int).toNat := (by rw [Ny407.out, List.length_take]; omega); rw [← Ny407.out] at hr25; rw [← hy25] at hcut25; have HR410 := Aside0.mk hr25; have HC410 := Aside0.mk (show y407.length ≤ c0 from by omega); clear hr25 hC25 hroom25 hi025 hsz25; have KY25 := Aside0.mk hy25; clear hy25; replace q25 := eq_true q25) | ((with_reducible refine gate_callee (f := 12) rfl ?_); refine goesL_ (some 41) rfl rfl Try.func12 (by kernel_rfl) rfl #[.slice A0 y407.length c0, .int .i64 a2] rfl (by (try simp only [List.map_toArray, List.map_cons, List.map_nil]); first | done | rfl | (simp only [List.length_drop, List.length_take]; rfl)) ?_; (with_reducible refine (chain_Read.calls kj4 _ _ y407 a2 t411 t412 _ ?side1 ?side2 A16.out).mono ?_); (case side1 => repeat (first | exact (Kd.C_below HR410.out HB.out) | (with_reducible refine Kd.C_alloc ?_ _) | (with_reducible refine Kd.C_drewN ?_ _) | (with_reducible refine Kd.C_drew ?_))); (case side2 => exact HC410.out); rintro e w26 ⟨v413, rfl, ho0, hb⟩; refine ⟨_, rfl, ?_⟩; have n0_ := Aside0.mk (Kd.R_elder' (by (with_reducible repeat (first | apply Kd.R_alloc | apply Kd.R_drewN | apply Kd.R_drew)); exact HO406.out) (Kd.R_base ho0) hb); have n1_ := Aside0.mk (Kd.R_lower (Kd.R_new' ho0 (Kd.R_lt (by (with_reducible repeat (first | apply Kd.R_alloc | apply Kd.R_drewN | apply Kd.R_drew)); exact HO406.out))) (below_size (by repeat (first | (with_reducible first | exact HB.out | apply below_alloc | apply pw_below_drewN | apply below_drew1) | exact HB.out)))); have n2_ := Aside0.mk (below_step (by repeat (first | (with_reducible first | exact HB.out | apply below_alloc | apply pw_below_drewN | apply below_drew1) | exact HB.out)) hb); clear HO406; clear HB; have HO406 := n0_; have HO414 := n1_; have HB := n2_; clear n0_ n1_ n2_; (try clear hb); (try clear hb2); (try clear hk); (try clear hi); (try clear ho0); have q27 : ((ji13) : Int) ≤ ((l0.length : Int) : Int) := of_decide_eq_true (by first | (with_reducible assumption) | assumption); obtain ⟨i027, hi027, _, hsz27, _⟩ := info_parts info25; have hroom27 : l0.length ≤ c0 := HC0.out; have hC27 : Kd.C k25 _ A0 l0.length l0 := HR0.out; have hcut27 := cut_to (P := Try.prog) 22 25 .i64 Try.underlying22 hi027 A0 l0.length c0 (ji13) (of_decide_eq_true (by first | (with_reducible assumption) | assumption)) q27 hroom27; have hr27 := Kd.C_take (m := ((ji13) : Int).toNat) hC27 (by omega); have hy27 : y407.length = ((ji13) : Int).toNat := (by rw [Ny407.out, List.length_take]; omega); rw [← Ny407.out] at hr27; rw [← hy27] at hcut27; have HR418 := Aside0.mk hr27; have HC418 := Aside0.mk (show y407.length ≤ c0 from by omega); clear hr27 hC27 hroom27 hi027 hsz27; have KY27 := Aside0.mk hy27; clear hy27; replace q27 := eq_true q27) | (go_at_call 19; (with_reducible refine (chain_Check.calls kj4 _ _ y407 true _ ?side1 ?side2 A21.out).mono ?_); (case side1 => repeat (first | exact (Kd.C_below HR418.out HB.out) | (with_reducible refine Kd.C_alloc ?_ _) | (with_reducible refine Kd.C_drewN ?_ _) | (with_reducible refine Kd.C_drew ?_))); (case side2 => exact HC418.out); rintro e w28 ⟨rfl, hb⟩; have n0_ := Aside0.mk (Kd.R_below (by (with_reducible repeat (first | apply Kd.R_alloc | apply Kd.R_drewN | apply Kd.R_drew)); exact HO406.out) hb); have n1_ := Aside0.mk (Kd.R_below (by (with_reducible repeat (first | apply Kd.R_alloc | apply Kd.R_drewN | apply Kd.R_drew)); exact HO414.out) hb); have n2_ := Aside0.mk (below_step (by repeat (first | (with_reducible first | exact HB.out | apply below_alloc | apply pw_below_drewN | apply below_drew1) | exact HB.out)) hb); clear HO406; clear HO414; clear HB; have HO406 := n0_; have HO414 := n1_; have HB := n2_; clear n0_ n1_ n2_; (try clear hb); (try clear hb2); (try clear hk); (try clear hi); have hcv29 := own_string (P := Try.prog) Try.underlying23 Try.underlying5 Try.underlying9 (Kd.own_of_R HO406.out); have hcv30 := own_string (P := Try.prog) Try.underlying23 Try.underlying5 Try.underlying9 (Kd.own_of_R HO414.out)))
                      go_ret
                      exact ⟨by first | rfl | (simp [errW_none, errW_some] <;> rfl) | (simp only [← hji13]; first | rfl | (simp [errW_none, errW_some] <;> rfl)) | (simp [*, errW_none, errW_some] <;> rfl), by repeat (first | (with_reducible first | exact HB.out | apply below_alloc | apply pw_below_drewN | apply below_drew1) | exact HB.out)⟩
                    · rw [if_neg c23] at H
                      rw [HTr_] at H
                      exact absurd (Option.some.inj H) (by decide)
                  · replace c22 := Bool.eq_false_iff.mpr c22
                    subst c22
                    have H1 : (some false) = some r := by rw [if_neg (show ¬ (false = true) by decide)] at H; exact H
                    rw [HTr_] at H1
                    exact absurd (Option.some.inj H1) (by decide)
                · replace c18 := Bool.eq_false_iff.mpr c18
                  subst c18
                  have H1 : (some false) = some r := by rw [if_neg (show ¬ (false = true) by decide)] at H; exact H
                  rw [HTr_] at H1
                  exact absurd (Option.some.inj H1) (by decide)
              · rw [if_neg c17] at H
                have c17b0 : ((ji13) == (l0.length : Int)) = false := beq_eq_false_iff_ne.mpr c17
                have c17b1 : ((ji13) != (l0.length : Int)) = true := bne_iff_ne.mpr c17
                obtain ⟨ji44, hji44⟩ : ∃ j_ : Int, (mx 0 (wrap64 ((l0.length : Int) - 1))) = j_ := ⟨_, rfl⟩
                (try (have hji13c44 := hji13; rw [hji44] at hji13c44))
                replace H : (if 0 ≤ (mn (ji13) (ji44)) then (if (mn (ji13) (ji44)) < (l0.length : Int) then (if t401 = true then ((chain_Check.f kj4 (l0.take ((ji13) : Int).toNat)).bind fun t425 => (if t425 = true then (if (a2 < ((rd_T25 l0 (mn (ji13) (ji44))).f0)) then (if (t404 == t412) = true then (some ((strOfNums t403).toList == (strOfNums t411).toList)) else (some false)) else (some true)) else (some false))) else (some false)) else (none)) else (none)) = some r := by first | (rw [hji44] at H; exact H) | (simp only [hji44] at H ⊢; exact H)
                (try rw [hji44] at A12)
                (try rw [hji44] at A16)
                have hji44_ : (if 0 < (wrap64 ((l0.length : Int) - 1)) then (wrap64 ((l0.length : Int) - 1)) else 0) = ji44 := hji44
                obtain ⟨ji45, hji45⟩ : ∃ j_ : Int, (mn (ji13) (ji44)) = j_ := ⟨_, rfl⟩
                (try (have hji13c45 := hji13; rw [hji45] at hji13c45))
                (try (have hji44c45 := hji44; rw [hji45] at hji44c45))
                replace H : (if 0 ≤ (ji45) then (if (ji45) < (l0.length : Int) then (if t401 = true then ((chain_Check.f kj4 (l0.take ((ji13) : Int).toNat)).bind fun t425 => (if t425 = true then (if (a2 < ((rd_T25 l0 (ji45)).f0)) then (if (t404 == t412) = true then (some ((strOfNums t403).toList == (strOfNums t411).toList)) else (some false)) else (some true)) else (some false))) else (some false)) else (none)) else (none)) = some r := by first | (rw [hji45] at H; exact H) | (simp only [hji45] at H ⊢; exact H)
                (try rw [hji45] at A12)
                (try rw [hji45] at A16)
                have hji45_ : (if (ji44) < (ji13) then (ji44) else (ji13)) = ji45 := hji45
                by_cases c46 : 0 ≤ (ji45)
                · rw [if_pos c46] at H
                  have c46b0 : decide (0 ≤ (ji45)) = true := decide_eq_true c46
                  clear c46
                  by_cases c47 : (ji45) < (l0.length : Int)
                  · rw [if_pos c47] at H
                    have c47b0 : decide ((ji45) < (l0.length : Int)) = true := decide_eq_true c47
                    clear c47
                    by_cases c48 : t401 = true
                    · subst c48
                      have H1 : ((chain_Check.f kj4 (l0.take ((ji13) : Int).toNat)).bind fun t425 => (if t425 = true then (if (a2 < ((rd_T25 l0 (ji45)).f0)) then (if (t404 == t412) = true then (some ((strOfNums t403).toList == (strOfNums t411).toList)) else (some false)) else (some true)) else (some false))) = some r := by rw [if_pos rfl] at H; exact H
                      clear H
                      have H := H1
                      clear H1
                      have c49b0 := eq_true (of_decide_eq_true (by first | (with_reducible assumption) | assumption) : 0 ≤ (ji13))
                      have c50b0 := eq_true (of_decide_eq_true (by first | (with_reducible assumption) | assumption) : (ji13) ≤ (l0.length : Int))
                      have hy407 := Ny407.out
                      replace H : ((chain_Check.f kj4 y407).bind fun t425 => (if t425 = true then (if (a2 < ((rd_T25 l0 (ji45)).f0)) then (if (t404 == t412) = true then (some ((strOfNums t403).toList == (strOfNums t411).toList)) else (some false)) else (some true)) else (some false))) = some r := by first | (rw [hy407]; with_reducible exact H) | (have H2_ := (Option.bind_some _ _).symm.trans H; rw [hy407]; with_reducible exact H2_) | (have H2_ := (Option.bind_some _ _).symm.trans H; with_reducible exact H2_) | with_reducible exact H | (rw [hy407]; exact H) | exact H
                      have Ny407 := Aside0.mk hy407
                      clear hy407
                      replace H := Option.bind_eq_some_iff.mp H
                      obtain ⟨t425, A510, H⟩ := H
                      replace H : (if t425 = true then (if (a2 < ((rd_T25 l0 (ji45)).f0)) then (if (t404 == t412) = true then (some ((strOfNums t403).toList == (strOfNums t411).toList)) else (some false)) else (some true)) else (some false)) = some r := H
                      have A51 := Aside0.mk A510
                      clear A510
                      by_cases c52 : t425 = true
                      · subst c52
                        have H1 : (if (a2 < ((rd_T25 l0 (ji45)).f0)) then (if (t404 == t412) = true then (some ((strOfNums t403).toList == (strOfNums t411).toList)) else (some false)) else (some true)) = some r := by rw [if_pos rfl] at H; exact H
                        clear H
                        have H := H1
                        clear H1
                        by_cases c53 : (a2 < ((rd_T25 l0 (ji45)).f0))
                        · rw [if_pos c53] at H
                          have c53b0 : decide (a2 < ((rd_T25 l0 (ji45)).f0)) = true := decide_eq_true c53
                          clear c53
                          by_cases c54 : (t404 == t412) = true
                          · rw [if_pos c54] at H
                            have c54b0 : (t404 == t412) = true := c54
                            (try (have c54b1 : decide (t404 = t412) = true := by simpa using c54))
                            (try (have c54b2 : (t404 == t412) = true := by simpa using c54))
                            clear c54
                            obtain rfl := Option.some.inj H
                            go_wp2_with (first | ((with_reducible refine gate_callee (f := 12) rfl ?_); refine goesL_ (some 33) rfl rfl Try.func12 (by kernel_rfl) rfl #[.slice A0 l0.length c0, .int .i64 a2] rfl (by (try simp only [List.map_toArray, List.map_cons, List.map_nil]); first | done | rfl | (simp only [List.length_drop, List.length_take]; rfl)) ?_; (with_reducible refine (chain_Read.calls kj4 _ _ l0 a2 t403 t404 _ ?side1 ?side2 A12.out).mono ?_); (case side1 => repeat (first | exact (Kd.C_below HR0.out HB.out) | (with_reducible refine Kd.C_alloc ?_ _) | (with_reducible refine Kd.C_drewN ?_ _) | (with_reducible refine Kd.C_drew ?_))); (case side2 => exact HC0.out); rintro e w55 ⟨v405, rfl, ho0, hb⟩; refine ⟨_, rfl, ?_⟩; have n0_ := Aside0.mk (Kd.R_lower ho0 (below_size (by repeat (first | (with_reducible first | exact HB.out | apply below_alloc | apply pw_below_drewN | apply below_drew1) | exact HB.out)))); have n1_ := Aside0.mk (below_step (by repeat (first | (with_reducible first | exact HB.out | apply below_alloc | apply pw_below_drewN | apply below_drew1) | exact HB.out)) hb); clear HB; have HO406 := n0_; have HB := n1_; clear n0_ n1_; (try clear hb); (try clear hb2); (try clear hk); (try clear hi); (try clear ho0); have q56 : ((ji13) : Int) ≤ ((l0.length : Int) : Int) := of_decide_eq_true (by first | (with_reducible assumption) | assumption); obtain ⟨i056, hi056, _, hsz56, _⟩ := info_parts info25; have hroom56 : l0.length ≤ c0 := HC0.out; have hC56 : Kd.C k25 _ A0 l0.length l0 := HR0.out; have hcut56 := cut_to (P := Try.prog) 22 25 .i64 Try.underlying22 hi056 A0 l0.length c0 (ji13) (of_decide_eq_true (by first | (with_reducible assumption) | assumption)) q56 hroom56; have hr56 := Kd.C_take (m := ((ji13) : Int).toNat) hC56 (by omega); have hy56 : y407.length = ((ji13) : Int).toNat := (by rw [Ny407.out, List.length_take]; omega); rw [← Ny407.out] at hr56; rw [← hy56] at hcut56; have HR410 := Aside0.mk hr56; have HC410 := Aside0.mk (show y407.length ≤ c0 from by omega); clear hr56 hC56 hroom56 hi056 hsz56; have KY56 := Aside0.mk hy56; clear hy56; replace q56 := eq_true q56) | ((with_reducible refine gate_callee (f := 12) rfl ?_); refine goesL_ (some 41) rfl rfl Try.func12 (by kernel_rfl) rfl #[.slice A0 y407.length c0, .int .i64 a2] rfl (by (try simp only [List.map_toArray, List.map_cons, List.map_nil]); first | done | rfl | (simp only [List.length_drop, List.length_take]; rfl)) ?_; (with_reducible refine (chain_Read.calls kj4 _ _ y407 a2 t411 t412 _ ?side1 ?side2 A16.out).mono ?_); (case side1 => repeat (first | exact (Kd.C_below HR410.out HB.out) | (with_reducible refine Kd.C_alloc ?_ _) | (with_reducible refine Kd.C_drewN ?_ _) | (with_reducible refine Kd.C_drew ?_))); (case side2 => exact HC410.out); rintro e w57 ⟨v413, rfl, ho0, hb⟩; refine ⟨_, rfl, ?_⟩; have n0_ := Aside0.mk (Kd.R_elder' (by (with_reducible repeat (first | apply Kd.R_alloc | apply Kd.R_drewN | apply Kd.R_drew)); exact HO406.out) (Kd.R_base ho0) hb); have n1_ := Aside0.mk (Kd.R_lower (Kd.R_new' ho0 (Kd.R_lt (by (with_reducible repeat (first | apply Kd.R_alloc | apply Kd.R_drewN | apply Kd.R_drew)); exact HO406.out))) (below_size (by repeat (first | (with_reducible first | exact HB.out | apply below_alloc | apply pw_below_drewN | apply below_drew1) | exact HB.out)))); have n2_ := Aside0.mk (below_step (by repeat (first | (with_reducible first | exact HB.out | apply below_alloc | apply pw_below_drewN | apply below_drew1) | exact HB.out)) hb); clear HO406; clear HB; have HO406 := n0_; have HO414 := n1_; have HB := n2_; clear n0_ n1_ n2_; (try clear hb); (try clear hb2); (try clear hk); (try clear hi); (try clear ho0); have p420 : 0 ≤ ((ji45) : Int) := of_decide_eq_true (by first | (with_reducible assumption) | assumption); have q420 : (ji45) < (l0.length : Int) := of_decide_eq_true (by first | (with_reducible assumption) | assumption); obtain ⟨ad420, A420_2, c420_2, e420, hx420_0, hx420_1, hx420_2, hl420_2, hi420_2⟩ := at_T25 HR0.out (ji45) p420 q420; cases e420; replace hx420_0 := (HB.out.cell (World.block_lt_of_cell? w _ hx420_0)).trans hx420_0; replace hx420_1 := (HB.out.cell (World.block_lt_of_cell? w _ hx420_1)).trans hx420_1; replace hx420_2 := (HB.out.cell (World.block_lt_of_cell? w _ hx420_2)).trans hx420_2; have HR420_2 := Aside0.mk hi420_2; have HC420_2 := Aside0.mk hl420_2; clear hi420_2 hl420_2; replace p420 := eq_true p420; replace q420 := eq_true q420; have q58 : ((ji13) : Int) ≤ ((l0.length : Int) : Int) := of_decide_eq_true (by first | (with_reducible assumption) | assumption); obtain ⟨i058, hi058, _, hsz58, _⟩ := info_parts info25; have hroom58 : l0.length ≤ c0 := HC0.out; have hC58 : Kd.C k25 _ (some ad420) l0.length l0 := HR0.out; have hcut58 := cut_to (P := Try.prog) 22 25 .i64 Try.underlying22 hi058 (some ad420) l0.length c0 (ji13) (of_decide_eq_true (by first | (with_reducible assumption) | assumption)) q58 hroom58; have hr58 := Kd.C_take (m := ((ji13) : Int).toNat) hC58 (by omega); have hy58 : y407.length = ((ji13) : Int).toNat := (by rw [Ny407.out, List.length_take]; omega); rw [← Ny407.out] at hr58; rw [← hy58] at hcut58; have HR424 := Aside0.mk hr58; have HC424 := Aside0.mk (show y407.length ≤ c0 from by omega); clear hr58 hC58 hroom58 hi058 hsz58; have KY58 := Aside0.mk hy58; clear hy58; replace q58 := eq_true q58) | (go_at_call 19; (with_reducible refine (chain_Check.calls kj4 _ _ y407 true _ ?side1 ?side2 A51.out).mono ?_); (case side1 => repeat (first | exact (Kd.C_below HR424.out HB.out) | (with_reducible refine Kd.C_alloc ?_ _) | (with_reducible refine Kd.C_drewN ?_ _) | (with_reducible refine Kd.C_drew ?_))); (case side2 => exact HC424.out); rintro e w59 ⟨rfl, hb⟩; have n0_ := Aside0.mk (Kd.R_below (by (with_reducible repeat (first | apply Kd.R_alloc | apply Kd.R_drewN | apply Kd.R_drew)); exact HO406.out) hb); have n1_ := Aside0.mk (Kd.R_below (by (with_reducible repeat (first | apply Kd.R_alloc | apply Kd.R_drewN | apply Kd.R_drew)); exact HO414.out) hb); have n2_ := Aside0.mk (below_step (by repeat (first | (with_reducible first | exact HB.out | apply below_alloc | apply pw_below_drewN | apply below_drew1) | exact HB.out)) hb); clear HO406; clear HO414; clear HB; have HO406 := n0_; have HO414 := n1_; have HB := n2_; clear n0_ n1_ n2_; (try clear hb); (try clear hb2); (try clear hk); (try clear hi); have hcv60 := own_string (P := Try.prog) Try.underlying23 Try.underlying5 Try.underlying9 (Kd.own_of_R HO406.out); have hcv61 := own_string (P := Try.prog) Try.underlying23 Try.underlying5 Try.underlying9 (Kd.own_of_R HO414.out)))
                            go_ret
                            exact ⟨by first | rfl | (simp [errW_none, errW_some] <;> rfl) | (simp only [← hji13, ← hji44, ← hji45]; first | rfl | (simp [errW_none, errW_some] <;> rfl)) | (simp [*, errW_none, errW_some] <;> rfl), by repeat (first | (with_reducible first | exact HB.out | apply below_alloc | apply pw_below_drewN | apply below_drew1) | exact HB.out)⟩
                          · rw [if_neg c54] at H
                            rw [HTr_] at H
                            exact absurd (Option.some.inj H) (by decide)
                        · rw [if_neg c53] at H
                          have c53b0 : decide (a2 < ((rd_T25 l0 (ji45)).f0)) = false := decide_eq_false c53
                          clear c53
                          obtain rfl := Option.some.inj H
                          go_wp2_with (first | ((with_reducible refine gate_callee (f := 12) rfl ?_); refine goesL_ (some 33) rfl rfl Try.func12 (by kernel_rfl) rfl #[.slice A0 l0.length c0, .int .i64 a2] rfl (by (try simp only [List.map_toArray, List.map_cons, List.map_nil]); first | done | rfl | (simp only [List.length_drop, List.length_take]; rfl)) ?_; (with_reducible refine (chain_Read.calls kj4 _ _ l0 a2 t403 t404 _ ?side1 ?side2 A12.out).mono ?_); (case side1 => repeat (first | exact (Kd.C_below HR0.out HB.out) | (with_reducible refine Kd.C_alloc ?_ _) | (with_reducible refine Kd.C_drewN ?_ _) | (with_reducible refine Kd.C_drew ?_))); (case side2 => exact HC0.out); rintro e w67 ⟨v405, rfl, ho0, hb⟩; refine ⟨_, rfl, ?_⟩; have n0_ := Aside0.mk (Kd.R_lower ho0 (below_size (by repeat (first | (with_reducible first | exact HB.out | apply below_alloc | apply pw_below_drewN | apply below_drew1) | exact HB.out)))); have n1_ := Aside0.mk (below_step (by repeat (first | (with_reducible first | exact HB.out | apply below_alloc | apply pw_below_drewN | apply below_drew1) | exact HB.out)) hb); clear HB; have HO406 := n0_; have HB := n1_; clear n0_ n1_; (try clear hb); (try clear hb2); (try clear hk); (try clear hi); (try clear ho0); have q68 : ((ji13) : Int) ≤ ((l0.length : Int) : Int) := of_decide_eq_true (by first | (with_reducible assumption) | assumption); obtain ⟨i068, hi068, _, hsz68, _⟩ := info_parts info25; have hroom68 : l0.length ≤ c0 := HC0.out; have hC68 : Kd.C k25 _ A0 l0.length l0 := HR0.out; have hcut68 := cut_to (P := Try.prog) 22 25 .i64 Try.underlying22 hi068 A0 l0.length c0 (ji13) (of_decide_eq_true (by first | (with_reducible assumption) | assumption)) q68 hroom68; have hr68 := Kd.C_take (m := ((ji13) : Int).toNat) hC68 (by omega); have hy68 : y407.length = ((ji13) : Int).toNat := (by rw [Ny407.out, List.length_take]; omega); rw [← Ny407.out] at hr68; rw [← hy68] at hcut68; have HR410 := Aside0.mk hr68; have HC410 := Aside0.mk (show y407.length ≤ c0 from by omega); clear hr68 hC68 hroom68 hi068 hsz68; have KY68 := Aside0.mk hy68; clear hy68; replace q68 := eq_true q68) | ((with_reducible refine gate_callee (f := 12) rfl ?_); refine goesL_ (some 41) rfl rfl Try.func12 (by kernel_rfl) rfl #[.slice A0 y407.length c0, .int .i64 a2] rfl (by (try simp only [List.map_toArray, List.map_cons, List.map_nil]); first | done | rfl | (simp only [List.length_drop, List.length_take]; rfl)) ?_; (with_reducible refine (chain_Read.calls kj4 _ _ y407 a2 t411 t412 _ ?side1 ?side2 A16.out).mono ?_); (case side1 => repeat (first | exact (Kd.C_below HR410.out HB.out) | (with_reducible refine Kd.C_alloc ?_ _) | (with_reducible refine Kd.C_drewN ?_ _) | (with_reducible refine Kd.C_drew ?_))); (case side2 => exact HC410.out); rintro e w69 ⟨v413, rfl, ho0, hb⟩; refine ⟨_, rfl, ?_⟩; have n0_ := Aside0.mk (Kd.R_elder' (by (with_reducible repeat (first | apply Kd.R_alloc | apply Kd.R_drewN | apply Kd.R_drew)); exact HO406.out) (Kd.R_base ho0) hb); have n1_ := Aside0.mk (Kd.R_lower (Kd.R_new' ho0 (Kd.R_lt (by (with_reducible repeat (first | apply Kd.R_alloc | apply Kd.R_drewN | apply Kd.R_drew)); exact HO406.out))) (below_size (by repeat (first | (with_reducible first | exact HB.out | apply below_alloc | apply pw_below_drewN | apply below_drew1) | exact HB.out)))); have n2_ := Aside0.mk (below_step (by repeat (first | (with_reducible first | exact HB.out | apply below_alloc | apply pw_below_drewN | apply below_drew1) | exact HB.out)) hb); clear HO406; clear HB; have HO406 := n0_; have HO414 := n1_; have HB := n2_; clear n0_ n1_ n2_; (try clear hb); (try clear hb2); (try clear hk); (try clear hi); (try clear ho0); have p420 : 0 ≤ ((ji45) : Int) := of_decide_eq_true (by first | (with_reducible assumption) | assumption); have q420 : (ji45) < (l0.length : Int) := of_decide_eq_true (by first | (with_reducible assumption) | assumption); obtain ⟨ad420, A420_2, c420_2, e420, hx420_0, hx420_1, hx420_2, hl420_2, hi420_2⟩ := at_T25 HR0.out (ji45) p420 q420; cases e420; replace hx420_0 := (HB.out.cell (World.block_lt_of_cell? w _ hx420_0)).trans hx420_0; replace hx420_1 := (HB.out.cell (World.block_lt_of_cell? w _ hx420_1)).trans hx420_1; replace hx420_2 := (HB.out.cell (World.block_lt_of_cell? w _ hx420_2)).trans hx420_2; have HR420_2 := Aside0.mk hi420_2; have HC420_2 := Aside0.mk hl420_2; clear hi420_2 hl420_2; replace p420 := eq_true p420; replace q420 := eq_true q420; have q70 : ((ji13) : Int) ≤ ((l0.length : Int) : Int) := of_decide_eq_true (by first | (with_reducible assumption) | assumption); obtain ⟨i070, hi070, _, hsz70, _⟩ := info_parts info25; have hroom70 : l0.length ≤ c0 := HC0.out; have hC70 : Kd.C k25 _ (some ad420) l0.length l0 := HR0.out; have hcut70 := cut_to (P := Try.prog) 22 25 .i64 Try.underlying22 hi070 (some ad420) l0.length c0 (ji13) (of_decide_eq_true (by first | (with_reducible assumption) | assumption)) q70 hroom70; have hr70 := Kd.C_take (m := ((ji13) : Int).toNat) hC70 (by omega); have hy70 : y407.length = ((ji13) : Int).toNat := (by rw [Ny407.out, List.length_take]; omega); rw [← Ny407.out] at hr70; rw [← hy70] at hcut70; have HR424 := Aside0.mk hr70; have HC424 := Aside0.mk (show y407.length ≤ c0 from by omega); clear hr70 hC70 hroom70 hi070 hsz70; have KY70 := Aside0.mk hy70; clear hy70; replace q70 := eq_true q70) | (go_at_call 19; (with_reducible refine (chain_Check.calls kj4 _ _ y407 true _ ?side1 ?side2 A51.out).mono ?_); (case side1 => repeat (first | exact (Kd.C_below HR424.out HB.out) | (with_reducible refine Kd.C_alloc ?_ _) | (with_reducible refine Kd.C_drewN ?_ _) | (with_reducible refine Kd.C_drew ?_))); (case side2 => exact HC424.out); rintro e w71 ⟨rfl, hb⟩; have n0_ := Aside0.mk (Kd.R_below (by (with_reducible repeat (first | apply Kd.R_alloc | apply Kd.R_drewN | apply Kd.R_drew)); exact HO406.out) hb); have n1_ := Aside0.mk (Kd.R_below (by (with_reducible repeat (first | apply Kd.R_alloc | apply Kd.R_drewN | apply Kd.R_drew)); exact HO414.out) hb); have n2_ := Aside0.mk (below_step (by repeat (first | (with_reducible first | exact HB.out | apply below_alloc | apply pw_below_drewN | apply below_drew1) | exact HB.out)) hb); clear HO406; clear HO414; clear HB; have HO406 := n0_; have HO414 := n1_; have HB := n2_; clear n0_ n1_ n2_; (try clear hb); (try clear hb2); (try clear hk); (try clear hi)))
                          go_ret
                          exact ⟨by first | rfl | (simp [errW_none, errW_some] <;> rfl) | (simp only [← hji13, ← hji44, ← hji45]; first | rfl | (simp [errW_none, errW_some] <;> rfl)) | (simp [*, errW_none, errW_some] <;> rfl), by repeat (first | (with_reducible first | exact HB.out | apply below_alloc | apply pw_below_drewN | apply below_drew1) | exact HB.out)⟩
                      · replace c52 := Bool.eq_false_iff.mpr c52
                        subst c52
                        have H1 : (some false) = some r := by rw [if_neg (show ¬ (false = true) by decide)] at H; exact H
                        rw [HTr_] at H1
                        exact absurd (Option.some.inj H1) (by decide)
                    · replace c48 := Bool.eq_false_iff.mpr c48
                      subst c48
                      have H1 : (some false) = some r := by rw [if_neg (show ¬ (false = true) by decide)] at H; exact H
                      rw [HTr_] at H1
                      exact absurd (Option.some.inj H1) (by decide)
                  · rw [if_neg c47] at H
                    exact absurd H (by simp)
                · rw [if_neg c46] at H
                  exact absurd H (by simp)
            · rw [if_neg c15] at H
              exact absurd H (by simp)
          · rw [if_neg c14] at H
            exact absurd H (by simp)

/-- The law, plainly. -/
def banksmanlaw05_ChainCuts.Pure : Prop := ∀ (l0 : List (S25)) (a1 : Int) (a2 : Int), (fun xs_ : List (S25) => xs_.length ≤ maxLen ∧ ∀ x ∈ xs_, (fun x_ : S25 => (fun n_ : Int => (Lit.int .i64 n_).wf = true) x_.f0 ∧ (fun _ : Bool => True) x_.f1 ∧ (fun xs_ : List Int => xs_.length ≤ maxLen ∧ ∀ x ∈ xs_, (fun n_ : Int => (Lit.int .u8 n_).wf = true) x) x_.f2) x) l0 → (fun n_ : Int => (Lit.int .u8 n_).wf = true) a1 → (fun n_ : Int => (Lit.int .i64 n_).wf = true) a2 → ∃ k, banksmanlaw05_ChainCuts.f k l0 a1 a2 = some true

end Go.Proofs.Ytdkfahobgnmglaa.P
