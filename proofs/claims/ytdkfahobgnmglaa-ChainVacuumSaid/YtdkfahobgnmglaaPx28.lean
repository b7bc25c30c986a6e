-- Written by wip/gprint.py, a program of this session over the kit's print; Lean checks it.
import Derived.Test.YtdkfahobgnmglaaPx0
import Derived.Test.YtdkfahobgnmglaaPx6
import Derived.Test.YtdkfahobgnmglaaPx10
import Derived.Test.YtdkfahobgnmglaaPx14
import Derived.Test.YtdkfahobgnmglaaPx15
import Derived.Test.YtdkfahobgnmglaaPx16
import Derived.Test.YtdkfahobgnmglaaPx17
import Derived.Test.YtdkfahobgnmglaaPx24
namespace Go.Proofs.Ytdkfahobgnmglaa.P
open Go.RowKit Go.Proofs.YtdkfahobgnmglaaW.PrintWords Go.Proofs.YtdkfahobgnmglaaW.PrintLast Go.Proofs.YtdkfahobgnmglaaW.PrintMore
attribute [local go_sem] max2_int min2_int max_two min_two max_three min_three max_four min_four   -- for this text's walks alone
set_option linter.unusedVariables false
set_option linter.unusedSimpArgs false

/-! ### banksmanlaw05_ChainVacuum: function 4 -/
mutual
def banksmanlaw05_ChainVacuum.j0 : Nat → List (S25) → Int → Int → Bool → Bool → Option (Bool)
  | 0, _, _, _, _, _ => none
  | k + 1, x0, x1, x2, x7, x22 => if x22 = true then (some x7) else ((chain_Vacuum.f k x0 x1).bind fun t324 => ((chain_Vacuum.f k t324 x1).bind fun t327 => ((banksmanref05_Same.f k t327 t324).bind fun t330 => (if (t324.length : Int) > (x0.length : Int) then (banksmanlaw05_ChainVacuum.j1 k x0 x1 x2 x7 t324 t330 true) else (if (t324.length : Int) > 1 then (if 1 < (t324.length : Int) then (banksmanlaw05_ChainVacuum.j1 k x0 x1 x2 x7 t324 t330 (decide (((rd_T25 t324 1).f0) ≤ x1))) else (none)) else (banksmanlaw05_ChainVacuum.j1 k x0 x1 x2 x7 t324 t330 false))))))
def banksmanlaw05_ChainVacuum.j1 : Nat → List (S25) → Int → Int → Bool → List (S25) → Bool → Bool → Option (Bool)
  | 0, _, _, _, _, _, _, _ => none
  | k + 1, x0, x1, x2, x7, x8, x9, x49 => if x49 = true then (some false) else (if x2 < x1 then (if x7 = true then (if x9 = true then ((chain_Check.f k x8).bind fun t332 => (some t332)) else (some false)) else (some false)) else ((chain_Read.f k x0 x2).bind fun bt333 => ((chain_Read.f k x8 x2).bind fun bt337 => (if x7 = true then (if x9 = true then ((chain_Check.f k x8).bind fun t341 => (if t341 = true then (if (strOfNums bt333.1).toList = (strOfNums bt337.1).toList then (if (bt333.2 == bt337.2) = true then ((chain_Newer.f k x8 x2).bind fun t342 => ((chain_Newer.f k x0 x2).bind fun t343 => (some (t342 == t343)))) else (some false)) else (some false)) else (some false))) else (some false)) else (some false)))))
end
def banksmanlaw05_ChainVacuum.f (k : Nat) (l0 : List (S25)) (a1 : Int) (a2 : Int) : Option (Bool) := (banksmanlaw05_awake.f k).bind fun t321 => ((banksmanlaw05_few.f k l0).bind fun t322 => (if t322 = true then ((chain_Check.f k l0).bind fun t323 => (banksmanlaw05_ChainVacuum.j0 k l0 a1 a2 t321 (!t323))) else (banksmanlaw05_ChainVacuum.j0 k l0 a1 a2 t321 true)))
theorem banksmanlaw05_ChainVacuum.mono_l : ∀ k, (∀ y0 y1 y2 y3 y4, LeO (banksmanlaw05_ChainVacuum.j0 k y0 y1 y2 y3 y4) (banksmanlaw05_ChainVacuum.j0 (k + 1) y0 y1 y2 y3 y4)) ∧ (∀ y0 y1 y2 y3 y4 y5 y6, LeO (banksmanlaw05_ChainVacuum.j1 k y0 y1 y2 y3 y4 y5 y6) (banksmanlaw05_ChainVacuum.j1 (k + 1) y0 y1 y2 y3 y4 y5 y6))
  | 0 => ⟨fun _ _ _ _ _ r h => by simp [banksmanlaw05_ChainVacuum.j0] at h, fun _ _ _ _ _ _ _ r h => by simp [banksmanlaw05_ChainVacuum.j1] at h⟩
  | k + 1 => by
    obtain ⟨ih0, ih1⟩ := banksmanlaw05_ChainVacuum.mono_l k
    refine ⟨?_, ?_⟩
    · intro y0 y1 y2 y3 y4
      unfold banksmanlaw05_ChainVacuum.j0
      repeat' first
      | (with_reducible exact ih0 _ _ _ _ _)
      | (with_reducible exact ih1 _ _ _ _ _ _ _)
      | (with_reducible exact banksmanlaw05_awake.mono _)
      | (with_reducible exact banksmanlaw05_few.mono _ _)
      | (with_reducible exact banksmanref05_Same.mono _ _ _)
      | (with_reducible exact chain_Check.mono _ _)
      | (with_reducible exact chain_Newer.mono _ _ _)
      | (with_reducible exact chain_Read.mono _ _ _)
      | (with_reducible exact chain_Vacuum.mono _ _ _)
      | (with_reducible exact LeO.refl _)
      | (with_reducible exact LeO.none _)
      | (with_reducible refine LeO.ite ?_ ?_)
      | (with_reducible refine LeO.bind ?_ (fun _ => ?_))
      | exact ih0 _ _ _ _ _
      | exact ih1 _ _ _ _ _ _ _
      | exact banksmanlaw05_awake.mono _
      | exact banksmanlaw05_few.mono _ _
      | exact banksmanref05_Same.mono _ _ _
      | exact chain_Check.mono _ _
      | exact chain_Newer.mono _ _ _
      | exact chain_Read.mono _ _ _
      | exact chain_Vacuum.mono _ _ _
      | exact LeO.none _
      | refine LeO.ite ?_ ?_
      | refine LeO.bind ?_ (fun _ => ?_)
    · intro y0 y1 y2 y3 y4 y5 y6
      unfold banksmanlaw05_ChainVacuum.j1
      repeat' first
      | (with_reducible exact ih0 _ _ _ _ _)
      | (with_reducible exact ih1 _ _ _ _ _ _ _)
      | (with_reducible exact banksmanlaw05_awake.mono _)
      | (with_reducible exact banksmanlaw05_few.mono _ _)
      | (with_reducible exact banksmanref05_Same.mono _ _ _)
      | (with_reducible exact chain_Check.mono _ _)
      | (with_reducible exact chain_Newer.mono _ _ _)
      | (with_reducible exact chain_Read.mono _ _ _)
      | (with_reducible exact chain_Vacuum.mono _ _ _)
      | (with_reducible exact LeO.refl _)
      | (with_reducible exact LeO.none _)
      | (with_reducible refine LeO.ite ?_ ?_)
      | (with_reducible refine LeO.bind ?_ (fun _ => ?_))
      | exact ih0 _ _ _ _ _
      | exact ih1 _ _ _ _ _ _ _
      | exact banksmanlaw05_awake.mono _
      | exact banksmanlaw05_few.mono _ _
      | exact banksmanref05_Same.mono _ _ _
      | exact chain_Check.mono _ _
      | exact chain_Newer.mono _ _ _
      | exact chain_Read.mono _ _ _
      | exact chain_Vacuum.mono _ _ _
      | exact LeO.none _
      | refine LeO.ite ?_ ?_
      | refine LeO.bind ?_ (fun _ => ?_)
theorem banksmanlaw05_ChainVacuum.mono : ∀ a0 a1 a2 k, LeO (banksmanlaw05_ChainVacuum.f k a0 a1 a2) (banksmanlaw05_ChainVacuum.f (k + 1) a0 a1 a2) := by
  intro a0 a1 a2 k
  obtain ⟨ih0, ih1⟩ := banksmanlaw05_ChainVacuum.mono_l k
  unfold banksmanlaw05_ChainVacuum.f
  repeat' first
      | (with_reducible exact ih0 _ _ _ _ _)
      | (with_reducible exact ih1 _ _ _ _ _ _ _)
      | (with_reducible exact banksmanlaw05_awake.mono _)
      | (with_reducible exact banksmanlaw05_few.mono _ _)
      | (with_reducible exact banksmanref05_Same.mono _ _ _)
      | (with_reducible exact chain_Check.mono _ _)
      | (with_reducible exact chain_Newer.mono _ _ _)
      | (with_reducible exact chain_Read.mono _ _ _)
      | (with_reducible exact chain_Vacuum.mono _ _ _)
      | (with_reducible exact LeO.refl _)
      | (with_reducible exact LeO.none _)
      | (with_reducible refine LeO.ite ?_ ?_)
      | (with_reducible refine LeO.bind ?_ (fun _ => ?_))
      | exact ih0 _ _ _ _ _
      | exact ih1 _ _ _ _ _ _ _
      | exact banksmanlaw05_awake.mono _
      | exact banksmanlaw05_few.mono _ _
      | exact banksmanref05_Same.mono _ _ _
      | exact chain_Check.mono _ _
      | exact chain_Newer.mono _ _ _
      | exact chain_Read.mono _ _ _
      | exact chain_Vacuum.mono _ _ _
      | exact LeO.none _
      | refine LeO.ite ?_ ?_
      | refine LeO.bind ?_ (fun _ => ?_)
set_option maxHeartbeats 8000000 in
set_option maxRecDepth 100000 in
theorem banksmanlaw05_ChainVacuum.calls (k : Nat) (A0 : Option Addr) (c0 : Nat) (l0 : List (S25)) (a1 : Int) (a2 : Int) (r : Bool) (w : World) (hr0 : Kd.C k25 w A0 l0.length l0) (hc0 : l0.length ≤ c0) (h : banksmanlaw05_ChainVacuum.f k l0 a1 a2 = some r) (HTr_ : r = true) :
    Calls Try.prog 4 #[.slice A0 l0.length c0, .int .i64 a1, .int .i64 a2] w fun e w' => e = .returned (.bool r) ∧ Below w.heap.size w w' := by
  have HR0 := Aside0.mk hr0
  have HC0 := Aside0.mk hc0
  clear hr0 hc0
  have HB := Aside0.mk (Below.refl w.heap.size w)
  have H : ((banksmanlaw05_awake.f k).bind fun t321 => ((banksmanlaw05_few.f k l0).bind fun t322 => (if t322 = true then ((chain_Check.f k l0).bind fun t323 => (banksmanlaw05_ChainVacuum.j0 k l0 a1 a2 t321 (!t323))) else (banksmanlaw05_ChainVacuum.j0 k l0 a1 a2 t321 true)))) = some r := h
  clear h
  replace H := Option.bind_eq_some_iff.mp H
  obtain ⟨t321, A40, H⟩ := H
  replace H : ((banksmanlaw05_few.f k l0).bind fun t322 => (if t322 = true then ((chain_Check.f k l0).bind fun t323 => (banksmanlaw05_ChainVacuum.j0 k l0 a1 a2 t321 (!t323))) else (banksmanlaw05_ChainVacuum.j0 k l0 a1 a2 t321 true))) = some r := H
  have A4 := Aside0.mk A40
  clear A40
  have HC5 := Aside0.mk H
  clear H
  go_enter Try.func4, Try.ntmps4
  go_upto_region 2 with (first | ((with_reducible refine gate_callee (f := 10) rfl ?_); refine goesL_ (some 14) rfl rfl Try.func10 (by kernel_rfl) rfl #[] rfl (by (try simp only [List.map_toArray, List.map_cons, List.map_nil]); first | done | rfl | (simp only [List.length_drop, List.length_take]; rfl)) ?_; (with_reducible refine (banksmanlaw05_awake.calls k  t321 _ A4.out).mono ?_); rintro e w6 ⟨rfl, hb⟩; refine ⟨_, rfl, ?_⟩; have n0_ := Aside0.mk (below_step (by repeat (first | (with_reducible first | exact HB.out | apply below_alloc | apply pw_below_drewN | apply below_drew1) | exact HB.out)) hb); clear HB; have HB := n0_; clear n0_; (try clear hb); (try clear hb2); (try clear hk); (try clear hi)))
  (try simp only [Act.put, List.setIfInBounds_toArray, List.set_cons_zero, List.set_cons_succ])
  go_cut [22] (fun v22 wc => ∃ (kq : Nat) (x22_4 : Bool), v22 = .bool x22_4 ∧ Aside0 (banksmanlaw05_ChainVacuum.j0 kq l0 a1 a2 t321 x22_4 = some r) ∧ Aside0 (kq ≤ k) ∧ Aside0 (Below w.heap.size w wc))
  case first =>
    have H := HC5.out
    clear HC5
    replace H := Option.bind_eq_some_iff.mp H
    obtain ⟨t322, A70, H⟩ := H
    replace H : (if t322 = true then ((chain_Check.f k l0).bind fun t323 => (banksmanlaw05_ChainVacuum.j0 k l0 a1 a2 t321 (!t323))) else (banksmanlaw05_ChainVacuum.j0 k l0 a1 a2 t321 true)) = some r := H
    have A7 := Aside0.mk A70
    clear A70
    by_cases c8 : t322 = true
    · subst c8
      have H1 : ((chain_Check.f k l0).bind fun t323 => (banksmanlaw05_ChainVacuum.j0 k l0 a1 a2 t321 (!t323))) = some r := by rw [if_pos rfl] at H; exact H
      clear H
      have H := H1
      clear H1
      replace H := Option.bind_eq_some_iff.mp H
      obtain ⟨t323, A90, H⟩ := H
      replace H : (banksmanlaw05_ChainVacuum.j0 k l0 a1 a2 t321 (!t323)) = some r := H
      have A9 := Aside0.mk A90
      clear A90
      have H' := Aside0.mk H
      clear H
      go_wp2_with (first | ((with_reducible refine gate_callee (f := 11) rfl ?_); refine goesL_ (some 16) rfl rfl Try.func11 (by kernel_rfl) rfl #[.slice A0 l0.length c0] rfl (by (try simp only [List.map_toArray, List.map_cons, List.map_nil]); first | done | rfl | (simp only [List.length_drop, List.length_take]; rfl)) ?_; (with_reducible refine (banksmanlaw05_few.calls k _ _ l0 true _ ?side1 ?side2 A7.out).mono ?_); (case side1 => repeat (first | exact (Kd.C_below HR0.out HB.out) | (with_reducible refine Kd.C_alloc ?_ _) | (with_reducible refine Kd.C_drewN ?_ _) | (with_reducible refine Kd.C_drew ?_))); (case side2 => exact HC0.out); rintro e w' ⟨rfl, ⟨nd, rfl⟩⟩; refine ⟨_, rfl, ?_⟩) | (go_at_call 19; (with_reducible refine (chain_Check.calls k _ _ l0 t323 _ ?side1 ?side2 A9.out).mono ?_); (case side1 => repeat (first | exact (Kd.C_below HR0.out (by repeat (first | (with_reducible first | exact HB.out | apply below_alloc | apply pw_below_drewN | apply below_drew1) | exact HB.out))) | (with_reducible refine Kd.C_alloc ?_ _) | (with_reducible refine Kd.C_drewN ?_ _) | (with_reducible refine Kd.C_drew ?_))); (case side2 => exact HC0.out); rintro e w10 ⟨rfl, hb⟩; have n0_ := Aside0.mk (below_step (by repeat (first | (with_reducible first | exact HB.out | apply below_alloc | apply pw_below_drewN | apply below_drew1) | exact HB.out)) hb); clear HB; have HB := n0_; clear n0_; (try clear hb); (try clear hb2); (try clear hk); (try clear hi)))
      go_meet
      case rel => exact ⟨_, (!t323), (by first | rfl | (simp; done) | (simp [*]; done)), H', ⟨by first | omega | exact Nat.le_refl _⟩, ⟨by repeat (first | (with_reducible first | exact HB.out | apply below_alloc | apply pw_below_drewN | apply below_drew1) | exact HB.out)⟩⟩
    · replace c8 := Bool.eq_false_iff.mpr c8
      subst c8
      have H1 : (banksmanlaw05_ChainVacuum.j0 k l0 a1 a2 t321 true) = some r := by rw [if_neg (show ¬ (false = true) by decide)] at H; exact H
      clear H
      have H := H1
      clear H1
      have H' := Aside0.mk H
      clear H
      go_wp2_with (first | ((with_reducible refine gate_callee (f := 11) rfl ?_); refine goesL_ (some 16) rfl rfl Try.func11 (by kernel_rfl) rfl #[.slice A0 l0.length c0] rfl (by (try simp only [List.map_toArray, List.map_cons, List.map_nil]); first | done | rfl | (simp only [List.length_drop, List.length_take]; rfl)) ?_; (with_reducible refine (banksmanlaw05_few.calls k _ _ l0 false _ ?side1 ?side2 A7.out).mono ?_); (case side1 => repeat (first | exact (Kd.C_below HR0.out HB.out) | (with_reducible refine Kd.C_alloc ?_ _) | (with_reducible refine Kd.C_drewN ?_ _) | (with_reducible refine Kd.C_drew ?_))); (case side2 => exact HC0.out); rintro e w' ⟨rfl, ⟨nd, rfl⟩⟩; refine ⟨_, rfl, ?_⟩))
      go_meet
      case rel => exact ⟨_, (true), (by first | rfl | (simp; done) | (simp [*]; done)), H', ⟨by first | omega | exact Nat.le_refl _⟩, ⟨by repeat (first | (with_reducible first | exact HB.out | apply below_alloc | apply pw_below_drewN | apply below_drew1) | exact HB.out)⟩⟩
  case rest =>
    clear HC5
    try clear c1
    try clear p2
    try clear c4
    try clear c8
    try clear c10
    obtain ⟨kq, x22_4, rfl, HA, HJ4, HB⟩ := hcut
    cases kq with
    | zero => exact absurd HA.out (by simp [banksmanlaw05_ChainVacuum.j0])
    | succ kj4 =>
      have H := HA.out
      clear HA
      simp only [banksmanlaw05_ChainVacuum.j0] at H
      by_cases c11 : x22_4 = true
      · subst c11
        have H1 : (some t321) = some r := by rw [if_pos rfl] at H; exact H
        clear H
        have H := H1
        clear H1
        obtain rfl := Option.some.inj H
        go_wp2
        go_ret
        exact ⟨by first | rfl | (simp [errW_none, errW_some] <;> rfl) | (simp [*, errW_none, errW_some] <;> rfl), by repeat (first | (with_reducible first | exact HB.out | apply below_alloc | apply pw_below_drewN | apply below_drew1) | exact HB.out)⟩
      · replace c11 := Bool.eq_false_iff.mpr c11
        subst c11
        have H1 : ((chain_Vacuum.f kj4 l0 a1).bind fun t324 => ((chain_Vacuum.f kj4 t324 a1).bind fun t327 => ((banksmanref05_Same.f kj4 t327 t324).bind fun t330 => (if (t324.length : Int) > (l0.length : Int) then (banksmanlaw05_ChainVacuum.j1 kj4 l0 a1 a2 t321 t324 t330 true) else (if (t324.length : Int) > 1 then (if 1 < (t324.length : Int) then (banksmanlaw05_ChainVacuum.j1 kj4 l0 a1 a2 t321 t324 t330 (decide (((rd_T25 t324 1).f0) ≤ a1))) else (none)) else (banksmanlaw05_ChainVacuum.j1 kj4 l0 a1 a2 t321 t324 t330 false)))))) = some r := by rw [if_neg (show ¬ (false = true) by decide)] at H; exact H
        clear H
        have H := H1
        clear H1
        replace H := Option.bind_eq_some_iff.mp H
        obtain ⟨t324, A120, H⟩ := H
        replace H : ((chain_Vacuum.f kj4 t324 a1).bind fun t327 => ((banksmanref05_Same.f kj4 t327 t324).bind fun t330 => (if (t324.length : Int) > (l0.length : Int) then (banksmanlaw05_ChainVacuum.j1 kj4 l0 a1 a2 t321 t324 t330 true) else (if (t324.length : Int) > 1 then (if 1 < (t324.length : Int) then (banksmanlaw05_ChainVacuum.j1 kj4 l0 a1 a2 t321 t324 t330 (decide (((rd_T25 t324 1).f0) ≤ a1))) else (none)) else (banksmanlaw05_ChainVacuum.j1 kj4 l0 a1 a2 t321 t324 t330 false))))) = some r := H
        have A12 := Aside0.mk A120
        clear A120
        replace H := Option.bind_eq_some_iff.mp H
        obtain ⟨t327, A130, H⟩ := H
        replace H : ((banksmanref05_Same.f kj4 t327 t324).bind fun t330 => (if (t324.length : Int) > (l0.length : Int) then (banksmanlaw05_ChainVacuum.j1 kj4 l0 a1 a2 t321 t324 t330 true) else (if (t324.length : Int) > 1 then (if 1 < (t324.length : Int) then (banksmanlaw05_ChainVacuum.j1 kj4 l0 a1 a2 t321 t324 t330 (decide (((rd_T25 t324 1).f0) ≤ a1))) else (none)) else (banksmanlaw05_ChainVacuum.j1 kj4 l0 a1 a2 t321 t324 t330 false)))) = some r := H
        have A13 := Aside0.mk A130
        clear A130
        replace H := Option.bind_eq_some_iff.mp H
        obtain ⟨t330, A140, H⟩ := H
        replace H : (if (t324.length : Int) > (l0.length : Int) then (banksmanlaw05_ChainVacuum.j1 kj4 l0 a1 a2 t321 t324 t330 true) else (if (t324.length : Int) > 1 then (if 1 < (t324.length : Int) then (banksmanlaw05_ChainVacuum.j1 kj4 l0 a1 a2 t321 t324 t330 (decide (((rd_T25 t324 1).f0) ≤ a1))) else (none)) else (banksmanlaw05_ChainVacuum.j1 kj4 l0 a1 a2 t321 t324 t330 false))) = some r := H
        have A14 := Aside0.mk A140
        clear A140
        have HC15 := Aside0.mk H
        clear H
        go_upto_region 6 with (first | ((with_reducible refine gate_callee (f := 17) rfl ?_); refine goesL_ (some 26) rfl rfl Try.func17 (by kernel_rfl) rfl #[.slice A0 l0.length c0, .int .i64 a1] rfl (by (try simp only [List.map_toArray, List.map_cons, List.map_nil]); first | done | rfl | (simp only [List.length_drop, List.length_take]; rfl)) ?_; (with_reducible refine (chain_Vacuum.calls kj4 _ _ l0 a1 t324 _ ?side1 ?side2 A12.out).mono ?_); (case side1 => repeat (first | exact (Kd.C_below HR0.out HB.out) | (with_reducible refine Kd.C_alloc ?_ _) | (with_reducible refine Kd.C_drewN ?_ _) | (with_reducible refine Kd.C_drew ?_))); (case side2 => exact HC0.out); rintro e w16 ⟨v325, rfl, ho0, hb⟩; refine ⟨_, rfl, ?_⟩; have n0_ := Aside0.mk (Kd.V_lower (Kd.V_mono (ok' := fun k_ => True) ho0 (fun k_ hk_ => trivial)) (below_size (by repeat (first | (with_reducible first | exact HB.out | apply below_alloc | apply pw_below_drewN | apply below_drew1) | exact HB.out)))); have n1_ := Aside0.mk (below_step (by repeat (first | (with_reducible first | exact HB.out | apply below_alloc | apply pw_below_drewN | apply below_drew1) | exact HB.out)) hb); clear HB; have HO326 := n0_; have HB := n1_; clear n0_ n1_; (try clear hb); (try clear hb2); (try clear hk); (try clear hi); (try clear ho0); obtain ⟨Ao17, co17, eo17⟩ := Kd.V_slice HO326.out; subst eo17) | ((with_reducible refine gate_callee (f := 17) rfl ?_); refine goesL_ (some 29) rfl rfl Try.func17 (by kernel_rfl) rfl #[.slice Ao17 t324.length co17, .int .i64 a1] rfl (by (try simp only [List.map_toArray, List.map_cons, List.map_nil]); first | done | rfl | (simp only [List.length_drop, List.length_take]; rfl)) ?_; (with_reducible refine (chain_Vacuum.calls kj4 _ _ t324 a1 t327 _ ?side1 ?side2 A13.out).mono ?_); (case side1 => repeat (first | exact (Kd.V_reads' HO326.out).2.2 | (with_reducible refine Kd.C_alloc ?_ _) | (with_reducible refine Kd.C_drewN ?_ _) | (with_reducible refine Kd.C_drew ?_))); (case side2 => exact (Kd.V_reads' HO326.out).2.1); rintro e w18 ⟨v328, rfl, ho0, hb⟩; refine ⟨_, rfl, ?_⟩; have n0_ := Aside0.mk (Kd.V_below (by (with_reducible repeat (first | apply Kd.V_alloc | apply Kd.V_drewN | apply Kd.V_drew)); exact HO326.out) hb); have n1_ := Aside0.mk (Kd.V_lower (Kd.V_mono (ok' := fun k_ => True) ho0 (fun k_ hk_ => trivial)) (below_size (by repeat (first | (with_reducible first | exact HB.out | apply below_alloc | apply pw_below_drewN | apply below_drew1) | exact HB.out)))); have n2_ := Aside0.mk (below_step (by repeat (first | (with_reducible first | exact HB.out | apply below_alloc | apply pw_below_drewN | apply below_drew1) | exact HB.out)) hb); clear HO326; clear HB; have HO326 := n0_; have HO329 := n1_; have HB := n2_; clear n0_ n1_ n2_; (try clear hb); (try clear hb2); (try clear hk); (try clear hi); (try clear ho0); obtain ⟨Ao19, co19, eo19⟩ := Kd.V_slice HO329.out; subst eo19) | ((with_reducible refine gate_callee (f := 16) rfl ?_); refine goesL_ (some 31) rfl rfl Try.func16 (by kernel_rfl) rfl #[.slice Ao19 t327.length co19, .slice Ao17 t324.length co17] rfl (by (try simp only [List.map_toArray, List.map_cons, List.map_nil]); first | done | rfl | (simp only [List.length_drop, List.length_take]; rfl)) ?_; (with_reducible refine (banksmanref05_Same.calls kj4 _ _ t327 _ _ t324 t330 _ ?side1 ?side2 ?side3 ?side4 A14.out).mono ?_); (case side1 => repeat (first | exact (Kd.V_reads' HO329.out).2.2 | (with_reducible refine Kd.C_alloc ?_ _) | (with_reducible refine Kd.C_drewN ?_ _) | (with_reducible refine Kd.C_drew ?_))); (case side2 => exact (Kd.V_reads' HO329.out).2.1); (case side3 => repeat (first | exact (Kd.V_reads' HO326.out).2.2 | (with_reducible refine Kd.C_alloc ?_ _) | (with_reducible refine Kd.C_drewN ?_ _) | (with_reducible refine Kd.C_drew ?_))); (case side4 => exact (Kd.V_reads' HO326.out).2.1); rintro e w' ⟨rfl, ⟨nd, rfl⟩⟩; refine ⟨_, rfl, ?_⟩))
        (try simp only [Act.put, List.setIfInBounds_toArray, List.set_cons_zero, List.set_cons_succ])
        go_cut [49] (fun v49 wc => ∃ (kq : Nat) (x49_14 : Bool), v49 = .bool x49_14 ∧ Aside0 (banksmanlaw05_ChainVacuum.j1 kq l0 a1 a2 t321 t324 t330 x49_14 = some r) ∧ Aside0 (kq ≤ kj4) ∧ Aside0 (Kd.V k25 25 wc w.heap.size (fun _ => True) (.slice Ao17 t324.length co17) t324) ∧ Aside0 (Below w.heap.size w wc))
        case first =>
          have H := HC15.out
          clear HC15
          by_cases c20 : (t324.length : Int) > (l0.length : Int)
          · rw [if_pos c20] at H
            have c20b0 : decide ((l0.length : Int) < (t324.length : Int)) = true := decide_eq_true c20
            have c20b1 : decide (l0.length < t324.length) = true := decide_eq_true (Int.ofNat_lt.mp c20)
            clear c20
            (first | rw [c20b0] | (simp only [i64_w, i32_w]; rw [c20b0]) | skip)
            have H' := Aside0.mk H
            clear H
            go_wp2
            go_meet
            case rel => exact ⟨_, (true), (by first | rfl | (simp; done) | (simp [*]; done)), H', ⟨by have := HJ4.out; first | omega | exact Nat.le_refl _⟩, ⟨by (with_reducible repeat (first | apply Kd.V_alloc | apply Kd.V_drewN | apply Kd.V_drew)); exact HO326.out⟩, ⟨by repeat (first | (with_reducible first | exact HB.out | apply below_alloc | apply pw_below_drewN | apply below_drew1) | exact HB.out)⟩⟩
          · rw [if_neg c20] at H
            have c20b0 : decide ((l0.length : Int) < (t324.length : Int)) = false := decide_eq_false c20
            have c20b1 : decide (l0.length < t324.length) = false := decide_eq_false (fun h => c20 (Int.ofNat_lt.mpr h))
            clear c20
            (first | rw [c20b0] | (simp only [i64_w, i32_w]; rw [c20b0]) | skip)
            by_cases c21 : (t324.length : Int) > 1
            · rw [if_pos c21] at H
              have c21b0 : decide (1 < (t324.length : Int)) = true := decide_eq_true c21
              have c21b1 : decide (1 < t324.length) = true := decide_eq_true (by omega)
              clear c21
              by_cases c22 : 1 < (t324.length : Int)
              · rw [if_pos c22] at H
                have c22b0 : decide (1 < (t324.length : Int)) = true := decide_eq_true c22
                have c22b1 : decide (1 < t324.length) = true := decide_eq_true (by omega)
                clear c22
                have H' := Aside0.mk H
                clear H
                have p331 : 0 ≤ (1 : Int) := (by omega)
                have q331 : 1 < (t324.length : Int) := of_decide_eq_true (by first | (with_reducible assumption) | assumption)
                obtain ⟨ad331, A331_2, c331_2, e331, hx331_0, hx331_1, hx331_2, hl331_2, hi331_2⟩ := at_T25 (Kd.V_reads' HO326.out).2.2 1 p331 q331
                cases e331
                obtain ⟨ce331, hce331, hMe331, hcc331⟩ := Kd.V_get HO326.out z25 1 p331 (by first | exact q331 | exact of_decide_eq_true (by first | (with_reducible assumption) | assumption) | (have e_ := (Kd.V_reads' HO326.out).1; omega))
                obtain ⟨ua331_2, uc331_2, rfl, ul331_2, ge331_2⟩ := k25_openF hMe331
                have hv331_2 := hcc331 2 _ rfl
                rw [add_field _ _ 2 (by omega)] at hv331_2
                replace hv331_2 := Option.some.inj (hv331_2.symm.trans hx331_2)
                injection hv331_2 with hva_ hvn_ hvc_
                rw [hva_] at ge331_2
                rw [hvc_] at ul331_2
                have HL331_2 := Aside0.mk (show Kd.V (Kd.int .u8) 5 _ w.heap.size _ _ ((rd_T25 t324 1).f2) from Kd.V_mk ul331_2 ge331_2)
                clear hva_ hvn_ hvc_ ge331_2 ul331_2
                clear hcc331 hce331
                (try simp only [show (1 : Int).toNat = 1 from rfl, Nat.reduceMul, Nat.reduceEqDiff, Go.Addr.add, ↓reduceIte] at hx331_0)
                (try simp only [show (1 : Int).toNat = 1 from rfl, Nat.reduceMul, Nat.reduceEqDiff, Go.Addr.add, ↓reduceIte] at hx331_1)
                (try simp only [show (1 : Int).toNat = 1 from rfl, Nat.reduceMul, Nat.reduceEqDiff, Go.Addr.add, ↓reduceIte] at hx331_2)
                have qi331 : (1 < t324.length) = True := eq_true (by omega)
                (try rw [show ((1 : Int)).toNat = 1 from rfl] at hx331_0)
                (try rw [show 1 * 3 = 3 from rfl] at hx331_0)
                (try rw [show ((1 : Int)).toNat = 1 from rfl] at hx331_1)
                (try rw [show 1 * 3 = 3 from rfl] at hx331_1)
                (try rw [show ((1 : Int)).toNat = 1 from rfl] at hx331_2)
                (try rw [show 1 * 3 = 3 from rfl] at hx331_2)
                have HR331_2 := Aside0.mk hi331_2
                have HC331_2 := Aside0.mk hl331_2
                clear hi331_2 hl331_2
                replace p331 := eq_true p331
                replace q331 := eq_true q331
                go_wp2
                go_meet
                case rel => exact ⟨_, (decide (((rd_T25 t324 1).f0) ≤ a1)), (by first | rfl | (simp; done) | (simp [*]; done)), H', ⟨by have := HJ4.out; first | omega | exact Nat.le_refl _⟩, ⟨by (with_reducible repeat (first | apply Kd.V_alloc | apply Kd.V_drewN | apply Kd.V_drew)); exact HO326.out⟩, ⟨by repeat (first | (with_reducible first | exact HB.out | apply below_alloc | apply pw_below_drewN | apply below_drew1) | exact HB.out)⟩⟩
              · rw [if_neg c22] at H
                exact absurd H (by simp)
            · rw [if_neg c21] at H
              have c21b0 : decide (1 < (t324.length : Int)) = false := decide_eq_false c21
              have c21b1 : decide (1 < t324.length) = false := decide_eq_false (by omega)
              clear c21
              have H' := Aside0.mk H
              clear H
              go_wp2
              go_meet
              case rel => exact ⟨_, (false), (by first | rfl | (simp; done) | (simp [*]; done)), H', ⟨by have := HJ4.out; first | omega | exact Nat.le_refl _⟩, ⟨by (with_reducible repeat (first | apply Kd.V_alloc | apply Kd.V_drewN | apply Kd.V_drew)); exact HO326.out⟩, ⟨by repeat (first | (with_reducible first | exact HB.out | apply below_alloc | apply pw_below_drewN | apply below_drew1) | exact HB.out)⟩⟩
        case rest =>
          clear HC15
          try clear c1
          try clear c2
          try clear p2
          try clear c3
          try clear p3
          try clear q3
          try clear hx3
          try clear qi3
          try clear c4
          try clear c8
          try clear c10
          try clear c11
          try clear c16
          try clear c17
          try clear c20
          try clear c20b0
          try clear c20b1
          try clear c21
          try clear c21b0
          try clear c21b1
          try clear c22
          try clear c22b0
          try clear c22b1
          try clear hx331_0
          try clear hx331_1
          try clear hx331_2
          try clear p2
          try clear p331
          try clear q331
          obtain ⟨kq, x49_14, rfl, HA, HJ14, HO_8, HB⟩ := hcut
          cases kq with
          | zero => exact absurd HA.out (by simp [banksmanlaw05_ChainVacuum.j1])
          | succ kj14 =>
            have H := HA.out
            clear HA
            simp only [banksmanlaw05_ChainVacuum.j1] at H
            by_cases c23 : x49_14 = true
            · subst c23
              have H1 : (some false) = some r := by rw [if_pos rfl] at H; exact H
              rw [HTr_] at H1
              exact absurd (Option.some.inj H1) (by decide)
            · replace c23 := Bool.eq_false_iff.mpr c23
              subst c23
              have H1 : (if a2 < a1 then (if t321 = true then (if t330 = true then ((chain_Check.f kj14 t324).bind fun t332 => (some t332)) else (some false)) else (some false)) else ((chain_Read.f kj14 l0 a2).bind fun bt333 => ((chain_Read.f kj14 t324 a2).bind fun bt337 => (if t321 = true then (if t330 = true then ((chain_Check.f kj14 t324).bind fun t341 => (if t341 = true then (if (strOfNums bt333.1).toList = (strOfNums bt337.1).toList then (if (bt333.2 == bt337.2) = true then ((chain_Newer.f kj14 t324 a2).bind fun t342 => ((chain_Newer.f kj14 l0 a2).bind fun t343 => (some (t342 == t343)))) else (some false)) else (some false)) else (some false))) else (some false)) else (some false))))) = some r := by rw [if_neg (show ¬ (false = true) by decide)] at H; exact H
              clear H
              have H := H1
              clear H1
              by_cases c24 : a2 < a1
              · rw [if_pos c24] at H
                have c24b0 : decide (a2 < a1) = true := decide_eq_true c24
                clear c24
                by_cases c25 : t321 = true
                · subst c25
                  have H1 : (if t330 = true then ((chain_Check.f kj14 t324).bind fun t332 => (some t332)) else (some false)) = some r := by rw [if_pos rfl] at H; exact H
                  clear H
                  have H := H1
                  clear H1
                  by_cases c26 : t330 = true
                  · subst c26
                    have H1 : ((chain_Check.f kj14 t324).bind fun t332 => (some t332)) = some r := by rw [if_pos rfl] at H; exact H
                    clear H
                    have H := H1
                    clear H1
                    replace H := Option.bind_eq_some_iff.mp H
                    obtain ⟨t332, A270, H⟩ := H
                    replace H : (some t332) = some r := H
                    have A27 := Aside0.mk A270
                    clear A270
                    obtain rfl := Option.some.inj H
                    go_wp2_with (first | (go_at_call 19; (with_reducible refine (chain_Check.calls kj14 _ _ t324 t332 _ ?side1 ?side2 A27.out).mono ?_); (case side1 => repeat (first | exact (Kd.V_reads' HO_8.out).2.2 | (with_reducible refine Kd.C_alloc ?_ _) | (with_reducible refine Kd.C_drewN ?_ _) | (with_reducible refine Kd.C_drew ?_))); (case side2 => exact (Kd.V_reads' HO_8.out).2.1); rintro e w28 ⟨rfl, hb⟩; have n0_ := Aside0.mk (Kd.V_below (by (with_reducible repeat (first | apply Kd.V_alloc | apply Kd.V_drewN | apply Kd.V_drew)); exact HO_8.out) hb); have n1_ := Aside0.mk (below_step (by repeat (first | (with_reducible first | exact HB.out | apply below_alloc | apply pw_below_drewN | apply below_drew1) | exact HB.out)) hb); clear HO_8; clear HB; have HO_8 := n0_; have HB := n1_; clear n0_ n1_; (try clear hb); (try clear hb2); (try clear hk); (try clear hi)))
                    go_ret
                    exact ⟨by first | rfl | (simp [errW_none, errW_some] <;> rfl) | (simp [*, errW_none, errW_some] <;> rfl), by repeat (first | (with_reducible first | exact HB.out | apply below_alloc | apply pw_below_drewN | apply below_drew1) | exact HB.out)⟩
                  · replace c26 := Bool.eq_false_iff.mpr c26
                    subst c26
                    have H1 : (some false) = some r := by rw [if_neg (show ¬ (false = true) by decide)] at H; exact H
                    rw [HTr_] at H1
                    exact absurd (Option.some.inj H1) (by decide)
                · replace c25 := Bool.eq_false_iff.mpr c25
                  subst c25
                  have H1 : (some false) = some r := by rw [if_neg (show ¬ (false = true) by decide)] at H; exact H
                  rw [HTr_] at H1
                  exact absurd (Option.some.inj H1) (by decide)
              · rw [if_neg c24] at H
                have c24b0 : decide (a2 < a1) = false := decide_eq_false c24
                clear c24
                replace H := Option.bind_eq_some_iff.mp H
                obtain ⟨⟨t333, t334⟩, A290, H⟩ := H
                replace H : ((chain_Read.f kj14 t324 a2).bind fun bt337 => (if t321 = true then (if t330 = true then ((chain_Check.f kj14 t324).bind fun t341 => (if t341 = true then (if (strOfNums t333).toList = (strOfNums bt337.1).toList then (if (t334 == bt337.2) = true then ((chain_Newer.f kj14 t324 a2).bind fun t342 => ((chain_Newer.f kj14 l0 a2).bind fun t343 => (some (t342 == t343)))) else (some false)) else (some false)) else (some false))) else (some false)) else (some false))) = some r := H
                have A29 := Aside0.mk A290
                clear A290
                replace H := Option.bind_eq_some_iff.mp H
                obtain ⟨⟨t337, t338⟩, A300, H⟩ := H
                replace H : (if t321 = true then (if t330 = true then ((chain_Check.f kj14 t324).bind fun t341 => (if t341 = true then (if (strOfNums t333).toList = (strOfNums t337).toList then (if (t334 == t338) = true then ((chain_Newer.f kj14 t324 a2).bind fun t342 => ((chain_Newer.f kj14 l0 a2).bind fun t343 => (some (t342 == t343)))) else (some false)) else (some false)) else (some false))) else (some false)) else (some false)) = some r := H
                have A30 := Aside0.mk A300
                clear A300
                by_cases c31 : t321 = true
                · subst c31
                  have H1 : (if t330 = true then ((chain_Check.f kj14 t324).bind fun t341 => (if t341 = true then (if (strOfNums t333).toList = (strOfNums t337).toList then (if (t334 == t338) = true then ((chain_Newer.f kj14 t324 a2).bind fun t342 => ((chain_Newer.f kj14 l0 a2).bind fun t343 => (some (t342 == t343)))) else (some false)) else (some false)) else (some false))) else (some false)) = some r := by rw [if_pos rfl] at H; exact H
                  clear H
                  have H := H1
                  clear H1
                  by_cases c32 : t330 = true
                  · subst c32
                    have H1 : ((chain_Check.f kj14 t324).bind fun t341 => (if t341 = true then (if (strOfNums t333).toList = (strOfNums t337).toList then (if (t334 == t338) = true then ((chain_Newer.f kj14 t324 a2).bind fun t342 => ((chain_Newer.f kj14 l0 a2).bind fun t343 => (some (t342 == t343)))) else (some false)) else (some false)) else (some false))) = some r := by rw [if_pos rfl] at H; exact H
                    clear H
                    have H := H1
                    clear H1
                    replace H := Option.bind_eq_some_iff.mp H
                    obtain ⟨t341, A330, H⟩ := H
                    replace H : (if t341 = true then (if (strOfNums t333).toList = (strOfNums t337).toList then (if (t334 == t338) = true then ((chain_Newer.f kj14 t324 a2).bind fun t342 => ((chain_Newer.f kj14 l0 a2).bind fun t343 => (some (t342 == t343)))) else (some false)) else (some false)) else (some false)) = some r := H
                    have A33 := Aside0.mk A330
                    clear A330
                    by_cases c34 : t341 = true
                    · subst c34
                      have H1 : (if (strOfNums t333).toList = (strOfNums t337).toList then (if (t334 == t338) = true then ((chain_Newer.f kj14 t324 a2).bind fun t342 => ((chain_Newer.f kj14 l0 a2).bind fun t343 => (some (t342 == t343)))) else (some false)) else (some false)) = some r := by rw [if_pos rfl] at H; exact H
                      clear H
                      have H := H1
                      clear H1
                      by_cases c35 : (strOfNums t333).toList = (strOfNums t337).toList
                      · rw [if_pos c35] at H
                        have c35b0 : ((strOfNums t333).toList == (strOfNums t337).toList) = true := beq_iff_eq.mpr c35
                        have c35b1 : ((strOfNums t333).toList != (strOfNums t337).toList) = false := bne_eq_false_iff_eq.mpr c35
                        clear c35
                        by_cases c36 : (t334 == t338) = true
                        · rw [if_pos c36] at H
                          have c36b0 : (t334 == t338) = true := c36
                          (try (have c36b1 : decide (t334 = t338) = true := by simpa using c36))
                          (try (have c36b2 : (t334 == t338) = true := by simpa using c36))
                          clear c36
                          replace H := Option.bind_eq_some_iff.mp H
                          obtain ⟨t342, A370, H⟩ := H
                          replace H : ((chain_Newer.f kj14 l0 a2).bind fun t343 => (some (t342 == t343))) = some r := H
                          have A37 := Aside0.mk A370
                          clear A370
                          replace H := Option.bind_eq_some_iff.mp H
                          obtain ⟨t343, A380, H⟩ := H
                          replace H : (some (t342 == t343)) = some r := H
                          have A38 := Aside0.mk A380
                          clear A380
                          obtain rfl := Option.some.inj H
                          go_wp2_with (first | ((with_reducible refine gate_callee (f := 12) rfl ?_); refine goesL_ (some 64) rfl rfl Try.func12 (by kernel_rfl) rfl #[.slice A0 l0.length c0, .int .i64 a2] rfl (by (try simp only [List.map_toArray, List.map_cons, List.map_nil]); first | done | rfl | (simp only [List.length_drop, List.length_take]; rfl)) ?_; (with_reducible refine (chain_Read.calls kj14 _ _ l0 a2 t333 t334 _ ?side1 ?side2 A29.out).mono ?_); (case side1 => repeat (first | exact (Kd.C_below HR0.out HB.out) | (with_reducible refine Kd.C_alloc ?_ _) | (with_reducible refine Kd.C_drewN ?_ _) | (with_reducible refine Kd.C_drew ?_))); (case side2 => exact HC0.out); rintro e w39 ⟨v335, rfl, ho0, hb⟩; refine ⟨_, rfl, ?_⟩; have n0_ := Aside0.mk (Kd.V_elder' (by (with_reducible repeat (first | apply Kd.V_alloc | apply Kd.V_drewN | apply Kd.V_drew)); exact HO_8.out) (Kd.R_base ho0) hb); have n1_ := Aside0.mk (Kd.R_lower ho0 (below_size (by repeat (first | (with_reducible first | exact HB.out | apply below_alloc | apply pw_below_drewN | apply below_drew1) | exact HB.out)))); have n2_ := Aside0.mk (below_step (by repeat (first | (with_reducible first | exact HB.out | apply below_alloc | apply pw_below_drewN | apply below_drew1) | exact HB.out)) hb); clear HO_8; clear HB; have HO_8 := n0_; have HO336 := n1_; have HB := n2_; clear n0_ n1_ n2_; (try clear hb); (try clear hb2); (try clear hk); (try clear hi); (try clear ho0)) | ((with_reducible refine gate_callee (f := 12) rfl ?_); refine goesL_ (some 70) rfl rfl Try.func12 (by kernel_rfl) rfl #[.slice Ao17 t324.length co17, .int .i64 a2] rfl (by (try simp only [List.map_toArray, List.map_cons, List.map_nil]); first | done | rfl | (simp only [List.length_drop, List.length_take]; rfl)) ?_; (with_reducible refine (chain_Read.calls kj14 _ _ t324 a2 t337 t338 _ ?side1 ?side2 A30.out).mono ?_); (case side1 => repeat (first | exact (Kd.V_reads' HO_8.out).2.2 | (with_reducible refine Kd.C_alloc ?_ _) | (with_reducible refine Kd.C_drewN ?_ _) | (with_reducible refine Kd.C_drew ?_))); (case side2 => exact (Kd.V_reads' HO_8.out).2.1); rintro e w40 ⟨v339, rfl, ho0, hb⟩; refine ⟨_, rfl, ?_⟩; have n0_ := Aside0.mk (Kd.V_elder' (by (with_reducible repeat (first | apply Kd.V_alloc | apply Kd.V_drewN | apply Kd.V_drew)); exact HO_8.out) (Kd.R_base ho0) hb); have n1_ := Aside0.mk (Kd.R_elder' (by (with_reducible repeat (first | apply Kd.R_alloc | apply Kd.R_drewN | apply Kd.R_drew)); exact HO336.out) (Kd.R_base ho0) hb); have n2_ := Aside0.mk (Kd.R_lower (Kd.R_new' ho0 (Kd.R_lt (by (with_reducible repeat (first | apply Kd.R_alloc | apply Kd.R_drewN | apply Kd.R_drew)); exact HO336.out))) (below_size (by repeat (first | (with_reducible first | exact HB.out | apply below_alloc | apply pw_below_drewN | apply below_drew1) | exact HB.out)))); have n3_ := Aside0.mk (below_step (by repeat (first | (with_reducible first | exact HB.out | apply below_alloc | apply pw_below_drewN | apply below_drew1) | exact HB.out)) hb); clear HO_8; clear HO336; clear HB; have HO_8 := n0_; have HO336 := n1_; have HO340 := n2_; have HB := n3_; clear n0_ n1_ n2_ n3_; (try clear hb); (try clear hb2); (try clear hk); (try clear hi); (try clear ho0)) | (go_at_call 19; (with_reducible refine (chain_Check.calls kj14 _ _ t324 true _ ?side1 ?side2 A33.out).mono ?_); (case side1 => repeat (first | exact (Kd.V_reads' HO_8.out).2.2 | (with_reducible refine Kd.C_alloc ?_ _) | (with_reducible refine Kd.C_drewN ?_ _) | (with_reducible refine Kd.C_drew ?_))); (case side2 => exact (Kd.V_reads' HO_8.out).2.1); rintro e w41 ⟨rfl, hb⟩; have n0_ := Aside0.mk (Kd.V_below (by (with_reducible repeat (first | apply Kd.V_alloc | apply Kd.V_drewN | apply Kd.V_drew)); exact HO_8.out) hb); have n1_ := Aside0.mk (Kd.R_below (by (with_reducible repeat (first | apply Kd.R_alloc | apply Kd.R_drewN | apply Kd.R_drew)); exact HO336.out) hb); have n2_ := Aside0.mk (Kd.R_below (by (with_reducible repeat (first | apply Kd.R_alloc | apply Kd.R_drewN | apply Kd.R_drew)); exact HO340.out) hb); have n3_ := Aside0.mk (below_step (by repeat (first | (with_reducible first | exact HB.out | apply below_alloc | apply pw_below_drewN | apply below_drew1) | exact HB.out)) hb); clear HO_8; clear HO336; clear HO340; clear HB; have HO_8 := n0_; have HO336 := n1_; have HO340 := n2_; have HB := n3_; clear n0_ n1_ n2_ n3_; (try clear hb); (try clear hb2); (try clear hk); (try clear hi); have hcv42 := own_string (P := Try.prog) Try.underlying23 Try.underlying5 Try.underlying9 (Kd.own_of_R HO336.out); have hcv43 := own_string (P := Try.prog) Try.underlying23 Try.underlying5 Try.underlying9 (Kd.own_of_R HO340.out)) | (go_at_call 21; (with_reducible refine (chain_Newer.calls kj14 _ _ t324 a2 t342 _ ?side1 ?side2 A37.out).mono ?_); (case side1 => repeat (first | exact (Kd.V_reads' HO_8.out).2.2 | (with_reducible refine Kd.C_alloc ?_ _) | (with_reducible refine Kd.C_drewN ?_ _) | (with_reducible refine Kd.C_drew ?_))); (case side2 => exact (Kd.V_reads' HO_8.out).2.1); rintro e w44 ⟨rfl, hb⟩; have n0_ := Aside0.mk (Kd.V_below (by (with_reducible repeat (first | apply Kd.V_alloc | apply Kd.V_drewN | apply Kd.V_drew)); exact HO_8.out) hb); have n1_ := Aside0.mk (Kd.R_below (by (with_reducible repeat (first | apply Kd.R_alloc | apply Kd.R_drewN | apply Kd.R_drew)); exact HO336.out) hb); have n2_ := Aside0.mk (Kd.R_below (by (with_reducible repeat (first | apply Kd.R_alloc | apply Kd.R_drewN | apply Kd.R_drew)); exact HO340.out) hb); have n3_ := Aside0.mk (below_step (by repeat (first | (with_reducible first | exact HB.out | apply below_alloc | apply pw_below_drewN | apply below_drew1) | exact HB.out)) hb); clear HO_8; clear HO336; clear HO340; clear HB; have HO_8 := n0_; have HO336 := n1_; have HO340 := n2_; have HB := n3_; clear n0_ n1_ n2_ n3_; (try clear hb); (try clear hb2); (try clear hk); (try clear hi)) | (go_at_call 21; (with_reducible refine (chain_Newer.calls kj14 _ _ l0 a2 t343 _ ?side1 ?side2 A38.out).mono ?_); (case side1 => repeat (first | exact (Kd.C_below HR0.out HB.out) | (with_reducible refine Kd.C_alloc ?_ _) | (with_reducible refine Kd.C_drewN ?_ _) | (with_reducible refine Kd.C_drew ?_))); (case side2 => exact HC0.out); rintro e w45 ⟨rfl, hb⟩; have n0_ := Aside0.mk (Kd.V_below (by (with_reducible repeat (first | apply Kd.V_alloc | apply Kd.V_drewN | apply Kd.V_drew)); exact HO_8.out) hb); have n1_ := Aside0.mk (Kd.R_below (by (with_reducible repeat (first | apply Kd.R_alloc | apply Kd.R_drewN | apply Kd.R_drew)); exact HO336.out) hb); have n2_ := Aside0.mk (Kd.R_below (by (with_reducible repeat (first | apply Kd.R_alloc | apply Kd.R_drewN | apply Kd.R_drew)); exact HO340.out) hb); have n3_ := Aside0.mk (below_step (by repeat (first | (with_reducible first | exact HB.out | apply below_alloc | apply pw_below_drewN | apply below_drew1) | exact HB.out)) hb); clear HO_8; clear HO336; clear HO340; clear HB; have HO_8 := n0_; have HO336 := n1_; have HO340 := n2_; have HB := n3_; clear n0_ n1_ n2_ n3_; (try clear hb); (try clear hb2); (try clear hk); (try clear hi)))
                          go_ret
                          exact ⟨by first | rfl | (simp [errW_none, errW_some] <;> rfl) | (simp [*, errW_none, errW_some] <;> rfl), by repeat (first | (with_reducible first | exact HB.out | apply below_alloc | apply pw_below_drewN | apply below_drew1) | exact HB.out)⟩
                        · rw [if_neg c36] at H
                          rw [HTr_] at H
                          exact absurd (Option.some.inj H) (by decide)
                      · rw [if_neg c35] at H
                        rw [HTr_] at H
                        exact absurd (Option.some.inj H) (by decide)
                    · replace c34 := Bool.eq_false_iff.mpr c34
                      subst c34
                      have H1 : (some false) = some r := by rw [if_neg (show ¬ (false = true) by decide)] at H; exact H
                      rw [HTr_] at H1
                      exact absurd (Option.some.inj H1) (by decide)
                  · replace c32 := Bool.eq_false_iff.mpr c32
                    subst c32
                    have H1 : (some false) = some r := by rw [if_neg (show ¬ (false = true) by decide)] at H; exact H
                    rw [HTr_] at H1
                    exact absurd (Option.some.inj H1) (by decide)
                · replace c31 := Bool.eq_false_iff.mpr c31
                  subst c31
                  have H1 : (some false) = some r := by rw [if_neg (show ¬ (false = true) by decide)] at H; exact H
                  rw [HTr_] at H1
                  exact absurd (Option.some.inj H1) (by decide)

/-- The law, plainly. -/
def banksmanlaw05_ChainVacuum.Pure : Prop := ∀ (l0 : List (S25)) (a1 : Int) (a2 : Int), (fun xs_ : List (S25) => xs_.length ≤ maxLen ∧ ∀ x ∈ xs_, (fun x_ : S25 => (fun n_ : Int => (Lit.int .i64 n_).wf = true) x_.f0 ∧ (fun _ : Bool => True) x_.f1 ∧ (fun xs_ : List Int => xs_.length ≤ maxLen ∧ ∀ x ∈ xs_, (fun n_ : Int => (Lit.int .u8 n_).wf = true) x) x_.f2) x) l0 → (fun n_ : Int => (Lit.int .i64 n_).wf = true) a1 → (fun n_ : Int => (Lit.int .i64 n_).wf = true) a2 → ∃ k, banksmanlaw05_ChainVacuum.f k l0 a1 a2 = some true

end Go.Proofs.Ytdkfahobgnmglaa.P
