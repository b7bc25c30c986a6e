-- Written by wip/gprint.py, a program of this session over the kit's print; Lean checks it.
import Derived.Test.YtdkfahobgnmglaaPx0
import Derived.Test.YtdkfahobgnmglaaPx6
import Derived.Test.YtdkfahobgnmglaaPx8
import Derived.Test.YtdkfahobgnmglaaPx11
namespace Go.Proofs.Ytdkfahobgnmglaa.P
open Go.RowKit Go.Proofs.YtdkfahobgnmglaaW.PrintWords Go.Proofs.YtdkfahobgnmglaaW.PrintLast Go.Proofs.YtdkfahobgnmglaaW.PrintMore
attribute [local go_sem] max2_int min2_int max_two min_two max_three min_three max_four min_four   -- for this text's walks alone
set_option linter.unusedVariables false
set_option linter.unusedSimpArgs false

/-! ### chain_Vacuum: function 17 -/
def chain_Vacuum.f (k : Nat) (l0 : List (S25)) (a1 : Int) : Option ((List (S25))) := (chain_Check.f k l0).bind fun t134 => (if t134 = true then ((chain_behind.f l0 a1).bind fun t138 => (if t138 > 0 then (if 0 ≤ (wrap64 (t138 - 1)) then (if (wrap64 (t138 - 1)) < (l0.length : Int) then (if ((rd_T25 l0 (wrap64 (t138 - 1))).f1 = true) then (if 0 ≤ t138 then (if t138 ≤ (l0.length : Int) then ((chain_own.f (l0.drop (t138 : Int).toNat)).bind fun t144 => (some t144)) else (none)) else (none)) else (if (wrap64 (t138 - 1)) ≤ (l0.length : Int) then ((chain_own.f (l0.drop ((wrap64 (t138 - 1)) : Int).toNat)).bind fun t151 => (some t151)) else (none))) else (none)) else (none)) else (if 0 ≤ t138 then (if t138 ≤ (l0.length : Int) then ((chain_own.f (l0.drop (t138 : Int).toNat)).bind fun t158 => (some t158)) else (none)) else (none)))) else ((chain_own.f l0).bind fun t135 => (some t135)))
theorem chain_Vacuum.mono : ∀ a0 a1 k, LeO (chain_Vacuum.f k a0 a1) (chain_Vacuum.f (k + 1) a0 a1) := by
  intro a0 a1 k
  unfold chain_Vacuum.f
  repeat' first
      | (with_reducible exact chain_Check.mono _ _)
      | (with_reducible exact LeO.refl _)
      | (with_reducible exact LeO.none _)
      | (with_reducible refine LeO.ite ?_ ?_)
      | (with_reducible refine LeO.bind ?_ (fun _ => ?_))
      | exact chain_Check.mono _ _
      | exact LeO.none _
      | refine LeO.ite ?_ ?_
      | refine LeO.bind ?_ (fun _ => ?_)
set_option maxHeartbeats 8000000 in
set_option maxRecDepth 100000 in
theorem chain_Vacuum.calls (k : Nat) (A0 : Option Addr) (c0 : Nat) (l0 : List (S25)) (a1 : Int) (r : List (S25)) (w : World) (hr0 : Kd.C k25 w A0 l0.length l0) (hc0 : l0.length ≤ c0) (h : chain_Vacuum.f k l0 a1 = some r) :
    Calls Try.prog 17 #[.slice A0 l0.length c0, .int .i64 a1] w fun e w' => ∃ v0_ : Value, e = .returned (v0_) ∧ Kd.V k25 25 w' w.heap.size (fun k_ => (w.heap.size ≤ k_)) v0_ r ∧ Below w.heap.size w w' := by
  have HR0 := Aside0.mk hr0
  have HC0 := Aside0.mk hc0
  clear hr0 hc0
  have HB := Aside0.mk (Below.refl w.heap.size w)
  have H : ((chain_Check.f k l0).bind fun t134 => (if t134 = true then ((chain_behind.f l0 a1).bind fun t138 => (if t138 > 0 then (if 0 ≤ (wrap64 (t138 - 1)) then (if (wrap64 (t138 - 1)) < (l0.length : Int) then (if ((rd_T25 l0 (wrap64 (t138 - 1))).f1 = true) then (if 0 ≤ t138 then (if t138 ≤ (l0.length : Int) then ((chain_own.f (l0.drop (t138 : Int).toNat)).bind fun t144 => (some t144)) else (none)) else (none)) else (if (wrap64 (t138 - 1)) ≤ (l0.length : Int) then ((chain_own.f (l0.drop ((wrap64 (t138 - 1)) : Int).toNat)).bind fun t151 => (some t151)) else (none))) else (none)) else (none)) else (if 0 ≤ t138 then (if t138 ≤ (l0.length : Int) then ((chain_own.f (l0.drop (t138 : Int).toNat)).bind fun t158 => (some t158)) else (none)) else (none)))) else ((chain_own.f l0).bind fun t135 => (some t135)))) = some r := h
  clear h
  replace H := Option.bind_eq_some_iff.mp H
  obtain ⟨t134, A30, H⟩ := H
  replace H : (if t134 = true then ((chain_behind.f l0 a1).bind fun t138 => (if t138 > 0 then (if 0 ≤ (wrap64 (t138 - 1)) then (if (wrap64 (t138 - 1)) < (l0.length : Int) then (if ((rd_T25 l0 (wrap64 (t138 - 1))).f1 = true) then (if 0 ≤ t138 then (if t138 ≤ (l0.length : Int) then ((chain_own.f (l0.drop (t138 : Int).toNat)).bind fun t144 => (some t144)) else (none)) else (none)) else (if (wrap64 (t138 - 1)) ≤ (l0.length : Int) then ((chain_own.f (l0.drop ((wrap64 (t138 - 1)) : Int).toNat)).bind fun t151 => (some t151)) else (none))) else (none)) else (none)) else (if 0 ≤ t138 then (if t138 ≤ (l0.length : Int) then ((chain_own.f (l0.drop (t138 : Int).toNat)).bind fun t158 => (some t158)) else (none)) else (none)))) else ((chain_own.f l0).bind fun t135 => (some t135))) = some r := H
  have A3 := Aside0.mk A30
  clear A30
  by_cases c4 : t134 = true
  · subst c4
    have H1 : ((chain_behind.f l0 a1).bind fun t138 => (if t138 > 0 then (if 0 ≤ (wrap64 (t138 - 1)) then (if (wrap64 (t138 - 1)) < (l0.length : Int) then (if ((rd_T25 l0 (wrap64 (t138 - 1))).f1 = true) then (if 0 ≤ t138 then (if t138 ≤ (l0.length : Int) then ((chain_own.f (l0.drop (t138 : Int).toNat)).bind fun t144 => (some t144)) else (none)) else (none)) else (if (wrap64 (t138 - 1)) ≤ (l0.length : Int) then ((chain_own.f (l0.drop ((wrap64 (t138 - 1)) : Int).toNat)).bind fun t151 => (some t151)) else (none))) else (none)) else (none)) else (if 0 ≤ t138 then (if t138 ≤ (l0.length : Int) then ((chain_own.f (l0.drop (t138 : Int).toNat)).bind fun t158 => (some t158)) else (none)) else (none)))) = some r := by rw [if_pos rfl] at H; exact H
    clear H
    have H := H1
    clear H1
    replace H := Option.bind_eq_some_iff.mp H
    obtain ⟨t138, A50, H⟩ := H
    replace H : (if t138 > 0 then (if 0 ≤ (wrap64 (t138 - 1)) then (if (wrap64 (t138 - 1)) < (l0.length : Int) then (if ((rd_T25 l0 (wrap64 (t138 - 1))).f1 = true) then (if 0 ≤ t138 then (if t138 ≤ (l0.length : Int) then ((chain_own.f (l0.drop (t138 : Int).toNat)).bind fun t144 => (some t144)) else (none)) else (none)) else (if (wrap64 (t138 - 1)) ≤ (l0.length : Int) then ((chain_own.f (l0.drop ((wrap64 (t138 - 1)) : Int).toNat)).bind fun t151 => (some t151)) else (none))) else (none)) else (none)) else (if 0 ≤ t138 then (if t138 ≤ (l0.length : Int) then ((chain_own.f (l0.drop (t138 : Int).toNat)).bind fun t158 => (some t158)) else (none)) else (none))) = some r := H
    have A5 := Aside0.mk A50
    clear A50
    by_cases c6 : t138 > 0
    · rw [if_pos c6] at H
      have c6b0 : decide (0 < t138) = true := decide_eq_true c6
      clear c6
      obtain ⟨ji7, hji7⟩ : ∃ j_ : Int, (wrap64 (t138 - 1)) = j_ := ⟨_, rfl⟩
      replace H : (if 0 ≤ (ji7) then (if (ji7) < (l0.length : Int) then (if ((rd_T25 l0 (ji7)).f1 = true) then (if 0 ≤ t138 then (if t138 ≤ (l0.length : Int) then ((chain_own.f (l0.drop (t138 : Int).toNat)).bind fun t144 => (some t144)) else (none)) else (none)) else (if (ji7) ≤ (l0.length : Int) then ((chain_own.f (l0.drop ((ji7) : Int).toNat)).bind fun t151 => (some t151)) else (none))) else (none)) else (none)) = some r := by first | (rw [hji7] at H; exact H) | (simp only [hji7] at H ⊢; exact H)
      (try rw [hji7] at A3)
      (try rw [hji7] at A5)
      have hji7w : (IntKind.i64.wrap (t138 - 1)) = ji7 := (i64_w _).trans hji7
      by_cases c8 : 0 ≤ (ji7)
      · rw [if_pos c8] at H
        have c8b0 : decide (0 ≤ (ji7)) = true := decide_eq_true c8
        clear c8
        by_cases c9 : (ji7) < (l0.length : Int)
        · rw [if_pos c9] at H
          have c9b0 : decide ((ji7) < (l0.length : Int)) = true := decide_eq_true c9
          clear c9
          obtain ⟨bq10, hbq10⟩ : ∃ b_ : Bool, b_ = ((rd_T25 l0 (ji7)).f1) := ⟨_, rfl⟩
          replace H : (if (bq10 = true) then (if 0 ≤ t138 then (if t138 ≤ (l0.length : Int) then ((chain_own.f (l0.drop (t138 : Int).toNat)).bind fun t144 => (some t144)) else (none)) else (none)) else (if (ji7) ≤ (l0.length : Int) then ((chain_own.f (l0.drop ((ji7) : Int).toNat)).bind fun t151 => (some t151)) else (none))) = some r := by rw [← hbq10] at H; exact H
          have Nbq10 := Aside0.mk hbq10
          clear hbq10
          by_cases c11 : (bq10 = true)
          · subst c11
            have H1 : (if 0 ≤ t138 then (if t138 ≤ (l0.length : Int) then ((chain_own.f (l0.drop (t138 : Int).toNat)).bind fun t144 => (some t144)) else (none)) else (none)) = some r := by rw [if_pos rfl] at H; exact H
            clear H
            have H := H1
            clear H1
            by_cases c12 : 0 ≤ t138
            · rw [if_pos c12] at H
              have c12b0 := eq_true c12
              have c12b1 : decide (0 ≤ t138) = true := decide_eq_true c12
              clear c12
              by_cases c13 : t138 ≤ (l0.length : Int)
              · rw [if_pos c13] at H
                have c13b0 := eq_true c13
                have c13b1 : decide (t138 ≤ (l0.length : Int)) = true := decide_eq_true c13
                clear c13
                obtain ⟨y140, hy140⟩ : ∃ y_ : List (S25), y_ = (l0.drop (t138 : Int).toNat) := ⟨_, rfl⟩
                replace H : ((chain_own.f y140).bind fun t144 => (some t144)) = some r := by first | (rw [hy140]; with_reducible exact H) | (have H2_ := (Option.bind_some _ _).symm.trans H; rw [hy140]; with_reducible exact H2_) | (have H2_ := (Option.bind_some _ _).symm.trans H; with_reducible exact H2_) | with_reducible exact H | (rw [hy140]; exact H) | exact H
                have Ny140 := Aside0.mk hy140
                clear hy140
                replace H := Option.bind_eq_some_iff.mp H
                obtain ⟨t144, A140, H⟩ := H
                replace H : (some t144) = some r := H
                have A14 := Aside0.mk A140
                clear A140
                obtain rfl := Option.some.inj H
                go_enter Try.func17, Try.ntmps17
                go_wp2_with (first | ((with_reducible refine gate_callee (f := 19) rfl ?_); refine goesL_ (some 7) rfl rfl Try.func19 (by kernel_rfl) rfl #[.slice A0 l0.length c0] rfl (by (try simp only [List.map_toArray, List.map_cons, List.map_nil]); first | done | rfl | (simp only [List.length_drop, List.length_take]; rfl)) ?_; (with_reducible refine (chain_Check.calls k _ _ l0 true _ ?side1 ?side2 A3.out).mono ?_); (case side1 => repeat (first | exact HR0.out | (with_reducible refine Kd.C_alloc ?_ _) | (with_reducible refine Kd.C_drewN ?_ _) | (with_reducible refine Kd.C_drew ?_))); (case side2 => exact HC0.out); rintro e w15 ⟨rfl, hb⟩; refine ⟨_, rfl, ?_⟩; have n0_ := Aside0.mk (below_step (by repeat (first | (with_reducible first | exact HB.out | apply below_alloc | apply pw_below_drewN | apply below_drew1) | exact HB.out)) hb); clear HB; have HB := n0_; clear n0_; (try clear hb); (try clear hb2); (try clear hk); (try clear hi)) | ((with_reducible refine gate_callee (f := 23) rfl ?_); refine goesL_ (some 13) rfl rfl Try.func23 (by kernel_rfl) rfl #[.slice A0 l0.length c0, .int .i64 a1] rfl (by (try simp only [List.map_toArray, List.map_cons, List.map_nil]); first | done | rfl | (simp only [List.length_drop, List.length_take]; rfl)) ?_; (with_reducible refine (chain_behind.calls _ _ l0 a1 t138 _ ?side1 ?side2 A5.out).mono ?_); (case side1 => repeat (first | exact (Kd.C_below HR0.out HB.out) | (with_reducible refine Kd.C_alloc ?_ _) | (with_reducible refine Kd.C_drewN ?_ _) | (with_reducible refine Kd.C_drew ?_))); (case side2 => exact HC0.out); rintro e w16 ⟨rfl, hb⟩; refine ⟨_, rfl, ?_⟩; have n0_ := Aside0.mk (below_step (by repeat (first | (with_reducible first | exact HB.out | apply below_alloc | apply pw_below_drewN | apply below_drew1) | exact HB.out)) hb); clear HB; have HB := n0_; clear n0_; (try clear hb); (try clear hb2); (try clear hk); (try clear hi); have p139 : 0 ≤ ((ji7) : Int) := of_decide_eq_true (by first | (with_reducible assumption) | assumption); have q139 : (ji7) < (l0.length : Int) := of_decide_eq_true (by first | (with_reducible assumption) | assumption); obtain ⟨ad139, A139_2, c139_2, e139, hx139_0, hx139_1, hx139_2, hl139_2, hi139_2⟩ := at_T25 HR0.out (ji7) p139 q139; (try rw [← Nbq10.out] at hx139_1); cases e139; replace hx139_0 := (HB.out.cell (World.block_lt_of_cell? w _ hx139_0)).trans hx139_0; replace hx139_1 := (HB.out.cell (World.block_lt_of_cell? w _ hx139_1)).trans hx139_1; replace hx139_2 := (HB.out.cell (World.block_lt_of_cell? w _ hx139_2)).trans hx139_2; have HR139_2 := Aside0.mk hi139_2; have HC139_2 := Aside0.mk hl139_2; clear hi139_2 hl139_2; replace p139 := eq_true p139; replace q139 := eq_true q139; have q17 : (t138 : Int) ≤ ((l0.length : Int) : Int) := of_decide_eq_true (by first | (with_reducible assumption) | assumption); obtain ⟨i017, hi017, _, hsz17, _⟩ := info_parts info25; have hroom17 : l0.length ≤ c0 := HC0.out; have hC17 : Kd.C k25 _ (some ad139) l0.length l0 := HR0.out; have q017 : (0 : Int) ≤ (t138 : Int) := of_decide_eq_true (by first | (with_reducible assumption) | assumption); have hcut17 := cut_from (P := Try.prog) 22 25 .i64 Try.underlying22 hi017 3 hsz17 (some ad139) l0.length c0 t138 q017 q17; have hr17 := Kd.C_drop (m := (t138 : Int).toNat) (c := c0) hC17 (by omega) hroom17; obtain ⟨A17, hA17⟩ : ∃ A1, A1 = (if c0 = (t138 : Int).toNat then (some ad139) else ((some ad139) : Option Addr).map (·.add ((t138 : Int).toNat * 3))) := ⟨_, rfl⟩; obtain ⟨c17, hc17⟩ : ∃ c1, c1 = c0 - (t138 : Int).toNat := ⟨_, rfl⟩; have hy17 : y140.length = l0.length - (t138 : Int).toNat := (by rw [Ny140.out, List.length_drop] <;> omega); rw [show (l0).drop (t138 : Int).toNat = y140 from Ny140.out.symm] at hr17; replace hr17 : Kd.C k25 _ A17 y140.length y140 := (by rw [hA17]; exact hr17); rw [← hy17, ← hA17, ← hc17] at hcut17; have HR143 := Aside0.mk hr17; have HC143 := Aside0.mk (show y140.length ≤ c17 from by rw [hy17, hc17]; exact Nat.sub_le_sub_right hroom17 _); clear hr17 hC17 hroom17 hi017 hsz17 hc17; have KY17 := Aside0.mk hy17; have KA17 := Aside0.mk hA17; clear hy17 hA17; replace q17 := eq_true q17) | ((with_reducible refine gate_callee (f := 27) rfl ?_); refine goesL_ (some 30) rfl rfl Try.func27 (by kernel_rfl) rfl #[.slice A17 y140.length c17] rfl (by (try simp only [List.map_toArray, List.map_cons, List.map_nil]); first | done | rfl | (simp only [List.length_drop, List.length_take]; rfl)) ?_; (with_reducible refine (chain_own.calls _ _ y140 t144 _ ?side1 ?side2 A14.out).mono ?_); (case side1 => repeat (first | exact (Kd.C_below HR143.out HB.out) | (with_reducible refine Kd.C_alloc ?_ _) | (with_reducible refine Kd.C_drewN ?_ _) | (with_reducible refine Kd.C_drew ?_))); (case side2 => exact HC143.out); rintro e w18 ⟨v145, rfl, ho0, hb⟩; refine ⟨_, rfl, ?_⟩; have n0_ := Aside0.mk (Kd.V_lower (Kd.V_mono (ok' := fun k_ => (w.heap.size ≤ k_)) ho0 (fun k_ hk_ => (Nat.le_trans (below_size (by repeat (first | (with_reducible first | exact HB.out | apply below_alloc | apply pw_below_drewN | apply below_drew1) | exact HB.out))) hk_))) (below_size (by repeat (first | (with_reducible first | exact HB.out | apply below_alloc | apply pw_below_drewN | apply below_drew1) | exact HB.out)))); have n1_ := Aside0.mk (below_step (by repeat (first | (with_reducible first | exact HB.out | apply below_alloc | apply pw_below_drewN | apply below_drew1) | exact HB.out)) hb); clear HB; have HO146 := n0_; have HB := n1_; clear n0_ n1_; (try clear hb); (try clear hb2); (try clear hk); (try clear hi); (try clear ho0)))
                go_ret
                exact ⟨_, by first | rfl | (simp [errW_none, errW_some] <;> rfl) | (simp only [← hji7]; first | rfl | (simp [errW_none, errW_some] <;> rfl)) | (simp [*, errW_none, errW_some] <;> rfl), by (with_reducible repeat (first | apply Kd.V_alloc | apply Kd.V_drewN | apply Kd.V_drew)); exact HO146.out, by repeat (first | (with_reducible first | exact HB.out | apply below_alloc | apply pw_below_drewN | apply below_drew1) | exact HB.out)⟩
              · rw [if_neg c13] at H
                exact absurd H (by simp)
            · rw [if_neg c12] at H
              exact absurd H (by simp)
          · replace c11 := Bool.eq_false_iff.mpr c11
            subst c11
            have H1 : (if (ji7) ≤ (l0.length : Int) then ((chain_own.f (l0.drop ((ji7) : Int).toNat)).bind fun t151 => (some t151)) else (none)) = some r := by rw [if_neg (show ¬ (false = true) by decide)] at H; exact H
            clear H
            have H := H1
            clear H1
            have c19b0 := eq_true (of_decide_eq_true (by first | (with_reducible assumption) | assumption) : 0 ≤ (ji7))
            by_cases c20 : (ji7) ≤ (l0.length : Int)
            · rw [if_pos c20] at H
              have c20b0 := eq_true c20
              have c20b1 : decide ((ji7) ≤ (l0.length : Int)) = true := decide_eq_true c20
              clear c20
              obtain ⟨y147, hy147⟩ : ∃ y_ : List (S25), y_ = (l0.drop ((ji7) : Int).toNat) := ⟨_, rfl⟩
              replace H : ((chain_own.f y147).bind fun t151 => (some t151)) = some r := by first | (rw [hy147]; with_reducible exact H) | (have H2_ := (Option.bind_some _ _).symm.trans H; rw [hy147]; with_reducible exact H2_) | (have H2_ := (Option.bind_some _ _).symm.trans H; with_reducible exact H2_) | with_reducible exact H | (rw [hy147]; exact H) | exact H
              have Ny147 := Aside0.mk hy147
              clear hy147
              replace H := Option.bind_eq_some_iff.mp H
              obtain ⟨t151, A210, H⟩ := H
              replace H : (some t151) = some r := H
              have A21 := Aside0.mk A210
              clear A210
              obtain rfl := Option.some.inj H
              go_enter Try.func17, Try.ntmps17
              go_wp2_with (first | ((with_reducible refine gate_callee (f := 19) rfl ?_); refine goesL_ (some 7) rfl rfl Try.func19 (by kernel_rfl) rfl #[.slice A0 l0.length c0] rfl (by (try simp only [List.map_toArray, List.map_cons, List.map_nil]); first | done | rfl | (simp only [List.length_drop, List.length_take]; rfl)) ?_; (with_reducible refine (chain_Check.calls k _ _ l0 true _ ?side1 ?side2 A3.out).mono ?_); (case side1 => repeat (first | exact HR0.out | (with_reducible refine Kd.C_alloc ?_ _) | (with_reducible refine Kd.C_drewN ?_ _) | (with_reducible refine Kd.C_drew ?_))); (case side2 => exact HC0.out); rintro e w22 ⟨rfl, hb⟩; refine ⟨_, rfl, ?_⟩; have n0_ := Aside0.mk (below_step (by repeat (first | (with_reducible first | exact HB.out | apply below_alloc | apply pw_below_drewN | apply below_drew1) | exact HB.out)) hb); clear HB; have HB := n0_; clear n0_; (try clear hb); (try clear hb2); (try clear hk); (try clear hi)) | ((with_reducible refine gate_callee (f := 23) rfl ?_); refine goesL_ (some 13) rfl rfl Try.func23 (by kernel_rfl) rfl #[.slice A0 l0.length c0, .int .i64 a1] rfl (by (try simp only [List.map_toArray, List.map_cons, List.map_nil]); first | done | rfl | (simp only [List.length_drop, List.length_take]; rfl)) ?_; (with_reducible refine (chain_behind.calls _ _ l0 a1 t138 _ ?side1 ?side2 A5.out).mono ?_); (case side1 => repeat (first | exact (Kd.C_below HR0.out HB.out) | (with_reducible refine Kd.C_alloc ?_ _) | (with_reducible refine Kd.C_drewN ?_ _) | (with_reducible refine Kd.C_drew ?_))); (case side2 => exact HC0.out); rintro e w23 ⟨rfl, hb⟩; refine ⟨_, rfl, ?_⟩; have n0_ := Aside0.mk (below_step (by repeat (first | (with_reducible first | exact HB.out | apply below_alloc | apply pw_below_drewN | apply below_drew1) | exact HB.out)) hb); clear HB; have HB := n0_; clear n0_; (try clear hb); (try clear hb2); (try clear hk); (try clear hi); have p139 : 0 ≤ ((ji7) : Int) := of_decide_eq_true (by first | (with_reducible assumption) | assumption); have q139 : (ji7) < (l0.length : Int) := of_decide_eq_true (by first | (with_reducible assumption) | assumption); obtain ⟨ad139, A139_2, c139_2, e139, hx139_0, hx139_1, hx139_2, hl139_2, hi139_2⟩ := at_T25 HR0.out (ji7) p139 q139; (try rw [← Nbq10.out] at hx139_1); cases e139; replace hx139_0 := (HB.out.cell (World.block_lt_of_cell? w _ hx139_0)).trans hx139_0; replace hx139_1 := (HB.out.cell (World.block_lt_of_cell? w _ hx139_1)).trans hx139_1; replace hx139_2 := (HB.out.cell (World.block_lt_of_cell? w _ hx139_2)).trans hx139_2; have HR139_2 := Aside0.mk hi139_2; have HC139_2 := Aside0.mk hl139_2; clear hi139_2 hl139_2; replace p139 := eq_true p139; replace q139 := eq_true q139; have q24 : ((ji7) : Int) ≤ ((l0.length : Int) : Int) := of_decide_eq_true (by first | (with_reducible assumption) | assumption); obtain ⟨i024, hi024, _, hsz24, _⟩ := info_parts info25; have hroom24 : l0.length ≤ c0 := HC0.out; have hC24 : Kd.C k25 _ (some ad139) l0.length l0 := HR0.out; have q024 : (0 : Int) ≤ ((ji7) : Int) := of_decide_eq_true (by first | (with_reducible assumption) | assumption); have hcut24 := cut_from (P := Try.prog) 22 25 .i64 Try.underlying22 hi024 3 hsz24 (some ad139) l0.length c0 (ji7) q024 q24; have hr24 := Kd.C_drop (m := ((ji7) : Int).toNat) (c := c0) hC24 (by omega) hroom24; obtain ⟨A24, hA24⟩ : ∃ A1, A1 = (if c0 = ((ji7) : Int).toNat then (some ad139) else ((some ad139) : Option Addr).map (·.add (((ji7) : Int).toNat * 3))) := ⟨_, rfl⟩; obtain ⟨c24, hc24⟩ : ∃ c1, c1 = c0 - ((ji7) : Int).toNat := ⟨_, rfl⟩; have hy24 : y147.length = l0.length - ((ji7) : Int).toNat := (by rw [Ny147.out, List.length_drop] <;> omega); rw [show (l0).drop ((ji7) : Int).toNat = y147 from Ny147.out.symm] at hr24; replace hr24 : Kd.C k25 _ A24 y147.length y147 := (by rw [hA24]; exact hr24); rw [← hy24, ← hA24, ← hc24] at hcut24; have HR150 := Aside0.mk hr24; have HC150 := Aside0.mk (show y147.length ≤ c24 from by rw [hy24, hc24]; exact Nat.sub_le_sub_right hroom24 _); clear hr24 hC24 hroom24 hi024 hsz24 hc24; have KY24 := Aside0.mk hy24; have KA24 := Aside0.mk hA24; clear hy24 hA24; replace q24 := eq_true q24) | ((with_reducible refine gate_callee (f := 27) rfl ?_); refine goesL_ (some 30) rfl rfl Try.func27 (by kernel_rfl) rfl #[.slice A24 y147.length c24] rfl (by (try simp only [List.map_toArray, List.map_cons, List.map_nil]); first | done | rfl | (simp only [List.length_drop, List.length_take]; rfl)) ?_; (with_reducible refine (chain_own.calls _ _ y147 t151 _ ?side1 ?side2 A21.out).mono ?_); (case side1 => repeat (first | exact (Kd.C_below HR150.out HB.out) | (with_reducible refine Kd.C_alloc ?_ _) | (with_reducible refine Kd.C_drewN ?_ _) | (with_reducible refine Kd.C_drew ?_))); (case side2 => exact HC150.out); rintro e w25 ⟨v152, rfl, ho0, hb⟩; refine ⟨_, rfl, ?_⟩; have n0_ := Aside0.mk (Kd.V_lower (Kd.V_mono (ok' := fun k_ => (w.heap.size ≤ k_)) ho0 (fun k_ hk_ => (Nat.le_trans (below_size (by repeat (first | (with_reducible first | exact HB.out | apply below_alloc | apply pw_below_drewN | apply below_drew1) | exact HB.out))) hk_))) (below_size (by repeat (first | (with_reducible first | exact HB.out | apply below_alloc | apply pw_below_drewN | apply below_drew1) | exact HB.out)))); have n1_ := Aside0.mk (below_step (by repeat (first | (with_reducible first | exact HB.out | apply below_alloc | apply pw_below_drewN | apply below_drew1) | exact HB.out)) hb); clear HB; have HO153 := n0_; have HB := n1_; clear n0_ n1_; (try clear hb); (try clear hb2); (try clear hk); (try clear hi); (try clear ho0)))
              go_ret
              exact ⟨_, by first | rfl | (simp [errW_none, errW_some] <;> rfl) | (simp only [← hji7]; first | rfl | (simp [errW_none, errW_some] <;> rfl)) | (simp [*, errW_none, errW_some] <;> rfl), by (with_reducible repeat (first | apply Kd.V_alloc | apply Kd.V_drewN | apply Kd.V_drew)); exact HO153.out, by repeat (first | (with_reducible first | exact HB.out | apply below_alloc | apply pw_below_drewN | apply below_drew1) | exact HB.out)⟩
            · rw [if_neg c20] at H
              exact absurd H (by simp)
        · rw [if_neg c9] at H
          exact absurd H (by simp)
      · rw [if_neg c8] at H
        exact absurd H (by simp)
    · rw [if_neg c6] at H
      have c6b0 : decide (0 < t138) = false := decide_eq_false c6
      clear c6
      by_cases c26 : 0 ≤ t138
      · rw [if_pos c26] at H
        have c26b0 := eq_true c26
        have c26b1 : decide (0 ≤ t138) = true := decide_eq_true c26
        clear c26
        by_cases c27 : t138 ≤ (l0.length : Int)
        · rw [if_pos c27] at H
          have c27b0 := eq_true c27
          have c27b1 : decide (t138 ≤ (l0.length : Int)) = true := decide_eq_true c27
          clear c27
          obtain ⟨y154, hy154⟩ : ∃ y_ : List (S25), y_ = (l0.drop (t138 : Int).toNat) := ⟨_, rfl⟩
          replace H : ((chain_own.f y154).bind fun t158 => (some t158)) = some r := by first | (rw [hy154]; with_reducible exact H) | (have H2_ := (Option.bind_some _ _).symm.trans H; rw [hy154]; with_reducible exact H2_) | (have H2_ := (Option.bind_some _ _).symm.trans H; with_reducible exact H2_) | with_reducible exact H | (rw [hy154]; exact H) | exact H
          have Ny154 := Aside0.mk hy154
          clear hy154
          replace H := Option.bind_eq_some_iff.mp H
          obtain ⟨t158, A280, H⟩ := H
          replace H : (some t158) = some r := H
          have A28 := Aside0.mk A280
          clear A280
          obtain rfl := Option.some.inj H
          go_enter Try.func17, Try.ntmps17
          go_wp2_with (first | ((with_reducible refine gate_callee (f := 19) rfl ?_); refine goesL_ (some 7) rfl rfl Try.func19 (by kernel_rfl) rfl #[.slice A0 l0.length c0] rfl (by (try simp only [List.map_toArray, List.map_cons, List.map_nil]); first | done | rfl | (simp only [List.length_drop, List.length_take]; rfl)) ?_; (with_reducible refine (chain_Check.calls k _ _ l0 true _ ?side1 ?side2 A3.out).mono ?_); (case side1 => repeat (first | exact HR0.out | (with_reducible refine Kd.C_alloc ?_ _) | (with_reducible refine Kd.C_drewN ?_ _) | (with_reducible refine Kd.C_drew ?_))); (case side2 => exact HC0.out); rintro e w29 ⟨rfl, hb⟩; refine ⟨_, rfl, ?_⟩; have n0_ := Aside0.mk (below_step (by repeat (first | (with_reducible first | exact HB.out | apply below_alloc | apply pw_below_drewN | apply below_drew1) | exact HB.out)) hb); clear HB; have HB := n0_; clear n0_; (try clear hb); (try clear hb2); (try clear hk); (try clear hi)) | ((with_reducible refine gate_callee (f := 23) rfl ?_); refine goesL_ (some 13) rfl rfl Try.func23 (by kernel_rfl) rfl #[.slice A0 l0.length c0, .int .i64 a1] rfl (by (try simp only [List.map_toArray, List.map_cons, List.map_nil]); first | done | rfl | (simp only [List.length_drop, List.length_take]; rfl)) ?_; (with_reducible refine (chain_behind.calls _ _ l0 a1 t138 _ ?side1 ?side2 A5.out).mono ?_); (case side1 => repeat (first | exact (Kd.C_below HR0.out HB.out) | (with_reducible refine Kd.C_alloc ?_ _) | (with_reducible refine Kd.C_drewN ?_ _) | (with_reducible refine Kd.C_drew ?_))); (case side2 => exact HC0.out); rintro e w30 ⟨rfl, hb⟩; refine ⟨_, rfl, ?_⟩; have n0_ := Aside0.mk (below_step (by repeat (first | (with_reducible first | exact HB.out | apply below_alloc | apply pw_below_drewN | apply below_drew1) | exact HB.out)) hb); clear HB; have HB := n0_; clear n0_; (try clear hb); (try clear hb2); (try clear hk); (try clear hi); have q31 : (t138 : Int) ≤ ((l0.length : Int) : Int) := of_decide_eq_true (by first | (with_reducible assumption) | assumption); obtain ⟨i031, hi031, _, hsz31, _⟩ := info_parts info25; have hroom31 : l0.length ≤ c0 := HC0.out; have hC31 : Kd.C k25 _ A0 l0.length l0 := HR0.out; have q031 : (0 : Int) ≤ (t138 : Int) := of_decide_eq_true (by first | (with_reducible assumption) | assumption); have hcut31 := cut_from (P := Try.prog) 22 25 .i64 Try.underlying22 hi031 3 hsz31 A0 l0.length c0 t138 q031 q31; have hr31 := Kd.C_drop (m := (t138 : Int).toNat) (c := c0) hC31 (by omega) hroom31; obtain ⟨A31, hA31⟩ : ∃ A1, A1 = (if c0 = (t138 : Int).toNat then A0 else (A0 : Option Addr).map (·.add ((t138 : Int).toNat * 3))) := ⟨_, rfl⟩; obtain ⟨c31, hc31⟩ : ∃ c1, c1 = c0 - (t138 : Int).toNat := ⟨_, rfl⟩; have hy31 : y154.length = l0.length - (t138 : Int).toNat := (by rw [Ny154.out, List.length_drop] <;> omega); rw [show (l0).drop (t138 : Int).toNat = y154 from Ny154.out.symm] at hr31; replace hr31 : Kd.C k25 _ A31 y154.length y154 := (by rw [hA31]; exact hr31); rw [← hy31, ← hA31, ← hc31] at hcut31; have HR157 := Aside0.mk hr31; have HC157 := Aside0.mk (show y154.length ≤ c31 from by rw [hy31, hc31]; exact Nat.sub_le_sub_right hroom31 _); clear hr31 hC31 hroom31 hi031 hsz31 hc31; have KY31 := Aside0.mk hy31; have KA31 := Aside0.mk hA31; clear hy31 hA31; replace q31 := eq_true q31) | ((with_reducible refine gate_callee (f := 27) rfl ?_); refine goesL_ (some 30) rfl rfl Try.func27 (by kernel_rfl) rfl #[.slice A31 y154.length c31] rfl (by (try simp only [List.map_toArray, List.map_cons, List.map_nil]); first | done | rfl | (simp only [List.length_drop, List.length_take]; rfl)) ?_; (with_reducible refine (chain_own.calls _ _ y154 t158 _ ?side1 ?side2 A28.out).mono ?_); (case side1 => repeat (first | exact (Kd.C_below HR157.out HB.out) | (with_reducible refine Kd.C_alloc ?_ _) | (with_reducible refine Kd.C_drewN ?_ _) | (with_reducible refine Kd.C_drew ?_))); (case side2 => exact HC157.out); rintro e w32 ⟨v159, rfl, ho0, hb⟩; refine ⟨_, rfl, ?_⟩; have n0_ := Aside0.mk (Kd.V_lower (Kd.V_mono (ok' := fun k_ => (w.heap.size ≤ k_)) ho0 (fun k_ hk_ => (Nat.le_trans (below_size (by repeat (first | (with_reducible first | exact HB.out | apply below_alloc | apply pw_below_drewN | apply below_drew1) | exact HB.out))) hk_))) (below_size (by repeat (first | (with_reducible first | exact HB.out | apply below_alloc | apply pw_below_drewN | apply below_drew1) | exact HB.out)))); have n1_ := Aside0.mk (below_step (by repeat (first | (with_reducible first | exact HB.out | apply below_alloc | apply pw_below_drewN | apply below_drew1) | exact HB.out)) hb); clear HB; have HO160 := n0_; have HB := n1_; clear n0_ n1_; (try clear hb); (try clear hb2); (try clear hk); (try clear hi); (try clear ho0)))
          go_ret
          exact ⟨_, by first | rfl | (simp [errW_none, errW_some] <;> rfl) | (simp [*, errW_none, errW_some] <;> rfl), by (with_reducible repeat (first | apply Kd.V_alloc | apply Kd.V_drewN | apply Kd.V_drew)); exact HO160.out, by repeat (first | (with_reducible first | exact HB.out | apply below_alloc | apply pw_below_drewN | apply below_drew1) | exact HB.out)⟩
        · rw [if_neg c27] at H
          exact absurd H (by simp)
      · rw [if_neg c26] at H
        exact absurd H (by simp)
  · replace c4 := Bool.eq_false_iff.mpr c4
    subst c4
    have H1 : ((chain_own.f l0).bind fun t135 => (some t135)) = some r := by rw [if_neg (show ¬ (false = true) by decide)] at H; exact H
    clear H
    have H := H1
    clear H1
    replace H := Option.bind_eq_some_iff.mp H
    obtain ⟨t135, A330, H⟩ := H
    replace H : (some t135) = some r := H
    have A33 := Aside0.mk A330
    clear A330
    obtain rfl := Option.some.inj H
    go_enter Try.func17, Try.ntmps17
    go_wp2_with (first | ((with_reducible refine gate_callee (f := 19) rfl ?_); refine goesL_ (some 7) rfl rfl Try.func19 (by kernel_rfl) rfl #[.slice A0 l0.length c0] rfl (by (try simp only [List.map_toArray, List.map_cons, List.map_nil]); first | done | rfl | (simp only [List.length_drop, List.length_take]; rfl)) ?_; (with_reducible refine (chain_Check.calls k _ _ l0 false _ ?side1 ?side2 A3.out).mono ?_); (case side1 => repeat (first | exact HR0.out | (with_reducible refine Kd.C_alloc ?_ _) | (with_reducible refine Kd.C_drewN ?_ _) | (with_reducible refine Kd.C_drew ?_))); (case side2 => exact HC0.out); rintro e w34 ⟨rfl, hb⟩; refine ⟨_, rfl, ?_⟩; have n0_ := Aside0.mk (below_step (by repeat (first | (with_reducible first | exact HB.out | apply below_alloc | apply pw_below_drewN | apply below_drew1) | exact HB.out)) hb); clear HB; have HB := n0_; clear n0_; (try clear hb); (try clear hb2); (try clear hk); (try clear hi)) | ((with_reducible refine gate_callee (f := 27) rfl ?_); refine goesL_ (some 10) rfl rfl Try.func27 (by kernel_rfl) rfl #[.slice A0 l0.length c0] rfl (by (try simp only [List.map_toArray, List.map_cons, List.map_nil]); first | done | rfl | (simp only [List.length_drop, List.length_take]; rfl)) ?_; (with_reducible refine (chain_own.calls _ _ l0 t135 _ ?side1 ?side2 A33.out).mono ?_); (case side1 => repeat (first | exact (Kd.C_below HR0.out HB.out) | (with_reducible refine Kd.C_alloc ?_ _) | (with_reducible refine Kd.C_drewN ?_ _) | (with_reducible refine Kd.C_drew ?_))); (case side2 => exact HC0.out); rintro e w35 ⟨v136, rfl, ho0, hb⟩; refine ⟨_, rfl, ?_⟩; have n0_ := Aside0.mk (Kd.V_lower (Kd.V_mono (ok' := fun k_ => (w.heap.size ≤ k_)) ho0 (fun k_ hk_ => (Nat.le_trans (below_size (by repeat (first | (with_reducible first | exact HB.out | apply below_alloc | apply pw_below_drewN | apply below_drew1) | exact HB.out))) hk_))) (below_size (by repeat (first | (with_reducible first | exact HB.out | apply below_alloc | apply pw_below_drewN | apply below_drew1) | exact HB.out)))); have n1_ := Aside0.mk (below_step (by repeat (first | (with_reducible first | exact HB.out | apply below_alloc | apply pw_below_drewN | apply below_drew1) | exact HB.out)) hb); clear HB; have HO137 := n0_; have HB := n1_; clear n0_ n1_; (try clear hb); (try clear hb2); (try clear hk); (try clear hi); (try clear ho0)))
    go_ret
    exact ⟨_, by first | rfl | (simp [errW_none, errW_some] <;> rfl) | (simp [*, errW_none, errW_some] <;> rfl), by (with_reducible repeat (first | apply Kd.V_alloc | apply Kd.V_drewN | apply Kd.V_drew)); exact HO137.out, by repeat (first | (with_reducible first | exact HB.out | apply below_alloc | apply pw_below_drewN | apply below_drew1) | exact HB.out)⟩

end Go.Proofs.Ytdkfahobgnmglaa.P
