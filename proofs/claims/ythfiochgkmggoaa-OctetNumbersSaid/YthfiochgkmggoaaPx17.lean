-- Written by wip/gprint.py, a program of this session over the kit's print; Lean checks it.
import Derived.Test.YthfiochgkmggoaaPx0
import Derived.Test.YthfiochgkmggoaaPx8
import Derived.Test.YthfiochgkmggoaaPx9
import Derived.Test.YthfiochgkmggoaaPx10
import Derived.Test.YthfiochgkmggoaaPx13
import Derived.Test.YthfiochgkmggoaaPx14
import Derived.Test.YthfiochgkmggoaaPx15
import Derived.Test.YthfiochgkmggoaaPx16
namespace Go.Proofs.Ythfiochgkmggoaa.P
open Go.RowKit Go.Proofs.YthfiochgkmggoaaW.PrintWords Go.Proofs.YthfiochgkmggoaaW.PrintLast Go.Proofs.YthfiochgkmggoaaW.PrintMore
attribute [local go_sem] max2_int min2_int max_two min_two max_three min_three max_four min_four   -- for this text's walks alone
set_option linter.unusedVariables false
set_option linter.unusedSimpArgs false

/-! ### banksmanlaw01_OctetNumbers: function 3 -/
def banksmanlaw01_OctetNumbers.f (k : Nat) (l0 : List Int) (a1 : Int) : Option (Bool) := (banksmanlaw01_awake.f).bind fun t216 => (if (l0.length : Int) > 300 then (some t216) else ((octet_Number.f l0 a1).bind fun bt217 => ((banksmanref01_Number.f k l0 a1).bind fun bt221 => ((octet_Take.f l0).bind fun bt225 => ((banksmanref01_Take.f k l0).bind fun bt230 => (if t216 = true then (if (strOfNums bt217.1).toList = (strOfNums bt221.1).toList then (if bt217.2 = bt221.2 then (if bt225.1 = bt230.1 then (if (strOfNums bt225.2.1).toList = (strOfNums bt230.2.1).toList then (if bt225.2.2 = bt230.2.2 then ((octet_Size.f a1).bind fun t235 => ((banksmanref01_Size.f k a1).bind fun t236 => (some (t235 == t236)))) else (some false)) else (some false)) else (some false)) else (some false)) else (some false)) else (some false)))))))
theorem banksmanlaw01_OctetNumbers.mono : ∀ a0 a1 k, LeO (banksmanlaw01_OctetNumbers.f k a0 a1) (banksmanlaw01_OctetNumbers.f (k + 1) a0 a1) := by
  intro a0 a1 k
  unfold banksmanlaw01_OctetNumbers.f
  repeat' first
      | (with_reducible exact banksmanref01_Number.mono _ _ _)
      | (with_reducible exact banksmanref01_Size.mono _ _)
      | (with_reducible exact banksmanref01_Take.mono _ _)
      | (with_reducible exact LeO.refl _)
      | (with_reducible exact LeO.none _)
      | (with_reducible refine LeO.ite ?_ ?_)
      | (with_reducible refine LeO.bind ?_ (fun _ => ?_))
      | exact banksmanref01_Number.mono _ _ _
      | exact banksmanref01_Size.mono _ _
      | exact banksmanref01_Take.mono _ _
      | exact LeO.none _
      | refine LeO.ite ?_ ?_
      | refine LeO.bind ?_ (fun _ => ?_)
set_option maxHeartbeats 8000000 in
set_option maxRecDepth 100000 in
theorem banksmanlaw01_OctetNumbers.calls (k : Nat) (A0 : Option Addr) (c0 : Nat) (l0 : List Int) (a1 : Int) (r : Bool) (w : World) (hr0 : Kd.C (Kd.int .u8) w A0 l0.length l0) (hc0 : l0.length ≤ c0) (h : banksmanlaw01_OctetNumbers.f k l0 a1 = some r) (HTr_ : r = true) :
    Calls Try.prog 3 #[.slice A0 l0.length c0, .int .i64 a1] w fun e w' => e = .returned (.bool r) ∧ Below w.heap.size w w' := by
  have HR0 := Aside0.mk hr0
  have HC0 := Aside0.mk hc0
  clear hr0 hc0
  have HB := Aside0.mk (Below.refl w.heap.size w)
  have H : ((banksmanlaw01_awake.f).bind fun t216 => (if (l0.length : Int) > 300 then (some t216) else ((octet_Number.f l0 a1).bind fun bt217 => ((banksmanref01_Number.f k l0 a1).bind fun bt221 => ((octet_Take.f l0).bind fun bt225 => ((banksmanref01_Take.f k l0).bind fun bt230 => (if t216 = true then (if (strOfNums bt217.1).toList = (strOfNums bt221.1).toList then (if bt217.2 = bt221.2 then (if bt225.1 = bt230.1 then (if (strOfNums bt225.2.1).toList = (strOfNums bt230.2.1).toList then (if bt225.2.2 = bt230.2.2 then ((octet_Size.f a1).bind fun t235 => ((banksmanref01_Size.f k a1).bind fun t236 => (some (t235 == t236)))) else (some false)) else (some false)) else (some false)) else (some false)) else (some false)) else (some false)))))))) = some r := h
  clear h
  replace H := Option.bind_eq_some_iff.mp H
  obtain ⟨t216, A30, H⟩ := H
  replace H : (if (l0.length : Int) > 300 then (some t216) else ((octet_Number.f l0 a1).bind fun bt217 => ((banksmanref01_Number.f k l0 a1).bind fun bt221 => ((octet_Take.f l0).bind fun bt225 => ((banksmanref01_Take.f k l0).bind fun bt230 => (if t216 = true then (if (strOfNums bt217.1).toList = (strOfNums bt221.1).toList then (if bt217.2 = bt221.2 then (if bt225.1 = bt230.1 then (if (strOfNums bt225.2.1).toList = (strOfNums bt230.2.1).toList then (if bt225.2.2 = bt230.2.2 then ((octet_Size.f a1).bind fun t235 => ((banksmanref01_Size.f k a1).bind fun t236 => (some (t235 == t236)))) else (some false)) else (some false)) else (some false)) else (some false)) else (some false)) else (some false))))))) = some r := H
  have A3 := Aside0.mk A30
  clear A30
  by_cases c4 : (l0.length : Int) > 300
  · rw [if_pos c4] at H
    have c4b0 : decide (300 < (l0.length : Int)) = true := decide_eq_true c4
    have c4b1 : decide (300 < l0.length) = true := decide_eq_true (by omega)
    clear c4
    obtain rfl := Option.some.inj H
    go_enter Try.func3, Try.ntmps3
    go_wp2_with (first | ((with_reducible refine gate_callee (f := 10) rfl ?_); refine goesL_ (some 16) rfl rfl Try.func10 (by kernel_rfl) rfl #[] rfl (by (try simp only [List.map_toArray, List.map_cons, List.map_nil]); first | done | rfl | (simp only [List.length_drop, List.length_take]; rfl)) ?_; (with_reducible refine (banksmanlaw01_awake.calls  t216 _ A3.out).mono ?_); rintro e w5 ⟨rfl, hb⟩; refine ⟨_, rfl, ?_⟩; have n0_ := Aside0.mk (below_step (by repeat (first | (with_reducible first | exact HB.out | apply below_alloc | apply pw_below_drewN | apply below_drew1) | exact HB.out)) hb); clear HB; have HB := n0_; clear n0_; (try clear hb); (try clear hb2); (try clear hk); (try clear hi)))
    go_ret
    exact ⟨by first | rfl | (simp [errW_none, errW_some] <;> rfl) | (simp [*, errW_none, errW_some] <;> rfl), by repeat (first | (with_reducible first | exact HB.out | apply below_alloc | apply pw_below_drewN | apply below_drew1) | exact HB.out)⟩
  · rw [if_neg c4] at H
    have c4b0 : decide (300 < (l0.length : Int)) = false := decide_eq_false c4
    have c4b1 : decide (300 < l0.length) = false := decide_eq_false (by omega)
    clear c4
    replace H := Option.bind_eq_some_iff.mp H
    obtain ⟨⟨t217, t218⟩, A60, H⟩ := H
    replace H : ((banksmanref01_Number.f k l0 a1).bind fun bt221 => ((octet_Take.f l0).bind fun bt225 => ((banksmanref01_Take.f k l0).bind fun bt230 => (if t216 = true then (if (strOfNums t217).toList = (strOfNums bt221.1).toList then (if t218 = bt221.2 then (if bt225.1 = bt230.1 then (if (strOfNums bt225.2.1).toList = (strOfNums bt230.2.1).toList then (if bt225.2.2 = bt230.2.2 then ((octet_Size.f a1).bind fun t235 => ((banksmanref01_Size.f k a1).bind fun t236 => (some (t235 == t236)))) else (some false)) else (some false)) else (some false)) else (some false)) else (some false)) else (some false))))) = some r := H
    have A6 := Aside0.mk A60
    clear A60
    replace H := Option.bind_eq_some_iff.mp H
    obtain ⟨⟨t221, t222⟩, A70, H⟩ := H
    replace H : ((octet_Take.f l0).bind fun bt225 => ((banksmanref01_Take.f k l0).bind fun bt230 => (if t216 = true then (if (strOfNums t217).toList = (strOfNums t221).toList then (if t218 = t222 then (if bt225.1 = bt230.1 then (if (strOfNums bt225.2.1).toList = (strOfNums bt230.2.1).toList then (if bt225.2.2 = bt230.2.2 then ((octet_Size.f a1).bind fun t235 => ((banksmanref01_Size.f k a1).bind fun t236 => (some (t235 == t236)))) else (some false)) else (some false)) else (some false)) else (some false)) else (some false)) else (some false)))) = some r := H
    have A7 := Aside0.mk A70
    clear A70
    replace H := Option.bind_eq_some_iff.mp H
    obtain ⟨⟨t225, t226, t227⟩, A80, H⟩ := H
    replace H : ((banksmanref01_Take.f k l0).bind fun bt230 => (if t216 = true then (if (strOfNums t217).toList = (strOfNums t221).toList then (if t218 = t222 then (if t225 = bt230.1 then (if (strOfNums t226).toList = (strOfNums bt230.2.1).toList then (if t227 = bt230.2.2 then ((octet_Size.f a1).bind fun t235 => ((banksmanref01_Size.f k a1).bind fun t236 => (some (t235 == t236)))) else (some false)) else (some false)) else (some false)) else (some false)) else (some false)) else (some false))) = some r := H
    have A8 := Aside0.mk A80
    clear A80
    replace H := Option.bind_eq_some_iff.mp H
    obtain ⟨⟨t230, t231, t234⟩, A90, H⟩ := H
    replace H : (if t216 = true then (if (strOfNums t217).toList = (strOfNums t221).toList then (if t218 = t222 then (if t225 = t230 then (if (strOfNums t226).toList = (strOfNums t231).toList then (if t227 = t234 then ((octet_Size.f a1).bind fun t235 => ((banksmanref01_Size.f k a1).bind fun t236 => (some (t235 == t236)))) else (some false)) else (some false)) else (some false)) else (some false)) else (some false)) else (some false)) = some r := H
    have A9 := Aside0.mk A90
    clear A90
    by_cases c10 : t216 = true
    · subst c10
      have H1 : (if (strOfNums t217).toList = (strOfNums t221).toList then (if t218 = t222 then (if t225 = t230 then (if (strOfNums t226).toList = (strOfNums t231).toList then (if t227 = t234 then ((octet_Size.f a1).bind fun t235 => ((banksmanref01_Size.f k a1).bind fun t236 => (some (t235 == t236)))) else (some false)) else (some false)) else (some false)) else (some false)) else (some false)) = some r := by rw [if_pos rfl] at H; exact H
      clear H
      have H := H1
      clear H1
      by_cases c11 : (strOfNums t217).toList = (strOfNums t221).toList
      · rw [if_pos c11] at H
        have c11b0 : ((strOfNums t217).toList == (strOfNums t221).toList) = true := beq_iff_eq.mpr c11
        have c11b1 : ((strOfNums t217).toList != (strOfNums t221).toList) = false := bne_eq_false_iff_eq.mpr c11
        clear c11
        by_cases c12 : t218 = t222
        · rw [if_pos c12] at H
          have c12b0 : (t218 == t222) = true := beq_iff_eq.mpr c12
          have c12b1 : (t218 != t222) = false := bne_eq_false_iff_eq.mpr c12
          clear c12
          by_cases c13 : t225 = t230
          · rw [if_pos c13] at H
            have c13b0 : (t225 == t230) = true := beq_iff_eq.mpr c13
            have c13b1 : (t225 != t230) = false := bne_eq_false_iff_eq.mpr c13
            clear c13
            by_cases c14 : (strOfNums t226).toList = (strOfNums t231).toList
            · rw [if_pos c14] at H
              have c14b0 : ((strOfNums t226).toList == (strOfNums t231).toList) = true := beq_iff_eq.mpr c14
              have c14b1 : ((strOfNums t226).toList != (strOfNums t231).toList) = false := bne_eq_false_iff_eq.mpr c14
              clear c14
              by_cases c15 : t227 = t234
              · rw [if_pos c15] at H
                have c15b0 : (t227 == t234) = true := beq_iff_eq.mpr c15
                have c15b1 : (t227 != t234) = false := bne_eq_false_iff_eq.mpr c15
                clear c15
                replace H := Option.bind_eq_some_iff.mp H
                obtain ⟨t235, A160, H⟩ := H
                replace H : ((banksmanref01_Size.f k a1).bind fun t236 => (some (t235 == t236))) = some r := H
                have A16 := Aside0.mk A160
                clear A160
                replace H := Option.bind_eq_some_iff.mp H
                obtain ⟨t236, A170, H⟩ := H
                replace H : (some (t235 == t236)) = some r := H
                have A17 := Aside0.mk A170
                clear A170
                obtain rfl := Option.some.inj H
                go_enter Try.func3, Try.ntmps3
                go_wp2_with (first | ((with_reducible refine gate_callee (f := 10) rfl ?_); refine goesL_ (some 16) rfl rfl Try.func10 (by kernel_rfl) rfl #[] rfl (by (try simp only [List.map_toArray, List.map_cons, List.map_nil]); first | done | rfl | (simp only [List.length_drop, List.length_take]; rfl)) ?_; (with_reducible refine (banksmanlaw01_awake.calls  true _ A3.out).mono ?_); rintro e w18 ⟨rfl, hb⟩; refine ⟨_, rfl, ?_⟩; have n0_ := Aside0.mk (below_step (by repeat (first | (with_reducible first | exact HB.out | apply below_alloc | apply pw_below_drewN | apply below_drew1) | exact HB.out)) hb); clear HB; have HB := n0_; clear n0_; (try clear hb); (try clear hb2); (try clear hk); (try clear hi)) | ((with_reducible refine gate_callee (f := 11) rfl ?_); refine goesL_ (some 24) rfl rfl Try.func11 (by kernel_rfl) rfl #[.slice A0 l0.length c0, .int .i64 a1] rfl (by (try simp only [List.map_toArray, List.map_cons, List.map_nil]); first | done | rfl | (simp only [List.length_drop, List.length_take]; rfl)) ?_; (with_reducible refine (octet_Number.calls _ _ l0 a1 t217 t218 _ ?side1 ?side2 A6.out).mono ?_); (case side1 => repeat (first | exact (Kd.C_below HR0.out HB.out) | (with_reducible refine Kd.C_alloc ?_ _) | (with_reducible refine Kd.C_drewN ?_ _) | (with_reducible refine Kd.C_drew ?_))); (case side2 => exact HC0.out); rintro e w19 ⟨v219, rfl, ho0, hb⟩; refine ⟨_, rfl, ?_⟩; have n0_ := Aside0.mk (Kd.R_lower ho0 (below_size (by repeat (first | (with_reducible first | exact HB.out | apply below_alloc | apply pw_below_drewN | apply below_drew1) | exact HB.out)))); have n1_ := Aside0.mk (below_step (by repeat (first | (with_reducible first | exact HB.out | apply below_alloc | apply pw_below_drewN | apply below_drew1) | exact HB.out)) hb); clear HB; have HO220 := n0_; have HB := n1_; clear n0_ n1_; (try clear hb); (try clear hb2); (try clear hk); (try clear hi); (try clear ho0)) | ((with_reducible refine gate_callee (f := 12) rfl ?_); refine goesL_ (some 30) rfl rfl Try.func12 (by kernel_rfl) rfl #[.slice A0 l0.length c0, .int .i64 a1] rfl (by (try simp only [List.map_toArray, List.map_cons, List.map_nil]); first | done | rfl | (simp only [List.length_drop, List.length_take]; rfl)) ?_; (with_reducible refine (banksmanref01_Number.calls k _ _ l0 a1 t221 t222 _ ?side1 ?side2 A7.out).mono ?_); (case side1 => repeat (first | exact (Kd.C_below HR0.out HB.out) | (with_reducible refine Kd.C_alloc ?_ _) | (with_reducible refine Kd.C_drewN ?_ _) | (with_reducible refine Kd.C_drew ?_))); (case side2 => exact HC0.out); rintro e w20 ⟨v223, rfl, ho0, hb⟩; refine ⟨_, rfl, ?_⟩; have n0_ := Aside0.mk (Kd.R_elder' (by (with_reducible repeat (first | apply Kd.R_alloc | apply Kd.R_drewN | apply Kd.R_drew)); exact HO220.out) (Kd.R_base ho0) hb); have n1_ := Aside0.mk (Kd.R_lower (Kd.R_new' ho0 (Kd.R_lt (by (with_reducible repeat (first | apply Kd.R_alloc | apply Kd.R_drewN | apply Kd.R_drew)); exact HO220.out))) (below_size (by repeat (first | (with_reducible first | exact HB.out | apply below_alloc | apply pw_below_drewN | apply below_drew1) | exact HB.out)))); have n2_ := Aside0.mk (below_step (by repeat (first | (with_reducible first | exact HB.out | apply below_alloc | apply pw_below_drewN | apply below_drew1) | exact HB.out)) hb); clear HO220; clear HB; have HO220 := n0_; have HO224 := n1_; have HB := n2_; clear n0_ n1_ n2_; (try clear hb); (try clear hb2); (try clear hk); (try clear hi); (try clear ho0)) | ((with_reducible refine gate_callee (f := 13) rfl ?_); refine goesL_ (some 35) rfl rfl Try.func13 (by kernel_rfl) rfl #[.slice A0 l0.length c0] rfl (by (try simp only [List.map_toArray, List.map_cons, List.map_nil]); first | done | rfl | (simp only [List.length_drop, List.length_take]; rfl)) ?_; (with_reducible refine (octet_Take.calls _ _ l0 t225 t226 t227 _ ?side1 ?side2 A8.out).mono ?_); (case side1 => repeat (first | exact (Kd.C_below HR0.out HB.out) | (with_reducible refine Kd.C_alloc ?_ _) | (with_reducible refine Kd.C_drewN ?_ _) | (with_reducible refine Kd.C_drew ?_))); (case side2 => exact HC0.out); rintro e w21 ⟨v228, rfl, ho0, hb⟩; refine ⟨_, rfl, ?_⟩; have n0_ := Aside0.mk (Kd.R_elder' (by (with_reducible repeat (first | apply Kd.R_alloc | apply Kd.R_drewN | apply Kd.R_drew)); exact HO220.out) (Kd.R_base ho0) hb); have n1_ := Aside0.mk (Kd.R_elder' (by (with_reducible repeat (first | apply Kd.R_alloc | apply Kd.R_drewN | apply Kd.R_drew)); exact HO224.out) (Kd.R_base ho0) hb); have n2_ := Aside0.mk (Kd.R_lower (Kd.R_new' (Kd.R_new' ho0 (Kd.R_lt (by (with_reducible repeat (first | apply Kd.R_alloc | apply Kd.R_drewN | apply Kd.R_drew)); exact HO220.out))) (Kd.R_lt (by (with_reducible repeat (first | apply Kd.R_alloc | apply Kd.R_drewN | apply Kd.R_drew)); exact HO224.out))) (below_size (by repeat (first | (with_reducible first | exact HB.out | apply below_alloc | apply pw_below_drewN | apply below_drew1) | exact HB.out)))); have n3_ := Aside0.mk (below_step (by repeat (first | (with_reducible first | exact HB.out | apply below_alloc | apply pw_below_drewN | apply below_drew1) | exact HB.out)) hb); clear HO220; clear HO224; clear HB; have HO220 := n0_; have HO224 := n1_; have HO229 := n2_; have HB := n3_; clear n0_ n1_ n2_ n3_; (try clear hb); (try clear hb2); (try clear hk); (try clear hi); (try clear ho0)) | ((with_reducible refine gate_callee (f := 14) rfl ?_); refine goesL_ (some 41) rfl rfl Try.func14 (by kernel_rfl) rfl #[.slice A0 l0.length c0] rfl (by (try simp only [List.map_toArray, List.map_cons, List.map_nil]); first | done | rfl | (simp only [List.length_drop, List.length_take]; rfl)) ?_; (with_reducible refine (banksmanref01_Take.calls k _ _ l0 t230 t231 t234 _ ?side1 ?side2 A9.out).mono ?_); (case side1 => repeat (first | exact (Kd.C_below HR0.out HB.out) | (with_reducible refine Kd.C_alloc ?_ _) | (with_reducible refine Kd.C_drewN ?_ _) | (with_reducible refine Kd.C_drew ?_))); (case side2 => exact HC0.out); rintro e w22 ⟨v232, rfl, ho0, hb⟩; refine ⟨_, rfl, ?_⟩; have n0_ := Aside0.mk (Kd.R_below (by (with_reducible repeat (first | apply Kd.R_alloc | apply Kd.R_drewN | apply Kd.R_drew)); exact HO220.out) hb); have n1_ := Aside0.mk (Kd.R_below (by (with_reducible repeat (first | apply Kd.R_alloc | apply Kd.R_drewN | apply Kd.R_drew)); exact HO224.out) hb); have n2_ := Aside0.mk (Kd.R_below (by (with_reducible repeat (first | apply Kd.R_alloc | apply Kd.R_drewN | apply Kd.R_drew)); exact HO229.out) hb); have n3_ := Aside0.mk (Kd.V_lower (Kd.V_mono (ok' := fun k_ => some k_ ≠ (v219 : Value).ownBlock ∧ some k_ ≠ (v223 : Value).ownBlock ∧ some k_ ≠ (v228 : Value).ownBlock) ho0 (fun k_ hk_ => ⟨(Kd.fresh' (Kd.R_lt (by (with_reducible repeat (first | apply Kd.R_alloc | apply Kd.R_drewN | apply Kd.R_drew)); exact HO220.out)) k_ hk_), (Kd.fresh' (Kd.R_lt (by (with_reducible repeat (first | apply Kd.R_alloc | apply Kd.R_drewN | apply Kd.R_drew)); exact HO224.out)) k_ hk_), (Kd.fresh' (Kd.R_lt (by (with_reducible repeat (first | apply Kd.R_alloc | apply Kd.R_drewN | apply Kd.R_drew)); exact HO229.out)) k_ hk_)⟩)) (below_size (by repeat (first | (with_reducible first | exact HB.out | apply below_alloc | apply pw_below_drewN | apply below_drew1) | exact HB.out)))); have n4_ := Aside0.mk (below_step (by repeat (first | (with_reducible first | exact HB.out | apply below_alloc | apply pw_below_drewN | apply below_drew1) | exact HB.out)) hb); clear HO220; clear HO224; clear HO229; clear HB; have HO220 := n0_; have HO224 := n1_; have HO229 := n2_; have HO233 := n3_; have HB := n4_; clear n0_ n1_ n2_ n3_ n4_; (try clear hb); (try clear hb2); (try clear hk); (try clear hi); (try clear ho0); have hcv23 := own_string (P := Try.prog) Try.underlying22 Try.underlying5 Try.underlying9 (Kd.own_of_R HO220.out); have hcv24 := own_string (P := Try.prog) Try.underlying22 Try.underlying5 Try.underlying9 (Kd.own_of_R HO224.out); have hcv25 := own_string (P := Try.prog) Try.underlying22 Try.underlying5 Try.underlying9 (Kd.own_of_R HO229.out); obtain ⟨Ao26, co26, eo26⟩ := Kd.V_slice HO233.out; subst eo26; have hcv27 := Kd.C_string (P := Try.prog) (A := Ao26) (c := co26) Try.underlying22 Try.underlying5 Try.underlying9 (Kd.V_reads' HO233.out).2.2) | (go_at_call 15; (with_reducible refine (octet_Size.calls a1 t235 _ A16.out).mono ?_); rintro e w28 ⟨rfl, hb⟩; have n0_ := Aside0.mk (Kd.R_below (by (with_reducible repeat (first | apply Kd.R_alloc | apply Kd.R_drewN | apply Kd.R_drew)); exact HO220.out) hb); have n1_ := Aside0.mk (Kd.R_below (by (with_reducible repeat (first | apply Kd.R_alloc | apply Kd.R_drewN | apply Kd.R_drew)); exact HO224.out) hb); have n2_ := Aside0.mk (Kd.R_below (by (with_reducible repeat (first | apply Kd.R_alloc | apply Kd.R_drewN | apply Kd.R_drew)); exact HO229.out) hb); have n3_ := Aside0.mk (Kd.V_below (by (with_reducible repeat (first | apply Kd.V_alloc | apply Kd.V_drewN | apply Kd.V_drew)); exact HO233.out) hb); have n4_ := Aside0.mk (below_step (by repeat (first | (with_reducible first | exact HB.out | apply below_alloc | apply pw_below_drewN | apply below_drew1) | exact HB.out)) hb); clear HO220; clear HO224; clear HO229; clear HO233; clear HB; have HO220 := n0_; have HO224 := n1_; have HO229 := n2_; have HO233 := n3_; have HB := n4_; clear n0_ n1_ n2_ n3_ n4_; (try clear hb); (try clear hb2); (try clear hk); (try clear hi)) | (go_at_call 16; (with_reducible refine (banksmanref01_Size.calls k a1 t236 _ A17.out).mono ?_); rintro e w29 ⟨rfl, hb⟩; have n0_ := Aside0.mk (Kd.R_below (by (with_reducible repeat (first | apply Kd.R_alloc | apply Kd.R_drewN | apply Kd.R_drew)); exact HO220.out) hb); have n1_ := Aside0.mk (Kd.R_below (by (with_reducible repeat (first | apply Kd.R_alloc | apply Kd.R_drewN | apply Kd.R_drew)); exact HO224.out) hb); have n2_ := Aside0.mk (Kd.R_below (by (with_reducible repeat (first | apply Kd.R_alloc | apply Kd.R_drewN | apply Kd.R_drew)); exact HO229.out) hb); have n3_ := Aside0.mk (Kd.V_below (by (with_reducible repeat (first | apply Kd.V_alloc | apply Kd.V_drewN | apply Kd.V_drew)); exact HO233.out) hb); have n4_ := Aside0.mk (below_step (by repeat (first | (with_reducible first | exact HB.out | apply below_alloc | apply pw_below_drewN | apply below_drew1) | exact HB.out)) hb); clear HO220; clear HO224; clear HO229; clear HO233; clear HB; have HO220 := n0_; have HO224 := n1_; have HO229 := n2_; have HO233 := n3_; have HB := n4_; clear n0_ n1_ n2_ n3_ n4_; (try clear hb); (try clear hb2); (try clear hk); (try clear hi)))
                go_ret
                exact ⟨by first | rfl | (simp [errW_none, errW_some] <;> rfl) | (simp [*, errW_none, errW_some] <;> rfl), by repeat (first | (with_reducible first | exact HB.out | apply below_alloc | apply pw_below_drewN | apply below_drew1) | exact HB.out)⟩
              · rw [if_neg c15] at H
                rw [HTr_] at H
                exact absurd (Option.some.inj H) (by decide)
            · rw [if_neg c14] at H
              rw [HTr_] at H
              exact absurd (Option.some.inj H) (by decide)
          · rw [if_neg c13] at H
            rw [HTr_] at H
            exact absurd (Option.some.inj H) (by decide)
        · rw [if_neg c12] at H
          rw [HTr_] at H
          exact absurd (Option.some.inj H) (by decide)
      · rw [if_neg c11] at H
        rw [HTr_] at H
        exact absurd (Option.some.inj H) (by decide)
    · replace c10 := Bool.eq_false_iff.mpr c10
      subst c10
      have H1 : (some false) = some r := by rw [if_neg (show ¬ (false = true) by decide)] at H; exact H
      rw [HTr_] at H1
      exact absurd (Option.some.inj H1) (by decide)

/-- THE ONE PURE STATEMENT of banksmanlaw01_OctetNumbers: yours. -/
def banksmanlaw01_OctetNumbers.Pure : Prop := ∀ (l0 : List Int) (a1 : Int), l0.length ≤ maxLen → l0.length * 1 ≤ 140737488351232 → (∀ x ∈ l0, (Lit.int .u8 x).wf = true) → (Lit.int .i64 a1).wf = true → ∃ k, banksmanlaw01_OctetNumbers.f k l0 a1 = some true
theorem banksmanlaw01_OctetNumbers.walk (P : banksmanlaw01_OctetNumbers.Pure) (a0 : Option Addr) (len0 cap0 : Nat) (z0 : List Int) (a1 : Int) (w : World) (w0 : (a0 = none ∧ len0 = 0 ∧ cap0 = 0 ∧ z0 = []) ∨ ∃ x, a0 = some x ∧ len0 ≤ cap0 ∧ cap0 ≤ maxLen ∧ z0.length = cap0 ∧ (∀ i, i < z0.length → w.cell? (x.add i) = some (.int .u8 (z0.getD i 0))) ∧ ∀ n ∈ z0, (Lit.int .u8 n).wf = true) (y0 : len0 * 1 ≤ 140737488351232) (w1 : (Lit.int .i64 a1).wf = true) :
    Calls Try.prog 3 #[.slice a0 len0 cap0, .int .i64 a1] w fun e w' => e = .returned (.bool true) ∧ Below w.heap.size w w' := by
  obtain ⟨l0, rfl, hr0, hm0, hw0, hc0⟩ := ReadsInt.ofRowC w0
  obtain ⟨k, h⟩ := P l0 a1 hm0 y0 hw0 w1
  refine (banksmanlaw01_OctetNumbers.calls k _ _ l0 a1 true w (Kd.C_of_reads (d := (0 : Int)) (h1 := fun _ => rfl) hr0) hc0 h rfl).mono ?_
  rintro e w' ⟨rfl, hd⟩
  exact ⟨rfl, hd⟩

end Go.Proofs.Ythfiochgkmggoaa.P
