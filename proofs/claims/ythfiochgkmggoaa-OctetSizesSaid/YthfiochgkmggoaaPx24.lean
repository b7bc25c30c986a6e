-- Written by wip/gprint.py, a program of this session over the kit's print; Lean checks it.
import Derived.Test.YthfiochgkmggoaaPx0
import Derived.Test.YthfiochgkmggoaaPx8
import Derived.Test.YthfiochgkmggoaaPx9
import Derived.Test.YthfiochgkmggoaaPx10
import Derived.Test.YthfiochgkmggoaaPx13
namespace Go.Proofs.Ythfiochgkmggoaa.P
open Go.RowKit Go.Proofs.YthfiochgkmggoaaW.PrintWords Go.Proofs.YthfiochgkmggoaaW.PrintLast Go.Proofs.YthfiochgkmggoaaW.PrintMore
attribute [local go_sem] max2_int min2_int max_two min_two max_three min_three max_four min_four   -- for this text's walks alone
set_option linter.unusedVariables false
set_option linter.unusedSimpArgs false

/-! ### banksmanlaw01_OctetSizes: function 8 -/
def banksmanlaw01_OctetSizes.f (a0 : Int) (a1 : Int) (a2 : Int) : Option (Bool) := (banksmanlaw01_awake.f).bind fun t370 => ((octet_Number.f ([] : List Int) a0).bind fun bt371 => (if bt371.2 = 0 then (if (mx 1 (bt371.1.length : Int)) = 0 then (none) else (if 0 ≤ (Int.tmod (wrap64 (a2)) (mx 1 (bt371.1.length : Int))) then (if (Int.tmod (wrap64 (a2)) (mx 1 (bt371.1.length : Int))) ≤ (bt371.1.length : Int) then ((octet_Take.f (bt371.1.take ((Int.tmod (wrap64 (a2)) (mx 1 (bt371.1.length : Int))) : Int).toNat)).bind fun bt380 => (if a1 < 0 then (if t370 = true then ((octet_Size.f a0).bind fun t385 => (if (bt371.1.length : Int) = t385 then (if (bt371.1.length : Int) ≥ 1 then (if (bt371.1.length : Int) ≤ 5 then (if bt380.2.2 = 10 then (some true) else (some false)) else (some false)) else (some false)) else (some false))) else (some false)) else (if a1 > a0 then (if t370 = true then ((octet_Size.f a0).bind fun t386 => (if (bt371.1.length : Int) = t386 then (if (bt371.1.length : Int) ≥ 1 then (if (bt371.1.length : Int) ≤ 5 then (if bt380.2.2 = 10 then (some true) else (some false)) else (some false)) else (some false)) else (some false))) else (some false)) else ((octet_Size.f a1).bind fun t387 => ((octet_Size.f a0).bind fun t388 => (if t370 = true then ((octet_Size.f a0).bind fun t389 => (if (bt371.1.length : Int) = t389 then (if (bt371.1.length : Int) ≥ 1 then (if (bt371.1.length : Int) ≤ 5 then (if bt380.2.2 = 10 then (some (decide (t387 ≤ t388))) else (some false)) else (some false)) else (some false)) else (some false))) else (some false))))))) else (none)) else (none))) else (if t370 = true then ((octet_Size.f a0).bind fun t375 => (if t375 = 0 then (some ((bt371.1.length : Int) == 0)) else (some false))) else (some false))))
set_option maxHeartbeats 8000000 in
set_option maxRecDepth 100000 in
theorem banksmanlaw01_OctetSizes.calls (a0 : Int) (a1 : Int) (a2 : Int) (r : Bool) (w : World) (h : banksmanlaw01_OctetSizes.f a0 a1 a2 = some r) (HTr_ : r = true) :
    Calls Try.prog 8 #[.int .i64 a0, .int .i64 a1, .int .u8 a2] w fun e w' => e = .returned (.bool r) ∧ Below w.heap.size w w' := by
  have HB := Aside0.mk (Below.refl w.heap.size w)
  have H : ((banksmanlaw01_awake.f).bind fun t370 => ((octet_Number.f ([] : List Int) a0).bind fun bt371 => (if bt371.2 = 0 then (if (mx 1 (bt371.1.length : Int)) = 0 then (none) else (if 0 ≤ (Int.tmod (wrap64 (a2)) (mx 1 (bt371.1.length : Int))) then (if (Int.tmod (wrap64 (a2)) (mx 1 (bt371.1.length : Int))) ≤ (bt371.1.length : Int) then ((octet_Take.f (bt371.1.take ((Int.tmod (wrap64 (a2)) (mx 1 (bt371.1.length : Int))) : Int).toNat)).bind fun bt380 => (if a1 < 0 then (if t370 = true then ((octet_Size.f a0).bind fun t385 => (if (bt371.1.length : Int) = t385 then (if (bt371.1.length : Int) ≥ 1 then (if (bt371.1.length : Int) ≤ 5 then (if bt380.2.2 = 10 then (some true) else (some false)) else (some false)) else (some false)) else (some false))) else (some false)) else (if a1 > a0 then (if t370 = true then ((octet_Size.f a0).bind fun t386 => (if (bt371.1.length : Int) = t386 then (if (bt371.1.length : Int) ≥ 1 then (if (bt371.1.length : Int) ≤ 5 then (if bt380.2.2 = 10 then (some true) else (some false)) else (some false)) else (some false)) else (some false))) else (some false)) else ((octet_Size.f a1).bind fun t387 => ((octet_Size.f a0).bind fun t388 => (if t370 = true then ((octet_Size.f a0).bind fun t389 => (if (bt371.1.length : Int) = t389 then (if (bt371.1.length : Int) ≥ 1 then (if (bt371.1.length : Int) ≤ 5 then (if bt380.2.2 = 10 then (some (decide (t387 ≤ t388))) else (some false)) else (some false)) else (some false)) else (some false))) else (some false))))))) else (none)) else (none))) else (if t370 = true then ((octet_Size.f a0).bind fun t375 => (if t375 = 0 then (some ((bt371.1.length : Int) == 0)) else (some false))) else (some false))))) = some r := h
  clear h
  replace H := Option.bind_eq_some_iff.mp H
  obtain ⟨t370, A40, H⟩ := H
  replace H : ((octet_Number.f ([] : List Int) a0).bind fun bt371 => (if bt371.2 = 0 then (if (mx 1 (bt371.1.length : Int)) = 0 then (none) else (if 0 ≤ (Int.tmod (wrap64 (a2)) (mx 1 (bt371.1.length : Int))) then (if (Int.tmod (wrap64 (a2)) (mx 1 (bt371.1.length : Int))) ≤ (bt371.1.length : Int) then ((octet_Take.f (bt371.1.take ((Int.tmod (wrap64 (a2)) (mx 1 (bt371.1.length : Int))) : Int).toNat)).bind fun bt380 => (if a1 < 0 then (if t370 = true then ((octet_Size.f a0).bind fun t385 => (if (bt371.1.length : Int) = t385 then (if (bt371.1.length : Int) ≥ 1 then (if (bt371.1.length : Int) ≤ 5 then (if bt380.2.2 = 10 then (some true) else (some false)) else (some false)) else (some false)) else (some false))) else (some false)) else (if a1 > a0 then (if t370 = true then ((octet_Size.f a0).bind fun t386 => (if (bt371.1.length : Int) = t386 then (if (bt371.1.length : Int) ≥ 1 then (if (bt371.1.length : Int) ≤ 5 then (if bt380.2.2 = 10 then (some true) else (some false)) else (some false)) else (some false)) else (some false))) else (some false)) else ((octet_Size.f a1).bind fun t387 => ((octet_Size.f a0).bind fun t388 => (if t370 = true then ((octet_Size.f a0).bind fun t389 => (if (bt371.1.length : Int) = t389 then (if (bt371.1.length : Int) ≥ 1 then (if (bt371.1.length : Int) ≤ 5 then (if bt380.2.2 = 10 then (some (decide (t387 ≤ t388))) else (some false)) else (some false)) else (some false)) else (some false))) else (some false))))))) else (none)) else (none))) else (if t370 = true then ((octet_Size.f a0).bind fun t375 => (if t375 = 0 then (some ((bt371.1.length : Int) == 0)) else (some false))) else (some false)))) = some r := H
  have A4 := Aside0.mk A40
  clear A40
  replace H := Option.bind_eq_some_iff.mp H
  obtain ⟨⟨t371, t372⟩, A50, H⟩ := H
  replace H : (if t372 = 0 then (if (mx 1 (t371.length : Int)) = 0 then (none) else (if 0 ≤ (Int.tmod (wrap64 (a2)) (mx 1 (t371.length : Int))) then (if (Int.tmod (wrap64 (a2)) (mx 1 (t371.length : Int))) ≤ (t371.length : Int) then ((octet_Take.f (t371.take ((Int.tmod (wrap64 (a2)) (mx 1 (t371.length : Int))) : Int).toNat)).bind fun bt380 => (if a1 < 0 then (if t370 = true then ((octet_Size.f a0).bind fun t385 => (if (t371.length : Int) = t385 then (if (t371.length : Int) ≥ 1 then (if (t371.length : Int) ≤ 5 then (if bt380.2.2 = 10 then (some true) else (some false)) else (some false)) else (some false)) else (some false))) else (some false)) else (if a1 > a0 then (if t370 = true then ((octet_Size.f a0).bind fun t386 => (if (t371.length : Int) = t386 then (if (t371.length : Int) ≥ 1 then (if (t371.length : Int) ≤ 5 then (if bt380.2.2 = 10 then (some true) else (some false)) else (some false)) else (some false)) else (some false))) else (some false)) else ((octet_Size.f a1).bind fun t387 => ((octet_Size.f a0).bind fun t388 => (if t370 = true then ((octet_Size.f a0).bind fun t389 => (if (t371.length : Int) = t389 then (if (t371.length : Int) ≥ 1 then (if (t371.length : Int) ≤ 5 then (if bt380.2.2 = 10 then (some (decide (t387 ≤ t388))) else (some false)) else (some false)) else (some false)) else (some false))) else (some false))))))) else (none)) else (none))) else (if t370 = true then ((octet_Size.f a0).bind fun t375 => (if t375 = 0 then (some ((t371.length : Int) == 0)) else (some false))) else (some false))) = some r := H
  have A5 := Aside0.mk A50
  clear A50
  by_cases c6 : t372 = 0
  · rw [if_pos c6] at H
    have c6b0 : (t372 == 0) = true := beq_iff_eq.mpr c6
    have c6b1 : (t372 != 0) = false := bne_eq_false_iff_eq.mpr c6
    clear c6
    obtain ⟨ji7, hji7⟩ : ∃ j_ : Int, (mx 1 (t371.length : Int)) = j_ := ⟨_, rfl⟩
    replace H : (if (ji7) = 0 then (none) else (if 0 ≤ (Int.tmod (wrap64 (a2)) (ji7)) then (if (Int.tmod (wrap64 (a2)) (ji7)) ≤ (t371.length : Int) then ((octet_Take.f (t371.take ((Int.tmod (wrap64 (a2)) (ji7)) : Int).toNat)).bind fun bt380 => (if a1 < 0 then (if t370 = true then ((octet_Size.f a0).bind fun t385 => (if (t371.length : Int) = t385 then (if (t371.length : Int) ≥ 1 then (if (t371.length : Int) ≤ 5 then (if bt380.2.2 = 10 then (some true) else (some false)) else (some false)) else (some false)) else (some false))) else (some false)) else (if a1 > a0 then (if t370 = true then ((octet_Size.f a0).bind fun t386 => (if (t371.length : Int) = t386 then (if (t371.length : Int) ≥ 1 then (if (t371.length : Int) ≤ 5 then (if bt380.2.2 = 10 then (some true) else (some false)) else (some false)) else (some false)) else (some false))) else (some false)) else ((octet_Size.f a1).bind fun t387 => ((octet_Size.f a0).bind fun t388 => (if t370 = true then ((octet_Size.f a0).bind fun t389 => (if (t371.length : Int) = t389 then (if (t371.length : Int) ≥ 1 then (if (t371.length : Int) ≤ 5 then (if bt380.2.2 = 10 then (some (decide (t387 ≤ t388))) else (some false)) else (some false)) else (some false)) else (some false))) else (some false))))))) else (none)) else (none))) = some r := by first | (rw [hji7] at H; exact H) | (simp only [hji7] at H ⊢; exact H)
    (try rw [hji7] at A4)
    (try rw [hji7] at A5)
    (try (have hji7l : 1 ≤ ji7 := by (rw [← hji7]; unfold mx; (repeat' split) <;> omega)))
    (try (have hji7m : 0 ≤ ji7 := by omega))
    have hji7_ : (if 1 < (t371.length : Int) then (t371.length : Int) else 1) = ji7 := hji7
    by_cases c8 : (ji7) = 0
    · rw [if_pos c8] at H
      exact absurd H (by simp)
    · rw [if_neg c8] at H
      have c8b0 : ((ji7) == 0) = false := beq_eq_false_iff_ne.mpr c8
      have c8b1 : ((ji7) != 0) = true := bne_iff_ne.mpr c8
      obtain ⟨ji9, hji9⟩ : ∃ j_ : Int, (Int.tmod (wrap64 (a2)) (ji7)) = j_ := ⟨_, rfl⟩
      (try (have hji7c9 := hji7; rw [hji9] at hji7c9))
      replace H : (if 0 ≤ (ji9) then (if (ji9) ≤ (t371.length : Int) then ((octet_Take.f (t371.take ((ji9) : Int).toNat)).bind fun bt380 => (if a1 < 0 then (if t370 = true then ((octet_Size.f a0).bind fun t385 => (if (t371.length : Int) = t385 then (if (t371.length : Int) ≥ 1 then (if (t371.length : Int) ≤ 5 then (if bt380.2.2 = 10 then (some true) else (some false)) else (some false)) else (some false)) else (some false))) else (some false)) else (if a1 > a0 then (if t370 = true then ((octet_Size.f a0).bind fun t386 => (if (t371.length : Int) = t386 then (if (t371.length : Int) ≥ 1 then (if (t371.length : Int) ≤ 5 then (if bt380.2.2 = 10 then (some true) else (some false)) else (some false)) else (some false)) else (some false))) else (some false)) else ((octet_Size.f a1).bind fun t387 => ((octet_Size.f a0).bind fun t388 => (if t370 = true then ((octet_Size.f a0).bind fun t389 => (if (t371.length : Int) = t389 then (if (t371.length : Int) ≥ 1 then (if (t371.length : Int) ≤ 5 then (if bt380.2.2 = 10 then (some (decide (t387 ≤ t388))) else (some false)) else (some false)) else (some false)) else (some false))) else (some false))))))) else (none)) else (none)) = some r := by first | (rw [hji9] at H; exact H) | (simp only [hji9] at H ⊢; exact H)
      (try rw [hji9] at A4)
      (try rw [hji9] at A5)
      by_cases c10 : 0 ≤ (ji9)
      · rw [if_pos c10] at H
        have c10b0 := eq_true c10
        have c10b1 : decide (0 ≤ (ji9)) = true := decide_eq_true c10
        clear c10
        by_cases c11 : (ji9) ≤ (t371.length : Int)
        · rw [if_pos c11] at H
          have c11b0 := eq_true c11
          have c11b1 : decide ((ji9) ≤ (t371.length : Int)) = true := decide_eq_true c11
          clear c11
          obtain ⟨y376, hy376⟩ : ∃ y_ : List Int, y_ = (t371.take ((ji9) : Int).toNat) := ⟨_, rfl⟩
          replace H : ((octet_Take.f y376).bind fun bt380 => (if a1 < 0 then (if t370 = true then ((octet_Size.f a0).bind fun t385 => (if (t371.length : Int) = t385 then (if (t371.length : Int) ≥ 1 then (if (t371.length : Int) ≤ 5 then (if bt380.2.2 = 10 then (some true) else (some false)) else (some false)) else (some false)) else (some false))) else (some false)) else (if a1 > a0 then (if t370 = true then ((octet_Size.f a0).bind fun t386 => (if (t371.length : Int) = t386 then (if (t371.length : Int) ≥ 1 then (if (t371.length : Int) ≤ 5 then (if bt380.2.2 = 10 then (some true) else (some false)) else (some false)) else (some false)) else (some false))) else (some false)) else ((octet_Size.f a1).bind fun t387 => ((octet_Size.f a0).bind fun t388 => (if t370 = true then ((octet_Size.f a0).bind fun t389 => (if (t371.length : Int) = t389 then (if (t371.length : Int) ≥ 1 then (if (t371.length : Int) ≤ 5 then (if bt380.2.2 = 10 then (some (decide (t387 ≤ t388))) else (some false)) else (some false)) else (some false)) else (some false))) else (some false))))))) = some r := by first | (rw [hy376]; with_reducible exact H) | (have H2_ := (Option.bind_some _ _).symm.trans H; rw [hy376]; with_reducible exact H2_) | (have H2_ := (Option.bind_some _ _).symm.trans H; with_reducible exact H2_) | with_reducible exact H | (rw [hy376]; exact H) | exact H
          have Ny376 := Aside0.mk hy376
          clear hy376
          replace H := Option.bind_eq_some_iff.mp H
          obtain ⟨⟨t380, t381, t382⟩, A120, H⟩ := H
          replace H : (if a1 < 0 then (if t370 = true then ((octet_Size.f a0).bind fun t385 => (if (t371.length : Int) = t385 then (if (t371.length : Int) ≥ 1 then (if (t371.length : Int) ≤ 5 then (if t382 = 10 then (some true) else (some false)) else (some false)) else (some false)) else (some false))) else (some false)) else (if a1 > a0 then (if t370 = true then ((octet_Size.f a0).bind fun t386 => (if (t371.length : Int) = t386 then (if (t371.length : Int) ≥ 1 then (if (t371.length : Int) ≤ 5 then (if t382 = 10 then (some true) else (some false)) else (some false)) else (some false)) else (some false))) else (some false)) else ((octet_Size.f a1).bind fun t387 => ((octet_Size.f a0).bind fun t388 => (if t370 = true then ((octet_Size.f a0).bind fun t389 => (if (t371.length : Int) = t389 then (if (t371.length : Int) ≥ 1 then (if (t371.length : Int) ≤ 5 then (if t382 = 10 then (some (decide (t387 ≤ t388))) else (some false)) else (some false)) else (some false)) else (some false))) else (some false)))))) = some r := H
          have A12 := Aside0.mk A120
          clear A120
          by_cases c13 : a1 < 0
          · rw [if_pos c13] at H
            have c13b0 : decide (a1 < 0) = true := decide_eq_true c13
            clear c13
            by_cases c14 : t370 = true
            · subst c14
              have H1 : ((octet_Size.f a0).bind fun t385 => (if (t371.length : Int) = t385 then (if (t371.length : Int) ≥ 1 then (if (t371.length : Int) ≤ 5 then (if t382 = 10 then (some true) else (some false)) else (some false)) else (some false)) else (some false))) = some r := by rw [if_pos rfl] at H; exact H
              clear H
              have H := H1
              clear H1
              replace H := Option.bind_eq_some_iff.mp H
              obtain ⟨t385, A150, H⟩ := H
              replace H : (if (t371.length : Int) = t385 then (if (t371.length : Int) ≥ 1 then (if (t371.length : Int) ≤ 5 then (if t382 = 10 then (some true) else (some false)) else (some false)) else (some false)) else (some false)) = some r := H
              have A15 := Aside0.mk A150
              clear A150
              by_cases c16 : (t371.length : Int) = t385
              · rw [if_pos c16] at H
                have c16b0 : ((t371.length : Int) == t385) = true := beq_iff_eq.mpr c16
                have c16b1 : ((t371.length : Int) != t385) = false := bne_eq_false_iff_eq.mpr c16
                clear c16
                by_cases c17 : (t371.length : Int) ≥ 1
                · rw [if_pos c17] at H
                  have c17b0 : decide (1 ≤ (t371.length : Int)) = true := decide_eq_true c17
                  have c17b1 : decide (1 ≤ t371.length) = true := decide_eq_true (by omega)
                  clear c17
                  by_cases c18 : (t371.length : Int) ≤ 5
                  · rw [if_pos c18] at H
                    have c18b0 : decide ((t371.length : Int) ≤ 5) = true := decide_eq_true c18
                    have c18b1 : decide (t371.length ≤ 5) = true := decide_eq_true (by omega)
                    clear c18
                    by_cases c19 : t382 = 10
                    · rw [if_pos c19] at H
                      have c19b0 : (t382 == 10) = true := beq_iff_eq.mpr c19
                      have c19b1 : (t382 != 10) = false := bne_eq_false_iff_eq.mpr c19
                      clear c19
                      obtain rfl := Option.some.inj H
                      go_enter Try.func8, Try.ntmps8
                      go_wp2_with (first | ((with_reducible refine gate_callee (f := 10) rfl ?_); refine goesL_ (some 14) rfl rfl Try.func10 (by kernel_rfl) rfl #[] rfl (by (try simp only [List.map_toArray, List.map_cons, List.map_nil]); first | done | rfl | (simp only [List.length_drop, List.length_take]; rfl)) ?_; (with_reducible refine (banksmanlaw01_awake.calls  true _ A4.out).mono ?_); rintro e w20 ⟨rfl, hb⟩; refine ⟨_, rfl, ?_⟩; have n0_ := Aside0.mk (below_step (by repeat (first | (with_reducible first | exact HB.out | apply below_alloc | apply pw_below_drewN | apply below_drew1) | exact HB.out)) hb); clear HB; have HB := n0_; clear n0_; (try clear hb); (try clear hb2); (try clear hk); (try clear hi)) | ((with_reducible refine gate_callee (f := 11) rfl ?_); refine goesL_ (some 17) rfl rfl Try.func11 (by kernel_rfl) rfl #[.slice none 0 0, .int .i64 a0] rfl (by (try simp only [List.map_toArray, List.map_cons, List.map_nil]); first | done | rfl | (simp only [List.length_drop, List.length_take]; rfl)) ?_; (refine (octet_Number.calls _ _ ([] : List Int) a0 t371 t372 _ ?side1 ?side2 A5.out).mono ?_); (case side1 => exact Kd.C_nil _ _); (case side2 => exact Nat.le_refl _); rintro e w21 ⟨v373, rfl, ho0, hb⟩; refine ⟨_, rfl, ?_⟩; have n0_ := Aside0.mk (Kd.R_lower ho0 (below_size (by repeat (first | (with_reducible first | exact HB.out | apply below_alloc | apply pw_below_drewN | apply below_drew1) | exact HB.out)))); have n1_ := Aside0.mk (below_step (by repeat (first | (with_reducible first | exact HB.out | apply below_alloc | apply pw_below_drewN | apply below_drew1) | exact HB.out)) hb); clear HB; have HO374 := n0_; have HB := n1_; clear n0_ n1_; (try clear hb); (try clear hb2); (try clear hk); (try clear hi); (try clear ho0); obtain ⟨Ao22, co22, eo22⟩ := Kd.R_slice HO374.out; subst eo22; have q23 : ((ji9) : Int) ≤ ((t371.length : Int) : Int) := of_decide_eq_true (by first | (with_reducible assumption) | assumption); obtain ⟨i023, hi023, _, hsz23, _⟩ := info_parts info5; have hroom23 : t371.length ≤ co22 := (Kd.R_reads' HO374.out).2.1; have hC23 : Kd.C (Kd.int .u8) _ Ao22 t371.length t371 := (Kd.R_reads' HO374.out).2.2; have hcut23 := cut_to (P := Try.prog) 22 5 .i64 Try.underlying22 hi023 Ao22 t371.length co22 (ji9) (of_decide_eq_true (by first | (with_reducible assumption) | assumption)) q23 hroom23; have hr23 := Kd.C_take (m := ((ji9) : Int).toNat) hC23 (by omega); have hy23 : y376.length = ((ji9) : Int).toNat := (by rw [Ny376.out, List.length_take]; omega); rw [← Ny376.out] at hr23; rw [← hy23] at hcut23; have HR379 := Aside0.mk hr23; have HC379 := Aside0.mk (show y376.length ≤ co22 from by omega); clear hr23 hC23 hroom23 hi023 hsz23; have KY23 := Aside0.mk hy23; clear hy23; have KL23 := Aside0.mk (show ((ji9) : Int).toNat ≤ t371.length from by omega); replace q23 := eq_true q23) | ((with_reducible refine gate_callee (f := 13) rfl ?_); refine goesL_ (some 42) rfl rfl Try.func13 (by kernel_rfl) rfl #[.slice Ao22 y376.length co22] rfl (by (try simp only [List.map_toArray, List.map_cons, List.map_nil]); first | done | rfl | (simp only [List.length_drop, List.length_take]; rfl)) ?_; (with_reducible refine (octet_Take.calls _ _ y376 t380 t381 t382 _ ?side1 ?side2 A12.out).mono ?_); (case side1 => repeat (first | exact (by repeat (first | (with_reducible exact HR379.out) | (with_reducible refine Kd.C_alloc ?_ _) | (with_reducible refine Kd.C_drewN ?_ _) | (with_reducible refine Kd.C_drew ?_) | exact HR379.out)) | (with_reducible refine Kd.C_alloc ?_ _) | (with_reducible refine Kd.C_drewN ?_ _) | (with_reducible refine Kd.C_drew ?_))); (case side2 => exact HC379.out); rintro e w24 ⟨v383, rfl, ho0, hb⟩; refine ⟨_, rfl, ?_⟩; have n0_ := Aside0.mk (Kd.R_elder' (by (with_reducible repeat (first | apply Kd.R_alloc | apply Kd.R_drewN | apply Kd.R_drew)); exact HO374.out) (Kd.R_base ho0) hb); have n1_ := Aside0.mk (Kd.R_lower (Kd.R_new' ho0 (Kd.R_lt (by (with_reducible repeat (first | apply Kd.R_alloc | apply Kd.R_drewN | apply Kd.R_drew)); exact HO374.out))) (below_size (by repeat (first | (with_reducible first | exact HB.out | apply below_alloc | apply pw_below_drewN | apply below_drew1) | exact HB.out)))); have n2_ := Aside0.mk (Kd.C_below (by repeat (first | (with_reducible exact HR379.out) | (with_reducible refine Kd.C_alloc ?_ _) | (with_reducible refine Kd.C_drewN ?_ _) | (with_reducible refine Kd.C_drew ?_) | exact HR379.out)) hb); have n3_ := Aside0.mk (below_step (by repeat (first | (with_reducible first | exact HB.out | apply below_alloc | apply pw_below_drewN | apply below_drew1) | exact HB.out)) hb); clear HO374; clear HR379; clear HB; have HO374 := n0_; have HO384 := n1_; have HR379 := n2_; have HB := n3_; clear n0_ n1_ n2_ n3_; (try clear hb); (try clear hb2); (try clear hk); (try clear hi); (try clear ho0)) | (go_at_call 15; (with_reducible refine (octet_Size.calls a0 t385 _ A15.out).mono ?_); rintro e w25 ⟨rfl, hb⟩; have n0_ := Aside0.mk (Kd.R_below (by (with_reducible repeat (first | apply Kd.R_alloc | apply Kd.R_drewN | apply Kd.R_drew)); exact HO374.out) hb); have n1_ := Aside0.mk (Kd.R_below (by (with_reducible repeat (first | apply Kd.R_alloc | apply Kd.R_drewN | apply Kd.R_drew)); exact HO384.out) hb); have n2_ := Aside0.mk (Kd.C_below (by repeat (first | (with_reducible exact HR379.out) | (with_reducible refine Kd.C_alloc ?_ _) | (with_reducible refine Kd.C_drewN ?_ _) | (with_reducible refine Kd.C_drew ?_) | exact HR379.out)) hb); have n3_ := Aside0.mk (below_step (by repeat (first | (with_reducible first | exact HB.out | apply below_alloc | apply pw_below_drewN | apply below_drew1) | exact HB.out)) hb); clear HO374; clear HO384; clear HR379; clear HB; have HO374 := n0_; have HO384 := n1_; have HR379 := n2_; have HB := n3_; clear n0_ n1_ n2_ n3_; (try clear hb); (try clear hb2); (try clear hk); (try clear hi)))
                      go_ret
                      exact ⟨by first | rfl | (simp [errW_none, errW_some] <;> rfl) | (simp only [← hji7, ← hji9]; first | rfl | (simp [errW_none, errW_some] <;> rfl)) | (simp [*, errW_none, errW_some] <;> rfl), by repeat (first | (with_reducible first | exact HB.out | apply below_alloc | apply pw_below_drewN | apply below_drew1) | exact HB.out)⟩
                    · rw [if_neg c19] at H
                      rw [HTr_] at H
                      exact absurd (Option.some.inj H) (by decide)
                  · rw [if_neg c18] at H
                    rw [HTr_] at H
                    exact absurd (Option.some.inj H) (by decide)
                · rw [if_neg c17] at H
                  rw [HTr_] at H
                  exact absurd (Option.some.inj H) (by decide)
              · rw [if_neg c16] at H
                rw [HTr_] at H
                exact absurd (Option.some.inj H) (by decide)
            · replace c14 := Bool.eq_false_iff.mpr c14
              subst c14
              have H1 : (some false) = some r := by rw [if_neg (show ¬ (false = true) by decide)] at H; exact H
              rw [HTr_] at H1
              exact absurd (Option.some.inj H1) (by decide)
          · rw [if_neg c13] at H
            have c13b0 : decide (a1 < 0) = false := decide_eq_false c13
            clear c13
            by_cases c55 : a1 > a0
            · rw [if_pos c55] at H
              have c55b0 : decide (a0 < a1) = true := decide_eq_true c55
              clear c55
              by_cases c56 : t370 = true
              · subst c56
                have H1 : ((octet_Size.f a0).bind fun t386 => (if (t371.length : Int) = t386 then (if (t371.length : Int) ≥ 1 then (if (t371.length : Int) ≤ 5 then (if t382 = 10 then (some true) else (some false)) else (some false)) else (some false)) else (some false))) = some r := by rw [if_pos rfl] at H; exact H
                clear H
                have H := H1
                clear H1
                replace H := Option.bind_eq_some_iff.mp H
                obtain ⟨t386, A570, H⟩ := H
                replace H : (if (t371.length : Int) = t386 then (if (t371.length : Int) ≥ 1 then (if (t371.length : Int) ≤ 5 then (if t382 = 10 then (some true) else (some false)) else (some false)) else (some false)) else (some false)) = some r := H
                have A57 := Aside0.mk A570
                clear A570
                by_cases c58 : (t371.length : Int) = t386
                · rw [if_pos c58] at H
                  have c58b0 : ((t371.length : Int) == t386) = true := beq_iff_eq.mpr c58
                  have c58b1 : ((t371.length : Int) != t386) = false := bne_eq_false_iff_eq.mpr c58
                  clear c58
                  by_cases c59 : (t371.length : Int) ≥ 1
                  · rw [if_pos c59] at H
                    have c59b0 : decide (1 ≤ (t371.length : Int)) = true := decide_eq_true c59
                    have c59b1 : decide (1 ≤ t371.length) = true := decide_eq_true (by omega)
                    clear c59
                    by_cases c60 : (t371.length : Int) ≤ 5
                    · rw [if_pos c60] at H
                      have c60b0 : decide ((t371.length : Int) ≤ 5) = true := decide_eq_true c60
                      have c60b1 : decide (t371.length ≤ 5) = true := decide_eq_true (by omega)
                      clear c60
                      by_cases c61 : t382 = 10
                      · rw [if_pos c61] at H
                        have c61b0 : (t382 == 10) = true := beq_iff_eq.mpr c61
                        have c61b1 : (t382 != 10) = false := bne_eq_false_iff_eq.mpr c61
                        clear c61
                        obtain rfl := Option.some.inj H
                        go_enter Try.func8, Try.ntmps8
                        go_wp2_with (first | ((with_reducible refine gate_callee (f := 10) rfl ?_); refine goesL_ (some 14) rfl rfl Try.func10 (by kernel_rfl) rfl #[] rfl (by (try simp only [List.map_toArray, List.map_cons, List.map_nil]); first | done | rfl | (simp only [List.length_drop, List.length_take]; rfl)) ?_; (with_reducible refine (banksmanlaw01_awake.calls  true _ A4.out).mono ?_); rintro e w62 ⟨rfl, hb⟩; refine ⟨_, rfl, ?_⟩; have n0_ := Aside0.mk (below_step (by repeat (first | (with_reducible first | exact HB.out | apply below_alloc | apply pw_below_drewN | apply below_drew1) | exact HB.out)) hb); clear HB; have HB := n0_; clear n0_; (try clear hb); (try clear hb2); (try clear hk); (try clear hi)) | ((with_reducible refine gate_callee (f := 11) rfl ?_); refine goesL_ (some 17) rfl rfl Try.func11 (by kernel_rfl) rfl #[.slice none 0 0, .int .i64 a0] rfl (by (try simp only [List.map_toArray, List.map_cons, List.map_nil]); first | done | rfl | (simp only [List.length_drop, List.length_take]; rfl)) ?_; (refine (octet_Number.calls _ _ ([] : List Int) a0 t371 t372 _ ?side1 ?side2 A5.out).mono ?_); (case side1 => exact Kd.C_nil _ _); (case side2 => exact Nat.le_refl _); rintro e w63 ⟨v373, rfl, ho0, hb⟩; refine ⟨_, rfl, ?_⟩; have n0_ := Aside0.mk (Kd.R_lower ho0 (below_size (by repeat (first | (with_reducible first | exact HB.out | apply below_alloc | apply pw_below_drewN | apply below_drew1) | exact HB.out)))); have n1_ := Aside0.mk (below_step (by repeat (first | (with_reducible first | exact HB.out | apply below_alloc | apply pw_below_drewN | apply below_drew1) | exact HB.out)) hb); clear HB; have HO374 := n0_; have HB := n1_; clear n0_ n1_; (try clear hb); (try clear hb2); (try clear hk); (try clear hi); (try clear ho0); obtain ⟨Ao64, co64, eo64⟩ := Kd.R_slice HO374.out; subst eo64; have q65 : ((ji9) : Int) ≤ ((t371.length : Int) : Int) := of_decide_eq_true (by first | (with_reducible assumption) | assumption); obtain ⟨i065, hi065, _, hsz65, _⟩ := info_parts info5; have hroom65 : t371.length ≤ co64 := (Kd.R_reads' HO374.out).2.1; have hC65 : Kd.C (Kd.int .u8) _ Ao64 t371.length t371 := (Kd.R_reads' HO374.out).2.2; have hcut65 := cut_to (P := Try.prog) 22 5 .i64 Try.underlying22 hi065 Ao64 t371.length co64 (ji9) (of_decide_eq_true (by first | (with_reducible assumption) | assumption)) q65 hroom65; have hr65 := Kd.C_take (m := ((ji9) : Int).toNat) hC65 (by omega); have hy65 : y376.length = ((ji9) : Int).toNat := (by rw [Ny376.out, List.length_take]; omega); rw [← Ny376.out] at hr65; rw [← hy65] at hcut65; have HR379 := Aside0.mk hr65; have HC379 := Aside0.mk (show y376.length ≤ co64 from by omega); clear hr65 hC65 hroom65 hi065 hsz65; have KY65 := Aside0.mk hy65; clear hy65; have KL65 := Aside0.mk (show ((ji9) : Int).toNat ≤ t371.length from by omega); replace q65 := eq_true q65) | ((with_reducible refine gate_callee (f := 13) rfl ?_); refine goesL_ (some 42) rfl rfl Try.func13 (by kernel_rfl) rfl #[.slice Ao64 y376.length co64] rfl (by (try simp only [List.map_toArray, List.map_cons, List.map_nil]); first | done | rfl | (simp only [List.length_drop, List.length_take]; rfl)) ?_; (with_reducible refine (octet_Take.calls _ _ y376 t380 t381 t382 _ ?side1 ?side2 A12.out).mono ?_); (case side1 => repeat (first | exact (by repeat (first | (with_reducible exact HR379.out) | (with_reducible refine Kd.C_alloc ?_ _) | (with_reducible refine Kd.C_drewN ?_ _) | (with_reducible refine Kd.C_drew ?_) | exact HR379.out)) | (with_reducible refine Kd.C_alloc ?_ _) | (with_reducible refine Kd.C_drewN ?_ _) | (with_reducible refine Kd.C_drew ?_))); (case side2 => exact HC379.out); rintro e w66 ⟨v383, rfl, ho0, hb⟩; refine ⟨_, rfl, ?_⟩; have n0_ := Aside0.mk (Kd.R_elder' (by (with_reducible repeat (first | apply Kd.R_alloc | apply Kd.R_drewN | apply Kd.R_drew)); exact HO374.out) (Kd.R_base ho0) hb); have n1_ := Aside0.mk (Kd.R_lower (Kd.R_new' ho0 (Kd.R_lt (by (with_reducible repeat (first | apply Kd.R_alloc | apply Kd.R_drewN | apply Kd.R_drew)); exact HO374.out))) (below_size (by repeat (first | (with_reducible first | exact HB.out | apply below_alloc | apply pw_below_drewN | apply below_drew1) | exact HB.out)))); have n2_ := Aside0.mk (Kd.C_below (by repeat (first | (with_reducible exact HR379.out) | (with_reducible refine Kd.C_alloc ?_ _) | (with_reducible refine Kd.C_drewN ?_ _) | (with_reducible refine Kd.C_drew ?_) | exact HR379.out)) hb); have n3_ := Aside0.mk (below_step (by repeat (first | (with_reducible first | exact HB.out | apply below_alloc | apply pw_below_drewN | apply below_drew1) | exact HB.out)) hb); clear HO374; clear HR379; clear HB; have HO374 := n0_; have HO384 := n1_; have HR379 := n2_; have HB := n3_; clear n0_ n1_ n2_ n3_; (try clear hb); (try clear hb2); (try clear hk); (try clear hi); (try clear ho0)) | (go_at_call 15; (with_reducible refine (octet_Size.calls a0 t386 _ A57.out).mono ?_); rintro e w67 ⟨rfl, hb⟩; have n0_ := Aside0.mk (Kd.R_below (by (with_reducible repeat (first | apply Kd.R_alloc | apply Kd.R_drewN | apply Kd.R_drew)); exact HO374.out) hb); have n1_ := Aside0.mk (Kd.R_below (by (with_reducible repeat (first | apply Kd.R_alloc | apply Kd.R_drewN | apply Kd.R_drew)); exact HO384.out) hb); have n2_ := Aside0.mk (Kd.C_below (by repeat (first | (with_reducible exact HR379.out) | (with_reducible refine Kd.C_alloc ?_ _) | (with_reducible refine Kd.C_drewN ?_ _) | (with_reducible refine Kd.C_drew ?_) | exact HR379.out)) hb); have n3_ := Aside0.mk (below_step (by repeat (first | (with_reducible first | exact HB.out | apply below_alloc | apply pw_below_drewN | apply below_drew1) | exact HB.out)) hb); clear HO374; clear HO384; clear HR379; clear HB; have HO374 := n0_; have HO384 := n1_; have HR379 := n2_; have HB := n3_; clear n0_ n1_ n2_ n3_; (try clear hb); (try clear hb2); (try clear hk); (try clear hi)))
                        go_ret
                        exact ⟨by first | rfl | (simp [errW_none, errW_some] <;> rfl) | (simp only [← hji7, ← hji9]; first | rfl | (simp [errW_none, errW_some] <;> rfl)) | (simp [*, errW_none, errW_some] <;> rfl), by repeat (first | (with_reducible first | exact HB.out | apply below_alloc | apply pw_below_drewN | apply below_drew1) | exact HB.out)⟩
                      · rw [if_neg c61] at H
                        rw [HTr_] at H
                        exact absurd (Option.some.inj H) (by decide)
                    · rw [if_neg c60] at H
                      rw [HTr_] at H
                      exact absurd (Option.some.inj H) (by decide)
                  · rw [if_neg c59] at H
                    rw [HTr_] at H
                    exact absurd (Option.some.inj H) (by decide)
                · rw [if_neg c58] at H
                  rw [HTr_] at H
                  exact absurd (Option.some.inj H) (by decide)
              · replace c56 := Bool.eq_false_iff.mpr c56
                subst c56
                have H1 : (some false) = some r := by rw [if_neg (show ¬ (false = true) by decide)] at H; exact H
                rw [HTr_] at H1
                exact absurd (Option.some.inj H1) (by decide)
            · rw [if_neg c55] at H
              have c55b0 : decide (a0 < a1) = false := decide_eq_false c55
              clear c55
              replace H := Option.bind_eq_some_iff.mp H
              obtain ⟨t387, A970, H⟩ := H
              replace H : ((octet_Size.f a0).bind fun t388 => (if t370 = true then ((octet_Size.f a0).bind fun t389 => (if (t371.length : Int) = t389 then (if (t371.length : Int) ≥ 1 then (if (t371.length : Int) ≤ 5 then (if t382 = 10 then (some (decide (t387 ≤ t388))) else (some false)) else (some false)) else (some false)) else (some false))) else (some false))) = some r := H
              have A97 := Aside0.mk A970
              clear A970
              replace H := Option.bind_eq_some_iff.mp H
              obtain ⟨t388, A980, H⟩ := H
              replace H : (if t370 = true then ((octet_Size.f a0).bind fun t389 => (if (t371.length : Int) = t389 then (if (t371.length : Int) ≥ 1 then (if (t371.length : Int) ≤ 5 then (if t382 = 10 then (some (decide (t387 ≤ t388))) else (some false)) else (some false)) else (some false)) else (some false))) else (some false)) = some r := H
              have A98 := Aside0.mk A980
              clear A980
              by_cases c99 : t370 = true
              · subst c99
                have H1 : ((octet_Size.f a0).bind fun t389 => (if (t371.length : Int) = t389 then (if (t371.length : Int) ≥ 1 then (if (t371.length : Int) ≤ 5 then (if t382 = 10 then (some (decide (t387 ≤ t388))) else (some false)) else (some false)) else (some false)) else (some false))) = some r := by rw [if_pos rfl] at H; exact H
                clear H
                have H := H1
                clear H1
                replace H := Option.bind_eq_some_iff.mp H
                obtain ⟨t389, A1000, H⟩ := H
                replace H : (if (t371.length : Int) = t389 then (if (t371.length : Int) ≥ 1 then (if (t371.length : Int) ≤ 5 then (if t382 = 10 then (some (decide (t387 ≤ t388))) else (some false)) else (some false)) else (some false)) else (some false)) = some r := H
                have A100 := Aside0.mk A1000
                clear A1000
                by_cases c101 : (t371.length : Int) = t389
                · rw [if_pos c101] at H
                  have c101b0 : ((t371.length : Int) == t389) = true := beq_iff_eq.mpr c101
                  have c101b1 : ((t371.length : Int) != t389) = false := bne_eq_false_iff_eq.mpr c101
                  clear c101
                  by_cases c102 : (t371.length : Int) ≥ 1
                  · rw [if_pos c102] at H
                    have c102b0 : decide (1 ≤ (t371.length : Int)) = true := decide_eq_true c102
                    have c102b1 : decide (1 ≤ t371.length) = true := decide_eq_true (by omega)
                    clear c102
                    by_cases c103 : (t371.length : Int) ≤ 5
                    · rw [if_pos c103] at H
                      have c103b0 : decide ((t371.length : Int) ≤ 5) = true := decide_eq_true c103
                      have c103b1 : decide (t371.length ≤ 5) = true := decide_eq_true (by omega)
                      clear c103
                      by_cases c104 : t382 = 10
                      · rw [if_pos c104] at H
                        have c104b0 : (t382 == 10) = true := beq_iff_eq.mpr c104
                        have c104b1 : (t382 != 10) = false := bne_eq_false_iff_eq.mpr c104
                        clear c104
                        have HD_ := (Option.some.inj H).trans HTr_
                        obtain rfl := HTr_
                        obtain rfl : t388 = t389 := Option.some.inj (A98.out.symm.trans A100.out)
                        go_enter Try.func8, Try.ntmps8
                        go_wp2_with (first | ((with_reducible refine gate_callee (f := 10) rfl ?_); refine goesL_ (some 14) rfl rfl Try.func10 (by kernel_rfl) rfl #[] rfl (by (try simp only [List.map_toArray, List.map_cons, List.map_nil]); first | done | rfl | (simp only [List.length_drop, List.length_take]; rfl)) ?_; (with_reducible refine (banksmanlaw01_awake.calls  true _ A4.out).mono ?_); rintro e w105 ⟨rfl, hb⟩; refine ⟨_, rfl, ?_⟩; have n0_ := Aside0.mk (below_step (by repeat (first | (with_reducible first | exact HB.out | apply below_alloc | apply pw_below_drewN | apply below_drew1) | exact HB.out)) hb); clear HB; have HB := n0_; clear n0_; (try clear hb); (try clear hb2); (try clear hk); (try clear hi)) | ((with_reducible refine gate_callee (f := 11) rfl ?_); refine goesL_ (some 17) rfl rfl Try.func11 (by kernel_rfl) rfl #[.slice none 0 0, .int .i64 a0] rfl (by (try simp only [List.map_toArray, List.map_cons, List.map_nil]); first | done | rfl | (simp only [List.length_drop, List.length_take]; rfl)) ?_; (refine (octet_Number.calls _ _ ([] : List Int) a0 t371 t372 _ ?side1 ?side2 A5.out).mono ?_); (case side1 => exact Kd.C_nil _ _); (case side2 => exact Nat.le_refl _); rintro e w106 ⟨v373, rfl, ho0, hb⟩; refine ⟨_, rfl, ?_⟩; have n0_ := Aside0.mk (Kd.R_lower ho0 (below_size (by repeat (first | (with_reducible first | exact HB.out | apply below_alloc | apply pw_below_drewN | apply below_drew1) | exact HB.out)))); have n1_ := Aside0.mk (below_step (by repeat (first | (with_reducible first | exact HB.out | apply below_alloc | apply pw_below_drewN | apply below_drew1) | exact HB.out)) hb); clear HB; have HO374 := n0_; have HB := n1_; clear n0_ n1_; (try clear hb); (try clear hb2); (try clear hk); (try clear hi); (try clear ho0); obtain ⟨Ao107, co107, eo107⟩ := Kd.R_slice HO374.out; subst eo107; have q108 : ((ji9) : Int) ≤ ((t371.length : Int) : Int) := of_decide_eq_true (by first | (with_reducible assumption) | assumption); obtain ⟨i0108, hi0108, _, hsz108, _⟩ := info_parts info5; have hroom108 : t371.length ≤ co107 := (Kd.R_reads' HO374.out).2.1; have hC108 : Kd.C (Kd.int .u8) _ Ao107 t371.length t371 := (Kd.R_reads' HO374.out).2.2; have hcut108 := cut_to (P := Try.prog) 22 5 .i64 Try.underlying22 hi0108 Ao107 t371.length co107 (ji9) (of_decide_eq_true (by first | (with_reducible assumption) | assumption)) q108 hroom108; have hr108 := Kd.C_take (m := ((ji9) : Int).toNat) hC108 (by omega); have hy108 : y376.length = ((ji9) : Int).toNat := (by rw [Ny376.out, List.length_take]; omega); rw [← Ny376.out] at hr108; rw [← hy108] at hcut108; have HR379 := Aside0.mk hr108; have HC379 := Aside0.mk (show y376.length ≤ co107 from by omega); clear hr108 hC108 hroom108 hi0108 hsz108; have KY108 := Aside0.mk hy108; clear hy108; have KL108 := Aside0.mk (show ((ji9) : Int).toNat ≤ t371.length from by omega); replace q108 := eq_true q108) | ((with_reducible refine gate_callee (f := 13) rfl ?_); refine goesL_ (some 42) rfl rfl Try.func13 (by kernel_rfl) rfl #[.slice Ao107 y376.length co107] rfl (by (try simp only [List.map_toArray, List.map_cons, List.map_nil]); first | done | rfl | (simp only [List.length_drop, List.length_take]; rfl)) ?_; (with_reducible refine (octet_Take.calls _ _ y376 t380 t381 t382 _ ?side1 ?side2 A12.out).mono ?_); (case side1 => repeat (first | exact (by repeat (first | (with_reducible exact HR379.out) | (with_reducible refine Kd.C_alloc ?_ _) | (with_reducible refine Kd.C_drewN ?_ _) | (with_reducible refine Kd.C_drew ?_) | exact HR379.out)) | (with_reducible refine Kd.C_alloc ?_ _) | (with_reducible refine Kd.C_drewN ?_ _) | (with_reducible refine Kd.C_drew ?_))); (case side2 => exact HC379.out); rintro e w109 ⟨v383, rfl, ho0, hb⟩; refine ⟨_, rfl, ?_⟩; have n0_ := Aside0.mk (Kd.R_elder' (by (with_reducible repeat (first | apply Kd.R_alloc | apply Kd.R_drewN | apply Kd.R_drew)); exact HO374.out) (Kd.R_base ho0) hb); have n1_ := Aside0.mk (Kd.R_lower (Kd.R_new' ho0 (Kd.R_lt (by (with_reducible repeat (first | apply Kd.R_alloc | apply Kd.R_drewN | apply Kd.R_drew)); exact HO374.out))) (below_size (by repeat (first | (with_reducible first | exact HB.out | apply below_alloc | apply pw_below_drewN | apply below_drew1) | exact HB.out)))); have n2_ := Aside0.mk (Kd.C_below (by repeat (first | (with_reducible exact HR379.out) | (with_reducible refine Kd.C_alloc ?_ _) | (with_reducible refine Kd.C_drewN ?_ _) | (with_reducible refine Kd.C_drew ?_) | exact HR379.out)) hb); have n3_ := Aside0.mk (below_step (by repeat (first | (with_reducible first | exact HB.out | apply below_alloc | apply pw_below_drewN | apply below_drew1) | exact HB.out)) hb); clear HO374; clear HR379; clear HB; have HO374 := n0_; have HO384 := n1_; have HR379 := n2_; have HB := n3_; clear n0_ n1_ n2_ n3_; (try clear hb); (try clear hb2); (try clear hk); (try clear hi); (try clear ho0)) | (go_at_call 15; (with_reducible refine (octet_Size.calls a1 t387 _ A97.out).mono ?_); rintro e w110 ⟨rfl, hb⟩; have n0_ := Aside0.mk (Kd.R_below (by (with_reducible repeat (first | apply Kd.R_alloc | apply Kd.R_drewN | apply Kd.R_drew)); exact HO374.out) hb); have n1_ := Aside0.mk (Kd.R_below (by (with_reducible repeat (first | apply Kd.R_alloc | apply Kd.R_drewN | apply Kd.R_drew)); exact HO384.out) hb); have n2_ := Aside0.mk (Kd.C_below (by repeat (first | (with_reducible exact HR379.out) | (with_reducible refine Kd.C_alloc ?_ _) | (with_reducible refine Kd.C_drewN ?_ _) | (with_reducible refine Kd.C_drew ?_) | exact HR379.out)) hb); have n3_ := Aside0.mk (below_step (by repeat (first | (with_reducible first | exact HB.out | apply below_alloc | apply pw_below_drewN | apply below_drew1) | exact HB.out)) hb); clear HO374; clear HO384; clear HR379; clear HB; have HO374 := n0_; have HO384 := n1_; have HR379 := n2_; have HB := n3_; clear n0_ n1_ n2_ n3_; (try clear hb); (try clear hb2); (try clear hk); (try clear hi)) | (go_at_call 15; (with_reducible refine (octet_Size.calls a0 t388 _ A98.out).mono ?_); rintro e w111 ⟨rfl, hb⟩; have n0_ := Aside0.mk (Kd.R_below (by (with_reducible repeat (first | apply Kd.R_alloc | apply Kd.R_drewN | apply Kd.R_drew)); exact HO374.out) hb); have n1_ := Aside0.mk (Kd.R_below (by (with_reducible repeat (first | apply Kd.R_alloc | apply Kd.R_drewN | apply Kd.R_drew)); exact HO384.out) hb); have n2_ := Aside0.mk (Kd.C_below (by repeat (first | (with_reducible exact HR379.out) | (with_reducible refine Kd.C_alloc ?_ _) | (with_reducible refine Kd.C_drewN ?_ _) | (with_reducible refine Kd.C_drew ?_) | exact HR379.out)) hb); have n3_ := Aside0.mk (below_step (by repeat (first | (with_reducible first | exact HB.out | apply below_alloc | apply pw_below_drewN | apply below_drew1) | exact HB.out)) hb); clear HO374; clear HO384; clear HR379; clear HB; have HO374 := n0_; have HO384 := n1_; have HR379 := n2_; have HB := n3_; clear n0_ n1_ n2_ n3_; (try clear hb); (try clear hb2); (try clear hk); (try clear hi)) | (go_at_call 15; (with_reducible refine (octet_Size.calls a0 t388 _ A100.out).mono ?_); rintro e w112 ⟨rfl, hb⟩; have n0_ := Aside0.mk (Kd.R_below (by (with_reducible repeat (first | apply Kd.R_alloc | apply Kd.R_drewN | apply Kd.R_drew)); exact HO374.out) hb); have n1_ := Aside0.mk (Kd.R_below (by (with_reducible repeat (first | apply Kd.R_alloc | apply Kd.R_drewN | apply Kd.R_drew)); exact HO384.out) hb); have n2_ := Aside0.mk (Kd.C_below (by repeat (first | (with_reducible exact HR379.out) | (with_reducible refine Kd.C_alloc ?_ _) | (with_reducible refine Kd.C_drewN ?_ _) | (with_reducible refine Kd.C_drew ?_) | exact HR379.out)) hb); have n3_ := Aside0.mk (below_step (by repeat (first | (with_reducible first | exact HB.out | apply below_alloc | apply pw_below_drewN | apply below_drew1) | exact HB.out)) hb); clear HO374; clear HO384; clear HR379; clear HB; have HO374 := n0_; have HO384 := n1_; have HR379 := n2_; have HB := n3_; clear n0_ n1_ n2_ n3_; (try clear hb); (try clear hb2); (try clear hk); (try clear hi)))
                        go_ret
                        exact ⟨by first | rfl | (simp [errW_none, errW_some] <;> rfl) | (simp only [← hji7, ← hji9]; first | rfl | (simp [errW_none, errW_some] <;> rfl)) | (simp [*, errW_none, errW_some] <;> rfl), by repeat (first | (with_reducible first | exact HB.out | apply below_alloc | apply pw_below_drewN | apply below_drew1) | exact HB.out)⟩
                      · rw [if_neg c104] at H
                        rw [HTr_] at H
                        exact absurd (Option.some.inj H) (by decide)
                    · rw [if_neg c103] at H
                      rw [HTr_] at H
                      exact absurd (Option.some.inj H) (by decide)
                  · rw [if_neg c102] at H
                    rw [HTr_] at H
                    exact absurd (Option.some.inj H) (by decide)
                · rw [if_neg c101] at H
                  rw [HTr_] at H
                  exact absurd (Option.some.inj H) (by decide)
              · replace c99 := Bool.eq_false_iff.mpr c99
                subst c99
                have H1 : (some false) = some r := by rw [if_neg (show ¬ (false = true) by decide)] at H; exact H
                rw [HTr_] at H1
                exact absurd (Option.some.inj H1) (by decide)
        · rw [if_neg c11] at H
          exact absurd H (by simp)
      · rw [if_neg c10] at H
        exact absurd H (by simp)
  · rw [if_neg c6] at H
    have c6b0 : (t372 == 0) = false := beq_eq_false_iff_ne.mpr c6
    have c6b1 : (t372 != 0) = true := bne_iff_ne.mpr c6
    by_cases c152 : t370 = true
    · subst c152
      have H1 : ((octet_Size.f a0).bind fun t375 => (if t375 = 0 then (some ((t371.length : Int) == 0)) else (some false))) = some r := by rw [if_pos rfl] at H; exact H
      clear H
      have H := H1
      clear H1
      replace H := Option.bind_eq_some_iff.mp H
      obtain ⟨t375, A1530, H⟩ := H
      replace H : (if t375 = 0 then (some ((t371.length : Int) == 0)) else (some false)) = some r := H
      have A153 := Aside0.mk A1530
      clear A1530
      by_cases c154 : t375 = 0
      · rw [if_pos c154] at H
        have c154b0 : (t375 == 0) = true := beq_iff_eq.mpr c154
        have c154b1 : (t375 != 0) = false := bne_eq_false_iff_eq.mpr c154
        clear c154
        have HD_ := (Option.some.inj H).trans HTr_
        obtain rfl := HTr_
        go_enter Try.func8, Try.ntmps8
        go_wp2_with (first | ((with_reducible refine gate_callee (f := 10) rfl ?_); refine goesL_ (some 14) rfl rfl Try.func10 (by kernel_rfl) rfl #[] rfl (by (try simp only [List.map_toArray, List.map_cons, List.map_nil]); first | done | rfl | (simp only [List.length_drop, List.length_take]; rfl)) ?_; (with_reducible refine (banksmanlaw01_awake.calls  true _ A4.out).mono ?_); rintro e w155 ⟨rfl, hb⟩; refine ⟨_, rfl, ?_⟩; have n0_ := Aside0.mk (below_step (by repeat (first | (with_reducible first | exact HB.out | apply below_alloc | apply pw_below_drewN | apply below_drew1) | exact HB.out)) hb); clear HB; have HB := n0_; clear n0_; (try clear hb); (try clear hb2); (try clear hk); (try clear hi)) | ((with_reducible refine gate_callee (f := 11) rfl ?_); refine goesL_ (some 17) rfl rfl Try.func11 (by kernel_rfl) rfl #[.slice none 0 0, .int .i64 a0] rfl (by (try simp only [List.map_toArray, List.map_cons, List.map_nil]); first | done | rfl | (simp only [List.length_drop, List.length_take]; rfl)) ?_; (refine (octet_Number.calls _ _ ([] : List Int) a0 t371 t372 _ ?side1 ?side2 A5.out).mono ?_); (case side1 => exact Kd.C_nil _ _); (case side2 => exact Nat.le_refl _); rintro e w156 ⟨v373, rfl, ho0, hb⟩; refine ⟨_, rfl, ?_⟩; have n0_ := Aside0.mk (Kd.R_lower ho0 (below_size (by repeat (first | (with_reducible first | exact HB.out | apply below_alloc | apply pw_below_drewN | apply below_drew1) | exact HB.out)))); have n1_ := Aside0.mk (below_step (by repeat (first | (with_reducible first | exact HB.out | apply below_alloc | apply pw_below_drewN | apply below_drew1) | exact HB.out)) hb); clear HB; have HO374 := n0_; have HB := n1_; clear n0_ n1_; (try clear hb); (try clear hb2); (try clear hk); (try clear hi); (try clear ho0)) | (go_at_call 15; (with_reducible refine (octet_Size.calls a0 t375 _ A153.out).mono ?_); rintro e w157 ⟨rfl, hb⟩; have n0_ := Aside0.mk (Kd.R_below (by (with_reducible repeat (first | apply Kd.R_alloc | apply Kd.R_drewN | apply Kd.R_drew)); exact HO374.out) hb); have n1_ := Aside0.mk (below_step (by repeat (first | (with_reducible first | exact HB.out | apply below_alloc | apply pw_below_drewN | apply below_drew1) | exact HB.out)) hb); clear HO374; clear HB; have HO374 := n0_; have HB := n1_; clear n0_ n1_; (try clear hb); (try clear hb2); (try clear hk); (try clear hi); obtain ⟨Ao158, co158, eo158⟩ := Kd.R_slice HO374.out; subst eo158))
        go_ret
        exact ⟨by first | rfl | (simp [errW_none, errW_some] <;> rfl) | (simp [*, errW_none, errW_some] <;> rfl), by repeat (first | (with_reducible first | exact HB.out | apply below_alloc | apply pw_below_drewN | apply below_drew1) | exact HB.out)⟩
      · rw [if_neg c154] at H
        rw [HTr_] at H
        exact absurd (Option.some.inj H) (by decide)
    · replace c152 := Bool.eq_false_iff.mpr c152
      subst c152
      have H1 : (some false) = some r := by rw [if_neg (show ¬ (false = true) by decide)] at H; exact H
      rw [HTr_] at H1
      exact absurd (Option.some.inj H1) (by decide)

/-- THE ONE PURE STATEMENT of banksmanlaw01_OctetSizes: yours. -/
def banksmanlaw01_OctetSizes.Pure : Prop := ∀ (a0 : Int) (a1 : Int) (a2 : Int), (Lit.int .i64 a0).wf = true → (Lit.int .i64 a1).wf = true → (Lit.int .u8 a2).wf = true → banksmanlaw01_OctetSizes.f a0 a1 a2 = some true
theorem banksmanlaw01_OctetSizes.walk (P : banksmanlaw01_OctetSizes.Pure) (a0 : Int) (a1 : Int) (a2 : Int) (w : World) (w0 : (Lit.int .i64 a0).wf = true) (w1 : (Lit.int .i64 a1).wf = true) (w2 : (Lit.int .u8 a2).wf = true) :
    Calls Try.prog 8 #[.int .i64 a0, .int .i64 a1, .int .u8 a2] w fun e w' => e = .returned (.bool true) ∧ Below w.heap.size w w' := by
  have h := P a0 a1 a2 w0 w1 w2
  refine (banksmanlaw01_OctetSizes.calls a0 a1 a2 true w h rfl).mono ?_
  rintro e w' ⟨rfl, hd⟩
  exact ⟨rfl, hd⟩

end Go.Proofs.Ythfiochgkmggoaa.P
