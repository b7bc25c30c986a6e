-- Written by wip/gprint.py, a program of this session over the kit's print; Lean checks it.
import Derived.Test.YtpoaleejhdeclaaPx0
namespace Go.Proofs.Ytpoaleejhdeclaa.P
open Go.RowKit Go.Proofs.YtpoaleejhdeclaaW.PrintWords Go.Proofs.YtpoaleejhdeclaaW.PrintLast Go.Proofs.YtpoaleejhdeclaaW.PrintMore
attribute [local go_sem] max2_int min2_int max_two min_two max_three min_three max_four min_four   -- for this text's walks alone
set_option linter.unusedVariables false
set_option linter.unusedSimpArgs false

/-! ### banksmanref13_Same: function 20 -/
mutual
def banksmanref13_Same.l0 : Nat → List (S59) → List (S59) → Int → Option (Bool)
  | 0, _, _, _ => none
  | k + 1, x0, x1, x5 => if x5 < (x0.length : Int) then (banksmanref13_Same.l1 k x0 x1 x5 0) else (some false)
def banksmanref13_Same.l1 : Nat → List (S59) → List (S59) → Int → Int → Option (Bool)
  | 0, _, _, _, _ => none
  | k + 1, x0, x1, x5, x6 => if x6 < (x1.length : Int) then (if 0 ≤ x5 then (if x5 < (x0.length : Int) then (if 0 ≤ x6 then (if ((rd_T59 x0 x5).f0) = ((rd_T59 x1 x6).f0) then (if (strOfNums ((rd_T59 x0 x5).f1)).toList = (strOfNums ((rd_T59 x1 x6).f1)).toList then (some true) else (banksmanref13_Same.l1 k x0 x1 x5 (wrap64 (x6 + 1)))) else (banksmanref13_Same.l1 k x0 x1 x5 (wrap64 (x6 + 1)))) else (none)) else (none)) else (none)) else (banksmanref13_Same.l0 k x0 x1 (wrap64 (x5 + 1)))
end
def banksmanref13_Same.f (k : Nat) (l0 : List (S59)) (l1 : List (S59)) : Option (Bool) := banksmanref13_Same.l0 k l0 l1 0
theorem banksmanref13_Same.mono_l : ∀ k, (∀ y0 y1 y2, LeO (banksmanref13_Same.l0 k y0 y1 y2) (banksmanref13_Same.l0 (k + 1) y0 y1 y2)) ∧ (∀ y0 y1 y2 y3, LeO (banksmanref13_Same.l1 k y0 y1 y2 y3) (banksmanref13_Same.l1 (k + 1) y0 y1 y2 y3))
  | 0 => ⟨fun _ _ _ r h => by simp [banksmanref13_Same.l0] at h, fun _ _ _ _ r h => by simp [banksmanref13_Same.l1] at h⟩
  | k + 1 => by
    obtain ⟨ih0, ih1⟩ := banksmanref13_Same.mono_l k
    refine ⟨?_, ?_⟩
    · intro y0 y1 y2
      unfold banksmanref13_Same.l0
      repeat' first
      | (with_reducible exact ih0 _ _ _)
      | (with_reducible exact ih1 _ _ _ _)
      | (with_reducible exact LeO.refl _)
      | (with_reducible exact LeO.none _)
      | (with_reducible refine LeO.ite ?_ ?_)
      | (with_reducible refine LeO.bind ?_ (fun _ => ?_))
      | exact ih0 _ _ _
      | exact ih1 _ _ _ _
      | exact LeO.none _
      | refine LeO.ite ?_ ?_
      | refine LeO.bind ?_ (fun _ => ?_)
    · intro y0 y1 y2 y3
      unfold banksmanref13_Same.l1
      repeat' first
      | (with_reducible exact ih0 _ _ _)
      | (with_reducible exact ih1 _ _ _ _)
      | (with_reducible exact LeO.refl _)
      | (with_reducible exact LeO.none _)
      | (with_reducible refine LeO.ite ?_ ?_)
      | (with_reducible refine LeO.bind ?_ (fun _ => ?_))
      | exact ih0 _ _ _
      | exact ih1 _ _ _ _
      | exact LeO.none _
      | refine LeO.ite ?_ ?_
      | refine LeO.bind ?_ (fun _ => ?_)
theorem banksmanref13_Same.mono : ∀ a0 a1 k, LeO (banksmanref13_Same.f k a0 a1) (banksmanref13_Same.f (k + 1) a0 a1) := by
  intro a0 a1 k
  obtain ⟨ih0, ih1⟩ := banksmanref13_Same.mono_l k
  unfold banksmanref13_Same.f
  repeat' first
      | (with_reducible exact ih0 _ _ _)
      | (with_reducible exact ih1 _ _ _ _)
      | (with_reducible exact LeO.refl _)
      | (with_reducible exact LeO.none _)
      | (with_reducible refine LeO.ite ?_ ?_)
      | (with_reducible refine LeO.bind ?_ (fun _ => ?_))
      | exact ih0 _ _ _
      | exact ih1 _ _ _ _
      | exact LeO.none _
      | refine LeO.ite ?_ ?_
      | refine LeO.bind ?_ (fun _ => ?_)
set_option maxHeartbeats 8000000 in
set_option maxRecDepth 100000 in
theorem banksmanref13_Same.calls (k : Nat) (A0 : Option Addr) (c0 : Nat) (l0 : List (S59)) (A1 : Option Addr) (c1 : Nat) (l1 : List (S59)) (r : Bool) (w : World) (hr0 : Kd.C k59 w A0 l0.length l0) (hc0 : l0.length ≤ c0) (hr1 : Kd.C k59 w A1 l1.length l1) (hc1 : l1.length ≤ c1) (h : banksmanref13_Same.f k l0 l1 = some r) :
    Calls Try.prog 20 #[.slice A0 l0.length c0, .slice A1 l1.length c1] w fun e w' => e = .returned (.bool r) ∧ Drawn0 w w' := by
  have HR0 := Aside0.mk hr0
  have HC0 := Aside0.mk hc0
  clear hr0 hc0
  have HR1 := Aside0.mk hr1
  have HC1 := Aside0.mk hc1
  clear hr1 hc1
  have H : (banksmanref13_Same.l0 k l0 l1 0) = some r := h
  clear h
  have H' := Aside0.mk H
  clear H
  go_enter Try.func20, Try.ntmps20
  go_wp2
  repeat (go_quiet (fail); try go_wp2)
  go_loopg [5] k (fun kq v5 w' => ∃ (x5_1 : Int), v5 = .int .i64 x5_1 ∧ Aside0 (banksmanref13_Same.l0 kq l0 l1 x5_1 = some r) ∧ Aside0 (kq ≤ k) ∧ Drawn0 w w')
  case atStart => exact ⟨(0), (by first | rfl | (simp; done) | (simp [*]; done)), H', ⟨Nat.le_refl _⟩, by repeat (first | exact Drawn0.refl _ | apply Drawn0.step)⟩
  case round =>
    clear H'
    try clear c1
    try clear c2
    try clear p2
    obtain ⟨x5_1, rfl, HA, HK1, ⟨m1, rfl⟩⟩ := hrel
    cases gk with
    | zero => exact absurd HA.out (by simp [banksmanref13_Same.l0])
    | succ k1 =>
      have H := HA.out
      clear HA
      simp only [banksmanref13_Same.l0] at H
      by_cases c3 : x5_1 < (l0.length : Int)
      · rw [if_pos c3] at H
        have c3b0 : decide (x5_1 < (l0.length : Int)) = true := decide_eq_true c3
        clear c3
        have H' := Aside0.mk H
        clear H
        go_wp2
        repeat (go_quiet (fail); try go_wp2)
        go_loopg [6] k1 (fun kq v6 w' => ∃ (x6_2 : Int), v6 = .int .i64 x6_2 ∧ Aside0 (banksmanref13_Same.l1 kq l0 l1 x5_1 x6_2 = some r) ∧ Aside0 (kq ≤ k1) ∧ Drawn0 w w')
        case atStart => exact ⟨(0), (by first | rfl | (simp; done) | (simp [*]; done)), H', ⟨Nat.le_refl _⟩, by repeat (first | exact Drawn0.refl _ | apply Drawn0.step)⟩
        case round =>
          clear H'
          try clear c1
          try clear c2
          try clear p2
          try clear c3
          try clear c3b0
          try clear p2
          obtain ⟨x6_2, rfl, HA, HK2, ⟨m2, rfl⟩⟩ := hrel
          cases gk with
          | zero => exact absurd HA.out (by simp [banksmanref13_Same.l1])
          | succ k2 =>
            have H := HA.out
            clear HA
            simp only [banksmanref13_Same.l1] at H
            by_cases c4 : x6_2 < (l1.length : Int)
            · rw [if_pos c4] at H
              have c4b0 : decide (x6_2 < (l1.length : Int)) = true := decide_eq_true c4
              clear c4
              by_cases c5 : 0 ≤ x5_1
              · rw [if_pos c5] at H
                have c5b0 : decide (0 ≤ x5_1) = true := decide_eq_true c5
                clear c5
                by_cases c6 : x5_1 < (l0.length : Int)
                · rw [if_pos c6] at H
                  have c6b0 : decide (x5_1 < (l0.length : Int)) = true := decide_eq_true c6
                  clear c6
                  by_cases c7 : 0 ≤ x6_2
                  · rw [if_pos c7] at H
                    have c7b0 : decide (0 ≤ x6_2) = true := decide_eq_true c7
                    clear c7
                    by_cases c8 : ((rd_T59 l0 x5_1).f0) = ((rd_T59 l1 x6_2).f0)
                    · rw [if_pos c8] at H
                      have c8b0 : (((rd_T59 l0 x5_1).f0) == ((rd_T59 l1 x6_2).f0)) = true := beq_iff_eq.mpr c8
                      have c8b1 : (((rd_T59 l0 x5_1).f0) != ((rd_T59 l1 x6_2).f0)) = false := bne_eq_false_iff_eq.mpr c8
                      clear c8
                      by_cases c9 : (strOfNums ((rd_T59 l0 x5_1).f1)).toList = (strOfNums ((rd_T59 l1 x6_2).f1)).toList
                      · rw [if_pos c9] at H
                        have c9b0 : ((strOfNums ((rd_T59 l0 x5_1).f1)).toList == (strOfNums ((rd_T59 l1 x6_2).f1)).toList) = true := beq_iff_eq.mpr c9
                        have c9b1 : ((strOfNums ((rd_T59 l0 x5_1).f1)).toList != (strOfNums ((rd_T59 l1 x6_2).f1)).toList) = false := bne_eq_false_iff_eq.mpr c9
                        clear c9
                        obtain rfl := Option.some.inj H
                        have p293 : 0 ≤ (x5_1 : Int) := of_decide_eq_true (by first | (with_reducible assumption) | assumption)
                        have q293 : x5_1 < (l0.length : Int) := of_decide_eq_true (by first | (with_reducible assumption) | assumption)
                        obtain ⟨ad293, A293_1, c293_1, A293_3, c293_3, e293, hx293_0, hx293_1, hx293_2, hx293_3, hl293_1, hi293_1, hl293_3, hi293_3⟩ := at_T59 HR0.out x5_1 p293 q293
                        cases e293
                        have HR293_1 := Aside0.mk hi293_1
                        have HC293_1 := Aside0.mk hl293_1
                        clear hi293_1 hl293_1
                        have HR293_3 := Aside0.mk hi293_3
                        have HC293_3 := Aside0.mk hl293_3
                        clear hi293_3 hl293_3
                        replace p293 := eq_true p293
                        replace q293 := eq_true q293
                        have p294 : 0 ≤ (x6_2 : Int) := of_decide_eq_true (by first | (with_reducible assumption) | assumption)
                        have q294 : x6_2 < (l1.length : Int) := of_decide_eq_true (by first | (with_reducible assumption) | assumption)
                        obtain ⟨ad294, A294_1, c294_1, A294_3, c294_3, e294, hx294_0, hx294_1, hx294_2, hx294_3, hl294_1, hi294_1, hl294_3, hi294_3⟩ := at_T59 HR1.out x6_2 p294 q294
                        cases e294
                        have HR294_1 := Aside0.mk hi294_1
                        have HC294_1 := Aside0.mk hl294_1
                        clear hi294_1 hl294_1
                        have HR294_3 := Aside0.mk hi294_3
                        have HC294_3 := Aside0.mk hl294_3
                        clear hi294_3 hl294_3
                        replace p294 := eq_true p294
                        replace q294 := eq_true q294
                        have p295 : 0 ≤ (x5_1 : Int) := of_decide_eq_true (by first | (with_reducible assumption) | assumption)
                        have q295 : x5_1 < (l0.length : Int) := of_decide_eq_true (by first | (with_reducible assumption) | assumption)
                        obtain ⟨ad295, A295_1, c295_1, A295_3, c295_3, e295, hx295_0, hx295_1, hx295_2, hx295_3, hl295_1, hi295_1, hl295_3, hi295_3⟩ := at_T59 HR0.out x5_1 p295 q295
                        obtain rfl : ad293 = ad295 := (by injection e295)
                        have HR295_1 := Aside0.mk hi295_1
                        have HC295_1 := Aside0.mk hl295_1
                        clear hi295_1 hl295_1
                        have HR295_3 := Aside0.mk hi295_3
                        have HC295_3 := Aside0.mk hl295_3
                        clear hi295_3 hl295_3
                        replace p295 := eq_true p295
                        replace q295 := eq_true q295
                        have ea_ := Option.some.inj (hx293_1.symm.trans hx295_1)
                        injection ea_ with ea_ en_ ec_
                        subst ea_
                        subst ec_
                        clear en_
                        have ea_ := Option.some.inj (hx293_3.symm.trans hx295_3)
                        injection ea_ with ea_ en_ ec_
                        subst ea_
                        subst ec_
                        clear en_
                        have hcv10 := Kd.C_string (P := Try.prog) (A := A293_1) (c := c293_1) Try.underlying55 Try.underlying5 Try.underlying9 HR295_1.out; have hcv10q := fun n_ => Kd.C_string (P := Try.prog) (A := A293_1) (c := c293_1) Try.underlying55 Try.underlying5 Try.underlying9 (Kd.C_drewN HR295_1.out n_)
                        have p296 : 0 ≤ (x6_2 : Int) := of_decide_eq_true (by first | (with_reducible assumption) | assumption)
                        have q296 : x6_2 < (l1.length : Int) := of_decide_eq_true (by first | (with_reducible assumption) | assumption)
                        obtain ⟨ad296, A296_1, c296_1, A296_3, c296_3, e296, hx296_0, hx296_1, hx296_2, hx296_3, hl296_1, hi296_1, hl296_3, hi296_3⟩ := at_T59 HR1.out x6_2 p296 q296
                        obtain rfl : ad294 = ad296 := (by injection e296)
                        have HR296_1 := Aside0.mk hi296_1
                        have HC296_1 := Aside0.mk hl296_1
                        clear hi296_1 hl296_1
                        have HR296_3 := Aside0.mk hi296_3
                        have HC296_3 := Aside0.mk hl296_3
                        clear hi296_3 hl296_3
                        replace p296 := eq_true p296
                        replace q296 := eq_true q296
                        have ea_ := Option.some.inj (hx294_1.symm.trans hx296_1)
                        injection ea_ with ea_ en_ ec_
                        subst ea_
                        subst ec_
                        clear en_
                        have ea_ := Option.some.inj (hx294_3.symm.trans hx296_3)
                        injection ea_ with ea_ en_ ec_
                        subst ea_
                        subst ec_
                        clear en_
                        have hcv11 := Kd.C_string (P := Try.prog) (A := A294_1) (c := c294_1) Try.underlying55 Try.underlying5 Try.underlying9 HR296_1.out; have hcv11q := fun n_ => Kd.C_string (P := Try.prog) (A := A294_1) (c := c294_1) Try.underlying55 Try.underlying5 Try.underlying9 (Kd.C_drewN HR296_1.out n_)
                        go_wp2
                        repeat (go_quiet (fail); try go_wp2)
                        go_ret
                        exact ⟨by first | rfl | (simp; done) | (simp [*]; done), by repeat (first | exact Drawn0.refl _ | apply Drawn0.step)⟩
                      · rw [if_neg c9] at H
                        have c9b0 : ((strOfNums ((rd_T59 l0 x5_1).f1)).toList == (strOfNums ((rd_T59 l1 x6_2).f1)).toList) = false := beq_eq_false_iff_ne.mpr c9
                        have c9b1 : ((strOfNums ((rd_T59 l0 x5_1).f1)).toList != (strOfNums ((rd_T59 l1 x6_2).f1)).toList) = true := bne_iff_ne.mpr c9
                        have H' := Aside0.mk H
                        clear H
                        have p293 : 0 ≤ (x5_1 : Int) := of_decide_eq_true (by first | (with_reducible assumption) | assumption)
                        have q293 : x5_1 < (l0.length : Int) := of_decide_eq_true (by first | (with_reducible assumption) | assumption)
                        obtain ⟨ad293, A293_1, c293_1, A293_3, c293_3, e293, hx293_0, hx293_1, hx293_2, hx293_3, hl293_1, hi293_1, hl293_3, hi293_3⟩ := at_T59 HR0.out x5_1 p293 q293
                        cases e293
                        have HR293_1 := Aside0.mk hi293_1
                        have HC293_1 := Aside0.mk hl293_1
                        clear hi293_1 hl293_1
                        have HR293_3 := Aside0.mk hi293_3
                        have HC293_3 := Aside0.mk hl293_3
                        clear hi293_3 hl293_3
                        replace p293 := eq_true p293
                        replace q293 := eq_true q293
                        have p294 : 0 ≤ (x6_2 : Int) := of_decide_eq_true (by first | (with_reducible assumption) | assumption)
                        have q294 : x6_2 < (l1.length : Int) := of_decide_eq_true (by first | (with_reducible assumption) | assumption)
                        obtain ⟨ad294, A294_1, c294_1, A294_3, c294_3, e294, hx294_0, hx294_1, hx294_2, hx294_3, hl294_1, hi294_1, hl294_3, hi294_3⟩ := at_T59 HR1.out x6_2 p294 q294
                        cases e294
                        have HR294_1 := Aside0.mk hi294_1
                        have HC294_1 := Aside0.mk hl294_1
                        clear hi294_1 hl294_1
                        have HR294_3 := Aside0.mk hi294_3
                        have HC294_3 := Aside0.mk hl294_3
                        clear hi294_3 hl294_3
                        replace p294 := eq_true p294
                        replace q294 := eq_true q294
                        have p295 : 0 ≤ (x5_1 : Int) := of_decide_eq_true (by first | (with_reducible assumption) | assumption)
                        have q295 : x5_1 < (l0.length : Int) := of_decide_eq_true (by first | (with_reducible assumption) | assumption)
                        obtain ⟨ad295, A295_1, c295_1, A295_3, c295_3, e295, hx295_0, hx295_1, hx295_2, hx295_3, hl295_1, hi295_1, hl295_3, hi295_3⟩ := at_T59 HR0.out x5_1 p295 q295
                        obtain rfl : ad293 = ad295 := (by injection e295)
                        have HR295_1 := Aside0.mk hi295_1
                        have HC295_1 := Aside0.mk hl295_1
                        clear hi295_1 hl295_1
                        have HR295_3 := Aside0.mk hi295_3
                        have HC295_3 := Aside0.mk hl295_3
                        clear hi295_3 hl295_3
                        replace p295 := eq_true p295
                        replace q295 := eq_true q295
                        have ea_ := Option.some.inj (hx293_1.symm.trans hx295_1)
                        injection ea_ with ea_ en_ ec_
                        subst ea_
                        subst ec_
                        clear en_
                        have ea_ := Option.some.inj (hx293_3.symm.trans hx295_3)
                        injection ea_ with ea_ en_ ec_
                        subst ea_
                        subst ec_
                        clear en_
                        have hcv12 := Kd.C_string (P := Try.prog) (A := A293_1) (c := c293_1) Try.underlying55 Try.underlying5 Try.underlying9 HR295_1.out; have hcv12q := fun n_ => Kd.C_string (P := Try.prog) (A := A293_1) (c := c293_1) Try.underlying55 Try.underlying5 Try.underlying9 (Kd.C_drewN HR295_1.out n_)
                        have p296 : 0 ≤ (x6_2 : Int) := of_decide_eq_true (by first | (with_reducible assumption) | assumption)
                        have q296 : x6_2 < (l1.length : Int) := of_decide_eq_true (by first | (with_reducible assumption) | assumption)
                        obtain ⟨ad296, A296_1, c296_1, A296_3, c296_3, e296, hx296_0, hx296_1, hx296_2, hx296_3, hl296_1, hi296_1, hl296_3, hi296_3⟩ := at_T59 HR1.out x6_2 p296 q296
                        obtain rfl : ad294 = ad296 := (by injection e296)
                        have HR296_1 := Aside0.mk hi296_1
                        have HC296_1 := Aside0.mk hl296_1
                        clear hi296_1 hl296_1
                        have HR296_3 := Aside0.mk hi296_3
                        have HC296_3 := Aside0.mk hl296_3
                        clear hi296_3 hl296_3
                        replace p296 := eq_true p296
                        replace q296 := eq_true q296
                        have ea_ := Option.some.inj (hx294_1.symm.trans hx296_1)
                        injection ea_ with ea_ en_ ec_
                        subst ea_
                        subst ec_
                        clear en_
                        have ea_ := Option.some.inj (hx294_3.symm.trans hx296_3)
                        injection ea_ with ea_ en_ ec_
                        subst ea_
                        subst ec_
                        clear en_
                        have hcv13 := Kd.C_string (P := Try.prog) (A := A294_1) (c := c294_1) Try.underlying55 Try.underlying5 Try.underlying9 HR296_1.out; have hcv13q := fun n_ => Kd.C_string (P := Try.prog) (A := A294_1) (c := c294_1) Try.underlying55 Try.underlying5 Try.underlying9 (Kd.C_drewN HR296_1.out n_)
                        go_wp2
                        repeat (go_quiet (fail); try go_wp2)
                        go_roundg k2
                        case measure => have := HK1.out; have := HK2.out; omega
                        case rel => exact ⟨(wrap64 (x6_2 + 1)), (by first | rfl | (simp; done) | (simp [*]; done)), H', ⟨by have := HK1.out; have := HK2.out; omega⟩, by repeat (first | exact Drawn0.refl _ | apply Drawn0.step)⟩
                    · rw [if_neg c8] at H
                      have c8b0 : (((rd_T59 l0 x5_1).f0) == ((rd_T59 l1 x6_2).f0)) = false := beq_eq_false_iff_ne.mpr c8
                      have c8b1 : (((rd_T59 l0 x5_1).f0) != ((rd_T59 l1 x6_2).f0)) = true := bne_iff_ne.mpr c8
                      have H' := Aside0.mk H
                      clear H
                      have p293 : 0 ≤ (x5_1 : Int) := of_decide_eq_true (by first | (with_reducible assumption) | assumption)
                      have q293 : x5_1 < (l0.length : Int) := of_decide_eq_true (by first | (with_reducible assumption) | assumption)
                      obtain ⟨ad293, A293_1, c293_1, A293_3, c293_3, e293, hx293_0, hx293_1, hx293_2, hx293_3, hl293_1, hi293_1, hl293_3, hi293_3⟩ := at_T59 HR0.out x5_1 p293 q293
                      cases e293
                      have HR293_1 := Aside0.mk hi293_1
                      have HC293_1 := Aside0.mk hl293_1
                      clear hi293_1 hl293_1
                      have HR293_3 := Aside0.mk hi293_3
                      have HC293_3 := Aside0.mk hl293_3
                      clear hi293_3 hl293_3
                      replace p293 := eq_true p293
                      replace q293 := eq_true q293
                      have p294 : 0 ≤ (x6_2 : Int) := of_decide_eq_true (by first | (with_reducible assumption) | assumption)
                      have q294 : x6_2 < (l1.length : Int) := of_decide_eq_true (by first | (with_reducible assumption) | assumption)
                      obtain ⟨ad294, A294_1, c294_1, A294_3, c294_3, e294, hx294_0, hx294_1, hx294_2, hx294_3, hl294_1, hi294_1, hl294_3, hi294_3⟩ := at_T59 HR1.out x6_2 p294 q294
                      cases e294
                      have HR294_1 := Aside0.mk hi294_1
                      have HC294_1 := Aside0.mk hl294_1
                      clear hi294_1 hl294_1
                      have HR294_3 := Aside0.mk hi294_3
                      have HC294_3 := Aside0.mk hl294_3
                      clear hi294_3 hl294_3
                      replace p294 := eq_true p294
                      replace q294 := eq_true q294
                      go_wp2
                      repeat (go_quiet (fail); try go_wp2)
                      go_roundg k2
                      case measure => have := HK1.out; have := HK2.out; omega
                      case rel => exact ⟨(wrap64 (x6_2 + 1)), (by first | rfl | (simp; done) | (simp [*]; done)), H', ⟨by have := HK1.out; have := HK2.out; omega⟩, by repeat (first | exact Drawn0.refl _ | apply Drawn0.step)⟩
                  · rw [if_neg c7] at H
                    exact absurd H (by simp)
                · rw [if_neg c6] at H
                  exact absurd H (by simp)
              · rw [if_neg c5] at H
                exact absurd H (by simp)
            · rw [if_neg c4] at H
              have c4b0 : decide (x6_2 < (l1.length : Int)) = false := decide_eq_false c4
              clear c4
              have H' := Aside0.mk H
              clear H
              go_wp2
              repeat (go_quiet (fail); try go_wp2)
              go_roundg k2
              case measure => have := HK1.out; have := HK2.out; omega
              case rel => exact ⟨(wrap64 (x5_1 + 1)), (by first | rfl | (simp; done) | (simp [*]; done)), H', ⟨by have := HK1.out; have := HK2.out; omega⟩, by repeat (first | exact Drawn0.refl _ | apply Drawn0.step)⟩
      · rw [if_neg c3] at H
        have c3b0 : decide (x5_1 < (l0.length : Int)) = false := decide_eq_false c3
        clear c3
        obtain rfl := Option.some.inj H
        go_wp2
        repeat (go_quiet (fail); try go_wp2)
        go_ret
        exact ⟨by first | rfl | (simp; done) | (simp [*]; done), by repeat (first | exact Drawn0.refl _ | apply Drawn0.step)⟩

end Go.Proofs.Ytpoaleejhdeclaa.P
