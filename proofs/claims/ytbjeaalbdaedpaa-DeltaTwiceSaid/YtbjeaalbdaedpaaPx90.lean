import Derived.Test.YtbjeaalbdaedpaaPx1
import Derived.Test.YtbjeaalbdaedpaaPx0
namespace Go.Proofs.Ytbjeaalbdaedpaa.P
open Go.RowKit Go.Proofs.YtbjeaalbdaedpaaW.PrintWords Go.Proofs.YtbjeaalbdaedpaaW.PrintLast Go.Proofs.YtbjeaalbdaedpaaW.PrintMore
attribute [local go_sem] max2_int min2_int max_two min_two max_three min_three max_four min_four
set_option linter.unusedVariables false
set_option linter.unusedSimpArgs false
def banksmanref08_Writes.l0 : Nat → List (S28) → List (S28) → Int → Option (Bool)
  | 0, _, _, _ => none
  | k + 1, x0, x1, x5 => if x5 < (x0.length : Int) then (if 0 ≤ x5 then (if x5 < (x1.length : Int) then (if ((rd_T28 x0 x5).f0) = ((rd_T28 x1 x5).f0) then (if (strOfNums ((rd_T28 x0 x5).f1)).toList = (strOfNums ((rd_T28 x1 x5).f1)).toList then (if (((rd_T28 x0 x5).f2) != ((rd_T28 x1 x5).f2)) = true then (some false) else (if (strOfNums ((rd_T28 x0 x5).f3)).toList = (strOfNums ((rd_T28 x1 x5).f3)).toList then (banksmanref08_Writes.l0 k x0 x1 (wrap64 (x5 + 1))) else (some false))) else (some false)) else (some false)) else (none)) else (none)) else (some true)
def banksmanref08_Writes.f (k : Nat) (l0 : List (S28)) (l1 : List (S28)) : Option (Bool) := if (l0.length : Int) = (l1.length : Int) then (banksmanref08_Writes.l0 k l0 l1 0) else (some false)
set_option maxHeartbeats 8000000 in
set_option maxRecDepth 100000 in
theorem banksmanref08_Writes.calls (k : Nat) (A0 : Option Addr) (c0 : Nat) (l0 : List (S28)) (A1 : Option Addr) (c1 : Nat) (l1 : List (S28)) (r : Bool) (w : World) (hr0 : Kd.C k28 w A0 l0.length l0) (hc0 : l0.length ≤ c0) (hr1 : Kd.C k28 w A1 l1.length l1) (hc1 : l1.length ≤ c1) (h : banksmanref08_Writes.f k l0 l1 = some r) :
  Calls Try.prog 22 #[.slice A0 l0.length c0, .slice A1 l1.length c1] w fun e w' => e = .returned (.bool r) ∧ Drawn0 w w' := by
 have HR0 := aM hr0
 have HC0 := aM hc0
 clear hr0 hc0
 have HR1 := aM hr1
 have HC1 := aM hc1
 clear hr1 hc1
 have H : (if (l0.length : Int) = (l1.length : Int) then (banksmanref08_Writes.l0 k l0 l1 0) else (some false)) = some r := h
 clear h
 by_cases c3 : (l0.length : Int) = (l1.length : Int)
 ·
  rw [if_pos c3] at H
  have c3b0 : ((l0.length : Int) == (l1.length : Int)) = true := beq_iff_eq.mpr c3
  have c3b1 : ((l0.length : Int) != (l1.length : Int)) = false := bne_eq_false_iff_eq.mpr c3
  have c3b2 : (l0.length == l1.length) = true := by first | simpa using c3 | (simp at c3 ⊢; omega)
  clear c3
  have H' := aM H
  clear H
  go_enter Try.func22, Try.ntmps22
  go_wp2
  repeat (go_quiet (fail); try go_wp2)
  go_loopg [5] k (fun kq v5 w' => ∃ (x5_1 : Int), v5 = .int .i64 x5_1 ∧ Aside0 (banksmanref08_Writes.l0 kq l0 l1 x5_1 = some r) ∧ Aside0 (kq ≤ k) ∧ Drawn0 w w')
  case atStart => exact ⟨(0), (by first | rfl | (simp; done) | (simp [*]; done)), H', ⟨Nat.le_refl _⟩, by repeat (first | exact Drawn0.refl _ | apply Drawn0.step)⟩
  case round =>
   clear H'
   try clear c1
   try clear c2
   try clear p2
   try clear c3
   try clear c3b0
   try clear c3b1
   try clear c3b2
   obtain ⟨x5_1, rfl, HA, HK1, ⟨m1, rfl⟩⟩ := hrel
   cases gk with
   | zero => exact absurd HA.out (by simp [banksmanref08_Writes.l0])
   | succ k1 =>
    have H := HA.out
    clear HA
    simp only [banksmanref08_Writes.l0] at H
    by_cases c4 : x5_1 < (l0.length : Int)
    ·
     rw [if_pos c4] at H
     have c4b0 : decide (x5_1 < (l0.length : Int)) = true := decide_eq_true c4
     clear c4
     by_cases c5 : 0 ≤ x5_1
     ·
      rw [if_pos c5] at H
      have c5b0 : decide (0 ≤ x5_1) = true := decide_eq_true c5
      clear c5
      by_cases c6 : x5_1 < (l1.length : Int)
      ·
       rw [if_pos c6] at H
       have c6b0 : decide (x5_1 < (l1.length : Int)) = true := decide_eq_true c6
       clear c6
       by_cases c7 : ((rd_T28 l0 x5_1).f0) = ((rd_T28 l1 x5_1).f0)
       ·
        rw [if_pos c7] at H
        have c7b0 : (((rd_T28 l0 x5_1).f0) == ((rd_T28 l1 x5_1).f0)) = true := beq_iff_eq.mpr c7
        have c7b1 : (((rd_T28 l0 x5_1).f0) != ((rd_T28 l1 x5_1).f0)) = false := bne_eq_false_iff_eq.mpr c7
        clear c7
        by_cases c8 : (strOfNums ((rd_T28 l0 x5_1).f1)).toList = (strOfNums ((rd_T28 l1 x5_1).f1)).toList
        ·
         rw [if_pos c8] at H
         have c8b0 : ((strOfNums ((rd_T28 l0 x5_1).f1)).toList == (strOfNums ((rd_T28 l1 x5_1).f1)).toList) = true := beq_iff_eq.mpr c8
         have c8b1 : ((strOfNums ((rd_T28 l0 x5_1).f1)).toList != (strOfNums ((rd_T28 l1 x5_1).f1)).toList) = false := bne_eq_false_iff_eq.mpr c8
         clear c8
         by_cases c9 : (((rd_T28 l0 x5_1).f2) != ((rd_T28 l1 x5_1).f2)) = true
         ·
          rw [if_pos c9] at H
          have c9b0 : (((rd_T28 l0 x5_1).f2) != ((rd_T28 l1 x5_1).f2)) = true := c9
          (try (have c9b1 : decide (((rd_T28 l0 x5_1).f2) = ((rd_T28 l1 x5_1).f2)) = false := by simpa using c9))
          (try (have c9b2 : (((rd_T28 l0 x5_1).f2) == ((rd_T28 l1 x5_1).f2)) = false := by simpa using c9))
          (try (have c9b3 : ¬ (((rd_T28 l0 x5_1).f2) = ((rd_T28 l1 x5_1).f2)) := by simpa using c9))
          clear c9
          obtain rfl := Option.some.inj H
          have p264 : 0 ≤ (x5_1 : Int) := of_decide_eq_true (by first | (with_reducible assumption) | assumption)
          have q264 : x5_1 < (l0.length : Int) := of_decide_eq_true (by first | (with_reducible assumption) | assumption)
          obtain ⟨ad264, A264_1, c264_1, A264_3, c264_3, e264, hx264_0, hx264_1, hx264_2, hx264_3, hl264_1, hi264_1, hl264_3, hi264_3⟩ := at_T28 HR0.out x5_1 p264 q264
          cases e264
          have HRq4 := aM hi264_1
          have HCq0 := aM hl264_1
          clear hi264_1 hl264_1
          have HRq5 := aM hi264_3
          have HCq1 := aM hl264_3
          clear hi264_3 hl264_3
          replace p264 := eq_true p264
          replace q264 := eq_true q264
          have p265 : 0 ≤ (x5_1 : Int) := of_decide_eq_true (by first | (with_reducible assumption) | assumption)
          have q265 : x5_1 < (l1.length : Int) := of_decide_eq_true (by first | (with_reducible assumption) | assumption)
          obtain ⟨ad265, A265_1, c265_1, A265_3, c265_3, e265, hx265_0, hx265_1, hx265_2, hx265_3, hl265_1, hi265_1, hl265_3, hi265_3⟩ := at_T28 HR1.out x5_1 p265 q265
          cases e265
          have HRq6 := aM hi265_1
          have HCq2 := aM hl265_1
          clear hi265_1 hl265_1
          have HRq7 := aM hi265_3
          have HCq3 := aM hl265_3
          clear hi265_3 hl265_3
          replace p265 := eq_true p265
          replace q265 := eq_true q265
          have p266 : 0 ≤ (x5_1 : Int) := of_decide_eq_true (by first | (with_reducible assumption) | assumption)
          have q266 : x5_1 < (l0.length : Int) := of_decide_eq_true (by first | (with_reducible assumption) | assumption)
          obtain ⟨ad266, A266_1, c266_1, A266_3, c266_3, e266, hx266_0, hx266_1, hx266_2, hx266_3, hl266_1, hi266_1, hl266_3, hi266_3⟩ := at_T28 HR0.out x5_1 p266 q266
          obtain rfl : ad264 = ad266 := (by injection e266)
          have HRq0 := aM hi266_1
          have HCq4 := aM hl266_1
          clear hi266_1 hl266_1
          have HRq8 := aM hi266_3
          have HCq5 := aM hl266_3
          clear hi266_3 hl266_3
          replace p266 := eq_true p266
          replace q266 := eq_true q266
          have ea_ := Option.some.inj (hx264_1.symm.trans hx266_1)
          injection ea_ with ea_ en_ ec_
          subst ea_
          subst ec_
          clear en_
          have ea_ := Option.some.inj (hx264_3.symm.trans hx266_3)
          injection ea_ with ea_ en_ ec_
          subst ea_
          subst ec_
          clear en_
          have hcv10 := Kd.C_string (P := Try.prog) (A := A264_1) (c := c264_1) Try.underlying26 Try.underlying5 Try.underlying9 HRq0.out; have hcv10q := fun n_ => Kd.C_string (P := Try.prog) (A := A264_1) (c := c264_1) Try.underlying26 Try.underlying5 Try.underlying9 (Kd.C_drewN HRq0.out n_)
          have p267 : 0 ≤ (x5_1 : Int) := of_decide_eq_true (by first | (with_reducible assumption) | assumption)
          have q267 : x5_1 < (l1.length : Int) := of_decide_eq_true (by first | (with_reducible assumption) | assumption)
          obtain ⟨ad267, A267_1, c267_1, A267_3, c267_3, e267, hx267_0, hx267_1, hx267_2, hx267_3, hl267_1, hi267_1, hl267_3, hi267_3⟩ := at_T28 HR1.out x5_1 p267 q267
          obtain rfl : ad265 = ad267 := (by injection e267)
          have HRq1 := aM hi267_1
          have HCq6 := aM hl267_1
          clear hi267_1 hl267_1
          have HRq9 := aM hi267_3
          have HCq7 := aM hl267_3
          clear hi267_3 hl267_3
          replace p267 := eq_true p267
          replace q267 := eq_true q267
          have ea_ := Option.some.inj (hx265_1.symm.trans hx267_1)
          injection ea_ with ea_ en_ ec_
          subst ea_
          subst ec_
          clear en_
          have ea_ := Option.some.inj (hx265_3.symm.trans hx267_3)
          injection ea_ with ea_ en_ ec_
          subst ea_
          subst ec_
          clear en_
          have hcv11 := Kd.C_string (P := Try.prog) (A := A265_1) (c := c265_1) Try.underlying26 Try.underlying5 Try.underlying9 HRq1.out; have hcv11q := fun n_ => Kd.C_string (P := Try.prog) (A := A265_1) (c := c265_1) Try.underlying26 Try.underlying5 Try.underlying9 (Kd.C_drewN HRq1.out n_)
          have p268 : 0 ≤ (x5_1 : Int) := of_decide_eq_true (by first | (with_reducible assumption) | assumption)
          have q268 : x5_1 < (l0.length : Int) := of_decide_eq_true (by first | (with_reducible assumption) | assumption)
          obtain ⟨ad268, A268_1, c268_1, A268_3, c268_3, e268, hx268_0, hx268_1, hx268_2, hx268_3, hl268_1, hi268_1, hl268_3, hi268_3⟩ := at_T28 HR0.out x5_1 p268 q268
          obtain rfl : ad264 = ad268 := (by injection e268)
          have HRq10 := aM hi268_1
          have HCq8 := aM hl268_1
          clear hi268_1 hl268_1
          have HRq11 := aM hi268_3
          have HCq9 := aM hl268_3
          clear hi268_3 hl268_3
          replace p268 := eq_true p268
          replace q268 := eq_true q268
          have ea_ := Option.some.inj (hx264_1.symm.trans hx268_1)
          injection ea_ with ea_ en_ ec_
          subst ea_
          subst ec_
          clear en_
          have ea_ := Option.some.inj (hx264_3.symm.trans hx268_3)
          injection ea_ with ea_ en_ ec_
          subst ea_
          subst ec_
          clear en_
          have p269 : 0 ≤ (x5_1 : Int) := of_decide_eq_true (by first | (with_reducible assumption) | assumption)
          have q269 : x5_1 < (l1.length : Int) := of_decide_eq_true (by first | (with_reducible assumption) | assumption)
          obtain ⟨ad269, A269_1, c269_1, A269_3, c269_3, e269, hx269_0, hx269_1, hx269_2, hx269_3, hl269_1, hi269_1, hl269_3, hi269_3⟩ := at_T28 HR1.out x5_1 p269 q269
          obtain rfl : ad265 = ad269 := (by injection e269)
          have HRq12 := aM hi269_1
          have HCq10 := aM hl269_1
          clear hi269_1 hl269_1
          have HRq13 := aM hi269_3
          have HCq11 := aM hl269_3
          clear hi269_3 hl269_3
          replace p269 := eq_true p269
          replace q269 := eq_true q269
          have ea_ := Option.some.inj (hx265_1.symm.trans hx269_1)
          injection ea_ with ea_ en_ ec_
          subst ea_
          subst ec_
          clear en_
          have ea_ := Option.some.inj (hx265_3.symm.trans hx269_3)
          injection ea_ with ea_ en_ ec_
          subst ea_
          subst ec_
          clear en_
          go_wp2
          repeat (go_quiet (fail); try go_wp2)
          go_ret
          exact ⟨by first | rfl | (simp; done) | (simp [*]; done), by repeat (first | exact Drawn0.refl _ | apply Drawn0.step)⟩
         ·
          rw [if_neg c9] at H
          have c9b0 : (((rd_T28 l0 x5_1).f2) != ((rd_T28 l1 x5_1).f2)) = false := by simpa using c9
          (try (have c9b1 : decide (((rd_T28 l0 x5_1).f2) = ((rd_T28 l1 x5_1).f2)) = true := by simpa using c9))
          (try (have c9b2 : (((rd_T28 l0 x5_1).f2) == ((rd_T28 l1 x5_1).f2)) = true := by simpa using c9))
          clear c9
          by_cases c12 : (strOfNums ((rd_T28 l0 x5_1).f3)).toList = (strOfNums ((rd_T28 l1 x5_1).f3)).toList
          ·
           rw [if_pos c12] at H
           have c12b0 : ((strOfNums ((rd_T28 l0 x5_1).f3)).toList == (strOfNums ((rd_T28 l1 x5_1).f3)).toList) = true := beq_iff_eq.mpr c12
           have c12b1 : ((strOfNums ((rd_T28 l0 x5_1).f3)).toList != (strOfNums ((rd_T28 l1 x5_1).f3)).toList) = false := bne_eq_false_iff_eq.mpr c12
           clear c12
           have H' := aM H
           clear H
           have p264 : 0 ≤ (x5_1 : Int) := of_decide_eq_true (by first | (with_reducible assumption) | assumption)
           have q264 : x5_1 < (l0.length : Int) := of_decide_eq_true (by first | (with_reducible assumption) | assumption)
           obtain ⟨ad264, A264_1, c264_1, A264_3, c264_3, e264, hx264_0, hx264_1, hx264_2, hx264_3, hl264_1, hi264_1, hl264_3, hi264_3⟩ := at_T28 HR0.out x5_1 p264 q264
           cases e264
           have HRq4 := aM hi264_1
           have HCq0 := aM hl264_1
           clear hi264_1 hl264_1
           have HRq5 := aM hi264_3
           have HCq1 := aM hl264_3
           clear hi264_3 hl264_3
           replace p264 := eq_true p264
           replace q264 := eq_true q264
           have p265 : 0 ≤ (x5_1 : Int) := of_decide_eq_true (by first | (with_reducible assumption) | assumption)
           have q265 : x5_1 < (l1.length : Int) := of_decide_eq_true (by first | (with_reducible assumption) | assumption)
           obtain ⟨ad265, A265_1, c265_1, A265_3, c265_3, e265, hx265_0, hx265_1, hx265_2, hx265_3, hl265_1, hi265_1, hl265_3, hi265_3⟩ := at_T28 HR1.out x5_1 p265 q265
           cases e265
           have HRq6 := aM hi265_1
           have HCq2 := aM hl265_1
           clear hi265_1 hl265_1
           have HRq7 := aM hi265_3
           have HCq3 := aM hl265_3
           clear hi265_3 hl265_3
           replace p265 := eq_true p265
           replace q265 := eq_true q265
           have p266 : 0 ≤ (x5_1 : Int) := of_decide_eq_true (by first | (with_reducible assumption) | assumption)
           have q266 : x5_1 < (l0.length : Int) := of_decide_eq_true (by first | (with_reducible assumption) | assumption)
           obtain ⟨ad266, A266_1, c266_1, A266_3, c266_3, e266, hx266_0, hx266_1, hx266_2, hx266_3, hl266_1, hi266_1, hl266_3, hi266_3⟩ := at_T28 HR0.out x5_1 p266 q266
           obtain rfl : ad264 = ad266 := (by injection e266)
           have HRq0 := aM hi266_1
           have HCq4 := aM hl266_1
           clear hi266_1 hl266_1
           have HRq8 := aM hi266_3
           have HCq5 := aM hl266_3
           clear hi266_3 hl266_3
           replace p266 := eq_true p266
           replace q266 := eq_true q266
           have ea_ := Option.some.inj (hx264_1.symm.trans hx266_1)
           injection ea_ with ea_ en_ ec_
           subst ea_
           subst ec_
           clear en_
           have ea_ := Option.some.inj (hx264_3.symm.trans hx266_3)
           injection ea_ with ea_ en_ ec_
           subst ea_
           subst ec_
           clear en_
           have hcv13 := Kd.C_string (P := Try.prog) (A := A264_1) (c := c264_1) Try.underlying26 Try.underlying5 Try.underlying9 HRq0.out; have hcv13q := fun n_ => Kd.C_string (P := Try.prog) (A := A264_1) (c := c264_1) Try.underlying26 Try.underlying5 Try.underlying9 (Kd.C_drewN HRq0.out n_)
           have p267 : 0 ≤ (x5_1 : Int) := of_decide_eq_true (by first | (with_reducible assumption) | assumption)
           have q267 : x5_1 < (l1.length : Int) := of_decide_eq_true (by first | (with_reducible assumption) | assumption)
           obtain ⟨ad267, A267_1, c267_1, A267_3, c267_3, e267, hx267_0, hx267_1, hx267_2, hx267_3, hl267_1, hi267_1, hl267_3, hi267_3⟩ := at_T28 HR1.out x5_1 p267 q267
           obtain rfl : ad265 = ad267 := (by injection e267)
           have HRq1 := aM hi267_1
           have HCq6 := aM hl267_1
           clear hi267_1 hl267_1
           have HRq9 := aM hi267_3
           have HCq7 := aM hl267_3
           clear hi267_3 hl267_3
           replace p267 := eq_true p267
           replace q267 := eq_true q267
           have ea_ := Option.some.inj (hx265_1.symm.trans hx267_1)
           injection ea_ with ea_ en_ ec_
           subst ea_
           subst ec_
           clear en_
           have ea_ := Option.some.inj (hx265_3.symm.trans hx267_3)
           injection ea_ with ea_ en_ ec_
           subst ea_
           subst ec_
           clear en_
           have hcv14 := Kd.C_string (P := Try.prog) (A := A265_1) (c := c265_1) Try.underlying26 Try.underlying5 Try.underlying9 HRq1.out; have hcv14q := fun n_ => Kd.C_string (P := Try.prog) (A := A265_1) (c := c265_1) Try.underlying26 Try.underlying5 Try.underlying9 (Kd.C_drewN HRq1.out n_)
           have p268 : 0 ≤ (x5_1 : Int) := of_decide_eq_true (by first | (with_reducible assumption) | assumption)
           have q268 : x5_1 < (l0.length : Int) := of_decide_eq_true (by first | (with_reducible assumption) | assumption)
           obtain ⟨ad268, A268_1, c268_1, A268_3, c268_3, e268, hx268_0, hx268_1, hx268_2, hx268_3, hl268_1, hi268_1, hl268_3, hi268_3⟩ := at_T28 HR0.out x5_1 p268 q268
           obtain rfl : ad264 = ad268 := (by injection e268)
           have HRq10 := aM hi268_1
           have HCq8 := aM hl268_1
           clear hi268_1 hl268_1
           have HRq11 := aM hi268_3
           have HCq9 := aM hl268_3
           clear hi268_3 hl268_3
           replace p268 := eq_true p268
           replace q268 := eq_true q268
           have ea_ := Option.some.inj (hx264_1.symm.trans hx268_1)
           injection ea_ with ea_ en_ ec_
           subst ea_
           subst ec_
           clear en_
           have ea_ := Option.some.inj (hx264_3.symm.trans hx268_3)
           injection ea_ with ea_ en_ ec_
           subst ea_
           subst ec_
           clear en_
           have p269 : 0 ≤ (x5_1 : Int) := of_decide_eq_true (by first | (with_reducible assumption) | assumption)
           have q269 : x5_1 < (l1.length : Int) := of_decide_eq_true (by first | (with_reducible assumption) | assumption)
           obtain ⟨ad269, A269_1, c269_1, A269_3, c269_3, e269, hx269_0, hx269_1, hx269_2, hx269_3, hl269_1, hi269_1, hl269_3, hi269_3⟩ := at_T28 HR1.out x5_1 p269 q269
           obtain rfl : ad265 = ad269 := (by injection e269)
           have HRq12 := aM hi269_1
           have HCq10 := aM hl269_1
           clear hi269_1 hl269_1
           have HRq13 := aM hi269_3
           have HCq11 := aM hl269_3
           clear hi269_3 hl269_3
           replace p269 := eq_true p269
           replace q269 := eq_true q269
           have ea_ := Option.some.inj (hx265_1.symm.trans hx269_1)
           injection ea_ with ea_ en_ ec_
           subst ea_
           subst ec_
           clear en_
           have ea_ := Option.some.inj (hx265_3.symm.trans hx269_3)
           injection ea_ with ea_ en_ ec_
           subst ea_
           subst ec_
           clear en_
           have p270 : 0 ≤ (x5_1 : Int) := of_decide_eq_true (by first | (with_reducible assumption) | assumption)
           have q270 : x5_1 < (l0.length : Int) := of_decide_eq_true (by first | (with_reducible assumption) | assumption)
           obtain ⟨ad270, A270_1, c270_1, A270_3, c270_3, e270, hx270_0, hx270_1, hx270_2, hx270_3, hl270_1, hi270_1, hl270_3, hi270_3⟩ := at_T28 HR0.out x5_1 p270 q270
           obtain rfl : ad264 = ad270 := (by injection e270)
           have HRq14 := aM hi270_1
           have HCq12 := aM hl270_1
           clear hi270_1 hl270_1
           have HRq2 := aM hi270_3
           have HCq13 := aM hl270_3
           clear hi270_3 hl270_3
           replace p270 := eq_true p270
           replace q270 := eq_true q270
           have ea_ := Option.some.inj (hx264_1.symm.trans hx270_1)
           injection ea_ with ea_ en_ ec_
           subst ea_
           subst ec_
           clear en_
           have ea_ := Option.some.inj (hx264_3.symm.trans hx270_3)
           injection ea_ with ea_ en_ ec_
           subst ea_
           subst ec_
           clear en_
           have hcv15 := Kd.C_string (P := Try.prog) (A := A264_3) (c := c264_3) Try.underlying26 Try.underlying5 Try.underlying9 HRq2.out; have hcv15q := fun n_ => Kd.C_string (P := Try.prog) (A := A264_3) (c := c264_3) Try.underlying26 Try.underlying5 Try.underlying9 (Kd.C_drewN HRq2.out n_)
           have p271 : 0 ≤ (x5_1 : Int) := of_decide_eq_true (by first | (with_reducible assumption) | assumption)
           have q271 : x5_1 < (l1.length : Int) := of_decide_eq_true (by first | (with_reducible assumption) | assumption)
           obtain ⟨ad271, A271_1, c271_1, A271_3, c271_3, e271, hx271_0, hx271_1, hx271_2, hx271_3, hl271_1, hi271_1, hl271_3, hi271_3⟩ := at_T28 HR1.out x5_1 p271 q271
           obtain rfl : ad265 = ad271 := (by injection e271)
           have HRq15 := aM hi271_1
           have HCq14 := aM hl271_1
           clear hi271_1 hl271_1
           have HRq3 := aM hi271_3
           have HCq15 := aM hl271_3
           clear hi271_3 hl271_3
           replace p271 := eq_true p271
           replace q271 := eq_true q271
           have ea_ := Option.some.inj (hx265_1.symm.trans hx271_1)
           injection ea_ with ea_ en_ ec_
           subst ea_
           subst ec_
           clear en_
           have ea_ := Option.some.inj (hx265_3.symm.trans hx271_3)
           injection ea_ with ea_ en_ ec_
           subst ea_
           subst ec_
           clear en_
           have hcv16 := Kd.C_string (P := Try.prog) (A := A265_3) (c := c265_3) Try.underlying26 Try.underlying5 Try.underlying9 HRq3.out; have hcv16q := fun n_ => Kd.C_string (P := Try.prog) (A := A265_3) (c := c265_3) Try.underlying26 Try.underlying5 Try.underlying9 (Kd.C_drewN HRq3.out n_)
           go_wp2
           repeat (go_quiet (fail); try go_wp2)
           go_roundg k1
           case measure => have := HK1.out; omega
           case rel => exact ⟨(wrap64 (x5_1 + 1)), (by first | rfl | (simp; done) | (simp [*]; done)), H', ⟨by have := HK1.out; omega⟩, by repeat (first | exact Drawn0.refl _ | apply Drawn0.step)⟩
          ·
           rw [if_neg c12] at H
           have c12b0 : ((strOfNums ((rd_T28 l0 x5_1).f3)).toList == (strOfNums ((rd_T28 l1 x5_1).f3)).toList) = false := beq_eq_false_iff_ne.mpr c12
           have c12b1 : ((strOfNums ((rd_T28 l0 x5_1).f3)).toList != (strOfNums ((rd_T28 l1 x5_1).f3)).toList) = true := bne_iff_ne.mpr c12
           obtain rfl := Option.some.inj H
           have p264 : 0 ≤ (x5_1 : Int) := of_decide_eq_true (by first | (with_reducible assumption) | assumption)
           have q264 : x5_1 < (l0.length : Int) := of_decide_eq_true (by first | (with_reducible assumption) | assumption)
           obtain ⟨ad264, A264_1, c264_1, A264_3, c264_3, e264, hx264_0, hx264_1, hx264_2, hx264_3, hl264_1, hi264_1, hl264_3, hi264_3⟩ := at_T28 HR0.out x5_1 p264 q264
           cases e264
           have HRq4 := aM hi264_1
           have HCq0 := aM hl264_1
           clear hi264_1 hl264_1
           have HRq5 := aM hi264_3
           have HCq1 := aM hl264_3
           clear hi264_3 hl264_3
           replace p264 := eq_true p264
           replace q264 := eq_true q264
           have p265 : 0 ≤ (x5_1 : Int) := of_decide_eq_true (by first | (with_reducible assumption) | assumption)
           have q265 : x5_1 < (l1.length : Int) := of_decide_eq_true (by first | (with_reducible assumption) | assumption)
           obtain ⟨ad265, A265_1, c265_1, A265_3, c265_3, e265, hx265_0, hx265_1, hx265_2, hx265_3, hl265_1, hi265_1, hl265_3, hi265_3⟩ := at_T28 HR1.out x5_1 p265 q265
           cases e265
           have HRq6 := aM hi265_1
           have HCq2 := aM hl265_1
           clear hi265_1 hl265_1
           have HRq7 := aM hi265_3
           have HCq3 := aM hl265_3
           clear hi265_3 hl265_3
           replace p265 := eq_true p265
           replace q265 := eq_true q265
           have p266 : 0 ≤ (x5_1 : Int) := of_decide_eq_true (by first | (with_reducible assumption) | assumption)
           have q266 : x5_1 < (l0.length : Int) := of_decide_eq_true (by first | (with_reducible assumption) | assumption)
           obtain ⟨ad266, A266_1, c266_1, A266_3, c266_3, e266, hx266_0, hx266_1, hx266_2, hx266_3, hl266_1, hi266_1, hl266_3, hi266_3⟩ := at_T28 HR0.out x5_1 p266 q266
           obtain rfl : ad264 = ad266 := (by injection e266)
           have HRq0 := aM hi266_1
           have HCq4 := aM hl266_1
           clear hi266_1 hl266_1
           have HRq8 := aM hi266_3
           have HCq5 := aM hl266_3
           clear hi266_3 hl266_3
           replace p266 := eq_true p266
           replace q266 := eq_true q266
           have ea_ := Option.some.inj (hx264_1.symm.trans hx266_1)
           injection ea_ with ea_ en_ ec_
           subst ea_
           subst ec_
           clear en_
           have ea_ := Option.some.inj (hx264_3.symm.trans hx266_3)
           injection ea_ with ea_ en_ ec_
           subst ea_
           subst ec_
           clear en_
           have hcv17 := Kd.C_string (P := Try.prog) (A := A264_1) (c := c264_1) Try.underlying26 Try.underlying5 Try.underlying9 HRq0.out; have hcv17q := fun n_ => Kd.C_string (P := Try.prog) (A := A264_1) (c := c264_1) Try.underlying26 Try.underlying5 Try.underlying9 (Kd.C_drewN HRq0.out n_)
           have p267 : 0 ≤ (x5_1 : Int) := of_decide_eq_true (by first | (with_reducible assumption) | assumption)
           have q267 : x5_1 < (l1.length : Int) := of_decide_eq_true (by first | (with_reducible assumption) | assumption)
           obtain ⟨ad267, A267_1, c267_1, A267_3, c267_3, e267, hx267_0, hx267_1, hx267_2, hx267_3, hl267_1, hi267_1, hl267_3, hi267_3⟩ := at_T28 HR1.out x5_1 p267 q267
           obtain rfl : ad265 = ad267 := (by injection e267)
           have HRq1 := aM hi267_1
           have HCq6 := aM hl267_1
           clear hi267_1 hl267_1
           have HRq9 := aM hi267_3
           have HCq7 := aM hl267_3
           clear hi267_3 hl267_3
           replace p267 := eq_true p267
           replace q267 := eq_true q267
           have ea_ := Option.some.inj (hx265_1.symm.trans hx267_1)
           injection ea_ with ea_ en_ ec_
           subst ea_
           subst ec_
           clear en_
           have ea_ := Option.some.inj (hx265_3.symm.trans hx267_3)
           injection ea_ with ea_ en_ ec_
           subst ea_
           subst ec_
           clear en_
           have hcv18 := Kd.C_string (P := Try.prog) (A := A265_1) (c := c265_1) Try.underlying26 Try.underlying5 Try.underlying9 HRq1.out; have hcv18q := fun n_ => Kd.C_string (P := Try.prog) (A := A265_1) (c := c265_1) Try.underlying26 Try.underlying5 Try.underlying9 (Kd.C_drewN HRq1.out n_)
           have p268 : 0 ≤ (x5_1 : Int) := of_decide_eq_true (by first | (with_reducible assumption) | assumption)
           have q268 : x5_1 < (l0.length : Int) := of_decide_eq_true (by first | (with_reducible assumption) | assumption)
           obtain ⟨ad268, A268_1, c268_1, A268_3, c268_3, e268, hx268_0, hx268_1, hx268_2, hx268_3, hl268_1, hi268_1, hl268_3, hi268_3⟩ := at_T28 HR0.out x5_1 p268 q268
           obtain rfl : ad264 = ad268 := (by injection e268)
           have HRq10 := aM hi268_1
           have HCq8 := aM hl268_1
           clear hi268_1 hl268_1
           have HRq11 := aM hi268_3
           have HCq9 := aM hl268_3
           clear hi268_3 hl268_3
           replace p268 := eq_true p268
           replace q268 := eq_true q268
           have ea_ := Option.some.inj (hx264_1.symm.trans hx268_1)
           injection ea_ with ea_ en_ ec_
           subst ea_
           subst ec_
           clear en_
           have ea_ := Option.some.inj (hx264_3.symm.trans hx268_3)
           injection ea_ with ea_ en_ ec_
           subst ea_
           subst ec_
           clear en_
           have p269 : 0 ≤ (x5_1 : Int) := of_decide_eq_true (by first | (with_reducible assumption) | assumption)
           have q269 : x5_1 < (l1.length : Int) := of_decide_eq_true (by first | (with_reducible assumption) | assumption)
           obtain ⟨ad269, A269_1, c269_1, A269_3, c269_3, e269, hx269_0, hx269_1, hx269_2, hx269_3, hl269_1, hi269_1, hl269_3, hi269_3⟩ := at_T28 HR1.out x5_1 p269 q269
           obtain rfl : ad265 = ad269 := (by injection e269)
           have HRq12 := aM hi269_1
           have HCq10 := aM hl269_1
           clear hi269_1 hl269_1
           have HRq13 := aM hi269_3
           have HCq11 := aM hl269_3
           clear hi269_3 hl269_3
           replace p269 := eq_true p269
           replace q269 := eq_true q269
           have ea_ := Option.some.inj (hx265_1.symm.trans hx269_1)
           injection ea_ with ea_ en_ ec_
           subst ea_
           subst ec_
           clear en_
           have ea_ := Option.some.inj (hx265_3.symm.trans hx269_3)
           injection ea_ with ea_ en_ ec_
           subst ea_
           subst ec_
           clear en_
           have p270 : 0 ≤ (x5_1 : Int) := of_decide_eq_true (by first | (with_reducible assumption) | assumption)
           have q270 : x5_1 < (l0.length : Int) := of_decide_eq_true (by first | (with_reducible assumption) | assumption)
           obtain ⟨ad270, A270_1, c270_1, A270_3, c270_3, e270, hx270_0, hx270_1, hx270_2, hx270_3, hl270_1, hi270_1, hl270_3, hi270_3⟩ := at_T28 HR0.out x5_1 p270 q270
           obtain rfl : ad264 = ad270 := (by injection e270)
           have HRq14 := aM hi270_1
           have HCq12 := aM hl270_1
           clear hi270_1 hl270_1
           have HRq2 := aM hi270_3
           have HCq13 := aM hl270_3
           clear hi270_3 hl270_3
           replace p270 := eq_true p270
           replace q270 := eq_true q270
           have ea_ := Option.some.inj (hx264_1.symm.trans hx270_1)
           injection ea_ with ea_ en_ ec_
           subst ea_
           subst ec_
           clear en_
           have ea_ := Option.some.inj (hx264_3.symm.trans hx270_3)
           injection ea_ with ea_ en_ ec_
           subst ea_
           subst ec_
           clear en_
           have hcv19 := Kd.C_string (P := Try.prog) (A := A264_3) (c := c264_3) Try.underlying26 Try.underlying5 Try.underlying9 HRq2.out; have hcv19q := fun n_ => Kd.C_string (P := Try.prog) (A := A264_3) (c := c264_3) Try.underlying26 Try.underlying5 Try.underlying9 (Kd.C_drewN HRq2.out n_)
           have p271 : 0 ≤ (x5_1 : Int) := of_decide_eq_true (by first | (with_reducible assumption) | assumption)
           have q271 : x5_1 < (l1.length : Int) := of_decide_eq_true (by first | (with_reducible assumption) | assumption)
           obtain ⟨ad271, A271_1, c271_1, A271_3, c271_3, e271, hx271_0, hx271_1, hx271_2, hx271_3, hl271_1, hi271_1, hl271_3, hi271_3⟩ := at_T28 HR1.out x5_1 p271 q271
           obtain rfl : ad265 = ad271 := (by injection e271)
           have HRq15 := aM hi271_1
           have HCq14 := aM hl271_1
           clear hi271_1 hl271_1
           have HRq3 := aM hi271_3
           have HCq15 := aM hl271_3
           clear hi271_3 hl271_3
           replace p271 := eq_true p271
           replace q271 := eq_true q271
           have ea_ := Option.some.inj (hx265_1.symm.trans hx271_1)
           injection ea_ with ea_ en_ ec_
           subst ea_
           subst ec_
           clear en_
           have ea_ := Option.some.inj (hx265_3.symm.trans hx271_3)
           injection ea_ with ea_ en_ ec_
           subst ea_
           subst ec_
           clear en_
           have hcv20 := Kd.C_string (P := Try.prog) (A := A265_3) (c := c265_3) Try.underlying26 Try.underlying5 Try.underlying9 HRq3.out; have hcv20q := fun n_ => Kd.C_string (P := Try.prog) (A := A265_3) (c := c265_3) Try.underlying26 Try.underlying5 Try.underlying9 (Kd.C_drewN HRq3.out n_)
           go_wp2
           repeat (go_quiet (fail); try go_wp2)
           go_ret
           exact ⟨by first | rfl | (simp; done) | (simp [*]; done), by repeat (first | exact Drawn0.refl _ | apply Drawn0.step)⟩
        ·
         rw [if_neg c8] at H
         have c8b0 : ((strOfNums ((rd_T28 l0 x5_1).f1)).toList == (strOfNums ((rd_T28 l1 x5_1).f1)).toList) = false := beq_eq_false_iff_ne.mpr c8
         have c8b1 : ((strOfNums ((rd_T28 l0 x5_1).f1)).toList != (strOfNums ((rd_T28 l1 x5_1).f1)).toList) = true := bne_iff_ne.mpr c8
         obtain rfl := Option.some.inj H
         have p264 : 0 ≤ (x5_1 : Int) := of_decide_eq_true (by first | (with_reducible assumption) | assumption)
         have q264 : x5_1 < (l0.length : Int) := of_decide_eq_true (by first | (with_reducible assumption) | assumption)
         obtain ⟨ad264, A264_1, c264_1, A264_3, c264_3, e264, hx264_0, hx264_1, hx264_2, hx264_3, hl264_1, hi264_1, hl264_3, hi264_3⟩ := at_T28 HR0.out x5_1 p264 q264
         cases e264
         have HRq4 := aM hi264_1
         have HCq0 := aM hl264_1
         clear hi264_1 hl264_1
         have HRq5 := aM hi264_3
         have HCq1 := aM hl264_3
         clear hi264_3 hl264_3
         replace p264 := eq_true p264
         replace q264 := eq_true q264
         have p265 : 0 ≤ (x5_1 : Int) := of_decide_eq_true (by first | (with_reducible assumption) | assumption)
         have q265 : x5_1 < (l1.length : Int) := of_decide_eq_true (by first | (with_reducible assumption) | assumption)
         obtain ⟨ad265, A265_1, c265_1, A265_3, c265_3, e265, hx265_0, hx265_1, hx265_2, hx265_3, hl265_1, hi265_1, hl265_3, hi265_3⟩ := at_T28 HR1.out x5_1 p265 q265
         cases e265
         have HRq6 := aM hi265_1
         have HCq2 := aM hl265_1
         clear hi265_1 hl265_1
         have HRq7 := aM hi265_3
         have HCq3 := aM hl265_3
         clear hi265_3 hl265_3
         replace p265 := eq_true p265
         replace q265 := eq_true q265
         have p266 : 0 ≤ (x5_1 : Int) := of_decide_eq_true (by first | (with_reducible assumption) | assumption)
         have q266 : x5_1 < (l0.length : Int) := of_decide_eq_true (by first | (with_reducible assumption) | assumption)
         obtain ⟨ad266, A266_1, c266_1, A266_3, c266_3, e266, hx266_0, hx266_1, hx266_2, hx266_3, hl266_1, hi266_1, hl266_3, hi266_3⟩ := at_T28 HR0.out x5_1 p266 q266
         obtain rfl : ad264 = ad266 := (by injection e266)
         have HRq0 := aM hi266_1
         have HCq4 := aM hl266_1
         clear hi266_1 hl266_1
         have HRq8 := aM hi266_3
         have HCq5 := aM hl266_3
         clear hi266_3 hl266_3
         replace p266 := eq_true p266
         replace q266 := eq_true q266
         have ea_ := Option.some.inj (hx264_1.symm.trans hx266_1)
         injection ea_ with ea_ en_ ec_
         subst ea_
         subst ec_
         clear en_
         have ea_ := Option.some.inj (hx264_3.symm.trans hx266_3)
         injection ea_ with ea_ en_ ec_
         subst ea_
         subst ec_
         clear en_
         have hcv21 := Kd.C_string (P := Try.prog) (A := A264_1) (c := c264_1) Try.underlying26 Try.underlying5 Try.underlying9 HRq0.out; have hcv21q := fun n_ => Kd.C_string (P := Try.prog) (A := A264_1) (c := c264_1) Try.underlying26 Try.underlying5 Try.underlying9 (Kd.C_drewN HRq0.out n_)
         have p267 : 0 ≤ (x5_1 : Int) := of_decide_eq_true (by first | (with_reducible assumption) | assumption)
         have q267 : x5_1 < (l1.length : Int) := of_decide_eq_true (by first | (with_reducible assumption) | assumption)
         obtain ⟨ad267, A267_1, c267_1, A267_3, c267_3, e267, hx267_0, hx267_1, hx267_2, hx267_3, hl267_1, hi267_1, hl267_3, hi267_3⟩ := at_T28 HR1.out x5_1 p267 q267
         obtain rfl : ad265 = ad267 := (by injection e267)
         have HRq1 := aM hi267_1
         have HCq6 := aM hl267_1
         clear hi267_1 hl267_1
         have HRq9 := aM hi267_3
         have HCq7 := aM hl267_3
         clear hi267_3 hl267_3
         replace p267 := eq_true p267
         replace q267 := eq_true q267
         have ea_ := Option.some.inj (hx265_1.symm.trans hx267_1)
         injection ea_ with ea_ en_ ec_
         subst ea_
         subst ec_
         clear en_
         have ea_ := Option.some.inj (hx265_3.symm.trans hx267_3)
         injection ea_ with ea_ en_ ec_
         subst ea_
         subst ec_
         clear en_
         have hcv22 := Kd.C_string (P := Try.prog) (A := A265_1) (c := c265_1) Try.underlying26 Try.underlying5 Try.underlying9 HRq1.out; have hcv22q := fun n_ => Kd.C_string (P := Try.prog) (A := A265_1) (c := c265_1) Try.underlying26 Try.underlying5 Try.underlying9 (Kd.C_drewN HRq1.out n_)
         go_wp2
         repeat (go_quiet (fail); try go_wp2)
         go_ret
         exact ⟨by first | rfl | (simp; done) | (simp [*]; done), by repeat (first | exact Drawn0.refl _ | apply Drawn0.step)⟩
       ·
        rw [if_neg c7] at H
        have c7b0 : (((rd_T28 l0 x5_1).f0) == ((rd_T28 l1 x5_1).f0)) = false := beq_eq_false_iff_ne.mpr c7
        have c7b1 : (((rd_T28 l0 x5_1).f0) != ((rd_T28 l1 x5_1).f0)) = true := bne_iff_ne.mpr c7
        obtain rfl := Option.some.inj H
        have p264 : 0 ≤ (x5_1 : Int) := of_decide_eq_true (by first | (with_reducible assumption) | assumption)
        have q264 : x5_1 < (l0.length : Int) := of_decide_eq_true (by first | (with_reducible assumption) | assumption)
        obtain ⟨ad264, A264_1, c264_1, A264_3, c264_3, e264, hx264_0, hx264_1, hx264_2, hx264_3, hl264_1, hi264_1, hl264_3, hi264_3⟩ := at_T28 HR0.out x5_1 p264 q264
        cases e264
        have HRq4 := aM hi264_1
        have HCq0 := aM hl264_1
        clear hi264_1 hl264_1
        have HRq5 := aM hi264_3
        have HCq1 := aM hl264_3
        clear hi264_3 hl264_3
        replace p264 := eq_true p264
        replace q264 := eq_true q264
        have p265 : 0 ≤ (x5_1 : Int) := of_decide_eq_true (by first | (with_reducible assumption) | assumption)
        have q265 : x5_1 < (l1.length : Int) := of_decide_eq_true (by first | (with_reducible assumption) | assumption)
        obtain ⟨ad265, A265_1, c265_1, A265_3, c265_3, e265, hx265_0, hx265_1, hx265_2, hx265_3, hl265_1, hi265_1, hl265_3, hi265_3⟩ := at_T28 HR1.out x5_1 p265 q265
        cases e265
        have HRq6 := aM hi265_1
        have HCq2 := aM hl265_1
        clear hi265_1 hl265_1
        have HRq7 := aM hi265_3
        have HCq3 := aM hl265_3
        clear hi265_3 hl265_3
        replace p265 := eq_true p265
        replace q265 := eq_true q265
        go_wp2
        repeat (go_quiet (fail); try go_wp2)
        go_ret
        exact ⟨by first | rfl | (simp; done) | (simp [*]; done), by repeat (first | exact Drawn0.refl _ | apply Drawn0.step)⟩
      ·
       rw [if_neg c6] at H
       exact absurd H (by simp)
     ·
      rw [if_neg c5] at H
      exact absurd H (by simp)
    ·
     rw [if_neg c4] at H
     have c4b0 : decide (x5_1 < (l0.length : Int)) = false := decide_eq_false c4
     clear c4
     obtain rfl := Option.some.inj H
     go_wp2
     repeat (go_quiet (fail); try go_wp2)
     go_ret
     exact ⟨by first | rfl | (simp; done) | (simp [*]; done), by repeat (first | exact Drawn0.refl _ | apply Drawn0.step)⟩
 ·
  rw [if_neg c3] at H
  have c3b0 : ((l0.length : Int) == (l1.length : Int)) = false := beq_eq_false_iff_ne.mpr c3
  have c3b1 : ((l0.length : Int) != (l1.length : Int)) = true := bne_iff_ne.mpr c3
  have c3b2 : (l0.length == l1.length) = false := by first | simpa using c3 | (simp at c3 ⊢; omega)
  obtain rfl := Option.some.inj H
  go_enter Try.func22, Try.ntmps22
  go_wp2
  repeat (go_quiet (fail); try go_wp2)
  go_ret
  exact ⟨by first | rfl | (simp; done) | (simp [*]; done), by repeat (first | exact Drawn0.refl _ | apply Drawn0.step)⟩
end Go.Proofs.Ytbjeaalbdaedpaa.P
