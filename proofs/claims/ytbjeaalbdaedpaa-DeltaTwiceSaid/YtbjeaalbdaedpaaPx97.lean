import Derived.Test.YtbjeaalbdaedpaaPx0
namespace Go.Proofs.Ytbjeaalbdaedpaa.P
open Go.RowKit Go.Proofs.YtbjeaalbdaedpaaW.PrintWords Go.Proofs.YtbjeaalbdaedpaaW.PrintLast Go.Proofs.YtbjeaalbdaedpaaW.PrintMore
attribute [local go_sem] max2_int min2_int max_two min_two max_three min_three max_four min_four
set_option linter.unusedVariables false
set_option linter.unusedSimpArgs false
def banksmanref07_Pairs.l0 : Nat → List (S53) → List (S53) → Int → Option (Bool)
  | 0, _, _, _ => none
  | k + 1, x0, x1, x5 => if x5 < (x0.length : Int) then (if 0 ≤ x5 then (if x5 < (x1.length : Int) then (if (strOfNums ((rd_T53 x0 x5).f0)).toList = (strOfNums ((rd_T53 x1 x5).f0)).toList then (if (strOfNums ((rd_T53 x0 x5).f1)).toList = (strOfNums ((rd_T53 x1 x5).f1)).toList then (banksmanref07_Pairs.l0 k x0 x1 (wrap64 (x5 + 1))) else (some false)) else (some false)) else (none)) else (none)) else (some true)
def banksmanref07_Pairs.f (k : Nat) (l0 : List (S53)) (l1 : List (S53)) : Option (Bool) := if (l0.length : Int) = (l1.length : Int) then (banksmanref07_Pairs.l0 k l0 l1 0) else (some false)
set_option maxHeartbeats 8000000 in
set_option maxRecDepth 100000 in
theorem banksmanref07_Pairs.calls (k : Nat) (A0 : Option Addr) (c0 : Nat) (l0 : List (S53)) (A1 : Option Addr) (c1 : Nat) (l1 : List (S53)) (r : Bool) (w : World) (hr0 : Kd.C k53 w A0 l0.length l0) (hc0 : l0.length ≤ c0) (hr1 : Kd.C k53 w A1 l1.length l1) (hc1 : l1.length ≤ c1) (h : banksmanref07_Pairs.f k l0 l1 = some r) :
    Calls Try.prog 25 #[.slice A0 l0.length c0, .slice A1 l1.length c1] w fun e w' => e = .returned (.bool r) ∧ Drawn0 w w' := by
  have HR0 := Aside0.mk hr0
  have HC0 := Aside0.mk hc0
  clear hr0 hc0
  have HR1 := Aside0.mk hr1
  have HC1 := Aside0.mk hc1
  clear hr1 hc1
  have H : (if (l0.length : Int) = (l1.length : Int) then (banksmanref07_Pairs.l0 k l0 l1 0) else (some false)) = some r := h
  clear h
  by_cases c3 : (l0.length : Int) = (l1.length : Int)
  · rw [if_pos c3] at H
    have c3b0 : ((l0.length : Int) == (l1.length : Int)) = true := beq_iff_eq.mpr c3
    have c3b1 : ((l0.length : Int) != (l1.length : Int)) = false := bne_eq_false_iff_eq.mpr c3
    have c3b2 : (l0.length == l1.length) = true := by first | simpa using c3 | (simp at c3 ⊢; omega)
    clear c3
    have H' := Aside0.mk H
    clear H
    go_enter Try.func25, Try.ntmps25
    go_wp2
    repeat (go_quiet (fail); try go_wp2)
    go_loopg [5] k (fun kq v5 w' => ∃ (x5_1 : Int), v5 = .int .i64 x5_1 ∧ Aside0 (banksmanref07_Pairs.l0 kq l0 l1 x5_1 = some r) ∧ Aside0 (kq ≤ k) ∧ Drawn0 w w')
    case atStart => exact ⟨(0), (by first | rfl | (simp; done) | (simp [*]; done)), H', ⟨Nat.le_refl _⟩, by repeat (first | exact Drawn0.refl _ | apply Drawn0.step)⟩
    case round =>
      clear H'
      try clear c1
      try clear c2
      try clear p2
      try clear c3
      try clear c3b0
      try clear c3b1
      try clear c3b2
      obtain ⟨x5_1, rfl, HA, HK1, ⟨m1, rfl⟩⟩ := hrel
      cases gk with
      | zero => exact absurd HA.out (by simp [banksmanref07_Pairs.l0])
      | succ k1 =>
        have H := HA.out
        clear HA
        simp only [banksmanref07_Pairs.l0] at H
        by_cases c4 : x5_1 < (l0.length : Int)
        · rw [if_pos c4] at H
          have c4b0 : decide (x5_1 < (l0.length : Int)) = true := decide_eq_true c4
          clear c4
          by_cases c5 : 0 ≤ x5_1
          · rw [if_pos c5] at H
            have c5b0 : decide (0 ≤ x5_1) = true := decide_eq_true c5
            clear c5
            by_cases c6 : x5_1 < (l1.length : Int)
            · rw [if_pos c6] at H
              have c6b0 : decide (x5_1 < (l1.length : Int)) = true := decide_eq_true c6
              clear c6
              by_cases c7 : (strOfNums ((rd_T53 l0 x5_1).f0)).toList = (strOfNums ((rd_T53 l1 x5_1).f0)).toList
              · rw [if_pos c7] at H
                have c7b0 : ((strOfNums ((rd_T53 l0 x5_1).f0)).toList == (strOfNums ((rd_T53 l1 x5_1).f0)).toList) = true := beq_iff_eq.mpr c7
                have c7b1 : ((strOfNums ((rd_T53 l0 x5_1).f0)).toList != (strOfNums ((rd_T53 l1 x5_1).f0)).toList) = false := bne_eq_false_iff_eq.mpr c7
                clear c7
                by_cases c8 : (strOfNums ((rd_T53 l0 x5_1).f1)).toList = (strOfNums ((rd_T53 l1 x5_1).f1)).toList
                · rw [if_pos c8] at H
                  have c8b0 : ((strOfNums ((rd_T53 l0 x5_1).f1)).toList == (strOfNums ((rd_T53 l1 x5_1).f1)).toList) = true := beq_iff_eq.mpr c8
                  have c8b1 : ((strOfNums ((rd_T53 l0 x5_1).f1)).toList != (strOfNums ((rd_T53 l1 x5_1).f1)).toList) = false := bne_eq_false_iff_eq.mpr c8
                  clear c8
                  have H' := Aside0.mk H
                  clear H
                  have p376 : 0 ≤ (x5_1 : Int) := of_decide_eq_true (by first | (with_reducible assumption) | assumption)
                  have q376 : x5_1 < (l0.length : Int) := of_decide_eq_true (by first | (with_reducible assumption) | assumption)
                  obtain ⟨ad376, A376_0, c376_0, A376_1, c376_1, e376, hx376_0, hx376_1, hl376_0, hi376_0, hl376_1, hi376_1⟩ := at_T53 HR0.out x5_1 p376 q376
                  cases e376
                  have HR376_0 := Aside0.mk hi376_0
                  have HC376_0 := Aside0.mk hl376_0
                  clear hi376_0 hl376_0
                  have HR376_1 := Aside0.mk hi376_1
                  have HC376_1 := Aside0.mk hl376_1
                  clear hi376_1 hl376_1
                  replace p376 := eq_true p376
                  replace q376 := eq_true q376
                  have hcv9 := Kd.C_string (P := Try.prog) (A := A376_0) (c := c376_0) Try.underlying26 Try.underlying5 Try.underlying9 HR376_0.out; have hcv9q := fun n_ => Kd.C_string (P := Try.prog) (A := A376_0) (c := c376_0) Try.underlying26 Try.underlying5 Try.underlying9 (Kd.C_drewN HR376_0.out n_)
                  have p377 : 0 ≤ (x5_1 : Int) := of_decide_eq_true (by first | (with_reducible assumption) | assumption)
                  have q377 : x5_1 < (l1.length : Int) := of_decide_eq_true (by first | (with_reducible assumption) | assumption)
                  obtain ⟨ad377, A377_0, c377_0, A377_1, c377_1, e377, hx377_0, hx377_1, hl377_0, hi377_0, hl377_1, hi377_1⟩ := at_T53 HR1.out x5_1 p377 q377
                  cases e377
                  have HR377_0 := Aside0.mk hi377_0
                  have HC377_0 := Aside0.mk hl377_0
                  clear hi377_0 hl377_0
                  have HR377_1 := Aside0.mk hi377_1
                  have HC377_1 := Aside0.mk hl377_1
                  clear hi377_1 hl377_1
                  replace p377 := eq_true p377
                  replace q377 := eq_true q377
                  have hcv10 := Kd.C_string (P := Try.prog) (A := A377_0) (c := c377_0) Try.underlying26 Try.underlying5 Try.underlying9 HR377_0.out; have hcv10q := fun n_ => Kd.C_string (P := Try.prog) (A := A377_0) (c := c377_0) Try.underlying26 Try.underlying5 Try.underlying9 (Kd.C_drewN HR377_0.out n_)
                  have p378 : 0 ≤ (x5_1 : Int) := of_decide_eq_true (by first | (with_reducible assumption) | assumption)
                  have q378 : x5_1 < (l0.length : Int) := of_decide_eq_true (by first | (with_reducible assumption) | assumption)
                  obtain ⟨ad378, A378_0, c378_0, A378_1, c378_1, e378, hx378_0, hx378_1, hl378_0, hi378_0, hl378_1, hi378_1⟩ := at_T53 HR0.out x5_1 p378 q378
                  obtain rfl : ad376 = ad378 := (by injection e378)
                  have HR378_0 := Aside0.mk hi378_0
                  have HC378_0 := Aside0.mk hl378_0
                  clear hi378_0 hl378_0
                  have HR378_1 := Aside0.mk hi378_1
                  have HC378_1 := Aside0.mk hl378_1
                  clear hi378_1 hl378_1
                  replace p378 := eq_true p378
                  replace q378 := eq_true q378
                  have ea_ := Option.some.inj (hx376_0.symm.trans hx378_0)
                  injection ea_ with ea_ en_ ec_
                  subst ea_
                  subst ec_
                  clear en_
                  have ea_ := Option.some.inj (hx376_1.symm.trans hx378_1)
                  injection ea_ with ea_ en_ ec_
                  subst ea_
                  subst ec_
                  clear en_
                  have hcv11 := Kd.C_string (P := Try.prog) (A := A376_1) (c := c376_1) Try.underlying26 Try.underlying5 Try.underlying9 HR378_1.out; have hcv11q := fun n_ => Kd.C_string (P := Try.prog) (A := A376_1) (c := c376_1) Try.underlying26 Try.underlying5 Try.underlying9 (Kd.C_drewN HR378_1.out n_)
                  have p379 : 0 ≤ (x5_1 : Int) := of_decide_eq_true (by first | (with_reducible assumption) | assumption)
                  have q379 : x5_1 < (l1.length : Int) := of_decide_eq_true (by first | (with_reducible assumption) | assumption)
                  obtain ⟨ad379, A379_0, c379_0, A379_1, c379_1, e379, hx379_0, hx379_1, hl379_0, hi379_0, hl379_1, hi379_1⟩ := at_T53 HR1.out x5_1 p379 q379
                  obtain rfl : ad377 = ad379 := (by injection e379)
                  have HR379_0 := Aside0.mk hi379_0
                  have HC379_0 := Aside0.mk hl379_0
                  clear hi379_0 hl379_0
                  have HR379_1 := Aside0.mk hi379_1
                  have HC379_1 := Aside0.mk hl379_1
                  clear hi379_1 hl379_1
                  replace p379 := eq_true p379
                  replace q379 := eq_true q379
                  have ea_ := Option.some.inj (hx377_0.symm.trans hx379_0)
                  injection ea_ with ea_ en_ ec_
                  subst ea_
                  subst ec_
                  clear en_
                  have ea_ := Option.some.inj (hx377_1.symm.trans hx379_1)
                  injection ea_ with ea_ en_ ec_
                  subst ea_
                  subst ec_
                  clear en_
                  have hcv12 := Kd.C_string (P := Try.prog) (A := A377_1) (c := c377_1) Try.underlying26 Try.underlying5 Try.underlying9 HR379_1.out; have hcv12q := fun n_ => Kd.C_string (P := Try.prog) (A := A377_1) (c := c377_1) Try.underlying26 Try.underlying5 Try.underlying9 (Kd.C_drewN HR379_1.out n_)
                  go_wp2
                  repeat (go_quiet (fail); try go_wp2)
                  go_roundg k1
                  case measure => have := HK1.out; omega
                  case rel => exact ⟨(wrap64 (x5_1 + 1)), (by first | rfl | (simp; done) | (simp [*]; done)), H', ⟨by have := HK1.out; omega⟩, by repeat (first | exact Drawn0.refl _ | apply Drawn0.step)⟩
                · rw [if_neg c8] at H
                  have c8b0 : ((strOfNums ((rd_T53 l0 x5_1).f1)).toList == (strOfNums ((rd_T53 l1 x5_1).f1)).toList) = false := beq_eq_false_iff_ne.mpr c8
                  have c8b1 : ((strOfNums ((rd_T53 l0 x5_1).f1)).toList != (strOfNums ((rd_T53 l1 x5_1).f1)).toList) = true := bne_iff_ne.mpr c8
                  obtain rfl := Option.some.inj H
                  have p376 : 0 ≤ (x5_1 : Int) := of_decide_eq_true (by first | (with_reducible assumption) | assumption)
                  have q376 : x5_1 < (l0.length : Int) := of_decide_eq_true (by first | (with_reducible assumption) | assumption)
                  obtain ⟨ad376, A376_0, c376_0, A376_1, c376_1, e376, hx376_0, hx376_1, hl376_0, hi376_0, hl376_1, hi376_1⟩ := at_T53 HR0.out x5_1 p376 q376
                  cases e376
                  have HR376_0 := Aside0.mk hi376_0
                  have HC376_0 := Aside0.mk hl376_0
                  clear hi376_0 hl376_0
                  have HR376_1 := Aside0.mk hi376_1
                  have HC376_1 := Aside0.mk hl376_1
                  clear hi376_1 hl376_1
                  replace p376 := eq_true p376
                  replace q376 := eq_true q376
                  have hcv13 := Kd.C_string (P := Try.prog) (A := A376_0) (c := c376_0) Try.underlying26 Try.underlying5 Try.underlying9 HR376_0.out; have hcv13q := fun n_ => Kd.C_string (P := Try.prog) (A := A376_0) (c := c376_0) Try.underlying26 Try.underlying5 Try.underlying9 (Kd.C_drewN HR376_0.out n_)
                  have p377 : 0 ≤ (x5_1 : Int) := of_decide_eq_true (by first | (with_reducible assumption) | assumption)
                  have q377 : x5_1 < (l1.length : Int) := of_decide_eq_true (by first | (with_reducible assumption) | assumption)
                  obtain ⟨ad377, A377_0, c377_0, A377_1, c377_1, e377, hx377_0, hx377_1, hl377_0, hi377_0, hl377_1, hi377_1⟩ := at_T53 HR1.out x5_1 p377 q377
                  cases e377
                  have HR377_0 := Aside0.mk hi377_0
                  have HC377_0 := Aside0.mk hl377_0
                  clear hi377_0 hl377_0
                  have HR377_1 := Aside0.mk hi377_1
                  have HC377_1 := Aside0.mk hl377_1
                  clear hi377_1 hl377_1
                  replace p377 := eq_true p377
                  replace q377 := eq_true q377
                  have hcv14 := Kd.C_string (P := Try.prog) (A := A377_0) (c := c377_0) Try.underlying26 Try.underlying5 Try.underlying9 HR377_0.out; have hcv14q := fun n_ => Kd.C_string (P := Try.prog) (A := A377_0) (c := c377_0) Try.underlying26 Try.underlying5 Try.underlying9 (Kd.C_drewN HR377_0.out n_)
                  have p378 : 0 ≤ (x5_1 : Int) := of_decide_eq_true (by first | (with_reducible assumption) | assumption)
                  have q378 : x5_1 < (l0.length : Int) := of_decide_eq_true (by first | (with_reducible assumption) | assumption)
                  obtain ⟨ad378, A378_0, c378_0, A378_1, c378_1, e378, hx378_0, hx378_1, hl378_0, hi378_0, hl378_1, hi378_1⟩ := at_T53 HR0.out x5_1 p378 q378
                  obtain rfl : ad376 = ad378 := (by injection e378)
                  have HR378_0 := Aside0.mk hi378_0
                  have HC378_0 := Aside0.mk hl378_0
                  clear hi378_0 hl378_0
                  have HR378_1 := Aside0.mk hi378_1
                  have HC378_1 := Aside0.mk hl378_1
                  clear hi378_1 hl378_1
                  replace p378 := eq_true p378
                  replace q378 := eq_true q378
                  have ea_ := Option.some.inj (hx376_0.symm.trans hx378_0)
                  injection ea_ with ea_ en_ ec_
                  subst ea_
                  subst ec_
                  clear en_
                  have ea_ := Option.some.inj (hx376_1.symm.trans hx378_1)
                  injection ea_ with ea_ en_ ec_
                  subst ea_
                  subst ec_
                  clear en_
                  have hcv15 := Kd.C_string (P := Try.prog) (A := A376_1) (c := c376_1) Try.underlying26 Try.underlying5 Try.underlying9 HR378_1.out; have hcv15q := fun n_ => Kd.C_string (P := Try.prog) (A := A376_1) (c := c376_1) Try.underlying26 Try.underlying5 Try.underlying9 (Kd.C_drewN HR378_1.out n_)
                  have p379 : 0 ≤ (x5_1 : Int) := of_decide_eq_true (by first | (with_reducible assumption) | assumption)
                  have q379 : x5_1 < (l1.length : Int) := of_decide_eq_true (by first | (with_reducible assumption) | assumption)
                  obtain ⟨ad379, A379_0, c379_0, A379_1, c379_1, e379, hx379_0, hx379_1, hl379_0, hi379_0, hl379_1, hi379_1⟩ := at_T53 HR1.out x5_1 p379 q379
                  obtain rfl : ad377 = ad379 := (by injection e379)
                  have HR379_0 := Aside0.mk hi379_0
                  have HC379_0 := Aside0.mk hl379_0
                  clear hi379_0 hl379_0
                  have HR379_1 := Aside0.mk hi379_1
                  have HC379_1 := Aside0.mk hl379_1
                  clear hi379_1 hl379_1
                  replace p379 := eq_true p379
                  replace q379 := eq_true q379
                  have ea_ := Option.some.inj (hx377_0.symm.trans hx379_0)
                  injection ea_ with ea_ en_ ec_
                  subst ea_
                  subst ec_
                  clear en_
                  have ea_ := Option.some.inj (hx377_1.symm.trans hx379_1)
                  injection ea_ with ea_ en_ ec_
                  subst ea_
                  subst ec_
                  clear en_
                  have hcv16 := Kd.C_string (P := Try.prog) (A := A377_1) (c := c377_1) Try.underlying26 Try.underlying5 Try.underlying9 HR379_1.out; have hcv16q := fun n_ => Kd.C_string (P := Try.prog) (A := A377_1) (c := c377_1) Try.underlying26 Try.underlying5 Try.underlying9 (Kd.C_drewN HR379_1.out n_)
                  go_wp2
                  repeat (go_quiet (fail); try go_wp2)
                  go_ret
                  exact ⟨by first | rfl | (simp; done) | (simp [*]; done), by repeat (first | exact Drawn0.refl _ | apply Drawn0.step)⟩
              · rw [if_neg c7] at H
                have c7b0 : ((strOfNums ((rd_T53 l0 x5_1).f0)).toList == (strOfNums ((rd_T53 l1 x5_1).f0)).toList) = false := beq_eq_false_iff_ne.mpr c7
                have c7b1 : ((strOfNums ((rd_T53 l0 x5_1).f0)).toList != (strOfNums ((rd_T53 l1 x5_1).f0)).toList) = true := bne_iff_ne.mpr c7
                obtain rfl := Option.some.inj H
                have p376 : 0 ≤ (x5_1 : Int) := of_decide_eq_true (by first | (with_reducible assumption) | assumption)
                have q376 : x5_1 < (l0.length : Int) := of_decide_eq_true (by first | (with_reducible assumption) | assumption)
                obtain ⟨ad376, A376_0, c376_0, A376_1, c376_1, e376, hx376_0, hx376_1, hl376_0, hi376_0, hl376_1, hi376_1⟩ := at_T53 HR0.out x5_1 p376 q376
                cases e376
                have HR376_0 := Aside0.mk hi376_0
                have HC376_0 := Aside0.mk hl376_0
                clear hi376_0 hl376_0
                have HR376_1 := Aside0.mk hi376_1
                have HC376_1 := Aside0.mk hl376_1
                clear hi376_1 hl376_1
                replace p376 := eq_true p376
                replace q376 := eq_true q376
                have hcv17 := Kd.C_string (P := Try.prog) (A := A376_0) (c := c376_0) Try.underlying26 Try.underlying5 Try.underlying9 HR376_0.out; have hcv17q := fun n_ => Kd.C_string (P := Try.prog) (A := A376_0) (c := c376_0) Try.underlying26 Try.underlying5 Try.underlying9 (Kd.C_drewN HR376_0.out n_)
                have p377 : 0 ≤ (x5_1 : Int) := of_decide_eq_true (by first | (with_reducible assumption) | assumption)
                have q377 : x5_1 < (l1.length : Int) := of_decide_eq_true (by first | (with_reducible assumption) | assumption)
                obtain ⟨ad377, A377_0, c377_0, A377_1, c377_1, e377, hx377_0, hx377_1, hl377_0, hi377_0, hl377_1, hi377_1⟩ := at_T53 HR1.out x5_1 p377 q377
                cases e377
                have HR377_0 := Aside0.mk hi377_0
                have HC377_0 := Aside0.mk hl377_0
                clear hi377_0 hl377_0
                have HR377_1 := Aside0.mk hi377_1
                have HC377_1 := Aside0.mk hl377_1
                clear hi377_1 hl377_1
                replace p377 := eq_true p377
                replace q377 := eq_true q377
                have hcv18 := Kd.C_string (P := Try.prog) (A := A377_0) (c := c377_0) Try.underlying26 Try.underlying5 Try.underlying9 HR377_0.out; have hcv18q := fun n_ => Kd.C_string (P := Try.prog) (A := A377_0) (c := c377_0) Try.underlying26 Try.underlying5 Try.underlying9 (Kd.C_drewN HR377_0.out n_)
                go_wp2
                repeat (go_quiet (fail); try go_wp2)
                go_ret
                exact ⟨by first | rfl | (simp; done) | (simp [*]; done), by repeat (first | exact Drawn0.refl _ | apply Drawn0.step)⟩
            · rw [if_neg c6] at H
              exact absurd H (by simp)
          · rw [if_neg c5] at H
            exact absurd H (by simp)
        · rw [if_neg c4] at H
          have c4b0 : decide (x5_1 < (l0.length : Int)) = false := decide_eq_false c4
          clear c4
          obtain rfl := Option.some.inj H
          go_wp2
          repeat (go_quiet (fail); try go_wp2)
          go_ret
          exact ⟨by first | rfl | (simp; done) | (simp [*]; done), by repeat (first | exact Drawn0.refl _ | apply Drawn0.step)⟩
  · rw [if_neg c3] at H
    have c3b0 : ((l0.length : Int) == (l1.length : Int)) = false := beq_eq_false_iff_ne.mpr c3
    have c3b1 : ((l0.length : Int) != (l1.length : Int)) = true := bne_iff_ne.mpr c3
    have c3b2 : (l0.length == l1.length) = false := by first | simpa using c3 | (simp at c3 ⊢; omega)
    obtain rfl := Option.some.inj H
    go_enter Try.func25, Try.ntmps25
    go_wp2
    repeat (go_quiet (fail); try go_wp2)
    go_ret
    exact ⟨by first | rfl | (simp; done) | (simp [*]; done), by repeat (first | exact Drawn0.refl _ | apply Drawn0.step)⟩
end Go.Proofs.Ytbjeaalbdaedpaa.P
