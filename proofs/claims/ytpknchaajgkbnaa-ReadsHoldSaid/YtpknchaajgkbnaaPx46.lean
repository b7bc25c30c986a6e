-- Written by wip/gprint.py, a program of this session over the kit's print; Lean checks it.
import Derived.Test.YtpknchaajgkbnaaPx0
namespace Go.Proofs.Ytpknchaajgkbnaa.P
open Go.RowKit Go.Proofs.YtpknchaajgkbnaaW.PrintWords Go.Proofs.YtpknchaajgkbnaaW.PrintLast Go.Proofs.YtpknchaajgkbnaaW.PrintMore
attribute [local go_sem] max2_int min2_int max_two min_two max_three min_three max_four min_four   -- for this text's walks alone
set_option linter.unusedVariables false
set_option linter.unusedSimpArgs false

/-! ### banksmanref08_Writes: function 22 -/
def banksmanref08_Writes.l0 : Nat → List (S46) → List (S46) → Int → Option (Bool)
  | 0, _, _, _ => none
  | k + 1, x0, x1, x5 => if x5 < (x0.length : Int) then (if 0 ≤ x5 then (if x5 < (x1.length : Int) then (if ((rd_T46 x0 x5).f0) = ((rd_T46 x1 x5).f0) then (if (strOfNums ((rd_T46 x0 x5).f1)).toList = (strOfNums ((rd_T46 x1 x5).f1)).toList then (if (((rd_T46 x0 x5).f2) != ((rd_T46 x1 x5).f2)) = true then (some false) else (if (strOfNums ((rd_T46 x0 x5).f3)).toList = (strOfNums ((rd_T46 x1 x5).f3)).toList then (banksmanref08_Writes.l0 k x0 x1 (wrap64 (x5 + 1))) else (some false))) else (some false)) else (some false)) else (none)) else (none)) else (some true)
def banksmanref08_Writes.f (k : Nat) (l0 : List (S46)) (l1 : List (S46)) : Option (Bool) := if (l0.length : Int) = (l1.length : Int) then (banksmanref08_Writes.l0 k l0 l1 0) else (some false)
set_option maxHeartbeats 8000000 in
set_option maxRecDepth 100000 in
theorem banksmanref08_Writes.calls (k : Nat) (A0 : Option Addr) (c0 : Nat) (l0 : List (S46)) (A1 : Option Addr) (c1 : Nat) (l1 : List (S46)) (r : Bool) (w : World) (hr0 : Kd.C k46 w A0 l0.length l0) (hc0 : l0.length ≤ c0) (hr1 : Kd.C k46 w A1 l1.length l1) (hc1 : l1.length ≤ c1) (h : banksmanref08_Writes.f k l0 l1 = some r) :
    Calls Try.prog 22 #[.slice A0 l0.length c0, .slice A1 l1.length c1] w fun e w' => e = .returned (.bool r) ∧ Drawn0 w w' := by
  have HR0 := Aside0.mk hr0
  have HC0 := Aside0.mk hc0
  clear hr0 hc0
  have HR1 := Aside0.mk hr1
  have HC1 := Aside0.mk hc1
  clear hr1 hc1
  have H : (if (l0.length : Int) = (l1.length : Int) then (banksmanref08_Writes.l0 k l0 l1 0) else (some false)) = some r := h
  clear h
  by_cases c3 : (l0.length : Int) = (l1.length : Int)
  · rw [if_pos c3] at H
    have c3b0 : ((l0.length : Int) == (l1.length : Int)) = true := beq_iff_eq.mpr c3
    have c3b1 : ((l0.length : Int) != (l1.length : Int)) = false := bne_eq_false_iff_eq.mpr c3
    have c3b2 : (l0.length == l1.length) = true := by first | simpa using c3 | (simp at c3 ⊢; omega)
    clear c3
    have H' := Aside0.mk H
    clear H
    go_enter Try.func22, Try.ntmps22
    go_wp2
    repeat (go_quiet (fail); try go_wp2)
    go_loopg [5] k (fun kq v5 w' => ∃ (x5_1 : Int), v5 = .int .i64 x5_1 ∧ Aside0 (banksmanref08_Writes.l0 kq l0 l1 x5_1 = some r) ∧ Aside0 (kq ≤ k) ∧ Drawn0 w w')
    case atStart => exact ⟨(0), (by first | rfl | (simp; done) | (simp [*]; done)), H', ⟨Nat.le_refl _⟩, by repeat (first | exact Drawn0.refl _ | apply Drawn0.step)⟩
    case round =>
      clear H'
      try clear c1
      try clear c2
      try clear p2
      try clear c3
      try clear c3b0
      try clear c3b1
      try clear c3b2
      obtain ⟨x5_1, rfl, HA, HK1, ⟨m1, rfl⟩⟩ := hrel
      cases gk with
      | zero => exact absurd HA.out (by simp [banksmanref08_Writes.l0])
      | succ k1 =>
        have H := HA.out
        clear HA
        simp only [banksmanref08_Writes.l0] at H
        by_cases c4 : x5_1 < (l0.length : Int)
        · rw [if_pos c4] at H
          have c4b0 : decide (x5_1 < (l0.length : Int)) = true := decide_eq_true c4
          clear c4
          by_cases c5 : 0 ≤ x5_1
          · rw [if_pos c5] at H
            have c5b0 : decide (0 ≤ x5_1) = true := decide_eq_true c5
            clear c5
            by_cases c6 : x5_1 < (l1.length : Int)
            · rw [if_pos c6] at H
              have c6b0 : decide (x5_1 < (l1.length : Int)) = true := decide_eq_true c6
              clear c6
              by_cases c7 : ((rd_T46 l0 x5_1).f0) = ((rd_T46 l1 x5_1).f0)
              · rw [if_pos c7] at H
                have c7b0 : (((rd_T46 l0 x5_1).f0) == ((rd_T46 l1 x5_1).f0)) = true := beq_iff_eq.mpr c7
                have c7b1 : (((rd_T46 l0 x5_1).f0) != ((rd_T46 l1 x5_1).f0)) = false := bne_eq_false_iff_eq.mpr c7
                clear c7
                by_cases c8 : (strOfNums ((rd_T46 l0 x5_1).f1)).toList = (strOfNums ((rd_T46 l1 x5_1).f1)).toList
                · rw [if_pos c8] at H
                  have c8b0 : ((strOfNums ((rd_T46 l0 x5_1).f1)).toList == (strOfNums ((rd_T46 l1 x5_1).f1)).toList) = true := beq_iff_eq.mpr c8
                  have c8b1 : ((strOfNums ((rd_T46 l0 x5_1).f1)).toList != (strOfNums ((rd_T46 l1 x5_1).f1)).toList) = false := bne_eq_false_iff_eq.mpr c8
                  clear c8
                  by_cases c9 : (((rd_T46 l0 x5_1).f2) != ((rd_T46 l1 x5_1).f2)) = true
                  · rw [if_pos c9] at H
                    have c9b0 : (((rd_T46 l0 x5_1).f2) != ((rd_T46 l1 x5_1).f2)) = true := c9
                    (try (have c9b1 : decide (((rd_T46 l0 x5_1).f2) = ((rd_T46 l1 x5_1).f2)) = false := by simpa using c9))
                    (try (have c9b2 : (((rd_T46 l0 x5_1).f2) == ((rd_T46 l1 x5_1).f2)) = false := by simpa using c9))
                    (try (have c9b3 : ¬ (((rd_T46 l0 x5_1).f2) = ((rd_T46 l1 x5_1).f2)) := by simpa using c9))
                    clear c9
                    obtain rfl := Option.some.inj H
                    have p118 : 0 ≤ (x5_1 : Int) := of_decide_eq_true (by first | (with_reducible assumption) | assumption)
                    have q118 : x5_1 < (l0.length : Int) := of_decide_eq_true (by first | (with_reducible assumption) | assumption)
                    obtain ⟨ad118, A118_1, c118_1, A118_3, c118_3, e118, hx118_0, hx118_1, hx118_2, hx118_3, hl118_1, hi118_1, hl118_3, hi118_3⟩ := at_T46 HR0.out x5_1 p118 q118
                    cases e118
                    have HR118_1 := Aside0.mk hi118_1
                    have HC118_1 := Aside0.mk hl118_1
                    clear hi118_1 hl118_1
                    have HR118_3 := Aside0.mk hi118_3
                    have HC118_3 := Aside0.mk hl118_3
                    clear hi118_3 hl118_3
                    replace p118 := eq_true p118
                    replace q118 := eq_true q118
                    have p119 : 0 ≤ (x5_1 : Int) := of_decide_eq_true (by first | (with_reducible assumption) | assumption)
                    have q119 : x5_1 < (l1.length : Int) := of_decide_eq_true (by first | (with_reducible assumption) | assumption)
                    obtain ⟨ad119, A119_1, c119_1, A119_3, c119_3, e119, hx119_0, hx119_1, hx119_2, hx119_3, hl119_1, hi119_1, hl119_3, hi119_3⟩ := at_T46 HR1.out x5_1 p119 q119
                    cases e119
                    have HR119_1 := Aside0.mk hi119_1
                    have HC119_1 := Aside0.mk hl119_1
                    clear hi119_1 hl119_1
                    have HR119_3 := Aside0.mk hi119_3
                    have HC119_3 := Aside0.mk hl119_3
                    clear hi119_3 hl119_3
                    replace p119 := eq_true p119
                    replace q119 := eq_true q119
                    have p120 : 0 ≤ (x5_1 : Int) := of_decide_eq_true (by first | (with_reducible assumption) | assumption)
                    have q120 : x5_1 < (l0.length : Int) := of_decide_eq_true (by first | (with_reducible assumption) | assumption)
                    obtain ⟨ad120, A120_1, c120_1, A120_3, c120_3, e120, hx120_0, hx120_1, hx120_2, hx120_3, hl120_1, hi120_1, hl120_3, hi120_3⟩ := at_T46 HR0.out x5_1 p120 q120
                    obtain rfl : ad118 = ad120 := (by injection e120)
                    have HR120_1 := Aside0.mk hi120_1
                    have HC120_1 := Aside0.mk hl120_1
                    clear hi120_1 hl120_1
                    have HR120_3 := Aside0.mk hi120_3
                    have HC120_3 := Aside0.mk hl120_3
                    clear hi120_3 hl120_3
                    replace p120 := eq_true p120
                    replace q120 := eq_true q120
                    have ea_ := Option.some.inj (hx118_1.symm.trans hx120_1)
                    injection ea_ with ea_ en_ ec_
                    subst ea_
                    subst ec_
                    clear en_
                    have ea_ := Option.some.inj (hx118_3.symm.trans hx120_3)
                    injection ea_ with ea_ en_ ec_
                    subst ea_
                    subst ec_
                    clear en_
                    have hcv10 := Kd.C_string (P := Try.prog) (A := A118_1) (c := c118_1) Try.underlying36 Try.underlying5 Try.underlying9 HR120_1.out; have hcv10q := fun n_ => Kd.C_string (P := Try.prog) (A := A118_1) (c := c118_1) Try.underlying36 Try.underlying5 Try.underlying9 (Kd.C_drewN HR120_1.out n_)
                    have p121 : 0 ≤ (x5_1 : Int) := of_decide_eq_true (by first | (with_reducible assumption) | assumption)
                    have q121 : x5_1 < (l1.length : Int) := of_decide_eq_true (by first | (with_reducible assumption) | assumption)
                    obtain ⟨ad121, A121_1, c121_1, A121_3, c121_3, e121, hx121_0, hx121_1, hx121_2, hx121_3, hl121_1, hi121_1, hl121_3, hi121_3⟩ := at_T46 HR1.out x5_1 p121 q121
                    obtain rfl : ad119 = ad121 := (by injection e121)
                    have HR121_1 := Aside0.mk hi121_1
                    have HC121_1 := Aside0.mk hl121_1
                    clear hi121_1 hl121_1
                    have HR121_3 := Aside0.mk hi121_3
                    have HC121_3 := Aside0.mk hl121_3
                    clear hi121_3 hl121_3
                    replace p121 := eq_true p121
                    replace q121 := eq_true q121
                    have ea_ := Option.some.inj (hx119_1.symm.trans hx121_1)
                    injection ea_ with ea_ en_ ec_
                    subst ea_
                    subst ec_
                    clear en_
                    have ea_ := Option.some.inj (hx119_3.symm.trans hx121_3)
                    injection ea_ with ea_ en_ ec_
                    subst ea_
                    subst ec_
                    clear en_
                    have hcv11 := Kd.C_string (P := Try.prog) (A := A119_1) (c := c119_1) Try.underlying36 Try.underlying5 Try.underlying9 HR121_1.out; have hcv11q := fun n_ => Kd.C_string (P := Try.prog) (A := A119_1) (c := c119_1) Try.underlying36 Try.underlying5 Try.underlying9 (Kd.C_drewN HR121_1.out n_)
                    have p122 : 0 ≤ (x5_1 : Int) := of_decide_eq_true (by first | (with_reducible assumption) | assumption)
                    have q122 : x5_1 < (l0.length : Int) := of_decide_eq_true (by first | (with_reducible assumption) | assumption)
                    obtain ⟨ad122, A122_1, c122_1, A122_3, c122_3, e122, hx122_0, hx122_1, hx122_2, hx122_3, hl122_1, hi122_1, hl122_3, hi122_3⟩ := at_T46 HR0.out x5_1 p122 q122
                    obtain rfl : ad118 = ad122 := (by injection e122)
                    have HR122_1 := Aside0.mk hi122_1
                    have HC122_1 := Aside0.mk hl122_1
                    clear hi122_1 hl122_1
                    have HR122_3 := Aside0.mk hi122_3
                    have HC122_3 := Aside0.mk hl122_3
                    clear hi122_3 hl122_3
                    replace p122 := eq_true p122
                    replace q122 := eq_true q122
                    have ea_ := Option.some.inj (hx118_1.symm.trans hx122_1)
                    injection ea_ with ea_ en_ ec_
                    subst ea_
                    subst ec_
                    clear en_
                    have ea_ := Option.some.inj (hx118_3.symm.trans hx122_3)
                    injection ea_ with ea_ en_ ec_
                    subst ea_
                    subst ec_
                    clear en_
                    have p123 : 0 ≤ (x5_1 : Int) := of_decide_eq_true (by first | (with_reducible assumption) | assumption)
                    have q123 : x5_1 < (l1.length : Int) := of_decide_eq_true (by first | (with_reducible assumption) | assumption)
                    obtain ⟨ad123, A123_1, c123_1, A123_3, c123_3, e123, hx123_0, hx123_1, hx123_2, hx123_3, hl123_1, hi123_1, hl123_3, hi123_3⟩ := at_T46 HR1.out x5_1 p123 q123
                    obtain rfl : ad119 = ad123 := (by injection e123)
                    have HR123_1 := Aside0.mk hi123_1
                    have HC123_1 := Aside0.mk hl123_1
                    clear hi123_1 hl123_1
                    have HR123_3 := Aside0.mk hi123_3
                    have HC123_3 := Aside0.mk hl123_3
                    clear hi123_3 hl123_3
                    replace p123 := eq_true p123
                    replace q123 := eq_true q123
                    have ea_ := Option.some.inj (hx119_1.symm.trans hx123_1)
                    injection ea_ with ea_ en_ ec_
                    subst ea_
                    subst ec_
                    clear en_
                    have ea_ := Option.some.inj (hx119_3.symm.trans hx123_3)
                    injection ea_ with ea_ en_ ec_
                    subst ea_
                    subst ec_
                    clear en_
                    go_wp2
                    repeat (go_quiet (fail); try go_wp2)
                    go_ret
                    exact ⟨by first | rfl | (simp; done) | (simp [*]; done), by repeat (first | exact Drawn0.refl _ | apply Drawn0.step)⟩
                  · rw [if_neg c9] at H
                    have c9b0 : (((rd_T46 l0 x5_1).f2) != ((rd_T46 l1 x5_1).f2)) = false := by simpa using c9
                    (try (have c9b1 : decide (((rd_T46 l0 x5_1).f2) = ((rd_T46 l1 x5_1).f2)) = true := by simpa using c9))
                    (try (have c9b2 : (((rd_T46 l0 x5_1).f2) == ((rd_T46 l1 x5_1).f2)) = true := by simpa using c9))
                    clear c9
                    by_cases c12 : (strOfNums ((rd_T46 l0 x5_1).f3)).toList = (strOfNums ((rd_T46 l1 x5_1).f3)).toList
                    · rw [if_pos c12] at H
                      have c12b0 : ((strOfNums ((rd_T46 l0 x5_1).f3)).toList == (strOfNums ((rd_T46 l1 x5_1).f3)).toList) = true := beq_iff_eq.mpr c12
                      have c12b1 : ((strOfNums ((rd_T46 l0 x5_1).f3)).toList != (strOfNums ((rd_T46 l1 x5_1).f3)).toList) = false := bne_eq_false_iff_eq.mpr c12
                      clear c12
                      have H' := Aside0.mk H
                      clear H
                      have p118 : 0 ≤ (x5_1 : Int) := of_decide_eq_true (by first | (with_reducible assumption) | assumption)
                      have q118 : x5_1 < (l0.length : Int) := of_decide_eq_true (by first | (with_reducible assumption) | assumption)
                      obtain ⟨ad118, A118_1, c118_1, A118_3, c118_3, e118, hx118_0, hx118_1, hx118_2, hx118_3, hl118_1, hi118_1, hl118_3, hi118_3⟩ := at_T46 HR0.out x5_1 p118 q118
                      cases e118
                      have HR118_1 := Aside0.mk hi118_1
                      have HC118_1 := Aside0.mk hl118_1
                      clear hi118_1 hl118_1
                      have HR118_3 := Aside0.mk hi118_3
                      have HC118_3 := Aside0.mk hl118_3
                      clear hi118_3 hl118_3
                      replace p118 := eq_true p118
                      replace q118 := eq_true q118
                      have p119 : 0 ≤ (x5_1 : Int) := of_decide_eq_true (by first | (with_reducible assumption) | assumption)
                      have q119 : x5_1 < (l1.length : Int) := of_decide_eq_true (by first | (with_reducible assumption) | assumption)
                      obtain ⟨ad119, A119_1, c119_1, A119_3, c119_3, e119, hx119_0, hx119_1, hx119_2, hx119_3, hl119_1, hi119_1, hl119_3, hi119_3⟩ := at_T46 HR1.out x5_1 p119 q119
                      cases e119
                      have HR119_1 := Aside0.mk hi119_1
                      have HC119_1 := Aside0.mk hl119_1
                      clear hi119_1 hl119_1
                      have HR119_3 := Aside0.mk hi119_3
                      have HC119_3 := Aside0.mk hl119_3
                      clear hi119_3 hl119_3
                      replace p119 := eq_true p119
                      replace q119 := eq_true q119
                      have p120 : 0 ≤ (x5_1 : Int) := of_decide_eq_true (by first | (with_reducible assumption) | assumption)
                      have q120 : x5_1 < (l0.length : Int) := of_decide_eq_true (by first | (with_reducible assumption) | assumption)
                      obtain ⟨ad120, A120_1, c120_1, A120_3, c120_3, e120, hx120_0, hx120_1, hx120_2, hx120_3, hl120_1, hi120_1, hl120_3, hi120_3⟩ := at_T46 HR0.out x5_1 p120 q120
                      obtain rfl : ad118 = ad120 := (by injection e120)
                      have HR120_1 := Aside0.mk hi120_1
                      have HC120_1 := Aside0.mk hl120_1
                      clear hi120_1 hl120_1
                      have HR120_3 := Aside0.mk hi120_3
                      have HC120_3 := Aside0.mk hl120_3
                      clear hi120_3 hl120_3
                      replace p120 := eq_true p120
                      replace q120 := eq_true q120
                      have ea_ := Option.some.inj (hx118_1.symm.trans hx120_1)
                      injection ea_ with ea_ en_ ec_
                      subst ea_
                      subst ec_
                      clear en_
                      have ea_ := Option.some.inj (hx118_3.symm.trans hx120_3)
                      injection ea_ with ea_ en_ ec_
                      subst ea_
                      subst ec_
                      clear en_
                      have hcv13 := Kd.C_string (P := Try.prog) (A := A118_1) (c := c118_1) Try.underlying36 Try.underlying5 Try.underlying9 HR120_1.out; have hcv13q := fun n_ => Kd.C_string (P := Try.prog) (A := A118_1) (c := c118_1) Try.underlying36 Try.underlying5 Try.underlying9 (Kd.C_drewN HR120_1.out n_)
                      have p121 : 0 ≤ (x5_1 : Int) := of_decide_eq_true (by first | (with_reducible assumption) | assumption)
                      have q121 : x5_1 < (l1.length : Int) := of_decide_eq_true (by first | (with_reducible assumption) | assumption)
                      obtain ⟨ad121, A121_1, c121_1, A121_3, c121_3, e121, hx121_0, hx121_1, hx121_2, hx121_3, hl121_1, hi121_1, hl121_3, hi121_3⟩ := at_T46 HR1.out x5_1 p121 q121
                      obtain rfl : ad119 = ad121 := (by injection e121)
                      have HR121_1 := Aside0.mk hi121_1
                      have HC121_1 := Aside0.mk hl121_1
                      clear hi121_1 hl121_1
                      have HR121_3 := Aside0.mk hi121_3
                      have HC121_3 := Aside0.mk hl121_3
                      clear hi121_3 hl121_3
                      replace p121 := eq_true p121
                      replace q121 := eq_true q121
                      have ea_ := Option.some.inj (hx119_1.symm.trans hx121_1)
                      injection ea_ with ea_ en_ ec_
                      subst ea_
                      subst ec_
                      clear en_
                      have ea_ := Option.some.inj (hx119_3.symm.trans hx121_3)
                      injection ea_ with ea_ en_ ec_
                      subst ea_
                      subst ec_
                      clear en_
                      have hcv14 := Kd.C_string (P := Try.prog) (A := A119_1) (c := c119_1) Try.underlying36 Try.underlying5 Try.underlying9 HR121_1.out; have hcv14q := fun n_ => Kd.C_string (P := Try.prog) (A := A119_1) (c := c119_1) Try.underlying36 Try.underlying5 Try.underlying9 (Kd.C_drewN HR121_1.out n_)
                      have p122 : 0 ≤ (x5_1 : Int) := of_decide_eq_true (by first | (with_reducible assumption) | assumption)
                      have q122 : x5_1 < (l0.length : Int) := of_decide_eq_true (by first | (with_reducible assumption) | assumption)
                      obtain ⟨ad122, A122_1, c122_1, A122_3, c122_3, e122, hx122_0, hx122_1, hx122_2, hx122_3, hl122_1, hi122_1, hl122_3, hi122_3⟩ := at_T46 HR0.out x5_1 p122 q122
                      obtain rfl : ad118 = ad122 := (by injection e122)
                      have HR122_1 := Aside0.mk hi122_1
                      have HC122_1 := Aside0.mk hl122_1
                      clear hi122_1 hl122_1
                      have HR122_3 := Aside0.mk hi122_3
                      have HC122_3 := Aside0.mk hl122_3
                      clear hi122_3 hl122_3
                      replace p122 := eq_true p122
                      replace q122 := eq_true q122
                      have ea_ := Option.some.inj (hx118_1.symm.trans hx122_1)
                      injection ea_ with ea_ en_ ec_
                      subst ea_
                      subst ec_
                      clear en_
                      have ea_ := Option.some.inj (hx118_3.symm.trans hx122_3)
                      injection ea_ with ea_ en_ ec_
                      subst ea_
                      subst ec_
                      clear en_
                      have p123 : 0 ≤ (x5_1 : Int) := of_decide_eq_true (by first | (with_reducible assumption) | assumption)
                      have q123 : x5_1 < (l1.length : Int) := of_decide_eq_true (by first | (with_reducible assumption) | assumption)
                      obtain ⟨ad123, A123_1, c123_1, A123_3, c123_3, e123, hx123_0, hx123_1, hx123_2, hx123_3, hl123_1, hi123_1, hl123_3, hi123_3⟩ := at_T46 HR1.out x5_1 p123 q123
                      obtain rfl : ad119 = ad123 := (by injection e123)
                      have HR123_1 := Aside0.mk hi123_1
                      have HC123_1 := Aside0.mk hl123_1
                      clear hi123_1 hl123_1
                      have HR123_3 := Aside0.mk hi123_3
                      have HC123_3 := Aside0.mk hl123_3
                      clear hi123_3 hl123_3
                      replace p123 := eq_true p123
                      replace q123 := eq_true q123
                      have ea_ := Option.some.inj (hx119_1.symm.trans hx123_1)
                      injection ea_ with ea_ en_ ec_
                      subst ea_
                      subst ec_
                      clear en_
                      have ea_ := Option.some.inj (hx119_3.symm.trans hx123_3)
                      injection ea_ with ea_ en_ ec_
                      subst ea_
                      subst ec_
                      clear en_
                      have p124 : 0 ≤ (x5_1 : Int) := of_decide_eq_true (by first | (with_reducible assumption) | assumption)
                      have q124 : x5_1 < (l0.length : Int) := of_decide_eq_true (by first | (with_reducible assumption) | assumption)
                      obtain ⟨ad124, A124_1, c124_1, A124_3, c124_3, e124, hx124_0, hx124_1, hx124_2, hx124_3, hl124_1, hi124_1, hl124_3, hi124_3⟩ := at_T46 HR0.out x5_1 p124 q124
                      obtain rfl : ad118 = ad124 := (by injection e124)
                      have HR124_1 := Aside0.mk hi124_1
                      have HC124_1 := Aside0.mk hl124_1
                      clear hi124_1 hl124_1
                      have HR124_3 := Aside0.mk hi124_3
                      have HC124_3 := Aside0.mk hl124_3
                      clear hi124_3 hl124_3
                      replace p124 := eq_true p124
                      replace q124 := eq_true q124
                      have ea_ := Option.some.inj (hx118_1.symm.trans hx124_1)
                      injection ea_ with ea_ en_ ec_
                      subst ea_
                      subst ec_
                      clear en_
                      have ea_ := Option.some.inj (hx118_3.symm.trans hx124_3)
                      injection ea_ with ea_ en_ ec_
                      subst ea_
                      subst ec_
                      clear en_
                      have hcv15 := Kd.C_string (P := Try.prog) (A := A118_3) (c := c118_3) Try.underlying36 Try.underlying5 Try.underlying9 HR124_3.out; have hcv15q := fun n_ => Kd.C_string (P := Try.prog) (A := A118_3) (c := c118_3) Try.underlying36 Try.underlying5 Try.underlying9 (Kd.C_drewN HR124_3.out n_)
                      have p125 : 0 ≤ (x5_1 : Int) := of_decide_eq_true (by first | (with_reducible assumption) | assumption)
                      have q125 : x5_1 < (l1.length : Int) := of_decide_eq_true (by first | (with_reducible assumption) | assumption)
                      obtain ⟨ad125, A125_1, c125_1, A125_3, c125_3, e125, hx125_0, hx125_1, hx125_2, hx125_3, hl125_1, hi125_1, hl125_3, hi125_3⟩ := at_T46 HR1.out x5_1 p125 q125
                      obtain rfl : ad119 = ad125 := (by injection e125)
                      have HR125_1 := Aside0.mk hi125_1
                      have HC125_1 := Aside0.mk hl125_1
                      clear hi125_1 hl125_1
                      have HR125_3 := Aside0.mk hi125_3
                      have HC125_3 := Aside0.mk hl125_3
                      clear hi125_3 hl125_3
                      replace p125 := eq_true p125
                      replace q125 := eq_true q125
                      have ea_ := Option.some.inj (hx119_1.symm.trans hx125_1)
                      injection ea_ with ea_ en_ ec_
                      subst ea_
                      subst ec_
                      clear en_
                      have ea_ := Option.some.inj (hx119_3.symm.trans hx125_3)
                      injection ea_ with ea_ en_ ec_
                      subst ea_
                      subst ec_
                      clear en_
                      have hcv16 := Kd.C_string (P := Try.prog) (A := A119_3) (c := c119_3) Try.underlying36 Try.underlying5 Try.underlying9 HR125_3.out; have hcv16q := fun n_ => Kd.C_string (P := Try.prog) (A := A119_3) (c := c119_3) Try.underlying36 Try.underlying5 Try.underlying9 (Kd.C_drewN HR125_3.out n_)
                      go_wp2
                      repeat (go_quiet (fail); try go_wp2)
                      go_roundg k1
                      case measure => have := HK1.out; omega
                      case rel => exact ⟨(wrap64 (x5_1 + 1)), (by first | rfl | (simp; done) | (simp [*]; done)), H', ⟨by have := HK1.out; omega⟩, by repeat (first | exact Drawn0.refl _ | apply Drawn0.step)⟩
                    · rw [if_neg c12] at H
                      have c12b0 : ((strOfNums ((rd_T46 l0 x5_1).f3)).toList == (strOfNums ((rd_T46 l1 x5_1).f3)).toList) = false := beq_eq_false_iff_ne.mpr c12
                      have c12b1 : ((strOfNums ((rd_T46 l0 x5_1).f3)).toList != (strOfNums ((rd_T46 l1 x5_1).f3)).toList) = true := bne_iff_ne.mpr c12
                      obtain rfl := Option.some.inj H
                      have p118 : 0 ≤ (x5_1 : Int) := of_decide_eq_true (by first | (with_reducible assumption) | assumption)
                      have q118 : x5_1 < (l0.length : Int) := of_decide_eq_true (by first | (with_reducible assumption) | assumption)
                      obtain ⟨ad118, A118_1, c118_1, A118_3, c118_3, e118, hx118_0, hx118_1, hx118_2, hx118_3, hl118_1, hi118_1, hl118_3, hi118_3⟩ := at_T46 HR0.out x5_1 p118 q118
                      cases e118
                      have HR118_1 := Aside0.mk hi118_1
                      have HC118_1 := Aside0.mk hl118_1
                      clear hi118_1 hl118_1
                      have HR118_3 := Aside0.mk hi118_3
                      have HC118_3 := Aside0.mk hl118_3
                      clear hi118_3 hl118_3
                      replace p118 := eq_true p118
                      replace q118 := eq_true q118
                      have p119 : 0 ≤ (x5_1 : Int) := of_decide_eq_true (by first | (with_reducible assumption) | assumption)
                      have q119 : x5_1 < (l1.length : Int) := of_decide_eq_true (by first | (with_reducible assumption) | assumption)
                      obtain ⟨ad119, A119_1, c119_1, A119_3, c119_3, e119, hx119_0, hx119_1, hx119_2, hx119_3, hl119_1, hi119_1, hl119_3, hi119_3⟩ := at_T46 HR1.out x5_1 p119 q119
                      cases e119
                      have HR119_1 := Aside0.mk hi119_1
                      have HC119_1 := Aside0.mk hl119_1
                      clear hi119_1 hl119_1
                      have HR119_3 := Aside0.mk hi119_3
                      have HC119_3 := Aside0.mk hl119_3
                      clear hi119_3 hl119_3
                      replace p119 := eq_true p119
                      replace q119 := eq_true q119
                      have p120 : 0 ≤ (x5_1 : Int) := of_decide_eq_true (by first | (with_reducible assumption) | assumption)
                      have q120 : x5_1 < (l0.length : Int) := of_decide_eq_true (by first | (with_reducible assumption) | assumption)
                      obtain ⟨ad120, A120_1, c120_1, A120_3, c120_3, e120, hx120_0, hx120_1, hx120_2, hx120_3, hl120_1, hi120_1, hl120_3, hi120_3⟩ := at_T46 HR0.out x5_1 p120 q120
                      obtain rfl : ad118 = ad120 := (by injection e120)
                      have HR120_1 := Aside0.mk hi120_1
                      have HC120_1 := Aside0.mk hl120_1
                      clear hi120_1 hl120_1
                      have HR120_3 := Aside0.mk hi120_3
                      have HC120_3 := Aside0.mk hl120_3
                      clear hi120_3 hl120_3
                      replace p120 := eq_true p120
                      replace q120 := eq_true q120
                      have ea_ := Option.some.inj (hx118_1.symm.trans hx120_1)
                      injection ea_ with ea_ en_ ec_
                      subst ea_
                      subst ec_
                      clear en_
                      have ea_ := Option.some.inj (hx118_3.symm.trans hx120_3)
                      injection ea_ with ea_ en_ ec_
                      subst ea_
                      subst ec_
                      clear en_
                      have hcv17 := Kd.C_string (P := Try.prog) (A := A118_1) (c := c118_1) Try.underlying36 Try.underlying5 Try.underlying9 HR120_1.out; have hcv17q := fun n_ => Kd.C_string (P := Try.prog) (A := A118_1) (c := c118_1) Try.underlying36 Try.underlying5 Try.underlying9 (Kd.C_drewN HR120_1.out n_)
                      have p121 : 0 ≤ (x5_1 : Int) := of_decide_eq_true (by first | (with_reducible assumption) | assumption)
                      have q121 : x5_1 < (l1.length : Int) := of_decide_eq_true (by first | (with_reducible assumption) | assumption)
                      obtain ⟨ad121, A121_1, c121_1, A121_3, c121_3, e121, hx121_0, hx121_1, hx121_2, hx121_3, hl121_1, hi121_1, hl121_3, hi121_3⟩ := at_T46 HR1.out x5_1 p121 q121
                      obtain rfl : ad119 = ad121 := (by injection e121)
                      have HR121_1 := Aside0.mk hi121_1
                      have HC121_1 := Aside0.mk hl121_1
                      clear hi121_1 hl121_1
                      have HR121_3 := Aside0.mk hi121_3
                      have HC121_3 := Aside0.mk hl121_3
                      clear hi121_3 hl121_3
                      replace p121 := eq_true p121
                      replace q121 := eq_true q121
                      have ea_ := Option.some.inj (hx119_1.symm.trans hx121_1)
                      injection ea_ with ea_ en_ ec_
                      subst ea_
                      subst ec_
                      clear en_
                      have ea_ := Option.some.inj (hx119_3.symm.trans hx121_3)
                      injection ea_ with ea_ en_ ec_
                      subst ea_
                      subst ec_
                      clear en_
                      have hcv18 := Kd.C_string (P := Try.prog) (A := A119_1) (c := c119_1) Try.underlying36 Try.underlying5 Try.underlying9 HR121_1.out; have hcv18q := fun n_ => Kd.C_string (P := Try.prog) (A := A119_1) (c := c119_1) Try.underlying36 Try.underlying5 Try.underlying9 (Kd.C_drewN HR121_1.out n_)
                      have p122 : 0 ≤ (x5_1 : Int) := of_decide_eq_true (by first | (with_reducible assumption) | assumption)
                      have q122 : x5_1 < (l0.length : Int) := of_decide_eq_true (by first | (with_reducible assumption) | assumption)
                      obtain ⟨ad122, A122_1, c122_1, A122_3, c122_3, e122, hx122_0, hx122_1, hx122_2, hx122_3, hl122_1, hi122_1, hl122_3, hi122_3⟩ := at_T46 HR0.out x5_1 p122 q122
                      obtain rfl : ad118 = ad122 := (by injection e122)
                      have HR122_1 := Aside0.mk hi122_1
                      have HC122_1 := Aside0.mk hl122_1
                      clear hi122_1 hl122_1
                      have HR122_3 := Aside0.mk hi122_3
                      have HC122_3 := Aside0.mk hl122_3
                      clear hi122_3 hl122_3
                      replace p122 := eq_true p122
                      replace q122 := eq_true q122
                      have ea_ := Option.some.inj (hx118_1.symm.trans hx122_1)
                      injection ea_ with ea_ en_ ec_
                      subst ea_
                      subst ec_
                      clear en_
                      have ea_ := Option.some.inj (hx118_3.symm.trans hx122_3)
                      injection ea_ with ea_ en_ ec_
                      subst ea_
                      subst ec_
                      clear en_
                      have p123 : 0 ≤ (x5_1 : Int) := of_decide_eq_true (by first | (with_reducible assumption) | assumption)
                      have q123 : x5_1 < (l1.length : Int) := of_decide_eq_true (by first | (with_reducible assumption) | assumption)
                      obtain ⟨ad123, A123_1, c123_1, A123_3, c123_3, e123, hx123_0, hx123_1, hx123_2, hx123_3, hl123_1, hi123_1, hl123_3, hi123_3⟩ := at_T46 HR1.out x5_1 p123 q123
                      obtain rfl : ad119 = ad123 := (by injection e123)
                      have HR123_1 := Aside0.mk hi123_1
                      have HC123_1 := Aside0.mk hl123_1
                      clear hi123_1 hl123_1
                      have HR123_3 := Aside0.mk hi123_3
                      have HC123_3 := Aside0.mk hl123_3
                      clear hi123_3 hl123_3
                      replace p123 := eq_true p123
                      replace q123 := eq_true q123
                      have ea_ := Option.some.inj (hx119_1.symm.trans hx123_1)
                      injection ea_ with ea_ en_ ec_
                      subst ea_
                      subst ec_
                      clear en_
                      have ea_ := Option.some.inj (hx119_3.symm.trans hx123_3)
                      injection ea_ with ea_ en_ ec_
                      subst ea_
                      subst ec_
                      clear en_
                      have p124 : 0 ≤ (x5_1 : Int) := of_decide_eq_true (by first | (with_reducible assumption) | assumption)
                      have q124 : x5_1 < (l0.length : Int) := of_decide_eq_true (by first | (with_reducible assumption) | assumption)
                      obtain ⟨ad124, A124_1, c124_1, A124_3, c124_3, e124, hx124_0, hx124_1, hx124_2, hx124_3, hl124_1, hi124_1, hl124_3, hi124_3⟩ := at_T46 HR0.out x5_1 p124 q124
                      obtain rfl : ad118 = ad124 := (by injection e124)
                      have HR124_1 := Aside0.mk hi124_1
                      have HC124_1 := Aside0.mk hl124_1
                      clear hi124_1 hl124_1
                      have HR124_3 := Aside0.mk hi124_3
                      have HC124_3 := Aside0.mk hl124_3
                      clear hi124_3 hl124_3
                      replace p124 := eq_true p124
                      replace q124 := eq_true q124
                      have ea_ := Option.some.inj (hx118_1.symm.trans hx124_1)
                      injection ea_ with ea_ en_ ec_
                      subst ea_
                      subst ec_
                      clear en_
                      have ea_ := Option.some.inj (hx118_3.symm.trans hx124_3)
                      injection ea_ with ea_ en_ ec_
                      subst ea_
                      subst ec_
                      clear en_
                      have hcv19 := Kd.C_string (P := Try.prog) (A := A118_3) (c := c118_3) Try.underlying36 Try.underlying5 Try.underlying9 HR124_3.out; have hcv19q := fun n_ => Kd.C_string (P := Try.prog) (A := A118_3) (c := c118_3) Try.underlying36 Try.underlying5 Try.underlying9 (Kd.C_drewN HR124_3.out n_)
                      have p125 : 0 ≤ (x5_1 : Int) := of_decide_eq_true (by first | (with_reducible assumption) | assumption)
                      have q125 : x5_1 < (l1.length : Int) := of_decide_eq_true (by first | (with_reducible assumption) | assumption)
                      obtain ⟨ad125, A125_1, c125_1, A125_3, c125_3, e125, hx125_0, hx125_1, hx125_2, hx125_3, hl125_1, hi125_1, hl125_3, hi125_3⟩ := at_T46 HR1.out x5_1 p125 q125
                      obtain rfl : ad119 = ad125 := (by injection e125)
                      have HR125_1 := Aside0.mk hi125_1
                      have HC125_1 := Aside0.mk hl125_1
                      clear hi125_1 hl125_1
                      have HR125_3 := Aside0.mk hi125_3
                      have HC125_3 := Aside0.mk hl125_3
                      clear hi125_3 hl125_3
                      replace p125 := eq_true p125
                      replace q125 := eq_true q125
                      have ea_ := Option.some.inj (hx119_1.symm.trans hx125_1)
                      injection ea_ with ea_ en_ ec_
                      subst ea_
                      subst ec_
                      clear en_
                      have ea_ := Option.some.inj (hx119_3.symm.trans hx125_3)
                      injection ea_ with ea_ en_ ec_
                      subst ea_
                      subst ec_
                      clear en_
                      have hcv20 := Kd.C_string (P := Try.prog) (A := A119_3) (c := c119_3) Try.underlying36 Try.underlying5 Try.underlying9 HR125_3.out; have hcv20q := fun n_ => Kd.C_string (P := Try.prog) (A := A119_3) (c := c119_3) Try.underlying36 Try.underlying5 Try.underlying9 (Kd.C_drewN HR125_3.out n_)
                      go_wp2
                      repeat (go_quiet (fail); try go_wp2)
                      go_ret
                      exact ⟨by first | rfl | (simp; done) | (simp [*]; done), by repeat (first | exact Drawn0.refl _ | apply Drawn0.step)⟩
                · rw [if_neg c8] at H
                  have c8b0 : ((strOfNums ((rd_T46 l0 x5_1).f1)).toList == (strOfNums ((rd_T46 l1 x5_1).f1)).toList) = false := beq_eq_false_iff_ne.mpr c8
                  have c8b1 : ((strOfNums ((rd_T46 l0 x5_1).f1)).toList != (strOfNums ((rd_T46 l1 x5_1).f1)).toList) = true := bne_iff_ne.mpr c8
                  obtain rfl := Option.some.inj H
                  have p118 : 0 ≤ (x5_1 : Int) := of_decide_eq_true (by first | (with_reducible assumption) | assumption)
                  have q118 : x5_1 < (l0.length : Int) := of_decide_eq_true (by first | (with_reducible assumption) | assumption)
                  obtain ⟨ad118, A118_1, c118_1, A118_3, c118_3, e118, hx118_0, hx118_1, hx118_2, hx118_3, hl118_1, hi118_1, hl118_3, hi118_3⟩ := at_T46 HR0.out x5_1 p118 q118
                  cases e118
                  have HR118_1 := Aside0.mk hi118_1
                  have HC118_1 := Aside0.mk hl118_1
                  clear hi118_1 hl118_1
                  have HR118_3 := Aside0.mk hi118_3
                  have HC118_3 := Aside0.mk hl118_3
                  clear hi118_3 hl118_3
                  replace p118 := eq_true p118
                  replace q118 := eq_true q118
                  have p119 : 0 ≤ (x5_1 : Int) := of_decide_eq_true (by first | (with_reducible assumption) | assumption)
                  have q119 : x5_1 < (l1.length : Int) := of_decide_eq_true (by first | (with_reducible assumption) | assumption)
                  obtain ⟨ad119, A119_1, c119_1, A119_3, c119_3, e119, hx119_0, hx119_1, hx119_2, hx119_3, hl119_1, hi119_1, hl119_3, hi119_3⟩ := at_T46 HR1.out x5_1 p119 q119
                  cases e119
                  have HR119_1 := Aside0.mk hi119_1
                  have HC119_1 := Aside0.mk hl119_1
                  clear hi119_1 hl119_1
                  have HR119_3 := Aside0.mk hi119_3
                  have HC119_3 := Aside0.mk hl119_3
                  clear hi119_3 hl119_3
                  replace p119 := eq_true p119
                  replace q119 := eq_true q119
                  have p120 : 0 ≤ (x5_1 : Int) := of_decide_eq_true (by first | (with_reducible assumption) | assumption)
                  have q120 : x5_1 < (l0.length : Int) := of_decide_eq_true (by first | (with_reducible assumption) | assumption)
                  obtain ⟨ad120, A120_1, c120_1, A120_3, c120_3, e120, hx120_0, hx120_1, hx120_2, hx120_3, hl120_1, hi120_1, hl120_3, hi120_3⟩ := at_T46 HR0.out x5_1 p120 q120
                  obtain rfl : ad118 = ad120 := (by injection e120)
                  have HR120_1 := Aside0.mk hi120_1
                  have HC120_1 := Aside0.mk hl120_1
                  clear hi120_1 hl120_1
                  have HR120_3 := Aside0.mk hi120_3
                  have HC120_3 := Aside0.mk hl120_3
                  clear hi120_3 hl120_3
                  replace p120 := eq_true p120
                  replace q120 := eq_true q120
                  have ea_ := Option.some.inj (hx118_1.symm.trans hx120_1)
                  injection ea_ with ea_ en_ ec_
                  subst ea_
                  subst ec_
                  clear en_
                  have ea_ := Option.some.inj (hx118_3.symm.trans hx120_3)
                  injection ea_ with ea_ en_ ec_
                  subst ea_
                  subst ec_
                  clear en_
                  have hcv21 := Kd.C_string (P := Try.prog) (A := A118_1) (c := c118_1) Try.underlying36 Try.underlying5 Try.underlying9 HR120_1.out; have hcv21q := fun n_ => Kd.C_string (P := Try.prog) (A := A118_1) (c := c118_1) Try.underlying36 Try.underlying5 Try.underlying9 (Kd.C_drewN HR120_1.out n_)
                  have p121 : 0 ≤ (x5_1 : Int) := of_decide_eq_true (by first | (with_reducible assumption) | assumption)
                  have q121 : x5_1 < (l1.length : Int) := of_decide_eq_true (by first | (with_reducible assumption) | assumption)
                  obtain ⟨ad121, A121_1, c121_1, A121_3, c121_3, e121, hx121_0, hx121_1, hx121_2, hx121_3, hl121_1, hi121_1, hl121_3, hi121_3⟩ := at_T46 HR1.out x5_1 p121 q121
                  obtain rfl : ad119 = ad121 := (by injection e121)
                  have HR121_1 := Aside0.mk hi121_1
                  have HC121_1 := Aside0.mk hl121_1
                  clear hi121_1 hl121_1
                  have HR121_3 := Aside0.mk hi121_3
                  have HC121_3 := Aside0.mk hl121_3
                  clear hi121_3 hl121_3
                  replace p121 := eq_true p121
                  replace q121 := eq_true q121
                  have ea_ := Option.some.inj (hx119_1.symm.trans hx121_1)
                  injection ea_ with ea_ en_ ec_
                  subst ea_
                  subst ec_
                  clear en_
                  have ea_ := Option.some.inj (hx119_3.symm.trans hx121_3)
                  injection ea_ with ea_ en_ ec_
                  subst ea_
                  subst ec_
                  clear en_
                  have hcv22 := Kd.C_string (P := Try.prog) (A := A119_1) (c := c119_1) Try.underlying36 Try.underlying5 Try.underlying9 HR121_1.out; have hcv22q := fun n_ => Kd.C_string (P := Try.prog) (A := A119_1) (c := c119_1) Try.underlying36 Try.underlying5 Try.underlying9 (Kd.C_drewN HR121_1.out n_)
                  go_wp2
                  repeat (go_quiet (fail); try go_wp2)
                  go_ret
                  exact ⟨by first | rfl | (simp; done) | (simp [*]; done), by repeat (first | exact Drawn0.refl _ | apply Drawn0.step)⟩
              · rw [if_neg c7] at H
                have c7b0 : (((rd_T46 l0 x5_1).f0) == ((rd_T46 l1 x5_1).f0)) = false := beq_eq_false_iff_ne.mpr c7
                have c7b1 : (((rd_T46 l0 x5_1).f0) != ((rd_T46 l1 x5_1).f0)) = true := bne_iff_ne.mpr c7
                obtain rfl := Option.some.inj H
                have p118 : 0 ≤ (x5_1 : Int) := of_decide_eq_true (by first | (with_reducible assumption) | assumption)
                have q118 : x5_1 < (l0.length : Int) := of_decide_eq_true (by first | (with_reducible assumption) | assumption)
                obtain ⟨ad118, A118_1, c118_1, A118_3, c118_3, e118, hx118_0, hx118_1, hx118_2, hx118_3, hl118_1, hi118_1, hl118_3, hi118_3⟩ := at_T46 HR0.out x5_1 p118 q118
                cases e118
                have HR118_1 := Aside0.mk hi118_1
                have HC118_1 := Aside0.mk hl118_1
                clear hi118_1 hl118_1
                have HR118_3 := Aside0.mk hi118_3
                have HC118_3 := Aside0.mk hl118_3
                clear hi118_3 hl118_3
                replace p118 := eq_true p118
                replace q118 := eq_true q118
                have p119 : 0 ≤ (x5_1 : Int) := of_decide_eq_true (by first | (with_reducible assumption) | assumption)
                have q119 : x5_1 < (l1.length : Int) := of_decide_eq_true (by first | (with_reducible assumption) | assumption)
                obtain ⟨ad119, A119_1, c119_1, A119_3, c119_3, e119, hx119_0, hx119_1, hx119_2, hx119_3, hl119_1, hi119_1, hl119_3, hi119_3⟩ := at_T46 HR1.out x5_1 p119 q119
                cases e119
                have HR119_1 := Aside0.mk hi119_1
                have HC119_1 := Aside0.mk hl119_1
                clear hi119_1 hl119_1
                have HR119_3 := Aside0.mk hi119_3
                have HC119_3 := Aside0.mk hl119_3
                clear hi119_3 hl119_3
                replace p119 := eq_true p119
                replace q119 := eq_true q119
                go_wp2
                repeat (go_quiet (fail); try go_wp2)
                go_ret
                exact ⟨by first | rfl | (simp; done) | (simp [*]; done), by repeat (first | exact Drawn0.refl _ | apply Drawn0.step)⟩
            · rw [if_neg c6] at H
              exact absurd H (by simp)
          · rw [if_neg c5] at H
            exact absurd H (by simp)
        · rw [if_neg c4] at H
          have c4b0 : decide (x5_1 < (l0.length : Int)) = false := decide_eq_false c4
          clear c4
          obtain rfl := Option.some.inj H
          go_wp2
          repeat (go_quiet (fail); try go_wp2)
          go_ret
          exact ⟨by first | rfl | (simp; done) | (simp [*]; done), by repeat (first | exact Drawn0.refl _ | apply Drawn0.step)⟩
  · rw [if_neg c3] at H
    have c3b0 : ((l0.length : Int) == (l1.length : Int)) = false := beq_eq_false_iff_ne.mpr c3
    have c3b1 : ((l0.length : Int) != (l1.length : Int)) = true := bne_iff_ne.mpr c3
    have c3b2 : (l0.length == l1.length) = false := by first | simpa using c3 | (simp at c3 ⊢; omega)
    obtain rfl := Option.some.inj H
    go_enter Try.func22, Try.ntmps22
    go_wp2
    repeat (go_quiet (fail); try go_wp2)
    go_ret
    exact ⟨by first | rfl | (simp; done) | (simp [*]; done), by repeat (first | exact Drawn0.refl _ | apply Drawn0.step)⟩

end Go.Proofs.Ytpknchaajgkbnaa.P
