/- Plain facts on layer 21: how an operation is written, by the program and by the reference. -/
import Derived.Test.YtfbjabpjfalmlaaLem21
namespace Go.Proofs.Ytfbjabpjfalmlaa.Pure
open Go.RowKit Go.Proofs.Ytfbjabpjfalmlaa.P Go.Proofs.YtfbjabpjfalmlaaW.PrintWords Go.Proofs.YtfbjabpjfalmlaaW.PrintLast
set_option linter.unusedVariables false
set_option linter.unusedSimpArgs false
def oB (n : Int) : List Int := octBytes 5 n
def oT (t : List Int) : List Int := octBytes 5 t.length ++ t
theorem oB_len (n : Int) : (oB n).length ≤ 5 := octBytes_len 5 n
theorem oT_len (t : List Int) : (oT t).length ≤ 5 + t.length := by unfold oT; rw [List.length_append]; have := octBytes_len 5 t.length; omega
theorem putF_num {acc : List Int} {n : Int} {r : List Part} (ha : acc.length < 100000) (h0 : 0 ≤ n) (h1 : n ≤ 2147483647) : putF acc (.num n :: r) = putF (acc ++ oB n) r := by
  rw [putF, number_f (by omega), numP_ok h0 h1]; rfl
theorem putF_txt {acc t : List Int} {A : Option Addr} {c : Nat} {r : List Part} (ha : acc.length < 100000) (ht : t.length ≤ 65535) : putF acc (.txt A c t :: r) = putF (acc ++ oT t) r := by
  rw [putF, text_f (by omega)]
  unfold textP
  rw [if_neg (by omega), Option.bind_some, List.append_assoc]; rfl
theorem putF_flag {acc : List Int} {b : Bool} {r : List Part} (ha : acc.length < 100000) : putF acc (.flag b :: r) = putF (acc ++ [if b then 1 else 0]) r := by
  rw [putF, if_pos (by omega)]
def opBytes (s kd tb : Int) (k hi : List Int) (o : Bool) (v : List Int) (n : Int) : List Int := oB s ++ (oB kd ++ (oB tb ++ (oT k ++ (oT hi ++ ([if o then 1 else 0] ++ (oT v ++ oB n))))))
theorem mayB_b {s kd tb : Int} {k hi : Nat} {o : Bool} {v : Nat} {n : Int} (h : mayB s kd tb k hi o v n = true) : 0 ≤ s ∧ s ≤ 3 ∧ 0 ≤ n ∧ n ≤ 2147483647 ∧ 0 ≤ kd ∧ kd ≤ 12 ∧ 0 ≤ tb ∧ tb ≤ 3 ∧ k ≤ 16 ∧ hi ≤ 16 ∧ v ≤ 32 := by
  unfold mayB at h
  simp only [Bool.and_eq_true, decide_eq_true_eq] at h
  obtain ⟨⟨⟨⟨a, b⟩, c⟩, d⟩, e⟩ := h
  by_cases h12 : kd = 12
  · rw [if_pos h12] at e
    simp only [Bool.and_eq_true, decide_eq_true_eq] at e
    omega
  · rw [if_neg h12] at e
    unfold opOk P.kindOk longOk at e
    simp only [Bool.and_eq_true, decide_eq_true_eq] at e
    omega
theorem wire_Write_f (s kd tb : Int) (k hi : List Int) (o : Bool) (v : List Int) (n : Int) (hk : k.length < 1000000) (hh : hi.length < 1000000) (hv : v.length < 1000000) : wire_Write.f s kd tb k hi o v n = some (if mayB s kd tb k.length hi.length o v.length n = true then (opBytes s kd tb k hi o v n, 0) else ([], 210)) := by
  unfold wire_Write.f
  rw [wire_may_f s kd tb k hi o v n hk hh hv, Option.bind_some]
  by_cases hm : mayB s kd tb k.length hi.length o v.length n = true
  · rw [if_pos hm, if_pos hm]
    obtain ⟨a1, a2, a3, a4, a5, a6, a7, a8, a9, a10, a11⟩ := mayB_b hm
    have l1 := oB_len s; have l2 := oB_len kd; have l3 := oB_len tb; have l4 := oT_len k; have l5 := oT_len hi; have l6 := oT_len v
    rw [putF_num (by simp) a1 (by omega), putF_num (by simp; omega) a5 (by omega), putF_num (by simp; omega) a7 (by omega), putF_txt (by simp; omega) (by omega), putF_txt (by simp; omega) (by omega), putF_flag (by simp; omega), putF_txt (by simp; omega) (by omega), putF_num (by simp; omega) a3 (by omega), putF, Option.bind_some]
    unfold opBytes
    simp only [List.append_assoc, List.nil_append]
  · rw [if_neg hm, if_neg hm]
theorem octBytes_flag (o : Bool) : octBytes 5 (if o then 1 else 0) = [if o then 1 else 0] := by cases o <;> decide
end Go.Proofs.Ytfbjabpjfalmlaa.Pure
