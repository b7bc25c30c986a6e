import Derived.Test.YtfbjabpjfalmlaaLem21
namespace Go.Proofs.Ytfbjabpjfalmlaa.Pure
open Go.RowKit Go.Proofs.Ytfbjabpjfalmlaa.P Go.Proofs.YtfbjabpjfalmlaaW.PrintWords Go.Proofs.YtfbjabpjfalmlaaW.PrintLast
set_option linter.unusedVariables false
set_option linter.unusedSimpArgs false
def oB (n : Int) : List Int := octBytes 5 n
def oT (t : List Int) : List Int := octBytes 5 t.length ++ t
theorem oB_len (n : Int) : (oB n).length ≤ 5 := octBytes_len 5 n
theorem oT_len (t : List Int) : (oT t).length ≤ 5 + t.length := by unfold oT; rw [List.length_append]; have := octBytes_len 5 t.length; omega
theorem putF_num {acc : List Int} {n : Int} {r : List Part} (ha : acc.length < 100000) (h0 : 0 ≤ n) (h1 : n ≤ 2147483647) : putF acc (.num n :: r) = putF (acc ++ oB n) r := by
  rw [putF, number_f (by omega), numP_ok h0 h1]; rfl
theorem putF_txt {acc t : List Int} {A : Option Addr} {c : Nat} {r : List Part} (ha : acc.length < 100000) (ht : t.length ≤ 65535) : putF acc (.txt A c t :: r) = putF (acc ++ oT t) r := by
  rw [putF, text_f (by omega)]
  unfold textP
  rw [if_neg (by omega), Option.bind_some, List.append_assoc]; rfl
theorem putF_flag {acc : List Int} {b : Bool} {r : List Part} (ha : acc.length < 100000) : putF acc (.flag b :: r) = putF (acc ++ [if b then 1 else 0]) r := by
  rw [putF, if_pos (by omega)]
def opBytes (s kd tb : Int) (k hi : List Int) (o : Bool) (v : List Int) (n : Int) : List Int := oB s ++ (oB kd ++ (oB tb ++ (oT k ++ (oT hi ++ ([if o then 1 else 0] ++ (oT v ++ oB n))))))
theorem octBytes_flag (o : Bool) : octBytes 5 (if o then 1 else 0) = [if o then 1 else 0] := by cases o <;> decide
theorem rflag_f (o : Bool) : banksmanref21_flag.f o = some (if o then 1 else 0) := by cases o <;> rfl
end Go.Proofs.Ytfbjabpjfalmlaa.Pure
