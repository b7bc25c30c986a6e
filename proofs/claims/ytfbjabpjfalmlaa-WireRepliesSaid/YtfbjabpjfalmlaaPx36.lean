import Derived.Test.YtfbjabpjfalmlaaPx0
import Derived.Deep.CutBlock
import Derived.Deep.DeepCutAuto
namespace Go.Proofs.Ytfbjabpjfalmlaa.P
open Go.RowKit Go.Proofs.YtfbjabpjfalmlaaW.PrintWords Go.Proofs.YtfbjabpjfalmlaaW.PrintLast Go.Proofs.YtfbjabpjfalmlaaW.PrintMore
attribute [local go_sem] max2_int min2_int max_two min_two max_three min_three max_four min_four
set_option linter.unusedVariables false
set_option linter.unusedSimpArgs false
def badOp (k t : Int) (n h v : Nat) (o : Bool) : Bool := decide (k < 1) || decide (11 < k) || decide (t < 0) || decide (3 < t) || decide (16 < n) || decide (16 < h) || (o && decide (0 < h)) || decide (32 < v)
def badN (k n : Int) : Bool := (k == 8) && (n != 3) && (n != 5) || (k == 11) && (n != 0) && (n != 1) || (k == 7) && (decide (n < 0) || decide (3 < n))
def banksmanref15_Check.f (a0_0 : Int) (a0_1 : Int) (l0_2 : List Int) (l0_3 : List Int) (a0_4 : Bool) (l0_5 : List Int) (a0_6 : Int) : Option (Int) := some (if (badOp a0_0 a0_1 l0_2.length l0_3.length l0_5.length a0_4 || badN a0_0 a0_6) = true then 1 else 0)
end Go.Proofs.Ytfbjabpjfalmlaa.P
