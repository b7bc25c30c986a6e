import Derived.Test.YtfbjabpjfalmlaaLemA21
import Derived.Test.YtfbjabpjfalmlaaPx1
import Derived.Test.YtfbjabpjfalmlaaPx1
import Derived.Test.YtfbjabpjfalmlaaPx1
import Derived.Test.YtfbjabpjfalmlaaPx37
import Derived.Test.YtfbjabpjfalmlaaPx41
import Derived.Test.YtfbjabpjfalmlaaPx44
namespace Go.Proofs.Ytfbjabpjfalmlaa.Pure
open Go.RowKit Go.Proofs.Ytfbjabpjfalmlaa.P Go.Proofs.YtfbjabpjfalmlaaW.PrintWords Go.Proofs.YtfbjabpjfalmlaaW.PrintLast
set_option linter.unusedVariables false
set_option linter.unusedSimpArgs false
def opOk (kd tb : Int) (k hi v : Nat) (o : Bool) (n : Int) : Bool := numOk kd n && P.kindOk kd tb && longOk k hi v o
def mayB (s kd tb : Int) (k hi : Nat) (o : Bool) (v : Nat) (n : Int) : Bool := decide (0 ≤ s) && decide (s ≤ 3) && decide (0 ≤ n) && decide (n ≤ 2147483647) && (if kd = 12 then decide (s = 0) && decide (tb = 0) && decide (k = 0) && decide (hi = 0) && decide (v = 0) && !o else opOk kd tb k hi v o n)
end Go.Proofs.Ytfbjabpjfalmlaa.Pure
