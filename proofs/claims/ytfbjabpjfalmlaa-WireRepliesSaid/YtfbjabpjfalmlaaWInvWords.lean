import Derived.Test.YtfbjabpjfalmlaaWInv
import Derived.Test.YtfbjabpjfalmlaaWFootNe
namespace Go.Proofs.YtfbjabpjfalmlaaW.PrintWords
open Go.RowKit
end Go.Proofs.YtfbjabpjfalmlaaW.PrintWords
namespace Go.Proofs.YtfbjabpjfalmlaaW.PrintLast
section
variable {ops : Array Oper} {a : Act} {o og : Oper} {g : Nat} {t : Tmp} {u : Bool}
end
end Go.Proofs.YtfbjabpjfalmlaaW.PrintLast
