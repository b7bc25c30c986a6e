-- Out of the kit's print; declarations that this claim does not reach were taken out by wip/shake.py.
import Derived.Test.YtpknchaajgkbnaaWInv
import Derived.Test.YtpknchaajgkbnaaWFootNe
namespace Go.Proofs.YtpknchaajgkbnaaW.PrintWords
open Go.RowKit
end Go.Proofs.YtpknchaajgkbnaaW.PrintWords
namespace Go.Proofs.YtpknchaajgkbnaaW.PrintLast
section
variable {ops : Array Oper} {a : Act} {o og : Oper} {g : Nat} {t : Tmp} {u : Bool}
end
end Go.Proofs.YtpknchaajgkbnaaW.PrintLast
