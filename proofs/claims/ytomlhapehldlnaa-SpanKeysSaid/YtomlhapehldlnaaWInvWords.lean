-- Out of the kit's print; declarations that this claim does not reach were taken out by wip/shake.py.
import Derived.Test.YtomlhapehldlnaaWInv
import Derived.Test.YtomlhapehldlnaaWFootNe
namespace Go.Proofs.YtomlhapehldlnaaW.PrintWords
open Go.RowKit
end Go.Proofs.YtomlhapehldlnaaW.PrintWords
namespace Go.Proofs.YtomlhapehldlnaaW.PrintLast
section
variable {ops : Array Oper} {a : Act} {o og : Oper} {g : Nat} {t : Tmp} {u : Bool}
end
end Go.Proofs.YtomlhapehldlnaaW.PrintLast
