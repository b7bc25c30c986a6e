import Derived.Test.YtpoaleejhdeclaaWInv
import Derived.Test.YtpoaleejhdeclaaWFootNe
namespace Go.Proofs.YtpoaleejhdeclaaW.PrintWords
open Go.RowKit
end Go.Proofs.YtpoaleejhdeclaaW.PrintWords
namespace Go.Proofs.YtpoaleejhdeclaaW.PrintLast
section
variable {ops : Array Oper} {a : Act} {o og : Oper} {g : Nat} {t : Tmp} {u : Bool}
end
end Go.Proofs.YtpoaleejhdeclaaW.PrintLast
