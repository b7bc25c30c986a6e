import Derived.Test.YtbjeaalbdaedpaaWInv
import Derived.Test.YtbjeaalbdaedpaaWFootNe
namespace Go.Proofs.YtbjeaalbdaedpaaW.PrintWords
open Go.RowKit
end Go.Proofs.YtbjeaalbdaedpaaW.PrintWords
namespace Go.Proofs.YtbjeaalbdaedpaaW.PrintLast
section
variable {ops : Array Oper} {a : Act} {o og : Oper} {g : Nat} {t : Tmp} {u : Bool}
end
end Go.Proofs.YtbjeaalbdaedpaaW.PrintLast
