-- Out of the kit's print; declarations that this claim does not reach were taken out by wip/shake.py.
import Derived.Test.YtpknchaajgkbnaaWWords
import Derived.Laws.StructEq
/-! ### 53. '==' of structs as_ one Bool -/
namespace Go.Proofs.YtpknchaajgkbnaaW.PrintWords
open Go.RowKit
section
variable {P : Program} {d : Nat} {xs ys : Array Value} {f : Field} {fs : List Field} {a b : Value} {r s : Bool} {w : World}
end
end Go.Proofs.YtpknchaajgkbnaaW.PrintWords
