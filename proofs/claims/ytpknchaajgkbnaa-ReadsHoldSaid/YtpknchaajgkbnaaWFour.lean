-- Out of the kit's print; declarations that this claim does not reach were taken out by wip/shake.py.
import Derived.Test.YtpknchaajgkbnaaWTab
/-! ### 56. Four, five, six operations that may come up next, in any order -/
namespace Go.Proofs.YtpknchaajgkbnaaW.PrintLast
section
variable {P : Program} {ops : Array Oper} {Q : Exit → Act → World → Prop} {md : Region.Mode} {S : World → Prop} {ds : List Nat} {T : Bool × List (List Nat × List Nat)}
end
end Go.Proofs.YtpknchaajgkbnaaW.PrintLast
