-- Out of the kit's print; declarations that this claim does not reach were taken out by wip/shake.py.
import Derived.Test.YtpknchaajgkbnaaWN
/-! ### 52. A row that stays read whatever happens to a block (a set of blocks) doesn't lie there -/
namespace Go.Proofs.YtpknchaajgkbnaaW.PrintWords
open Go.RowKit
namespace Kd
section
variable {α : Type} {d : Kd α} {W : World} {g n : Nat} {S ok : Nat → Prop} {A : Option Addr} {ad : Addr} {xs : List α}
end
end Kd
end Go.Proofs.YtpknchaajgkbnaaW.PrintWords
