import Derived.Test.YtbjeaalbdaedpaaPx0
import Derived.Test.YtbjeaalbdaedpaaPx72
import Derived.Shelf.Abstract
namespace Go.Proofs.Ytbjeaalbdaedpaa.P
open Go.RowKit Go.Proofs.YtbjeaalbdaedpaaW.PrintWords Go.Proofs.YtbjeaalbdaedpaaW.PrintLast Go.Proofs.YtbjeaalbdaedpaaW.PrintMore
attribute [local go_sem] max2_int min2_int max_two min_two max_three min_three max_four min_four
set_option linter.unusedVariables false
set_option linter.unusedSimpArgs false
set_option maxHeartbeats 1000000 in
set_option maxRecDepth 100000 in
theorem rises_in (W : World) (y x : S53) (B1 : Option Addr) (d1 : Nat) (v2 : Value) (A1 : Option Addr) (c1 : Nat) (u2 : Value) (o2 : v2.oneCell' = true) (p2 : u2.oneCell' = true) (h1 : y.f0.length ≤ d1) (i1 : (Kd.int .u8).C W B1 y.f0.length y.f0) (g1 : x.f0.length ≤ c1) (j1 : (Kd.int .u8).C W A1 x.f0.length x.f0) :
    Calls Try.prog 47 #[.agg #[.slice B1 y.f0.length d1, v2], .agg #[.slice A1 x.f0.length c1, u2]] W fun e w' => e = .returned (.int .i64 (Lib.compareBytes (Lib.bytesOf y.f0) (Lib.bytesOf x.f0))) ∧ Below W.heap.size W w' := by
  have hu := Try.underlying53
  have HC := fun W1 (hb : Below W.heap.size W W1) => Aside0.mk (bytes_Compare.calls B1 d1 y.f0 A1 c1 x.f0 (Lib.compareBytes (Lib.bytesOf y.f0) (Lib.bytesOf x.f0)) W1 (Kd.C_below i1 hb) h1 (Kd.C_below j1 hb) g1 (by unfold bytes_Compare.f; rfl))
  clear i1 j1
  go_enter Try.func47, Try.ntmps47
  go_wp2_with (go_at_call 48; refine (HC _ (below_alloc (below_alloc (Below.refl _ _) _) _)).out.mono ?_; rintro e w1 ⟨rfl, nd, rfl⟩)
  go_ret
  exact ⟨rfl, pw_below_drewN (below_alloc (below_alloc (Below.refl _ _) _) _) _⟩
end Go.Proofs.Ytbjeaalbdaedpaa.P
