/-
  No cell of these rows narrows 'for every input' (looked for: loops, veiled, ifaces, maps, wideKeys, modest, calm, conditions, laid).
  DERIVED. THE GIVEN ROWS OF THIS SEAT. 5 by the template 'for every input the law returns true; each argument reads behind the call as it read before'; 0 by the template 'total and deterministic' (their statements: YtpoaleejhdeclaaTotals.lean).
  GIVEN WITH THE SEED: the statements are not yours to turn. If you find one false, say at which input.
  Laid BY PROGRAM, IN A SANDBOX (cutbox-rows.mjs): the forced cells as the released guide's own fill.sh prints them over the translation 01fba01c99219ee9… (all of the seat's roots in one cut). By AI agents, Wed Nov 11 2026. No macro, syntax, notation, axiom, sorry.
-/
import Derived.Test.YtpoaleejhdeclaaChecked
import GoSem.Claim
import GoSem.ClaimJoined
import GoSem.ClaimMapViews
import Derived.JoinedTies
import Derived.KernelRfl
namespace Go.Proofs.Ytpoaleejhdeclaa
/- THE CELL 'sum', in the pinned program and in every row, IS THE sha256 OF THE DUMP (.gsa) THAT YtpoaleejhdeclaaProg.lean LOADS. Nothing in Lean hashes anything: it is a label: what it is worth is what the hold of that sum in a sandbox is worth. -/
noncomputable def Try.pinned : Pinned := { name := "ytpoaleejhdeclaa", sum := "01fba01c99219ee9b7cc79b1ff6bef077ba08980a14aebbeddc8f853a6d130e9", checked := Try.checked }
namespace Rows
def none {H : Type} : Left H := { results := [], args := [] }

/-- 'banksmanlaw14.RivalTells': WHATEVER THE INPUT: true; the input reads as it did. -/
def rivalTellsSpec : ChangeSpec := { name := "rivalTells", fn := fun _ => fun
  | [d1, d2, d3, d4] => { results := [.lit (.bool true)], args := [d1, d2, d3, d4] }
  | _ => none }
def rivalTellsRow : OpenClaim := { program := "ytpoaleejhdeclaa", sum := "01fba01c99219ee9b7cc79b1ff6bef077ba08980a14aebbeddc8f853a6d130e9", func := "banksman/banksmanlaw14.RivalTells", spec := "rivalTells", inPlace := ["internal/bytealg.Compare"], unfollowed := true, recurses := true, apart := false }
def RivalTellsSaid : Prop := rivalTellsRow.holds Try.pinned (OpenSpec.ofChange rivalTellsSpec)

/-- ITS FALSE NEIGHBOUR: 'it returns false'. Refute it at one input. -/
def rivalTellsWrong : ChangeSpec := { name := "rivalTells", fn := fun _ => fun
  | [d1, d2, d3, d4] => { results := [.lit (.bool false)], args := [d1, d2, d3, d4] }
  | _ => none }
def RivalTellsWrongFalsely : Prop := rivalTellsRow.holds Try.pinned (OpenSpec.ofChange rivalTellsWrong)

/-- 'banksmanlaw14.RivalOrder': WHATEVER THE INPUT: true; the input reads as it did. -/
def rivalOrderSpec : ChangeSpec := { name := "rivalOrder", fn := fun _ => fun
  | [d] => { results := [.lit (.bool true)], args := [d] }
  | _ => none }
def rivalOrderRow : OpenClaim := { program := "ytpoaleejhdeclaa", sum := "01fba01c99219ee9b7cc79b1ff6bef077ba08980a14aebbeddc8f853a6d130e9", func := "banksman/banksmanlaw14.RivalOrder", spec := "rivalOrder", inPlace := ["internal/bytealg.Compare"], unfollowed := true, recurses := true, apart := false }
def RivalOrderSaid : Prop := rivalOrderRow.holds Try.pinned (OpenSpec.ofChange rivalOrderSpec)

/-- ITS FALSE NEIGHBOUR: 'it returns false'. Refute it at one input. -/
def rivalOrderWrong : ChangeSpec := { name := "rivalOrder", fn := fun _ => fun
  | [d] => { results := [.lit (.bool false)], args := [d] }
  | _ => none }
def RivalOrderWrongFalsely : Prop := rivalOrderRow.holds Try.pinned (OpenSpec.ofChange rivalOrderWrong)

/-- 'banksmanlaw14.RivalFree': WHATEVER THE INPUT: true; the input reads as it did. -/
def rivalFreeSpec : ChangeSpec := { name := "rivalFree", fn := fun _ => fun
  | [d1, d2, d3, d4] => { results := [.lit (.bool true)], args := [d1, d2, d3, d4] }
  | _ => none }
def rivalFreeRow : OpenClaim := { program := "ytpoaleejhdeclaa", sum := "01fba01c99219ee9b7cc79b1ff6bef077ba08980a14aebbeddc8f853a6d130e9", func := "banksman/banksmanlaw14.RivalFree", spec := "rivalFree", inPlace := ["internal/bytealg.Compare"], unfollowed := true, recurses := true, apart := false }
def RivalFreeSaid : Prop := rivalFreeRow.holds Try.pinned (OpenSpec.ofChange rivalFreeSpec)

/-- ITS FALSE NEIGHBOUR: 'it returns false'. Refute it at one input. -/
def rivalFreeWrong : ChangeSpec := { name := "rivalFree", fn := fun _ => fun
  | [d1, d2, d3, d4] => { results := [.lit (.bool false)], args := [d1, d2, d3, d4] }
  | _ => none }
def RivalFreeWrongFalsely : Prop := rivalFreeRow.holds Try.pinned (OpenSpec.ofChange rivalFreeWrong)

/-- 'banksmanlaw14.RivalMore': WHATEVER THE INPUT: true; the input reads as it did. -/
def rivalMoreSpec : ChangeSpec := { name := "rivalMore", fn := fun _ => fun
  | [d1, d2, d3, d4, d5] => { results := [.lit (.bool true)], args := [d1, d2, d3, d4, d5] }
  | _ => none }
def rivalMoreRow : OpenClaim := { program := "ytpoaleejhdeclaa", sum := "01fba01c99219ee9b7cc79b1ff6bef077ba08980a14aebbeddc8f853a6d130e9", func := "banksman/banksmanlaw14.RivalMore", spec := "rivalMore", inPlace := ["internal/bytealg.Compare"], unfollowed := true, recurses := true, apart := false }
def RivalMoreSaid : Prop := rivalMoreRow.holds Try.pinned (OpenSpec.ofChange rivalMoreSpec)

/-- ITS FALSE NEIGHBOUR: 'it returns false'. Refute it at one input. -/
def rivalMoreWrong : ChangeSpec := { name := "rivalMore", fn := fun _ => fun
  | [d1, d2, d3, d4, d5] => { results := [.lit (.bool false)], args := [d1, d2, d3, d4, d5] }
  | _ => none }
def RivalMoreWrongFalsely : Prop := rivalMoreRow.holds Try.pinned (OpenSpec.ofChange rivalMoreWrong)

/-- 'banksmanlaw14.RivalPast': WHATEVER THE INPUT: true; the input reads as it did. -/
def rivalPastSpec : ChangeSpec := { name := "rivalPast", fn := fun _ => fun
  | [d1, d2, d3, d4] => { results := [.lit (.bool true)], args := [d1, d2, d3, d4] }
  | _ => none }
def rivalPastRow : OpenClaim := { program := "ytpoaleejhdeclaa", sum := "01fba01c99219ee9b7cc79b1ff6bef077ba08980a14aebbeddc8f853a6d130e9", func := "banksman/banksmanlaw14.RivalPast", spec := "rivalPast", inPlace := ["internal/bytealg.Compare"], unfollowed := true, recurses := true, apart := false }
def RivalPastSaid : Prop := rivalPastRow.holds Try.pinned (OpenSpec.ofChange rivalPastSpec)

/-- ITS FALSE NEIGHBOUR: 'it returns false'. Refute it at one input. -/
def rivalPastWrong : ChangeSpec := { name := "rivalPast", fn := fun _ => fun
  | [d1, d2, d3, d4] => { results := [.lit (.bool false)], args := [d1, d2, d3, d4] }
  | _ => none }
def RivalPastWrongFalsely : Prop := rivalPastRow.holds Try.pinned (OpenSpec.ofChange rivalPastWrong)

/- THE SECOND FORM. 'bulk': how many values and letters a reading holds, each counted each time it is reached (what is shared counts as often as it is met; a slice's spare places count too). A statement '..UptoSaid' is the law's where the arguments, and the package variables that the reading takes, are together of bulk at most 1048576: NARROWER than '..Said'. Prove '..Said' where nothing that the law and all that it calls make is longer than what came in: it says more and counts as full. Else prove '..UptoSaid'. A law counts once. -/
mutual
def uptoBulk {H : Type} : DataW H → Nat
  | .lit (.string bytes) => bytes.length + 1
  | .lit _ => 1
  | .nil => 1
  | .ptr d => uptoBulk d + 1
  | .slice elems spare => uptoBulkAll elems + uptoBulkAll spare + 1
  | .agg parts => uptoBulkAll parts + 1
  | .iface _ d => uptoBulk d + 1
  | .map entries => uptoBulkEntries entries + 1
  | .held _ => 1
def uptoBulkAll {H : Type} : List (DataW H) → Nat
  | [] => 0
  | d :: r => uptoBulk d + uptoBulkAll r
def uptoBulkEntries {H : Type} : List (Lit × DataW H) → Nat
  | [] => 0
  | x :: r => uptoBulkEntry x + uptoBulkEntries r
def uptoBulkEntry {H : Type} : Lit × DataW H → Nat
  | (.string bytes, d) => bytes.length + uptoBulk d + 1
  | (_, d) => uptoBulk d + 1
 end
def uptoSmall : (H : Type) → List (DataW H) → Bool := fun _ ds => decide (uptoBulkAll ds ≤ 1048576)
def OpenSpec.upto (s : _root_.Go.ChangeSpec) : _root_.Go.OpenSpec := { _root_.Go.OpenSpec.ofChange s with cond := some uptoSmall }

/-- 'banksmanlaw14.RivalTells', WHERE WHAT IT READS IS OF BULK AT MOST 1048576: true; the input reads as it did. -/
def rivalTellsUptoRow : OpenClaim := { program := "ytpoaleejhdeclaa", sum := "01fba01c99219ee9b7cc79b1ff6bef077ba08980a14aebbeddc8f853a6d130e9", func := "banksman/banksmanlaw14.RivalTells", spec := "rivalTells", inPlace := ["internal/bytealg.Compare"], unfollowed := true, recurses := true, apart := false, narrowed := true }
def RivalTellsUptoSaid : Prop := rivalTellsUptoRow.holds Try.pinned (OpenSpec.upto rivalTellsSpec)

/-- 'banksmanlaw14.RivalOrder', WHERE WHAT IT READS IS OF BULK AT MOST 1048576: true; the input reads as it did. -/
def rivalOrderUptoRow : OpenClaim := { program := "ytpoaleejhdeclaa", sum := "01fba01c99219ee9b7cc79b1ff6bef077ba08980a14aebbeddc8f853a6d130e9", func := "banksman/banksmanlaw14.RivalOrder", spec := "rivalOrder", inPlace := ["internal/bytealg.Compare"], unfollowed := true, recurses := true, apart := false, narrowed := true }
def RivalOrderUptoSaid : Prop := rivalOrderUptoRow.holds Try.pinned (OpenSpec.upto rivalOrderSpec)

/-- 'banksmanlaw14.RivalFree', WHERE WHAT IT READS IS OF BULK AT MOST 1048576: true; the input reads as it did. -/
def rivalFreeUptoRow : OpenClaim := { program := "ytpoaleejhdeclaa", sum := "01fba01c99219ee9b7cc79b1ff6bef077ba08980a14aebbeddc8f853a6d130e9", func := "banksman/banksmanlaw14.RivalFree", spec := "rivalFree", inPlace := ["internal/bytealg.Compare"], unfollowed := true, recurses := true, apart := false, narrowed := true }
def RivalFreeUptoSaid : Prop := rivalFreeUptoRow.holds Try.pinned (OpenSpec.upto rivalFreeSpec)

/-- 'banksmanlaw14.RivalMore', WHERE WHAT IT READS IS OF BULK AT MOST 1048576: true; the input reads as it did. -/
def rivalMoreUptoRow : OpenClaim := { program := "ytpoaleejhdeclaa", sum := "01fba01c99219ee9b7cc79b1ff6bef077ba08980a14aebbeddc8f853a6d130e9", func := "banksman/banksmanlaw14.RivalMore", spec := "rivalMore", inPlace := ["internal/bytealg.Compare"], unfollowed := true, recurses := true, apart := false, narrowed := true }
def RivalMoreUptoSaid : Prop := rivalMoreUptoRow.holds Try.pinned (OpenSpec.upto rivalMoreSpec)

/-- 'banksmanlaw14.RivalPast', WHERE WHAT IT READS IS OF BULK AT MOST 1048576: true; the input reads as it did. -/
def rivalPastUptoRow : OpenClaim := { program := "ytpoaleejhdeclaa", sum := "01fba01c99219ee9b7cc79b1ff6bef077ba08980a14aebbeddc8f853a6d130e9", func := "banksman/banksmanlaw14.RivalPast", spec := "rivalPast", inPlace := ["internal/bytealg.Compare"], unfollowed := true, recurses := true, apart := false, narrowed := true }
def RivalPastUptoSaid : Prop := rivalPastUptoRow.holds Try.pinned (OpenSpec.upto rivalPastSpec)

end Rows
end Go.Proofs.Ytpoaleejhdeclaa
