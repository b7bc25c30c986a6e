/-
  No cell of these rows narrows 'for every input' (looked for: loops, veiled, ifaces, maps, wideKeys, modest, calm, conditions, laid).
  DERIVED. THE GIVEN ROWS OF THIS SEAT. 6 by the template 'for every input the law returns true; each argument reads behind the call as it read before'; 0 by the template 'total and deterministic' (their statements: YtcakpgfemmcnkaaTotals.lean).
  GIVEN WITH THE SEED: the statements are not yours to turn. If you find one false, say at which input.
  Laid BY PROGRAM, IN A SANDBOX (cutbox-rows.mjs): the forced cells as the released guide's own fill.sh prints them over the translation 367f9c0ec68156c2… (all of the seat's roots in one cut). By AI agents, Wed Nov 11 2026. No macro, syntax, notation, axiom, sorry.
-/
import Derived.Test.YtcakpgfemmcnkaaChecked
import GoSem.Claim
import GoSem.ClaimJoined
import GoSem.ClaimMapViews
import Derived.JoinedTies
import Derived.KernelRfl
namespace Go.Proofs.Ytcakpgfemmcnkaa
/- THE CELL 'sum', in the pinned program and in every row, IS THE sha256 OF THE DUMP (.gsa) THAT YtcakpgfemmcnkaaProg.lean LOADS. Nothing in Lean hashes anything: it is a label: what it is worth is what the hold of that sum in a sandbox is worth. -/
noncomputable def Try.pinned : Pinned := { name := "ytcakpgfemmcnkaa", sum := "367f9c0ec68156c2c6f9cc2e7a834fec40443d5063075b92807d9c8c2aa1784e", checked := Try.checked }
namespace Rows
def none {H : Type} : Left H := { results := [], args := [] }

/-- 'banksmanlaw02.SumTells': WHATEVER THE INPUT: true; the input reads as it did. -/
def sumTellsSpec : ChangeSpec := { name := "sumTells", fn := fun _ => fun
  | [d1, d2, d3, d4] => { results := [.lit (.bool true)], args := [d1, d2, d3, d4] }
  | _ => none }
def sumTellsRow : OpenClaim := { program := "ytcakpgfemmcnkaa", sum := "367f9c0ec68156c2c6f9cc2e7a834fec40443d5063075b92807d9c8c2aa1784e", func := "banksman/banksmanlaw02.SumTells", spec := "sumTells", unfollowed := true, recurses := true, apart := false }
def SumTellsSaid : Prop := sumTellsRow.holds Try.pinned (OpenSpec.ofChange sumTellsSpec)

/-- ITS FALSE NEIGHBOUR: 'it returns false'. Refute it at one input. -/
def sumTellsWrong : ChangeSpec := { name := "sumTells", fn := fun _ => fun
  | [d1, d2, d3, d4] => { results := [.lit (.bool false)], args := [d1, d2, d3, d4] }
  | _ => none }
def SumTellsWrongFalsely : Prop := sumTellsRow.holds Try.pinned (OpenSpec.ofChange sumTellsWrong)

/-- 'banksmanlaw02.SumJoins': WHATEVER THE INPUT: true; the input reads as it did. -/
def sumJoinsSpec : ChangeSpec := { name := "sumJoins", fn := fun _ => fun
  | [d1, d2, d3] => { results := [.lit (.bool true)], args := [d1, d2, d3] }
  | _ => none }
def sumJoinsRow : OpenClaim := { program := "ytcakpgfemmcnkaa", sum := "367f9c0ec68156c2c6f9cc2e7a834fec40443d5063075b92807d9c8c2aa1784e", func := "banksman/banksmanlaw02.SumJoins", spec := "sumJoins", unfollowed := true, recurses := true, apart := false }
def SumJoinsSaid : Prop := sumJoinsRow.holds Try.pinned (OpenSpec.ofChange sumJoinsSpec)

/-- ITS FALSE NEIGHBOUR: 'it returns false'. Refute it at one input. -/
def sumJoinsWrong : ChangeSpec := { name := "sumJoins", fn := fun _ => fun
  | [d1, d2, d3] => { results := [.lit (.bool false)], args := [d1, d2, d3] }
  | _ => none }
def SumJoinsWrongFalsely : Prop := sumJoinsRow.holds Try.pinned (OpenSpec.ofChange sumJoinsWrong)

/-- 'banksmanlaw02.SumByte': WHATEVER THE INPUT: true; the input reads as it did. -/
def sumByteSpec : ChangeSpec := { name := "sumByte", fn := fun _ => fun
  | [d1, d2, d3] => { results := [.lit (.bool true)], args := [d1, d2, d3] }
  | _ => none }
def sumByteRow : OpenClaim := { program := "ytcakpgfemmcnkaa", sum := "367f9c0ec68156c2c6f9cc2e7a834fec40443d5063075b92807d9c8c2aa1784e", func := "banksman/banksmanlaw02.SumByte", spec := "sumByte", unfollowed := true, recurses := true, apart := false }
def SumByteSaid : Prop := sumByteRow.holds Try.pinned (OpenSpec.ofChange sumByteSpec)

/-- ITS FALSE NEIGHBOUR: 'it returns false'. Refute it at one input. -/
def sumByteWrong : ChangeSpec := { name := "sumByte", fn := fun _ => fun
  | [d1, d2, d3] => { results := [.lit (.bool false)], args := [d1, d2, d3] }
  | _ => none }
def SumByteWrongFalsely : Prop := sumByteRow.holds Try.pinned (OpenSpec.ofChange sumByteWrong)

/-- 'banksmanlaw02.SumParts': WHATEVER THE INPUT: true; the input reads as it did. -/
def sumPartsSpec : ChangeSpec := { name := "sumParts", fn := fun _ => fun
  | [d] => { results := [.lit (.bool true)], args := [d] }
  | _ => none }
def sumPartsRow : OpenClaim := { program := "ytcakpgfemmcnkaa", sum := "367f9c0ec68156c2c6f9cc2e7a834fec40443d5063075b92807d9c8c2aa1784e", func := "banksman/banksmanlaw02.SumParts", spec := "sumParts", unfollowed := true, recurses := true, apart := false }
def SumPartsSaid : Prop := sumPartsRow.holds Try.pinned (OpenSpec.ofChange sumPartsSpec)

/-- ITS FALSE NEIGHBOUR: 'it returns false'. Refute it at one input. -/
def sumPartsWrong : ChangeSpec := { name := "sumParts", fn := fun _ => fun
  | [d] => { results := [.lit (.bool false)], args := [d] }
  | _ => none }
def SumPartsWrongFalsely : Prop := sumPartsRow.holds Try.pinned (OpenSpec.ofChange sumPartsWrong)

/-- 'banksmanlaw02.SumNoughts': WHATEVER THE INPUT: true; the input reads as it did. -/
def sumNoughtsSpec : ChangeSpec := { name := "sumNoughts", fn := fun _ => fun
  | [d1, d2] => { results := [.lit (.bool true)], args := [d1, d2] }
  | _ => none }
def sumNoughtsRow : OpenClaim := { program := "ytcakpgfemmcnkaa", sum := "367f9c0ec68156c2c6f9cc2e7a834fec40443d5063075b92807d9c8c2aa1784e", func := "banksman/banksmanlaw02.SumNoughts", spec := "sumNoughts", unfollowed := true, recurses := true, apart := false }
def SumNoughtsSaid : Prop := sumNoughtsRow.holds Try.pinned (OpenSpec.ofChange sumNoughtsSpec)

/-- ITS FALSE NEIGHBOUR: 'it returns false'. Refute it at one input. -/
def sumNoughtsWrong : ChangeSpec := { name := "sumNoughts", fn := fun _ => fun
  | [d1, d2] => { results := [.lit (.bool false)], args := [d1, d2] }
  | _ => none }
def SumNoughtsWrongFalsely : Prop := sumNoughtsRow.holds Try.pinned (OpenSpec.ofChange sumNoughtsWrong)

/-- 'banksmanlaw02.SumSwaps': WHATEVER THE INPUT: true; the input reads as it did. -/
def sumSwapsSpec : ChangeSpec := { name := "sumSwaps", fn := fun _ => fun
  | [d1, d2] => { results := [.lit (.bool true)], args := [d1, d2] }
  | _ => none }
def sumSwapsRow : OpenClaim := { program := "ytcakpgfemmcnkaa", sum := "367f9c0ec68156c2c6f9cc2e7a834fec40443d5063075b92807d9c8c2aa1784e", func := "banksman/banksmanlaw02.SumSwaps", spec := "sumSwaps", unfollowed := true, recurses := true, apart := false }
def SumSwapsSaid : Prop := sumSwapsRow.holds Try.pinned (OpenSpec.ofChange sumSwapsSpec)

/-- ITS FALSE NEIGHBOUR: 'it returns false'. Refute it at one input. -/
def sumSwapsWrong : ChangeSpec := { name := "sumSwaps", fn := fun _ => fun
  | [d1, d2] => { results := [.lit (.bool false)], args := [d1, d2] }
  | _ => none }
def SumSwapsWrongFalsely : Prop := sumSwapsRow.holds Try.pinned (OpenSpec.ofChange sumSwapsWrong)

/- THE SECOND FORM. 'bulk': how many values and letters a reading holds, each counted each time it is reached (what is shared counts as often as it is met; a slice's spare places count too). A statement '..UptoSaid' is the law's where the arguments, and the package variables that the reading takes, are together of bulk at most 1048576: NARROWER than '..Said'. Prove '..Said' where nothing that the law and all that it calls make is longer than what came in: it says more and counts as full. Else prove '..UptoSaid'. A law counts once. -/
mutual
def uptoBulk {H : Type} : DataW H → Nat
  | .lit (.string bytes) => bytes.length + 1
  | .lit _ => 1
  | .nil => 1
  | .ptr d => uptoBulk d + 1
  | .slice elems spare => uptoBulkAll elems + uptoBulkAll spare + 1
  | .agg parts => uptoBulkAll parts + 1
  | .iface _ d => uptoBulk d + 1
  | .map entries => uptoBulkEntries entries + 1
  | .held _ => 1
def uptoBulkAll {H : Type} : List (DataW H) → Nat
  | [] => 0
  | d :: r => uptoBulk d + uptoBulkAll r
def uptoBulkEntries {H : Type} : List (Lit × DataW H) → Nat
  | [] => 0
  | x :: r => uptoBulkEntry x + uptoBulkEntries r
def uptoBulkEntry {H : Type} : Lit × DataW H → Nat
  | (.string bytes, d) => bytes.length + uptoBulk d + 1
  | (_, d) => uptoBulk d + 1
 end
def uptoSmall : (H : Type) → List (DataW H) → Bool := fun _ ds => decide (uptoBulkAll ds ≤ 1048576)
def OpenSpec.upto (s : _root_.Go.ChangeSpec) : _root_.Go.OpenSpec := { _root_.Go.OpenSpec.ofChange s with cond := some uptoSmall }

/-- 'banksmanlaw02.SumTells', WHERE WHAT IT READS IS OF BULK AT MOST 1048576: true; the input reads as it did. -/
def sumTellsUptoRow : OpenClaim := { program := "ytcakpgfemmcnkaa", sum := "367f9c0ec68156c2c6f9cc2e7a834fec40443d5063075b92807d9c8c2aa1784e", func := "banksman/banksmanlaw02.SumTells", spec := "sumTells", unfollowed := true, recurses := true, apart := false, narrowed := true }
def SumTellsUptoSaid : Prop := sumTellsUptoRow.holds Try.pinned (OpenSpec.upto sumTellsSpec)

/-- 'banksmanlaw02.SumJoins', WHERE WHAT IT READS IS OF BULK AT MOST 1048576: true; the input reads as it did. -/
def sumJoinsUptoRow : OpenClaim := { program := "ytcakpgfemmcnkaa", sum := "367f9c0ec68156c2c6f9cc2e7a834fec40443d5063075b92807d9c8c2aa1784e", func := "banksman/banksmanlaw02.SumJoins", spec := "sumJoins", unfollowed := true, recurses := true, apart := false, narrowed := true }
def SumJoinsUptoSaid : Prop := sumJoinsUptoRow.holds Try.pinned (OpenSpec.upto sumJoinsSpec)

/-- 'banksmanlaw02.SumByte', WHERE WHAT IT READS IS OF BULK AT MOST 1048576: true; the input reads as it did. -/
def sumByteUptoRow : OpenClaim := { program := "ytcakpgfemmcnkaa", sum := "367f9c0ec68156c2c6f9cc2e7a834fec40443d5063075b92807d9c8c2aa1784e", func := "banksman/banksmanlaw02.SumByte", spec := "sumByte", unfollowed := true, recurses := true, apart := false, narrowed := true }
def SumByteUptoSaid : Prop := sumByteUptoRow.holds Try.pinned (OpenSpec.upto sumByteSpec)

/-- 'banksmanlaw02.SumParts', WHERE WHAT IT READS IS OF BULK AT MOST 1048576: true; the input reads as it did. -/
def sumPartsUptoRow : OpenClaim := { program := "ytcakpgfemmcnkaa", sum := "367f9c0ec68156c2c6f9cc2e7a834fec40443d5063075b92807d9c8c2aa1784e", func := "banksman/banksmanlaw02.SumParts", spec := "sumParts", unfollowed := true, recurses := true, apart := false, narrowed := true }
def SumPartsUptoSaid : Prop := sumPartsUptoRow.holds Try.pinned (OpenSpec.upto sumPartsSpec)

/-- 'banksmanlaw02.SumNoughts', WHERE WHAT IT READS IS OF BULK AT MOST 1048576: true; the input reads as it did. -/
def sumNoughtsUptoRow : OpenClaim := { program := "ytcakpgfemmcnkaa", sum := "367f9c0ec68156c2c6f9cc2e7a834fec40443d5063075b92807d9c8c2aa1784e", func := "banksman/banksmanlaw02.SumNoughts", spec := "sumNoughts", unfollowed := true, recurses := true, apart := false, narrowed := true }
def SumNoughtsUptoSaid : Prop := sumNoughtsUptoRow.holds Try.pinned (OpenSpec.upto sumNoughtsSpec)

/-- 'banksmanlaw02.SumSwaps', WHERE WHAT IT READS IS OF BULK AT MOST 1048576: true; the input reads as it did. -/
def sumSwapsUptoRow : OpenClaim := { program := "ytcakpgfemmcnkaa", sum := "367f9c0ec68156c2c6f9cc2e7a834fec40443d5063075b92807d9c8c2aa1784e", func := "banksman/banksmanlaw02.SumSwaps", spec := "sumSwaps", unfollowed := true, recurses := true, apart := false, narrowed := true }
def SumSwapsUptoSaid : Prop := sumSwapsUptoRow.holds Try.pinned (OpenSpec.upto sumSwapsSpec)

end Rows
end Go.Proofs.Ytcakpgfemmcnkaa
