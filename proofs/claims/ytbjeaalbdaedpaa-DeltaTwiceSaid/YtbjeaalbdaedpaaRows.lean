/-
  No cell of these rows narrows 'for every input' (looked for: loops, veiled, ifaces, maps, wideKeys, modest, calm, conditions, laid).
  DERIVED. THE GIVEN ROWS OF THIS SEAT. 5 by the template 'for every input the law returns true; each argument reads behind the call as it read before'; 0 by the template 'total and deterministic' (their statements: YtbjeaalbdaedpaaTotals.lean).
  GIVEN WITH THE SEED: the statements are not yours to turn. If you find one false, say at which input.
  Laid BY PROGRAM, IN A SANDBOX (cutbox-rows.mjs): the forced cells as the released guide's own fill.sh prints them over the translation 168a970679070448… (all of the seat's roots in one cut). By AI agents, Wed Nov 11 2026. No macro, syntax, notation, axiom, sorry.
-/
import Derived.Test.YtbjeaalbdaedpaaChecked
import GoSem.Claim
import GoSem.ClaimJoined
import GoSem.ClaimMapViews
import Derived.JoinedTies
import Derived.KernelRfl
namespace Go.Proofs.Ytbjeaalbdaedpaa
/- THE CELL 'sum', in the pinned program and in every row, IS THE sha256 OF THE DUMP (.gsa) THAT YtbjeaalbdaedpaaProg.lean LOADS. Nothing in Lean hashes anything: it is a label: what it is worth is what the hold of that sum in a sandbox is worth. -/
noncomputable def Try.pinned : Pinned := { name := "ytbjeaalbdaedpaa", sum := "168a970679070448d39015c77fc122ca0675ab5157af0f0f7b24ce71ba98dd1f", checked := Try.checked }
namespace Rows
def none {H : Type} : Left H := { results := [], args := [] }

/-- 'banksmanlaw08.DeltaDoes': WHATEVER THE INPUT: true; the input reads as it did. -/
def deltaDoesSpec : ChangeSpec := { name := "deltaDoes", fn := fun _ => fun
  | [d1, d2, d3] => { results := [.lit (.bool true)], args := [d1, d2, d3] }
  | _ => none }
def deltaDoesRow : OpenClaim := { program := "ytbjeaalbdaedpaa", sum := "168a970679070448d39015c77fc122ca0675ab5157af0f0f7b24ce71ba98dd1f", func := "banksman/banksmanlaw08.DeltaDoes", spec := "deltaDoes", inPlace := ["internal/bytealg.Compare", "slices.overlaps[banksman/api.Pair]"], unfollowed := true, recurses := true, plainKeys := false, apart := false }
def DeltaDoesSaid : Prop := deltaDoesRow.holds Try.pinned (OpenSpec.ofChange deltaDoesSpec)

/-- ITS FALSE NEIGHBOUR: 'it returns false'. Refute it at one input. -/
def deltaDoesWrong : ChangeSpec := { name := "deltaDoes", fn := fun _ => fun
  | [d1, d2, d3] => { results := [.lit (.bool false)], args := [d1, d2, d3] }
  | _ => none }
def DeltaDoesWrongFalsely : Prop := deltaDoesRow.holds Try.pinned (OpenSpec.ofChange deltaDoesWrong)

/-- 'banksmanlaw08.DeltaTells': WHATEVER THE INPUT: true; the input reads as it did. -/
def deltaTellsSpec : ChangeSpec := { name := "deltaTells", fn := fun _ => fun
  | [d1, d2, d3, d4, d5] => { results := [.lit (.bool true)], args := [d1, d2, d3, d4, d5] }
  | _ => none }
def deltaTellsRow : OpenClaim := { program := "ytbjeaalbdaedpaa", sum := "168a970679070448d39015c77fc122ca0675ab5157af0f0f7b24ce71ba98dd1f", func := "banksman/banksmanlaw08.DeltaTells", spec := "deltaTells", inPlace := ["internal/bytealg.Compare", "slices.overlaps[banksman/api.Pair]"], unfollowed := true, recurses := true, plainKeys := false, apart := false }
def DeltaTellsSaid : Prop := deltaTellsRow.holds Try.pinned (OpenSpec.ofChange deltaTellsSpec)

/-- ITS FALSE NEIGHBOUR: 'it returns false'. Refute it at one input. -/
def deltaTellsWrong : ChangeSpec := { name := "deltaTells", fn := fun _ => fun
  | [d1, d2, d3, d4, d5] => { results := [.lit (.bool false)], args := [d1, d2, d3, d4, d5] }
  | _ => none }
def DeltaTellsWrongFalsely : Prop := deltaTellsRow.holds Try.pinned (OpenSpec.ofChange deltaTellsWrong)

/-- 'banksmanlaw08.DeltaBack': WHATEVER THE INPUT: true; the input reads as it did. -/
def deltaBackSpec : ChangeSpec := { name := "deltaBack", fn := fun _ => fun
  | [d1, d2, d3] => { results := [.lit (.bool true)], args := [d1, d2, d3] }
  | _ => none }
def deltaBackRow : OpenClaim := { program := "ytbjeaalbdaedpaa", sum := "168a970679070448d39015c77fc122ca0675ab5157af0f0f7b24ce71ba98dd1f", func := "banksman/banksmanlaw08.DeltaBack", spec := "deltaBack", inPlace := ["internal/bytealg.Compare", "slices.overlaps[banksman/api.Pair]"], unfollowed := true, recurses := true, plainKeys := false, apart := false }
def DeltaBackSaid : Prop := deltaBackRow.holds Try.pinned (OpenSpec.ofChange deltaBackSpec)

/-- ITS FALSE NEIGHBOUR: 'it returns false'. Refute it at one input. -/
def deltaBackWrong : ChangeSpec := { name := "deltaBack", fn := fun _ => fun
  | [d1, d2, d3] => { results := [.lit (.bool false)], args := [d1, d2, d3] }
  | _ => none }
def DeltaBackWrongFalsely : Prop := deltaBackRow.holds Try.pinned (OpenSpec.ofChange deltaBackWrong)

/-- 'banksmanlaw08.DeltaOver': WHATEVER THE INPUT: true; the input reads as it did. -/
def deltaOverSpec : ChangeSpec := { name := "deltaOver", fn := fun _ => fun
  | [d1, d2, d3, d4] => { results := [.lit (.bool true)], args := [d1, d2, d3, d4] }
  | _ => none }
def deltaOverRow : OpenClaim := { program := "ytbjeaalbdaedpaa", sum := "168a970679070448d39015c77fc122ca0675ab5157af0f0f7b24ce71ba98dd1f", func := "banksman/banksmanlaw08.DeltaOver", spec := "deltaOver", inPlace := ["internal/bytealg.Compare", "slices.overlaps[banksman/api.Pair]"], unfollowed := true, recurses := true, plainKeys := false, apart := false }
def DeltaOverSaid : Prop := deltaOverRow.holds Try.pinned (OpenSpec.ofChange deltaOverSpec)

/-- ITS FALSE NEIGHBOUR: 'it returns false'. Refute it at one input. -/
def deltaOverWrong : ChangeSpec := { name := "deltaOver", fn := fun _ => fun
  | [d1, d2, d3, d4] => { results := [.lit (.bool false)], args := [d1, d2, d3, d4] }
  | _ => none }
def DeltaOverWrongFalsely : Prop := deltaOverRow.holds Try.pinned (OpenSpec.ofChange deltaOverWrong)

/-- 'banksmanlaw08.DeltaTwice': WHATEVER THE INPUT: true; the input reads as it did. -/
def deltaTwiceSpec : ChangeSpec := { name := "deltaTwice", fn := fun _ => fun
  | [d1, d2, d3] => { results := [.lit (.bool true)], args := [d1, d2, d3] }
  | _ => none }
def deltaTwiceRow : OpenClaim := { program := "ytbjeaalbdaedpaa", sum := "168a970679070448d39015c77fc122ca0675ab5157af0f0f7b24ce71ba98dd1f", func := "banksman/banksmanlaw08.DeltaTwice", spec := "deltaTwice", inPlace := ["internal/bytealg.Compare", "slices.overlaps[banksman/api.Pair]"], unfollowed := true, recurses := true, plainKeys := false, apart := false }
def DeltaTwiceSaid : Prop := deltaTwiceRow.holds Try.pinned (OpenSpec.ofChange deltaTwiceSpec)

/-- ITS FALSE NEIGHBOUR: 'it returns false'. Refute it at one input. -/
def deltaTwiceWrong : ChangeSpec := { name := "deltaTwice", fn := fun _ => fun
  | [d1, d2, d3] => { results := [.lit (.bool false)], args := [d1, d2, d3] }
  | _ => none }
def DeltaTwiceWrongFalsely : Prop := deltaTwiceRow.holds Try.pinned (OpenSpec.ofChange deltaTwiceWrong)

/- THE SECOND FORM. 'bulk': how many values and letters a reading holds, each counted each time it is reached (what is shared counts as often as it is met; a slice's spare places count too). A statement '..UptoSaid' is the law's where the arguments, and the package variables that the reading takes, are together of bulk at most 1048576: NARROWER than '..Said'. Prove '..Said' where nothing that the law and all that it calls make is longer than what came in: it says more and counts as full. Else prove '..UptoSaid'. A law counts once. -/
mutual
def uptoBulk {H : Type} : DataW H → Nat
  | .lit (.string bytes) => bytes.length + 1
  | .lit _ => 1
  | .nil => 1
  | .ptr d => uptoBulk d + 1
  | .slice elems spare => uptoBulkAll elems + uptoBulkAll spare + 1
  | .agg parts => uptoBulkAll parts + 1
  | .iface _ d => uptoBulk d + 1
  | .map entries => uptoBulkEntries entries + 1
  | .held _ => 1
def uptoBulkAll {H : Type} : List (DataW H) → Nat
  | [] => 0
  | d :: r => uptoBulk d + uptoBulkAll r
def uptoBulkEntries {H : Type} : List (Lit × DataW H) → Nat
  | [] => 0
  | x :: r => uptoBulkEntry x + uptoBulkEntries r
def uptoBulkEntry {H : Type} : Lit × DataW H → Nat
  | (.string bytes, d) => bytes.length + uptoBulk d + 1
  | (_, d) => uptoBulk d + 1
 end
def uptoSmall : (H : Type) → List (DataW H) → Bool := fun _ ds => decide (uptoBulkAll ds ≤ 1048576)
def OpenSpec.upto (s : _root_.Go.ChangeSpec) : _root_.Go.OpenSpec := { _root_.Go.OpenSpec.ofChange s with cond := some uptoSmall }

/-- 'banksmanlaw08.DeltaDoes', WHERE WHAT IT READS IS OF BULK AT MOST 1048576: true; the input reads as it did. -/
def deltaDoesUptoRow : OpenClaim := { program := "ytbjeaalbdaedpaa", sum := "168a970679070448d39015c77fc122ca0675ab5157af0f0f7b24ce71ba98dd1f", func := "banksman/banksmanlaw08.DeltaDoes", spec := "deltaDoes", inPlace := ["internal/bytealg.Compare", "slices.overlaps[banksman/api.Pair]"], unfollowed := true, recurses := true, plainKeys := false, apart := false, narrowed := true }
def DeltaDoesUptoSaid : Prop := deltaDoesUptoRow.holds Try.pinned (OpenSpec.upto deltaDoesSpec)

/-- 'banksmanlaw08.DeltaTells', WHERE WHAT IT READS IS OF BULK AT MOST 1048576: true; the input reads as it did. -/
def deltaTellsUptoRow : OpenClaim := { program := "ytbjeaalbdaedpaa", sum := "168a970679070448d39015c77fc122ca0675ab5157af0f0f7b24ce71ba98dd1f", func := "banksman/banksmanlaw08.DeltaTells", spec := "deltaTells", inPlace := ["internal/bytealg.Compare", "slices.overlaps[banksman/api.Pair]"], unfollowed := true, recurses := true, plainKeys := false, apart := false, narrowed := true }
def DeltaTellsUptoSaid : Prop := deltaTellsUptoRow.holds Try.pinned (OpenSpec.upto deltaTellsSpec)

/-- 'banksmanlaw08.DeltaBack', WHERE WHAT IT READS IS OF BULK AT MOST 1048576: true; the input reads as it did. -/
def deltaBackUptoRow : OpenClaim := { program := "ytbjeaalbdaedpaa", sum := "168a970679070448d39015c77fc122ca0675ab5157af0f0f7b24ce71ba98dd1f", func := "banksman/banksmanlaw08.DeltaBack", spec := "deltaBack", inPlace := ["internal/bytealg.Compare", "slices.overlaps[banksman/api.Pair]"], unfollowed := true, recurses := true, plainKeys := false, apart := false, narrowed := true }
def DeltaBackUptoSaid : Prop := deltaBackUptoRow.holds Try.pinned (OpenSpec.upto deltaBackSpec)

/-- 'banksmanlaw08.DeltaOver', WHERE WHAT IT READS IS OF BULK AT MOST 1048576: true; the input reads as it did. -/
def deltaOverUptoRow : OpenClaim := { program := "ytbjeaalbdaedpaa", sum := "168a970679070448d39015c77fc122ca0675ab5157af0f0f7b24ce71ba98dd1f", func := "banksman/banksmanlaw08.DeltaOver", spec := "deltaOver", inPlace := ["internal/bytealg.Compare", "slices.overlaps[banksman/api.Pair]"], unfollowed := true, recurses := true, plainKeys := false, apart := false, narrowed := true }
def DeltaOverUptoSaid : Prop := deltaOverUptoRow.holds Try.pinned (OpenSpec.upto deltaOverSpec)

/-- 'banksmanlaw08.DeltaTwice', WHERE WHAT IT READS IS OF BULK AT MOST 1048576: true; the input reads as it did. -/
def deltaTwiceUptoRow : OpenClaim := { program := "ytbjeaalbdaedpaa", sum := "168a970679070448d39015c77fc122ca0675ab5157af0f0f7b24ce71ba98dd1f", func := "banksman/banksmanlaw08.DeltaTwice", spec := "deltaTwice", inPlace := ["internal/bytealg.Compare", "slices.overlaps[banksman/api.Pair]"], unfollowed := true, recurses := true, plainKeys := false, apart := false, narrowed := true }
def DeltaTwiceUptoSaid : Prop := deltaTwiceUptoRow.holds Try.pinned (OpenSpec.upto deltaTwiceSpec)

end Rows
end Go.Proofs.Ytbjeaalbdaedpaa
