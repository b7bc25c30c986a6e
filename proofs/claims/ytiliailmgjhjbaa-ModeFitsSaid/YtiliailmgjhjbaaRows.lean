/-
  No cell of these rows narrows 'for every input' (looked for: loops, veiled, ifaces, maps, wideKeys, modest, calm, conditions, laid).
  DERIVED. THE GIVEN ROWS OF THIS SEAT. 4 by the template 'for every input the law returns true; each argument reads behind the call as it read before'; 0 by the template 'total and deterministic' (their statements: YtiliailmgjhjbaaTotals.lean).
  GIVEN WITH THE SEED: the statements are not yours to turn. If you find one false, say at which input.
  Laid BY PROGRAM, IN A SANDBOX (cutbox-rows.mjs): the forced cells as the released guide's own fill.sh prints them over the translation 6b192ba520f68168… (all of the seat's roots in one cut). By AI agents, Wed Nov 11 2026. No macro, syntax, notation, axiom, sorry.
-/
import Derived.Test.YtiliailmgjhjbaaChecked
import GoSem.Claim
import GoSem.ClaimJoined
import GoSem.ClaimMapViews
import Derived.JoinedTies
import Derived.KernelRfl
namespace Go.Proofs.Ytiliailmgjhjbaa
/- THE CELL 'sum', in the pinned program and in every row, IS THE sha256 OF THE DUMP (.gsa) THAT YtiliailmgjhjbaaProg.lean LOADS. Nothing in Lean hashes anything: it is a label: what it is worth is what the hold of that sum in a sandbox is worth. -/
noncomputable def Try.pinned : Pinned := { name := "ytiliailmgjhjbaa", sum := "6b192ba520f68168b56a9ab0ac434a20beb64b31646936924e16cfc0a6dd0257", checked := Try.checked }
namespace Rows
def none {H : Type} : Left H := { results := [], args := [] }

/-- 'banksmanlaw09.ModeTells': WHATEVER THE INPUT: true; the input reads as it did. -/
def modeTellsSpec : ChangeSpec := { name := "modeTells", fn := fun _ => fun
  | [d1, d2] => { results := [.lit (.bool true)], args := [d1, d2] }
  | _ => none }
def modeTellsRow : OpenClaim := { program := "ytiliailmgjhjbaa", sum := "6b192ba520f68168b56a9ab0ac434a20beb64b31646936924e16cfc0a6dd0257", func := "banksman/banksmanlaw09.ModeTells", spec := "modeTells", apart := false }
def ModeTellsSaid : Prop := modeTellsRow.holds Try.pinned (OpenSpec.ofChange modeTellsSpec)

/-- ITS FALSE NEIGHBOUR: 'it returns false'. Refute it at one input. -/
def modeTellsWrong : ChangeSpec := { name := "modeTells", fn := fun _ => fun
  | [d1, d2] => { results := [.lit (.bool false)], args := [d1, d2] }
  | _ => none }
def ModeTellsWrongFalsely : Prop := modeTellsRow.holds Try.pinned (OpenSpec.ofChange modeTellsWrong)

/-- 'banksmanlaw09.ModeJoins': WHATEVER THE INPUT: true; the input reads as it did. -/
def modeJoinsSpec : ChangeSpec := { name := "modeJoins", fn := fun _ => fun
  | [d1, d2, d3] => { results := [.lit (.bool true)], args := [d1, d2, d3] }
  | _ => none }
def modeJoinsRow : OpenClaim := { program := "ytiliailmgjhjbaa", sum := "6b192ba520f68168b56a9ab0ac434a20beb64b31646936924e16cfc0a6dd0257", func := "banksman/banksmanlaw09.ModeJoins", spec := "modeJoins", apart := false }
def ModeJoinsSaid : Prop := modeJoinsRow.holds Try.pinned (OpenSpec.ofChange modeJoinsSpec)

/-- ITS FALSE NEIGHBOUR: 'it returns false'. Refute it at one input. -/
def modeJoinsWrong : ChangeSpec := { name := "modeJoins", fn := fun _ => fun
  | [d1, d2, d3] => { results := [.lit (.bool false)], args := [d1, d2, d3] }
  | _ => none }
def ModeJoinsWrongFalsely : Prop := modeJoinsRow.holds Try.pinned (OpenSpec.ofChange modeJoinsWrong)

/-- 'banksmanlaw09.ModeFits': WHATEVER THE INPUT: true; the input reads as it did. -/
def modeFitsSpec : ChangeSpec := { name := "modeFits", fn := fun _ => fun
  | [d1, d2, d3] => { results := [.lit (.bool true)], args := [d1, d2, d3] }
  | _ => none }
def modeFitsRow : OpenClaim := { program := "ytiliailmgjhjbaa", sum := "6b192ba520f68168b56a9ab0ac434a20beb64b31646936924e16cfc0a6dd0257", func := "banksman/banksmanlaw09.ModeFits", spec := "modeFits", apart := false }
def ModeFitsSaid : Prop := modeFitsRow.holds Try.pinned (OpenSpec.ofChange modeFitsSpec)

/-- ITS FALSE NEIGHBOUR: 'it returns false'. Refute it at one input. -/
def modeFitsWrong : ChangeSpec := { name := "modeFits", fn := fun _ => fun
  | [d1, d2, d3] => { results := [.lit (.bool false)], args := [d1, d2, d3] }
  | _ => none }
def ModeFitsWrongFalsely : Prop := modeFitsRow.holds Try.pinned (OpenSpec.ofChange modeFitsWrong)

/-- 'banksmanlaw09.ModeUp': WHATEVER THE INPUT: true; the input reads as it did. -/
def modeUpSpec : ChangeSpec := { name := "modeUp", fn := fun _ => fun
  | [d1, d2, d3] => { results := [.lit (.bool true)], args := [d1, d2, d3] }
  | _ => none }
def modeUpRow : OpenClaim := { program := "ytiliailmgjhjbaa", sum := "6b192ba520f68168b56a9ab0ac434a20beb64b31646936924e16cfc0a6dd0257", func := "banksman/banksmanlaw09.ModeUp", spec := "modeUp", apart := false }
def ModeUpSaid : Prop := modeUpRow.holds Try.pinned (OpenSpec.ofChange modeUpSpec)

/-- ITS FALSE NEIGHBOUR: 'it returns false'. Refute it at one input. -/
def modeUpWrong : ChangeSpec := { name := "modeUp", fn := fun _ => fun
  | [d1, d2, d3] => { results := [.lit (.bool false)], args := [d1, d2, d3] }
  | _ => none }
def ModeUpWrongFalsely : Prop := modeUpRow.holds Try.pinned (OpenSpec.ofChange modeUpWrong)

/- THE SECOND FORM. 'bulk': how many values and letters a reading holds, each counted each time it is reached (what is shared counts as often as it is met; a slice's spare places count too). A statement '..UptoSaid' is the law's where the arguments, and the package variables that the reading takes, are together of bulk at most 1048576: NARROWER than '..Said'. Prove '..Said' where nothing that the law and all that it calls make is longer than what came in: it says more and counts as full. Else prove '..UptoSaid'. A law counts once. -/
mutual
def uptoBulk {H : Type} : DataW H → Nat
  | .lit (.string bytes) => bytes.length + 1
  | .lit _ => 1
  | .nil => 1
  | .ptr d => uptoBulk d + 1
  | .slice elems spare => uptoBulkAll elems + uptoBulkAll spare + 1
  | .agg parts => uptoBulkAll parts + 1
  | .iface _ d => uptoBulk d + 1
  | .map entries => uptoBulkEntries entries + 1
  | .held _ => 1
def uptoBulkAll {H : Type} : List (DataW H) → Nat
  | [] => 0
  | d :: r => uptoBulk d + uptoBulkAll r
def uptoBulkEntries {H : Type} : List (Lit × DataW H) → Nat
  | [] => 0
  | x :: r => uptoBulkEntry x + uptoBulkEntries r
def uptoBulkEntry {H : Type} : Lit × DataW H → Nat
  | (.string bytes, d) => bytes.length + uptoBulk d + 1
  | (_, d) => uptoBulk d + 1
 end
def uptoSmall : (H : Type) → List (DataW H) → Bool := fun _ ds => decide (uptoBulkAll ds ≤ 1048576)
def OpenSpec.upto (s : _root_.Go.ChangeSpec) : _root_.Go.OpenSpec := { _root_.Go.OpenSpec.ofChange s with cond := some uptoSmall }

/-- 'banksmanlaw09.ModeTells', WHERE WHAT IT READS IS OF BULK AT MOST 1048576: true; the input reads as it did. -/
def modeTellsUptoRow : OpenClaim := { program := "ytiliailmgjhjbaa", sum := "6b192ba520f68168b56a9ab0ac434a20beb64b31646936924e16cfc0a6dd0257", func := "banksman/banksmanlaw09.ModeTells", spec := "modeTells", apart := false, narrowed := true }
def ModeTellsUptoSaid : Prop := modeTellsUptoRow.holds Try.pinned (OpenSpec.upto modeTellsSpec)

/-- 'banksmanlaw09.ModeJoins', WHERE WHAT IT READS IS OF BULK AT MOST 1048576: true; the input reads as it did. -/
def modeJoinsUptoRow : OpenClaim := { program := "ytiliailmgjhjbaa", sum := "6b192ba520f68168b56a9ab0ac434a20beb64b31646936924e16cfc0a6dd0257", func := "banksman/banksmanlaw09.ModeJoins", spec := "modeJoins", apart := false, narrowed := true }
def ModeJoinsUptoSaid : Prop := modeJoinsUptoRow.holds Try.pinned (OpenSpec.upto modeJoinsSpec)

/-- 'banksmanlaw09.ModeFits', WHERE WHAT IT READS IS OF BULK AT MOST 1048576: true; the input reads as it did. -/
def modeFitsUptoRow : OpenClaim := { program := "ytiliailmgjhjbaa", sum := "6b192ba520f68168b56a9ab0ac434a20beb64b31646936924e16cfc0a6dd0257", func := "banksman/banksmanlaw09.ModeFits", spec := "modeFits", apart := false, narrowed := true }
def ModeFitsUptoSaid : Prop := modeFitsUptoRow.holds Try.pinned (OpenSpec.upto modeFitsSpec)

/-- 'banksmanlaw09.ModeUp', WHERE WHAT IT READS IS OF BULK AT MOST 1048576: true; the input reads as it did. -/
def modeUpUptoRow : OpenClaim := { program := "ytiliailmgjhjbaa", sum := "6b192ba520f68168b56a9ab0ac434a20beb64b31646936924e16cfc0a6dd0257", func := "banksman/banksmanlaw09.ModeUp", spec := "modeUp", apart := false, narrowed := true }
def ModeUpUptoSaid : Prop := modeUpUptoRow.holds Try.pinned (OpenSpec.upto modeUpSpec)

end Rows
end Go.Proofs.Ytiliailmgjhjbaa
