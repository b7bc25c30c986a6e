/-
  No cell of these rows narrows 'for every input' (looked for: loops, veiled, ifaces, maps, wideKeys, modest, calm, conditions, laid).
  DERIVED. THE GIVEN ROWS OF THIS SEAT. 5 by the template 'for every input the law returns true; each argument reads behind the call as it read before'; 0 by the template 'total and deterministic' (their statements: YtbenenpkbdldmaaTotals.lean).
  GIVEN WITH THE SEED: the statements are not yours to turn. If you find one false, say at which input.
  Laid BY PROGRAM, IN A SANDBOX (cutbox-rows.mjs): the forced cells as the released guide's own fill.sh prints them over the translation 4509b63d78da458e… (all of the seat's roots in one cut). By AI agents, Wed Nov 11 2026. No macro, syntax, notation, axiom, sorry.
-/
import Derived.Test.YtbenenpkbdldmaaChecked
import GoSem.Claim
import GoSem.ClaimJoined
import GoSem.ClaimMapViews
import Derived.JoinedTies
import Derived.KernelRfl
namespace Go.Proofs.Ytbenenpkbdldmaa
/- THE CELL 'sum', in the pinned program and in every row, IS THE sha256 OF THE DUMP (.gsa) THAT YtbenenpkbdldmaaProg.lean LOADS. Nothing in Lean hashes anything: it is a label: what it is worth is what the hold of that sum in a sandbox is worth. -/
noncomputable def Try.pinned : Pinned := { name := "ytbenenpkbdldmaa", sum := "4509b63d78da458e5d3c1e352db25a4141d1cbccc54ed16f7f2e5f456b597773", checked := Try.checked }
namespace Rows
def none {H : Type} : Left H := { results := [], args := [] }

/-- 'banksmanlaw04.WalCrashes': WHATEVER THE INPUT: true; the input reads as it did. -/
def walCrashesSpec : ChangeSpec := { name := "walCrashes", fn := fun _ => fun
  | [d1, d2, d3, d4] => { results := [.lit (.bool true)], args := [d1, d2, d3, d4] }
  | _ => none }
def walCrashesRow : OpenClaim := { program := "ytbenenpkbdldmaa", sum := "4509b63d78da458e5d3c1e352db25a4141d1cbccc54ed16f7f2e5f456b597773", func := "banksman/banksmanlaw04.WalCrashes", spec := "walCrashes", unfollowed := true, recurses := true, apart := false }
def WalCrashesSaid : Prop := walCrashesRow.holds Try.pinned (OpenSpec.ofChange walCrashesSpec)

/-- ITS FALSE NEIGHBOUR: 'it returns false'. Refute it at one input. -/
def walCrashesWrong : ChangeSpec := { name := "walCrashes", fn := fun _ => fun
  | [d1, d2, d3, d4] => { results := [.lit (.bool false)], args := [d1, d2, d3, d4] }
  | _ => none }
def WalCrashesWrongFalsely : Prop := walCrashesRow.holds Try.pinned (OpenSpec.ofChange walCrashesWrong)

/-- 'banksmanlaw04.WalParts': WHATEVER THE INPUT: true; the input reads as it did. -/
def walPartsSpec : ChangeSpec := { name := "walParts", fn := fun _ => fun
  | [d1, d2] => { results := [.lit (.bool true)], args := [d1, d2] }
  | _ => none }
def walPartsRow : OpenClaim := { program := "ytbenenpkbdldmaa", sum := "4509b63d78da458e5d3c1e352db25a4141d1cbccc54ed16f7f2e5f456b597773", func := "banksman/banksmanlaw04.WalParts", spec := "walParts", unfollowed := true, recurses := true, apart := false }
def WalPartsSaid : Prop := walPartsRow.holds Try.pinned (OpenSpec.ofChange walPartsSpec)

/-- ITS FALSE NEIGHBOUR: 'it returns false'. Refute it at one input. -/
def walPartsWrong : ChangeSpec := { name := "walParts", fn := fun _ => fun
  | [d1, d2] => { results := [.lit (.bool false)], args := [d1, d2] }
  | _ => none }
def WalPartsWrongFalsely : Prop := walPartsRow.holds Try.pinned (OpenSpec.ofChange walPartsWrong)

/-- 'banksmanlaw04.WalGoes': WHATEVER THE INPUT: true; the input reads as it did. -/
def walGoesSpec : ChangeSpec := { name := "walGoes", fn := fun _ => fun
  | [d1, d2, d3] => { results := [.lit (.bool true)], args := [d1, d2, d3] }
  | _ => none }
def walGoesRow : OpenClaim := { program := "ytbenenpkbdldmaa", sum := "4509b63d78da458e5d3c1e352db25a4141d1cbccc54ed16f7f2e5f456b597773", func := "banksman/banksmanlaw04.WalGoes", spec := "walGoes", unfollowed := true, recurses := true, apart := false }
def WalGoesSaid : Prop := walGoesRow.holds Try.pinned (OpenSpec.ofChange walGoesSpec)

/-- ITS FALSE NEIGHBOUR: 'it returns false'. Refute it at one input. -/
def walGoesWrong : ChangeSpec := { name := "walGoes", fn := fun _ => fun
  | [d1, d2, d3] => { results := [.lit (.bool false)], args := [d1, d2, d3] }
  | _ => none }
def WalGoesWrongFalsely : Prop := walGoesRow.holds Try.pinned (OpenSpec.ofChange walGoesWrong)

/-- 'banksmanlaw04.WalTrims': WHATEVER THE INPUT: true; the input reads as it did. -/
def walTrimsSpec : ChangeSpec := { name := "walTrims", fn := fun _ => fun
  | [d1, d2] => { results := [.lit (.bool true)], args := [d1, d2] }
  | _ => none }
def walTrimsRow : OpenClaim := { program := "ytbenenpkbdldmaa", sum := "4509b63d78da458e5d3c1e352db25a4141d1cbccc54ed16f7f2e5f456b597773", func := "banksman/banksmanlaw04.WalTrims", spec := "walTrims", unfollowed := true, recurses := true, apart := false }
def WalTrimsSaid : Prop := walTrimsRow.holds Try.pinned (OpenSpec.ofChange walTrimsSpec)

/-- ITS FALSE NEIGHBOUR: 'it returns false'. Refute it at one input. -/
def walTrimsWrong : ChangeSpec := { name := "walTrims", fn := fun _ => fun
  | [d1, d2] => { results := [.lit (.bool false)], args := [d1, d2] }
  | _ => none }
def WalTrimsWrongFalsely : Prop := walTrimsRow.holds Try.pinned (OpenSpec.ofChange walTrimsWrong)

/-- 'banksmanlaw04.WalSizes': WHATEVER THE INPUT: true; the input reads as it did. -/
def walSizesSpec : ChangeSpec := { name := "walSizes", fn := fun _ => fun
  | [d1, d2] => { results := [.lit (.bool true)], args := [d1, d2] }
  | _ => none }
def walSizesRow : OpenClaim := { program := "ytbenenpkbdldmaa", sum := "4509b63d78da458e5d3c1e352db25a4141d1cbccc54ed16f7f2e5f456b597773", func := "banksman/banksmanlaw04.WalSizes", spec := "walSizes", unfollowed := true, recurses := true, apart := false }
def WalSizesSaid : Prop := walSizesRow.holds Try.pinned (OpenSpec.ofChange walSizesSpec)

/-- ITS FALSE NEIGHBOUR: 'it returns false'. Refute it at one input. -/
def walSizesWrong : ChangeSpec := { name := "walSizes", fn := fun _ => fun
  | [d1, d2] => { results := [.lit (.bool false)], args := [d1, d2] }
  | _ => none }
def WalSizesWrongFalsely : Prop := walSizesRow.holds Try.pinned (OpenSpec.ofChange walSizesWrong)

/- THE SECOND FORM. 'bulk': how many values and letters a reading holds, each counted each time it is reached (what is shared counts as often as it is met; a slice's spare places count too). A statement '..UptoSaid' is the law's where the arguments, and the package variables that the reading takes, are together of bulk at most 1048576: NARROWER than '..Said'. Prove '..Said' where nothing that the law and all that it calls make is longer than what came in: it says more and counts as full. Else prove '..UptoSaid'. A law counts once. -/
mutual
def uptoBulk {H : Type} : DataW H → Nat
  | .lit (.string bytes) => bytes.length + 1
  | .lit _ => 1
  | .nil => 1
  | .ptr d => uptoBulk d + 1
  | .slice elems spare => uptoBulkAll elems + uptoBulkAll spare + 1
  | .agg parts => uptoBulkAll parts + 1
  | .iface _ d => uptoBulk d + 1
  | .map entries => uptoBulkEntries entries + 1
  | .held _ => 1
def uptoBulkAll {H : Type} : List (DataW H) → Nat
  | [] => 0
  | d :: r => uptoBulk d + uptoBulkAll r
def uptoBulkEntries {H : Type} : List (Lit × DataW H) → Nat
  | [] => 0
  | x :: r => uptoBulkEntry x + uptoBulkEntries r
def uptoBulkEntry {H : Type} : Lit × DataW H → Nat
  | (.string bytes, d) => bytes.length + uptoBulk d + 1
  | (_, d) => uptoBulk d + 1
 end
def uptoSmall : (H : Type) → List (DataW H) → Bool := fun _ ds => decide (uptoBulkAll ds ≤ 1048576)
def OpenSpec.upto (s : _root_.Go.ChangeSpec) : _root_.Go.OpenSpec := { _root_.Go.OpenSpec.ofChange s with cond := some uptoSmall }

/-- 'banksmanlaw04.WalCrashes', WHERE WHAT IT READS IS OF BULK AT MOST 1048576: true; the input reads as it did. -/
def walCrashesUptoRow : OpenClaim := { program := "ytbenenpkbdldmaa", sum := "4509b63d78da458e5d3c1e352db25a4141d1cbccc54ed16f7f2e5f456b597773", func := "banksman/banksmanlaw04.WalCrashes", spec := "walCrashes", unfollowed := true, recurses := true, apart := false, narrowed := true }
def WalCrashesUptoSaid : Prop := walCrashesUptoRow.holds Try.pinned (OpenSpec.upto walCrashesSpec)

/-- 'banksmanlaw04.WalParts', WHERE WHAT IT READS IS OF BULK AT MOST 1048576: true; the input reads as it did. -/
def walPartsUptoRow : OpenClaim := { program := "ytbenenpkbdldmaa", sum := "4509b63d78da458e5d3c1e352db25a4141d1cbccc54ed16f7f2e5f456b597773", func := "banksman/banksmanlaw04.WalParts", spec := "walParts", unfollowed := true, recurses := true, apart := false, narrowed := true }
def WalPartsUptoSaid : Prop := walPartsUptoRow.holds Try.pinned (OpenSpec.upto walPartsSpec)

/-- 'banksmanlaw04.WalGoes', WHERE WHAT IT READS IS OF BULK AT MOST 1048576: true; the input reads as it did. -/
def walGoesUptoRow : OpenClaim := { program := "ytbenenpkbdldmaa", sum := "4509b63d78da458e5d3c1e352db25a4141d1cbccc54ed16f7f2e5f456b597773", func := "banksman/banksmanlaw04.WalGoes", spec := "walGoes", unfollowed := true, recurses := true, apart := false, narrowed := true }
def WalGoesUptoSaid : Prop := walGoesUptoRow.holds Try.pinned (OpenSpec.upto walGoesSpec)

/-- 'banksmanlaw04.WalTrims', WHERE WHAT IT READS IS OF BULK AT MOST 1048576: true; the input reads as it did. -/
def walTrimsUptoRow : OpenClaim := { program := "ytbenenpkbdldmaa", sum := "4509b63d78da458e5d3c1e352db25a4141d1cbccc54ed16f7f2e5f456b597773", func := "banksman/banksmanlaw04.WalTrims", spec := "walTrims", unfollowed := true, recurses := true, apart := false, narrowed := true }
def WalTrimsUptoSaid : Prop := walTrimsUptoRow.holds Try.pinned (OpenSpec.upto walTrimsSpec)

/-- 'banksmanlaw04.WalSizes', WHERE WHAT IT READS IS OF BULK AT MOST 1048576: true; the input reads as it did. -/
def walSizesUptoRow : OpenClaim := { program := "ytbenenpkbdldmaa", sum := "4509b63d78da458e5d3c1e352db25a4141d1cbccc54ed16f7f2e5f456b597773", func := "banksman/banksmanlaw04.WalSizes", spec := "walSizes", unfollowed := true, recurses := true, apart := false, narrowed := true }
def WalSizesUptoSaid : Prop := walSizesUptoRow.holds Try.pinned (OpenSpec.upto walSizesSpec)

end Rows
end Go.Proofs.Ytbenenpkbdldmaa
