/-
  No cell of these rows narrows 'for every input' (looked for: loops, veiled, ifaces, maps, wideKeys, modest, calm, conditions, laid).
  DERIVED. THE GIVEN ROWS OF THIS SEAT. 7 by the template 'for every input the law returns true; each argument reads behind the call as it read before'; 0 by the template 'total and deterministic' (their statements: YthfiochgkmggoaaTotals.lean).
  GIVEN WITH THE SEED: the statements are not yours to turn. If you find one false, say at which input.
  Laid BY PROGRAM, IN A SANDBOX (cutbox-rows.mjs): the forced cells as the released guide's own fill.sh prints them over the translation 6ada28f70959f678… (all of the seat's roots in one cut). By AI agents, Wed Nov 11 2026. No macro, syntax, notation, axiom, sorry.
-/
import Derived.Test.YthfiochgkmggoaaChecked
import GoSem.Claim
import GoSem.ClaimJoined
import GoSem.ClaimMapViews
import Derived.JoinedTies
import Derived.KernelRfl
namespace Go.Proofs.Ythfiochgkmggoaa
/- THE CELL 'sum', in the pinned program and in every row, IS THE sha256 OF THE DUMP (.gsa) THAT YthfiochgkmggoaaProg.lean LOADS. Nothing in Lean hashes anything: it is a label: what it is worth is what the hold of that sum in a sandbox is worth. -/
noncomputable def Try.pinned : Pinned := { name := "ythfiochgkmggoaa", sum := "6ada28f70959f678e4a25ddf359d04eccea55210155c881d973681f036b926d3", checked := Try.checked }
namespace Rows
def none {H : Type} : Left H := { results := [], args := [] }

/-- 'banksmanlaw01.OctetNumbers': WHATEVER THE INPUT: true; the input reads as it did. -/
def octetNumbersSpec : ChangeSpec := { name := "octetNumbers", fn := fun _ => fun
  | [d1, d2] => { results := [.lit (.bool true)], args := [d1, d2] }
  | _ => none }
def octetNumbersRow : OpenClaim := { program := "ythfiochgkmggoaa", sum := "6ada28f70959f678e4a25ddf359d04eccea55210155c881d973681f036b926d3", func := "banksman/banksmanlaw01.OctetNumbers", spec := "octetNumbers", unfollowed := true, recurses := true, apart := false }
def OctetNumbersSaid : Prop := octetNumbersRow.holds Try.pinned (OpenSpec.ofChange octetNumbersSpec)

/-- ITS FALSE NEIGHBOUR: 'it returns false'. Refute it at one input. -/
def octetNumbersWrong : ChangeSpec := { name := "octetNumbers", fn := fun _ => fun
  | [d1, d2] => { results := [.lit (.bool false)], args := [d1, d2] }
  | _ => none }
def OctetNumbersWrongFalsely : Prop := octetNumbersRow.holds Try.pinned (OpenSpec.ofChange octetNumbersWrong)

/-- 'banksmanlaw01.OctetTexts': WHATEVER THE INPUT: true; the input reads as it did. -/
def octetTextsSpec : ChangeSpec := { name := "octetTexts", fn := fun _ => fun
  | [d1, d2] => { results := [.lit (.bool true)], args := [d1, d2] }
  | _ => none }
def octetTextsRow : OpenClaim := { program := "ythfiochgkmggoaa", sum := "6ada28f70959f678e4a25ddf359d04eccea55210155c881d973681f036b926d3", func := "banksman/banksmanlaw01.OctetTexts", spec := "octetTexts", unfollowed := true, recurses := true, apart := false }
def OctetTextsSaid : Prop := octetTextsRow.holds Try.pinned (OpenSpec.ofChange octetTextsSpec)

/-- ITS FALSE NEIGHBOUR: 'it returns false'. Refute it at one input. -/
def octetTextsWrong : ChangeSpec := { name := "octetTexts", fn := fun _ => fun
  | [d1, d2] => { results := [.lit (.bool false)], args := [d1, d2] }
  | _ => none }
def OctetTextsWrongFalsely : Prop := octetTextsRow.holds Try.pinned (OpenSpec.ofChange octetTextsWrong)

/-- 'banksmanlaw01.OctetBack': WHATEVER THE INPUT: true; the input reads as it did. -/
def octetBackSpec : ChangeSpec := { name := "octetBack", fn := fun _ => fun
  | [d1, d2, d3] => { results := [.lit (.bool true)], args := [d1, d2, d3] }
  | _ => none }
def octetBackRow : OpenClaim := { program := "ythfiochgkmggoaa", sum := "6ada28f70959f678e4a25ddf359d04eccea55210155c881d973681f036b926d3", func := "banksman/banksmanlaw01.OctetBack", spec := "octetBack", unfollowed := true, recurses := true, apart := false }
def OctetBackSaid : Prop := octetBackRow.holds Try.pinned (OpenSpec.ofChange octetBackSpec)

/-- ITS FALSE NEIGHBOUR: 'it returns false'. Refute it at one input. -/
def octetBackWrong : ChangeSpec := { name := "octetBack", fn := fun _ => fun
  | [d1, d2, d3] => { results := [.lit (.bool false)], args := [d1, d2, d3] }
  | _ => none }
def OctetBackWrongFalsely : Prop := octetBackRow.holds Try.pinned (OpenSpec.ofChange octetBackWrong)

/-- 'banksmanlaw01.OctetApart': WHATEVER THE INPUT: true; the input reads as it did. -/
def octetApartSpec : ChangeSpec := { name := "octetApart", fn := fun _ => fun
  | [d1, d2] => { results := [.lit (.bool true)], args := [d1, d2] }
  | _ => none }
def octetApartRow : OpenClaim := { program := "ythfiochgkmggoaa", sum := "6ada28f70959f678e4a25ddf359d04eccea55210155c881d973681f036b926d3", func := "banksman/banksmanlaw01.OctetApart", spec := "octetApart", unfollowed := true, recurses := true, apart := false }
def OctetApartSaid : Prop := octetApartRow.holds Try.pinned (OpenSpec.ofChange octetApartSpec)

/-- ITS FALSE NEIGHBOUR: 'it returns false'. Refute it at one input. -/
def octetApartWrong : ChangeSpec := { name := "octetApart", fn := fun _ => fun
  | [d1, d2] => { results := [.lit (.bool false)], args := [d1, d2] }
  | _ => none }
def OctetApartWrongFalsely : Prop := octetApartRow.holds Try.pinned (OpenSpec.ofChange octetApartWrong)

/-- 'banksmanlaw01.OctetMany': WHATEVER THE INPUT: true; the input reads as it did. -/
def octetManySpec : ChangeSpec := { name := "octetMany", fn := fun _ => fun
  | [d] => { results := [.lit (.bool true)], args := [d] }
  | _ => none }
def octetManyRow : OpenClaim := { program := "ythfiochgkmggoaa", sum := "6ada28f70959f678e4a25ddf359d04eccea55210155c881d973681f036b926d3", func := "banksman/banksmanlaw01.OctetMany", spec := "octetMany", unfollowed := true, recurses := true, apart := false }
def OctetManySaid : Prop := octetManyRow.holds Try.pinned (OpenSpec.ofChange octetManySpec)

/-- ITS FALSE NEIGHBOUR: 'it returns false'. Refute it at one input. -/
def octetManyWrong : ChangeSpec := { name := "octetMany", fn := fun _ => fun
  | [d] => { results := [.lit (.bool false)], args := [d] }
  | _ => none }
def OctetManyWrongFalsely : Prop := octetManyRow.holds Try.pinned (OpenSpec.ofChange octetManyWrong)

/-- 'banksmanlaw01.OctetSizes': WHATEVER THE INPUT: true; the input reads as it did. -/
def octetSizesSpec : ChangeSpec := { name := "octetSizes", fn := fun _ => fun
  | [d1, d2, d3] => { results := [.lit (.bool true)], args := [d1, d2, d3] }
  | _ => none }
def octetSizesRow : OpenClaim := { program := "ythfiochgkmggoaa", sum := "6ada28f70959f678e4a25ddf359d04eccea55210155c881d973681f036b926d3", func := "banksman/banksmanlaw01.OctetSizes", spec := "octetSizes", unfollowed := true, recurses := true, apart := false }
def OctetSizesSaid : Prop := octetSizesRow.holds Try.pinned (OpenSpec.ofChange octetSizesSpec)

/-- ITS FALSE NEIGHBOUR: 'it returns false'. Refute it at one input. -/
def octetSizesWrong : ChangeSpec := { name := "octetSizes", fn := fun _ => fun
  | [d1, d2, d3] => { results := [.lit (.bool false)], args := [d1, d2, d3] }
  | _ => none }
def OctetSizesWrongFalsely : Prop := octetSizesRow.holds Try.pinned (OpenSpec.ofChange octetSizesWrong)

/-- 'banksmanlaw01.OctetNested': WHATEVER THE INPUT: true; the input reads as it did. -/
def octetNestedSpec : ChangeSpec := { name := "octetNested", fn := fun _ => fun
  | [d] => { results := [.lit (.bool true)], args := [d] }
  | _ => none }
def octetNestedRow : OpenClaim := { program := "ythfiochgkmggoaa", sum := "6ada28f70959f678e4a25ddf359d04eccea55210155c881d973681f036b926d3", func := "banksman/banksmanlaw01.OctetNested", spec := "octetNested", unfollowed := true, recurses := true, apart := false }
def OctetNestedSaid : Prop := octetNestedRow.holds Try.pinned (OpenSpec.ofChange octetNestedSpec)

/-- ITS FALSE NEIGHBOUR: 'it returns false'. Refute it at one input. -/
def octetNestedWrong : ChangeSpec := { name := "octetNested", fn := fun _ => fun
  | [d] => { results := [.lit (.bool false)], args := [d] }
  | _ => none }
def OctetNestedWrongFalsely : Prop := octetNestedRow.holds Try.pinned (OpenSpec.ofChange octetNestedWrong)

/- THE SECOND FORM. 'bulk': how many values and letters a reading holds, each counted each time it is reached (what is shared counts as often as it is met; a slice's spare places count too). A statement '..UptoSaid' is the law's where the arguments, and the package variables that the reading takes, are together of bulk at most 1048576: NARROWER than '..Said'. Prove '..Said' where nothing that the law and all that it calls make is longer than what came in: it says more and counts as full. Else prove '..UptoSaid'. A law counts once. -/
mutual
def uptoBulk {H : Type} : DataW H → Nat
  | .lit (.string bytes) => bytes.length + 1
  | .lit _ => 1
  | .nil => 1
  | .ptr d => uptoBulk d + 1
  | .slice elems spare => uptoBulkAll elems + uptoBulkAll spare + 1
  | .agg parts => uptoBulkAll parts + 1
  | .iface _ d => uptoBulk d + 1
  | .map entries => uptoBulkEntries entries + 1
  | .held _ => 1
def uptoBulkAll {H : Type} : List (DataW H) → Nat
  | [] => 0
  | d :: r => uptoBulk d + uptoBulkAll r
def uptoBulkEntries {H : Type} : List (Lit × DataW H) → Nat
  | [] => 0
  | x :: r => uptoBulkEntry x + uptoBulkEntries r
def uptoBulkEntry {H : Type} : Lit × DataW H → Nat
  | (.string bytes, d) => bytes.length + uptoBulk d + 1
  | (_, d) => uptoBulk d + 1
 end
def uptoSmall : (H : Type) → List (DataW H) → Bool := fun _ ds => decide (uptoBulkAll ds ≤ 1048576)
def OpenSpec.upto (s : _root_.Go.ChangeSpec) : _root_.Go.OpenSpec := { _root_.Go.OpenSpec.ofChange s with cond := some uptoSmall }

/-- 'banksmanlaw01.OctetNumbers', WHERE WHAT IT READS IS OF BULK AT MOST 1048576: true; the input reads as it did. -/
def octetNumbersUptoRow : OpenClaim := { program := "ythfiochgkmggoaa", sum := "6ada28f70959f678e4a25ddf359d04eccea55210155c881d973681f036b926d3", func := "banksman/banksmanlaw01.OctetNumbers", spec := "octetNumbers", unfollowed := true, recurses := true, apart := false, narrowed := true }
def OctetNumbersUptoSaid : Prop := octetNumbersUptoRow.holds Try.pinned (OpenSpec.upto octetNumbersSpec)

/-- 'banksmanlaw01.OctetTexts', WHERE WHAT IT READS IS OF BULK AT MOST 1048576: true; the input reads as it did. -/
def octetTextsUptoRow : OpenClaim := { program := "ythfiochgkmggoaa", sum := "6ada28f70959f678e4a25ddf359d04eccea55210155c881d973681f036b926d3", func := "banksman/banksmanlaw01.OctetTexts", spec := "octetTexts", unfollowed := true, recurses := true, apart := false, narrowed := true }
def OctetTextsUptoSaid : Prop := octetTextsUptoRow.holds Try.pinned (OpenSpec.upto octetTextsSpec)

/-- 'banksmanlaw01.OctetBack', WHERE WHAT IT READS IS OF BULK AT MOST 1048576: true; the input reads as it did. -/
def octetBackUptoRow : OpenClaim := { program := "ythfiochgkmggoaa", sum := "6ada28f70959f678e4a25ddf359d04eccea55210155c881d973681f036b926d3", func := "banksman/banksmanlaw01.OctetBack", spec := "octetBack", unfollowed := true, recurses := true, apart := false, narrowed := true }
def OctetBackUptoSaid : Prop := octetBackUptoRow.holds Try.pinned (OpenSpec.upto octetBackSpec)

/-- 'banksmanlaw01.OctetApart', WHERE WHAT IT READS IS OF BULK AT MOST 1048576: true; the input reads as it did. -/
def octetApartUptoRow : OpenClaim := { program := "ythfiochgkmggoaa", sum := "6ada28f70959f678e4a25ddf359d04eccea55210155c881d973681f036b926d3", func := "banksman/banksmanlaw01.OctetApart", spec := "octetApart", unfollowed := true, recurses := true, apart := false, narrowed := true }
def OctetApartUptoSaid : Prop := octetApartUptoRow.holds Try.pinned (OpenSpec.upto octetApartSpec)

/-- 'banksmanlaw01.OctetMany', WHERE WHAT IT READS IS OF BULK AT MOST 1048576: true; the input reads as it did. -/
def octetManyUptoRow : OpenClaim := { program := "ythfiochgkmggoaa", sum := "6ada28f70959f678e4a25ddf359d04eccea55210155c881d973681f036b926d3", func := "banksman/banksmanlaw01.OctetMany", spec := "octetMany", unfollowed := true, recurses := true, apart := false, narrowed := true }
def OctetManyUptoSaid : Prop := octetManyUptoRow.holds Try.pinned (OpenSpec.upto octetManySpec)

/-- 'banksmanlaw01.OctetSizes', WHERE WHAT IT READS IS OF BULK AT MOST 1048576: true; the input reads as it did. -/
def octetSizesUptoRow : OpenClaim := { program := "ythfiochgkmggoaa", sum := "6ada28f70959f678e4a25ddf359d04eccea55210155c881d973681f036b926d3", func := "banksman/banksmanlaw01.OctetSizes", spec := "octetSizes", unfollowed := true, recurses := true, apart := false, narrowed := true }
def OctetSizesUptoSaid : Prop := octetSizesUptoRow.holds Try.pinned (OpenSpec.upto octetSizesSpec)

/-- 'banksmanlaw01.OctetNested', WHERE WHAT IT READS IS OF BULK AT MOST 1048576: true; the input reads as it did. -/
def octetNestedUptoRow : OpenClaim := { program := "ythfiochgkmggoaa", sum := "6ada28f70959f678e4a25ddf359d04eccea55210155c881d973681f036b926d3", func := "banksman/banksmanlaw01.OctetNested", spec := "octetNested", unfollowed := true, recurses := true, apart := false, narrowed := true }
def OctetNestedUptoSaid : Prop := octetNestedUptoRow.holds Try.pinned (OpenSpec.upto octetNestedSpec)

end Rows
end Go.Proofs.Ythfiochgkmggoaa
