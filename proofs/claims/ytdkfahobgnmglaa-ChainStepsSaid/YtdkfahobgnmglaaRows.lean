/-
  No cell of these rows narrows 'for every input' (looked for: loops, veiled, ifaces, maps, wideKeys, modest, calm, conditions, laid).
  DERIVED. THE GIVEN ROWS OF THIS SEAT. 7 by the template 'for every input the law returns true; each argument reads behind the call as it read before'; 0 by the template 'total and deterministic' (their statements: YtdkfahobgnmglaaTotals.lean).
  GIVEN WITH THE SEED: the statements are not yours to turn. If you find one false, say at which input.
  Laid BY PROGRAM, IN A SANDBOX (cutbox-rows.mjs): the forced cells as the released guide's own fill.sh prints them over the translation 65d41a7003512bfc… (all of the seat's roots in one cut). By AI agents, Wed Nov 11 2026. No macro, syntax, notation, axiom, sorry.
-/
import Derived.Test.YtdkfahobgnmglaaChecked
import GoSem.Claim
import GoSem.ClaimJoined
import GoSem.ClaimMapViews
import Derived.JoinedTies
import Derived.KernelRfl
namespace Go.Proofs.Ytdkfahobgnmglaa
/- THE CELL 'sum', in the pinned program and in every row, IS THE sha256 OF THE DUMP (.gsa) THAT YtdkfahobgnmglaaProg.lean LOADS. Nothing in Lean hashes anything: it is a label: what it is worth is what the hold of that sum in a sandbox is worth. -/
noncomputable def Try.pinned : Pinned := { name := "ytdkfahobgnmglaa", sum := "65d41a7003512bfc642da4cc59780eedbbeffdb80bc5af957e18d513026d6f9e", checked := Try.checked }
namespace Rows
def none {H : Type} : Left H := { results := [], args := [] }

/-- 'banksmanlaw05.ChainTells': WHATEVER THE INPUT: true; the input reads as it did. -/
def chainTellsSpec : ChangeSpec := { name := "chainTells", fn := fun _ => fun
  | [d1, d2, d3] => { results := [.lit (.bool true)], args := [d1, d2, d3] }
  | _ => none }
def chainTellsRow : OpenClaim := { program := "ytdkfahobgnmglaa", sum := "65d41a7003512bfc642da4cc59780eedbbeffdb80bc5af957e18d513026d6f9e", func := "banksman/banksmanlaw05.ChainTells", spec := "chainTells", unfollowed := true, recurses := true, apart := false }
def ChainTellsSaid : Prop := chainTellsRow.holds Try.pinned (OpenSpec.ofChange chainTellsSpec)

/-- ITS FALSE NEIGHBOUR: 'it returns false'. Refute it at one input. -/
def chainTellsWrong : ChangeSpec := { name := "chainTells", fn := fun _ => fun
  | [d1, d2, d3] => { results := [.lit (.bool false)], args := [d1, d2, d3] }
  | _ => none }
def ChainTellsWrongFalsely : Prop := chainTellsRow.holds Try.pinned (OpenSpec.ofChange chainTellsWrong)

/-- 'banksmanlaw05.ChainVacuum': WHATEVER THE INPUT: true; the input reads as it did. -/
def chainVacuumSpec : ChangeSpec := { name := "chainVacuum", fn := fun _ => fun
  | [d1, d2, d3] => { results := [.lit (.bool true)], args := [d1, d2, d3] }
  | _ => none }
def chainVacuumRow : OpenClaim := { program := "ytdkfahobgnmglaa", sum := "65d41a7003512bfc642da4cc59780eedbbeffdb80bc5af957e18d513026d6f9e", func := "banksman/banksmanlaw05.ChainVacuum", spec := "chainVacuum", unfollowed := true, recurses := true, apart := false }
def ChainVacuumSaid : Prop := chainVacuumRow.holds Try.pinned (OpenSpec.ofChange chainVacuumSpec)

/-- ITS FALSE NEIGHBOUR: 'it returns false'. Refute it at one input. -/
def chainVacuumWrong : ChangeSpec := { name := "chainVacuum", fn := fun _ => fun
  | [d1, d2, d3] => { results := [.lit (.bool false)], args := [d1, d2, d3] }
  | _ => none }
def ChainVacuumWrongFalsely : Prop := chainVacuumRow.holds Try.pinned (OpenSpec.ofChange chainVacuumWrong)

/-- 'banksmanlaw05.ChainInstalls': WHATEVER THE INPUT: true; the input reads as it did. -/
def chainInstallsSpec : ChangeSpec := { name := "chainInstalls", fn := fun _ => fun
  | [d1, d2, d3] => { results := [.lit (.bool true)], args := [d1, d2, d3] }
  | _ => none }
def chainInstallsRow : OpenClaim := { program := "ytdkfahobgnmglaa", sum := "65d41a7003512bfc642da4cc59780eedbbeffdb80bc5af957e18d513026d6f9e", func := "banksman/banksmanlaw05.ChainInstalls", spec := "chainInstalls", unfollowed := true, recurses := true, apart := false }
def ChainInstallsSaid : Prop := chainInstallsRow.holds Try.pinned (OpenSpec.ofChange chainInstallsSpec)

/-- ITS FALSE NEIGHBOUR: 'it returns false'. Refute it at one input. -/
def chainInstallsWrong : ChangeSpec := { name := "chainInstalls", fn := fun _ => fun
  | [d1, d2, d3] => { results := [.lit (.bool false)], args := [d1, d2, d3] }
  | _ => none }
def ChainInstallsWrongFalsely : Prop := chainInstallsRow.holds Try.pinned (OpenSpec.ofChange chainInstallsWrong)

/-- 'banksmanlaw05.ChainTurns': WHATEVER THE INPUT: true; the input reads as it did. -/
def chainTurnsSpec : ChangeSpec := { name := "chainTurns", fn := fun _ => fun
  | [d1, d2, d3] => { results := [.lit (.bool true)], args := [d1, d2, d3] }
  | _ => none }
def chainTurnsRow : OpenClaim := { program := "ytdkfahobgnmglaa", sum := "65d41a7003512bfc642da4cc59780eedbbeffdb80bc5af957e18d513026d6f9e", func := "banksman/banksmanlaw05.ChainTurns", spec := "chainTurns", unfollowed := true, recurses := true, apart := false }
def ChainTurnsSaid : Prop := chainTurnsRow.holds Try.pinned (OpenSpec.ofChange chainTurnsSpec)

/-- ITS FALSE NEIGHBOUR: 'it returns false'. Refute it at one input. -/
def chainTurnsWrong : ChangeSpec := { name := "chainTurns", fn := fun _ => fun
  | [d1, d2, d3] => { results := [.lit (.bool false)], args := [d1, d2, d3] }
  | _ => none }
def ChainTurnsWrongFalsely : Prop := chainTurnsRow.holds Try.pinned (OpenSpec.ofChange chainTurnsWrong)

/-- 'banksmanlaw05.ChainSteps': WHATEVER THE INPUT: true; the input reads as it did. -/
def chainStepsSpec : ChangeSpec := { name := "chainSteps", fn := fun _ => fun
  | [d1, d2] => { results := [.lit (.bool true)], args := [d1, d2] }
  | _ => none }
def chainStepsRow : OpenClaim := { program := "ytdkfahobgnmglaa", sum := "65d41a7003512bfc642da4cc59780eedbbeffdb80bc5af957e18d513026d6f9e", func := "banksman/banksmanlaw05.ChainSteps", spec := "chainSteps", unfollowed := true, recurses := true, apart := false }
def ChainStepsSaid : Prop := chainStepsRow.holds Try.pinned (OpenSpec.ofChange chainStepsSpec)

/-- ITS FALSE NEIGHBOUR: 'it returns false'. Refute it at one input. -/
def chainStepsWrong : ChangeSpec := { name := "chainSteps", fn := fun _ => fun
  | [d1, d2] => { results := [.lit (.bool false)], args := [d1, d2] }
  | _ => none }
def ChainStepsWrongFalsely : Prop := chainStepsRow.holds Try.pinned (OpenSpec.ofChange chainStepsWrong)

/-- 'banksmanlaw05.ChainCuts': WHATEVER THE INPUT: true; the input reads as it did. -/
def chainCutsSpec : ChangeSpec := { name := "chainCuts", fn := fun _ => fun
  | [d1, d2, d3] => { results := [.lit (.bool true)], args := [d1, d2, d3] }
  | _ => none }
def chainCutsRow : OpenClaim := { program := "ytdkfahobgnmglaa", sum := "65d41a7003512bfc642da4cc59780eedbbeffdb80bc5af957e18d513026d6f9e", func := "banksman/banksmanlaw05.ChainCuts", spec := "chainCuts", unfollowed := true, recurses := true, apart := false }
def ChainCutsSaid : Prop := chainCutsRow.holds Try.pinned (OpenSpec.ofChange chainCutsSpec)

/-- ITS FALSE NEIGHBOUR: 'it returns false'. Refute it at one input. -/
def chainCutsWrong : ChangeSpec := { name := "chainCuts", fn := fun _ => fun
  | [d1, d2, d3] => { results := [.lit (.bool false)], args := [d1, d2, d3] }
  | _ => none }
def ChainCutsWrongFalsely : Prop := chainCutsRow.holds Try.pinned (OpenSpec.ofChange chainCutsWrong)

/-- 'banksmanlaw05.ChainGone': WHATEVER THE INPUT: true; the input reads as it did. -/
def chainGoneSpec : ChangeSpec := { name := "chainGone", fn := fun _ => fun
  | [d1, d2, d3] => { results := [.lit (.bool true)], args := [d1, d2, d3] }
  | _ => none }
def chainGoneRow : OpenClaim := { program := "ytdkfahobgnmglaa", sum := "65d41a7003512bfc642da4cc59780eedbbeffdb80bc5af957e18d513026d6f9e", func := "banksman/banksmanlaw05.ChainGone", spec := "chainGone", unfollowed := true, recurses := true, apart := false }
def ChainGoneSaid : Prop := chainGoneRow.holds Try.pinned (OpenSpec.ofChange chainGoneSpec)

/-- ITS FALSE NEIGHBOUR: 'it returns false'. Refute it at one input. -/
def chainGoneWrong : ChangeSpec := { name := "chainGone", fn := fun _ => fun
  | [d1, d2, d3] => { results := [.lit (.bool false)], args := [d1, d2, d3] }
  | _ => none }
def ChainGoneWrongFalsely : Prop := chainGoneRow.holds Try.pinned (OpenSpec.ofChange chainGoneWrong)

/- THE SECOND FORM. 'bulk': how many values and letters a reading holds, each counted each time it is reached (what is shared counts as often as it is met; a slice's spare places count too). A statement '..UptoSaid' is the law's where the arguments, and the package variables that the reading takes, are together of bulk at most 1048576: NARROWER than '..Said'. Prove '..Said' where nothing that the law and all that it calls make is longer than what came in: it says more and counts as full. Else prove '..UptoSaid'. A law counts once. -/
mutual
def uptoBulk {H : Type} : DataW H → Nat
  | .lit (.string bytes) => bytes.length + 1
  | .lit _ => 1
  | .nil => 1
  | .ptr d => uptoBulk d + 1
  | .slice elems spare => uptoBulkAll elems + uptoBulkAll spare + 1
  | .agg parts => uptoBulkAll parts + 1
  | .iface _ d => uptoBulk d + 1
  | .map entries => uptoBulkEntries entries + 1
  | .held _ => 1
def uptoBulkAll {H : Type} : List (DataW H) → Nat
  | [] => 0
  | d :: r => uptoBulk d + uptoBulkAll r
def uptoBulkEntries {H : Type} : List (Lit × DataW H) → Nat
  | [] => 0
  | x :: r => uptoBulkEntry x + uptoBulkEntries r
def uptoBulkEntry {H : Type} : Lit × DataW H → Nat
  | (.string bytes, d) => bytes.length + uptoBulk d + 1
  | (_, d) => uptoBulk d + 1
 end
def uptoSmall : (H : Type) → List (DataW H) → Bool := fun _ ds => decide (uptoBulkAll ds ≤ 1048576)
def OpenSpec.upto (s : _root_.Go.ChangeSpec) : _root_.Go.OpenSpec := { _root_.Go.OpenSpec.ofChange s with cond := some uptoSmall }

/-- 'banksmanlaw05.ChainTells', WHERE WHAT IT READS IS OF BULK AT MOST 1048576: true; the input reads as it did. -/
def chainTellsUptoRow : OpenClaim := { program := "ytdkfahobgnmglaa", sum := "65d41a7003512bfc642da4cc59780eedbbeffdb80bc5af957e18d513026d6f9e", func := "banksman/banksmanlaw05.ChainTells", spec := "chainTells", unfollowed := true, recurses := true, apart := false, narrowed := true }
def ChainTellsUptoSaid : Prop := chainTellsUptoRow.holds Try.pinned (OpenSpec.upto chainTellsSpec)

/-- 'banksmanlaw05.ChainVacuum', WHERE WHAT IT READS IS OF BULK AT MOST 1048576: true; the input reads as it did. -/
def chainVacuumUptoRow : OpenClaim := { program := "ytdkfahobgnmglaa", sum := "65d41a7003512bfc642da4cc59780eedbbeffdb80bc5af957e18d513026d6f9e", func := "banksman/banksmanlaw05.ChainVacuum", spec := "chainVacuum", unfollowed := true, recurses := true, apart := false, narrowed := true }
def ChainVacuumUptoSaid : Prop := chainVacuumUptoRow.holds Try.pinned (OpenSpec.upto chainVacuumSpec)

/-- 'banksmanlaw05.ChainInstalls', WHERE WHAT IT READS IS OF BULK AT MOST 1048576: true; the input reads as it did. -/
def chainInstallsUptoRow : OpenClaim := { program := "ytdkfahobgnmglaa", sum := "65d41a7003512bfc642da4cc59780eedbbeffdb80bc5af957e18d513026d6f9e", func := "banksman/banksmanlaw05.ChainInstalls", spec := "chainInstalls", unfollowed := true, recurses := true, apart := false, narrowed := true }
def ChainInstallsUptoSaid : Prop := chainInstallsUptoRow.holds Try.pinned (OpenSpec.upto chainInstallsSpec)

/-- 'banksmanlaw05.ChainTurns', WHERE WHAT IT READS IS OF BULK AT MOST 1048576: true; the input reads as it did. -/
def chainTurnsUptoRow : OpenClaim := { program := "ytdkfahobgnmglaa", sum := "65d41a7003512bfc642da4cc59780eedbbeffdb80bc5af957e18d513026d6f9e", func := "banksman/banksmanlaw05.ChainTurns", spec := "chainTurns", unfollowed := true, recurses := true, apart := false, narrowed := true }
def ChainTurnsUptoSaid : Prop := chainTurnsUptoRow.holds Try.pinned (OpenSpec.upto chainTurnsSpec)

/-- 'banksmanlaw05.ChainSteps', WHERE WHAT IT READS IS OF BULK AT MOST 1048576: true; the input reads as it did. -/
def chainStepsUptoRow : OpenClaim := { program := "ytdkfahobgnmglaa", sum := "65d41a7003512bfc642da4cc59780eedbbeffdb80bc5af957e18d513026d6f9e", func := "banksman/banksmanlaw05.ChainSteps", spec := "chainSteps", unfollowed := true, recurses := true, apart := false, narrowed := true }
def ChainStepsUptoSaid : Prop := chainStepsUptoRow.holds Try.pinned (OpenSpec.upto chainStepsSpec)

/-- 'banksmanlaw05.ChainCuts', WHERE WHAT IT READS IS OF BULK AT MOST 1048576: true; the input reads as it did. -/
def chainCutsUptoRow : OpenClaim := { program := "ytdkfahobgnmglaa", sum := "65d41a7003512bfc642da4cc59780eedbbeffdb80bc5af957e18d513026d6f9e", func := "banksman/banksmanlaw05.ChainCuts", spec := "chainCuts", unfollowed := true, recurses := true, apart := false, narrowed := true }
def ChainCutsUptoSaid : Prop := chainCutsUptoRow.holds Try.pinned (OpenSpec.upto chainCutsSpec)

/-- 'banksmanlaw05.ChainGone', WHERE WHAT IT READS IS OF BULK AT MOST 1048576: true; the input reads as it did. -/
def chainGoneUptoRow : OpenClaim := { program := "ytdkfahobgnmglaa", sum := "65d41a7003512bfc642da4cc59780eedbbeffdb80bc5af957e18d513026d6f9e", func := "banksman/banksmanlaw05.ChainGone", spec := "chainGone", unfollowed := true, recurses := true, apart := false, narrowed := true }
def ChainGoneUptoSaid : Prop := chainGoneUptoRow.holds Try.pinned (OpenSpec.upto chainGoneSpec)

end Rows
end Go.Proofs.Ytdkfahobgnmglaa
