/- Proved: the law OctetNumbers of banksmanlaw01 returns true for every input: octet.Number, Size and Take are what the document says. No conditions. -/
import Derived.Test.YthfiochgkmggoaaLemRef01b
import Derived.Test.YthfiochgkmggoaaPx17
namespace Go.Proofs.Ythfiochgkmggoaa.Pure
open Go.RowKit Go.Proofs.Ythfiochgkmggoaa.P Go.Proofs.YthfiochgkmggoaaW.PrintWords Go.Proofs.YthfiochgkmggoaaW.PrintLast
set_option linter.unusedVariables false
set_option linter.unusedSimpArgs false

theorem OctetNumbers : banksmanlaw01_OctetNumbers.Pure := by
  intro l n _ hn hw h1
  have hb := okb_of hw
  refine ⟨30, ?_⟩
  unfold banksmanlaw01_OctetNumbers.f
  rw [banksmanlaw01_awake.settled, Option.bind_some]
  by_cases h : (l.length : Int) > 300
  · rw [if_pos h]
  · rw [if_neg h, number_f (by omega), Option.bind_some, rnumber_f (by omega) (by omega), Option.bind_some, take_f hb (by omega), Option.bind_some, rtake_f hb (by omega) (by omega), Option.bind_some]
    simp only [if_true]
    rw [size_f, Option.bind_some, rsize_f (by omega), Option.bind_some]
    simp
end Go.Proofs.Ythfiochgkmggoaa.Pure
