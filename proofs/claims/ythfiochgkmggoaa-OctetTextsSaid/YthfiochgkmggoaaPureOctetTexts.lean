/- Proved: the law OctetTexts of banksmanlaw01 returns true for every input: octet.Text and TakeText are what the document says. No conditions. -/
import Derived.Test.YthfiochgkmggoaaLemRef01b
import Derived.Test.YthfiochgkmggoaaPx20
namespace Go.Proofs.Ythfiochgkmggoaa.Pure
open Go.RowKit Go.Proofs.Ythfiochgkmggoaa.P Go.Proofs.YthfiochgkmggoaaW.PrintWords Go.Proofs.YthfiochgkmggoaaW.PrintLast
set_option linter.unusedVariables false
set_option linter.unusedSimpArgs false

theorem OctetTexts : banksmanlaw01_OctetTexts.Pure := by
  intro l t _ hn hw _ ht hwt
  have hb := okb_of hw
  refine ⟨40, ?_⟩
  unfold banksmanlaw01_OctetTexts.f
  rw [banksmanlaw01_awake.settled, Option.bind_some]
  by_cases h : (l.length : Int) > 300
  · rw [if_pos h]
    simp only [banksmanlaw01_OctetTexts.j0, if_true]
  rw [if_neg h]
  by_cases h2 : (t.length : Int) > 300
  · rw [decide_eq_true h2]
    simp only [banksmanlaw01_OctetTexts.j0, if_true]
  rw [decide_eq_false h2]
  simp only [banksmanlaw01_OctetTexts.j0]
  rw [if_neg (by decide), text_f (by omega), Option.bind_some, rtext_f (by omega) (by omega), Option.bind_some, takeText_f hb (by omega), Option.bind_some, rtakeText_f hb (by omega) (by omega), Option.bind_some]
  simp
end Go.Proofs.Ythfiochgkmggoaa.Pure
