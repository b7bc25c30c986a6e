import Derived.Test.YtfbjabpjfalmlaaLemW21
import Derived.Test.YtfbjabpjfalmlaaLem21f
import Derived.Test.YtfbjabpjfalmlaaPx50
namespace Go.Proofs.Ytfbjabpjfalmlaa.Pure
open Go.RowKit Go.Proofs.Ytfbjabpjfalmlaa.P Go.Proofs.YtfbjabpjfalmlaaW.PrintWords Go.Proofs.YtfbjabpjfalmlaaW.PrintLast
set_option linter.unusedVariables false
set_option linter.unusedSimpArgs false
theorem WireReplies : banksmanlaw21_WireReplies.Pure := by
  intro e f v ps l _ hv hps hl
  have okl := okb_of hl.2
  refine ⟨300, ?_⟩
  unfold banksmanlaw21_WireReplies.f
  rw [awake_f, Option.bind_some]
  have hlast : banksmanlaw21_WireReplies.j0 300 l true true e f v ps = some true := by
    rw [banksmanlaw21_WireReplies.j0, if_pos rfl]
  obtain ⟨b, e1, hb⟩ := few_f (k := 300) (by omega) e f v ps
  rw [e1, Option.bind_some]
  cases b with
  | false => rw [if_neg (by decide)]; exact hlast
  | true =>
    rw [if_pos rfl]
    obtain ⟨b4, b5⟩ := hb rfl
    by_cases c : (l.length : Int) > 500
    · rw [decide_eq_true c]; exact hlast
    rw [decide_eq_false c, banksmanlaw21_WireReplies.j0, if_neg (by decide), wire_Told_f, Option.bind_some, rTold_f (by omega), Option.bind_some]
    obtain ⟨r, h1, h2, h3⟩ := tells_same (l := l) (k := 299) (by omega) okl (by omega)
    rw [h1, Option.bind_some, h2, Option.bind_some]
    obtain ⟨c, h4, h5⟩ := replies_f (k := 299) r.1 r.2.1 r.2.2.1 r.2.2.2.1 r.1 r.2.1 r.2.2.1 r.2.2.2.1 (by omega) (by omega)
    rw [h4, Option.bind_some, h5 rfl rfl rfl rfl]
    simp
end Go.Proofs.Ytfbjabpjfalmlaa.Pure
