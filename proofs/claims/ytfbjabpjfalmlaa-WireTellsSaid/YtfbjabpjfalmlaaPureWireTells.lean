/- Proved: the law WireTells of banksmanlaw21 returns true for every input: wire.Write and Read of operations are what the document says. No conditions. -/
import Derived.Test.YtfbjabpjfalmlaaLemW21
import Derived.Test.YtfbjabpjfalmlaaPx45
namespace Go.Proofs.Ytfbjabpjfalmlaa.Pure
open Go.RowKit Go.Proofs.Ytfbjabpjfalmlaa.P Go.Proofs.YtfbjabpjfalmlaaW.PrintWords Go.Proofs.YtfbjabpjfalmlaaW.PrintLast
set_option linter.unusedVariables false
set_option linter.unusedSimpArgs false

theorem WireTells : banksmanlaw21_WireTells.Pure := by
  intro s kd tb k hi o v n l _ _ _ hk hh hv _ hl
  have okl := okb_of hl.2
  refine ⟨300, ?_⟩
  unfold banksmanlaw21_WireTells.f
  rw [awake_f, Option.bind_some]
  have hlast : ∀ x2 kd tb k hi o v n, banksmanlaw21_WireTells.j0 300 s x2 true true kd tb k hi o v n = some true := fun x2 kd tb k hi o v n => by
    rw [banksmanlaw21_WireTells.j0, if_pos rfl]
  obtain ⟨b, e, hb⟩ := small_f kd tb k hi o v n
  rw [e, Option.bind_some]
  cases b with
  | false => rw [if_neg (by decide)]; exact hlast _ _ _ _ _ _ _ _
  | true =>
    rw [if_pos rfl]
    obtain ⟨b1, b2, b3⟩ := hb rfl
    by_cases c : (l.length : Int) > 500
    · rw [decide_eq_true c]; exact hlast _ _ _ _ _ _ _ _
    rw [decide_eq_false c, banksmanlaw21_WireTells.j0, if_neg (by decide)]
    rw [wire_Write_f s kd tb k hi o v n (by omega) (by omega) (by omega), Option.bind_some, rWrite_f (by omega) s kd tb k hi o v n, Option.bind_some]
    obtain ⟨r, e1, e2, _⟩ := reads_same (l := l) (j := 299) (by omega) okl (by omega)
    rw [e1, Option.bind_some, e2, Option.bind_some, ops_self, Option.bind_some]
    simp
end Go.Proofs.Ytfbjabpjfalmlaa.Pure
