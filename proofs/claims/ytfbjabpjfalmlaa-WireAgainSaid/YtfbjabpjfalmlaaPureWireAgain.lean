/- Proved: the law WireAgain of banksmanlaw21 returns true for every input: what is read is written again as it was. No conditions. -/
import Derived.Test.YtfbjabpjfalmlaaLemW21
import Derived.Test.YtfbjabpjfalmlaaLem21e
import Derived.Test.YtfbjabpjfalmlaaPx52
namespace Go.Proofs.Ytfbjabpjfalmlaa.Pure
open Go.RowKit Go.Proofs.Ytfbjabpjfalmlaa.P Go.Proofs.YtfbjabpjfalmlaaW.PrintWords Go.Proofs.YtfbjabpjfalmlaaW.PrintLast
set_option linter.unusedVariables false
set_option linter.unusedSimpArgs false

theorem WireAgain : banksmanlaw21_WireAgain.Pure := by
  intro a b _ _ ha _ _ hb
  have oka := okb_of ha; have okb_ := okb_of hb
  refine ⟨300, ?_⟩
  unfold banksmanlaw21_WireAgain.f
  rw [awake_f, Option.bind_some]
  have hlast : banksmanlaw21_WireAgain.j0 300 a b true true = some true := by
    rw [banksmanlaw21_WireAgain.j0, if_pos rfl]
  by_cases c : (a.length : Int) > 500
  · rw [if_pos c]; exact hlast
  rw [if_neg c]
  by_cases c2 : (b.length : Int) > 500
  · rw [decide_eq_true c2]; exact hlast
  rw [decide_eq_false c2, banksmanlaw21_WireAgain.j0, if_neg (by decide)]
  obtain ⟨r, e1, hr⟩ := wire_Read_f (l := a) oka (by omega)
  rw [e1, Option.bind_some]
  have hw : ∃ q, wire_Write.f r.1 r.2.1 r.2.2.1 r.2.2.2.1 r.2.2.2.2.1 r.2.2.2.2.2.1 r.2.2.2.2.2.2.1 r.2.2.2.2.2.2.2.1 = some q ∧ (r.2.2.2.2.2.2.2.2 = 0 → q = (a, 0)) := by
    rcases hr with rfl | ⟨s, kd, tb, k, hi, o, v, n, h, rfl⟩
    · exact ⟨_, wire_Write_f _ _ _ _ _ _ _ _ (by decide) (by decide) (by decide), fun h => by cases h⟩
    · obtain ⟨a1, a2, a3, a4, a5, a6, a7, a8, a9, a10, a11⟩ := mayB_b h.may
      refine ⟨_, wire_Write_f _ _ _ _ _ _ _ _ (by simp only; omega) (by simp only; omega) (by simp only; omega), fun _ => ?_⟩
      rw [if_pos h.may, h.eq]
  obtain ⟨q, e2, hq⟩ := hw
  rw [e2, Option.bind_some]
  have ht : ∃ x, wire_Tell.f b = some x ∧ ∃ y, wire_Told.f x.1 x.2.1 x.2.2.1 x.2.2.2.1 = some y ∧ (x.2.2.2.2.2 = 0 → y.2 = 0 ∧ b = y.1 ++ x.2.2.2.2.1) ∧ y.1.length < 1000000 ∧ x.2.2.2.2.1.length < 1000000 := by
    rcases wire_Tell_f okb_ (by omega) with h | ⟨e, f, v, ps, rest, h, hx⟩
    · refine ⟨_, h, _, wire_Told_f _ _ _ _, ⟨fun h => absurd h (by decide), ?_, by decide⟩⟩
      simp only
      split
      · rename_i hm
        have := tellBytes_len hm
        simp only [List.length_nil] at this
        show (tellBytes 0 false [] []).length < 1000000
        omega
      · decide
    · refine ⟨_, hx, _, wire_Told_f _ _ _ _, fun _ => ?_, ?_, ?_⟩
      · simp only
        rw [if_pos h.may]
        exact ⟨rfl, h.eq⟩
      · simp only
        rw [if_pos h.may]
        have := tellBytes_len h.may
        obtain ⟨_, _, _, h3, _⟩ := replyB_b h.may
        simp only
        omega
      · have := congrArg List.length h.eq
        rw [List.length_append] at this
        simp only
        omega
  obtain ⟨x, e3, y, e4, hy, ly, lx⟩ := ht
  rw [e3, Option.bind_some, e4, Option.bind_some]
  simp only [Option.bind_some, List.length_nil, List.nil_append, Nat.zero_add, List.length_append]
  have l1 : y.1.length < 140737488355328 := by omega
  have l2 : y.1.length + x.2.2.2.2.1.length < 140737488355328 := by omega
  by_cases h1 : r.2.2.2.2.2.2.2.2 = 0
  · have hq2 := hq h1
    subst hq2
    by_cases h2 : x.2.2.2.2.2 = 0
    · obtain ⟨y2, yb⟩ := hy h2
      rw [← yb]
      simp [h1, h2, y2, l1, l2]
    · simp [h1, h2]
  · by_cases h2 : x.2.2.2.2.2 = 0
    · obtain ⟨y2, yb⟩ := hy h2
      rw [← yb]
      simp [h1, h2, y2, l1, l2]
    · simp [h1, h2]
end Go.Proofs.Ytfbjabpjfalmlaa.Pure
