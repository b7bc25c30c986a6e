/- Proved: the law OctetNested of banksmanlaw01 returns true for every input: a text within a text within a text is taken out again. No conditions. -/
import Derived.Test.YthfiochgkmggoaaLem01b
import Derived.Test.YthfiochgkmggoaaPx25
namespace Go.Proofs.Ythfiochgkmggoaa.Pure
open Go.RowKit Go.Proofs.Ythfiochgkmggoaa.P Go.Proofs.YthfiochgkmggoaaW.PrintWords Go.Proofs.YthfiochgkmggoaaW.PrintLast
set_option linter.unusedVariables false
set_option linter.unusedSimpArgs false

def box (t : List Int) : List Int := octBytes 5 t.length ++ t
theorem box_len (t : List Int) : t.length + 1 ≤ (box t).length ∧ (box t).length ≤ t.length + 5 := by
  have l1 : 1 ≤ (octBytes 5 t.length).length := octBytes_pos
  have l5 := octBytes_len 5 t.length
  unfold box
  rw [List.length_append]
  omega
theorem box_ok {t : List Int} (h : okb t = true) : okb (box t) = true := okb_app (octBytes_ok 5 (by omega)) h
theorem text_box {t : List Int} (h : t.length ≤ 65535) : octet_Text.f [] t = some (box t, 0) := by
  rw [text_f (by simp)]
  unfold textP box
  rw [if_neg (by omega), List.nil_append]
theorem tt_box {t : List Int} (h : t.length ≤ 65535) (hok : okb t = true) : octet_TakeText.f (box t) = some (t, [], 0) := by
  have hl := box_len t
  rw [takeText_f (box_ok hok) (by omega)]
  have := tt_text (t := t) (by omega) []
  rw [List.append_nil] at this
  unfold box
  rw [this]
theorem OctetNested : banksmanlaw01_OctetNested.Pure := by
  intro l _ hn hw
  have hb := okb_of hw
  unfold banksmanlaw01_OctetNested.f
  rw [banksmanlaw01_awake.settled, Option.bind_some]
  by_cases h : (l.length : Int) > 1000
  · rw [if_pos h]
  have h1 := box_len l
  have h2 := box_len (box l)
  have h3 := box_len (box (box l))
  rw [if_neg h, text_box (by omega), Option.bind_some]
  simp only
  rw [text_box (by omega), Option.bind_some]
  simp only
  rw [text_box (by omega), Option.bind_some]
  simp only
  rw [tt_box (by omega) (box_ok (box_ok hb)), Option.bind_some]
  simp only
  rw [tt_box (by omega) (box_ok hb), Option.bind_some]
  simp only
  rw [tt_box (by omega) hb, Option.bind_some]
  simp only [if_true]
  rw [if_pos (by simp [wrap64]), if_pos (by omega), decide_eq_true (by omega)]
end Go.Proofs.Ythfiochgkmggoaa.Pure
