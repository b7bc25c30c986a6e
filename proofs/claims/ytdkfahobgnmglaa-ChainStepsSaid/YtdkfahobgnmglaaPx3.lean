-- Written by wip/gprint.py, a program of this session over the kit's print; Lean checks it.
import Derived.Test.YtdkfahobgnmglaaPx0
namespace Go.Proofs.Ytdkfahobgnmglaa.P
open Go.RowKit Go.Proofs.YtdkfahobgnmglaaW.PrintWords Go.Proofs.YtdkfahobgnmglaaW.PrintLast Go.Proofs.YtdkfahobgnmglaaW.PrintMore
attribute [local go_sem] max2_int min2_int max_two min_two max_three min_three max_four min_four   -- for this text's walks alone
set_option linter.unusedVariables false
set_option linter.unusedSimpArgs false

/-GIVEN 02chunk-/
theorem chunk_set {α : Type} (cur : List α) (sz k j f : Nat) (v : α) (hf : f < sz) : ((cur.set (k * sz + f) v).drop (j * sz)).take sz = if j = k then ((cur.drop (j * sz)).take sz).set f v else (cur.drop (j * sz)).take sz := by
  apply List.ext_getElem?
  intro i
  by_cases hjk : j = k
  · subst hjk
    rw [if_pos rfl]
    by_cases hi : i < sz
    · rw [List.getElem?_take, if_pos hi, List.getElem?_drop, List.getElem?_set, List.getElem?_set, List.getElem?_take, if_pos hi, List.getElem?_drop]
      by_cases he : f = i
      · subst he
        simp only [if_true]
        by_cases hl : j * sz + f < cur.length
        · rw [if_pos hl, if_pos (by simp; omega)]
        · rw [if_neg hl, if_neg (by simp; omega)]
      · rw [if_neg (by omega), if_neg he]
    · rw [List.getElem?_eq_none (by simp; omega), List.getElem?_eq_none (by simp; omega)]
  · rw [if_neg hjk]
    by_cases hi : i < sz
    · rw [List.getElem?_take, if_pos hi, List.getElem?_drop, List.getElem?_set, if_neg, List.getElem?_take, if_pos hi, List.getElem?_drop]
      intro he
      rcases Nat.lt_or_gt_of_ne hjk with h | h
      · have : j * sz + sz ≤ k * sz := by rw [← Nat.succ_mul]; exact Nat.mul_le_mul_right _ h
        omega
      · have : k * sz + sz ≤ j * sz := by rw [← Nat.succ_mul]; exact Nat.mul_le_mul_right _ h
        omega
    · rw [List.getElem?_eq_none (by simp; omega), List.getElem?_eq_none (by simp; omega)]
theorem chunk_at {α : Type} {cur : List α} {sz k i : Nat} (hi : i < sz) : cur[k * sz + i]? = ((cur.drop (k * sz)).take sz)[i]? := by
  rw [List.getElem?_take, if_pos hi, List.getElem?_drop]
/-- A whole block of elements, each told apart from what is older: as a row that is only read. -/
theorem V_of_block {α : Type} {d : Kd α} {e : Nat} {w w' : World} {g cap : Nat} {cur : List Value} {l : List α} {t : Nat} (hgb : w.heap.size ≤ g) (hg : w'.heap[g]? = some (.cells cur.toArray t (0, 0))) (hm : l.length ≤ 9223372036854775807) (hc : l.length ≤ cap)
    (hl : cur.length = l.length * d.sz) (hE : ∀ j p, l[j]? = some p → Kd.FK d w' (fun k_ => w.heap.size ≤ k_) p ((cur.drop (j * d.sz)).take d.sz)) :
    Kd.V d e w' w.heap.size (fun k_ => w.heap.size ≤ k_) (.slice (some ⟨g, 0, none⟩) l.length cap) l := by
  refine ⟨some ⟨g, 0, none⟩, cap, rfl, hc, fun W' hW => ⟨rfl, hm, fun _ => ⟨⟨g, 0, none⟩, rfl, fun j p hj => ⟨(cur.drop (j * d.sz)).take d.sz, ?_, hE j p hj W' hW, fun i u hu => ?_⟩⟩⟩⟩
  · have hjl : j < l.length := (List.getElem?_eq_some_iff.1 hj).1
    have : j * d.sz + d.sz ≤ l.length * d.sz := by rw [← Nat.succ_mul]; exact Nat.mul_le_mul_right _ hjl
    rw [List.length_take, List.length_drop]; omega
  · have hg' : W'.heap[g]? = some (.cells cur.toArray t (0, 0)) := (hW g hgb (blk_lt hg)).trans hg
    have hi : i < d.sz := by
      have := (List.getElem?_eq_some_iff.1 hu).1
      rw [List.length_take] at this; omega
    rw [add_plain, blk_cell hg']
    rw [← hu, ← chunk_at hi]
    simp

end Go.Proofs.Ytdkfahobgnmglaa.P
