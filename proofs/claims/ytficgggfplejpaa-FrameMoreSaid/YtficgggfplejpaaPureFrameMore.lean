/- Proved: the law FrameMore of banksmanlaw03 returns true for every input: behind frames that are whole the texts of any bytes are those of the frames, and then those of the bytes. No conditions. -/
import Derived.Test.YtficgggfplejpaaLemLoop03
import Derived.Test.YtficgggfplejpaaPx34
namespace Go.Proofs.Ytficgggfplejpaa.Pure
open Go.RowKit Go.Proofs.Ytficgggfplejpaa.P Go.Proofs.YtficgggfplejpaaW.PrintWords Go.Proofs.YtficgggfplejpaaW.PrintLast
set_option linter.unusedVariables false
set_option linter.unusedSimpArgs false

theorem more_l0 (b : List Int) (hob : okb b = true) (hbl : b.length ≤ 1000) : ∀ (suf pre : List (List Int)) (k : Nat), (∀ t ∈ pre ++ suf, okb t = true) → Few pre → (pre ++ suf).length ≤ 20 → suf.length + 4000 ≤ k →
    banksmanlaw03_FrameMore.l0 k (pre ++ suf) b true (encF pre) (pre.length : Int) = some true := by
  intro suf
  induction suf with
  | nil =>
    intro pre k hok hF hl hk
    obtain ⟨k, rfl⟩ : ∃ q, k = q + 1 := ⟨k - 1, by omega⟩
    obtain ⟨ts, r, hFT, hbr, hr⟩ := split_all b.length b (Nat.le_refl _) hob
    have hro : okb r = true := by rw [hbr, okb_append, Bool.and_eq_true] at hob; exact hob.2
    have hlen := congrArg List.length hbr
    have hfl := few_len hF
    have hge := encF_ge ts
    rw [List.append_nil] at hl
    have h2 := all_f hFT hro (by omega) hr
    rw [← hbr] at h2
    rw [List.length_append] at hlen
    have hE : encF pre ++ b = encF (pre ++ ts) ++ r := by rw [encF_app, List.append_assoc, ← hbr]
    have hFall : FrL (pre ++ ts) := fun t ht => by
      rcases List.mem_append.mp ht with ht | ht
      · exact hF.fr t ht
      · exact hFT t ht
    have h3 := all_f hFall hro (by rw [← hE, List.length_append]; omega) hr
    rw [← hE] at h3
    rw [banksmanlaw03_FrameMore.l0, if_neg (by simp), h2, Option.bind_some, Option.bind_some, if_pos (by simp; omega), Option.bind_some, if_pos (by simp; omega), List.nil_append, h3, Option.bind_some, Option.bind_some, if_pos (by simp; omega), Option.bind_some]
    simp only [List.nil_append, List.append_nil]
    rw [if_pos (by omega), same_f (by rw [List.length_append]; omega) (by rw [List.length_append]; omega), Option.bind_some]
    simp only [if_true]
    rw [w64 (by omega) (by omega), encF_app, List.length_append]
    simp
  | cons t suf ih =>
    intro pre k hok hF hl hk
    obtain ⟨k, rfl⟩ : ∃ q, k = q + 1 := ⟨k - 1, by omega⟩
    have hll : (pre ++ t :: suf).length = pre.length + 1 + suf.length := by simp; omega
    have hcut : pre ++ t :: suf = (pre ++ [t]) ++ suf := by simp
    have hfl := few_len hF
    rw [banksmanlaw03_FrameMore.l0, if_pos (by omega), if_pos (by omega), rdL]
    by_cases h3 : (t.length : Int) > 300
    · rw [if_pos h3]
    · have hto := hok t (by simp)
      have hb := frameP_bd t
      rw [if_neg h3, write_ok ⟨by omega, hto⟩, Option.bind_some]
      simp only
      rw [if_pos trivial, if_pos (by omega), w64 (by omega) (by omega)]
      have e2 : (pre.length : Int) + 1 = ((pre ++ [t]).length : Int) := by simp
      have e3 : encF pre ++ frameP t = encF (pre ++ [t]) := by rw [encF_app, encF, encF, List.append_nil]
      rw [e2, e3, hcut]
      exact ih (pre ++ [t]) k (by rw [← hcut]; exact hok) (few_snoc hF (by omega) hto) (by rw [← hcut]; exact hl) (by simp at hk; omega)
theorem FrameMore : banksmanlaw03_FrameMore.Pure := by
  intro l b hl hb
  have hob := okb_of hb.2
  refine ⟨6000, ?_⟩
  unfold banksmanlaw03_FrameMore.f
  rw [banksmanlaw03_awake.settled, Option.bind_some]
  by_cases h : (l.length : Int) > 20
  · rw [if_pos h]
    simp only [banksmanlaw03_FrameMore.j0, if_true]
  rw [if_neg h]
  by_cases h2 : (b.length : Int) > 1000
  · rw [decide_eq_true h2]
    simp only [banksmanlaw03_FrameMore.j0, if_true]
  rw [decide_eq_false h2]
  simp only [banksmanlaw03_FrameMore.j0]
  rw [if_neg (by decide)]
  exact more_l0 b hob (by omega) l [] _ (fun t ht => okb_of (hl.2 t ht).2) (fun t ht => by simp at ht) (by simp; omega) (by omega)
end Go.Proofs.Ytficgggfplejpaa.Pure
