/- Proved: the law FrameBack of banksmanlaw03 returns true for every input: texts are read as they were written, and bytes that are read are those that they are written in. No conditions. -/
import Derived.Test.YtficgggfplejpaaLemLoop03
import Derived.Test.YtficgggfplejpaaPx32
namespace Go.Proofs.Ytficgggfplejpaa.Pure
open Go.RowKit Go.Proofs.Ytficgggfplejpaa.P Go.Proofs.YtficgggfplejpaaW.PrintWords Go.Proofs.YtficgggfplejpaaW.PrintLast
set_option linter.unusedVariables false
set_option linter.unusedSimpArgs false

theorem back_l1 (b all : List Int) (m : List (List Int)) (r : List Int) (hb : b = encF m ++ r) (hF : FrL m) (hl : b.length < 100000) : ∀ (suf pre : List (List Int)) (k : Nat), m = pre ++ suf → suf.length + 1 ≤ k →
    banksmanlaw03_FrameBack.l1 k b true all (all.length : Int) true m ((encF m).length : Int) (encF pre) (pre.length : Int) = some true := by
  intro suf
  have hlen := congrArg List.length hb
  rw [List.length_append] at hlen
  have hge := encF_ge m
  induction suf with
  | nil =>
    intro pre k hm hk
    obtain ⟨k, rfl⟩ : ∃ q, k = q + 1 := ⟨k - 1, by omega⟩
    rw [List.append_nil] at hm
    subst hm
    rw [banksmanlaw03_FrameBack.l1, if_neg (by omega), if_pos rfl, if_pos rfl, if_pos rfl, if_pos (by omega), if_pos (by omega), if_pos (by omega), Int.toNat_natCast]
    have e : b.take (encF m).length = encF m := by rw [hb]; simp
    rw [e]
    simp
  | cons t suf ih =>
    intro pre k hm hk
    obtain ⟨k, rfl⟩ : ∃ q, k = q + 1 := ⟨k - 1, by omega⟩
    have hml : m.length = pre.length + 1 + suf.length := by rw [hm]; simp; omega
    have hFt : Fr t := hF t (by rw [hm]; simp)
    have hep : encF m = encF pre ++ (frameP t ++ encF suf) := by rw [hm, encF_app, encF]
    have hel := congrArg List.length hep
    rw [List.length_append, List.length_append] at hel
    rw [banksmanlaw03_FrameBack.l1, if_pos (by omega), if_pos (by omega)]
    have hrd : rd_L1 m (pre.length : Int) = t := by rw [hm]; exact rdL pre suf t
    rw [hrd, write_ok hFt, Option.bind_some]
    simp only
    rw [if_pos trivial, if_pos (by omega), w64 (by omega) (by omega)]
    have e2 : (pre.length : Int) + 1 = ((pre ++ [t]).length : Int) := by simp
    have e3 : encF pre ++ frameP t = encF (pre ++ [t]) := by rw [encF_app, encF, encF, List.append_nil]
    rw [e2, e3]
    exact ih (pre ++ [t]) k (by rw [hm]; simp) (by simp at hk; omega)
theorem back_l0 (b : List Int) (hob : okb b = true) (hbl : b.length ≤ 3000) : ∀ (suf pre : List (List Int)) (k : Nat), (∀ t ∈ pre ++ suf, okb t = true) → Few pre → (pre ++ suf).length ≤ 20 → suf.length + 4000 ≤ k →
    banksmanlaw03_FrameBack.l0 k (pre ++ suf) b true (encF pre) (pre.length : Int) = some true := by
  intro suf
  induction suf with
  | nil =>
    intro pre k hok hF hl hk
    obtain ⟨k, rfl⟩ : ∃ q, k = q + 1 := ⟨k - 1, by omega⟩
    obtain ⟨ts, r, hFT, hbr, hr⟩ := split_all b.length b (Nat.le_refl _) hob
    have hro : okb r = true := by rw [hbr, okb_append, Bool.and_eq_true] at hob; exact hob.2
    have hlen := congrArg List.length hbr
    have hfl := few_len hF
    have hge := encF_ge ts
    rw [List.append_nil] at hl
    have h1 := all_f (ts := pre) (r := []) hF.fr rfl (by rw [List.append_nil]; omega) rdP_nil
    rw [List.append_nil] at h1
    rw [banksmanlaw03_FrameBack.l0, if_neg (by simp), h1, Option.bind_some, List.append_nil]
    simp only
    rw [same_f (by omega) (by omega), Option.bind_some]
    have h2 := all_f hFT hro (by omega) hr
    rw [← hbr] at h2
    rw [h2, Option.bind_some]
    rw [List.length_append] at hlen
    exact back_l1 b (encF pre) ts r hbr hFT (by omega) ts [] k rfl (by omega)
  | cons t suf ih =>
    intro pre k hok hF hl hk
    obtain ⟨k, rfl⟩ : ∃ q, k = q + 1 := ⟨k - 1, by omega⟩
    have hll : (pre ++ t :: suf).length = pre.length + 1 + suf.length := by simp; omega
    have hcut : pre ++ t :: suf = (pre ++ [t]) ++ suf := by simp
    have hfl := few_len hF
    rw [banksmanlaw03_FrameBack.l0, if_pos (by omega), if_pos (by omega), rdL]
    by_cases h3 : (t.length : Int) > 300
    · rw [if_pos h3]
    · have hto := hok t (by simp)
      have hb := frameP_bd t
      rw [if_neg h3, write_ok ⟨by omega, hto⟩, Option.bind_some]
      simp only
      rw [if_pos trivial, if_pos (by omega), w64 (by omega) (by omega)]
      have e2 : (pre.length : Int) + 1 = ((pre ++ [t]).length : Int) := by simp
      have e3 : encF pre ++ frameP t = encF (pre ++ [t]) := by rw [encF_app, encF, encF, List.append_nil]
      rw [e2, e3, hcut]
      exact ih (pre ++ [t]) k (by rw [← hcut]; exact hok) (few_snoc hF (by omega) hto) (by rw [← hcut]; exact hl) (by simp at hk; omega)
theorem FrameBack : banksmanlaw03_FrameBack.Pure := by
  intro l b hl hb
  have hob := okb_of hb.2
  refine ⟨6000, ?_⟩
  unfold banksmanlaw03_FrameBack.f
  rw [banksmanlaw03_awake.settled, Option.bind_some]
  by_cases h : (l.length : Int) > 20
  · rw [if_pos h]
    simp only [banksmanlaw03_FrameBack.j0, if_true]
  rw [if_neg h]
  by_cases h2 : (b.length : Int) > 3000
  · rw [decide_eq_true h2]
    simp only [banksmanlaw03_FrameBack.j0, if_true]
  rw [decide_eq_false h2]
  simp only [banksmanlaw03_FrameBack.j0]
  rw [if_neg (by decide)]
  exact back_l0 b hob (by omega) l [] _ (fun t ht => okb_of (hl.2 t ht).2) (fun t ht => by simp at ht) (by simp; omega) (by omega)
end Go.Proofs.Ytficgggfplejpaa.Pure
