/- Proved: the law FrameCuts of banksmanlaw03 returns true for every input: of texts' frames that are cut all are read that are whole, and no more. No conditions. -/
import Derived.Test.YtficgggfplejpaaLemLoop03
import Derived.Test.YtficgggfplejpaaPx33
namespace Go.Proofs.Ytficgggfplejpaa.Pure
open Go.RowKit Go.Proofs.Ytficgggfplejpaa.P Go.Proofs.YtficgggfplejpaaW.PrintWords Go.Proofs.YtficgggfplejpaaW.PrintLast
set_option linter.unusedVariables false
set_option linter.unusedSimpArgs false

theorem wf_u16 {x : Int} (h : (Lit.int .u16 x).wf = true) : 0 ≤ x ∧ x ≤ 65535 := by
  simp [Lit.wf, IntKind.min, IntKind.max, IntKind.bits, IntKind.signed] at h; omega
/-- Where each one's frame ends. -/
def endsN (l : List (List Int)) : List Int := (List.range l.length).map fun i => ((encF (l.take (i + 1))).length : Int)
theorem endsN_len (l : List (List Int)) : (endsN l).length = l.length := by simp [endsN]
theorem endsN_rd {l : List (List Int)} {i : Nat} (h : i < l.length) : rd (endsN l) (i : Int) = ((encF (l.take (i + 1))).length : Int) := by
  unfold rd endsN
  simp [List.getD_eq_getElem?_getD, h]
theorem endsN_snoc (l : List (List Int)) (t : List Int) : endsN (l ++ [t]) = endsN l ++ [((encF (l ++ [t])).length : Int)] := by
  unfold endsN
  rw [List.length_append, List.length_singleton, List.range_succ, List.map_append]
  congr 1
  · apply List.map_congr_left
    intro i hi
    have hi2 : i < l.length := by simpa using hi
    rw [List.take_append_of_le_length (by omega)]
  · rw [List.map_singleton, List.take_of_length_le (by simp)]
/-- The frames of texts, cut at n: the whole ones, and what is none. -/
theorem cut_at {l : List (List Int)} (hF : FrL l) {j n : Nat} (hj : j ≤ l.length) (h0 : (encF (l.take j)).length ≤ n) (h1 : j < l.length → n < (encF (l.take (j + 1))).length) (hn : n ≤ (encF l).length) :
    ∃ r, (encF l).take n = encF (l.take j) ++ r ∧ okb r = true ∧ (rdP r).2.2 ≠ 0 := by
  have hsp : encF l = encF (l.take j) ++ encF (l.drop j) := by rw [← encF_app, List.take_append_drop]
  refine ⟨(encF (l.drop j)).take (n - (encF (l.take j)).length), ?_, okb_take (encF_ok (fun t ht => hF t (List.mem_of_mem_drop ht))) _, ?_⟩
  · conv => lhs; rw [hsp]
    rw [List.take_append, List.take_of_length_le h0]
  · by_cases hjl : j < l.length
    · have hd : l.drop j = l[j] :: l.drop (j + 1) := List.drop_eq_getElem_cons hjl
      have ht : l.take (j + 1) = l.take j ++ [l[j]] := List.take_succ_eq_append_getElem hjl
      have h2 := h1 hjl
      rw [ht, encF_app, List.length_append] at h2
      have e : encF [l[j]] = frameP l[j] := by rw [encF, encF, List.append_nil]
      rw [e] at h2
      rw [hd, encF, List.take_append_of_le_length (by omega)]
      exact rdP_short (hF _ (List.getElem_mem hjl)) (by omega)
    · have hd : l.drop j = [] := List.drop_eq_nil_of_le (by omega)
      rw [hd, encF, List.take_nil]
      exact rdP_nil
theorem last_ok {l : List (List Int)} {j : Nat} (hj : j ≤ l.length) (h20 : l.length ≤ 20) :
    (if (j : Int) = 0 then (if ((encF (l.take j)).length : Int) = 0 then (some true) else (if (j : Int) > 0 then (if 0 ≤ (wrap64 ((j : Int) - 1)) then (if (wrap64 ((j : Int) - 1)) < ((endsN l).length : Int) then (some (((encF (l.take j)).length : Int) == (rd (endsN l) (wrap64 ((j : Int) - 1))))) else (none)) else (none)) else (some false))) else (if (j : Int) > 0 then (if 0 ≤ (wrap64 ((j : Int) - 1)) then (if (wrap64 ((j : Int) - 1)) < ((endsN l).length : Int) then (some (((encF (l.take j)).length : Int) == (rd (endsN l) (wrap64 ((j : Int) - 1))))) else (none)) else (none)) else (some false))) = some true := by
  cases j with
  | zero => rw [if_pos (by omega), if_pos (by simp [encF])]
  | succ j =>
    have e : wrap64 (((j + 1 : Nat) : Int) - 1) = (j : Int) := by rw [w64 (by omega) (by omega)]; omega
    rw [if_neg (by omega), if_pos (by omega), e, if_pos (by omega), if_pos (by rw [endsN_len]; omega), endsN_rd (by omega)]
    simp
theorem cuts_l1 {l : List (List Int)} (hF : FrL l) (h20 : l.length ≤ 20) {n : Nat} (hn : n ≤ (encF l).length) {w : Nat} (hw : w ≤ l.length) (hw0 : (encF (l.take w)).length ≤ n) (hw1 : w < l.length → n < (encF (l.take (w + 1))).length) (hwl : ∀ i, i < w → (encF (l.take (i + 1))).length ≤ n) :
    ∀ (d k j : Nat), j + d = w → d + 40 ≤ k → banksmanlaw03_FrameCuts.l1 k l true (endsN l) (n : Int) (l.take w) ((encF (l.take w)).length : Int) (j : Int) = some true := by
  intro d
  induction d with
  | zero =>
    intro k j hj hk
    obtain ⟨k, rfl⟩ : ∃ q, k = q + 1 := ⟨k - 1, by omega⟩
    have hjw : j = w := by omega
    subst hjw
    have hsame := same_f (l := l.take j) (k := k) (by rw [List.length_take]; omega) (by rw [List.length_take]; omega)
    rw [banksmanlaw03_FrameCuts.l1]
    by_cases hjl : j < l.length
    · have h2 := hw1 hjl
      rw [if_pos (by rw [endsN_len]; omega), if_pos (by omega), endsN_rd hjl, if_neg (by omega), if_pos (by omega), Int.toNat_natCast, hsame, Option.bind_some, if_pos rfl, if_pos rfl]
      exact last_ok hw h20
    · rw [if_neg (by rw [endsN_len]; omega), if_pos (by omega), if_pos (by omega), Int.toNat_natCast, hsame, Option.bind_some, if_pos rfl, if_pos rfl]
      exact last_ok hw h20
  | succ d ih =>
    intro k j hj hk
    obtain ⟨k, rfl⟩ : ∃ q, k = q + 1 := ⟨k - 1, by omega⟩
    have h2 := hwl j (by omega)
    have e : (j : Int) + 1 = ((j + 1 : Nat) : Int) := by omega
    rw [banksmanlaw03_FrameCuts.l1, if_pos (by rw [endsN_len]; omega), if_pos (by omega), endsN_rd (by omega), if_pos (by omega), w64 (by omega) (by omega), e]
    exact ih k (j + 1) (by omega) (by omega)
/-- The first one whose end is behind n. -/
theorem first_behind (l : List (List Int)) (n : Nat) : ∀ (d j : Nat), j + d = l.length → (encF (l.take j)).length ≤ n → (∀ i, i < j → (encF (l.take (i + 1))).length ≤ n) →
    ∃ w, w ≤ l.length ∧ (encF (l.take w)).length ≤ n ∧ (w < l.length → n < (encF (l.take (w + 1))).length) ∧ ∀ i, i < w → (encF (l.take (i + 1))).length ≤ n := by
  intro d
  induction d with
  | zero => intro j hj h0 h1; exact ⟨j, by omega, h0, fun h => by omega, h1⟩
  | succ d ih =>
    intro j hj h0 h1
    by_cases h : (encF (l.take (j + 1))).length ≤ n
    · refine ih (j + 1) (by omega) h (fun i hi => ?_)
      by_cases hij : i = j
      · subst hij; exact h
      · exact h1 i (by omega)
    · exact ⟨j, by omega, h0, fun _ => by omega, h1⟩
theorem cuts_l0 (c : Int) (hc0 : 0 ≤ c) (hc1 : c ≤ 65535) : ∀ (suf pre : List (List Int)) (k : Nat), (∀ t ∈ pre ++ suf, okb t = true) → Few pre → (pre ++ suf).length ≤ 20 → suf.length + 4000 ≤ k →
    banksmanlaw03_FrameCuts.l0 k (pre ++ suf) c true (encF pre) (endsN pre) (pre.length : Int) = some true := by
  intro suf
  induction suf with
  | nil =>
    intro pre k hok hF hl hk
    obtain ⟨k, rfl⟩ : ∃ q, k = q + 1 := ⟨k - 1, by omega⟩
    have hfl := few_len hF
    rw [List.append_nil] at hl ⊢
    have e1 : wrap64 (((encF pre).length : Int) + 1) = ((encF pre).length : Int) + 1 := w64 (by omega) (by omega)
    have e2 : wrap64 c = c := w64 (by omega) (by omega)
    have e3 : Int.tmod c (((encF pre).length : Int) + 1) = c % (((encF pre).length : Int) + 1) := Int.tmod_eq_emod_of_nonneg hc0
    have n0 : 0 ≤ c % (((encF pre).length : Int) + 1) := Int.emod_nonneg _ (by omega)
    have n1 : c % (((encF pre).length : Int) + 1) < ((encF pre).length : Int) + 1 := Int.emod_lt_of_pos _ (by omega)
    rw [banksmanlaw03_FrameCuts.l0, if_neg (by omega), e1, e2, e3, if_neg (by omega), if_pos n0]
    obtain ⟨n, hn⟩ := Int.eq_ofNat_of_zero_le n0
    rw [hn] at n1 ⊢
    have hnl : n ≤ (encF pre).length := by omega
    obtain ⟨w, w0, w1, w2, w3⟩ := first_behind pre n pre.length 0 (by omega) (by simp [encF]) (fun i hi => by omega)
    obtain ⟨r, hr1, hr2, hr3⟩ := cut_at hF.fr w0 w1 w2 hnl
    have hlen := congrArg List.length hr1
    rw [List.length_take] at hlen
    rw [if_pos (by omega), Int.toNat_natCast, hr1, all_f (fun t ht => hF.fr t (List.mem_of_mem_take ht)) hr2 (by omega) hr3, Option.bind_some]
    exact cuts_l1 hF.fr hl hnl w0 w1 w2 w3 w _ 0 (by omega) (by simp at hk; omega)
  | cons t suf ih =>
    intro pre k hok hF hl hk
    obtain ⟨k, rfl⟩ : ∃ q, k = q + 1 := ⟨k - 1, by omega⟩
    have hll : (pre ++ t :: suf).length = pre.length + 1 + suf.length := by simp; omega
    have hcut : pre ++ t :: suf = (pre ++ [t]) ++ suf := by simp
    have hfl := few_len hF
    rw [banksmanlaw03_FrameCuts.l0, if_pos (by omega), if_pos (by omega), rdL]
    by_cases h3 : (t.length : Int) > 300
    · rw [if_pos h3]
    · have hto := hok t (by simp)
      have hb := frameP_bd t
      rw [if_neg h3, write_ok ⟨by omega, hto⟩, Option.bind_some]
      simp only
      have e2 : (pre.length : Int) + 1 = ((pre ++ [t]).length : Int) := by simp
      have e3 : encF pre ++ frameP t = encF (pre ++ [t]) := by rw [encF_app, encF, encF, List.append_nil]
      rw [if_pos trivial, if_pos (by omega), Option.bind_some, if_pos (by rw [endsN_len]; omega), w64 (by omega) (by omega), e2, e3, ← endsN_snoc, hcut]
      exact ih (pre ++ [t]) k (by rw [← hcut]; exact hok) (few_snoc hF (by omega) hto) (by rw [← hcut]; exact hl) (by simp at hk; omega)
theorem FrameCuts : banksmanlaw03_FrameCuts.Pure := by
  intro l c hl hc
  have hc := wf_u16 hc
  refine ⟨6000, ?_⟩
  unfold banksmanlaw03_FrameCuts.f
  rw [banksmanlaw03_awake.settled, Option.bind_some]
  by_cases h : (l.length : Int) > 20
  · rw [if_pos h]
  rw [if_neg h]
  exact cuts_l0 c hc.1 hc.2 l [] _ (fun t ht => okb_of (hl.2 t ht).2) (fun t ht => by simp at ht) (by simp; omega) (by omega)
end Go.Proofs.Ytficgggfplejpaa.Pure
