/- Proved: the law ChainVacuum of banksmanlaw05 returns true for every input: a vacuum twice is one; it leaves what later reads see. No conditions. -/
import Derived.Test.YtdkfahobgnmglaaLem05b
import Derived.Test.YtdkfahobgnmglaaPx28
namespace Go.Proofs.Ytdkfahobgnmglaa.Pure
open Go.RowKit Go.Proofs.Ytdkfahobgnmglaa.P Go.Proofs.YtdkfahobgnmglaaW.PrintWords Go.Proofs.YtdkfahobgnmglaaW.PrintLast
set_option linter.unusedVariables false

theorem vac_laws {l : List S25} {s : Int} (h : chk 0 l = true) : vac (vac l s) s = vac l s ∧ (∀ x y t, vac l s = x :: y :: t → s < y.f0) ∧ (∀ s2, s ≤ s2 → rdp (vac l s) s2 = rdp l s2 ∧ newr (vac l s) s2 = newr l s2) := by
  have hv := (chk_vac s h).1
  obtain ⟨A, B, e, hA, hB, hle, hgt, hcB, ⟨eA, hvac⟩ | ⟨A', a, eA, hm, h0, has, hc, hh⟩⟩ := vac_cases s h
  · rw [hvac, hvac]
    refine ⟨rfl, fun x y t hx => ?_, fun s2 _ => ⟨rfl, rfl⟩⟩
    rw [eA] at e
    simp at e
    exact hgt y (by rw [← e, hx]; simp)
  · have hd : ∀ s2, s ≤ s2 → tw l s2 = A ++ tw B s2 ∧ dw l s2 = dw B s2 := fun s2 h2 => by
      have hle2 : ∀ x ∈ A, x.f0 ≤ s2 := fun x hx => Int.le_trans (hle x hx) h2
      rw [e, tw_append hle2, dw_append hle2]; exact ⟨rfl, rfl⟩
    have hB0 := cutB (A := []) (B := B) (s := s) (fun x hx => by cases hx) (fun x t ht => hgt x (by rw [ht]; simp))
    rw [List.nil_append] at hB0
    rcases hh with ⟨hf, hvac⟩ | ⟨hf, hvac⟩
    · rw [hvac] at hv ⊢
      refine ⟨?_, fun x y t hx => hgt y (by rw [hx]; simp), fun s2 h2 => ?_⟩
      · unfold vac; rw [if_pos hv, hB0.1]; rfl
      · obtain ⟨d1, d2⟩ := hd s2 h2
        rw [rdp_is s2 hv, rdp_is s2 h, newr_is s2 hv, newr_is s2 h, d1, d2]
        refine ⟨?_, rfl⟩
        rcases List.eq_nil_or_concat (tw B s2) with e2 | ⟨T, z, e2⟩
        · rw [e2, eA, List.append_nil]
          simp [hf]
        · rw [List.concat_eq_append] at e2
          rw [e2, ← List.append_assoc]
          simp
    · rw [hvac] at hv ⊢
      have hs2 : ∀ s2, s ≤ s2 → tw (a :: B) s2 = [a] ++ tw B s2 ∧ dw (a :: B) s2 = dw B s2 := fun s2 h2 => by
        have ha : ∀ x ∈ [a], x.f0 ≤ s2 := fun x hx => by rw [List.mem_singleton.mp hx]; omega
        have e1 : a :: B = [a] ++ B := rfl
        rw [e1, tw_append ha, dw_append ha]; exact ⟨rfl, rfl⟩
      refine ⟨?_, fun x y t hx => hgt y (by injection hx with _ hx; rw [hx]; simp), fun s2 h2 => ?_⟩
      · unfold vac
        rw [if_pos hv, (hs2 s (Int.le_refl _)).1, (hs2 s (Int.le_refl _)).2, hB0.1, hB0.2]
        simp [hf]
      · obtain ⟨d1, d2⟩ := hd s2 h2
        obtain ⟨d3, d4⟩ := hs2 s2 h2
        rw [rdp_is s2 hv, rdp_is s2 h, newr_is s2 hv, newr_is s2 h, d1, d2, d3, d4]
        refine ⟨?_, rfl⟩
        rcases List.eq_nil_or_concat (tw B s2) with e2 | ⟨T, z, e2⟩
        · rw [e2, eA, List.append_nil, List.append_nil]
          simp
        · rw [List.concat_eq_append] at e2
          have g : ∀ X : List S25, (X ++ (T ++ [z])).getLast? = some z := fun X => by rw [← List.append_assoc]; simp
          rw [e2, g, g]
theorem ChainVacuum : banksmanlaw05_ChainVacuum.Pure := by
  intro l s s2 hl hs hs2
  refine ⟨2000, ?_⟩
  unfold banksmanlaw05_ChainVacuum.f
  rw [awake_f (by omega), Option.bind_some, few_f (by omega), Option.bind_some]
  cases hf : few l with
  | false => rw [if_neg (by decide)]; simp only [banksmanlaw05_ChainVacuum.j0]; rfl
  | true =>
    obtain ⟨hsm, hl100⟩ := few_small hf
    rw [if_pos rfl, check_f hsm.1 (by omega), Option.bind_some]
    simp only [banksmanlaw05_ChainVacuum.j0]
    cases hch : chk 0 l with
    | false => rfl
    | true =>
      have hsv := small_vac s hsm
      have hlv := (vac_sub (l := l) s).1
      have hcv := (chk_vac s hch).1
      obtain ⟨l1, l2, l3⟩ := vac_laws (s := s) hch
      rw [if_neg (by decide), vacuum_f hsm (by omega), Option.bind_some, vacuum_f hsv (by omega), Option.bind_some, l1, same_f hsv.1 (by omega), Option.bind_some, if_neg (by omega)]
      have hj : ∀ b, b = false → banksmanlaw05_ChainVacuum.j1 1999 l s s2 true (vac l s) true b = some true := by
        intro b hb
        subst hb
        simp only [banksmanlaw05_ChainVacuum.j1, if_true]
        rw [if_neg (by decide)]
        by_cases h2 : s2 < s
        · rw [if_pos h2, check_f hsv.1 (by omega), hcv, Option.bind_some]
        · obtain ⟨e1, e2⟩ := l3 s2 (by omega)
          rw [if_neg h2, read_f hsm (by omega), Option.bind_some, read_f hsv (by omega), Option.bind_some, check_f hsv.1 (by omega), hcv, Option.bind_some, if_pos rfl, e1, if_pos rfl, if_pos (by simp), newer_f hsv (by omega), Option.bind_some, newer_f hsm (by omega), Option.bind_some, e2]
          simp
      by_cases h1 : ((vac l s).length : Int) > 1
      · rw [if_pos h1, if_pos h1]
        refine hj _ (decide_eq_false ?_)
        obtain ⟨x, y, t, hv⟩ : ∃ x y t, vac l s = x :: y :: t := by
          match vac l s, h1 with
          | x :: y :: t, _ => exact ⟨x, y, t, rfl⟩
          | [x], h => simp at h
          | [], h => simp at h
        have e9 : rd_T25 (vac l s) 1 = y := by rw [hv]; rfl
        have := l2 x y t hv
        rw [e9]
        omega
      · rw [if_neg h1]
        exact hj _ rfl
end Go.Proofs.Ytdkfahobgnmglaa.Pure
