import Derived.Test.YtdkfahobgnmglaaLem05
namespace Go.Proofs.Ytdkfahobgnmglaa.Pure
open Go.RowKit Go.Proofs.Ytdkfahobgnmglaa.P Go.Proofs.YtdkfahobgnmglaaW.PrintWords Go.Proofs.YtdkfahobgnmglaaW.PrintLast
set_option linter.unusedVariables false
set_option linter.unusedSimpArgs false

theorem ins_zero {l : List S25} {x : S25} (h : (ins l x).2 = 0) : chk 0 l = true ∧ mayB x = true ∧ lastf 0 l < x.f0 ∧ ins l x = (l ++ [x], 0) := by
  unfold ins at h ⊢
  by_cases h1 : chk 0 l = true ∧ mayB x = true
  · rw [if_pos h1] at h ⊢
    by_cases h2 : lastf 0 l ≥ x.f0
    · rw [if_pos h2] at h; simp at h
    · rw [if_neg h2]; exact ⟨h1.1, h1.2, by omega, rfl⟩
  · rw [if_neg h1] at h; simp at h
theorem ins_else {l : List S25} {x : S25} (h : ¬ (ins l x).2 = 0) : (ins l x).1 = l := by
  unfold ins at h ⊢
  by_cases h1 : chk 0 l = true ∧ mayB x = true
  · rw [if_pos h1] at h ⊢
    by_cases h2 : lastf 0 l ≥ x.f0
    · rw [if_pos h2]
    · rw [if_neg h2] at h; exact absurd rfl h
  · rw [if_neg h1]
theorem ins_is {l : List S25} {x : S25} (h1 : chk 0 l = true) (h2 : mayB x = true) (h3 : lastf 0 l < x.f0) : ins l x = (l ++ [x], 0) := by
  unfold ins
  rw [if_pos ⟨h1, h2⟩, if_neg (by omega)]
theorem chk_snoc {l : List S25} {x : S25} (h1 : chk 0 l = true) (h2 : mayB x = true) (h3 : lastf 0 l < x.f0) : chk 0 (l ++ [x]) = true := by
  rw [chk_append, h1]; simp [chk, h2, h3]
theorem cutB {A B : List S25} {s : Int} (hA : ∀ x ∈ A, x.f0 ≤ s) (hB : ∀ x t, B = x :: t → s < x.f0) : tw (A ++ B) s = A ∧ dw (A ++ B) s = B := by
  rw [tw_append hA, dw_append hA, tw_nil hB, dw_nil hB]
  exact ⟨List.append_nil _, rfl⟩
theorem snoc_gt {l : List S25} {x : S25} {s : Int} (h : s < x.f0) : tw (l ++ [x]) s = tw l s ∧ dw (l ++ [x]) s = dw l s ++ [x] := by
  have e : l ++ [x] = tw l s ++ (dw l s ++ [x]) := by rw [← List.append_assoc, twdw]
  rw [e]
  refine cutB (fun y hy => tw_le hy) ?_
  intro y t hy
  cases hd : dw l s with
  | nil => rw [hd] at hy; simp at hy; rw [← hy.1]; exact h
  | cons z u => rw [hd] at hy; simp at hy; rw [← hy.1]; exact dw_gt hd
theorem lastf_app (p : Int) (A B : List S25) : lastf p (A ++ B) = lastf (lastf p A) B := by
  induction A generalizing p with
  | nil => rfl
  | cons x A ih => simpa [lastf] using ih x.f0
theorem lastf_mono {p q : Int} (h : p ≤ q) (B : List S25) : lastf p B ≤ lastf q B := by cases B <;> simp [lastf, h]
theorem mem_le_last {p : Int} {l : List S25} (h : chk p l = true) {x : S25} (hx : x ∈ l) : x.f0 ≤ lastf p l := by
  induction l generalizing p with
  | nil => cases hx
  | cons y t ih =>
    simp [chk] at h
    rcases List.mem_cons.mp hx with rfl | hx
    · exact lastf_le h.2.2
    · exact ih h.2.2 hx
/-- What a vacuum leaves of a list in order. -/
theorem vac_cases {l : List S25} (s : Int) (h : chk 0 l = true) : ∃ A B, l = A ++ B ∧ tw l s = A ∧ dw l s = B ∧ (∀ x ∈ A, x.f0 ≤ s) ∧ (∀ x ∈ B, s < x.f0) ∧ chk 0 B = true ∧
    ((A = [] ∧ vac l s = l) ∨ ∃ A' a, A = A' ++ [a] ∧ mayB a = true ∧ 0 < a.f0 ∧ a.f0 ≤ s ∧ chk a.f0 B = true ∧ ((a.f1 = true ∧ vac l s = B) ∨ (a.f1 = false ∧ vac l s = a :: B))) := by
  obtain ⟨A, B, e, h1, h2, h3, h4, h5, h6⟩ := cut s h
  refine ⟨A, B, e, h1, h2, h3, h4, chk_le h6 (lastf_le h5), ?_⟩
  unfold vac
  rw [if_pos h, h1, h2]
  rcases List.eq_nil_or_concat A with eA | ⟨A', a, eA⟩
  · exact .inl ⟨eA, by rw [eA]; rfl⟩
  · rw [List.concat_eq_append] at eA
    have ha : a ∈ A := by rw [eA]; simp
    have hm := chk_mem h5 ha
    rw [eA, lastf_snoc] at h6
    refine .inr ⟨A', a, eA, hm.2, hm.1, h3 a ha, h6, ?_⟩
    rw [eA]
    simp only [List.getLast?_append, List.getLast?_singleton, Option.some_or]
    by_cases hf : a.f1 = true
    · rw [if_pos hf]; exact .inl ⟨hf, rfl⟩
    · rw [if_neg hf]; exact .inr ⟨by simpa using hf, rfl⟩
theorem vac_sub {l : List S25} (s : Int) : (vac l s).length ≤ l.length ∧ ∀ x ∈ vac l s, x ∈ l := by
  by_cases h : chk 0 l = true
  · obtain ⟨A, B, e, -, -, -, -, -, ⟨-, hv⟩ | ⟨A', a, eA, -, -, -, -, ⟨-, hv⟩ | ⟨-, hv⟩⟩⟩ := vac_cases s h
    · rw [hv]; exact ⟨Nat.le_refl _, fun _ hx => hx⟩
    · rw [hv, e]; exact ⟨by simp, fun x hx => by simp [hx]⟩
    · rw [hv, e, eA]; exact ⟨by simp, fun x hx => by rcases List.mem_cons.mp hx with rfl | hx <;> simp [*]⟩
  · unfold vac; rw [if_neg h]; exact ⟨Nat.le_refl _, fun _ hx => hx⟩
theorem small_vac {l : List S25} (s : Int) (h : small l) : small (vac l s) := ⟨Nat.le_trans (vac_sub s).1 h.1, fun x hx => h.2 x ((vac_sub s).2 x hx)⟩
theorem chk_vac {l : List S25} (s : Int) (h : chk 0 l = true) : chk 0 (vac l s) = true ∧ lastf 0 (vac l s) ≤ lastf 0 l := by
  obtain ⟨A, B, e, -, -, -, -, hB, ⟨-, hv⟩ | ⟨A', a, eA, hm, h0, -, hc, ⟨-, hv⟩ | ⟨-, hv⟩⟩⟩ := vac_cases s h
  · rw [hv]; exact ⟨h, Int.le_refl _⟩
  · rw [hv, e, lastf_app]
    refine ⟨hB, lastf_mono ?_ B⟩
    rw [eA, lastf_snoc]; omega
  · rw [hv, e, lastf_app, eA, lastf_snoc]
    refine ⟨by simp [chk, hm, h0, hc], ?_⟩
    show lastf a.f0 B ≤ lastf a.f0 B
    exact Int.le_refl _
theorem rdp_is {l : List S25} (s : Int) (h : chk 0 l = true) : rdp l s = (match (tw l s).getLast? with | none => ([], false) | some x => if x.f1 = true then ([], false) else (x.f2, true)) := by unfold rdp; rw [if_pos h]; rfl
theorem newr_is {l : List S25} (s : Int) (h : chk 0 l = true) : newr l s = !(dw l s).isEmpty := by unfold newr; rw [h]; rfl
theorem rdp_small {l : List S25} (s : Int) : (rdp l s).2 = false → (rdp l s).1 = [] := by
  unfold rdp
  by_cases h : chk 0 l = true
  · rw [if_pos h]
    cases (tw l s).getLast? with
    | none => intro _; rfl
    | some x =>
      by_cases hx : x.f1 = true
      · simp [hx]
      · simp [hx]
  · rw [if_neg h]; intro _; rfl
/-- All of a list up to its last is at s: nothing is newer. -/
theorem all_le {l : List S25} {s : Int} (h : chk 0 l = true) (hs : lastf 0 l ≤ s) : tw l s = l ∧ dw l s = [] := by
  have := cutB (A := l) (B := []) (s := s) (fun x hx => Int.le_trans (mem_le_last h hx) hs) (fun x t e => by cases e)
  rwa [List.append_nil] at this
end Go.Proofs.Ytdkfahobgnmglaa.Pure
