import Derived.Test.YtfbjabpjfalmlaaLem21b
namespace Go.Proofs.Ytfbjabpjfalmlaa.Pure
open Go.RowKit Go.Proofs.Ytfbjabpjfalmlaa.P Go.Proofs.YtfbjabpjfalmlaaW.PrintWords Go.Proofs.YtfbjabpjfalmlaaW.PrintLast
set_option linter.unusedVariables false
set_option linter.unusedSimpArgs false
theorem ok_app {a b : List Int} (h : okb (a ++ b) = true) : okb a = true ∧ okb b = true := by
  rw [okb_append, Bool.and_eq_true] at h; exact h
theorem take_cases {l : List Int} (hok : okb l = true) (hl : l.length < 1000000) : takeRes (takeR l 0 0) = (0, [], 10) ∨ ∃ n t, takeRes (takeR l 0 0) = (n, t, 0) ∧ 0 ≤ n ∧ n ≤ 2147483647 ∧ l = oB n ++ t ∧ okb t = true ∧ t.length < 1000000 := by
  cases h : takeR l 0 0 with
  | none => exact Or.inl rfl
  | some p =>
    obtain ⟨n, t⟩ := p
    obtain ⟨h0, h1, h2⟩ := takeR_some hok h
    have hlen := congrArg List.length h2
    rw [List.length_append] at hlen
    rw [h2] at hok
    exact Or.inr ⟨n, t, rfl, h0, h1, h2, (ok_app hok).2, by omega⟩
theorem take_back {n : Int} (h0 : 0 ≤ n) (h1 : n ≤ 2147483647) (t : List Int) : takeRes (takeR (oB n ++ t) 0 0) = (n, t, 0) := by
  unfold oB; rw [take_octBytes h0 h1]; rfl
theorem tt_cases {l : List Int} (hok : okb l = true) (hl : l.length < 1000000) : ttP l = ([], [], 10) ∨ ∃ k t, ttP l = (k, t, 0) ∧ k.length ≤ 65535 ∧ l = oT k ++ t ∧ okb k = true ∧ okb t = true ∧ t.length < 1000000 := by
  unfold ttP
  cases h : takeR l 0 0 with
  | none => exact Or.inl rfl
  | some p =>
    obtain ⟨n, t⟩ := p
    obtain ⟨h0, h1, h2⟩ := takeR_some hok h
    have hlen := congrArg List.length h2
    rw [List.length_append] at hlen
    rw [h2] at hok
    have hokt := (ok_app hok).2
    simp only
    by_cases c1 : n > 65535
    · rw [if_pos c1]; exact Or.inl rfl
    · rw [if_neg c1]
      by_cases c2 : n > (t.length : Int)
      · rw [if_pos c2]; exact Or.inl rfl
      · rw [if_neg c2]
        have e1 : (t.take n.toNat).length = n.toNat := by rw [List.length_take]; omega
        refine Or.inr ⟨_, _, rfl, by omega, ?_, okb_take hokt _, okb_drop hokt _, by rw [List.length_drop]; omega⟩
        unfold oT
        rw [e1, List.append_assoc, List.take_append_drop, Int.toNat_of_nonneg h0]
        exact h2
theorem tt_back {t : List Int} (h : t.length ≤ 65535) (u : List Int) : ttP (oT t ++ u) = (t, u, 0) := tt_text (by omega) u
structure IsOp (l : List Int) (s kd tb : Int) (k hi : List Int) (o : Bool) (v : List Int) (n : Int) : Prop where
  may : mayB s kd tb k.length hi.length o v.length n = true
  eq : l = opBytes s kd tb k hi o v n
  k : okb k = true
  hi : okb hi = true
  v : okb v = true
theorem okb_flag (o : Bool) : okb [if o then 1 else 0] = true := by cases o <;> decide
theorem oB_ok {n : Int} (h : 0 ≤ n) : okb (oB n) = true := octBytes_ok 5 h
theorem oT_ok {t : List Int} (h : okb t = true) : okb (oT t) = true := by
  unfold oT; exact okb_app (octBytes_ok 5 (by omega)) h
theorem take_flag (o : Bool) (t : List Int) : takeRes (takeR ((if o then 1 else 0) :: t) 0 0) = (if o then 1 else 0, t, 0) := by
  have := take_back (n := if o then (1 : Int) else 0) (by cases o <;> decide) (by cases o <;> decide) t
  unfold oB at this
  rw [octBytes_flag] at this
  exact this
theorem flag_back (o : Bool) : ((if o then (1 : Int) else 0) == 1) = o := by cases o <;> rfl
theorem flag_le (o : Bool) : ¬ 1 < (if o then (1 : Int) else 0) := by cases o <;> decide
end Go.Proofs.Ytfbjabpjfalmlaa.Pure
