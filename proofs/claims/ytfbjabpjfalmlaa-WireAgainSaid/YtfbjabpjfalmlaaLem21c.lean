/- Plain facts on layer 21: what is read of bytes is what was written, by the program and by the reference. -/
import Derived.Test.YtfbjabpjfalmlaaLem21b
namespace Go.Proofs.Ytfbjabpjfalmlaa.Pure
open Go.RowKit Go.Proofs.Ytfbjabpjfalmlaa.P Go.Proofs.YtfbjabpjfalmlaaW.PrintWords Go.Proofs.YtfbjabpjfalmlaaW.PrintLast
set_option linter.unusedVariables false
set_option linter.unusedSimpArgs false
theorem ok_app {a b : List Int} (h : okb (a ++ b) = true) : okb a = true ∧ okb b = true := by
  rw [okb_append, Bool.and_eq_true] at h; exact h
theorem take_cases {l : List Int} (hok : okb l = true) (hl : l.length < 1000000) : takeRes (takeR l 0 0) = (0, [], 10) ∨ ∃ n t, takeRes (takeR l 0 0) = (n, t, 0) ∧ 0 ≤ n ∧ n ≤ 2147483647 ∧ l = oB n ++ t ∧ okb t = true ∧ t.length < 1000000 := by
  cases h : takeR l 0 0 with
  | none => exact Or.inl rfl
  | some p =>
    obtain ⟨n, t⟩ := p
    obtain ⟨h0, h1, h2⟩ := takeR_some hok h
    have hlen := congrArg List.length h2
    rw [List.length_append] at hlen
    rw [h2] at hok
    exact Or.inr ⟨n, t, rfl, h0, h1, h2, (ok_app hok).2, by omega⟩
theorem take_back {n : Int} (h0 : 0 ≤ n) (h1 : n ≤ 2147483647) (t : List Int) : takeRes (takeR (oB n ++ t) 0 0) = (n, t, 0) := by
  unfold oB; rw [take_octBytes h0 h1]; rfl
theorem tt_cases {l : List Int} (hok : okb l = true) (hl : l.length < 1000000) : ttP l = ([], [], 10) ∨ ∃ k t, ttP l = (k, t, 0) ∧ k.length ≤ 65535 ∧ l = oT k ++ t ∧ okb k = true ∧ okb t = true ∧ t.length < 1000000 := by
  unfold ttP
  cases h : takeR l 0 0 with
  | none => exact Or.inl rfl
  | some p =>
    obtain ⟨n, t⟩ := p
    obtain ⟨h0, h1, h2⟩ := takeR_some hok h
    have hlen := congrArg List.length h2
    rw [List.length_append] at hlen
    rw [h2] at hok
    have hokt := (ok_app hok).2
    simp only
    by_cases c1 : n > 65535
    · rw [if_pos c1]; exact Or.inl rfl
    · rw [if_neg c1]
      by_cases c2 : n > (t.length : Int)
      · rw [if_pos c2]; exact Or.inl rfl
      · rw [if_neg c2]
        have e1 : (t.take n.toNat).length = n.toNat := by rw [List.length_take]; omega
        refine Or.inr ⟨_, _, rfl, by omega, ?_, okb_take hokt _, okb_drop hokt _, by rw [List.length_drop]; omega⟩
        unfold oT
        rw [e1, List.append_assoc, List.take_append_drop, Int.toNat_of_nonneg h0]
        exact h2
theorem tt_back {t : List Int} (h : t.length ≤ 65535) (u : List Int) : ttP (oT t ++ u) = (t, u, 0) := tt_text (by omega) u
structure IsOp (l : List Int) (s kd tb : Int) (k hi : List Int) (o : Bool) (v : List Int) (n : Int) : Prop where
  may : mayB s kd tb k.length hi.length o v.length n = true
  eq : l = opBytes s kd tb k hi o v n
  k : okb k = true
  hi : okb hi = true
  v : okb v = true
theorem okb_flag (o : Bool) : okb [if o then 1 else 0] = true := by cases o <;> decide
theorem oB_ok {n : Int} (h : 0 ≤ n) : okb (oB n) = true := octBytes_ok 5 h
theorem oT_ok {t : List Int} (h : okb t = true) : okb (oT t) = true := by
  unfold oT; exact okb_app (octBytes_ok 5 (by omega)) h
theorem take_flag (o : Bool) (t : List Int) : takeRes (takeR ((if o then 1 else 0) :: t) 0 0) = (if o then 1 else 0, t, 0) := by
  have := take_back (n := if o then (1 : Int) else 0) (by cases o <;> decide) (by cases o <;> decide) t
  unfold oB at this
  rw [octBytes_flag] at this
  exact this
theorem flag_back (o : Bool) : ((if o then (1 : Int) else 0) == 1) = o := by cases o <;> rfl
theorem flag_le (o : Bool) : ¬ 1 < (if o then (1 : Int) else 0) := by cases o <;> decide
/-- What is read of bytes that are good, before it is asked whether it may be. -/
theorem readF_cases {l : List Int} (hok : okb l = true) (hl : l.length < 1000000) : readF l = some none ∨ ∃ s kd tb k hi o v n rest, readF l = some (some (s, kd, tb, k, hi, o, v, n, rest)) ∧ l = opBytes s kd tb k hi o v n ++ rest ∧ okb k = true ∧ okb hi = true ∧ okb v = true ∧ k.length ≤ 65535 ∧ hi.length ≤ 65535 ∧ v.length ≤ 65535 := by
  unfold readF
  rw [take_f hok hl, Option.bind_some]
  rcases take_cases hok hl with h | ⟨s, t1, h, _, _, e1, ok1, l1⟩
  · rw [h]; exact Or.inl rfl
  rw [h, if_neg (by simp), take_f ok1 l1, Option.bind_some]
  rcases take_cases ok1 l1 with h | ⟨kd, t2, h, _, _, e2, ok2, l2⟩
  · rw [h]; exact Or.inl rfl
  rw [h, if_neg (by simp), take_f ok2 l2, Option.bind_some]
  rcases take_cases ok2 l2 with h | ⟨tb, t3, h, _, _, e3, ok3, l3⟩
  · rw [h]; exact Or.inl rfl
  rw [h, if_neg (by simp), takeText_f ok3 l3, Option.bind_some]
  rcases tt_cases ok3 l3 with h | ⟨k, t4, h, hk, e4, okk, ok4, l4⟩
  · rw [h]; exact Or.inl rfl
  rw [h, if_neg (by simp), takeText_f ok4 l4, Option.bind_some]
  rcases tt_cases ok4 l4 with h | ⟨hi, t5, h, hh, e5, okh, ok5, l5⟩
  · rw [h]; exact Or.inl rfl
  rw [h, if_neg (by simp), take_f ok5 l5, Option.bind_some]
  rcases take_cases ok5 l5 with h | ⟨o, t6, h, o0, _, e6, ok6, l6⟩
  · rw [h]; exact Or.inl rfl
  rw [h, if_neg (by simp)]
  simp only
  by_cases ho : 1 < o
  · rw [if_pos ho]; exact Or.inl rfl
  rw [if_neg ho, takeText_f ok6 l6, Option.bind_some]
  rcases tt_cases ok6 l6 with h | ⟨v, t7, h, hv, e7, okv, ok7, l7⟩
  · rw [h]; exact Or.inl rfl
  rw [h, if_neg (by simp), take_f ok7 l7, Option.bind_some]
  rcases take_cases ok7 l7 with h | ⟨n, t8, h, _, _, e8, ok8, l8⟩
  · rw [h]; exact Or.inl rfl
  rw [h, if_neg (by simp)]
  refine Or.inr ⟨s, kd, tb, k, hi, o == 1, v, n, t8, rfl, ?_, okk, okh, okv, hk, hh, hv⟩
  have eo : o = if (o == 1) then 1 else 0 := by
    rcases (by omega : o = 0 ∨ o = 1) with rfl | rfl <;> rfl
  have e6' : t5 = [if (o == 1) then (1 : Int) else 0] ++ t6 := by rw [e6, ← octBytes_flag, ← eo]; rfl
  rw [e1, e2, e3, e4, e5, e6', e7, e8]
  unfold opBytes
  simp only [List.append_assoc]
theorem readF_back {s kd tb : Int} {k hi : List Int} {o : Bool} {v : List Int} {n : Int} {rest : List Int} (hm : mayB s kd tb k.length hi.length o v.length n = true) (hk : okb k = true) (hh : okb hi = true) (hv : okb v = true) (hr : okb rest = true) (hl : rest.length < 900000) : readF (opBytes s kd tb k hi o v n ++ rest) = some (some (s, kd, tb, k, hi, o, v, n, rest)) := by
  obtain ⟨a1, a2, a3, a4, a5, a6, a7, a8, a9, a10, a11⟩ := mayB_b hm
  have l1 := oB_len s; have l2 := oB_len kd; have l3 := oB_len tb; have l4 := oT_len k; have l5 := oT_len hi; have l6 := oT_len v; have l7 := oB_len n
  have k8 := hr
  have k7 := okb_app (oB_ok a3) k8
  have k6 := okb_app (oT_ok hv) k7
  have k5 := okb_app (okb_flag o) k6
  have k4 := okb_app (oT_ok hh) k5
  have k3 := okb_app (oT_ok hk) k4
  have k2 := okb_app (oB_ok a7) k3
  have k1 := okb_app (oB_ok a5) k2
  have k0 := okb_app (oB_ok a1) k1
  unfold readF opBytes
  simp only [List.append_assoc]
  rw [take_f k0 (by simp; omega), Option.bind_some, take_back a1 (by omega), if_neg (by simp)]
  simp only
  rw [take_f k1 (by simp; omega), Option.bind_some, take_back a5 (by omega), if_neg (by simp)]
  simp only
  rw [take_f k2 (by simp; omega), Option.bind_some, take_back a7 (by omega), if_neg (by simp)]
  simp only
  rw [takeText_f k3 (by simp; omega), Option.bind_some, tt_back (by omega), if_neg (by simp)]
  simp only
  rw [takeText_f k4 (by simp; omega), Option.bind_some, tt_back (by omega), if_neg (by simp)]
  simp only
  rw [take_f k5 (by simp; omega), Option.bind_some, List.singleton_append, take_flag, if_neg (by simp)]
  simp only
  rw [if_neg (flag_le o), takeText_f k6 (by simp; omega), Option.bind_some, tt_back (by omega), if_neg (by simp)]
  simp only
  rw [take_f k7 (by simp; omega), Option.bind_some, take_back a3 (by omega), if_neg (by simp), flag_back]
theorem wire_Read_back {l : List Int} {s kd tb : Int} {k hi : List Int} {o : Bool} {v : List Int} {n : Int} (h : IsOp l s kd tb k hi o v n) : wire_Read.f l = some (s, kd, tb, k, hi, o, v, n, 0) := by
  obtain ⟨hm, rfl, hk, hh, hv⟩ := h
  have e := readF_back (rest := []) hm hk hh hv rfl (by decide)
  rw [List.append_nil] at e
  obtain ⟨a1, a2, a3, a4, a5, a6, a7, a8, a9, a10, a11⟩ := mayB_b hm
  unfold wire_Read.f
  rw [e, Option.bind_some]
  simp only
  rw [if_neg (by simp), wire_may_f s kd tb k hi o v n (by omega) (by omega) (by omega), Option.bind_some, if_pos hm]
abbrev noOp : Int × Int × Int × List Int × List Int × Bool × List Int × Int × Int := (0, 0, 0, [], [], false, [], 0, 210)
theorem wire_Read_not {l : List Int} (hok : okb l = true) (hl : l.length < 1000000) (h : ∀ s kd tb k hi o v n, ¬ IsOp l s kd tb k hi o v n) : wire_Read.f l = some noOp := by
  unfold wire_Read.f
  rcases readF_cases hok hl with e | ⟨s, kd, tb, k, hi, o, v, n, rest, e, el, hk, hh, hv, lk, lh, lv⟩
  · rw [e]; rfl
  · rw [e, Option.bind_some]
    simp only
    by_cases hr : rest.length > 0
    · rw [if_pos hr]
    · rw [if_neg hr, wire_may_f s kd tb k hi o v n (by omega) (by omega) (by omega), Option.bind_some]
      have : rest = [] := List.length_eq_zero_iff.1 (by omega)
      subst this
      rw [List.append_nil] at el
      by_cases hm : mayB s kd tb k.length hi.length o v.length n = true
      · exact absurd ⟨hm, el, hk, hh, hv⟩ (h s kd tb k hi o v n)
      · rw [if_neg hm]
theorem wire_Read_f {l : List Int} (hok : okb l = true) (hl : l.length < 1000000) : ∃ r, wire_Read.f l = some r ∧ (r = noOp ∨ ∃ s kd tb k hi o v n, IsOp l s kd tb k hi o v n ∧ r = (s, kd, tb, k, hi, o, v, n, 0)) := by
  by_cases h : ∃ s kd tb k hi o v n, IsOp l s kd tb k hi o v n
  · obtain ⟨s, kd, tb, k, hi, o, v, n, h⟩ := h
    exact ⟨_, wire_Read_back h, Or.inr ⟨s, kd, tb, k, hi, o, v, n, h, rfl⟩⟩
  · exact ⟨_, wire_Read_not hok hl (fun s kd tb k hi o v n hc => h ⟨s, kd, tb, k, hi, o, v, n, hc⟩), Or.inl rfl⟩
end Go.Proofs.Ytfbjabpjfalmlaa.Pure
