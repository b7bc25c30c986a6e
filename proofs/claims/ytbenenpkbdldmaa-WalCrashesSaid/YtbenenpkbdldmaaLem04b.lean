import Derived.Test.YtbenenpkbdldmaaLem04
namespace Go.Proofs.Ytbenenpkbdldmaa.Pure
open Go.RowKit Go.Proofs.Ytbenenpkbdldmaa.P Go.Proofs.YtbenenpkbdldmaaW.PrintWords Go.Proofs.YtbenenpkbdldmaaW.PrintLast
set_option linter.unusedVariables false
set_option linter.unusedSimpArgs false

theorem texts_enc {ts : List (List Int)} {s : Int} (hF : FrL ts) (h : okLog (encF ts).length s = true) : wal_Texts.f (encF ts) s = some ts := by
  have := texts_f (s := s) hF (r := []) rfl rdP_nil (by rw [List.append_nil]; exact h)
  rw [List.append_nil] at this
  exact this
theorem encF_cut (l : List (List Int)) (y : Nat) : encF l = encF (l.take y) ++ encF (l.drop y) := by rw [← encF_app, List.take_append_drop]
theorem encF_take_le (l : List (List Int)) (y : Nat) : (encF (l.take y)).length ≤ (encF l).length := by
  rw [encF_cut l y, List.length_append]
  omega
theorem FrL.take {l : List (List Int)} (h : FrL l) (y : Nat) : FrL (l.take y) := fun t ht => h t (List.mem_of_mem_take ht)
/-- Frames that are cut: those that are whole, and what is none. -/
theorem cut_enc : ∀ (l : List (List Int)), FrL l → ∀ n, n ≤ (encF l).length → ∃ m r, m ≤ l.length ∧ (encF l).take n = encF (l.take m) ++ r ∧ okb r = true ∧ (rdP r).2.2 ≠ 0 ∧ (∀ y, y ≤ l.length → (encF (l.take y)).length ≤ n → y ≤ m) := by
  intro l
  induction l with
  | nil =>
    intro _ n hn
    exact ⟨0, [], Nat.le_refl _, by simp [encF], rfl, rdP_nil, fun y hy _ => hy⟩
  | cons t l ih =>
    intro hF n hn
    have ht := hF t (by simp)
    have hFl : FrL l := fun x hx => hF x (by simp [hx])
    by_cases h : n < (frameP t).length
    · refine ⟨0, (frameP t).take n, Nat.zero_le _, ?_, okb_take (frameP_ok ht.2) n, rdP_short ht h, ?_⟩
      · rw [encF, List.take_append_of_le_length (by omega)]
        simp [encF]
      · intro y hy hle
        cases y with
        | zero => exact Nat.le_refl _
        | succ y => rw [List.take_succ_cons, encF, List.length_append] at hle; omega
    · rw [encF, List.length_append] at hn
      obtain ⟨m, r, h1, h2, h3, h4, h5⟩ := ih hFl (n - (frameP t).length) (by omega)
      refine ⟨m + 1, r, by simp; omega, ?_, h3, h4, ?_⟩
      · rw [List.take_succ_cons, encF, encF, List.append_assoc, ← h2, List.take_append, List.take_of_length_le (by omega)]
      · intro y hy hle
        cases y with
        | zero => omega
        | succ y =>
          rw [List.take_succ_cons, encF, List.length_append] at hle
          have := h5 y (by simpa using hy) (by omega)
          omega
/-- What stands in a log: texts, of which the first y are synced. -/
structure Inv (want : List (List Int)) (y : Nat) : Prop where
  le : y ≤ want.length
  fr : FrL want
  len : (encF want).length ≤ 20000
theorem Inv.ok {want : List (List Int)} {y : Nat} (h : Inv want y) : okLog (encF want).length ((encF (want.take y)).length : Int) = true := (okLog_iff _ _).mpr ⟨h.len, by omega, by have := encF_take_le want y; omega⟩
theorem Inv.take {want : List (List Int)} {y : Nat} (h : Inv want y) {m : Nat} (hm : m ≤ want.length) : Inv (want.take m) m := ⟨by simp; omega, h.fr.take m, by have := encF_take_le want m; have := h.len; omega⟩
theorem crash_trim {want : List (List Int)} {y : Nat} (h : Inv want y) (keep : Int) : ∃ m b s, y ≤ m ∧ m ≤ want.length ∧ wal_Crash.f (encF want) ((encF (want.take y)).length : Int) keep = some (b, s) ∧ wal_Trim.f b s = some (encF (want.take m), ((encF (want.take m)).length : Int)) := by
  have hle := encF_take_le want y
  have hlen := h.len
  obtain ⟨n, hn⟩ : ∃ n : Nat, mn (mx keep ((encF (want.take y)).length : Int)) ((encF want).length : Int) = (n : Int) := ⟨(mn (mx keep ((encF (want.take y)).length : Int)) ((encF want).length : Int)).toNat, by unfold mn mx; (repeat' split) <;> omega⟩
  have hn2 : (encF (want.take y)).length ≤ n ∧ n ≤ (encF want).length := by
    unfold mn mx at hn
    (repeat' split at hn) <;> omega
  obtain ⟨m, r, h1, h2, h3, h4, h5⟩ := cut_enc want h.fr n hn2.2
  refine ⟨m, (encF want).take n, (n : Int), h5 y h.le hn2.1, h1, ?_, ?_⟩
  · rw [crash_f keep h.ok, hn, Int.toNat_natCast]
  · have hl : ((encF want).take n).length = n := by rw [List.length_take]; omega
    have hl2 : (encF (want.take m)).length + r.length = n := by rw [← List.length_append, ← h2, hl]
    rw [h2]
    have hok : okLog (encF (want.take m) ++ r).length (n : Int) = true := (okLog_iff _ _).mpr ⟨by rw [List.length_append]; omega, by omega, by rw [List.length_append]; omega⟩
    rw [trim_f (h.fr.take m) h3 h4 hok]
    congr 2
    unfold mn
    split <;> omega
end Go.Proofs.Ytbenenpkbdldmaa.Pure
