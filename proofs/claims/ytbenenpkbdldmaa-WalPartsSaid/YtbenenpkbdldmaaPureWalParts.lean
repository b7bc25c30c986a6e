/- Proved: the law WalParts of banksmanlaw04 returns true for every input: texts that are appended one by one are as at once. No conditions. -/
import Derived.Test.YtbenenpkbdldmaaLemW04
import Derived.Test.YtbenenpkbdldmaaPx37
namespace Go.Proofs.Ytbenenpkbdldmaa.Pure
open Go.RowKit Go.Proofs.Ytbenenpkbdldmaa.P Go.Proofs.YtbenenpkbdldmaaW.PrintWords Go.Proofs.YtbenenpkbdldmaaW.PrintLast
set_option linter.unusedVariables false
set_option linter.unusedSimpArgs false

theorem frame_len {t : List Int} (h : t.length ≤ 2000) : (frameP t).length ≤ 2009 := by have := (frameP_bd t).2; omega
theorem appAll_gen : ∀ (ts : List (List Int)) (acc : List Int), (∀ t ∈ ts, okb t = true) → acc.length + 2009 * ts.length < 1000000 →
    (FrL ts ∧ appAll ts acc = some (acc ++ encF ts, 0)) ∨ (¬ FrL ts ∧ appAll ts acc = some ([], 30)) := by
  intro ts
  induction ts with
  | nil => intro acc _ _; exact .inl ⟨fun t ht => by simp at ht, by rw [appAll, encF, List.append_nil]⟩
  | cons t ts ih =>
    intro acc hob hl
    rw [List.length_cons] at hl
    have ht := hob t (by simp)
    rw [appAll, write_f ht, Option.bind_some]
    by_cases h : (t.length : Int) > 2000
    · rw [if_pos h]
      exact .inr ⟨fun hf => by have := (hf t (by simp)).1; omega, rfl⟩
    · rw [if_neg h]
      have hfl := frame_len (t := t) (by omega)
      dsimp only
      rw [if_pos rfl, if_pos (by omega)]
      rcases ih (acc ++ frameP t) (fun x hx => hob x (by simp [hx])) (by rw [List.length_append]; omega) with ⟨h1, h2⟩ | ⟨h1, h2⟩
      · exact .inl ⟨fun x hx => by
          rcases List.mem_cons.mp hx with e | e
          · subst e; exact ⟨by omega, ht⟩
          · exact h1 x e, by rw [h2, encF, List.append_assoc]⟩
      · exact .inr ⟨fun hf => h1 (fun x hx => hf x (by simp [hx])), h2⟩
theorem append_gen {l : List Int} {s : Int} {ts : List (List Int)} (h : okLog l.length s = true) (hob : ∀ t ∈ ts, okb t = true) (hl : ts.length ≤ 20) :
    (FrL ts ∧ l.length + (encF ts).length ≤ 20000 ∧ wal_Append.f l s ts = some (l ++ encF ts, s, 0)) ∨ (¬ (FrL ts ∧ l.length + (encF ts).length ≤ 20000) ∧ ∃ e : Int, e ≠ 0 ∧ wal_Append.f l s ts = some (l, s, e)) := by
  have h2 := (okLog_iff _ _).mp h
  unfold wal_Append.f
  rw [if_pos (by omega), if_pos h]
  rcases appAll_gen ts [] hob (by simp; omega) with ⟨h1, h3⟩ | ⟨h1, h3⟩
  · rw [h3, Option.bind_some, List.nil_append]
    dsimp only
    rw [if_pos rfl]
    by_cases hf : ((encF ts).length : Int) > 20000 - (l.length : Int)
    · rw [if_pos hf]
      exact .inr ⟨fun hh => by have := hh.2; omega, 40, by decide, rfl⟩
    · rw [if_neg hf]
      exact .inl ⟨h1, by omega, rfl⟩
  · rw [h3, Option.bind_some]
    dsimp only
    rw [if_neg (by decide)]
    exact .inr ⟨fun hh => h1 hh.1, 30, by decide, rfl⟩
theorem sync_any {l : List Int} (s : Int) (h : l.length < 1000000) : ∃ x, wal_Sync.f l s = some (l, x) := by
  unfold wal_Sync.f
  rw [if_pos h]
  split <;> exact ⟨_, rfl⟩
theorem same_log (l : List Int) (a : Int) : banksmanref04_Same.f l a l a = some true := by unfold banksmanref04_Same.f; rw [if_pos rfl]; simp
theorem parts_end (ts : List (List Int)) (i e f : Int) (k : Nat) (l : List Int) (a : Int) (all : List Int) (ao : Int) (one : List Int) (oo : Int) (hl : l.length < 1000000)
    (hef : (ts.length : Int) = 0 ∨ ((e == 0) == (f == 0)) = true) (hs : e = 0 → all = one ∧ ao = oo) (hstop : ¬ (i < (ts.length : Int)) ∨ f ≠ 0) :
    banksmanlaw04_WalParts.l0 (k + 1) ts true e f i l a l a all ao one oo = some true := by
  obtain ⟨x, hx⟩ := sync_any a hl
  rw [banksmanlaw04_WalParts.l0]
  by_cases hi : i < (ts.length : Int)
  · have hf : f ≠ 0 := by rcases hstop with h | h; exact absurd hi h; exact h
    rw [if_pos hi, if_neg hf, hx, Option.bind_some, same_log, Option.bind_some, if_pos rfl, if_pos rfl, if_pos rfl]
    by_cases h0 : (ts.length : Int) = 0
    · rw [if_pos h0]
      by_cases he : e = 0
      · obtain ⟨rfl, rfl⟩ := hs he
        rw [if_pos he, same_log]; rfl
      · rw [if_neg he]
    · rw [if_neg h0, if_pos (hef.resolve_left h0)]
      by_cases he : e = 0
      · obtain ⟨rfl, rfl⟩ := hs he
        rw [if_pos he, same_log]; rfl
      · rw [if_neg he]
  · rw [if_neg hi, hx, Option.bind_some, same_log, Option.bind_some, if_pos rfl, if_pos rfl, if_pos rfl]
    by_cases h0 : (ts.length : Int) = 0
    · rw [if_pos h0]
      by_cases he : e = 0
      · obtain ⟨rfl, rfl⟩ := hs he
        rw [if_pos he, same_log]; rfl
      · rw [if_neg he]
    · rw [if_neg h0, if_pos (hef.resolve_left h0)]
      by_cases he : e = 0
      · obtain ⟨rfl, rfl⟩ := hs he
        rw [if_pos he, same_log]; rfl
      · rw [if_neg he]
theorem parts_l0 (l : List Int) (a : Int) (hok : okLog l.length a = true) (ts : List (List Int)) (hob : ∀ t ∈ ts, okb t = true) (hn : ts.length ≤ 20) (all : List Int) (ao e : Int) (he : wal_Append.f l a ts = some (all, ao, e)) :
    ∀ (suf pre : List (List Int)) (k : Nat), ts = pre ++ suf → FrL pre → (l ++ encF pre).length ≤ 20000 → suf.length + 3 ≤ k →
    banksmanlaw04_WalParts.l0 k ts true e 0 (pre.length : Int) l a l a all ao (l ++ encF pre) a = some true := by
  have h2 := (okLog_iff _ _).mp hok
  intro suf
  induction suf with
  | nil =>
    intro pre k hts hF hl hk
    rw [List.append_nil] at hts
    subst hts
    obtain ⟨k, rfl⟩ : ∃ q, k = q + 1 := ⟨k - 1, by omega⟩
    rw [List.length_append] at hl
    rw [append_f hok hF hl] at he
    obtain ⟨rfl, rfl, rfl⟩ : l ++ encF ts = all ∧ a = ao ∧ 0 = e := by simpa using he
    exact parts_end _ _ _ _ _ _ _ _ _ _ _ (by omega) (.inr (by decide)) (fun _ => ⟨rfl, rfl⟩) (.inl (by omega))
  | cons t suf ih =>
    intro pre k hts hF hl hk
    obtain ⟨k, rfl⟩ : ∃ q, k = q + 1 := ⟨k - 1, by omega⟩
    have hlen : ts.length = pre.length + (suf.length + 1) := by rw [hts]; simp
    have hcut : ts = (pre ++ [t]) ++ suf := by rw [hts]; simp
    have hto : okb t = true := hob t (by rw [hts]; simp)
    have hokx : okLog (l ++ encF pre).length a = true := (okLog_iff _ _).mpr ⟨hl, h2.2.1, by rw [List.length_append]; omega⟩
    have hrd : rd_L1 ts (pre.length : Int) = t := by rw [hts]; exact rdL pre suf t
    have e2 : (pre.length : Int) + 1 = ((pre ++ [t]).length : Int) := by simp
    have hone : FrL [t] ↔ t.length ≤ 2000 := ⟨fun h => (h t (by simp)).1, fun h x hx => by rw [List.mem_singleton.mp hx]; exact ⟨h, hto⟩⟩
    have hee : encF (pre ++ [t]) = encF pre ++ encF [t] := encF_app _ _
    rw [banksmanlaw04_WalParts.l0, if_pos (by omega), if_pos rfl, if_pos (by omega), hrd, w64 (by omega) (by omega), e2]
    rcases append_gen (ts := [t]) hokx (fun x hx => by rw [List.mem_singleton.mp hx]; exact hto) (by simp) with ⟨g1, g2, g3⟩ | ⟨g1, e1, g2, g3⟩
    · rw [g3, Option.bind_some]
      dsimp only
      rw [List.append_assoc, ← hee]
      exact ih (pre ++ [t]) k hcut (fun x hx => by
        rcases List.mem_append.mp hx with h | h
        · exact hF x h
        · exact g1 x h) (by rw [hee, ← List.append_assoc, List.length_append]; exact g2) (by simp at hk; omega)
    · rw [g3, Option.bind_some]
      dsimp only
      have hne : e ≠ 0 := by
        rcases append_gen hok hob hn with ⟨q1, q2, q3⟩ | ⟨q1, e3, q2, q3⟩
        · exfalso
          apply g1
          have hm : t ∈ ts := by rw [hts]; simp
          refine ⟨hone.mpr (q1 t hm).1, ?_⟩
          rw [hcut, encF_app, hee] at q2
          simp only [List.length_append] at q2 ⊢
          omega
        · rw [q3] at he
          obtain ⟨rfl, rfl, rfl⟩ : l = all ∧ a = ao ∧ e3 = e := by simpa using he
          exact q2
      obtain ⟨k, rfl⟩ : ∃ q, k = q + 1 := ⟨k - 1, by simp at hk; omega⟩
      exact parts_end _ _ _ _ _ _ _ _ _ _ _ (by omega) (.inr (by rw [beq_eq_false_iff_ne.mpr hne, beq_eq_false_iff_ne.mpr g2]; rfl)) (fun h => absurd h hne) (.inr g2)
theorem small_l0 : ∀ (d k n : Nat) (ts : List (List Int)), n + d = ts.length → ts.length < 100000 → d + 1 ≤ k → ∃ b, banksmanlaw04_small.l0 k ts (n : Int) = some b := by
  intro d
  induction d with
  | zero =>
    intro k n ts hn _ hk
    obtain ⟨k, rfl⟩ : ∃ q, k = q + 1 := ⟨k - 1, by omega⟩
    exact ⟨true, by rw [banksmanlaw04_small.l0, if_neg (by omega)]⟩
  | succ d ih =>
    intro k n ts hn hl hk
    obtain ⟨k, rfl⟩ : ∃ q, k = q + 1 := ⟨k - 1, by omega⟩
    rw [banksmanlaw04_small.l0, if_pos (by omega), if_pos (by omega)]
    by_cases h : ((rd_L1 ts (n : Int)).length : Int) > 3000
    · exact ⟨false, by rw [if_pos h]⟩
    · rw [if_neg h, w64 (by omega) (by omega), show (n : Int) + 1 = ((n + 1 : Nat) : Int) by omega]
      exact ih k (n + 1) ts (by omega) hl (by omega)
theorem small_f (l : List Int) (s : Int) (ts : List (List Int)) : ∃ b, banksmanlaw04_small.f 100 l s ts = some b ∧ (b = true → l.length ≤ 25000 ∧ ts.length ≤ 20) := by
  unfold banksmanlaw04_small.f
  by_cases h : (l.length : Int) > 25000
  · exact ⟨false, by rw [if_pos h, banksmanlaw04_small.j0, if_pos rfl], fun h => by cases h⟩
  · rw [if_neg h]
    by_cases h2 : (ts.length : Int) > 20
    · exact ⟨false, by rw [decide_eq_true h2, banksmanlaw04_small.j0, if_pos rfl], fun h => by cases h⟩
    · obtain ⟨b, hb⟩ := small_l0 ts.length 99 0 ts (by omega) (by omega) (by omega)
      exact ⟨b, by rw [decide_eq_false h2, banksmanlaw04_small.j0, if_neg (by decide)]; exact hb, fun _ => ⟨by omega, by omega⟩⟩
theorem WalParts : banksmanlaw04_WalParts.Pure := by
  intro l s xs hl hs hx
  have hob : ∀ t ∈ xs, okb t = true := fun t ht => okb_of (hx.2 t ht).2
  refine ⟨100, ?_⟩
  unfold banksmanlaw04_WalParts.f
  rw [banksmanlaw04_awake.settled, Option.bind_some]
  obtain ⟨b, hb, hb2⟩ := small_f l s xs
  rw [hb, Option.bind_some]
  cases b with
  | false => rfl
  | true =>
    obtain ⟨h1, h2⟩ := hb2 rfl
    have hc : banksmanref04_Copy.f l s = some (l, s) := by
      unfold banksmanref04_Copy.f
      rw [Option.bind_some, if_pos (by simp; omega), List.nil_append]
    rw [if_pos rfl, hc, Option.bind_some]
    cases hok : okLog l.length s with
    | true =>
      rcases append_gen hok hob h2 with ⟨g1, g2, g3⟩ | ⟨g1, e1, g2, g3⟩
      · rw [g3, Option.bind_some]
        dsimp only
        have := parts_l0 l s hok xs hob h2 _ _ _ g3 xs [] 100 rfl (fun t ht => by simp at ht) (by have := (okLog_iff _ _).mp hok; simp [encF]; omega) (by omega)
        simpa [encF] using this
      · rw [g3, Option.bind_some]
        dsimp only
        have := parts_l0 l s hok xs hob h2 _ _ _ g3 xs [] 100 rfl (fun t ht => by simp at ht) (by have := (okLog_iff _ _).mp hok; simp [encF]; omega) (by omega)
        simpa [encF] using this
    | false =>
      have ha : ∀ ts, wal_Append.f l s ts = some (l, s, 1) := fun ts => by
        unfold wal_Append.f
        rw [if_pos (by omega), hok, if_neg (by decide)]
      rw [ha, Option.bind_some]
      dsimp only
      by_cases h0 : (xs.length : Int) = 0
      · exact parts_end _ _ _ _ _ _ _ _ _ _ _ (by omega) (.inl h0) (fun h => by cases h) (.inl (by omega))
      · rw [banksmanlaw04_WalParts.l0, if_pos (by omega), if_pos rfl, if_pos (by omega), ha, Option.bind_some]
        dsimp only
        exact parts_end _ _ _ _ _ _ _ _ _ _ _ (by omega) (.inr (by decide)) (fun h => by cases h) (.inr (by decide))
end Go.Proofs.Ytbenenpkbdldmaa.Pure
