import Derived.Test.YtfbjabpjfalmlaaLem21d
namespace Go.Proofs.Ytfbjabpjfalmlaa.Pure
open Go.RowKit Go.Proofs.Ytfbjabpjfalmlaa.P Go.Proofs.YtfbjabpjfalmlaaW.PrintWords Go.Proofs.YtfbjabpjfalmlaaW.PrintLast
set_option linter.unusedVariables false
set_option linter.unusedSimpArgs false
theorem OkP.cons {p : S47} {r : List S47} (h : OkP (p :: r)) : okb p.f0 = true ∧ okb p.f1 = true ∧ OkP r := ⟨(h p (by simp)).1, (h p (by simp)).2, fun q hq => h q (by simp [hq])⟩
theorem OkP.snoc {r : List S47} {p : S47} (h : OkP r) (h0 : okb p.f0 = true) (h1 : okb p.f1 = true) : OkP (r ++ [p]) := by
  intro q hq
  rw [List.mem_append, List.mem_singleton] at hq
  rcases hq with hq | rfl
  · exact h q hq
  · exact ⟨h0, h1⟩
structure IsTold (l : List Int) (e : Int) (f : Bool) (v : List Int) (ps : List S47) (rest : List Int) : Prop where
  may : replyB e f v.length ps = true
  eq : l = tellBytes e f v ps ++ rest
  v : okb v = true
  ps : OkP ps
theorem tellLoop_back : ∀ (ps acc : List S47) (rest : List Int), OkP ps → SmP ps → okb rest = true → rest.length + 60 * ps.length < 1000000 → tellLoop ps.length (flatP ps ++ rest) acc = some (some (acc ++ ps, rest))
  | [], acc, rest, _, _, _, _ => by rw [List.length_nil, tellLoop, List.append_nil]; rfl
  | p :: r, acc, rest, ho, hs, hr, hl => by
    obtain ⟨o0, o1, o2⟩ := ho.cons
    have h1 := hs p (by simp)
    have hs2 : SmP r := fun q hq => hs q (by simp [hq])
    have a := oT_len p.f0; have b := oT_len p.f1
    have d := flatP_len hs2
    rw [List.length_cons] at hl
    have k2 := okb_app (flatP_ok o2) hr
    have k1 := okb_app (oT_ok o1) k2
    have k0 := okb_app (oT_ok o0) k1
    rw [List.length_cons, tellLoop, flatP]
    simp only [List.append_assoc]
    rw [takeText_f k0 (by simp; omega), Option.bind_some, tt_back (by omega), if_neg (by simp)]
    simp only
    rw [takeText_f k1 (by simp; omega), Option.bind_some, tt_back (by omega), if_neg (by simp)]
    simp only
    rw [tellLoop_back r _ rest o2 hs2 hr (by omega)]
    simp
theorem tellLoop_cases : ∀ (n : Nat) (l : List Int) (acc : List S47), okb l = true → l.length < 1000000 → tellLoop n l acc = some none ∨ ∃ ps rest, tellLoop n l acc = some (some (acc ++ ps, rest)) ∧ ps.length = n ∧ l = flatP ps ++ rest ∧ okb rest = true ∧ rest.length < 1000000 ∧ OkP ps
  | 0, l, acc, ho, hl => Or.inr ⟨[], l, by rw [tellLoop, List.append_nil], rfl, rfl, ho, hl, fun q hq => by cases hq⟩
  | n + 1, l, acc, ho, hl => by
    rw [tellLoop, takeText_f ho hl, Option.bind_some]
    rcases tt_cases ho hl with h | ⟨k, t, h, hk, e, okk, ok1, l1⟩
    · rw [h]; exact Or.inl rfl
    rw [h, if_neg (by simp)]
    simp only
    rw [takeText_f ok1 l1, Option.bind_some]
    rcases tt_cases ok1 l1 with h | ⟨v, t2, h, hv, e2, okv, ok2, l2⟩
    · rw [h]; exact Or.inl rfl
    rw [h, if_neg (by simp)]
    simp only
    rcases tellLoop_cases n t2 (acc ++ [⟨k, v⟩]) ok2 l2 with h | ⟨ps, rest, h, hn, e3, okr, lr, op⟩
    · rw [h]; exact Or.inl rfl
    · rw [h]
      refine Or.inr ⟨⟨k, v⟩ :: ps, rest, by simp, by simp [hn], ?_, okr, lr, ?_⟩
      · rw [e, e2, e3, flatP]
        simp only [List.append_assoc]
      · intro q hq
        rcases List.mem_cons.1 hq with rfl | hq
        · exact ⟨okk, okv⟩
        · exact op q hq
theorem tellF_back {e : Int} {f : Bool} {v : List Int} {ps : List S47} {rest : List Int} (hm : replyB e f v.length ps = true) (hv : okb v = true) (hp : OkP ps) (hr : okb rest = true) (hl : rest.length < 900000) : tellF (tellBytes e f v ps ++ rest) = some (some (e, f, v, ps, rest)) := by
  obtain ⟨h0, h1, h2, h3, h4⟩ := replyB_b hm
  have l1 := oB_len e; have l2 := oT_len v; have l3 := oB_len (ps.length : Int); have l4 := flatP_len h4
  have k5 := okb_app (flatP_ok hp) hr
  have k4 := okb_app (oB_ok (n := (ps.length : Int)) (by omega)) k5
  have k3 := okb_app (oT_ok hv) k4
  have k2 := okb_app (okb_flag f) k3
  have k1 := okb_app (oB_ok h0) k2
  unfold tellF tellBytes
  simp only [List.append_assoc]
  rw [take_f k1 (by simp; omega), Option.bind_some, take_back h0 (by omega), if_neg (by simp)]
  simp only
  rw [take_f k2 (by simp; omega), Option.bind_some, List.singleton_append, take_flag, if_neg (by simp)]
  simp only
  rw [if_neg (flag_le f), takeText_f k3 (by simp; omega), Option.bind_some, tt_back (by omega), if_neg (by simp)]
  simp only
  rw [take_f k4 (by simp; omega), Option.bind_some, take_back (by omega) (by omega), if_neg (by simp)]
  simp only
  rw [if_neg (by omega), Int.toNat_natCast, tellLoop_back ps [] rest hp h4 hr (by omega), Option.bind_some, flag_back]
  rfl
theorem tellF_cases {l : List Int} (hok : okb l = true) (hl : l.length < 1000000) : tellF l = some none ∨ ∃ e f v ps rest, tellF l = some (some (e, f, v, ps, rest)) ∧ l = tellBytes e f v ps ++ rest ∧ okb v = true ∧ OkP ps := by
  unfold tellF
  rw [take_f hok hl, Option.bind_some]
  rcases take_cases hok hl with h | ⟨e, t1, h, _, _, e1, ok1, l1⟩
  · rw [h]; exact Or.inl rfl
  rw [h, if_neg (by simp), take_f ok1 l1, Option.bind_some]
  rcases take_cases ok1 l1 with h | ⟨o, t2, h, o0, _, e2, ok2, l2⟩
  · rw [h]; exact Or.inl rfl
  rw [h, if_neg (by simp)]
  simp only
  by_cases ho : 1 < o
  · rw [if_pos ho]; exact Or.inl rfl
  rw [if_neg ho, takeText_f ok2 l2, Option.bind_some]
  rcases tt_cases ok2 l2 with h | ⟨v, t3, h, hv, e3, okv, ok3, l3⟩
  · rw [h]; exact Or.inl rfl
  rw [h, if_neg (by simp), take_f ok3 l3, Option.bind_some]
  rcases take_cases ok3 l3 with h | ⟨n, t4, h, n0, _, e4, ok4, l4⟩
  · rw [h]; exact Or.inl rfl
  rw [h, if_neg (by simp)]
  simp only
  by_cases hn : 80 < n
  · rw [if_pos hn]; exact Or.inl rfl
  rw [if_neg hn]
  rcases tellLoop_cases n.toNat t4 [] ok4 l4 with h | ⟨ps, rest, h, hps, e5, okr, lr, op⟩
  · rw [h]; exact Or.inl rfl
  rw [h, Option.bind_some]
  refine Or.inr ⟨e, o == 1, v, ps, rest, rfl, ?_, okv, op⟩
  have eo : o = if (o == 1) then 1 else 0 := by
    rcases (by omega : o = 0 ∨ o = 1) with rfl | rfl <;> rfl
  have e2' : t1 = [if (o == 1) then (1 : Int) else 0] ++ t2 := by rw [e2, ← octBytes_flag, ← eo]; rfl
  have en : n = (ps.length : Int) := by omega
  rw [en] at e4
  rw [e1, e2', e3, e4, e5]
  unfold tellBytes
  simp only [List.append_assoc]
abbrev RepT := Int × Bool × List Int × (List S47) × List Int × Int
abbrev noRep : RepT := (0, false, [], [], [], 210)
theorem wire_Tell_back {l : List Int} {e : Int} {f : Bool} {v : List Int} {ps : List S47} {rest : List Int} (hok : okb l = true) (hl : l.length < 900000) (h : IsTold l e f v ps rest) : wire_Tell.f l = some (e, f, v, ps, rest, 0) := by
  obtain ⟨hm, rfl, hv, hp⟩ := h
  have hr := (ok_app hok).2
  rw [List.length_append] at hl
  unfold wire_Tell.f
  rw [tellF_back hm hv hp hr (by omega), Option.bind_some]
  simp only
  unfold wire_reply.f bytes_Clone.f
  rw [Option.bind_some, if_pos hm, if_pos (by omega), Option.bind_some]
theorem wire_Tell_not {l : List Int} (hok : okb l = true) (hl : l.length < 900000) (h : ∀ e f v ps rest, ¬ IsTold l e f v ps rest) : wire_Tell.f l = some noRep := by
  unfold wire_Tell.f
  rcases tellF_cases hok (by omega) with e | ⟨e, f, v, ps, rest, he, el, hv, hp⟩
  · rw [e]; rfl
  · rw [he, Option.bind_some]
    simp only
    unfold wire_reply.f
    rw [Option.bind_some]
    by_cases hm : replyB e f v.length ps = true
    · exact absurd ⟨hm, el, hv, hp⟩ (h e f v ps rest)
    · rw [if_neg hm]
theorem str_self (l : List Int) : ((strOfNums l).toList == (strOfNums l).toList) = true := by simp
theorem pairs_l0 : ∀ (m : Nat) (a b : List S47) (i : Int) (k : Nat), 0 ≤ i → (a.length : Int) - i ≤ m → a.length = b.length → a.length < 1000000 → m < k → ∃ c, banksmanref07_Pairs.l0 k a b i = some c ∧ (a = b → c = true)
  | 0, a, b, i, k + 1, h0, hm, he, hl, _ => ⟨true, by rw [banksmanref07_Pairs.l0, if_neg (by omega)], fun _ => rfl⟩
  | m + 1, a, b, i, k + 1, h0, hm, he, hl, hk => by
    rw [banksmanref07_Pairs.l0]
    by_cases c : i < (a.length : Int)
    · rw [if_pos c, if_pos h0, if_pos (by omega), w64 (by omega) (by omega)]
      obtain ⟨c, e, hc⟩ := pairs_l0 m a b (i + 1) k (by omega) (by omega) he hl (by omega)
      rw [e]
      split
      · split
        · exact ⟨c, rfl, hc⟩
        · rename_i h; exact ⟨false, rfl, fun hab => absurd (by rw [hab]) h⟩
      · rename_i h; exact ⟨false, rfl, fun hab => absurd (by rw [hab]) h⟩
    · rw [if_neg c]; exact ⟨true, rfl, fun _ => rfl⟩
theorem pairs_f {k : Nat} (a b : List S47) (ha : a.length < k) (hk : a.length < 1000000) : ∃ c, banksmanref07_Pairs.f k a b = some c ∧ (a = b → c = true) := by
  unfold banksmanref07_Pairs.f
  by_cases h : (a.length : Int) = (b.length : Int)
  · rw [if_pos h]
    exact pairs_l0 a.length a b 0 k (by omega) (by omega) (by omega) hk ha
  · rw [if_neg h]
    exact ⟨false, rfl, fun hab => absurd (by rw [hab]) h⟩
theorem replies_f {k : Nat} (e : Int) (f : Bool) (v : List Int) (a : List S47) (e2 : Int) (f2 : Bool) (v2 : List Int) (b : List S47) (ha : a.length < k) (hk : a.length < 1000000) : ∃ c, banksmanref15_Replies.f k e f v a e2 f2 v2 b = some c ∧ (e = e2 → f = f2 → v = v2 → a = b → c = true) := by
  unfold banksmanref15_Replies.f
  obtain ⟨c, h, hc⟩ := pairs_f a b ha hk
  rw [h, Option.bind_some]
  cases c with
  | false => exact ⟨false, rfl, fun _ _ _ h => hc h⟩
  | true =>
    rw [if_pos rfl]
    by_cases h1 : e = e2
    · rw [if_pos h1]
      by_cases h2 : (f == f2) = true
      · rw [if_pos h2]
        exact ⟨_, rfl, fun _ _ h _ => by rw [h]; exact str_self v2⟩
      · rw [if_neg h2]
        exact ⟨_, rfl, fun _ h _ _ => absurd (by simpa using h) h2⟩
    · rw [if_neg h1]
      exact ⟨_, rfl, fun h _ _ _ => absurd h h1⟩
theorem few_l0 : ∀ (m : Nat) (a : List S47) (i : Int) (k : Nat) (e : Int) (f : Bool) (v : List Int), 0 ≤ i → (a.length : Int) - i ≤ m → a.length < 1000000 → m < k → ∃ c, banksmanref21_Few.l0 k i e f v a = some c
  | 0, a, i, k + 1, e, f, v, h0, hm, hl, _ => ⟨true, by rw [banksmanref21_Few.l0, if_neg (by omega)]⟩
  | m + 1, a, i, k + 1, e, f, v, h0, hm, hl, hk => by
    rw [banksmanref21_Few.l0]
    by_cases c : i < (a.length : Int)
    · rw [if_pos c, if_pos h0, w64 (by omega) (by omega)]
      obtain ⟨c, e⟩ := few_l0 m a (i + 1) k e f v (by omega) (by omega) hl (by omega)
      rw [e]
      repeat' split
      all_goals exact ⟨_, rfl⟩
    · rw [if_neg c]; exact ⟨true, rfl⟩
theorem few_f {k : Nat} (hk : 150 ≤ k) (e : Int) (f : Bool) (v : List Int) (ps : List S47) : ∃ b, banksmanref21_Few.f k e f v ps = some b ∧ (b = true → v.length ≤ 100 ∧ ps.length ≤ 100) := by
  obtain ⟨i, rfl⟩ : ∃ i, k = i + 1 := ⟨k - 1, by omega⟩
  have ht : banksmanref21_Few.j0 (i + 1) true e f v ps = some false := by rw [banksmanref21_Few.j0, if_pos rfl]
  unfold banksmanref21_Few.f
  by_cases a : (v.length : Int) > 100
  · rw [if_pos a, ht]; exact ⟨_, rfl, fun h => by cases h⟩
  · rw [if_neg a]
    by_cases b : (ps.length : Int) > 100
    · rw [decide_eq_true b, ht]; exact ⟨_, rfl, fun h => by cases h⟩
    · rw [decide_eq_false b, banksmanref21_Few.j0, if_neg (by decide)]
      obtain ⟨c, e⟩ := few_l0 ps.length ps 0 i e f v (by omega) (by omega) (by omega) (by omega)
      exact ⟨c, e, fun _ => ⟨by omega, by omega⟩⟩
end Go.Proofs.Ytfbjabpjfalmlaa.Pure
