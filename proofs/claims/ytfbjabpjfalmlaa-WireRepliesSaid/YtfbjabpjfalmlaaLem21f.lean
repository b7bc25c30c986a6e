import Derived.Test.YtfbjabpjfalmlaaLem21e
import Derived.Test.YtfbjabpjfalmlaaPx49
namespace Go.Proofs.Ytfbjabpjfalmlaa.Pure
open Go.RowKit Go.Proofs.Ytfbjabpjfalmlaa.P Go.Proofs.YtfbjabpjfalmlaaW.PrintWords Go.Proofs.YtfbjabpjfalmlaaW.PrintLast
set_option linter.unusedVariables false
set_option linter.unusedSimpArgs false
theorem rTell_l0_back {l : List Int} {e : Int} {f : Bool} {v : List Int} {rest : List Int} (hl : l.length < 900000) (hr : okb rest = true) (hrl : rest.length < 900000) : ∀ (suf pre : List S47) (k : Nat), IsTold l e f v (pre ++ suf) rest → suf.length + 150 < k → banksmanref21_Tell.l0 k l ((pre ++ suf).length : Int) (flatP suf ++ rest) (pre.length : Int) e f v pre = some (e, f, v, pre ++ suf, rest, 0)
  | _, _, 0, _, hk => absurd hk (by omega)
  | [], pre, k + 1, h, hk => by
    obtain ⟨hm, he, hv, hp⟩ := h
    rw [List.append_nil] at hm he hp ⊢
    have hlen := congrArg List.length he
    rw [List.length_append] at hlen
    rw [banksmanref21_Tell.l0, if_neg (by omega), rTold_f (by omega), Option.bind_some, if_pos hm]
    simp only [if_true]
    have e1 : (l.take ((tellBytes e f v pre).length : Int).toNat) = tellBytes e f v pre := by rw [Int.toNat_natCast, he, List.take_left]
    rw [if_neg (by omega), if_pos (by omega), if_pos (by omega), e1, if_pos rfl, Option.bind_some]
    rw [if_pos (by simp [flatP]; omega)]
    rfl
  | p :: suf, pre, k + 1, h, hk => by
    have hm := h.may
    obtain ⟨h0, h1, h2, h3, h4⟩ := replyB_b hm
    have ho := h.ps
    have hpp := h4 p (by simp)
    have hpo := ho p (by simp)
    have ho2 : OkP suf := fun q hq => ho q (by simp [hq])
    have hs2 : SmP suf := fun q hq => h4 q (by simp [hq])
    have a := oT_len p.f0; have b := oT_len p.f1
    have d := flatP_len hs2
    rw [List.length_append, List.length_cons] at h3
    rw [List.length_cons] at hk
    have k2 := okb_app (flatP_ok ho2) hr
    have k1 := okb_app (oT_ok hpo.2) k2
    have k0 := okb_app (oT_ok hpo.1) k1
    rw [banksmanref21_Tell.l0, if_pos (by simp; omega), flatP]
    simp only [List.append_assoc]
    rw [rtakeText_f k0 (by simp; omega) (by omega), Option.bind_some, tt_back (by omega)]
    simp only
    rw [rtakeText_f k1 (by simp; omega) (by omega), Option.bind_some, tt_back (by omega)]
    simp only [if_true]
    rw [if_pos (by omega), w64 (by omega) (by omega)]
    have e1 : pre ++ p :: suf = (pre ++ [p]) ++ suf := by simp
    rw [e1] at h ⊢
    have := rTell_l0_back hl hr hrl suf (pre ++ [p]) k h (by omega)
    rw [show ((pre.length : Int) + 1) = (((pre ++ [p]).length : Nat) : Int) from by simp]
    exact this
theorem rTell_back {l : List Int} {k : Nat} (hk : 280 ≤ k) {e : Int} {f : Bool} {v : List Int} {ps : List S47} {rest : List Int} (hok : okb l = true) (hl : l.length < 900000) (h : IsTold l e f v ps rest) : banksmanref21_Tell.f k l = some (e, f, v, ps, rest, 0) := by
  have hm := h.may; have hv := h.v; have hp := h.ps
  obtain ⟨h0, h1, h2, h3, h4⟩ := replyB_b hm
  have hlen := congrArg List.length h.eq
  rw [List.length_append] at hlen
  have hok2 := hok
  rw [h.eq] at hok2
  have hr := (ok_app hok2).2
  have l1 := oB_len e; have l2 := oT_len v; have l3 := oB_len (ps.length : Int); have l4 := flatP_len h4
  have k5 := okb_app (flatP_ok hp) hr
  have k4 := okb_app (oB_ok (n := (ps.length : Int)) (by omega)) k5
  have k3 := okb_app (oT_ok hv) k4
  have k2 := okb_app (okb_flag f) k3
  have k1 := okb_app (oB_ok h0) k2
  obtain ⟨i, rfl⟩ : ∃ i, k = i + 1 := ⟨k - 1, by omega⟩
  have e1 : banksmanref01_Take.f (i + 1) l = some (e, ([if f then (1 : Int) else 0] ++ (oT v ++ (oB ps.length ++ (flatP ps ++ rest)))), 0) := by
    rw [rtake_f hok (by omega) (by omega), h.eq]
    unfold tellBytes
    simp only [List.append_assoc]
    rw [take_back h0 (by omega)]
  unfold banksmanref21_Tell.f
  rw [e1, Option.bind_some]
  simp only
  rw [rtake_f k2 (by simp; omega) (by omega), Option.bind_some, List.singleton_append, take_flag]
  simp only
  rw [rtakeText_f k3 (by simp; omega) (by omega), Option.bind_some, tt_back (by omega)]
  simp only
  rw [rtake_f k4 (by simp; omega) (by omega), Option.bind_some, take_back (by omega) (by omega)]
  simp only [if_true]
  rw [decide_eq_false (by omega), banksmanref21_Tell.j0, if_neg (by decide), flag_back]
  exact rTell_l0_back hl hr (by omega) ps [] i h (by omega)
theorem rTell_l0_not {l : List Int} (hok : okb l = true) (h : ∀ e f v ps rest, ¬ IsTold l e f v ps rest) : ∀ (m k : Nat) (n i e : Int) (f : Bool) (v t : List Int) (ps : List S47), 0 ≤ i → n ≤ 80 → n - i ≤ m → m + 150 < k → (ps.length : Int) ≤ i → okb v = true → OkP ps → okb t = true → t.length < 1000000 → banksmanref21_Tell.l0 k l n t i e f v ps = some noRep
  | _, 0, _, _, _, _, _, _, _, _, _, _, hk, _, _, _, _, _ => absurd hk (by omega)
  | m, k + 1, n, i, e, f, v, t, ps, hi, hn, hm, hk, hps, okv, okp, okt, lt => by
    rw [banksmanref21_Tell.l0]
    by_cases c : i < n
    · rw [if_pos c]
      obtain ⟨q, rfl⟩ : ∃ q, m = q + 1 := ⟨m - 1, by omega⟩
      rw [rtakeText_f okt lt (by omega), Option.bind_some]
      rcases tt_cases okt lt with e1 | ⟨a, t1, e1, _, _, oka, ok1, l1⟩
      · rw [e1]
        simp only
        rw [rtakeText_f (l := []) rfl (by decide) (by omega), Option.bind_some]
        rw [if_neg (by decide)]
      · rw [e1]
        simp only [if_true]
        rw [rtakeText_f ok1 l1 (by omega), Option.bind_some]
        rcases tt_cases ok1 l1 with e2 | ⟨b, t2, e2, _, _, okb2, ok2, l2⟩
        · rw [e2, if_neg (by decide)]
        · rw [e2]
          simp only [if_true]
          rw [if_pos (by omega), w64 (by omega) (by omega)]
          exact rTell_l0_not hok h q k n (i + 1) e f v t2 _ (by omega) hn (by omega) (by omega) (by simp; omega) okv (OkP.snoc okp oka okb2) ok2 l2
    · rw [if_neg c, rTold_f (by omega), Option.bind_some]
      by_cases hmb : replyB e f v.length ps = true
      · rw [if_pos hmb]
        obtain ⟨h0, _, _, _, _⟩ := replyB_b hmb
        simp only [if_true]
        by_cases c2 : ((tellBytes e f v ps).length : Int) > (l.length : Int)
        · rw [if_pos c2]
        · rw [if_neg c2, if_pos (by omega), if_pos (by omega), if_neg]
          intro hs
          have e3 := str_inj (tellBytes_ok h0 okv okp) (okb_take hok _) hs
          refine h e f v ps (l.drop (tellBytes e f v ps).length) ⟨hmb, ?_, okv, okp⟩
          rw [Int.toNat_natCast] at e3
          have e4 := List.take_append_drop (tellBytes e f v ps).length l
          rw [← e3] at e4
          exact e4.symm
      · rw [if_neg hmb, if_neg (by decide)]
theorem rTell_not {l : List Int} {k : Nat} (hk : 280 ≤ k) (hok : okb l = true) (hl : l.length < 900000) (h : ∀ e f v ps rest, ¬ IsTold l e f v ps rest) : banksmanref21_Tell.f k l = some noRep := by
  obtain ⟨i, rfl⟩ : ∃ i, k = i + 1 := ⟨k - 1, by omega⟩
  have ht : ∀ t : List Int, okb t = true → t.length < 1000000 → ∃ p : Int × List Int × Int, banksmanref01_Take.f (i + 1) t = some p ∧ okb p.2.1 = true ∧ p.2.1.length < 1000000 := by
    intro t h1 h2
    refine ⟨_, rtake_f h1 h2 (by omega), ?_⟩
    rcases take_cases h1 h2 with e | ⟨n, u, e, _, _, _, ok, lu⟩
    · rw [e]; exact ⟨rfl, by decide⟩
    · rw [e]; exact ⟨ok, lu⟩
  have hx : ∀ t : List Int, okb t = true → t.length < 1000000 → ∃ p : List Int × List Int × Int, banksmanref01_TakeText.f (i + 1) t = some p ∧ okb p.1 = true ∧ okb p.2.1 = true ∧ p.2.1.length < 1000000 := by
    intro t h1 h2
    refine ⟨_, rtakeText_f h1 h2 (by omega), ?_⟩
    rcases tt_cases h1 h2 with e | ⟨n, u, e, _, _, ok0, ok, lu⟩
    · rw [e]; exact ⟨rfl, rfl, by decide⟩
    · rw [e]; exact ⟨ok0, ok, lu⟩
  obtain ⟨p1, e1, o1, l1⟩ := ht l hok (by omega)
  obtain ⟨p2, e2, o2, l2⟩ := ht p1.2.1 o1 l1
  obtain ⟨p3, e3, q3, o3, l3⟩ := hx p2.2.1 o2 l2
  obtain ⟨p4, e4, o4, l4⟩ := ht p3.2.1 o3 l3
  have hj0 : ∀ b, (b = false → p4.1 ≤ 80) → banksmanref21_Tell.j0 (i + 1) l p1.1 p2.1 p3.1 p4.1 p4.2.1 b = some noRep := by
    intro b hb
    rw [banksmanref21_Tell.j0]
    cases b with
    | true => rfl
    | false =>
      have h80 := hb rfl
      rw [if_neg (by decide)]
      exact rTell_l0_not hok h 80 i p4.1 0 p1.1 (p2.1 == 1) p3.1 p4.2.1 [] (by omega) h80 (by omega) (by omega) (by simp) q3 (fun q hq => by cases hq) o4 l4
  have hjt := hj0 true (fun h => by cases h)
  have hjd := hj0 (decide (p4.1 > 80)) (fun h => by rw [decide_eq_false_iff_not] at h; omega)
  unfold banksmanref21_Tell.f
  rw [e1, Option.bind_some, e2, Option.bind_some, e3, Option.bind_some, e4, Option.bind_some]
  simp only [hjt, hjd, ite_self]
theorem tells_same {l : List Int} {k : Nat} (hk : 280 ≤ k) (hok : okb l = true) (hl : l.length < 900000) : ∃ r, wire_Tell.f l = some r ∧ banksmanref21_Tell.f k l = some r ∧ r.2.2.2.1.length ≤ 80 := by
  by_cases h : ∃ e f v ps rest, IsTold l e f v ps rest
  · obtain ⟨e, f, v, ps, rest, h⟩ := h
    obtain ⟨_, _, _, h3, _⟩ := replyB_b h.may
    exact ⟨_, wire_Tell_back hok hl h, rTell_back hk hok hl h, h3⟩
  · have h2 : ∀ e f v ps rest, ¬ IsTold l e f v ps rest := fun e f v ps rest hc => h ⟨e, f, v, ps, rest, hc⟩
    exact ⟨_, wire_Tell_not hok hl h2, rTell_not hk hok hl h2, by decide⟩
end Go.Proofs.Ytfbjabpjfalmlaa.Pure
