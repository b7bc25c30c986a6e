import Derived.Test.YtficgggfplejpaaLem03s
import Derived.Test.YtficgggfplejpaaPx15
import Derived.Test.YtficgggfplejpaaPx18
import Derived.Test.YtficgggfplejpaaPx20
namespace Go.Proofs.Ytficgggfplejpaa.Pure
open Go.RowKit Go.Proofs.Ytficgggfplejpaa.P Go.Proofs.YtficgggfplejpaaW.PrintWords Go.Proofs.YtficgggfplejpaaW.PrintLast
set_option linter.unusedVariables false
set_option linter.unusedSimpArgs false

def tailP (t : List Int) : List Int := [val t % 256, val t / 256 % 256, val t / 65536 % 256, val t / 16777216 % 256]
theorem tailP_len (t : List Int) : (tailP t).length = 4 := rfl
theorem tailP_ok (t : List Int) : okb (tailP t) = true := by
  unfold tailP okb
  simp
  omega
theorem tail_f {t : List Int} (h : okb t = true) : frame_tail.f t = some (tailP t) := by
  unfold frame_tail.f tailP
  rw [sum_f h, Option.bind_some]
theorem tailP_inj {a b : List Int} (h : tailP a = tailP b) : val a = val b := by
  obtain ⟨_, _, a0, a1⟩ := val_parts a
  obtain ⟨_, _, b0, b1⟩ := val_parts b
  unfold tailP at h
  simp only [List.cons.injEq, and_true] at h
  omega
def frameP (t : List Int) : List Int := octBytes 5 t.length ++ t ++ tailP t
def Fr (t : List Int) : Prop := t.length ≤ 2000 ∧ okb t = true
theorem frameP_len (t : List Int) : (frameP t).length = (octBytes 5 t.length).length + t.length + 4 := by
  unfold frameP
  rw [List.length_append, List.length_append, tailP_len]
theorem frameP_bd (t : List Int) : t.length + 5 ≤ (frameP t).length ∧ (frameP t).length ≤ t.length + 9 := by
  have l1 : 1 ≤ (octBytes 5 t.length).length := octBytes_pos
  have l5 := octBytes_len 5 t.length
  rw [frameP_len]
  omega
theorem frameP_ok {t : List Int} (h : okb t = true) : okb (frameP t) = true := okb_app (okb_app (octBytes_ok 5 (by omega)) h) (tailP_ok t)
theorem write_f {t : List Int} (h : okb t = true) : frame_Write.f t = some (if (t.length : Int) > 2000 then ([], 30) else (frameP t, 0)) := by
  unfold frame_Write.f
  by_cases c : (t.length : Int) > 2000
  · rw [if_pos c, if_pos c]
  · have l5 := octBytes_len 5 t.length
    have e : textP [] t = (octBytes 5 t.length ++ t, 0) := by unfold textP; rw [if_neg (by omega), List.nil_append]
    rw [if_neg c, if_neg c, text_f (by simp), Option.bind_some, e]
    simp only
    rw [if_pos trivial, tail_f h, Option.bind_some, if_pos (by rw [List.length_append, tailP_len]; omega)]
    rfl
theorem write_ok {t : List Int} (h : Fr t) : frame_Write.f t = some (frameP t, 0) := by
  rw [write_f h.2, if_neg (by have := h.1; omega)]
theorem tt_inv {l t r : List Int} (hok : okb l = true) (h : ttP l = (t, r, 0)) : l = octBytes 5 t.length ++ t ++ r ∧ t.length ≤ 65535 ∧ okb t = true ∧ okb r = true := by
  unfold ttP at h
  cases hT : takeR l 0 0 with
  | none => rw [hT] at h; simp at h
  | some p =>
    obtain ⟨n, s⟩ := p
    rw [hT] at h
    simp only at h
    obtain ⟨n0, n1, hl⟩ := takeR_some hok hT
    by_cases c1 : n > 65535
    · rw [if_pos c1] at h; simp at h
    rw [if_neg c1] at h
    by_cases c2 : n > (s.length : Int)
    · rw [if_pos c2] at h; simp at h
    rw [if_neg c2] at h
    simp only [Prod.mk.injEq, and_true] at h
    obtain ⟨rfl, rfl⟩ := h
    have e : ((s.take n.toNat).length : Int) = n := by rw [List.length_take]; omega
    have hs : okb s = true := by rw [hl, okb_append, Bool.and_eq_true] at hok; exact hok.2
    refine ⟨?_, by omega, okb_take hs _, okb_drop hs _⟩
    rw [e, List.append_assoc, List.take_append_drop]
    exact hl
theorem tt_bad {l : List Int} (h : (ttP l).2.2 ≠ 0) : ttP l = ([], [], 10) := by
  unfold ttP at h ⊢
  cases hT : takeR l 0 0 with
  | none => rfl
  | some p =>
    obtain ⟨n, s⟩ := p
    rw [hT] at h
    simp only at h ⊢
    by_cases c1 : n > 65535
    · rw [if_pos c1]
    rw [if_neg c1] at h ⊢
    by_cases c2 : n > (s.length : Int)
    · rw [if_pos c2]
    rw [if_neg c2] at h
    exact absurd rfl h
def rdP (l : List Int) : List Int × Int × Int :=
  if (ttP l).2.2 = 0 ∧ (ttP l).1.length ≤ 2000 ∧ 4 ≤ (ttP l).2.1.length ∧ (ttP l).2.1.take 4 = tailP (ttP l).1 then ((ttP l).1, ((frameP (ttP l).1).length : Int), 0) else ([], 0, 30)
theorem read_f {l : List Int} (hok : okb l = true) (hl : l.length < 1000000) : frame_Read.f l = some (rdP l) := by
  unfold frame_Read.f rdP
  rw [takeText_f hok hl, Option.bind_some]
  by_cases h0 : (ttP l).2.2 = 0
  · obtain ⟨t, r, hE⟩ : ∃ t r, ttP l = (t, r, 0) := ⟨(ttP l).1, (ttP l).2.1, by rw [← h0]⟩
    obtain ⟨hl1, ht, hto, hro⟩ := tt_inv hok hE
    rw [hE]
    simp only
    rw [if_pos trivial]
    by_cases c1 : (t.length : Int) > 2000
    · rw [if_pos c1, if_neg (by omega)]
    rw [if_neg c1]
    by_cases c2 : (r.length : Int) < 4
    · rw [if_pos c2, if_neg (by omega)]
    rw [if_neg c2, if_pos (by omega), tail_f hto, Option.bind_some]
    by_cases c3 : r.take 4 = tailP t
    · have hlen := congrArg List.length hl1
      rw [List.length_append, List.length_append] at hlen
      rw [if_pos (by rw [c3]), if_pos ⟨trivial, by omega, by omega, c3⟩, frameP_len, w64 (x := (l.length : Int) - (r.length : Int)) (by omega) (by omega), w64 (by omega) (by omega)]
      congr 3
      omega
    · rw [if_neg (fun h => c3 (str_inj (okb_take hro _) (tailP_ok t) h)), if_neg (fun h => c3 h.2.2.2)]
  · rw [if_neg h0, if_neg (fun h => h0 h.1)]
theorem rdP_ok {t : List Int} (h : Fr t) (u : List Int) : rdP (frameP t ++ u) = (t, ((frameP t).length : Int), 0) := by
  have e : frameP t ++ u = octBytes 5 t.length ++ t ++ (tailP t ++ u) := by unfold frameP; simp
  have h1 := h.1
  unfold rdP
  rw [e, tt_text (by omega)]
  simp only
  rw [if_pos ⟨trivial, h1, by rw [List.length_append, tailP_len]; omega, by rw [List.take_append_of_le_length (by rw [tailP_len]; omega)]; rfl⟩]
theorem rdP_inv {l : List Int} (hok : okb l = true) (h : (rdP l).2.2 = 0) : ∃ t u, Fr t ∧ l = frameP t ++ u := by
  unfold rdP at h
  by_cases c : (ttP l).2.2 = 0 ∧ (ttP l).1.length ≤ 2000 ∧ 4 ≤ (ttP l).2.1.length ∧ (ttP l).2.1.take 4 = tailP (ttP l).1
  · obtain ⟨c0, c1, c2, c3⟩ := c
    obtain ⟨t, r, hE⟩ : ∃ t r, ttP l = (t, r, 0) := ⟨(ttP l).1, (ttP l).2.1, by rw [← c0]⟩
    obtain ⟨hl1, ht, hto, hro⟩ := tt_inv hok hE
    rw [hE] at c1 c2 c3
    simp only at c1 c2 c3
    refine ⟨t, r.drop 4, ⟨c1, hto⟩, ?_⟩
    unfold frameP
    rw [← c3, List.append_assoc, List.take_append_drop]
    exact hl1
  · rw [if_neg c] at h
    simp at h
theorem rdP_err {l : List Int} (h : (rdP l).2.2 ≠ 0) : rdP l = ([], 0, 30) := by
  unfold rdP at h ⊢
  split at h
  · exact absurd rfl h
  · rename_i c; rw [if_neg c]
def encF : List (List Int) → List Int
  | [] => []
  | t :: l => frameP t ++ encF l
theorem encF_app (a b : List (List Int)) : encF (a ++ b) = encF a ++ encF b := by
  induction a with
  | nil => rfl
  | cons x a ih => simp only [List.cons_append, encF, ih, List.append_assoc]
def FrL (l : List (List Int)) : Prop := ∀ t ∈ l, Fr t
theorem encF_ok : ∀ {l : List (List Int)}, FrL l → okb (encF l) = true := by
  intro l
  induction l with
  | nil => intro _; rfl
  | cons t l ih =>
    intro h
    rw [encF]
    exact okb_app (frameP_ok (h t (by simp)).2) (ih (fun x hx => h x (by simp [hx])))
theorem encF_ge (l : List (List Int)) : l.length ≤ (encF l).length := by
  induction l with
  | nil => simp
  | cons t l ih =>
    have := frameP_bd t
    rw [encF, List.length_append, List.length_cons]
    omega
/-- Any bytes are frames, and what is none behind them. -/
theorem split_all : ∀ (n : Nat) (l : List Int), l.length ≤ n → okb l = true → ∃ ts r, FrL ts ∧ l = encF ts ++ r ∧ (rdP r).2.2 ≠ 0 := by
  intro n
  induction n with
  | zero =>
    intro l hl hok
    refine ⟨[], l, fun t ht => by simp at ht, rfl, ?_⟩
    intro h
    obtain ⟨t, u, _, he⟩ := rdP_inv hok h
    have h1 := congrArg List.length he
    have h2 := frameP_bd t
    rw [List.length_append] at h1
    omega
  | succ n ih =>
    intro l hl hok
    by_cases h : (rdP l).2.2 = 0
    · obtain ⟨t, u, hF, he⟩ := rdP_inv hok h
      have h1 := congrArg List.length he
      have h2 := frameP_bd t
      rw [List.length_append] at h1
      have hu : okb u = true := by rw [he, okb_append, Bool.and_eq_true] at hok; exact hok.2
      obtain ⟨ts, r, hFL, hu2, hr⟩ := ih u (by omega) hu
      refine ⟨t :: ts, r, fun x hx => ?_, by rw [encF, List.append_assoc, ← hu2]; exact he, hr⟩
      rcases List.mem_cons.mp hx with rfl | hx
      · exact hF
      · exact hFL x hx
    · exact ⟨[], l, fun t ht => by simp at ht, rfl, h⟩
def endsF : Int → List (List Int) → List (Int × List Int)
  | _, [] => []
  | b, t :: l => (b + (frameP t).length, t) :: endsF (b + (frameP t).length) l
theorem endsF_texts (l : List (List Int)) : ∀ b, (endsF b l).map (·.2) = l := by
  induction l with
  | nil => intro b; rfl
  | cons t l ih => intro b; rw [endsF, List.map_cons, ih]
theorem endsF_last (l : List (List Int)) : ∀ b, l ≠ [] → lastEnd (endsF b l) = b + (encF l).length := by
  induction l with
  | nil => intro b h; exact absurd rfl h
  | cons t l ih =>
    intro b _
    cases l with
    | nil => simp [endsF, lastEnd, encF]
    | cons s l =>
      have := ih (b + (frameP t).length) (by simp)
      have e : lastEnd (endsF b (t :: s :: l)) = lastEnd (endsF (b + (frameP t).length) (s :: l)) := by
        unfold lastEnd
        rw [endsF, endsF, List.getLast?_cons_cons]
      have e9 : (encF (t :: s :: l)).length = (frameP t).length + (encF (s :: l)).length := by rw [encF, List.length_append]
      rw [e, this]
      omega
theorem go_all : ∀ (ts : List (List Int)) (pre r : List Int) (k : Nat), FrL ts → okb (pre ++ (encF ts ++ r)) = true → (pre ++ (encF ts ++ r)).length < 1000000 → (rdP r).2.2 ≠ 0 → ts.length + 1 ≤ k →
    frame_go k (pre ++ (encF ts ++ r)) (pre.length : Int) = some (endsF (pre.length : Int) ts) := by
  intro ts
  induction ts with
  | nil =>
    intro pre r k hF hok hl hr hk
    obtain ⟨k, rfl⟩ : ∃ m, k = m + 1 := ⟨k - 1, by omega⟩
    have hro : okb r = true := by rw [okb_append, Bool.and_eq_true] at hok; exact hok.2
    rw [frame_go, Int.toNat_natCast, List.drop_left', encF, List.nil_append, read_f hro (by simp [encF] at hl; omega), Option.bind_some, if_neg hr]
    · rfl
    · rfl
  | cons t ts ih =>
    intro pre r k hF hok hl hr hk
    obtain ⟨k, rfl⟩ : ∃ m, k = m + 1 := ⟨k - 1, by omega⟩
    have hFt := hF t (by simp)
    have hb := frameP_bd t
    have hro : okb (encF (t :: ts) ++ r) = true := by rw [okb_append, Bool.and_eq_true] at hok; exact hok.2
    have hl2 : (pre ++ (encF (t :: ts) ++ r)).length = pre.length + ((frameP t).length + (encF ts).length + r.length) := by simp [encF]; omega
    have hcut : pre ++ (encF (t :: ts) ++ r) = (pre ++ frameP t) ++ (encF ts ++ r) := by simp [encF]
    have hE : encF (t :: ts) ++ r = frameP t ++ (encF ts ++ r) := by simp [encF]
    rw [frame_go, Int.toNat_natCast, List.drop_left' rfl, read_f hro (by rw [List.length_append] at hl; omega), Option.bind_some, hE, rdP_ok hFt]
    simp only
    rw [if_pos trivial, if_pos ⟨by omega, by rw [← hE]; omega⟩]
    have e2 : (pre.length : Int) + ((frameP t).length : Int) = ((pre ++ frameP t).length : Int) := by rw [List.length_append]; omega
    rw [← hE, hcut, e2, ih (pre ++ frameP t) r k (fun x hx => hF x (by simp [hx])) (by rw [← hcut]; exact hok) (by rw [← hcut]; exact hl) hr (by simp at hk; omega)]
    rw [Option.map_some, endsF, e2]
theorem all_f {ts : List (List Int)} {r : List Int} (hF : FrL ts) (hro : okb r = true) (hl : (encF ts ++ r).length < 1000000) (hr : (rdP r).2.2 ≠ 0) : frame_All.f (encF ts ++ r) = some (ts, ((encF ts).length : Int)) := by
  unfold frame_All.f
  have hg := go_all ts [] r ((encF ts ++ r).length + 1) hF (by rw [List.nil_append]; exact okb_app (encF_ok hF) hro) (by simpa using hl) hr (by have := encF_ge ts; rw [List.length_append]; omega)
  simp only [List.nil_append, List.length_nil, Int.natCast_zero] at hg
  rw [if_pos hl]
  have hg2 : frame_go ((encF ts ++ r).length + 1) (encF ts ++ r) 0 = some (endsF 0 ts) := hg
  rw [hg2, Option.map_some, endsF_texts]
  congr 2
  by_cases h : ts = []
  · subst h; rfl
  · rw [endsF_last ts 0 h]; omega
theorem rdP_nil : (rdP []).2.2 ≠ 0 := by
  intro h
  obtain ⟨t, u, _, he⟩ := rdP_inv (l := []) rfl h
  have h1 := congrArg List.length he
  have h2 := frameP_bd t
  rw [List.length_append] at h1
  simp at h1
  omega
/-- Less than a frame is none. -/
theorem rdP_short {t : List Int} (h : Fr t) {i : Nat} (hi : i < (frameP t).length) : (rdP ((frameP t).take i)).2.2 ≠ 0 := by
  intro h0
  obtain ⟨s, u, hs, he⟩ := rdP_inv (okb_take (frameP_ok h.2) i) h0
  have h1 := rdP_ok h []
  have h2 : frameP t ++ [] = frameP s ++ (u ++ (frameP t).drop i) := by
    rw [List.append_nil, ← List.append_assoc, ← he, List.take_append_drop]
  rw [h2, rdP_ok hs] at h1
  have h3 := (Prod.mk.inj h1).1
  subst h3
  have h4 := congrArg List.length he
  rw [List.length_append, List.length_take] at h4
  omega
end Go.Proofs.Ytficgggfplejpaa.Pure
