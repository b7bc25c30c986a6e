import Derived.Test.YtficgggfplejpaaLemA03
import Derived.Test.YtficgggfplejpaaPx26
import Derived.Test.YtficgggfplejpaaPx27
import Derived.Test.YtficgggfplejpaaPx23
import Derived.Test.YtficgggfplejpaaPx25
import Derived.Test.YtficgggfplejpaaPx28
import Derived.Test.YtficgggfplejpaaPx29
namespace Go.Proofs.Ytficgggfplejpaa.Pure
open Go.RowKit Go.Proofs.Ytficgggfplejpaa.P Go.Proofs.YtficgggfplejpaaW.PrintWords Go.Proofs.YtficgggfplejpaaW.PrintLast
set_option linter.unusedVariables false
set_option linter.unusedSimpArgs false

/-! LemRef01b -/
theorem pow_le {i : Nat} (h : i ≤ 4) : (1 : Int) ≤ 128 ^ i ∧ (128 : Int) ^ i ≤ 268435456 := by
  have : i = 0 ∨ i = 1 ∨ i = 2 ∨ i = 3 ∨ i = 4 := by omega
  rcases this with rfl | rfl | rfl | rfl | rfl <;> decide
theorem rd_app (pre suf : List Int) (x : Int) : rd (pre ++ x :: suf) (pre.length : Int) = x := by
  unfold rd
  simp [List.getD_eq_getElem?_getD]
theorem rtake_l0 : ∀ (suf pre : List Int) (acc : Int) (k : Nat), okb (pre ++ suf) = true → pre.length ≤ 5 → (pre ++ suf).length < 1000000 → 0 ≤ acc → acc < 128 ^ pre.length →
    takeR (pre ++ suf) 0 0 = takeR suf pre.length acc → 22 ≤ k + 2 * pre.length → banksmanref01_Take.l0 k (pre ++ suf) acc (128 ^ pre.length) pre.length = some (takeRes (takeR (pre ++ suf) 0 0)) := by
  intro suf
  induction suf with
  | nil =>
    intro pre acc k hok h5 hlen ha0 ha1 hT hk
    obtain ⟨k, rfl⟩ : ∃ m, k = m + 2 := ⟨k - 2, by omega⟩
    rw [hT, banksmanref01_Take.l0, if_neg (by simp), banksmanref01_Take.j1, if_neg (by decide)]
    rfl
  | cons x suf ih =>
    intro pre acc k hok h5 hlen ha0 ha1 hT hk
    obtain ⟨k, rfl⟩ : ∃ m, k = m + 2 := ⟨k - 2, by omega⟩
    have hll : (pre ++ x :: suf).length = pre.length + 1 + suf.length := by simp; omega
    have hx := okb_mem hok (b := x) (by simp)
    rw [banksmanref01_Take.l0, if_pos (by omega), banksmanref01_Take.j1]
    by_cases hi : pre.length = 5
    · rw [decide_eq_false (by omega), if_neg (by decide), hT, takeR_five _ _ (by omega)]
      rfl
    have hi4 : pre.length ≤ 4 := by omega
    obtain ⟨hp1, hp2⟩ := pow_le hi4
    have hm : Int.tmod x 128 = x % 128 := Int.tmod_eq_emod_of_nonneg hx.1
    have hq0 : 0 ≤ x % 128 * 128 ^ pre.length := Int.mul_nonneg (by omega) (by omega)
    have hq1 : x % 128 * 128 ^ pre.length ≤ 127 * 128 ^ pre.length := Int.mul_le_mul_of_nonneg_right (by omega) (by omega)
    rw [decide_eq_true (by omega), if_pos rfl, if_pos (by omega), if_pos (by omega), rd_app, w64 (x := x) (by omega) (by omega), hm, w64 (x := x % 128 * 128 ^ pre.length) (by omega) (by omega), w64 (x := acc + x % 128 * 128 ^ pre.length) (by omega) (by omega), w64 (x := (pre.length : Int) + 1) (by omega) (by omega)]
    have htk : (pre ++ x :: suf).take ((pre.length : Int) + 1).toNat = pre ++ [x] := by
      have e : ((pre.length : Int) + 1).toNat = pre.length + 1 := by omega
      have e2 : pre ++ x :: suf = (pre ++ [x]) ++ suf := by simp
      rw [e, e2, List.take_append_of_le_length (by simp)]
      exact List.take_of_length_le (by simp)
    have hdr : (pre ++ x :: suf).drop ((pre.length : Int) + 1).toNat = suf := by
      have e : ((pre.length : Int) + 1).toNat = pre.length + 1 := by omega
      have e2 : pre ++ x :: suf = (pre ++ [x]) ++ suf := by simp
      rw [e, e2]
      exact List.drop_left' (by simp)
    have hcut : pre ++ x :: suf = (pre ++ [x]) ++ suf := by simp
    by_cases hx1 : x < 128
    · have hxm : x % 128 = x := by omega
      rw [hxm] at hq0 hq1 ⊢
      rw [takeR, if_neg (by omega), if_neg (by omega)] at hT
      rw [if_pos hx1, rnumber_f (by simp) (by omega), Option.bind_some, htk, hdr]
      by_cases c1 : acc + x * 128 ^ pre.length > 2147483647
      · rw [if_pos (Or.inl c1)] at hT
        have hn : numP [] (acc + x * 128 ^ pre.length) = ([], 10) := by
          unfold numP
          rw [if_pos (Or.inr c1)]
        rw [hT, hn]
        rfl
      · have hn := numP_ok (n := acc + x * 128 ^ pre.length) (by omega) (by omega) []
        rw [List.nil_append] at hn
        rw [hn]
        simp only
        rw [if_pos trivial, if_pos (show 0 ≤ (pre.length : Int) + 1 by omega), if_pos (show (pre.length : Int) + 1 ≤ ((pre ++ x :: suf).length : Int) by omega)]
        by_cases c2 : x = 0 ∧ pre.length ≥ 1
        · rw [if_pos (Or.inr c2)] at hT
          rw [hT, if_neg]
          · rfl
          · intro he
            have he2 := str_inj (octBytes_ok 5 (by omega)) (by rw [hcut, okb_append, Bool.and_eq_true] at hok; exact hok.1) he
            rw [hcut, ← he2, take_octBytes (by omega) (by omega)] at hT
            cases hT
        · rw [if_neg (by omega)] at hT
          obtain ⟨_, _, h2⟩ := takeR_some hok hT
          rw [hcut] at h2
          have h3 := List.append_cancel_right h2
          rw [hT, if_pos (by rw [h3]), Option.bind_some, if_pos (by simp; omega)]
          rfl
    · rw [if_neg hx1]
      have e1 : wrap64 ((128 : Int) ^ pre.length * 128) = 128 ^ (pre ++ [x]).length := by
        rw [w64 (by omega) (by omega)]
        simp [Int.pow_succ]
      have e2 : (pre.length : Int) + 1 = ((pre ++ [x]).length : Int) := by simp
      rw [takeR, if_neg (by omega), if_pos (by omega)] at hT
      rw [e1, e2, hcut]
      rw [hcut] at hT hok hlen
      have e3 : (pre ++ [x]).length = pre.length + 1 := by simp
      exact ih (pre ++ [x]) _ k hok (by omega) hlen (by omega) (by rw [e3, Int.pow_succ]; omega) (by rw [e3]; exact hT) (by omega)
theorem rtake_f {l : List Int} {k : Nat} (hok : okb l = true) (hl : l.length < 1000000) (hk : 22 ≤ k) : banksmanref01_Take.f k l = some (takeRes (takeR l 0 0)) := by
  unfold banksmanref01_Take.f
  exact rtake_l0 l [] 0 k hok (by simp) hl (by decide) (by decide) rfl (by simp; omega)
theorem rtext_f {l t : List Int} {k : Nat} (hl : l.length < 1000000) (hk : 6 ≤ k) : banksmanref01_Text.f k l t = some (textP l t) := by
  unfold banksmanref01_Text.f textP
  by_cases h : (t.length : Int) > 65535
  · rw [if_pos h, if_pos h]
  · have h5 := octBytes_len 5 t.length
    rw [if_neg h, if_neg h, rnumber_f (by omega) hk, Option.bind_some, numP_ok (by omega) (by omega)]
    simp only
    rw [if_pos (by simp; omega)]
theorem rtakeText_f {l : List Int} {k : Nat} (hok : okb l = true) (hl : l.length < 1000000) (hk : 22 ≤ k) : banksmanref01_TakeText.f k l = some (ttP l) := by
  unfold banksmanref01_TakeText.f ttP
  rw [rtake_f hok hl hk, Option.bind_some]
  cases h : takeR l 0 0 with
  | none => simp [takeRes]
  | some p =>
    obtain ⟨n, t⟩ := p
    obtain ⟨h0, h1, h2⟩ := takeR_some hok h
    have hlen := congrArg List.length h2
    rw [List.length_append] at hlen
    show (if (0 : Int) = 0 then (if n > 65535 then some (([] : List Int), ([] : List Int), (10 : Int)) else if n > (t.length : Int) then some ([], [], 10) else (some ([] : List Int)).bind fun y249 => if 0 ≤ n then (if n ≤ (t.length : Int) then ((some (t.take n.toNat : List Int)).bind fun y252 => (if y249.length + y252.length < 140737488355328 then ((some (([] : List Int) : List Int)).bind fun y260 => ((some (t.drop n.toNat : List Int)).bind fun y263 => (if y260.length + y263.length < 140737488355328 then (some ((y249 ++ y252), (y260 ++ y263), 0)) else (none)))) else (none))) else (none)) else (none)) else some ([], [], 10)) = some _
    rw [if_pos rfl]
    simp only
    by_cases c1 : n > 65535
    · rw [if_pos c1, if_pos c1]
    · rw [if_neg c1, if_neg c1]
      by_cases c2 : n > (t.length : Int)
      · rw [if_pos c2, if_pos c2]
      · rw [if_neg c2, if_neg c2]
        simp only [Option.bind_some, List.nil_append, List.length_nil]
        rw [if_pos h0, if_pos (by omega), if_pos (by simp; omega), if_pos (by simp; omega)]
/-! LemRef03 -/
theorem shr8 {v : Int} (h0 : 0 ≤ v) (h1 : v ≤ 4294967295) : shr .u32 v 0 % 256 = v % 256 ∧ shr .u32 v 8 % 256 = v / 256 % 256 ∧ shr .u32 v 16 % 256 = v / 65536 % 256 ∧ shr .u32 v 24 % 256 = v / 16777216 % 256 := by
  unfold shr
  simp [IntKind.bits, IntKind.signed, IntKind.wrap]
  try omega
theorem wr_l0 {v : Int} (h0 : 0 ≤ v) (h1 : v ≤ 4294967295) {acc : List Int} (ha : acc.length < 1000000) {k : Nat} (hk : 5 ≤ k) : banksmanref03_Write.l0 k acc v 0 = some (acc ++ [v % 256, v / 256 % 256, v / 65536 % 256, v / 16777216 % 256], 0) := by
  obtain ⟨k, rfl⟩ : ∃ m, k = m + 5 := ⟨k - 5, by omega⟩
  obtain ⟨s0, s1, s2, s3⟩ := shr8 h0 h1
  have w0 : IntKind.u64.wrap (wrap64 (8 * 0)) = 0 := by decide +kernel
  have w1 : IntKind.u64.wrap (wrap64 (8 * 1)) = 8 := by decide +kernel
  have w2 : IntKind.u64.wrap (wrap64 (8 * 2)) = 16 := by decide +kernel
  have w3 : IntKind.u64.wrap (wrap64 (8 * 3)) = 24 := by decide +kernel
  have v0 : wrap64 (0 + 1) = 1 := by decide +kernel
  have v1 : wrap64 (1 + 1) = 2 := by decide +kernel
  have v2 : wrap64 (2 + 1) = 3 := by decide +kernel
  have v3 : wrap64 (3 + 1) = 4 := by decide +kernel
  rw [banksmanref03_Write.l0, if_pos (by decide), w0, if_pos (by decide), if_pos (by omega), s0, v0]
  rw [banksmanref03_Write.l0, if_pos (by decide), w1, if_pos (by decide), if_pos (by simp; omega), s1, v1]
  rw [banksmanref03_Write.l0, if_pos (by decide), w2, if_pos (by decide), if_pos (by simp; omega), s2, v2]
  rw [banksmanref03_Write.l0, if_pos (by decide), w3, if_pos (by decide), if_pos (by simp; omega), s3, v3]
  rw [banksmanref03_Write.l0, if_neg (by decide)]
  simp
theorem rwrite_f {t : List Int} {k : Nat} (h : okb t = true) (hl : t.length < 100000) (hk : t.length + 22 ≤ k) : banksmanref03_Write.f k t = some (if (t.length : Int) > 2000 then ([], 30) else (frameP t, 0)) := by
  unfold banksmanref03_Write.f
  by_cases c : (t.length : Int) > 2000
  · rw [if_pos c, if_pos c]
  · have l5 := octBytes_len 5 t.length
    have e : textP [] t = (octBytes 5 t.length ++ t, 0) := by unfold textP; rw [if_neg (by omega), List.nil_append]
    obtain ⟨_, _, v0, v1⟩ := val_parts t
    rw [if_neg c, if_neg c, rtext_f (by simp) (by omega), Option.bind_some, e, ref_sum_f t h (by omega) k (by omega), Option.bind_some]
    simp only
    rw [wr_l0 v0 v1 (by rw [List.length_append]; omega) (by omega)]
    rfl
theorem rread_f {l : List Int} {k : Nat} (hok : okb l = true) (hl : l.length < 90000) (hk : l.length + 30 ≤ k) : banksmanref03_Read.f k l = some (rdP l) := by
  unfold banksmanref03_Read.f rdP
  rw [rtakeText_f hok (by omega) (by omega), Option.bind_some]
  by_cases h0 : (ttP l).2.2 = 0
  · obtain ⟨t, r, hE⟩ : ∃ t r, ttP l = (t, r, 0) := ⟨(ttP l).1, (ttP l).2.1, by rw [← h0]⟩
    obtain ⟨hl1, ht, hto, hro⟩ := tt_inv hok hE
    have hlen := congrArg List.length hl1
    rw [List.length_append, List.length_append] at hlen
    rw [hE]
    simp only
    rw [if_pos trivial, rwrite_f hto (by omega) (by omega), Option.bind_some]
    by_cases c1 : (t.length : Int) > 2000
    · rw [if_pos c1, if_neg (show ¬ ((([] : List Int), (30 : Int)).2 = 0) by decide), if_neg (by omega)]
    rw [if_neg c1]
    simp only
    rw [if_pos trivial]
    have hfl := frameP_len t
    by_cases c2 : r.length < 4
    · rw [if_pos (by omega), if_neg (by omega)]
    rw [if_neg (show ¬ ((frameP t).length : Int) > (l.length : Int) by omega), if_pos (show (0 : Int) ≤ ((frameP t).length : Int) by omega), if_pos (show ((frameP t).length : Int) ≤ (l.length : Int) by omega), Int.toNat_natCast]
    have e1 : l.take (frameP t).length = octBytes 5 t.length ++ t ++ r.take 4 := by
      rw [hl1, List.take_append, List.take_of_length_le (by rw [hfl, List.length_append]; omega)]
      congr 2
      rw [hfl, List.length_append]
      omega
    rw [e1]
    by_cases c3 : r.take 4 = tailP t
    · rw [if_pos (by rw [c3]; rfl), if_pos ⟨trivial, by omega, by omega, c3⟩]
    · rw [if_neg, if_neg (fun h => c3 h.2.2.2)]
      intro h
      have h2 := str_inj (frameP_ok hto) (okb_app (okb_app (octBytes_ok 5 (by omega)) hto) (okb_take hro _)) h
      unfold frameP at h2
      exact c3 (List.append_cancel_left h2).symm
  · rw [if_neg h0, if_neg (fun h => h0 h.1)]
theorem rall_l0 : ∀ (ts acc : List (List Int)) (pre r : List Int) (k : Nat), FrL ts → okb (pre ++ (encF ts ++ r)) = true → (pre ++ (encF ts ++ r)).length < 80000 → (rdP r).2.2 ≠ 0 → acc.length + ts.length < 1000000 → (pre ++ (encF ts ++ r)).length + ts.length + 40 ≤ k →
    banksmanref03_All.l0 k (pre ++ (encF ts ++ r)) acc (pre.length : Int) = some (acc ++ ts, (pre.length : Int) + ((encF ts).length : Int)) := by
  intro ts
  induction ts with
  | nil =>
    intro acc pre r k hF hok hl hr ha hk
    obtain ⟨k, rfl⟩ : ∃ m, k = m + 1 := ⟨k - 1, by omega⟩
    have hro : okb r = true := by rw [okb_append, Bool.and_eq_true] at hok; exact hok.2
    have hl2 : (pre ++ (encF [] ++ r)).length = pre.length + r.length := by simp [encF]
    rw [banksmanref03_All.l0, if_pos (by omega), if_pos (by omega), Int.toNat_natCast, List.drop_left' rfl, encF, List.nil_append, rread_f hro (by omega) (by omega), Option.bind_some, if_neg hr]
    simp [encF]
  | cons t ts ih =>
    intro acc pre r k hF hok hl hr ha hk
    obtain ⟨k, rfl⟩ : ∃ m, k = m + 1 := ⟨k - 1, by omega⟩
    have hFt := hF t (by simp)
    have hb := frameP_bd t
    have hro : okb (encF (t :: ts) ++ r) = true := by rw [okb_append, Bool.and_eq_true] at hok; exact hok.2
    have hl2 : (pre ++ (encF (t :: ts) ++ r)).length = pre.length + ((frameP t).length + (encF ts).length + r.length) := by simp [encF]; omega
    have hl3 : (encF (t :: ts) ++ r).length = (frameP t).length + (encF ts).length + r.length := by simp [encF]; omega
    have hcut : pre ++ (encF (t :: ts) ++ r) = (pre ++ frameP t) ++ (encF ts ++ r) := by simp [encF]
    have hE : encF (t :: ts) ++ r = frameP t ++ (encF ts ++ r) := by simp [encF]
    have hlc : (t :: ts).length = ts.length + 1 := rfl
    rw [banksmanref03_All.l0, if_pos (by omega), if_pos (by omega), Int.toNat_natCast, List.drop_left' rfl, rread_f hro (by omega) (by omega), Option.bind_some, hE, rdP_ok hFt]
    simp only
    rw [if_pos trivial, if_pos (by omega), w64 (by omega) (by omega)]
    have e2 : (pre.length : Int) + ((frameP t).length : Int) = ((pre ++ frameP t).length : Int) := by rw [List.length_append]; omega
    have e3 : ((pre ++ frameP t).length : Int) + ((encF ts).length : Int) = (pre.length : Int) + ((encF (t :: ts)).length : Int) := by rw [List.length_append, encF, List.length_append]; omega
    rw [← hE, hcut, e2, ih (acc ++ [t]) (pre ++ frameP t) r k (fun x hx => hF x (by simp [hx])) (by rw [← hcut]; exact hok) (by rw [← hcut]; exact hl) hr (by simp; omega) (by rw [← hcut]; omega), e3]
    simp
theorem rall_f {ts : List (List Int)} {r : List Int} {k : Nat} (hF : FrL ts) (hro : okb r = true) (hl : (encF ts ++ r).length < 80000) (hr : (rdP r).2.2 ≠ 0) (hk : 2 * (encF ts ++ r).length + 40 ≤ k) : banksmanref03_All.f k (encF ts ++ r) = some (ts, ((encF ts).length : Int)) := by
  unfold banksmanref03_All.f
  have hge := encF_ge ts
  have hla : (encF ts ++ r).length = (encF ts).length + r.length := List.length_append
  have h := rall_l0 ts [] [] r k hF (by rw [List.nil_append]; exact okb_app (encF_ok hF) hro) (by simpa using hl) hr (by simp; omega) (by rw [List.nil_append]; omega)
  simpa using h
end Go.Proofs.Ytficgggfplejpaa.Pure
