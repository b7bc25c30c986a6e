import Derived.Test.YtfbjabpjfalmlaaPx1
import Derived.Test.YtfbjabpjfalmlaaPx1
import Derived.Test.YtfbjabpjfalmlaaPx1
import Derived.Test.YtfbjabpjfalmlaaPx1
import Derived.Test.YtfbjabpjfalmlaaPx38
import Derived.Test.YtfbjabpjfalmlaaPx42
import Derived.Test.YtfbjabpjfalmlaaPx43
import Derived.Test.YtfbjabpjfalmlaaPx39
import Derived.Lib.Bytes
namespace Go.Proofs.Ytfbjabpjfalmlaa.Pure
open Go.RowKit Go.Proofs.Ytfbjabpjfalmlaa.P Go.Proofs.YtfbjabpjfalmlaaW.PrintWords Go.Proofs.YtfbjabpjfalmlaaW.PrintLast
set_option linter.unusedVariables false
set_option linter.unusedSimpArgs false
theorem take_oct (t : List Int) : ∀ (j k : Nat) (n acc : Int), 0 ≤ n → n < 128 ^ (j + 1) → k + j < 5 → acc + n * 128 ^ k ≤ 2147483647 → (n = 0 → k = 0) → takeR (octBytes (j + 1) n ++ t) k acc = some (acc + n * 128 ^ k, t) := by
  intro j
  induction j with
  | zero =>
    intro k n acc h0 h1 hk hm hz
    have h1' : n < 128 := by simpa using h1
    rw [octBytes, if_neg (by omega), List.singleton_append, takeR, if_neg (by omega), if_neg (by omega), if_neg (by omega)]
  | succ j ih =>
    intro k n acc h0 h1 hk hm hz
    rw [octBytes]
    by_cases h : 128 ≤ n
    · rw [if_pos h, List.cons_append, takeR, if_neg (by omega), if_pos (by omega)]
      have e1 : (n % 128 + 128) % 128 = n % 128 := by omega
      have e2 : (128 : Int) ^ (k + 1) = 128 ^ k * 128 := Int.pow_succ _ _
      have e3 : (128 : Int) ^ (j + 1 + 1) = 128 ^ (j + 1) * 128 := Int.pow_succ _ _
      have e4 : n % 128 * 128 ^ k + n / 128 * (128 ^ k * 128) = n * 128 ^ k := by
        have e5 : n = n % 128 + n / 128 * 128 := by omega
        conv => rhs; rw [e5, Int.add_mul]
        rw [Int.mul_assoc, Int.mul_comm 128]
      rw [e1, ih (k + 1) (n / 128) (acc + n % 128 * 128 ^ k) (by omega) (by omega) (by omega) (by rw [e2]; omega) (by omega), e2]
      congr 2
      omega
    · rw [if_neg h, List.singleton_append, takeR, if_neg (by omega), if_neg (by omega), if_neg (by omega)]
theorem take_octBytes {n : Int} (h0 : 0 ≤ n) (h1 : n ≤ 2147483647) (t : List Int) : takeR (octBytes 5 n ++ t) 0 0 = some (n, t) := by
  have := take_oct t 4 0 n 0 h0 (by omega) (by omega) (by omega) (fun _ => rfl)
  simpa using this
theorem takeR_five (l : List Int) (acc : Int) {k : Nat} (h : 5 ≤ k) : takeR l k acc = none := by
  cases l with
  | nil => rfl
  | cons x l => rw [takeR, if_pos h]
theorem takeR_inv : ∀ (l : List Int) (k j : Nat) (acc m : Int) (t : List Int), okb l = true → k + j = 5 → takeR l k acc = some (m, t) → ∃ n, 0 ≤ n ∧ m = acc + n * 128 ^ k ∧ l = octBytes j n ++ t ∧ n < 128 ^ j ∧ (n = 0 → k = 0) ∧ m ≤ 2147483647 := by
  intro l
  induction l with
  | nil => intro k j acc m t _ _ h; cases h
  | cons x l ih =>
    intro k j acc m t hok hkj h
    have hx : 0 ≤ x ∧ x ≤ 255 := okb_mem hok (by simp)
    have hok' : okb l = true := by unfold okb at hok ⊢; rw [List.all_cons, Bool.and_eq_true] at hok; exact hok.2
    by_cases h5 : k ≥ 5
    · rw [takeR, if_pos h5] at h; cases h
    obtain ⟨j, rfl⟩ : ∃ i, j = i + 1 := ⟨j - 1, by omega⟩
    rw [takeR, if_neg h5] at h
    by_cases h1 : x ≥ 128
    · rw [if_pos h1] at h
      obtain ⟨n, n0, hm, hl, hn, hz, hmax⟩ := ih (k + 1) j _ m t hok' (by omega) h
      have hn1 : n ≠ 0 := fun e => by have := hz e; omega
      have e1 : (128 : Int) ^ (k + 1) = 128 ^ k * 128 := Int.pow_succ _ _
      have e2 : (128 : Int) ^ (j + 1) = 128 ^ j * 128 := Int.pow_succ _ _
      refine ⟨x % 128 + 128 * n, by omega, ?_, ?_, by omega, fun e => by omega, hmax⟩
      · rw [hm, e1, Int.add_mul, Int.mul_comm 128 n, Int.mul_assoc, Int.mul_comm 128 (128 ^ k)]; omega
      · rw [octBytes, if_pos (by omega), hl]
        have e3 : (x % 128 + 128 * n) % 128 + 128 = x := by omega
        have e4 : (x % 128 + 128 * n) / 128 = n := by omega
        rw [e3, e4]; rfl
    · rw [if_neg h1] at h
      by_cases h2 : acc + x * 128 ^ k > 2147483647 ∨ (x = 0 ∧ k ≥ 1)
      · rw [if_pos h2] at h; cases h
      · rw [if_neg h2] at h
        obtain ⟨rfl, rfl⟩ := Prod.mk.inj (Option.some.inj h)
        have e2 : (128 : Int) ^ (j + 1) = 128 ^ j * 128 := Int.pow_succ _ _
        have hp : (0 : Int) < 128 ^ j := Int.pow_pos (by decide)
        exact ⟨x, by omega, rfl, by rw [octBytes, if_neg (by omega)]; rfl, by omega, fun e => by omega, by omega⟩
theorem octBytes_ok (j : Nat) {n : Int} (h : 0 ≤ n) : okb (octBytes j n) = true := by
  induction j generalizing n with
  | zero => rfl
  | succ j ih =>
    rw [octBytes]
    by_cases h1 : 128 ≤ n
    · rw [if_pos h1]
      have := ih (n := n / 128) (by omega)
      unfold okb at this ⊢
      rw [List.all_cons, this, Bool.and_true, Bool.and_eq_true]
      exact ⟨decide_eq_true (by omega), decide_eq_true (by omega)⟩
    · rw [if_neg h1]
      unfold okb
      rw [List.all_cons, List.all_nil, Bool.and_true, Bool.and_eq_true]
      exact ⟨decide_eq_true (by omega), decide_eq_true (by omega)⟩
theorem octBytes_mono : ∀ (j : Nat) {n m : Int}, 0 ≤ n → n ≤ m → (octBytes j n).length ≤ (octBytes j m).length := by
  intro j
  induction j with
  | zero => intro n m _ _; exact Nat.le_refl _
  | succ j ih =>
    intro n m h0 h
    rw [octBytes, octBytes]
    by_cases h1 : 128 ≤ n
    · rw [if_pos h1, if_pos (by omega), List.length_cons, List.length_cons]
      have := ih (n := n / 128) (m := m / 128) (by omega) (by omega)
      omega
    · rw [if_neg h1]
      split <;> simp
theorem w64 {x : Int} (h0 : -9223372036854775808 ≤ x) (h1 : x ≤ 9223372036854775807) : wrap64 x = x := by unfold wrap64; omega
def numP (l : List Int) (n : Int) : List Int × Int := if n < 0 ∨ n > 2147483647 then ([], 10) else (l ++ octBytes 5 n, 0)
theorem number_f {l : List Int} (h : l.length < 140737488355000) (n : Int) : octet_Number.f l n = some (numP l n) := by
  unfold octet_Number.f numP
  by_cases h1 : n < 0
  · rw [if_pos h1, if_pos (.inl h1)]
  · rw [if_neg h1]
    by_cases h2 : n > 2147483647
    · rw [if_pos h2, if_pos (.inr h2)]
    · rw [if_neg h2, if_pos h, if_neg (by omega)]
theorem rnumber_l0 : ∀ (j k : Nat) (n : Int) (acc : List Int), 0 ≤ n → n < 128 ^ (j + 1) → n ≤ 2147483647 → acc.length + j < 140737488355328 → j + 1 ≤ k → banksmanref01_Number.l0 k n acc = some (acc ++ octBytes (j + 1) n, 0) := by
  intro j
  induction j with
  | zero =>
    intro k n acc h0 h1 hm ha hk
    obtain ⟨k, rfl⟩ : ∃ m, k = m + 1 := ⟨k - 1, by omega⟩
    have h1' : n < 128 := by simpa using h1
    have e : n % 256 = n := by omega
    rw [banksmanref01_Number.l0, if_neg (by omega), if_pos (by omega), octBytes, if_neg (by omega), e]
  | succ j ih =>
    intro k n acc h0 h1 hm ha hk
    obtain ⟨k, rfl⟩ : ∃ m, k = m + 1 := ⟨k - 1, by omega⟩
    rw [banksmanref01_Number.l0, octBytes]
    by_cases h : n ≥ 128
    · have e1 : Int.tdiv n 128 = n / 128 := Int.tdiv_eq_ediv_of_nonneg h0
      have e2 : Int.tmod n 128 = n % 128 := Int.tmod_eq_emod_of_nonneg h0
      have e3 : (128 : Int) ^ (j + 1 + 1) = 128 ^ (j + 1) * 128 := Int.pow_succ _ _
      have e4 : (n % 128 + 128) % 256 = n % 128 + 128 := by omega
      rw [if_pos h, if_pos (by omega), e1, e2, w64 (by omega) (by omega), w64 (by omega) (by omega), e4, ih k (n / 128) _ (by omega) (by omega) (by omega) (by simp; omega) (by omega), if_pos h, List.append_assoc]
      rfl
    · have e : n % 256 = n := by omega
      rw [if_neg h, if_pos (by omega), if_neg h, e]
theorem rnumber_f {l : List Int} {k : Nat} (h : l.length < 140737488355000) (hk : 6 ≤ k) (n : Int) : banksmanref01_Number.f k l n = some (numP l n) := by
  unfold banksmanref01_Number.f numP
  obtain ⟨k, rfl⟩ : ∃ m, k = m + 1 := ⟨k - 1, by omega⟩
  by_cases h1 : n < 0
  · rw [if_pos h1, if_pos (.inl h1), banksmanref01_Number.j0, if_pos rfl]
  · rw [if_neg h1, banksmanref01_Number.j0]
    by_cases h2 : n ≥ 2147483648
    · rw [decide_eq_true h2, if_pos rfl, if_pos (.inr (by omega))]
    · rw [decide_eq_false h2, if_neg (by decide), Option.bind_some, if_pos (by simp; omega), if_neg (by omega), rnumber_l0 4 k n _ (by omega) (by omega) (by omega) (by simp; omega) (by omega), List.nil_append]
theorem okb_cons {x : Int} {l : List Int} (h : okb (x :: l) = true) : okb l = true := by
  unfold okb at h ⊢
  rw [List.all_cons, Bool.and_eq_true] at h
  exact h.2
theorem okb_append {a b : List Int} : okb (a ++ b) = (okb a && okb b) := by unfold okb; rw [List.all_append]
theorem okb_app {a b : List Int} (ha : okb a = true) (hb : okb b = true) : okb (a ++ b) = true := by rw [okb_append, ha, hb]; rfl
theorem okb_take {l : List Int} (h : okb l = true) (n : Nat) : okb (l.take n) = true := by
  have := okb_append (a := l.take n) (b := l.drop n)
  rw [List.take_append_drop, h] at this
  exact (Bool.and_eq_true_iff.mp this.symm).1
theorem okb_drop {l : List Int} (h : okb l = true) (n : Nat) : okb (l.drop n) = true := by
  have := okb_append (a := l.take n) (b := l.drop n)
  rw [List.take_append_drop, h] at this
  exact (Bool.and_eq_true_iff.mp this.symm).2
theorem wf_u8 {x : Int} (h : (Lit.int .u8 x).wf = true) : 0 ≤ x ∧ x ≤ 255 := by
  simp [Lit.wf, IntKind.min, IntKind.max, IntKind.bits, IntKind.signed] at h; omega
theorem okb_of {l : List Int} (h : ∀ x ∈ l, (Lit.int .u8 x).wf = true) : okb l = true := by
  unfold okb
  rw [List.all_eq_true]
  intro x hx
  have := wf_u8 (h x hx)
  simp; omega
theorem str_inj : ∀ {a b : List Int}, okb a = true → okb b = true → (strOfNums a).toList = (strOfNums b).toList → a = b := by
  intro a
  induction a with
  | nil =>
    intro b _ _ h
    rw [Go.Lib.strOfNums_toList, Go.Lib.strOfNums_toList] at h
    cases b with
    | nil => rfl
    | cons y b => simp [Go.Lib.bytesOf] at h
  | cons x a ih =>
    intro b ha hb h
    rw [Go.Lib.strOfNums_toList, Go.Lib.strOfNums_toList] at h
    cases b with
    | nil => simp [Go.Lib.bytesOf] at h
    | cons y b =>
      have hx := okb_mem ha (b := x) (by simp)
      have hy := okb_mem hb (b := y) (by simp)
      simp only [Go.Lib.bytesOf, List.map_cons, List.cons.injEq] at h
      have e : x = y := by
        have h2 := congrArg UInt8.toNat h.1
        rw [UInt8.toNat_ofNat', UInt8.toNat_ofNat'] at h2
        omega
      rw [e, ih (okb_cons ha) (okb_cons hb) (by rw [Go.Lib.strOfNums_toList, Go.Lib.strOfNums_toList]; exact h.2)]
theorem numP_ok {n : Int} (h0 : 0 ≤ n) (h1 : n ≤ 2147483647) (l : List Int) : numP l n = (l ++ octBytes 5 n, 0) := by unfold numP; rw [if_neg (by omega)]
def textP (l t : List Int) : List Int × Int := if (t.length : Int) > 65535 then ([], 10) else (l ++ octBytes 5 t.length ++ t, 0)
theorem text_f {l t : List Int} (hl : l.length < 1000000) : octet_Text.f l t = some (textP l t) := by
  unfold octet_Text.f textP
  by_cases h : (t.length : Int) > 65535
  · rw [if_pos h, if_pos h]
  · have h5 := octBytes_len 5 t.length
    rw [if_neg h, if_neg h, number_f (by omega), Option.bind_some, numP_ok (by omega) (by omega)]
    simp only
    rw [if_pos (by simp; omega)]
def ttP (l : List Int) : List Int × List Int × Int :=
  match takeR l 0 0 with
  | none => ([], [], 10)
  | some (n, t) => if n > 65535 then ([], [], 10) else if n > (t.length : Int) then ([], [], 10) else (t.take n.toNat, t.drop n.toNat, 0)
theorem take_f {l : List Int} (hok : okb l = true) (hl : l.length < 1000000) : octet_Take.f l = some (takeRes (takeR l 0 0)) := by
  unfold octet_Take.f
  rw [if_pos hok, if_pos (by omega)]
theorem takeR_some {l : List Int} {n : Int} {t : List Int} (hok : okb l = true) (h : takeR l 0 0 = some (n, t)) : 0 ≤ n ∧ n ≤ 2147483647 ∧ l = octBytes 5 n ++ t := by
  obtain ⟨m, h0, h1, h2, h3, h4, h5⟩ := takeR_inv l 0 5 0 n t hok rfl h
  have e : n = m := by simpa using h1
  subst e
  exact ⟨h0, h5, h2⟩
theorem takeText_f {l : List Int} (hok : okb l = true) (hl : l.length < 1000000) : octet_TakeText.f l = some (ttP l) := by
  unfold octet_TakeText.f ttP
  rw [take_f hok hl, Option.bind_some]
  cases h : takeR l 0 0 with
  | none => simp [takeRes]
  | some p =>
    obtain ⟨n, t⟩ := p
    obtain ⟨h0, h1, h2⟩ := takeR_some hok h
    have hlen := congrArg List.length h2
    rw [List.length_append] at hlen
    show (if (0 : Int) = 0 then (if n < 0 then none else if n > 65535 then some (([] : List Int), ([] : List Int), (10 : Int)) else if n > (t.length : Int) then some ([], [], 10) else if t.length < 140737488355328 then some (t.take n.toNat, t.drop n.toNat, 0) else none) else some ([], [], 10)) = some _
    rw [if_pos rfl, if_neg (show ¬ n < 0 by omega)]
    simp only
    by_cases c1 : n > 65535
    · rw [if_pos c1, if_pos c1]
    · rw [if_neg c1, if_neg c1]
      by_cases c2 : n > (t.length : Int)
      · rw [if_pos c2, if_pos c2]
      · rw [if_neg c2, if_neg c2, if_pos (by omega)]
theorem tt_text {t : List Int} (h : (t.length : Int) ≤ 65535) (u : List Int) : ttP (octBytes 5 t.length ++ t ++ u) = (t, u, 0) := by
  unfold ttP
  rw [List.append_assoc, take_octBytes (by omega) (by omega)]
  simp only
  rw [if_neg (by omega), if_neg (by simp; omega)]
  simp
theorem pow_le {i : Nat} (h : i ≤ 4) : (1 : Int) ≤ 128 ^ i ∧ (128 : Int) ^ i ≤ 268435456 := by
  have : i = 0 ∨ i = 1 ∨ i = 2 ∨ i = 3 ∨ i = 4 := by omega
  rcases this with rfl | rfl | rfl | rfl | rfl <;> decide
theorem rd_app (pre suf : List Int) (x : Int) : rd (pre ++ x :: suf) (pre.length : Int) = x := by
  unfold rd
  simp [List.getD_eq_getElem?_getD]
theorem rtake_l0 : ∀ (suf pre : List Int) (acc : Int) (k : Nat), okb (pre ++ suf) = true → pre.length ≤ 5 → (pre ++ suf).length < 1000000 → 0 ≤ acc → acc < 128 ^ pre.length →
    takeR (pre ++ suf) 0 0 = takeR suf pre.length acc → 22 ≤ k + 2 * pre.length → banksmanref01_Take.l0 k (pre ++ suf) acc (128 ^ pre.length) pre.length = some (takeRes (takeR (pre ++ suf) 0 0)) := by
  intro suf
  induction suf with
  | nil =>
    intro pre acc k hok h5 hlen ha0 ha1 hT hk
    obtain ⟨k, rfl⟩ : ∃ m, k = m + 2 := ⟨k - 2, by omega⟩
    rw [hT, banksmanref01_Take.l0, if_neg (by simp), banksmanref01_Take.j1, if_neg (by decide)]
    rfl
  | cons x suf ih =>
    intro pre acc k hok h5 hlen ha0 ha1 hT hk
    obtain ⟨k, rfl⟩ : ∃ m, k = m + 2 := ⟨k - 2, by omega⟩
    have hll : (pre ++ x :: suf).length = pre.length + 1 + suf.length := by simp; omega
    have hx := okb_mem hok (b := x) (by simp)
    rw [banksmanref01_Take.l0, if_pos (by omega), banksmanref01_Take.j1]
    by_cases hi : pre.length = 5
    · rw [decide_eq_false (by omega), if_neg (by decide), hT, takeR_five _ _ (by omega)]
      rfl
    have hi4 : pre.length ≤ 4 := by omega
    obtain ⟨hp1, hp2⟩ := pow_le hi4
    have hm : Int.tmod x 128 = x % 128 := Int.tmod_eq_emod_of_nonneg hx.1
    have hq0 : 0 ≤ x % 128 * 128 ^ pre.length := Int.mul_nonneg (by omega) (by omega)
    have hq1 : x % 128 * 128 ^ pre.length ≤ 127 * 128 ^ pre.length := Int.mul_le_mul_of_nonneg_right (by omega) (by omega)
    rw [decide_eq_true (by omega), if_pos rfl, if_pos (by omega), if_pos (by omega), rd_app, w64 (x := x) (by omega) (by omega), hm, w64 (x := x % 128 * 128 ^ pre.length) (by omega) (by omega), w64 (x := acc + x % 128 * 128 ^ pre.length) (by omega) (by omega), w64 (x := (pre.length : Int) + 1) (by omega) (by omega)]
    have htk : (pre ++ x :: suf).take ((pre.length : Int) + 1).toNat = pre ++ [x] := by
      have e : ((pre.length : Int) + 1).toNat = pre.length + 1 := by omega
      have e2 : pre ++ x :: suf = (pre ++ [x]) ++ suf := by simp
      rw [e, e2, List.take_append_of_le_length (by simp)]
      exact List.take_of_length_le (by simp)
    have hdr : (pre ++ x :: suf).drop ((pre.length : Int) + 1).toNat = suf := by
      have e : ((pre.length : Int) + 1).toNat = pre.length + 1 := by omega
      have e2 : pre ++ x :: suf = (pre ++ [x]) ++ suf := by simp
      rw [e, e2]
      exact List.drop_left' (by simp)
    have hcut : pre ++ x :: suf = (pre ++ [x]) ++ suf := by simp
    by_cases hx1 : x < 128
    · have hxm : x % 128 = x := by omega
      rw [hxm] at hq0 hq1 ⊢
      rw [takeR, if_neg (by omega), if_neg (by omega)] at hT
      rw [if_pos hx1, rnumber_f (by simp) (by omega), Option.bind_some, htk, hdr]
      by_cases c1 : acc + x * 128 ^ pre.length > 2147483647
      · rw [if_pos (Or.inl c1)] at hT
        have hn : numP [] (acc + x * 128 ^ pre.length) = ([], 10) := by
          unfold numP
          rw [if_pos (Or.inr c1)]
        rw [hT, hn]
        rfl
      · have hn := numP_ok (n := acc + x * 128 ^ pre.length) (by omega) (by omega) []
        rw [List.nil_append] at hn
        rw [hn]
        simp only
        rw [if_pos trivial, if_pos (show 0 ≤ (pre.length : Int) + 1 by omega), if_pos (show (pre.length : Int) + 1 ≤ ((pre ++ x :: suf).length : Int) by omega)]
        by_cases c2 : x = 0 ∧ pre.length ≥ 1
        · rw [if_pos (Or.inr c2)] at hT
          rw [hT, if_neg]
          · rfl
          · intro he
            have he2 := str_inj (octBytes_ok 5 (by omega)) (by rw [hcut, okb_append, Bool.and_eq_true] at hok; exact hok.1) he
            rw [hcut, ← he2, take_octBytes (by omega) (by omega)] at hT
            cases hT
        · rw [if_neg (by omega)] at hT
          obtain ⟨_, _, h2⟩ := takeR_some hok hT
          rw [hcut] at h2
          have h3 := List.append_cancel_right h2
          rw [hT, if_pos (by rw [h3]), Option.bind_some, if_pos (by simp; omega)]
          rfl
    · rw [if_neg hx1]
      have e1 : wrap64 ((128 : Int) ^ pre.length * 128) = 128 ^ (pre ++ [x]).length := by
        rw [w64 (by omega) (by omega)]
        simp [Int.pow_succ]
      have e2 : (pre.length : Int) + 1 = ((pre ++ [x]).length : Int) := by simp
      rw [takeR, if_neg (by omega), if_pos (by omega)] at hT
      rw [e1, e2, hcut]
      rw [hcut] at hT hok hlen
      have e3 : (pre ++ [x]).length = pre.length + 1 := by simp
      exact ih (pre ++ [x]) _ k hok (by omega) hlen (by omega) (by rw [e3, Int.pow_succ]; omega) (by rw [e3]; exact hT) (by omega)
theorem rtake_f {l : List Int} {k : Nat} (hok : okb l = true) (hl : l.length < 1000000) (hk : 22 ≤ k) : banksmanref01_Take.f k l = some (takeRes (takeR l 0 0)) := by
  unfold banksmanref01_Take.f
  exact rtake_l0 l [] 0 k hok (by simp) hl (by decide) (by decide) rfl (by simp; omega)
theorem rtext_f {l t : List Int} {k : Nat} (hl : l.length < 1000000) (hk : 6 ≤ k) : banksmanref01_Text.f k l t = some (textP l t) := by
  unfold banksmanref01_Text.f textP
  by_cases h : (t.length : Int) > 65535
  · rw [if_pos h, if_pos h]
  · have h5 := octBytes_len 5 t.length
    rw [if_neg h, if_neg h, rnumber_f (by omega) hk, Option.bind_some, numP_ok (by omega) (by omega)]
    simp only
    rw [if_pos (by simp; omega)]
theorem rtakeText_f {l : List Int} {k : Nat} (hok : okb l = true) (hl : l.length < 1000000) (hk : 22 ≤ k) : banksmanref01_TakeText.f k l = some (ttP l) := by
  unfold banksmanref01_TakeText.f ttP
  rw [rtake_f hok hl hk, Option.bind_some]
  cases h : takeR l 0 0 with
  | none => simp [takeRes]
  | some p =>
    obtain ⟨n, t⟩ := p
    obtain ⟨h0, h1, h2⟩ := takeR_some hok h
    have hlen := congrArg List.length h2
    rw [List.length_append] at hlen
    show (if (0 : Int) = 0 then (if n > 65535 then some (([] : List Int), ([] : List Int), (10 : Int)) else if n > (t.length : Int) then some ([], [], 10) else (some ([] : List Int)).bind fun y249 => if 0 ≤ n then (if n ≤ (t.length : Int) then ((some (t.take n.toNat : List Int)).bind fun y252 => (if y249.length + y252.length < 140737488355328 then ((some (([] : List Int) : List Int)).bind fun y260 => ((some (t.drop n.toNat : List Int)).bind fun y263 => (if y260.length + y263.length < 140737488355328 then (some ((y249 ++ y252), (y260 ++ y263), 0)) else (none)))) else (none))) else (none)) else (none)) else some ([], [], 10)) = some _
    rw [if_pos rfl]
    simp only
    by_cases c1 : n > 65535
    · rw [if_pos c1, if_pos c1]
    · rw [if_neg c1, if_neg c1]
      by_cases c2 : n > (t.length : Int)
      · rw [if_pos c2, if_pos c2]
      · rw [if_neg c2, if_neg c2]
        simp only [Option.bind_some, List.nil_append, List.length_nil]
        rw [if_pos h0, if_pos (by omega), if_pos (by simp; omega), if_pos (by simp; omega)]
end Go.Proofs.Ytfbjabpjfalmlaa.Pure
