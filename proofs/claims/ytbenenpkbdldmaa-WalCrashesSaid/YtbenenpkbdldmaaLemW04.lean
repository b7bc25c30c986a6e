import Derived.Lib.Bytes
import Derived.Test.YtbenenpkbdldmaaPx24
import Derived.Test.YtbenenpkbdldmaaPx15
import Derived.Test.YtbenenpkbdldmaaPx16
import Derived.Test.YtbenenpkbdldmaaPx25
import Derived.Test.YtbenenpkbdldmaaPx12
import Derived.Test.YtbenenpkbdldmaaPx26
import Derived.Test.YtbenenpkbdldmaaPx17
import Derived.Test.YtbenenpkbdldmaaPx19
import Derived.Test.YtbenenpkbdldmaaPx32
import Derived.Test.YtbenenpkbdldmaaPx22
import Derived.Test.YtbenenpkbdldmaaPx28
import Derived.Test.YtbenenpkbdldmaaPx29
import Derived.Test.YtbenenpkbdldmaaPx30
import Derived.Test.YtbenenpkbdldmaaPx27
namespace Go.Proofs.Ytbenenpkbdldmaa.Pure
open Go.RowKit Go.Proofs.Ytbenenpkbdldmaa.P Go.Proofs.YtbenenpkbdldmaaW.PrintWords Go.Proofs.YtbenenpkbdldmaaW.PrintLast
set_option linter.unusedVariables false
set_option linter.unusedSimpArgs false

/-! LemA04 -/
/-! Lem01 -/
/-- What is written is read, whatever stands behind. -/
theorem take_oct (t : List Int) : ∀ (j k : Nat) (n acc : Int), 0 ≤ n → n < 128 ^ (j + 1) → k + j < 5 → acc + n * 128 ^ k ≤ 2147483647 → (n = 0 → k = 0) → takeR (octBytes (j + 1) n ++ t) k acc = some (acc + n * 128 ^ k, t) := by
  intro j
  induction j with
  | zero =>
    intro k n acc h0 h1 hk hm hz
    have h1' : n < 128 := by simpa using h1
    rw [octBytes, if_neg (by omega), List.singleton_append, takeR, if_neg (by omega), if_neg (by omega), if_neg (by omega)]
  | succ j ih =>
    intro k n acc h0 h1 hk hm hz
    rw [octBytes]
    by_cases h : 128 ≤ n
    · rw [if_pos h, List.cons_append, takeR, if_neg (by omega), if_pos (by omega)]
      have e1 : (n % 128 + 128) % 128 = n % 128 := by omega
      have e2 : (128 : Int) ^ (k + 1) = 128 ^ k * 128 := Int.pow_succ _ _
      have e3 : (128 : Int) ^ (j + 1 + 1) = 128 ^ (j + 1) * 128 := Int.pow_succ _ _
      have e4 : n % 128 * 128 ^ k + n / 128 * (128 ^ k * 128) = n * 128 ^ k := by
        have e5 : n = n % 128 + n / 128 * 128 := by omega
        conv => rhs; rw [e5, Int.add_mul]
        rw [Int.mul_assoc, Int.mul_comm 128]
      rw [e1, ih (k + 1) (n / 128) (acc + n % 128 * 128 ^ k) (by omega) (by omega) (by omega) (by rw [e2]; omega) (by omega), e2]
      congr 2
      omega
    · rw [if_neg h, List.singleton_append, takeR, if_neg (by omega), if_neg (by omega), if_neg (by omega)]
theorem take_octBytes {n : Int} (h0 : 0 ≤ n) (h1 : n ≤ 2147483647) (t : List Int) : takeR (octBytes 5 n ++ t) 0 0 = some (n, t) := by
  have := take_oct t 4 0 n 0 h0 (by omega) (by omega) (by omega) (fun _ => rfl)
  simpa using this
theorem takeR_five (l : List Int) (acc : Int) {k : Nat} (h : 5 ≤ k) : takeR l k acc = none := by
  cases l with
  | nil => rfl
  | cons x l => rw [takeR, if_pos h]
/-- What is read was written so. -/
theorem takeR_inv : ∀ (l : List Int) (k j : Nat) (acc m : Int) (t : List Int), okb l = true → k + j = 5 → takeR l k acc = some (m, t) → ∃ n, 0 ≤ n ∧ m = acc + n * 128 ^ k ∧ l = octBytes j n ++ t ∧ n < 128 ^ j ∧ (n = 0 → k = 0) ∧ m ≤ 2147483647 := by
  intro l
  induction l with
  | nil => intro k j acc m t _ _ h; cases h
  | cons x l ih =>
    intro k j acc m t hok hkj h
    have hx : 0 ≤ x ∧ x ≤ 255 := okb_mem hok (by simp)
    have hok' : okb l = true := by unfold okb at hok ⊢; rw [List.all_cons, Bool.and_eq_true] at hok; exact hok.2
    by_cases h5 : k ≥ 5
    · rw [takeR, if_pos h5] at h; cases h
    obtain ⟨j, rfl⟩ : ∃ i, j = i + 1 := ⟨j - 1, by omega⟩
    rw [takeR, if_neg h5] at h
    by_cases h1 : x ≥ 128
    · rw [if_pos h1] at h
      obtain ⟨n, n0, hm, hl, hn, hz, hmax⟩ := ih (k + 1) j _ m t hok' (by omega) h
      have hn1 : n ≠ 0 := fun e => by have := hz e; omega
      have e1 : (128 : Int) ^ (k + 1) = 128 ^ k * 128 := Int.pow_succ _ _
      have e2 : (128 : Int) ^ (j + 1) = 128 ^ j * 128 := Int.pow_succ _ _
      refine ⟨x % 128 + 128 * n, by omega, ?_, ?_, by omega, fun e => by omega, hmax⟩
      · rw [hm, e1, Int.add_mul, Int.mul_comm 128 n, Int.mul_assoc, Int.mul_comm 128 (128 ^ k)]; omega
      · rw [octBytes, if_pos (by omega), hl]
        have e3 : (x % 128 + 128 * n) % 128 + 128 = x := by omega
        have e4 : (x % 128 + 128 * n) / 128 = n := by omega
        rw [e3, e4]; rfl
    · rw [if_neg h1] at h
      by_cases h2 : acc + x * 128 ^ k > 2147483647 ∨ (x = 0 ∧ k ≥ 1)
      · rw [if_pos h2] at h; cases h
      · rw [if_neg h2] at h
        obtain ⟨rfl, rfl⟩ := Prod.mk.inj (Option.some.inj h)
        have e2 : (128 : Int) ^ (j + 1) = 128 ^ j * 128 := Int.pow_succ _ _
        have hp : (0 : Int) < 128 ^ j := Int.pow_pos (by decide)
        exact ⟨x, by omega, rfl, by rw [octBytes, if_neg (by omega)]; rfl, by omega, fun e => by omega, by omega⟩
theorem octBytes_ok (j : Nat) {n : Int} (h : 0 ≤ n) : okb (octBytes j n) = true := by
  induction j generalizing n with
  | zero => rfl
  | succ j ih =>
    rw [octBytes]
    by_cases h1 : 128 ≤ n
    · rw [if_pos h1]
      have := ih (n := n / 128) (by omega)
      unfold okb at this ⊢
      rw [List.all_cons, this, Bool.and_true, Bool.and_eq_true]
      exact ⟨decide_eq_true (by omega), decide_eq_true (by omega)⟩
    · rw [if_neg h1]
      unfold okb
      rw [List.all_cons, List.all_nil, Bool.and_true, Bool.and_eq_true]
      exact ⟨decide_eq_true (by omega), decide_eq_true (by omega)⟩
theorem takeR_append (u : List Int) : ∀ (l : List Int) (k : Nat) (acc m : Int) (t : List Int), takeR l k acc = some (m, t) → takeR (l ++ u) k acc = some (m, t ++ u) := by
  intro l
  induction l with
  | nil => intro k acc m t h; cases h
  | cons x l ih =>
    intro k acc m t h
    rw [takeR] at h
    rw [List.cons_append, takeR]
    by_cases h5 : k ≥ 5
    · rw [if_pos h5] at h; cases h
    rw [if_neg h5] at h ⊢
    by_cases h1 : x ≥ 128
    · rw [if_pos h1] at h ⊢
      exact ih _ _ _ _ h
    · rw [if_neg h1] at h ⊢
      by_cases h2 : acc + x * 128 ^ k > 2147483647 ∨ (x = 0 ∧ k ≥ 1)
      · rw [if_pos h2] at h; cases h
      · rw [if_neg h2] at h ⊢
        obtain ⟨rfl, rfl⟩ := Prod.mk.inj (Option.some.inj h)
        rfl
/-- Fewer bytes than a number's are no number. -/
theorem takeR_short {n : Int} (h0 : 0 ≤ n) (h1 : n ≤ 2147483647) {i : Nat} (hi : i < (octBytes 5 n).length) : takeR ((octBytes 5 n).take i) 0 0 = none := by
  cases h : takeR ((octBytes 5 n).take i) 0 0 with
  | none => rfl
  | some p =>
    obtain ⟨m, t⟩ := p
    have h2 := takeR_append ((octBytes 5 n).drop i) _ _ _ _ _ h
    rw [List.take_append_drop] at h2
    have h3 := take_octBytes h0 h1 []
    rw [List.append_nil, h2] at h3
    have h4 := congrArg List.length (Prod.mk.inj (Option.some.inj h3)).2
    rw [List.length_append, List.length_drop] at h4
    simp at h4
    omega
theorem octBytes_pos {j : Nat} {n : Int} : 1 ≤ (octBytes (j + 1) n).length := by rw [octBytes]; split <;> simp
theorem octBytes_mono : ∀ (j : Nat) {n m : Int}, 0 ≤ n → n ≤ m → (octBytes j n).length ≤ (octBytes j m).length := by
  intro j
  induction j with
  | zero => intro n m _ _; exact Nat.le_refl _
  | succ j ih =>
    intro n m h0 h
    rw [octBytes, octBytes]
    by_cases h1 : 128 ≤ n
    · rw [if_pos h1, if_pos (by omega), List.length_cons, List.length_cons]
      have := ih (n := n / 128) (m := m / 128) (by omega) (by omega)
      omega
    · rw [if_neg h1]
      split <;> simp
/-! LemRef01 -/
theorem w64 {x : Int} (h0 : -9223372036854775808 ≤ x) (h1 : x ≤ 9223372036854775807) : wrap64 x = x := by unfold wrap64; omega
def numP (l : List Int) (n : Int) : List Int × Int := if n < 0 ∨ n > 2147483647 then ([], 10) else (l ++ octBytes 5 n, 0)
theorem number_f {l : List Int} (h : l.length < 140737488355000) (n : Int) : octet_Number.f l n = some (numP l n) := by
  unfold octet_Number.f numP
  by_cases h1 : n < 0
  · rw [if_pos h1, if_pos (.inl h1)]
  · rw [if_neg h1]
    by_cases h2 : n > 2147483647
    · rw [if_pos h2, if_pos (.inr h2)]
    · rw [if_neg h2, if_pos h, if_neg (by omega)]
/-! Lem01b -/
theorem okb_cons {x : Int} {l : List Int} (h : okb (x :: l) = true) : okb l = true := by
  unfold okb at h ⊢
  rw [List.all_cons, Bool.and_eq_true] at h
  exact h.2
theorem okb_append {a b : List Int} : okb (a ++ b) = (okb a && okb b) := by unfold okb; rw [List.all_append]
theorem okb_app {a b : List Int} (ha : okb a = true) (hb : okb b = true) : okb (a ++ b) = true := by rw [okb_append, ha, hb]; rfl
theorem okb_take {l : List Int} (h : okb l = true) (n : Nat) : okb (l.take n) = true := by
  have := okb_append (a := l.take n) (b := l.drop n)
  rw [List.take_append_drop, h] at this
  exact (Bool.and_eq_true_iff.mp this.symm).1
theorem okb_drop {l : List Int} (h : okb l = true) (n : Nat) : okb (l.drop n) = true := by
  have := okb_append (a := l.take n) (b := l.drop n)
  rw [List.take_append_drop, h] at this
  exact (Bool.and_eq_true_iff.mp this.symm).2
theorem wf_u8 {x : Int} (h : (Lit.int .u8 x).wf = true) : 0 ≤ x ∧ x ≤ 255 := by
  simp [Lit.wf, IntKind.min, IntKind.max, IntKind.bits, IntKind.signed] at h; omega
theorem wf_u32 {x : Int} (h : (Lit.int .u32 x).wf = true) : 0 ≤ x ∧ x ≤ 4294967295 := by
  simp [Lit.wf, IntKind.min, IntKind.max, IntKind.bits, IntKind.signed] at h; omega
theorem okb_of {l : List Int} (h : ∀ x ∈ l, (Lit.int .u8 x).wf = true) : okb l = true := by
  unfold okb
  rw [List.all_eq_true]
  intro x hx
  have := wf_u8 (h x hx)
  simp; omega
theorem str_inj : ∀ {a b : List Int}, okb a = true → okb b = true → (strOfNums a).toList = (strOfNums b).toList → a = b := by
  intro a
  induction a with
  | nil =>
    intro b _ _ h
    rw [Go.Lib.strOfNums_toList, Go.Lib.strOfNums_toList] at h
    cases b with
    | nil => rfl
    | cons y b => simp [Go.Lib.bytesOf] at h
  | cons x a ih =>
    intro b ha hb h
    rw [Go.Lib.strOfNums_toList, Go.Lib.strOfNums_toList] at h
    cases b with
    | nil => simp [Go.Lib.bytesOf] at h
    | cons y b =>
      have hx := okb_mem ha (b := x) (by simp)
      have hy := okb_mem hb (b := y) (by simp)
      simp only [Go.Lib.bytesOf, List.map_cons, List.cons.injEq] at h
      have e : x = y := by
        have h2 := congrArg UInt8.toNat h.1
        rw [UInt8.toNat_ofNat', UInt8.toNat_ofNat'] at h2
        omega
      rw [e, ih (okb_cons ha) (okb_cons hb) (by rw [Go.Lib.strOfNums_toList, Go.Lib.strOfNums_toList]; exact h.2)]
theorem numP_ok {n : Int} (h0 : 0 ≤ n) (h1 : n ≤ 2147483647) (l : List Int) : numP l n = (l ++ octBytes 5 n, 0) := by unfold numP; rw [if_neg (by omega)]
def textP (l t : List Int) : List Int × Int := if (t.length : Int) > 65535 then ([], 10) else (l ++ octBytes 5 t.length ++ t, 0)
theorem text_f {l t : List Int} (hl : l.length < 1000000) : octet_Text.f l t = some (textP l t) := by
  unfold octet_Text.f textP
  by_cases h : (t.length : Int) > 65535
  · rw [if_pos h, if_pos h]
  · have h5 := octBytes_len 5 t.length
    rw [if_neg h, if_neg h, number_f (by omega), Option.bind_some, numP_ok (by omega) (by omega)]
    simp only
    rw [if_pos (by simp; omega)]
def ttP (l : List Int) : List Int × List Int × Int :=
  match takeR l 0 0 with
  | none => ([], [], 10)
  | some (n, t) => if n > 65535 then ([], [], 10) else if n > (t.length : Int) then ([], [], 10) else (t.take n.toNat, t.drop n.toNat, 0)
theorem take_f {l : List Int} (hok : okb l = true) (hl : l.length < 1000000) : octet_Take.f l = some (takeRes (takeR l 0 0)) := by
  unfold octet_Take.f
  rw [if_pos hok, if_pos (by omega)]
theorem takeR_some {l : List Int} {n : Int} {t : List Int} (hok : okb l = true) (h : takeR l 0 0 = some (n, t)) : 0 ≤ n ∧ n ≤ 2147483647 ∧ l = octBytes 5 n ++ t := by
  obtain ⟨m, h0, h1, h2, h3, h4, h5⟩ := takeR_inv l 0 5 0 n t hok rfl h
  have e : n = m := by simpa using h1
  subst e
  exact ⟨h0, h5, h2⟩
theorem takeText_f {l : List Int} (hok : okb l = true) (hl : l.length < 1000000) : octet_TakeText.f l = some (ttP l) := by
  unfold octet_TakeText.f ttP
  rw [take_f hok hl, Option.bind_some]
  cases h : takeR l 0 0 with
  | none => simp [takeRes]
  | some p =>
    obtain ⟨n, t⟩ := p
    obtain ⟨h0, h1, h2⟩ := takeR_some hok h
    have hlen := congrArg List.length h2
    rw [List.length_append] at hlen
    show (if (0 : Int) = 0 then (if n < 0 then none else if n > 65535 then some (([] : List Int), ([] : List Int), (10 : Int)) else if n > (t.length : Int) then some ([], [], 10) else if t.length < 140737488355328 then some (t.take n.toNat, t.drop n.toNat, 0) else none) else some ([], [], 10)) = some _
    rw [if_pos rfl, if_neg (show ¬ n < 0 by omega)]
    simp only
    by_cases c1 : n > 65535
    · rw [if_pos c1, if_pos c1]
    · rw [if_neg c1, if_neg c1]
      by_cases c2 : n > (t.length : Int)
      · rw [if_pos c2, if_pos c2]
      · rw [if_neg c2, if_neg c2, if_pos (by omega)]
theorem tt_text {t : List Int} (h : (t.length : Int) ≤ 65535) (u : List Int) : ttP (octBytes 5 t.length ++ t ++ u) = (t, u, 0) := by
  unfold ttP
  rw [List.append_assoc, take_octBytes (by omega) (by omega)]
  simp only
  rw [if_neg (by omega), if_neg (by simp; omega)]
  simp
/-! Lem03s -/
def val (l : List Int) : Int := (sumPair l).2 * 65536 + (sumPair l).1
theorem sum_f {l : List Int} (h : okb l = true) : sum_Sum.f l = some (val l) := by unfold sum_Sum.f val; rw [if_pos h]
theorem fold_from (l : List Int) : ∀ x y : Int, 0 ≤ x → x < 65535 → 0 ≤ y → y < 65535 → l.foldl sumStep (x, y) = ((x + (sumPair l).1) % 65535, (y + (l.length : Int) * x + (sumPair l).2) % 65535) := by
  induction l with
  | nil => intro x y h0 h1 h2 h3; simp [sumPair]; omega
  | cons b l ih =>
    intro x y h0 h1 h2 h3
    have e1 : sumPair (b :: l) = l.foldl sumStep (b % 65535, b % 65535) := by simp [sumPair, sumStep]
    rw [e1, ih (b % 65535) (b % 65535) (by omega) (by omega) (by omega) (by omega), List.foldl_cons]
    have e2 : sumStep (x, y) b = ((x + b) % 65535, (y + (x + b) % 65535) % 65535) := rfl
    rw [e2, ih _ _ (by omega) (by omega) (by omega) (by omega)]
    generalize sumPair l = q
    have hn : ((b :: l).length : Int) = l.length + 1 := by simp
    rw [hn]
    generalize (l.length : Int) = n
    refine Prod.ext ?_ ?_
    · simp only; omega
    · simp only
      have a1 : n * ((x + b) % 65535) = n * (x + b) - 65535 * (n * ((x + b) / 65535)) := by
        have := Int.emod_def (x + b) 65535
        rw [this, Int.mul_sub]
        congr 1
        rw [Int.mul_left_comm]
      have a2 : n * (b % 65535) = n * b - 65535 * (n * (b / 65535)) := by
        have := Int.emod_def b 65535
        rw [this, Int.mul_sub]
        congr 1
        rw [Int.mul_left_comm]
      have a3 : n * (x + b) = n * x + n * b := Int.mul_add _ _ _
      have a4 : (n + 1) * x = n * x + x := by rw [Int.add_mul, Int.one_mul]
      rw [a1, a2, a3, a4]
      generalize n * ((x + b) / 65535) = u
      generalize n * (b / 65535) = v
      generalize n * x = c
      generalize n * b = d
      omega
theorem sum_app (a b : List Int) : sumPair (a ++ b) = (((sumPair a).1 + (sumPair b).1) % 65535, ((sumPair a).2 + (b.length : Int) * (sumPair a).1 + (sumPair b).2) % 65535) := by
  have h := sumPair_bd a
  have e : sumPair (a ++ b) = b.foldl sumStep (sumPair a) := by unfold sumPair; rw [List.foldl_append]
  rw [e]
  exact fold_from b (sumPair a).1 (sumPair a).2 h.1.1 h.1.2 h.2.1 h.2.2
theorem val_parts (l : List Int) : val l % 65536 = (sumPair l).1 ∧ val l / 65536 = (sumPair l).2 ∧ 0 ≤ val l ∧ val l ≤ 4294967295 := by
  have := sumPair_bd l
  unfold val; omega
theorem fst_sum (l : List Int) : (sumPair l).1 = l.sum % 65535 := by
  induction l with
  | nil => rfl
  | cons b l ih =>
    have e : b :: l = [b] ++ l := rfl
    have e2 : sumPair [b] = (b % 65535, b % 65535) := by simp [sumPair, sumStep]
    rw [e, sum_app, e2, ih]
    simp only [List.sum_append, List.sum_cons, List.sum_nil]
    omega
theorem val_inj {a b : List Int} (h : val a = val b) : sumPair a = sumPair b := by
  obtain ⟨a1, a2, _⟩ := val_parts a
  obtain ⟨b1, b2, _⟩ := val_parts b
  rw [h] at a1 a2
  exact Prod.ext (by rw [← a1, b1]) (by rw [← a2, b2])
theorem sum_set (l : List Int) (v : Int) : ∀ i, i < l.length → (l.set i v).sum = l.sum - rd l (i : Int) + v := by
  induction l with
  | nil => intro i h; simp at h
  | cons b l ih =>
    intro i h
    cases i with
    | zero => simp [rd]; omega
    | succ i =>
      have := ih i (by simpa using h)
      have e : rd (b :: l) ((i + 1 : Nat) : Int) = rd l (i : Int) := by simp [rd]
      rw [e, List.set_cons_succ, List.sum_cons, List.sum_cons, this]
      omega
theorem set_self (l : List Int) (i : Nat) (h : i < l.length) : l.set i (rd l (i : Int)) = l := by
  have e : rd l (i : Int) = l[i] := by unfold rd; simp [List.getD_eq_getElem?_getD, h]
  rw [e, List.set_getElem_self]
theorem okb_set {l : List Int} (h : okb l = true) {v : Int} (hv : 0 ≤ v ∧ v ≤ 255) (i : Nat) : okb (l.set i v) = true := by
  unfold okb
  rw [List.all_eq_true]
  intro x hx
  rcases List.mem_or_eq_of_mem_set hx with hx | rfl
  · have := okb_mem h hx
    simp; omega
  · simp; omega
/-! Lem03 -/
def tailP (t : List Int) : List Int := [val t % 256, val t / 256 % 256, val t / 65536 % 256, val t / 16777216 % 256]
theorem tailP_len (t : List Int) : (tailP t).length = 4 := rfl
theorem tailP_ok (t : List Int) : okb (tailP t) = true := by
  unfold tailP okb
  simp
  omega
theorem tail_f {t : List Int} (h : okb t = true) : frame_tail.f t = some (tailP t) := by
  unfold frame_tail.f tailP
  rw [sum_f h, Option.bind_some]
theorem tailP_inj {a b : List Int} (h : tailP a = tailP b) : val a = val b := by
  obtain ⟨_, _, a0, a1⟩ := val_parts a
  obtain ⟨_, _, b0, b1⟩ := val_parts b
  unfold tailP at h
  simp only [List.cons.injEq, and_true] at h
  omega
def frameP (t : List Int) : List Int := octBytes 5 t.length ++ t ++ tailP t
def Fr (t : List Int) : Prop := t.length ≤ 2000 ∧ okb t = true
theorem frameP_len (t : List Int) : (frameP t).length = (octBytes 5 t.length).length + t.length + 4 := by
  unfold frameP
  rw [List.length_append, List.length_append, tailP_len]
theorem frameP_bd (t : List Int) : t.length + 5 ≤ (frameP t).length ∧ (frameP t).length ≤ t.length + 9 := by
  have l1 : 1 ≤ (octBytes 5 t.length).length := octBytes_pos
  have l5 := octBytes_len 5 t.length
  rw [frameP_len]
  omega
theorem frameP_ok {t : List Int} (h : okb t = true) : okb (frameP t) = true := okb_app (okb_app (octBytes_ok 5 (by omega)) h) (tailP_ok t)
theorem write_f {t : List Int} (h : okb t = true) : frame_Write.f t = some (if (t.length : Int) > 2000 then ([], 30) else (frameP t, 0)) := by
  unfold frame_Write.f
  by_cases c : (t.length : Int) > 2000
  · rw [if_pos c, if_pos c]
  · have l5 := octBytes_len 5 t.length
    have e : textP [] t = (octBytes 5 t.length ++ t, 0) := by unfold textP; rw [if_neg (by omega), List.nil_append]
    rw [if_neg c, if_neg c, text_f (by simp), Option.bind_some, e]
    simp only
    rw [if_pos trivial, tail_f h, Option.bind_some, if_pos (by rw [List.length_append, tailP_len]; omega)]
    rfl
theorem write_ok {t : List Int} (h : Fr t) : frame_Write.f t = some (frameP t, 0) := by
  rw [write_f h.2, if_neg (by have := h.1; omega)]
theorem tt_inv {l t r : List Int} (hok : okb l = true) (h : ttP l = (t, r, 0)) : l = octBytes 5 t.length ++ t ++ r ∧ t.length ≤ 65535 ∧ okb t = true ∧ okb r = true := by
  unfold ttP at h
  cases hT : takeR l 0 0 with
  | none => rw [hT] at h; simp at h
  | some p =>
    obtain ⟨n, s⟩ := p
    rw [hT] at h
    simp only at h
    obtain ⟨n0, n1, hl⟩ := takeR_some hok hT
    by_cases c1 : n > 65535
    · rw [if_pos c1] at h; simp at h
    rw [if_neg c1] at h
    by_cases c2 : n > (s.length : Int)
    · rw [if_pos c2] at h; simp at h
    rw [if_neg c2] at h
    simp only [Prod.mk.injEq, and_true] at h
    obtain ⟨rfl, rfl⟩ := h
    have e : ((s.take n.toNat).length : Int) = n := by rw [List.length_take]; omega
    have hs : okb s = true := by rw [hl, okb_append, Bool.and_eq_true] at hok; exact hok.2
    refine ⟨?_, by omega, okb_take hs _, okb_drop hs _⟩
    rw [e, List.append_assoc, List.take_append_drop]
    exact hl
theorem tt_bad {l : List Int} (h : (ttP l).2.2 ≠ 0) : ttP l = ([], [], 10) := by
  unfold ttP at h ⊢
  cases hT : takeR l 0 0 with
  | none => rfl
  | some p =>
    obtain ⟨n, s⟩ := p
    rw [hT] at h
    simp only at h ⊢
    by_cases c1 : n > 65535
    · rw [if_pos c1]
    rw [if_neg c1] at h ⊢
    by_cases c2 : n > (s.length : Int)
    · rw [if_pos c2]
    rw [if_neg c2] at h
    exact absurd rfl h
def rdP (l : List Int) : List Int × Int × Int :=
  if (ttP l).2.2 = 0 ∧ (ttP l).1.length ≤ 2000 ∧ 4 ≤ (ttP l).2.1.length ∧ (ttP l).2.1.take 4 = tailP (ttP l).1 then ((ttP l).1, ((frameP (ttP l).1).length : Int), 0) else ([], 0, 30)
theorem read_f {l : List Int} (hok : okb l = true) (hl : l.length < 1000000) : frame_Read.f l = some (rdP l) := by
  unfold frame_Read.f rdP
  rw [takeText_f hok hl, Option.bind_some]
  by_cases h0 : (ttP l).2.2 = 0
  · obtain ⟨t, r, hE⟩ : ∃ t r, ttP l = (t, r, 0) := ⟨(ttP l).1, (ttP l).2.1, by rw [← h0]⟩
    obtain ⟨hl1, ht, hto, hro⟩ := tt_inv hok hE
    rw [hE]
    simp only
    rw [if_pos trivial]
    by_cases c1 : (t.length : Int) > 2000
    · rw [if_pos c1, if_neg (by omega)]
    rw [if_neg c1]
    by_cases c2 : (r.length : Int) < 4
    · rw [if_pos c2, if_neg (by omega)]
    rw [if_neg c2, if_pos (by omega), tail_f hto, Option.bind_some]
    by_cases c3 : r.take 4 = tailP t
    · have hlen := congrArg List.length hl1
      rw [List.length_append, List.length_append] at hlen
      rw [if_pos (by rw [c3]), if_pos ⟨trivial, by omega, by omega, c3⟩, frameP_len, w64 (x := (l.length : Int) - (r.length : Int)) (by omega) (by omega), w64 (by omega) (by omega)]
      congr 3
      omega
    · rw [if_neg (fun h => c3 (str_inj (okb_take hro _) (tailP_ok t) h)), if_neg (fun h => c3 h.2.2.2)]
  · rw [if_neg h0, if_neg (fun h => h0 h.1)]
theorem rdP_ok {t : List Int} (h : Fr t) (u : List Int) : rdP (frameP t ++ u) = (t, ((frameP t).length : Int), 0) := by
  have e : frameP t ++ u = octBytes 5 t.length ++ t ++ (tailP t ++ u) := by unfold frameP; simp
  have h1 := h.1
  unfold rdP
  rw [e, tt_text (by omega)]
  simp only
  rw [if_pos ⟨trivial, h1, by rw [List.length_append, tailP_len]; omega, by rw [List.take_append_of_le_length (by rw [tailP_len]; omega)]; rfl⟩]
theorem rdP_inv {l : List Int} (hok : okb l = true) (h : (rdP l).2.2 = 0) : ∃ t u, Fr t ∧ l = frameP t ++ u := by
  unfold rdP at h
  by_cases c : (ttP l).2.2 = 0 ∧ (ttP l).1.length ≤ 2000 ∧ 4 ≤ (ttP l).2.1.length ∧ (ttP l).2.1.take 4 = tailP (ttP l).1
  · obtain ⟨c0, c1, c2, c3⟩ := c
    obtain ⟨t, r, hE⟩ : ∃ t r, ttP l = (t, r, 0) := ⟨(ttP l).1, (ttP l).2.1, by rw [← c0]⟩
    obtain ⟨hl1, ht, hto, hro⟩ := tt_inv hok hE
    rw [hE] at c1 c2 c3
    simp only at c1 c2 c3
    refine ⟨t, r.drop 4, ⟨c1, hto⟩, ?_⟩
    unfold frameP
    rw [← c3, List.append_assoc, List.take_append_drop]
    exact hl1
  · rw [if_neg c] at h
    simp at h
theorem rdP_err {l : List Int} (h : (rdP l).2.2 ≠ 0) : rdP l = ([], 0, 30) := by
  unfold rdP at h ⊢
  split at h
  · exact absurd rfl h
  · rename_i c; rw [if_neg c]
def encF : List (List Int) → List Int
  | [] => []
  | t :: l => frameP t ++ encF l
theorem encF_app (a b : List (List Int)) : encF (a ++ b) = encF a ++ encF b := by
  induction a with
  | nil => rfl
  | cons x a ih => simp only [List.cons_append, encF, ih, List.append_assoc]
def FrL (l : List (List Int)) : Prop := ∀ t ∈ l, Fr t
theorem encF_ok : ∀ {l : List (List Int)}, FrL l → okb (encF l) = true := by
  intro l
  induction l with
  | nil => intro _; rfl
  | cons t l ih =>
    intro h
    rw [encF]
    exact okb_app (frameP_ok (h t (by simp)).2) (ih (fun x hx => h x (by simp [hx])))
theorem encF_ge (l : List (List Int)) : l.length ≤ (encF l).length := by
  induction l with
  | nil => simp
  | cons t l ih =>
    have := frameP_bd t
    rw [encF, List.length_append, List.length_cons]
    omega
/-- Any bytes are frames, and what is none behind them. -/
theorem split_all : ∀ (n : Nat) (l : List Int), l.length ≤ n → okb l = true → ∃ ts r, FrL ts ∧ l = encF ts ++ r ∧ (rdP r).2.2 ≠ 0 := by
  intro n
  induction n with
  | zero =>
    intro l hl hok
    refine ⟨[], l, fun t ht => by simp at ht, rfl, ?_⟩
    intro h
    obtain ⟨t, u, _, he⟩ := rdP_inv hok h
    have h1 := congrArg List.length he
    have h2 := frameP_bd t
    rw [List.length_append] at h1
    omega
  | succ n ih =>
    intro l hl hok
    by_cases h : (rdP l).2.2 = 0
    · obtain ⟨t, u, hF, he⟩ := rdP_inv hok h
      have h1 := congrArg List.length he
      have h2 := frameP_bd t
      rw [List.length_append] at h1
      have hu : okb u = true := by rw [he, okb_append, Bool.and_eq_true] at hok; exact hok.2
      obtain ⟨ts, r, hFL, hu2, hr⟩ := ih u (by omega) hu
      refine ⟨t :: ts, r, fun x hx => ?_, by rw [encF, List.append_assoc, ← hu2]; exact he, hr⟩
      rcases List.mem_cons.mp hx with rfl | hx
      · exact hF
      · exact hFL x hx
    · exact ⟨[], l, fun t ht => by simp at ht, rfl, h⟩
def endsF : Int → List (List Int) → List (Int × List Int)
  | _, [] => []
  | b, t :: l => (b + (frameP t).length, t) :: endsF (b + (frameP t).length) l
theorem endsF_texts (l : List (List Int)) : ∀ b, (endsF b l).map (·.2) = l := by
  induction l with
  | nil => intro b; rfl
  | cons t l ih => intro b; rw [endsF, List.map_cons, ih]
theorem endsF_last (l : List (List Int)) : ∀ b, l ≠ [] → lastEnd (endsF b l) = b + (encF l).length := by
  induction l with
  | nil => intro b h; exact absurd rfl h
  | cons t l ih =>
    intro b _
    cases l with
    | nil => simp [endsF, lastEnd, encF]
    | cons s l =>
      have := ih (b + (frameP t).length) (by simp)
      have e : lastEnd (endsF b (t :: s :: l)) = lastEnd (endsF (b + (frameP t).length) (s :: l)) := by
        unfold lastEnd
        rw [endsF, endsF, List.getLast?_cons_cons]
      have e9 : (encF (t :: s :: l)).length = (frameP t).length + (encF (s :: l)).length := by rw [encF, List.length_append]
      rw [e, this]
      omega
theorem go_all : ∀ (ts : List (List Int)) (pre r : List Int) (k : Nat), FrL ts → okb (pre ++ (encF ts ++ r)) = true → (pre ++ (encF ts ++ r)).length < 1000000 → (rdP r).2.2 ≠ 0 → ts.length + 1 ≤ k →
    frame_go k (pre ++ (encF ts ++ r)) (pre.length : Int) = some (endsF (pre.length : Int) ts) := by
  intro ts
  induction ts with
  | nil =>
    intro pre r k hF hok hl hr hk
    obtain ⟨k, rfl⟩ : ∃ m, k = m + 1 := ⟨k - 1, by omega⟩
    have hro : okb r = true := by rw [okb_append, Bool.and_eq_true] at hok; exact hok.2
    rw [frame_go, Int.toNat_natCast, List.drop_left', encF, List.nil_append, read_f hro (by simp [encF] at hl; omega), Option.bind_some, if_neg hr]
    · rfl
    · rfl
  | cons t ts ih =>
    intro pre r k hF hok hl hr hk
    obtain ⟨k, rfl⟩ : ∃ m, k = m + 1 := ⟨k - 1, by omega⟩
    have hFt := hF t (by simp)
    have hb := frameP_bd t
    have hro : okb (encF (t :: ts) ++ r) = true := by rw [okb_append, Bool.and_eq_true] at hok; exact hok.2
    have hl2 : (pre ++ (encF (t :: ts) ++ r)).length = pre.length + ((frameP t).length + (encF ts).length + r.length) := by simp [encF]; omega
    have hcut : pre ++ (encF (t :: ts) ++ r) = (pre ++ frameP t) ++ (encF ts ++ r) := by simp [encF]
    have hE : encF (t :: ts) ++ r = frameP t ++ (encF ts ++ r) := by simp [encF]
    rw [frame_go, Int.toNat_natCast, List.drop_left' rfl, read_f hro (by rw [List.length_append] at hl; omega), Option.bind_some, hE, rdP_ok hFt]
    simp only
    rw [if_pos trivial, if_pos ⟨by omega, by rw [← hE]; omega⟩]
    have e2 : (pre.length : Int) + ((frameP t).length : Int) = ((pre ++ frameP t).length : Int) := by rw [List.length_append]; omega
    rw [← hE, hcut, e2, ih (pre ++ frameP t) r k (fun x hx => hF x (by simp [hx])) (by rw [← hcut]; exact hok) (by rw [← hcut]; exact hl) hr (by simp at hk; omega)]
    rw [Option.map_some, endsF, e2]
theorem all_f {ts : List (List Int)} {r : List Int} (hF : FrL ts) (hro : okb r = true) (hl : (encF ts ++ r).length < 1000000) (hr : (rdP r).2.2 ≠ 0) : frame_All.f (encF ts ++ r) = some (ts, ((encF ts).length : Int)) := by
  unfold frame_All.f
  have hg := go_all ts [] r ((encF ts ++ r).length + 1) hF (by rw [List.nil_append]; exact okb_app (encF_ok hF) hro) (by simpa using hl) hr (by have := encF_ge ts; rw [List.length_append]; omega)
  simp only [List.nil_append, List.length_nil, Int.natCast_zero] at hg
  rw [if_pos hl]
  have hg2 : frame_go ((encF ts ++ r).length + 1) (encF ts ++ r) 0 = some (endsF 0 ts) := hg
  rw [hg2, Option.map_some, endsF_texts]
  congr 2
  by_cases h : ts = []
  · subst h; rfl
  · rw [endsF_last ts 0 h]; omega
theorem rdP_nil : (rdP []).2.2 ≠ 0 := by
  intro h
  obtain ⟨t, u, _, he⟩ := rdP_inv (l := []) rfl h
  have h1 := congrArg List.length he
  have h2 := frameP_bd t
  rw [List.length_append] at h1
  simp at h1
  omega
/-- Less than a frame is none. -/
theorem rdP_short {t : List Int} (h : Fr t) {i : Nat} (hi : i < (frameP t).length) : (rdP ((frameP t).take i)).2.2 ≠ 0 := by
  intro h0
  obtain ⟨s, u, hs, he⟩ := rdP_inv (okb_take (frameP_ok h.2) i) h0
  have h1 := rdP_ok h []
  have h2 : frameP t ++ [] = frameP s ++ (u ++ (frameP t).drop i) := by
    rw [List.append_nil, ← List.append_assoc, ← he, List.take_append_drop]
  rw [h2, rdP_ok hs] at h1
  have h3 := (Prod.mk.inj h1).1
  subst h3
  have h4 := congrArg List.length he
  rw [List.length_append, List.length_take] at h4
  omega
/-! LemSame03 -/
theorem same_l0 (l : List (List Int)) (hl : l.length < 1000000) : ∀ (d k n : Nat), n ≤ l.length → l.length - n = d → d + 1 ≤ k → banksmanref03_Same.l0 k l l (n : Int) = some true := by
  intro d
  induction d with
  | zero =>
    intro k n h0 h1 hk
    obtain ⟨k, rfl⟩ : ∃ m, k = m + 1 := ⟨k - 1, by omega⟩
    rw [banksmanref03_Same.l0, if_neg (by omega)]
  | succ d ih =>
    intro k n h0 h1 hk
    obtain ⟨k, rfl⟩ : ∃ m, k = m + 1 := ⟨k - 1, by omega⟩
    have e : (n : Int) + 1 = ((n + 1 : Nat) : Int) := by omega
    rw [banksmanref03_Same.l0, if_pos (by omega), if_pos (by omega), if_pos (by omega), if_pos rfl, w64 (by omega) (by omega), e]
    exact ih k (n + 1) (by omega) (by omega) (by omega)
theorem same_f {l : List (List Int)} {k : Nat} (hl : l.length < 1000000) (hk : l.length + 1 ≤ k) : banksmanref03_Same.f k l l = some true := by
  unfold banksmanref03_Same.f
  rw [if_pos rfl]
  exact same_l0 l hl l.length k 0 (by omega) (by omega) hk
/-! LemLoop03 -/
theorem rdL (pre suf : List (List Int)) (x : List Int) : rd_L1 (pre ++ x :: suf) (pre.length : Int) = x := by
  unfold rd_L1
  simp [List.getD_eq_getElem?_getD]
def Few (l : List (List Int)) : Prop := ∀ t ∈ l, t.length ≤ 300 ∧ okb t = true
theorem Few.fr {l : List (List Int)} (h : Few l) : FrL l := fun t ht => ⟨by have := (h t ht).1; omega, (h t ht).2⟩
theorem few_len : ∀ {l : List (List Int)}, Few l → (encF l).length ≤ 309 * l.length := by
  intro l
  induction l with
  | nil => intro _; simp [encF]
  | cons t l ih =>
    intro h
    have := ih (fun x hx => h x (by simp [hx]))
    have h1 := (h t (by simp)).1
    have h2 := frameP_bd t
    rw [encF, List.length_append, List.length_cons]
    omega
theorem few_snoc {l : List (List Int)} {t : List Int} (h : Few l) (h1 : t.length ≤ 300) (h2 : okb t = true) : Few (l ++ [t]) := by
  intro x hx
  rcases List.mem_append.mp hx with hx | hx
  · exact h x hx
  · have e : x = t := by simpa using hx
    subst e
    exact ⟨h1, h2⟩
/-! Lem04 -/
theorem okLog_iff (n : Nat) (s : Int) : okLog n s = true ↔ n ≤ 20000 ∧ 0 ≤ s ∧ s ≤ (n : Int) := by
  unfold okLog
  simp only [Bool.and_eq_true, decide_eq_true_eq]
  omega
theorem sync_f {l : List Int} {s : Int} (h : okLog l.length s = true) : wal_Sync.f l s = some (l, (l.length : Int)) := by
  have := (okLog_iff _ _).mp h
  unfold wal_Sync.f
  rw [if_pos (by omega), if_pos h]
theorem trim_f {ts : List (List Int)} {r : List Int} {s : Int} (hF : FrL ts) (hro : okb r = true) (hr : (rdP r).2.2 ≠ 0) (h : okLog (encF ts ++ r).length s = true) : wal_Trim.f (encF ts ++ r) s = some (encF ts, mn s ((encF ts).length : Int)) := by
  have h2 := (okLog_iff _ _).mp h
  have hlen : (encF ts ++ r).length = (encF ts).length + r.length := List.length_append
  unfold wal_Trim.f
  rw [if_pos (by omega), if_pos h, all_f hF hro (by omega) hr, Option.bind_some]
  dsimp only
  rw [if_pos ⟨by omega, by omega⟩, Int.toNat_natCast]
  congr 2
  simp
theorem texts_f {ts : List (List Int)} {r : List Int} {s : Int} (hF : FrL ts) (hro : okb r = true) (hr : (rdP r).2.2 ≠ 0) (h : okLog (encF ts ++ r).length s = true) : wal_Texts.f (encF ts ++ r) s = some ts := by
  have h2 := (okLog_iff _ _).mp h
  unfold wal_Texts.f
  rw [if_pos (by omega), if_pos h, all_f hF hro (by omega) hr]
  rfl
theorem crash_f {l : List Int} {s : Int} (k : Int) (h : okLog l.length s = true) : wal_Crash.f l s k = some (l.take (mn (mx k s) (l.length : Int)).toNat, mn (mx k s) (l.length : Int)) := by
  have h2 := (okLog_iff _ _).mp h
  unfold wal_Crash.f
  rw [if_pos (by omega), if_pos h]
theorem appAll_f : ∀ (ts : List (List Int)) (acc : List Int), FrL ts → acc.length + (encF ts).length < 1000000 → appAll ts acc = some (acc ++ encF ts, 0) := by
  intro ts
  induction ts with
  | nil => intro acc _ _; rw [appAll, encF, List.append_nil]
  | cons t ts ih =>
    intro acc hF hl
    rw [encF, List.length_append] at hl
    rw [appAll, write_ok (hF t (by simp)), Option.bind_some]
    dsimp only
    rw [if_pos rfl, if_pos (by omega), ih _ (fun x hx => hF x (by simp [hx])) (by rw [List.length_append]; omega), encF, List.append_assoc]
theorem append_f {l : List Int} {s : Int} {ts : List (List Int)} (h : okLog l.length s = true) (hF : FrL ts) (hl : l.length + (encF ts).length ≤ 20000) : wal_Append.f l s ts = some (l ++ encF ts, s, 0) := by
  have h2 := (okLog_iff _ _).mp h
  unfold wal_Append.f
  rw [if_pos (by omega), if_pos h, appAll_f ts [] hF (by simp; omega), Option.bind_some, List.nil_append]
  dsimp only
  rw [if_pos rfl, if_neg (by omega)]
/-! Lem04b -/
theorem texts_enc {ts : List (List Int)} {s : Int} (hF : FrL ts) (h : okLog (encF ts).length s = true) : wal_Texts.f (encF ts) s = some ts := by
  have := texts_f (s := s) hF (r := []) rfl rdP_nil (by rw [List.append_nil]; exact h)
  rw [List.append_nil] at this
  exact this
theorem encF_cut (l : List (List Int)) (y : Nat) : encF l = encF (l.take y) ++ encF (l.drop y) := by rw [← encF_app, List.take_append_drop]
theorem encF_take_le (l : List (List Int)) (y : Nat) : (encF (l.take y)).length ≤ (encF l).length := by
  rw [encF_cut l y, List.length_append]
  omega
theorem FrL.take {l : List (List Int)} (h : FrL l) (y : Nat) : FrL (l.take y) := fun t ht => h t (List.mem_of_mem_take ht)
/-- Frames that are cut: those that are whole, and what is none. -/
theorem cut_enc : ∀ (l : List (List Int)), FrL l → ∀ n, n ≤ (encF l).length → ∃ m r, m ≤ l.length ∧ (encF l).take n = encF (l.take m) ++ r ∧ okb r = true ∧ (rdP r).2.2 ≠ 0 ∧ (∀ y, y ≤ l.length → (encF (l.take y)).length ≤ n → y ≤ m) := by
  intro l
  induction l with
  | nil =>
    intro _ n hn
    exact ⟨0, [], Nat.le_refl _, by simp [encF], rfl, rdP_nil, fun y hy _ => hy⟩
  | cons t l ih =>
    intro hF n hn
    have ht := hF t (by simp)
    have hFl : FrL l := fun x hx => hF x (by simp [hx])
    by_cases h : n < (frameP t).length
    · refine ⟨0, (frameP t).take n, Nat.zero_le _, ?_, okb_take (frameP_ok ht.2) n, rdP_short ht h, ?_⟩
      · rw [encF, List.take_append_of_le_length (by omega)]
        simp [encF]
      · intro y hy hle
        cases y with
        | zero => exact Nat.le_refl _
        | succ y => rw [List.take_succ_cons, encF, List.length_append] at hle; omega
    · rw [encF, List.length_append] at hn
      obtain ⟨m, r, h1, h2, h3, h4, h5⟩ := ih hFl (n - (frameP t).length) (by omega)
      refine ⟨m + 1, r, by simp; omega, ?_, h3, h4, ?_⟩
      · rw [List.take_succ_cons, encF, encF, List.append_assoc, ← h2, List.take_append, List.take_of_length_le (by omega)]
      · intro y hy hle
        cases y with
        | zero => omega
        | succ y =>
          rw [List.take_succ_cons, encF, List.length_append] at hle
          have := h5 y (by simpa using hy) (by omega)
          omega
/-- What stands in a log: texts, of which the first y are synced. -/
structure Inv (want : List (List Int)) (y : Nat) : Prop where
  le : y ≤ want.length
  fr : FrL want
  len : (encF want).length ≤ 20000
theorem Inv.ok {want : List (List Int)} {y : Nat} (h : Inv want y) : okLog (encF want).length ((encF (want.take y)).length : Int) = true := (okLog_iff _ _).mpr ⟨h.len, by omega, by have := encF_take_le want y; omega⟩
theorem Inv.take {want : List (List Int)} {y : Nat} (h : Inv want y) {m : Nat} (hm : m ≤ want.length) : Inv (want.take m) m := ⟨by simp; omega, h.fr.take m, by have := encF_take_le want m; have := h.len; omega⟩
theorem crash_trim {want : List (List Int)} {y : Nat} (h : Inv want y) (keep : Int) : ∃ m b s, y ≤ m ∧ m ≤ want.length ∧ wal_Crash.f (encF want) ((encF (want.take y)).length : Int) keep = some (b, s) ∧ wal_Trim.f b s = some (encF (want.take m), ((encF (want.take m)).length : Int)) := by
  have hle := encF_take_le want y
  have hlen := h.len
  obtain ⟨n, hn⟩ : ∃ n : Nat, mn (mx keep ((encF (want.take y)).length : Int)) ((encF want).length : Int) = (n : Int) := ⟨(mn (mx keep ((encF (want.take y)).length : Int)) ((encF want).length : Int)).toNat, by unfold mn mx; (repeat' split) <;> omega⟩
  have hn2 : (encF (want.take y)).length ≤ n ∧ n ≤ (encF want).length := by
    unfold mn mx at hn
    (repeat' split at hn) <;> omega
  obtain ⟨m, r, h1, h2, h3, h4, h5⟩ := cut_enc want h.fr n hn2.2
  refine ⟨m, (encF want).take n, (n : Int), h5 y h.le hn2.1, h1, ?_, ?_⟩
  · rw [crash_f keep h.ok, hn, Int.toNat_natCast]
  · have hl : ((encF want).take n).length = n := by rw [List.length_take]; omega
    have hl2 : (encF (want.take m)).length + r.length = n := by rw [← List.length_append, ← h2, hl]
    rw [h2]
    have hok : okLog (encF (want.take m) ++ r).length (n : Int) = true := (okLog_iff _ _).mpr ⟨by rw [List.length_append]; omega, by omega, by rw [List.length_append]; omega⟩
    rw [trim_f (h.fr.take m) h3 h4 hok]
    congr 2
    unfold mn
    split <;> omega
end Go.Proofs.Ytbenenpkbdldmaa.Pure
