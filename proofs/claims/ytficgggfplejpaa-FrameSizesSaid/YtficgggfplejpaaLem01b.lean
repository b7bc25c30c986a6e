import Derived.Test.YtficgggfplejpaaLemRef01
import Derived.Test.YtficgggfplejpaaPx17
import Derived.Test.YtficgggfplejpaaPx11
import Derived.Lib.Bytes
namespace Go.Proofs.Ytficgggfplejpaa.Pure
open Go.RowKit Go.Proofs.Ytficgggfplejpaa.P Go.Proofs.YtficgggfplejpaaW.PrintWords Go.Proofs.YtficgggfplejpaaW.PrintLast
set_option linter.unusedVariables false
set_option linter.unusedSimpArgs false

theorem okb_cons {x : Int} {l : List Int} (h : okb (x :: l) = true) : okb l = true := by
  unfold okb at h ⊢
  rw [List.all_cons, Bool.and_eq_true] at h
  exact h.2
theorem okb_append {a b : List Int} : okb (a ++ b) = (okb a && okb b) := by unfold okb; rw [List.all_append]
theorem okb_app {a b : List Int} (ha : okb a = true) (hb : okb b = true) : okb (a ++ b) = true := by rw [okb_append, ha, hb]; rfl
theorem okb_take {l : List Int} (h : okb l = true) (n : Nat) : okb (l.take n) = true := by
  have := okb_append (a := l.take n) (b := l.drop n)
  rw [List.take_append_drop, h] at this
  exact (Bool.and_eq_true_iff.mp this.symm).1
theorem okb_drop {l : List Int} (h : okb l = true) (n : Nat) : okb (l.drop n) = true := by
  have := okb_append (a := l.take n) (b := l.drop n)
  rw [List.take_append_drop, h] at this
  exact (Bool.and_eq_true_iff.mp this.symm).2
theorem wf_u8 {x : Int} (h : (Lit.int .u8 x).wf = true) : 0 ≤ x ∧ x ≤ 255 := by
  simp [Lit.wf, IntKind.min, IntKind.max, IntKind.bits, IntKind.signed] at h; omega
theorem wf_u32 {x : Int} (h : (Lit.int .u32 x).wf = true) : 0 ≤ x ∧ x ≤ 4294967295 := by
  simp [Lit.wf, IntKind.min, IntKind.max, IntKind.bits, IntKind.signed] at h; omega
theorem okb_of {l : List Int} (h : ∀ x ∈ l, (Lit.int .u8 x).wf = true) : okb l = true := by
  unfold okb
  rw [List.all_eq_true]
  intro x hx
  have := wf_u8 (h x hx)
  simp; omega
theorem str_inj : ∀ {a b : List Int}, okb a = true → okb b = true → (strOfNums a).toList = (strOfNums b).toList → a = b := by
  intro a
  induction a with
  | nil =>
    intro b _ _ h
    rw [Go.Lib.strOfNums_toList, Go.Lib.strOfNums_toList] at h
    cases b with
    | nil => rfl
    | cons y b => simp [Go.Lib.bytesOf] at h
  | cons x a ih =>
    intro b ha hb h
    rw [Go.Lib.strOfNums_toList, Go.Lib.strOfNums_toList] at h
    cases b with
    | nil => simp [Go.Lib.bytesOf] at h
    | cons y b =>
      have hx := okb_mem ha (b := x) (by simp)
      have hy := okb_mem hb (b := y) (by simp)
      simp only [Go.Lib.bytesOf, List.map_cons, List.cons.injEq] at h
      have e : x = y := by
        have h2 := congrArg UInt8.toNat h.1
        rw [UInt8.toNat_ofNat', UInt8.toNat_ofNat'] at h2
        omega
      rw [e, ih (okb_cons ha) (okb_cons hb) (by rw [Go.Lib.strOfNums_toList, Go.Lib.strOfNums_toList]; exact h.2)]
theorem numP_ok {n : Int} (h0 : 0 ≤ n) (h1 : n ≤ 2147483647) (l : List Int) : numP l n = (l ++ octBytes 5 n, 0) := by unfold numP; rw [if_neg (by omega)]
def textP (l t : List Int) : List Int × Int := if (t.length : Int) > 65535 then ([], 10) else (l ++ octBytes 5 t.length ++ t, 0)
theorem text_f {l t : List Int} (hl : l.length < 1000000) : octet_Text.f l t = some (textP l t) := by
  unfold octet_Text.f textP
  by_cases h : (t.length : Int) > 65535
  · rw [if_pos h, if_pos h]
  · have h5 := octBytes_len 5 t.length
    rw [if_neg h, if_neg h, number_f (by omega), Option.bind_some, numP_ok (by omega) (by omega)]
    simp only
    rw [if_pos (by simp; omega)]
def ttP (l : List Int) : List Int × List Int × Int :=
  match takeR l 0 0 with
  | none => ([], [], 10)
  | some (n, t) => if n > 65535 then ([], [], 10) else if n > (t.length : Int) then ([], [], 10) else (t.take n.toNat, t.drop n.toNat, 0)
theorem take_f {l : List Int} (hok : okb l = true) (hl : l.length < 1000000) : octet_Take.f l = some (takeRes (takeR l 0 0)) := by
  unfold octet_Take.f
  rw [if_pos hok, if_pos (by omega)]
theorem takeR_some {l : List Int} {n : Int} {t : List Int} (hok : okb l = true) (h : takeR l 0 0 = some (n, t)) : 0 ≤ n ∧ n ≤ 2147483647 ∧ l = octBytes 5 n ++ t := by
  obtain ⟨m, h0, h1, h2, h3, h4, h5⟩ := takeR_inv l 0 5 0 n t hok rfl h
  have e : n = m := by simpa using h1
  subst e
  exact ⟨h0, h5, h2⟩
theorem takeText_f {l : List Int} (hok : okb l = true) (hl : l.length < 1000000) : octet_TakeText.f l = some (ttP l) := by
  unfold octet_TakeText.f ttP
  rw [take_f hok hl, Option.bind_some]
  cases h : takeR l 0 0 with
  | none => simp [takeRes]
  | some p =>
    obtain ⟨n, t⟩ := p
    obtain ⟨h0, h1, h2⟩ := takeR_some hok h
    have hlen := congrArg List.length h2
    rw [List.length_append] at hlen
    show (if (0 : Int) = 0 then (if n < 0 then none else if n > 65535 then some (([] : List Int), ([] : List Int), (10 : Int)) else if n > (t.length : Int) then some ([], [], 10) else if t.length < 140737488355328 then some (t.take n.toNat, t.drop n.toNat, 0) else none) else some ([], [], 10)) = some _
    rw [if_pos rfl, if_neg (show ¬ n < 0 by omega)]
    simp only
    by_cases c1 : n > 65535
    · rw [if_pos c1, if_pos c1]
    · rw [if_neg c1, if_neg c1]
      by_cases c2 : n > (t.length : Int)
      · rw [if_pos c2, if_pos c2]
      · rw [if_neg c2, if_neg c2, if_pos (by omega)]
theorem tt_text {t : List Int} (h : (t.length : Int) ≤ 65535) (u : List Int) : ttP (octBytes 5 t.length ++ t ++ u) = (t, u, 0) := by
  unfold ttP
  rw [List.append_assoc, take_octBytes (by omega) (by omega)]
  simp only
  rw [if_neg (by omega), if_neg (by simp; omega)]
  simp
end Go.Proofs.Ytficgggfplejpaa.Pure
