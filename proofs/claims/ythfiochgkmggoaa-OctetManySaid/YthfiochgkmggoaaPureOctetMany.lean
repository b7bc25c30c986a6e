/- Proved: the law OctetMany of banksmanlaw01 returns true for every input: texts written one behind the other are taken one by one, and nothing is left. No conditions. -/
import Derived.Test.YthfiochgkmggoaaLem01b
import Derived.Test.YthfiochgkmggoaaPx23
namespace Go.Proofs.Ythfiochgkmggoaa.Pure
open Go.RowKit Go.Proofs.Ythfiochgkmggoaa.P Go.Proofs.YthfiochgkmggoaaW.PrintWords Go.Proofs.YthfiochgkmggoaaW.PrintLast
set_option linter.unusedVariables false
set_option linter.unusedSimpArgs false

def enc : List (List Int) → List Int
  | [] => []
  | t :: l => octBytes 5 t.length ++ t ++ enc l
theorem enc_app (a b : List (List Int)) : enc (a ++ b) = enc a ++ enc b := by
  induction a with
  | nil => rfl
  | cons x a ih => simp only [List.cons_append, enc, ih, List.append_assoc]
def Fine (l : List (List Int)) : Prop := ∀ t ∈ l, t.length ≤ 300 ∧ okb t = true
theorem enc_len : ∀ {l : List (List Int)}, Fine l → (enc l).length ≤ 305 * l.length := by
  intro l
  induction l with
  | nil => intro _; simp [enc]
  | cons t l ih =>
    intro h
    have := ih (fun x hx => h x (by simp [hx]))
    have h1 := (h t (by simp)).1
    have h5 := octBytes_len 5 t.length
    rw [enc, List.length_append, List.length_append, List.length_cons]
    omega
theorem enc_ok : ∀ {l : List (List Int)}, Fine l → okb (enc l) = true := by
  intro l
  induction l with
  | nil => intro _; rfl
  | cons t l ih =>
    intro h
    rw [enc]
    exact okb_app (okb_app (octBytes_ok 5 (by omega)) (h t (by simp)).2) (ih (fun x hx => h x (by simp [hx])))
theorem rdL (pre suf : List (List Int)) (x : List Int) : rd_L1 (pre ++ x :: suf) (pre.length : Int) = x := by
  unfold rd_L1
  simp [List.getD_eq_getElem?_getD]
theorem many_l1 : ∀ (suf pre : List (List Int)) (k : Nat), Fine suf → (pre ++ suf).length ≤ 20 → suf.length + 1 ≤ k → banksmanlaw01_OctetMany.l1 k (pre ++ suf) true (enc suf) pre.length = some true := by
  intro suf
  induction suf with
  | nil =>
    intro pre k _ hl hk
    obtain ⟨k, rfl⟩ : ∃ m, k = m + 1 := ⟨k - 1, by omega⟩
    rw [banksmanlaw01_OctetMany.l1, if_neg (by simp), if_pos rfl]
    rfl
  | cons t suf ih =>
    intro pre k hF hl hk
    obtain ⟨k, rfl⟩ : ∃ m, k = m + 1 := ⟨k - 1, by simp at hk; omega⟩
    have hll : (pre ++ t :: suf).length = pre.length + 1 + suf.length := by simp; omega
    have ht := hF t (by simp)
    have hel := enc_len hF
    rw [List.length_cons] at hel
    have hcut : pre ++ t :: suf = (pre ++ [t]) ++ suf := by simp
    rw [banksmanlaw01_OctetMany.l1, if_pos (by omega), takeText_f (enc_ok hF) (by omega), enc, tt_text (by omega), Option.bind_some]
    simp only
    rw [if_pos trivial, if_pos (by omega), rdL, if_pos rfl, w64 (by omega) (by omega)]
    have e2 : (pre.length : Int) + 1 = ((pre ++ [t]).length : Int) := by simp
    rw [e2, hcut]
    exact ih (pre ++ [t]) k (fun x hx => hF x (by simp [hx])) (by rw [← hcut]; exact hl) (by simp at hk; omega)
theorem many_l0 : ∀ (suf pre : List (List Int)) (k : Nat), (∀ t ∈ pre ++ suf, okb t = true) → Fine pre → (pre ++ suf).length ≤ 20 → suf.length + 30 ≤ k → banksmanlaw01_OctetMany.l0 k (pre ++ suf) true (enc pre) pre.length = some true := by
  intro suf
  induction suf with
  | nil =>
    intro pre k hok hF hl hk
    obtain ⟨k, rfl⟩ : ∃ m, k = m + 1 := ⟨k - 1, by omega⟩
    rw [banksmanlaw01_OctetMany.l0, if_neg (by simp), List.append_nil]
    rw [List.append_nil] at hl
    exact many_l1 pre [] k hF hl (by omega)
  | cons t suf ih =>
    intro pre k hok hF hl hk
    obtain ⟨k, rfl⟩ : ∃ m, k = m + 1 := ⟨k - 1, by omega⟩
    have hll : (pre ++ t :: suf).length = pre.length + 1 + suf.length := by simp; omega
    have hcut : pre ++ t :: suf = (pre ++ [t]) ++ suf := by simp
    have hel := enc_len hF
    rw [banksmanlaw01_OctetMany.l0, if_pos (by omega), if_pos (by omega), rdL]
    by_cases h3 : (t.length : Int) > 300
    · rw [if_pos h3]
    · rw [if_neg h3, text_f (by omega), Option.bind_some]
      have e9 : textP (enc pre) t = (enc pre ++ octBytes 5 (t.length : Int) ++ t, 0) := by unfold textP; rw [if_neg (by omega)]
      rw [e9]
      simp only
      rw [if_pos trivial, w64 (by omega) (by omega)]
      have e2 : (pre.length : Int) + 1 = ((pre ++ [t]).length : Int) := by simp
      have e3 : enc pre ++ octBytes 5 (t.length : Int) ++ t = enc (pre ++ [t]) := by rw [enc_app, enc, enc]; simp
      rw [e2, e3, hcut]
      exact ih (pre ++ [t]) k (by rw [← hcut]; exact hok) (fun x hx => by
        rcases List.mem_append.mp hx with hx | hx
        · exact hF x hx
        · have e : x = t := by simpa using hx
          subst e
          exact ⟨by omega, hok x (by simp)⟩) (by rw [← hcut]; exact hl) (by simp at hk; omega)
theorem OctetMany : banksmanlaw01_OctetMany.Pure := by
  intro l hl
  refine ⟨100, ?_⟩
  unfold banksmanlaw01_OctetMany.f
  rw [banksmanlaw01_awake.settled, Option.bind_some]
  by_cases h : (l.length : Int) > 20
  · rw [if_pos h]
  · rw [if_neg h]
    exact many_l0 l [] 100 (fun t ht => okb_of (hl.2 t ht).2) (fun t ht => by cases ht) (by simp; omega) (by omega)
end Go.Proofs.Ythfiochgkmggoaa.Pure
