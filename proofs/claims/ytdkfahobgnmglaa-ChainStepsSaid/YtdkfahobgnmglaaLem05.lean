import Derived.Test.YtdkfahobgnmglaaPx16
import Derived.Test.YtdkfahobgnmglaaPx17
import Derived.Test.YtdkfahobgnmglaaPx24
import Derived.Test.YtdkfahobgnmglaaPx25
import Derived.Test.YtdkfahobgnmglaaPx26
import Derived.Test.YtdkfahobgnmglaaPx23
import Derived.Test.YtdkfahobgnmglaaPx21
import Derived.Test.YtdkfahobgnmglaaPx14
import Derived.Test.YtdkfahobgnmglaaPx15
import Derived.Test.YtdkfahobgnmglaaPx13
import Derived.Test.YtdkfahobgnmglaaPx10
namespace Go.Proofs.Ytdkfahobgnmglaa.Pure
open Go.RowKit Go.Proofs.Ytdkfahobgnmglaa.P Go.Proofs.YtdkfahobgnmglaaW.PrintWords Go.Proofs.YtdkfahobgnmglaaW.PrintLast
set_option linter.unusedVariables false
set_option linter.unusedSimpArgs false

theorem w64 {x : Int} (h0 : -9223372036854775808 ≤ x) (h1 : x ≤ 9223372036854775807) : wrap64 x = x := by unfold wrap64; omega
theorem wf_i64 {x : Int} (h : (Lit.int .i64 x).wf = true) : -9223372036854775808 ≤ x ∧ x ≤ 9223372036854775807 := by
  simp [Lit.wf, IntKind.min, IntKind.max, IntKind.bits, IntKind.signed] at h; omega
theorem wf_u8 {x : Int} (h : (Lit.int .u8 x).wf = true) : 0 ≤ x ∧ x ≤ 255 := by
  simp [Lit.wf, IntKind.min, IntKind.max, IntKind.bits, IntKind.signed] at h; omega
theorem rdT {l : List S25} {i : Nat} (h : i < l.length) : rd_T25 l (i : Int) = l[i] := by
  unfold rd_T25; rw [Int.toNat_natCast]; simp [List.getD_eq_getElem?_getD, h]

def mayB (x : S25) : Bool := decide (1 ≤ x.f0) && (decide (x.f0 ≤ 2147483647) && (decide ((x.f2.length : Int) ≤ 32) && (!x.f1 || decide ((x.f2.length : Int) = 0))))
theorem may_f (x : S25) : chain_may.f x.f0 x.f1 x.f2 = some (mayB x) := by
  unfold chain_may.f mayB
  by_cases h1 : x.f0 ≥ 1
  · rw [if_pos h1]
    by_cases h2 : x.f0 ≤ 2147483647
    · rw [if_pos h2]
      by_cases h3 : (x.f2.length : Int) ≤ 32
      · rw [if_pos h3]
        rw [show ((x.f2.length : Int) == 0) = decide ((x.f2.length : Int) = 0) from rfl]
        cases hg : x.f1 <;> simp [h1, h2, h3]
      · rw [if_neg h3]; simp [h3]
    · rw [if_neg h2]; simp [h2]
  · rw [if_neg h1]; simp; omega
theorem rmay_f (x : S25) : banksmanref05_may.f x.f0 x.f1 x.f2 = some (mayB x) := by
  rw [← may_f]
  unfold banksmanref05_may.f chain_may.f
  have e : (x.f0 < 2147483648) = (x.f0 ≤ 2147483647) := by apply propext; omega
  simp only [e]
theorem mayB_pos {x : S25} (h : mayB x = true) : 1 ≤ x.f0 ∧ x.f0 ≤ 2147483647 ∧ x.f2.length ≤ 32 := by
  simp [mayB] at h; omega

def chk : Int → List S25 → Bool
  | _, [] => true
  | p, x :: t => mayB x && (decide (p < x.f0) && chk x.f0 t)
theorem drop_at {l : List S25} {i : Nat} (h : i < l.length) : l.drop i = l[i] :: l.drop (i + 1) := List.drop_eq_getElem_cons h
theorem check_l0 (l : List S25) (hl : l.length ≤ 1000) : ∀ (n k i : Nat) (p : Int), l.length - i = n → i ≤ l.length → n < k → chain_Check.l0 k p l (l.length : Int) (i : Int) = some (chk p (l.drop i)) := by
  intro n
  induction n with
  | zero =>
    intro k i p hn hi hk
    obtain ⟨k, rfl⟩ : ∃ m, k = m + 1 := ⟨k - 1, by omega⟩
    simp only [chain_Check.l0]
    rw [if_neg (by omega), List.drop_of_length_le (by omega)]
    rfl
  | succ n ih =>
    intro k i p hn hi hk
    obtain ⟨k, rfl⟩ : ∃ m, k = m + 1 := ⟨k - 1, by omega⟩
    have hlt : i < l.length := by omega
    simp only [chain_Check.l0]
    rw [if_pos (by omega), if_pos (by omega), if_pos (by omega), rdT hlt, may_f, Option.bind_some, drop_at hlt]
    have e : wrap64 ((i : Int) + 1) = ((i + 1 : Nat) : Int) := by rw [w64 (by omega) (by omega)]; omega
    show _ = some (mayB l[i] && (decide (p < (l[i]).f0) && chk (l[i]).f0 (l.drop (i + 1))))
    cases hm : mayB l[i] with
    | false => rfl
    | true =>
      rw [if_pos rfl]
      by_cases hp : (l[i]).f0 ≤ p
      · rw [if_pos hp, decide_eq_false (by omega)]; rfl
      · rw [if_neg hp, decide_eq_true (show p < (l[i]).f0 by omega), e, ih k (i + 1) _ (by omega) (by omega) (by omega)]
        simp
theorem check_f {l : List S25} {k : Nat} (hl : l.length ≤ 1000) (hk : 1001 ≤ k) : chain_Check.f k l = some (chk 0 l) := by
  have := check_l0 l hl _ k 0 0 rfl (by omega) (by omega)
  simpa [chain_Check.f] using this
def pv (l : List S25) (i : Nat) : Int := if i = 0 then 0 else (rd_T25 l ((i - 1 : Nat) : Int)).f0
theorem rcheck_l0 (l : List S25) (hl : l.length ≤ 1000) : ∀ (n k i : Nat), l.length - i = n → i ≤ l.length → n < k → banksmanref05_Check.l0 k l (i : Int) = some (chk (pv l i) (l.drop i)) := by
  intro n
  induction n with
  | zero =>
    intro k i hn hi hk
    obtain ⟨k, rfl⟩ : ∃ m, k = m + 1 := ⟨k - 1, by omega⟩
    simp only [banksmanref05_Check.l0]
    rw [if_neg (by omega), List.drop_of_length_le (by omega)]
    rfl
  | succ n ih =>
    intro k i hn hi hk
    obtain ⟨k, rfl⟩ : ∃ m, k = m + 1 := ⟨k - 1, by omega⟩
    have hlt : i < l.length := by omega
    simp only [banksmanref05_Check.l0]
    have e : wrap64 ((i : Int) + 1) = ((i + 1 : Nat) : Int) := by rw [w64 (by omega) (by omega)]; omega
    have hpv : pv l (i + 1) = (l[i]).f0 := by unfold pv; rw [if_neg (by omega)]; simp only [Nat.add_sub_cancel]; rw [rdT hlt]
    have ih' := ih k (i + 1) (by omega) (by omega) (by omega)
    rw [hpv] at ih'
    rw [if_pos (by omega), if_pos (by omega), rdT hlt, rmay_f, Option.bind_some, drop_at hlt, e, ih']
    show _ = some (mayB l[i] && (decide (pv l i < (l[i]).f0) && chk (l[i]).f0 (l.drop (i + 1))))
    cases hm : mayB l[i] with
    | false => rfl
    | true =>
      rw [if_pos rfl]
      by_cases h0 : (i : Int) > 0
      · have e2 : wrap64 ((i : Int) - 1) = ((i - 1 : Nat) : Int) := by rw [w64 (by omega) (by omega)]; omega
        rw [if_pos h0, e2, if_pos (by omega), if_pos (by omega)]
        have e3 : (rd_T25 l ((i - 1 : Nat) : Int)).f0 = pv l i := by unfold pv; rw [if_neg (by omega)]
        rw [e3]
        by_cases hp : pv l i ≥ (l[i]).f0
        · rw [if_pos hp, decide_eq_false (by omega)]; rfl
        · rw [if_neg hp, decide_eq_true (show pv l i < (l[i]).f0 by omega)]; simp
      · rw [if_neg h0]
        have : pv l i = 0 := by unfold pv; rw [if_pos (by omega)]
        have := (mayB_pos hm).1
        rw [decide_eq_true (show pv l i < (l[i]).f0 by omega)]; simp
theorem rcheck_f {l : List S25} {k : Nat} (hl : l.length ≤ 1000) (hk : 1001 ≤ k) : banksmanref05_Check.f k l = some (chk 0 l) := by
  have := rcheck_l0 l hl _ k 0 rfl (by omega) (by omega)
  simpa [banksmanref05_Check.f, pv] using this

/-! the cut at a sequence -/
def tw (l : List S25) (s : Int) : List S25 := l.takeWhile fun x => decide (x.f0 ≤ s)
def dw (l : List S25) (s : Int) : List S25 := l.dropWhile fun x => decide (x.f0 ≤ s)
theorem twdw (l : List S25) (s : Int) : tw l s ++ dw l s = l := List.takeWhile_append_dropWhile
theorem behind_tw (l : List S25) (s : Int) : behindN l s = (tw l s).length := rfl
theorem tw_le {l : List S25} {s : Int} {x : S25} (h : x ∈ tw l s) : x.f0 ≤ s := by
  have := List.all_takeWhile (p := fun x : S25 => decide (x.f0 ≤ s)) (l := l)
  rw [List.all_eq_true] at this
  exact of_decide_eq_true (this x h)
theorem dw_gt {l : List S25} {s : Int} {x : S25} {t : List S25} (h : dw l s = x :: t) : s < x.f0 := by
  have := List.head?_dropWhile_not (fun x : S25 => decide (x.f0 ≤ s)) l
  unfold dw at h
  rw [h] at this
  simp at this
  exact this
def lastf : Int → List S25 → Int
  | p, [] => p
  | _, x :: t => lastf x.f0 t
theorem chk_append (p : Int) (A B : List S25) : chk p (A ++ B) = (chk p A && chk (lastf p A) B) := by
  induction A generalizing p with
  | nil => simp [chk, lastf]
  | cons x A ih => simp only [List.cons_append, chk, lastf, ih, Bool.and_assoc]
theorem lastf_snoc (p : Int) (A : List S25) (a : S25) : lastf p (A ++ [a]) = a.f0 := by
  induction A generalizing p with
  | nil => rfl
  | cons x A ih => simpa [lastf] using ih x.f0
theorem chk_le {p q : Int} {l : List S25} (h : chk p l = true) (hq : q ≤ p) : chk q l = true := by
  cases l with
  | nil => rfl
  | cons x t => simp [chk] at h ⊢; exact ⟨h.1, by omega, h.2.2⟩
theorem chk_mem {p : Int} {l : List S25} (h : chk p l = true) {x : S25} (hx : x ∈ l) : p < x.f0 ∧ mayB x = true := by
  induction l generalizing p with
  | nil => cases hx
  | cons y t ih =>
    simp [chk] at h
    rcases List.mem_cons.mp hx with rfl | hx
    · exact ⟨h.2.1, h.1⟩
    · have := ih h.2.2 hx; exact ⟨by omega, this.2⟩
theorem lastf_le {p : Int} {l : List S25} (h : chk p l = true) : p ≤ lastf p l := by
  induction l generalizing p with
  | nil => exact Int.le_refl _
  | cons x t ih => simp [chk] at h; have := ih h.2.2; simp only [lastf]; omega
theorem tw_append {A B : List S25} {s : Int} (h : ∀ x ∈ A, x.f0 ≤ s) : tw (A ++ B) s = A ++ tw B s := List.takeWhile_append_of_pos (fun a ha => decide_eq_true (h a ha))
theorem dw_append {A B : List S25} {s : Int} (h : ∀ x ∈ A, x.f0 ≤ s) : dw (A ++ B) s = dw B s := List.dropWhile_append_of_pos (fun a ha => decide_eq_true (h a ha))
theorem tw_nil {B : List S25} {s : Int} (h : ∀ x t, B = x :: t → s < x.f0) : tw B s = [] := by
  cases B with
  | nil => rfl
  | cons x t => have := h x t rfl; unfold tw; rw [List.takeWhile_cons, if_neg (by simp; omega)]
theorem dw_nil {B : List S25} {s : Int} (h : ∀ x t, B = x :: t → s < x.f0) : dw B s = B := by
  cases B with
  | nil => rfl
  | cons x t => have := h x t rfl; unfold dw; rw [List.dropWhile_cons, if_neg (by simp; omega)]
/-- A list in order, cut at s. -/
theorem cut {l : List S25} (s : Int) (h : chk 0 l = true) : ∃ A B, l = A ++ B ∧ tw l s = A ∧ dw l s = B ∧ (∀ x ∈ A, x.f0 ≤ s) ∧ (∀ x ∈ B, s < x.f0) ∧ chk 0 A = true ∧ chk (lastf 0 A) B = true := by
  refine ⟨tw l s, dw l s, (twdw l s).symm, rfl, rfl, fun x hx => tw_le hx, ?_, ?_⟩
  · have h2 := h
    rw [← twdw l s, chk_append, Bool.and_eq_true] at h2
    cases hd : dw l s with
    | nil => intro x hx; cases hx
    | cons y t =>
      have hy := dw_gt hd
      rw [hd] at h2
      have h3 := h2.2
      simp [chk] at h3
      intro x hx
      rcases List.mem_cons.mp hx with rfl | hx
      · exact hy
      · have := (chk_mem h3.2.2 hx).1; omega
  · have h2 := h
    rw [← twdw l s, chk_append, Bool.and_eq_true] at h2
    exact h2

/-! what the functions compute, plainly -/
def rdp (l : List S25) (s : Int) : List Int × Bool := if chk 0 l = true then (match (tw l s).getLast? with | none => ([], false) | some x => if x.f1 = true then ([], false) else (x.f2, true)) else ([], false)
def vac (l : List S25) (s : Int) : List S25 := if chk 0 l = true then (match (tw l s).getLast? with | none => l | some x => if x.f1 = true then dw l s else x :: dw l s) else l
def newr (l : List S25) (s : Int) : Bool := chk 0 l && !(dw l s).isEmpty
def ins (l : List S25) (x : S25) : List S25 × Int := if chk 0 l = true ∧ mayB x = true then (if lastf 0 l ≥ x.f0 then (l, 50) else (l ++ [x], 0)) else (l, 1)
def small (l : List S25) : Prop := l.length ≤ 1000 ∧ ∀ x ∈ l, x.f2.length ≤ 1000
theorem small_drop {l : List S25} (h : small l) (n : Nat) : small (l.drop n) := ⟨by have := h.1; simp; omega, fun x hx => h.2 x (List.mem_of_mem_drop hx)⟩

theorem small_app {l : List S25} {x : S25} (h : small l) (hl : l.length ≤ 900) (hx : x.f2.length ≤ 1000) : small (l ++ [x]) := ⟨by simp; omega, fun y hy => by
  rcases List.mem_append.mp hy with hy | hy
  · exact h.2 y hy
  · rw [List.mem_singleton.mp hy]; exact hx⟩
theorem own_f {l : List S25} (h : small l) : chain_own.f l = some l := by
  unfold chain_own.f
  rw [if_pos]
  unfold okOwn
  rw [Bool.and_eq_true, List.all_eq_true]
  exact ⟨decide_eq_true (by have := h.1; omega), fun x hx => decide_eq_true (by have := h.2 x hx; omega)⟩
theorem clone_f {l : List Int} (h : l.length ≤ 1000) : bytes_Clone.f l = some l := by unfold bytes_Clone.f; rw [if_pos (by omega)]
theorem slicesclone_f {l : List S25} (h : small l) : slices_Clone_Version.f l = some l := by unfold slices_Clone_Version.f; rw [if_pos (by have := h.1; omega)]
theorem behind_f (l : List S25) (s : Int) : chain_behind.f l s = some ((tw l s).length : Int) := rfl
theorem tw_len (l : List S25) (s : Int) : (tw l s).length ≤ l.length := by have := congrArg List.length (twdw l s); simp at this; omega
theorem tw_last {l : List S25} {s : Int} (h : 0 < (tw l s).length) : ∃ A' a, tw l s = A' ++ [a] ∧ (tw l s).getLast? = some a ∧ l[(tw l s).length - 1]? = some a ∧ l.drop ((tw l s).length - 1) = a :: dw l s ∧ l.drop (tw l s).length = dw l s := by
  rcases List.eq_nil_or_concat (tw l s) with e | ⟨A', a, e⟩
  · rw [e] at h; simp at h
  · rw [List.concat_eq_append] at e
    have hl := twdw l s
    have hn : (tw l s).length = A'.length + 1 := by rw [e]; simp
    refine ⟨A', a, e, by rw [e]; simp, ?_, ?_, ?_⟩
    · rw [hn]; conv => lhs; rw [← hl, e]
      simp
    · rw [hn]; conv => lhs; rw [← hl, e]
      simp
    · rw [hn]; conv => lhs; rw [← hl, e]
      simp
theorem read_f {l : List S25} {s : Int} {k : Nat} (h : small l) (hk : 1001 ≤ k) : chain_Read.f k l s = some (rdp l s) := by
  unfold chain_Read.f rdp
  rw [check_f h.1 hk, Option.bind_some]
  by_cases hc : chk 0 l = true
  · rw [if_pos hc, if_pos hc, behind_f, Option.bind_some]
    have hle := tw_len l s
    have h1 := h.1
    by_cases hp : ((tw l s).length : Int) > 0
    · obtain ⟨A', a, e, hg, hi, _, _⟩ := tw_last (l := l) (s := s) (by omega)
      have e1 : wrap64 (((tw l s).length : Int) - 1) = (((tw l s).length - 1 : Nat) : Int) := by rw [w64 (by omega) (by omega)]; omega
      have hlt : (tw l s).length - 1 < l.length := by omega
      have e2 : rd_T25 l (((tw l s).length - 1 : Nat) : Int) = a := by rw [rdT hlt]; rw [List.getElem?_eq_getElem hlt] at hi; exact Option.some.inj hi
      rw [if_pos hp, e1, if_pos (by omega), if_pos (by omega), e2, hg]
      by_cases ha : a.f1 = true
      · rw [if_pos ha]; simp [ha]
      · rw [if_neg ha, clone_f]
        · simp [ha]
        · exact h.2 a (List.mem_of_getElem? hi)
    · rw [if_neg hp]
      have : tw l s = [] := List.eq_nil_of_length_eq_zero (by omega)
      rw [this]; rfl
  · rw [if_neg hc, if_neg hc]
theorem may_f3 (a : Int) (b : Bool) (c : List Int) : chain_may.f a b c = some (mayB ⟨a, b, c⟩) := may_f ⟨a, b, c⟩
theorem rmay_f3 (a : Int) (b : Bool) (c : List Int) : banksmanref05_may.f a b c = some (mayB ⟨a, b, c⟩) := rmay_f ⟨a, b, c⟩
theorem last_rd {l : List S25} (h : 0 < l.length) : (rd_T25 l ((l.length - 1 : Nat) : Int)).f0 = lastf 0 l := by
  rcases List.eq_nil_or_concat l with e | ⟨A', a, e⟩
  · rw [e] at h; simp at h
  · rw [List.concat_eq_append] at e
    subst e
    rw [lastf_snoc, rdT (by simp)]
    simp
theorem install_f {l : List S25} {a : Int} {b : Bool} {c : List Int} {k : Nat} (h : small l) (hl : l.length ≤ 900) (hc : c.length ≤ 1000) (hk : 1004 ≤ k) : chain_Install.f k l a b c = some (ins l ⟨a, b, c⟩) := by
  unfold chain_Install.f ins
  obtain ⟨k, rfl⟩ : ∃ m, k = m + 2 := ⟨k - 2, by omega⟩
  have hln := h.1
  rw [check_f h.1 (by omega), Option.bind_some]
  by_cases hch : chk 0 l = true
  · rw [if_pos hch, may_f3, Option.bind_some]
    cases hm : mayB ⟨a, b, c⟩ with
    | false => simp [chain_Install.j0, own_f h]
    | true =>
      have ha : 1 ≤ a := (mayB_pos hm).1
      rw [if_pos ⟨hch, rfl⟩]
      simp only [chain_Install.j0, Bool.not_true]
      rw [if_neg (by decide)]
      by_cases hp : (l.length : Int) > 0
      · have e1 : wrap64 ((l.length : Int) - 1) = ((l.length - 1 : Nat) : Int) := by rw [w64 (by omega) (by omega)]; omega
        rw [if_pos hp, e1, if_pos (by omega), if_pos (by omega), last_rd (by omega)]
        simp only [chain_Install.j1]
        by_cases hg : lastf 0 l ≥ a
        · rw [if_pos hg, decide_eq_true hg, if_pos rfl, own_f h]; rfl
        · rw [if_neg hg, decide_eq_false hg, if_neg (by decide), slicesclone_f h, Option.bind_some, Option.bind_some, if_pos (by simp; omega), own_f (small_app h hl hc)]; rfl
      · have : l = [] := List.eq_nil_of_length_eq_zero (by omega)
        subst this
        simp only [chain_Install.j1]
        rw [if_neg hp, if_neg (by decide), if_neg (by simp only [lastf]; omega), slicesclone_f h, Option.bind_some, Option.bind_some, if_pos (by simp), own_f (small_app h hl hc)]; rfl
  · rw [if_neg hch, if_neg (by simp [hch])]
    simp [chain_Install.j0, own_f h]
theorem vacuum_f {l : List S25} {s : Int} {k : Nat} (h : small l) (hk : 1001 ≤ k) : chain_Vacuum.f k l s = some (vac l s) := by
  unfold chain_Vacuum.f vac
  rw [check_f h.1 hk, Option.bind_some]
  by_cases hc : chk 0 l = true
  · rw [if_pos hc, if_pos hc, behind_f, Option.bind_some]
    have hle := tw_len l s
    have h1 := h.1
    by_cases hp : ((tw l s).length : Int) > 0
    · obtain ⟨A', a, e, hg, hi, hd1, hd0⟩ := tw_last (l := l) (s := s) (by omega)
      have e1 : wrap64 (((tw l s).length : Int) - 1) = (((tw l s).length - 1 : Nat) : Int) := by rw [w64 (by omega) (by omega)]; omega
      have hlt : (tw l s).length - 1 < l.length := by omega
      have e2 : rd_T25 l (((tw l s).length - 1 : Nat) : Int) = a := by rw [rdT hlt]; rw [List.getElem?_eq_getElem hlt] at hi; exact Option.some.inj hi
      rw [if_pos hp, e1, if_pos (by omega), if_pos (by omega), e2, hg, Int.toNat_natCast, Int.toNat_natCast, hd1, hd0]
      by_cases ha : a.f1 = true
      · rw [if_pos ha, if_pos (by omega), if_pos (by omega), own_f (by rw [← hd0]; exact small_drop h _)]; simp [ha]
      · rw [if_neg ha, if_pos (by omega), own_f (by rw [← hd1]; exact small_drop h _)]; simp [ha]
    · rw [if_neg hp, if_pos (by omega), if_pos (by omega)]
      have e : tw l s = [] := List.eq_nil_of_length_eq_zero (by omega)
      rw [e]
      simp [own_f h]
  · rw [if_neg hc, if_neg hc, own_f h]; rfl
theorem newer_f {l : List S25} {s : Int} {k : Nat} (h : small l) (hk : 1001 ≤ k) : chain_Newer.f k l s = some (newr l s) := by
  unfold chain_Newer.f newr
  rw [check_f h.1 hk, Option.bind_some]
  by_cases hc : chk 0 l = true
  · rw [if_pos hc, behind_f, Option.bind_some, hc]
    have e := congrArg List.length (twdw l s)
    rw [List.length_append] at e
    cases hd : dw l s with
    | nil => rw [hd] at e; simp at e; simp; omega
    | cons x t => rw [hd] at e; simp at e; simp; omega
  · rw [if_neg hc]; simp [hc]
theorem same_l0 (l : List S25) (hl : l.length ≤ 1000) : ∀ (n k i : Nat), l.length - i = n → i ≤ l.length → n < k → banksmanref05_Same.l0 k l l (i : Int) = some true := by
  intro n
  induction n with
  | zero =>
    intro k i hn hi hk
    obtain ⟨k, rfl⟩ : ∃ m, k = m + 1 := ⟨k - 1, by omega⟩
    simp only [banksmanref05_Same.l0]
    rw [if_neg (by omega)]
  | succ n ih =>
    intro k i hn hi hk
    obtain ⟨k, rfl⟩ : ∃ m, k = m + 1 := ⟨k - 1, by omega⟩
    have e : wrap64 ((i : Int) + 1) = ((i + 1 : Nat) : Int) := by rw [w64 (by omega) (by omega)]; omega
    simp only [banksmanref05_Same.l0]
    rw [if_pos (by omega), if_pos (by omega), if_pos (by omega), if_pos (by trivial), if_neg (by simp), if_pos (by trivial), e, ih k (i + 1) (by omega) (by omega) (by omega)]
theorem same_f {l : List S25} {k : Nat} (hl : l.length ≤ 1000) (hk : 1001 ≤ k) : banksmanref05_Same.f k l l = some true := by
  unfold banksmanref05_Same.f
  rw [if_pos rfl]
  exact same_l0 l hl _ k 0 rfl (by omega) (by omega)

/-! the law's own 'few' -/
def few (l : List S25) : Bool := decide (l.length ≤ 100) && l.all fun x => decide (x.f2.length ≤ 100)
theorem few_l0 (l : List S25) (hl : l.length ≤ 1000) : ∀ (n k i : Nat), l.length - i = n → i ≤ l.length → n < k → banksmanlaw05_few.l0 k l (i : Int) = some ((l.drop i).all fun x => decide (x.f2.length ≤ 100)) := by
  intro n
  induction n with
  | zero =>
    intro k i hn hi hk
    obtain ⟨k, rfl⟩ : ∃ m, k = m + 1 := ⟨k - 1, by omega⟩
    simp only [banksmanlaw05_few.l0]
    rw [if_neg (by omega), List.drop_of_length_le (by omega)]
    rfl
  | succ n ih =>
    intro k i hn hi hk
    obtain ⟨k, rfl⟩ : ∃ m, k = m + 1 := ⟨k - 1, by omega⟩
    have hlt : i < l.length := by omega
    have e : wrap64 ((i : Int) + 1) = ((i + 1 : Nat) : Int) := by rw [w64 (by omega) (by omega)]; omega
    simp only [banksmanlaw05_few.l0]
    rw [if_pos (by omega), if_pos (by omega), rdT hlt, drop_at hlt, List.all_cons, e, ih k (i + 1) (by omega) (by omega) (by omega)]
    by_cases h1 : ((l[i]).f2.length : Int) > 100
    · rw [if_pos h1, decide_eq_false (by omega)]; rfl
    · rw [if_neg h1, decide_eq_true (show (l[i]).f2.length ≤ 100 by omega)]; simp
theorem few_f {l : List S25} {k : Nat} (hk : 1001 ≤ k) : banksmanlaw05_few.f k l = some (few l) := by
  unfold banksmanlaw05_few.f few
  by_cases h : (l.length : Int) > 100
  · rw [if_pos h, decide_eq_false (by omega)]; rfl
  · rw [if_neg h, decide_eq_true (show l.length ≤ 100 by omega)]
    have := few_l0 l (by omega) _ k 0 rfl (by omega) (by omega)
    simpa using this
theorem few_small {l : List S25} (h : few l = true) : small l ∧ l.length ≤ 100 := by
  simp [few] at h
  exact ⟨⟨by omega, fun x hx => by have := h.2 x hx; omega⟩, h.1⟩
theorem chk_small {l : List S25} {p : Int} (h : chk p l = true) (hl : l.length ≤ 1000) : small l := ⟨hl, fun x hx => by have := (mayB_pos (chk_mem h hx).2).2.2; omega⟩
theorem awake_f {k : Nat} (hk : 64 ≤ k) : banksmanlaw05_awake.f k = some true := by
  have up : ∀ j m : Nat, ∀ x, banksmanlaw05_awake.f j = some x → banksmanlaw05_awake.f (j + m) = some x := fun j m => by
    induction m with
    | zero => exact fun x hx => hx
    | succ m ih => exact fun x hx => banksmanlaw05_awake.mono (j + m) x (ih x hx)
  have := up 64 (k - 64) true banksmanlaw05_awake.settled
  rwa [show 64 + (k - 64) = k by omega] at this
end Go.Proofs.Ytdkfahobgnmglaa.Pure
