import Derived.Test.YtdkfahobgnmglaaLem05b
namespace Go.Proofs.Ytdkfahobgnmglaa.Pure
open Go.RowKit Go.Proofs.Ytdkfahobgnmglaa.P Go.Proofs.YtdkfahobgnmglaaW.PrintWords Go.Proofs.YtdkfahobgnmglaaW.PrintLast
set_option linter.unusedVariables false
set_option linter.unusedSimpArgs false

def atR (s : Int) : List S25 → Int → Int → Int
  | [], _, b => b
  | x :: t, i, b => atR s t (i + 1) (if x.f0 ≤ s then i else b)
theorem at_l0 (l : List S25) (s : Int) (hl : l.length ≤ 1000) : ∀ (n k i : Nat) (b : Int), l.length - i = n → i ≤ l.length → n < k → banksmanref05_at.l0 k l s b (i : Int) = some (atR s (l.drop i) i b) := by
  intro n
  induction n with
  | zero =>
    intro k i b hn hi hk
    obtain ⟨k, rfl⟩ : ∃ m, k = m + 1 := ⟨k - 1, by omega⟩
    simp only [banksmanref05_at.l0]
    rw [if_neg (by omega), List.drop_of_length_le (by omega)]
    rfl
  | succ n ih =>
    intro k i b hn hi hk
    obtain ⟨k, rfl⟩ : ∃ m, k = m + 1 := ⟨k - 1, by omega⟩
    have hlt : i < l.length := by omega
    have e : wrap64 ((i : Int) + 1) = ((i + 1 : Nat) : Int) := by rw [w64 (by omega) (by omega)]; omega
    have e2 : ((i + 1 : Nat) : Int) = (i : Int) + 1 := by omega
    simp only [banksmanref05_at.l0]
    rw [if_pos (by omega), if_pos (by omega), rdT hlt, drop_at hlt, e]
    show _ = some (atR s (l.drop (i + 1)) ((i : Int) + 1) (if (l[i]).f0 ≤ s then (i : Int) else b))
    by_cases h : (l[i]).f0 ≤ s
    · rw [if_pos h, if_pos h, ih k (i + 1) i (by omega) (by omega) (by omega), e2]
    · rw [if_neg h, if_neg h, ih k (i + 1) b (by omega) (by omega) (by omega), e2]
theorem at_f {l : List S25} {s : Int} {k : Nat} (hl : l.length ≤ 1000) (hk : 1001 ≤ k) : banksmanref05_at.f k l s = some (atR s l 0 (-1)) := by
  have := at_l0 l s hl _ k 0 (-1) rfl (by omega) (by omega)
  simpa [banksmanref05_at.f] using this
theorem at_sorted {s : Int} {l : List S25} : ∀ {p : Int} (i b : Int), chk p l = true → atR s l i b = if (tw l s).length = 0 then b else i + ((tw l s).length : Int) - 1 := by
  induction l with
  | nil => intro p i b _; rfl
  | cons x t ih =>
    intro p i b h
    simp [chk] at h
    have ih' := fun b' => ih (i + 1) b' h.2.2
    simp only [atR]
    rw [ih']
    by_cases hx : x.f0 ≤ s
    · have e : tw (x :: t) s = x :: tw t s := by unfold tw; rw [List.takeWhile_cons, if_pos (by simpa using hx)]
      rw [if_pos hx, e, List.length_cons, if_neg (show ¬ (tw t s).length + 1 = 0 by omega)]
      split <;> omega
    · have e : tw (x :: t) s = [] := tw_nil (fun y u hy => by injection hy with hy _; rw [← hy]; omega)
      have e2 : tw t s = [] := tw_nil (fun y u hy => by rw [hy] at h; have := h.2.2; simp [chk] at this; omega)
      rw [if_neg hx, e, e2]; rfl
theorem at_chk {l : List S25} (s : Int) (h : chk 0 l = true) : atR s l 0 (-1) = ((tw l s).length : Int) - 1 := by
  rw [at_sorted 0 (-1) h]; split <;> omega
theorem rread_f {l : List S25} {s : Int} {k : Nat} (h : small l) (hk : 1001 ≤ k) : banksmanref05_Read.f k l s = some (rdp l s) := by
  unfold banksmanref05_Read.f rdp
  rw [rcheck_f h.1 hk, Option.bind_some, at_f h.1 hk, Option.bind_some]
  by_cases hc : chk 0 l = true
  · rw [if_pos hc, if_pos hc, at_chk s hc]
    have hle := tw_len l s
    have h1 := h.1
    by_cases hp : 0 < (tw l s).length
    · obtain ⟨A', a, e, hg, hi, _, _⟩ := tw_last (l := l) (s := s) hp
      have e1 : ((tw l s).length : Int) - 1 = (((tw l s).length - 1 : Nat) : Int) := by omega
      have hlt : (tw l s).length - 1 < l.length := by omega
      have e2 : rd_T25 l (((tw l s).length - 1 : Nat) : Int) = a := by rw [rdT hlt]; rw [List.getElem?_eq_getElem hlt] at hi; exact Option.some.inj hi
      have h2 := h.2 a (List.mem_of_getElem? hi)
      rw [if_neg (by omega), e1, if_pos (by omega), if_pos (by omega), e2, hg]
      by_cases ha : a.f1 = true
      · rw [if_pos ha]; simp [ha]
      · rw [if_neg ha, Option.bind_some, if_pos (by simp; omega)]
        simp [ha]
    · rw [if_pos (by omega)]
      have : tw l s = [] := List.eq_nil_of_length_eq_zero (by omega)
      rw [this]; rfl
  · rw [if_neg hc, if_neg hc]
theorem copy_l0 (l : List S25) (h : small l) : ∀ (n k i : Nat) (acc : List S25), l.length - i = n → i ≤ l.length → acc.length = i → n < k → banksmanref05_Copy.l0 k l acc (i : Int) = some (acc ++ l.drop i) := by
  have hl := h.1
  intro n
  induction n with
  | zero =>
    intro k i acc hn hi ha hk
    obtain ⟨k, rfl⟩ : ∃ m, k = m + 1 := ⟨k - 1, by omega⟩
    simp only [banksmanref05_Copy.l0]
    rw [if_neg (by omega), List.drop_of_length_le (by omega), List.append_nil]
  | succ n ih =>
    intro k i acc hn hi ha hk
    obtain ⟨k, rfl⟩ : ∃ m, k = m + 1 := ⟨k - 1, by omega⟩
    have hlt : i < l.length := by omega
    have e : wrap64 ((i : Int) + 1) = ((i + 1 : Nat) : Int) := by rw [w64 (by omega) (by omega)]; omega
    have h2 := h.2 l[i] (List.getElem_mem hlt)
    simp only [banksmanref05_Copy.l0]
    rw [if_pos (by omega), if_pos (by omega), Option.bind_some, rdT hlt, if_pos (by simp; omega), if_pos (by omega), e, ih k (i + 1) _ (by omega) (by omega) (by simp [ha]) (by omega), drop_at hlt]
    have e3 : (⟨(l[i]).f0, (l[i]).f1, [] ++ (l[i]).f2⟩ : S25) = l[i] := by cases l[i]; rfl
    rw [e3, List.append_assoc]; rfl
theorem copy_f {l : List S25} {k : Nat} (h : small l) (hk : 1001 ≤ k) : banksmanref05_Copy.f k l = some l := by
  have h1 := h.1
  have := copy_l0 l h _ k 0 [] rfl (by omega) rfl (by omega)
  simpa [banksmanref05_Copy.f] using this
theorem rinstall_f {l : List S25} {a : Int} {b : Bool} {c : List Int} {k : Nat} (h : small l) (hl : l.length ≤ 900) (hc : c.length ≤ 1000) (hk : 1004 ≤ k) : banksmanref05_Install.f k l a b c = some (ins l ⟨a, b, c⟩) := by
  unfold banksmanref05_Install.f ins
  obtain ⟨k, rfl⟩ : ∃ m, k = m + 2 := ⟨k - 2, by omega⟩
  have hln := h.1
  rw [rcheck_f h.1 (by omega), Option.bind_some, rmay_f3, Option.bind_some]
  by_cases hch : chk 0 l = true
  · rw [if_pos hch]
    cases hm : mayB ⟨a, b, c⟩ with
    | false =>
      simp only [banksmanref05_Install.j0, Bool.not_false]
      rw [if_pos True.intro, copy_f h (by omega), if_neg (by simp)]; rfl
    | true =>
      have ha : 1 ≤ a := (mayB_pos hm).1
      rw [if_pos ⟨hch, rfl⟩]
      simp only [banksmanref05_Install.j0, Bool.not_true]
      rw [if_neg (by decide)]
      by_cases hp : (l.length : Int) > 0
      · have e1 : wrap64 ((l.length : Int) - 1) = ((l.length - 1 : Nat) : Int) := by rw [w64 (by omega) (by omega)]; omega
        rw [if_pos hp, e1, if_pos (by omega), if_pos (by omega), last_rd (by omega)]
        simp only [banksmanref05_Install.j1]
        by_cases hg : lastf 0 l ≥ a
        · rw [if_pos hg, decide_eq_true hg, if_pos rfl, copy_f h (by omega)]; rfl
        · rw [if_neg hg, decide_eq_false hg, if_neg (by decide), Option.bind_some, if_pos (by simp; omega), Option.bind_some, Option.bind_some, if_pos (by simp; omega), List.nil_append, copy_f (small_app h hl hc) (by omega)]; rfl
      · have : l = [] := List.eq_nil_of_length_eq_zero (by omega)
        subst this
        simp only [banksmanref05_Install.j1]
        rw [if_neg hp, if_neg (by decide), if_neg (by simp only [lastf]; omega), Option.bind_some, if_pos (by simp), Option.bind_some, Option.bind_some, if_pos (by simp), List.nil_append, copy_f (small_app h hl hc) (by omega)]; rfl
  · rw [if_neg hch, if_neg (by simp [hch])]
    simp only [banksmanref05_Install.j0]
    rw [if_pos True.intro, copy_f h (by omega)]; rfl
theorem rvacuum_f {l : List S25} {s : Int} {k : Nat} (h : small l) (hk : 1001 ≤ k) : banksmanref05_Vacuum.f k l s = some (vac l s) := by
  unfold banksmanref05_Vacuum.f vac
  rw [rcheck_f h.1 hk, Option.bind_some]
  by_cases hc : chk 0 l = true
  · rw [if_pos hc, if_pos hc, at_f h.1 hk, Option.bind_some, at_chk s hc]
    have hle := tw_len l s
    have h1 := h.1
    by_cases hp : 0 < (tw l s).length
    · obtain ⟨A', a, e, hg, hi, hd1, hd0⟩ := tw_last (l := l) (s := s) hp
      have e1 : ((tw l s).length : Int) - 1 = (((tw l s).length - 1 : Nat) : Int) := by omega
      have e3 : wrap64 ((((tw l s).length - 1 : Nat) : Int) + 1) = ((tw l s).length : Int) := by rw [w64 (by omega) (by omega)]; omega
      have hlt : (tw l s).length - 1 < l.length := by omega
      have e2 : rd_T25 l (((tw l s).length - 1 : Nat) : Int) = a := by rw [rdT hlt]; rw [List.getElem?_eq_getElem hlt] at hi; exact Option.some.inj hi
      rw [if_neg (by omega), e1, if_pos (by omega), if_pos (by omega), e2, hg, e3, Int.toNat_natCast, Int.toNat_natCast, hd1, hd0]
      by_cases ha : a.f1 = true
      · rw [if_pos ha, if_pos (by omega), if_pos (by omega), copy_f (by rw [← hd0]; exact small_drop h _) hk]; simp [ha]
      · rw [if_neg ha, if_pos (by omega), copy_f (by rw [← hd1]; exact small_drop h _) hk]; simp [ha]
    · have e : tw l s = [] := List.eq_nil_of_length_eq_zero (by omega)
      rw [if_pos (by omega), copy_f h hk, e]
      rfl
  · rw [if_neg hc, if_neg hc, copy_f h hk]; rfl
theorem rnewer_f {l : List S25} {s : Int} {k : Nat} (h : small l) (hk : 1001 ≤ k) : banksmanref05_Newer.f k l s = some (newr l s) := by
  unfold banksmanref05_Newer.f newr
  have h1 := h.1
  rw [rcheck_f h.1 hk, Option.bind_some]
  by_cases hc : chk 0 l = true
  · rw [if_pos hc, hc]
    by_cases hp : (l.length : Int) > 0
    · have e1 : wrap64 ((l.length : Int) - 1) = ((l.length - 1 : Nat) : Int) := by rw [w64 (by omega) (by omega)]; omega
      rw [if_pos hp, e1, if_pos (by omega), if_pos (by omega), last_rd (by omega)]
      obtain ⟨A, B, e, hA, hB, hle, hgt, -, -⟩ := cut s hc
      rw [hB]
      cases B with
      | nil =>
        rw [List.append_nil] at e
        rcases List.eq_nil_or_concat A with eA | ⟨A', a, eA⟩
        · rw [e, eA] at hp; simp at hp
        · rw [List.concat_eq_append] at eA
          have := hle a (by rw [eA]; simp)
          rw [decide_eq_false (by rw [e, eA, lastf_snoc]; omega)]; rfl
      | cons x t =>
        have h2 := hgt x (by simp)
        have h3 := mem_le_last hc (x := x) (by rw [e]; simp)
        rw [decide_eq_true (by omega)]; rfl
    · have : l = [] := List.eq_nil_of_length_eq_zero (by omega)
      rw [if_neg hp, this]; rfl
  · rw [if_neg hc]; simp [hc]
end Go.Proofs.Ytdkfahobgnmglaa.Pure
