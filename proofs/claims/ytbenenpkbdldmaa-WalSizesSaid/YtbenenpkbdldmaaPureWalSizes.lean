/- Proved: the law WalSizes of banksmanlaw04 returns true for every input: a log grows by the bytes of the frames that are put behind it. No conditions. -/
import Derived.Test.YtbenenpkbdldmaaLem04
import Derived.Test.YtbenenpkbdldmaaPx37
namespace Go.Proofs.Ytbenenpkbdldmaa.Pure
open Go.RowKit Go.Proofs.Ytbenenpkbdldmaa.P Go.Proofs.YtbenenpkbdldmaaW.PrintWords Go.Proofs.YtbenenpkbdldmaaW.PrintLast
set_option linter.unusedVariables false
set_option linter.unusedSimpArgs false

theorem frame_small {t : List Int} (h : t.length ≤ 100) : (frameP t).length = 1 + t.length + 4 := by
  have e : octBytes 5 (t.length : Int) = [(t.length : Int)] := by
    rw [octBytes, if_neg (by omega)]
  rw [frameP_len, e]
  rfl
def Tiny (l : List (List Int)) : Prop := ∀ t ∈ l, t.length ≤ 100 ∧ okb t = true
theorem Tiny.fr {l : List (List Int)} (h : Tiny l) : FrL l := fun t ht => ⟨by have := (h t ht).1; omega, (h t ht).2⟩
theorem tiny_len : ∀ {l : List (List Int)}, Tiny l → (encF l).length ≤ 105 * l.length := by
  intro l
  induction l with
  | nil => intro _; simp [encF]
  | cons t l ih =>
    intro h
    have := ih (fun x hx => h x (by simp [hx]))
    have h1 := (h t (by simp)).1
    have h2 := frame_small h1
    rw [encF, List.length_append, List.length_cons]
    omega
theorem tiny_snoc {l : List (List Int)} {t : List Int} (h : Tiny l) (h1 : t.length ≤ 100) (h2 : okb t = true) : Tiny (l ++ [t]) := by
  intro x hx
  rcases List.mem_append.mp hx with hx | hx
  · exact h x hx
  · have e : x = t := by simpa using hx
    subst e
    exact ⟨h1, h2⟩
theorem rd_app2 (a b : List (List Int)) (i : Nat) : rd_L1 (a ++ b) ((a.length + i : Nat) : Int) = rd_L1 b (i : Int) := by
  unfold rd_L1
  rw [Int.toNat_natCast, Int.toNat_natCast, List.getD_eq_getElem?_getD, List.getD_eq_getElem?_getD, List.getElem?_append_right (by omega)]
  congr 2
  omega
theorem sizes_l1 (ts xs : List (List Int)) (hts : ts.length < 100000) (hxs : xs.length ≤ 20) (m : List Int) (s : Int) (hok : okLog m.length s = true) : ∀ (d k n : Nat), n + d = xs.length → d + 1 ≤ k →
    banksmanlaw04_WalSizes.l1 k xs true ts (ts ++ xs) (n : Int) m s = some true := by
  intro d
  induction d with
  | zero =>
    intro k n hn hk
    obtain ⟨k, rfl⟩ : ∃ q, k = q + 1 := ⟨k - 1, by omega⟩
    rw [banksmanlaw04_WalSizes.l1, if_neg (by omega), if_pos rfl, wal_Check_f, Option.bind_some, hok]
  | succ d ih =>
    intro k n hn hk
    obtain ⟨k, rfl⟩ : ∃ q, k = q + 1 := ⟨k - 1, by omega⟩
    have e1 : wrap64 ((ts.length : Int) + (n : Int)) = ((ts.length + n : Nat) : Int) := by rw [w64 (by omega) (by omega)]; omega
    have e2 : (n : Int) + 1 = ((n + 1 : Nat) : Int) := by omega
    have hl : (ts ++ xs).length = ts.length + xs.length := List.length_append
    rw [banksmanlaw04_WalSizes.l1, if_pos (by omega), e1, if_pos (by omega), if_pos (by omega), if_pos (by omega), rd_app2, if_pos rfl, w64 (by omega) (by omega), e2]
    exact ih k (n + 1) (by omega) (by omega)
theorem sizes_l0 (ts : List (List Int)) (hF : FrL ts) (s : Int) (hok : okLog (encF ts).length s = true) (hlt : (encF ts).length ≤ 2000) : ∀ (suf pre : List (List Int)) (k : Nat), (∀ t ∈ pre ++ suf, okb t = true) → Tiny pre → (pre ++ suf).length ≤ 20 → suf.length + 60 ≤ k →
    banksmanlaw04_WalSizes.l0 k (pre ++ suf) true (((encF ts).length + (encF pre).length : Nat) : Int) (pre.length : Int) (encF ts) s = some true := by
  have hge := encF_ge ts
  intro suf
  induction suf with
  | nil =>
    intro pre k hob hT hl hk
    obtain ⟨k, rfl⟩ : ∃ q, k = q + 1 := ⟨k - 1, by omega⟩
    obtain ⟨h1, h2, h3⟩ := (okLog_iff _ _).mp hok
    have htl := tiny_len hT
    rw [List.append_nil] at hl ⊢
    have a1 := append_f hok hT.fr (by omega)
    have hokm : okLog (encF ts ++ encF pre).length s = true := (okLog_iff _ _).mpr ⟨by rw [List.length_append]; omega, h2, by rw [List.length_append]; omega⟩
    have x1 : wal_Texts.f (encF ts) s = some ts := by
      have := texts_f (s := s) hF (r := []) rfl rdP_nil (by rw [List.append_nil]; exact hok)
      rw [List.append_nil] at this
      exact this
    have x2 : wal_Texts.f (encF ts ++ encF pre) s = some (ts ++ pre) := by
      have hFa : FrL (ts ++ pre) := fun t ht => by
        rcases List.mem_append.mp ht with ht | ht
        · exact hF t ht
        · exact hT.fr t ht
      have := texts_f (s := s) hFa (r := []) rfl rdP_nil (by rw [List.append_nil, encF_app]; exact hokm)
      rw [List.append_nil, encF_app] at this
      exact this
    have hb : (s != s) = false := by simp
    have e3 : wrap64 ((ts.length : Int) + (pre.length : Int)) = (((ts ++ pre).length : Nat) : Int) := by rw [w64 (by omega) (by omega), List.length_append]; omega
    obtain ⟨k, rfl⟩ : ∃ q, k = q + 1 := ⟨k - 1, by simp at hk; omega⟩
    rw [banksmanlaw04_WalSizes.l0, if_neg (by omega), a1, Option.bind_some, x1, Option.bind_some]
    dsimp only
    rw [x2, Option.bind_some, if_pos rfl, e3, if_pos rfl, if_pos (by rw [List.length_append]), hb, banksmanlaw04_WalSizes.j2, if_neg (by decide)]
    exact sizes_l1 ts pre (by omega) hl _ s hokm pre.length _ 0 (by omega) (by simp at hk; omega)
  | cons t suf ih =>
    intro pre k hob hT hl hk
    obtain ⟨k, rfl⟩ : ∃ q, k = q + 1 := ⟨k - 1, by omega⟩
    have hll : (pre ++ t :: suf).length = pre.length + 1 + suf.length := by simp; omega
    have hcut : pre ++ t :: suf = (pre ++ [t]) ++ suf := by simp
    have htl := tiny_len hT
    have hrd : rd_L1 (pre ++ t :: suf) (pre.length : Int) = t := rdL pre suf t
    rw [banksmanlaw04_WalSizes.l0, if_pos (by omega), if_pos (by omega), hrd]
    by_cases h3 : (t.length : Int) > 100
    · rw [if_pos h3]
    · have hto := hob t (by simp)
      have hfs := frame_small (t := t) (by omega)
      have ef : (encF (pre ++ [t])).length = (encF pre).length + (frameP t).length := by rw [encF_app, List.length_append, encF, encF, List.append_nil]
      have e1 : wrap64 ((wrap64 ((wrap64 ((((encF ts).length + (encF pre).length : Nat) : Int) + 1)) + (t.length : Int))) + 4) = (((encF ts).length + (encF (pre ++ [t])).length : Nat) : Int) := by
        rw [w64 (x := (((encF ts).length + (encF pre).length : Nat) : Int) + 1) (by omega) (by omega), w64 (x := (((encF ts).length + (encF pre).length : Nat) : Int) + 1 + (t.length : Int)) (by omega) (by omega), w64 (by omega) (by omega), ef, hfs]
        omega
      have e2 : (pre.length : Int) + 1 = ((pre ++ [t]).length : Int) := by simp
      rw [if_neg h3, e1, w64 (by omega) (by omega), e2, hcut]
      exact ih (pre ++ [t]) k (by rw [← hcut]; exact hob) (tiny_snoc hT (by omega) hto) (by rw [← hcut]; exact hl) (by simp at hk; omega)
theorem WalSizes : banksmanlaw04_WalSizes.Pure := by
  intro l s xs hl hs hx
  have hob := okb_of hl.2
  refine ⟨200, ?_⟩
  unfold banksmanlaw04_WalSizes.f
  rw [banksmanlaw04_awake.settled, Option.bind_some]
  by_cases h : (l.length : Int) > 2000
  · rw [if_pos h]
    simp only [banksmanlaw04_WalSizes.j0, if_true]
  rw [if_neg h]
  by_cases h2 : (xs.length : Int) > 20
  · rw [if_pos h2]
    simp only [banksmanlaw04_WalSizes.j0, if_true]
  rw [if_neg h2, wal_Check_f, Option.bind_some]
  cases hok : okLog l.length s with
  | false =>
    simp only [banksmanlaw04_WalSizes.j0]
    rfl
  | true =>
    obtain ⟨h1, h2', h3⟩ := (okLog_iff _ _).mp hok
    obtain ⟨ts, r, hF, hbr, hr⟩ := split_all l.length l (Nat.le_refl _) hob
    have hro : okb r = true := by rw [hbr, okb_append, Bool.and_eq_true] at hob; exact hob.2
    have hlen : l.length = (encF ts).length + r.length := by rw [hbr, List.length_append]
    have hmn : 0 ≤ mn s ((encF ts).length : Int) ∧ mn s ((encF ts).length : Int) ≤ ((encF ts).length : Int) := by unfold mn; split <;> omega
    have hokt : okLog (encF ts).length (mn s ((encF ts).length : Int)) = true := (okLog_iff _ _).mpr ⟨by omega, hmn.1, hmn.2⟩
    have t1 : wal_Trim.f l s = some (encF ts, mn s ((encF ts).length : Int)) := by rw [hbr]; exact trim_f hF hro hr (by rw [← hbr]; exact hok)
    simp only [banksmanlaw04_WalSizes.j0]
    rw [if_neg (by decide), t1, Option.bind_some]
    dsimp only
    exact sizes_l0 ts hF _ hokt (by omega) xs [] _ (fun t ht => okb_of (hx.2 t ht).2) (fun t ht => by simp at ht) (by simp; omega) (by omega)
end Go.Proofs.Ytbenenpkbdldmaa.Pure
