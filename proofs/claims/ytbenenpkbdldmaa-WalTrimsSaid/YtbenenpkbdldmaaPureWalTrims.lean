/- Proved: the law WalTrims of banksmanlaw04 returns true for every input: a log that is trimmed has the same texts, and nothing behind them. No conditions. -/
import Derived.Test.YtbenenpkbdldmaaLem04
import Derived.Test.YtbenenpkbdldmaaPx36
namespace Go.Proofs.Ytbenenpkbdldmaa.Pure
open Go.RowKit Go.Proofs.Ytbenenpkbdldmaa.P Go.Proofs.YtbenenpkbdldmaaW.PrintWords Go.Proofs.YtbenenpkbdldmaaW.PrintLast
set_option linter.unusedVariables false
set_option linter.unusedSimpArgs false

theorem trims_l0 (ts : List (List Int)) (hts : ts.length < 100000) (l e : List Int) (s1 : Int) (hok : okLog e.length s1 = true) (hle : e.length ≤ l.length) (p : List Int) (q : Int) : ∀ (d k n : Nat), n + d = ts.length → d + 1 ≤ k →
    banksmanlaw04_WalTrims.l0 k true ts ts ts (n : Int) l q e s1 e s1 l (l.length : Int) = some true := by
  intro d
  induction d with
  | zero =>
    intro k n hn hk
    obtain ⟨k, rfl⟩ : ∃ m, k = m + 1 := ⟨k - 1, by omega⟩
    rw [banksmanlaw04_WalTrims.l0, if_neg (by omega), if_pos rfl, wal_Check_f, Option.bind_some, hok, if_pos rfl, if_pos rfl, if_pos rfl, if_pos rfl, if_pos rfl]
    simp
    omega
  | succ d ih =>
    intro k n hn hk
    obtain ⟨k, rfl⟩ : ∃ m, k = m + 1 := ⟨k - 1, by omega⟩
    have e2 : (n : Int) + 1 = ((n + 1 : Nat) : Int) := by omega
    rw [banksmanlaw04_WalTrims.l0, if_pos (by omega), if_pos (by omega), if_pos (by omega), if_pos rfl, if_pos (by omega), if_pos rfl, w64 (by omega) (by omega), e2]
    exact ih k (n + 1) (by omega) (by omega)
theorem WalTrims : banksmanlaw04_WalTrims.Pure := by
  intro l s kp hl hs hk
  have hob := okb_of hl.2
  refine ⟨4000, ?_⟩
  unfold banksmanlaw04_WalTrims.f
  rw [banksmanlaw04_awake.settled, Option.bind_some]
  by_cases h : (l.length : Int) > 2000
  · rw [if_pos h]
    simp only [banksmanlaw04_WalTrims.j0, if_true]
  rw [if_neg h, wal_Check_f, Option.bind_some]
  cases hok : okLog l.length s with
  | false =>
    simp only [banksmanlaw04_WalTrims.j0]
    rfl
  | true =>
    obtain ⟨h1, h2, h3⟩ := (okLog_iff _ _).mp hok
    obtain ⟨ts, r, hF, hbr, hr⟩ := split_all l.length l (Nat.le_refl _) hob
    have hro : okb r = true := by rw [hbr, okb_append, Bool.and_eq_true] at hob; exact hob.2
    have hlen : l.length = (encF ts).length + r.length := by rw [hbr, List.length_append]
    have hge := encF_ge ts
    have hmn : 0 ≤ mn s ((encF ts).length : Int) ∧ mn s ((encF ts).length : Int) ≤ ((encF ts).length : Int) := by unfold mn; split <;> omega
    have hokt : okLog (encF ts).length (mn s ((encF ts).length : Int)) = true := (okLog_iff _ _).mpr ⟨by omega, hmn.1, hmn.2⟩
    have t1 : wal_Trim.f l s = some (encF ts, mn s ((encF ts).length : Int)) := by rw [hbr]; exact trim_f hF hro hr (by rw [← hbr]; exact hok)
    have t2 : wal_Trim.f (encF ts) (mn s ((encF ts).length : Int)) = some (encF ts, mn s ((encF ts).length : Int)) := by
      have := trim_f (s := mn s ((encF ts).length : Int)) hF (r := []) rfl rdP_nil (by rw [List.append_nil]; exact hokt)
      rw [List.append_nil] at this
      have e : mn (mn s ((encF ts).length : Int)) ((encF ts).length : Int) = mn s ((encF ts).length : Int) := by generalize mn s ((encF ts).length : Int) = z at hmn; unfold mn; split <;> omega
      rw [e] at this
      exact this
    have hokl : okLog l.length (l.length : Int) = true := (okLog_iff _ _).mpr ⟨h1, by omega, by omega⟩
    have hm : mn (mx kp (l.length : Int)) (l.length : Int) = (l.length : Int) := by unfold mn mx; (repeat' split) <;> omega
    have c1 : wal_Crash.f l (l.length : Int) kp = some (l, (l.length : Int)) := by rw [crash_f kp hokl, hm, Int.toNat_natCast, List.take_length]
    have x1 : wal_Texts.f l s = some ts := by rw [hbr]; exact texts_f hF hro hr (by rw [← hbr]; exact hok)
    have x2 : wal_Texts.f (encF ts) (mn s ((encF ts).length : Int)) = some ts := by
      have := texts_f (s := mn s ((encF ts).length : Int)) hF (r := []) rfl rdP_nil (by rw [List.append_nil]; exact hokt)
      rw [List.append_nil] at this
      exact this
    have x3 : wal_Texts.f l (l.length : Int) = some ts := by
      have := texts_f (s := (l.length : Int)) hF hro hr (by rw [← hbr]; exact hokl)
      rw [← hbr] at this
      exact this
    simp only [banksmanlaw04_WalTrims.j0]
    rw [if_neg (by decide), t1, Option.bind_some]
    dsimp only
    rw [t2, Option.bind_some, sync_f hok, Option.bind_some]
    dsimp only
    rw [c1, Option.bind_some, x1, Option.bind_some, x2, Option.bind_some]
    dsimp only
    rw [x3, Option.bind_some, if_pos rfl]
    have hb : ((ts.length : Int) != (ts.length : Int)) = false := by simp
    rw [hb]
    simp only [banksmanlaw04_WalTrims.j1]
    rw [if_neg (by decide)]
    exact trims_l0 ts (by omega) l (encF ts) _ hokt (by omega) l s ts.length _ 0 (by omega) (by omega)
end Go.Proofs.Ytbenenpkbdldmaa.Pure
