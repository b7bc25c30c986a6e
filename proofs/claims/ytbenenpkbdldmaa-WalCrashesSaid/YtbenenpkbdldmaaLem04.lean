import Derived.Test.YtbenenpkbdldmaaLemA04
import Derived.Test.YtbenenpkbdldmaaPx22
import Derived.Test.YtbenenpkbdldmaaPx28
import Derived.Test.YtbenenpkbdldmaaPx29
import Derived.Test.YtbenenpkbdldmaaPx30
import Derived.Test.YtbenenpkbdldmaaPx27
namespace Go.Proofs.Ytbenenpkbdldmaa.Pure
open Go.RowKit Go.Proofs.Ytbenenpkbdldmaa.P Go.Proofs.YtbenenpkbdldmaaW.PrintWords Go.Proofs.YtbenenpkbdldmaaW.PrintLast
set_option linter.unusedVariables false
set_option linter.unusedSimpArgs false

theorem okLog_iff (n : Nat) (s : Int) : okLog n s = true ↔ n ≤ 20000 ∧ 0 ≤ s ∧ s ≤ (n : Int) := by
  unfold okLog
  simp only [Bool.and_eq_true, decide_eq_true_eq]
  omega
theorem sync_f {l : List Int} {s : Int} (h : okLog l.length s = true) : wal_Sync.f l s = some (l, (l.length : Int)) := by
  have := (okLog_iff _ _).mp h
  unfold wal_Sync.f
  rw [if_pos (by omega), if_pos h]
theorem trim_f {ts : List (List Int)} {r : List Int} {s : Int} (hF : FrL ts) (hro : okb r = true) (hr : (rdP r).2.2 ≠ 0) (h : okLog (encF ts ++ r).length s = true) : wal_Trim.f (encF ts ++ r) s = some (encF ts, mn s ((encF ts).length : Int)) := by
  have h2 := (okLog_iff _ _).mp h
  have hlen : (encF ts ++ r).length = (encF ts).length + r.length := List.length_append
  unfold wal_Trim.f
  rw [if_pos (by omega), if_pos h, all_f hF hro (by omega) hr, Option.bind_some]
  dsimp only
  rw [if_pos ⟨by omega, by omega⟩, Int.toNat_natCast]
  congr 2
  simp
theorem texts_f {ts : List (List Int)} {r : List Int} {s : Int} (hF : FrL ts) (hro : okb r = true) (hr : (rdP r).2.2 ≠ 0) (h : okLog (encF ts ++ r).length s = true) : wal_Texts.f (encF ts ++ r) s = some ts := by
  have h2 := (okLog_iff _ _).mp h
  unfold wal_Texts.f
  rw [if_pos (by omega), if_pos h, all_f hF hro (by omega) hr]
  rfl
theorem crash_f {l : List Int} {s : Int} (k : Int) (h : okLog l.length s = true) : wal_Crash.f l s k = some (l.take (mn (mx k s) (l.length : Int)).toNat, mn (mx k s) (l.length : Int)) := by
  have h2 := (okLog_iff _ _).mp h
  unfold wal_Crash.f
  rw [if_pos (by omega), if_pos h]
theorem appAll_f : ∀ (ts : List (List Int)) (acc : List Int), FrL ts → acc.length + (encF ts).length < 1000000 → appAll ts acc = some (acc ++ encF ts, 0) := by
  intro ts
  induction ts with
  | nil => intro acc _ _; rw [appAll, encF, List.append_nil]
  | cons t ts ih =>
    intro acc hF hl
    rw [encF, List.length_append] at hl
    rw [appAll, write_ok (hF t (by simp)), Option.bind_some]
    dsimp only
    rw [if_pos rfl, if_pos (by omega), ih _ (fun x hx => hF x (by simp [hx])) (by rw [List.length_append]; omega), encF, List.append_assoc]
theorem append_f {l : List Int} {s : Int} {ts : List (List Int)} (h : okLog l.length s = true) (hF : FrL ts) (hl : l.length + (encF ts).length ≤ 20000) : wal_Append.f l s ts = some (l ++ encF ts, s, 0) := by
  have h2 := (okLog_iff _ _).mp h
  unfold wal_Append.f
  rw [if_pos (by omega), if_pos h, appAll_f ts [] hF (by simp; omega), Option.bind_some, List.nil_append]
  dsimp only
  rw [if_pos rfl, if_neg (by omega)]
end Go.Proofs.Ytbenenpkbdldmaa.Pure
