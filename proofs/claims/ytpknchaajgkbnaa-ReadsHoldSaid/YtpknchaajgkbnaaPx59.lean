-- Written by wip/gprint.py, a program of this session over the kit's print; Lean checks it.
import Derived.Test.YtpknchaajgkbnaaPx0
import Derived.Test.YtpknchaajgkbnaaPx55
import Derived.Test.YtpknchaajgkbnaaPx56
namespace Go.Proofs.Ytpknchaajgkbnaa.P
open Go.RowKit Go.Proofs.YtpknchaajgkbnaaW.PrintWords Go.Proofs.YtpknchaajgkbnaaW.PrintLast Go.Proofs.YtpknchaajgkbnaaW.PrintMore
attribute [local go_sem] max2_int min2_int max_two min_two max_three min_three max_four min_four   -- for this text's walks alone
set_option linter.unusedVariables false
set_option linter.unusedSimpArgs false

/-GIVEN banksmanlaw13_few-/
/-! ### banksmanlaw13_few: function 10 -/
def banksmanlaw13_few.f (k : Nat) (l0 : List (S38)) (l1 : List (S46)) (l2 : List (S46)) : Option (Bool) := (banksmanref10_Few.f k l0).bind fun a => if a = true then (banksmanref08_Few.f k l1 ([] : List Int)).bind fun b => (if b = true then banksmanref08_Few.f k l2 ([] : List Int) else some false) else some false
set_option maxHeartbeats 8000000 in
set_option maxRecDepth 100000 in
theorem banksmanlaw13_few.calls (k : Nat) (A0 : Option Addr) (c0 : Nat) (l0 : List (S38)) (A1 : Option Addr) (c1 : Nat) (l1 : List (S46)) (A2 : Option Addr) (c2 : Nat) (l2 : List (S46)) (r : Bool) (w : World) (hr0 : Kd.C k38 w A0 l0.length l0) (hc0 : l0.length ≤ c0) (hr1 : Kd.C k46 w A1 l1.length l1) (hc1 : l1.length ≤ c1) (hr2 : Kd.C k46 w A2 l2.length l2) (hc2 : l2.length ≤ c2) (h : banksmanlaw13_few.f k l0 l1 l2 = some r) :
    Calls Try.prog 10 #[.slice A0 l0.length c0, .slice A1 l1.length c1, .slice A2 l2.length c2] w fun e w' => e = .returned (.bool r) ∧ Below w.heap.size w w' := by
  unfold banksmanlaw13_few.f at h
  obtain ⟨a, ha, h⟩ := Option.bind_eq_some_iff.mp h
  have hn : ∀ W : World, Kd.C (Kd.int .i64) W none ([] : List Int).length [] := fun W => ⟨rfl, by simp, fun h => absurd h (by simp)⟩
  have HF0 := Aside0.mk (show ∀ W, Below w.heap.size w W → Calls Try.prog 15 #[.slice A0 l0.length c0] W fun e w' => e = .returned (.bool a) ∧ Below w.heap.size w w' from fun W hb => (banksmanref10_Few.calls k A0 c0 l0 a W (Kd.C_below hr0 hb) hc0 ha).mono fun e w' hh => ⟨hh.1, by obtain ⟨_, nd, rfl⟩ := hh; exact pw_below_drewN hb _⟩)
  cases a with
  | false =>
    obtain rfl := Option.some.inj h
    clear h ha hr0 hr1 hr2
    go_enter Try.func10, Try.ntmps10
    go_wp2_with (go_at_call 15; (with_reducible refine (HF0.out _ (Below.refl _ _)).mono ?_); rintro e w1 ⟨rfl, hb⟩; have HB1 := Aside0.mk hb; clear hb)
    go_ret
    exact ⟨rfl, HB1.out⟩
  | true =>
  obtain ⟨b, hb0, h⟩ := Option.bind_eq_some_iff.mp h
  have HF1 := Aside0.mk (show ∀ W, Below w.heap.size w W → Calls Try.prog 16 #[.agg #[.slice A1 l1.length c1, .slice none 0 0]] W fun e w' => e = .returned (.bool b) ∧ Below w.heap.size w w' from fun W hb => (banksmanref08_Few.calls k A1 c1 l1 none 0 [] b W (Kd.C_below hr1 hb) hc1 (hn W) (Nat.le_refl _) hb0).mono fun e w' hh => ⟨hh.1, below_step hb hh.2⟩)
  cases b with
  | false =>
    obtain rfl := Option.some.inj h
    clear h ha hb0 hr0 hr1 hr2 hn
    go_enter Try.func10, Try.ntmps10
    go_wp2_with (first | (go_at_call 15; (with_reducible refine (HF0.out _ (Below.refl _ _)).mono ?_); rintro e w1 ⟨rfl, hb⟩; have HB1 := Aside0.mk hb; clear hb) | (go_at_call 16; (with_reducible refine (HF1.out _ HB1.out).mono ?_); rintro e w2 ⟨rfl, hb⟩; have HB2 := Aside0.mk hb; clear hb))
    go_ret
    exact ⟨rfl, HB2.out⟩
  | true =>
  have HF2 := Aside0.mk (show ∀ W, Below w.heap.size w W → Calls Try.prog 16 #[.agg #[.slice A2 l2.length c2, .slice none 0 0]] W fun e w' => e = .returned (.bool r) ∧ Below w.heap.size w w' from fun W hb => (banksmanref08_Few.calls k A2 c2 l2 none 0 [] r W (Kd.C_below hr2 hb) hc2 (hn W) (Nat.le_refl _) h).mono fun e w' hh => ⟨hh.1, below_step hb hh.2⟩)
  clear h ha hb0 hr0 hr1 hr2 hn
  go_enter Try.func10, Try.ntmps10
  go_wp2_with (first | (go_at_call 15; (with_reducible refine (HF0.out _ (Below.refl _ _)).mono ?_); rintro e w1 ⟨rfl, hb⟩; have HB1 := Aside0.mk hb; clear hb) | (go_at_call 16; (with_reducible refine (HF1.out _ HB1.out).mono ?_); rintro e w2 ⟨rfl, hb⟩; have HB2 := Aside0.mk hb; clear hb) | (go_at_call 16; (with_reducible refine (HF2.out _ HB2.out).mono ?_); rintro e w3 ⟨rfl, hb⟩; have HB3 := Aside0.mk hb; clear hb))
  go_ret
  exact ⟨rfl, HB3.out⟩

end Go.Proofs.Ytpknchaajgkbnaa.P
