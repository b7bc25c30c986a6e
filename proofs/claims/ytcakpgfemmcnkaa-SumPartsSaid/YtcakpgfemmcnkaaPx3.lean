-- Written by wip/gprint.py, a program of this session over the kit's print; Lean checks it.
import Derived.Test.YtcakpgfemmcnkaaPx0
import Derived.Test.YtcakpgfemmcnkaaPx1
import Derived.Test.YtcakpgfemmcnkaaPx2
namespace Go.Proofs.Ytcakpgfemmcnkaa.P
open Go.RowKit Go.Proofs.YtcakpgfemmcnkaaW.PrintWords Go.Proofs.YtcakpgfemmcnkaaW.PrintLast Go.Proofs.YtcakpgfemmcnkaaW.PrintMore
attribute [local go_sem] max2_int min2_int max_two min_two max_three min_three max_four min_four   -- for this text's walks alone
set_option linter.unusedVariables false
set_option linter.unusedSimpArgs false

/-GIVEN sum_Join-/
/-! ### sum_Join: function 10 -/
def joinOf (a0 a1 a2 : Int) : Int × Int :=
  if a2 < 0 then (0, 1) else if 2147483647 < a2 then (0, 1) else
  if 65535 ≤ a0 % 65536 then (0, 1) else if 65535 ≤ a0 / 65536 then (0, 1) else
  if 65535 ≤ a1 % 65536 then (0, 1) else if 65535 ≤ a1 / 65536 then (0, 1) else
  ((a0 / 65536 + a1 / 65536 + a2 * (a0 % 65536)) % 65535 * 65536 + (a0 % 65536 + a1 % 65536) % 65535, 0)
def inU32 (a : Int) : Bool := decide (0 ≤ a) && decide (a ≤ 4294967295)
def sum_Join.f (a0 : Int) (a1 : Int) (a2 : Int) : Option (Int × Int) := if (inU32 a0 && inU32 a1) = true then some (joinOf a0 a1 a2) else none
theorem u32_and (x : Int) (h0 : 0 ≤ x) (h1 : x ≤ 4294967295) : Go.bits .and .u32 x 65535 = x % 65536 :=
  bits_mask .u32 32 (by decide) wraps_u32' 16 (by decide) x h0 (by omega)
theorem mul_bd (a b : Int) (ha : 0 ≤ a) (ha1 : a ≤ 2147483647) (hb : 0 ≤ b) (hb1 : b ≤ 65534) : 0 ≤ a * b ∧ a * b ≤ 140735340871680 := by
  constructor
  · exact Int.mul_nonneg ha hb
  · have h1 : a * b ≤ 2147483647 * b := Int.mul_le_mul_of_nonneg_right ha1 hb
    omega
set_option maxHeartbeats 1000000 in
set_option maxRecDepth 100000 in
theorem sum_Join.n (a0 a1 a2 : Int) (w : World) (h0 : 0 ≤ a0) (h1 : a0 ≤ 4294967295) (h2 : 0 ≤ a1) (h3 : a1 ≤ 4294967295) (h : a2 < 0 ∨ 2147483647 < a2) : Calls Try.prog 10 #[.int .u32 a0, .int .u32 a1, .int .i64 a2] w fun e w' => e = .returned (.tuple #[.int .u32 0, .int .i64 1]) ∧ Below w.heap.size w w' := by
  rcases h with h | h
  · have d0 : decide (a2 < 0) = true := decide_eq_true h
    clear h
    go_enter Try.func10, Try.ntmps10
    go_wp2
    go_ret2
    exact ⟨rfl, Below.refl _ _⟩
  · have d0 : decide (a2 < 0) = false := decide_eq_false (by omega)
    have d1 : decide (2147483647 < a2) = true := decide_eq_true h
    clear h
    go_enter Try.func10, Try.ntmps10
    go_wp2
    go_ret2
    exact ⟨rfl, Below.refl _ _⟩
set_option maxHeartbeats 1000000 in
set_option maxRecDepth 100000 in
theorem sum_Join.no1 (a0 a1 a2 : Int) (w : World) (h0 : 0 ≤ a0) (h1 : a0 ≤ 4294967295) (h2 : 0 ≤ a1) (h3 : a1 ≤ 4294967295) (h4 : 0 ≤ a2) (h5 : a2 ≤ 2147483647) (h : 65535 ≤ a0 % 65536 ∨ (a0 % 65536 < 65535 ∧ 65535 ≤ a0 / 65536)) : Calls Try.prog 10 #[.int .u32 a0, .int .u32 a1, .int .i64 a2] w fun e w' => e = .returned (.tuple #[.int .u32 0, .int .i64 1]) ∧ Below w.heap.size w w' := by
  have e0 := u32_and a0 h0 h1
  have i0 : ∀ w, (Instr.index 41 (.agg #[.int .u32 a0, .int .u32 a1]) (.int .i64 0)).run Try.prog w = .ok (.int .u32 a0) w := fun _ => by kernel_rfl
  have d0 : decide (a2 < 0) = false := decide_eq_false (by omega)
  have d1 : decide (2147483647 < a2) = false := decide_eq_false (by omega)
  rcases h with h | ⟨h, k⟩
  · have d2 : decide (65535 ≤ a0 % 65536) = true := decide_eq_true h
    clear h
    go_enter Try.func10, Try.ntmps10
    go_wp2
    refine wp_loop_rounds 1 ?_
    rw [rounds_succ]
    go_wp2
    go_ret2
    exact ⟨rfl, below_alloc (Below.refl _ _) _⟩
  · have d2 : decide (65535 ≤ a0 % 65536) = false := decide_eq_false (by omega)
    have d3 : decide (65535 ≤ a0 / 65536) = true := decide_eq_true k
    clear h k
    go_enter Try.func10, Try.ntmps10
    go_wp2
    refine wp_loop_rounds 1 ?_
    rw [rounds_succ]
    go_wp2
    go_ret2
    exact ⟨rfl, below_alloc (Below.refl _ _) _⟩
set_option maxHeartbeats 1000000 in
set_option maxRecDepth 100000 in
theorem sum_Join.no2 (a0 a1 a2 : Int) (w : World) (h0 : 0 ≤ a0) (h1 : a0 ≤ 4294967295) (h2 : 0 ≤ a1) (h3 : a1 ≤ 4294967295) (h4 : 0 ≤ a2) (h5 : a2 ≤ 2147483647) (k0 : a0 % 65536 < 65535) (k1 : a0 / 65536 < 65535) (h : 65535 ≤ a1 % 65536 ∨ (a1 % 65536 < 65535 ∧ 65535 ≤ a1 / 65536)) : Calls Try.prog 10 #[.int .u32 a0, .int .u32 a1, .int .i64 a2] w fun e w' => e = .returned (.tuple #[.int .u32 0, .int .i64 1]) ∧ Below w.heap.size w w' := by
  have e0 := u32_and a0 h0 h1
  have e1 := u32_and a1 h2 h3
  have i0 : ∀ w, (Instr.index 41 (.agg #[.int .u32 a0, .int .u32 a1]) (.int .i64 0)).run Try.prog w = .ok (.int .u32 a0) w := fun _ => by kernel_rfl
  have i1 : ∀ w, (Instr.index 41 (.agg #[.int .u32 a0, .int .u32 a1]) (.int .i64 1)).run Try.prog w = .ok (.int .u32 a1) w := fun _ => by kernel_rfl
  have d0 : decide (a2 < 0) = false := decide_eq_false (by omega)
  have d1 : decide (2147483647 < a2) = false := decide_eq_false (by omega)
  have d2 : decide (65535 ≤ a0 % 65536) = false := decide_eq_false (by omega)
  have d3 : decide (65535 ≤ a0 / 65536) = false := decide_eq_false (by omega)
  rcases h with h | ⟨h, k⟩
  · have d4 : decide (65535 ≤ a1 % 65536) = true := decide_eq_true h
    clear h
    go_enter Try.func10, Try.ntmps10
    go_wp2
    refine wp_loop_rounds 2 ?_
    rw [rounds_succ]
    go_wp2
    rw [rounds_succ]
    go_wp2
    go_ret2
    exact ⟨rfl, below_alloc (Below.refl _ _) _⟩
  · have d4 : decide (65535 ≤ a1 % 65536) = false := decide_eq_false (by omega)
    have d5 : decide (65535 ≤ a1 / 65536) = true := decide_eq_true k
    clear h k
    go_enter Try.func10, Try.ntmps10
    go_wp2
    refine wp_loop_rounds 2 ?_
    rw [rounds_succ]
    go_wp2
    rw [rounds_succ]
    go_wp2
    go_ret2
    exact ⟨rfl, below_alloc (Below.refl _ _) _⟩
set_option maxHeartbeats 2000000 in
set_option maxRecDepth 100000 in
theorem sum_Join.yes (a0 a1 a2 : Int) (w : World) (h0 : 0 ≤ a0) (h1 : a0 ≤ 4294967295) (h2 : 0 ≤ a1) (h3 : a1 ≤ 4294967295) (h4 : 0 ≤ a2) (h5 : a2 ≤ 2147483647) (k0 : a0 % 65536 < 65535) (k1 : a0 / 65536 < 65535) (k2 : a1 % 65536 < 65535) (k3 : a1 / 65536 < 65535) : Calls Try.prog 10 #[.int .u32 a0, .int .u32 a1, .int .i64 a2] w fun e w' => e = .returned (.tuple #[.int .u32 ((a0 / 65536 + a1 / 65536 + a2 * (a0 % 65536)) % 65535 * 65536 + (a0 % 65536 + a1 % 65536) % 65535), .int .i64 0]) ∧ Below w.heap.size w w' := by
  have e0 := u32_and a0 h0 h1
  have e1 := u32_and a1 h2 h3
  have i0 : ∀ w, (Instr.index 41 (.agg #[.int .u32 a0, .int .u32 a1]) (.int .i64 0)).run Try.prog w = .ok (.int .u32 a0) w := fun _ => by kernel_rfl
  have i1 : ∀ w, (Instr.index 41 (.agg #[.int .u32 a0, .int .u32 a1]) (.int .i64 1)).run Try.prog w = .ok (.int .u32 a1) w := fun _ => by kernel_rfl
  have d0 : decide (a2 < 0) = false := decide_eq_false (by omega)
  have d1 : decide (2147483647 < a2) = false := decide_eq_false (by omega)
  have d2 : decide (65535 ≤ a0 % 65536) = false := decide_eq_false (by omega)
  have d3 : decide (65535 ≤ a0 / 65536) = false := decide_eq_false (by omega)
  have d4 : decide (65535 ≤ a1 % 65536) = false := decide_eq_false (by omega)
  have d5 : decide (65535 ≤ a1 / 65536) = false := decide_eq_false (by omega)
  obtain ⟨m0, m1⟩ := mul_bd a2 (a0 % 65536) h4 h5 (by omega) (by omega)
  have HX := Aside0.mk (pair_or ((a0 % 65536 + a1 % 65536) % 65535) ((a0 / 65536 + a1 / 65536 + a2 * (a0 % 65536)) % 65535) (by omega) (by omega))
  go_enter Try.func10, Try.ntmps10
  go_wp2
  refine wp_loop_rounds 3 ?_
  rw [rounds_succ]
  go_wp2
  rw [rounds_succ]
  go_wp2
  rw [rounds_succ]
  go_wp2_with (go_at_call 14; refine (sum_pair_one.calls _ _ _ _ (congrArg some HX.out)).mono ?_; rintro e w1 ⟨rfl, hb⟩)
  go_ret2
  exact ⟨rfl, (below_alloc (Below.refl _ _) _).trans (hb.mono (by simp))⟩
set_option maxHeartbeats 1000000 in
set_option maxRecDepth 100000 in
theorem sum_Join.calls (a0 : Int) (a1 : Int) (a2 : Int) (r1 : Int) (r2 : Int) (w : World) (h : sum_Join.f a0 a1 a2 = some (r1, r2)) :
    Calls Try.prog 10 #[.int .u32 a0, .int .u32 a1, .int .i64 a2] w fun e w' => e = .returned (.tuple #[.int .u32 r1, .int .i64 r2]) ∧ Below w.heap.size w w' := by
  unfold sum_Join.f at h
  have hr : (inU32 a0 && inU32 a1) = true := Classical.byContradiction fun hn => by rw [if_neg hn] at h; cases h
  rw [if_pos hr] at h
  simp [inU32] at hr
  obtain ⟨⟨h0, h1⟩, h2, h3⟩ := hr
  have h := Option.some.inj h
  unfold joinOf at h
  split at h
  · cases h; exact sum_Join.n a0 a1 a2 w h0 h1 h2 h3 (.inl ‹_›)
  split at h
  · cases h; exact sum_Join.n a0 a1 a2 w h0 h1 h2 h3 (.inr ‹_›)
  split at h
  · cases h; exact sum_Join.no1 a0 a1 a2 w h0 h1 h2 h3 (by omega) (by omega) (.inl ‹_›)
  split at h
  · cases h; exact sum_Join.no1 a0 a1 a2 w h0 h1 h2 h3 (by omega) (by omega) (by omega)
  split at h
  · cases h; exact sum_Join.no2 a0 a1 a2 w h0 h1 h2 h3 (by omega) (by omega) (by omega) (by omega) (.inl ‹_›)
  split at h
  · cases h; exact sum_Join.no2 a0 a1 a2 w h0 h1 h2 h3 (by omega) (by omega) (by omega) (by omega) (by omega)
  · cases h; exact sum_Join.yes a0 a1 a2 w h0 h1 h2 h3 (by omega) (by omega) (by omega) (by omega) (by omega) (by omega)

end Go.Proofs.Ytcakpgfemmcnkaa.P
