-- Written by wip/gprint.py, a program of this session over the kit's print; Lean checks it.
import Derived.Test.YtiliailmgjhjbaaPx0
import Derived.Laws.CopyOwn
namespace Go.Proofs.Ytiliailmgjhjbaa.P
open Go.RowKit Go.Proofs.YtiliailmgjhjbaaW.PrintWords Go.Proofs.YtiliailmgjhjbaaW.PrintLast Go.Proofs.YtiliailmgjhjbaaW.PrintMore
attribute [local go_sem] max2_int min2_int max_two min_two max_three min_three max_four min_four   -- for this text's walks alone
set_option linter.unusedVariables false
set_option linter.unusedSimpArgs false

/-GIVEN mode_Fits-/
/-! ### mode_Fits: function 8 -/
def fitsB (a b : Int) : Bool :=
  if a = 1 then decide (1 ≤ b ∧ b ≤ 4) else if a = 2 then decide (1 ≤ b ∧ b ≤ 2) else if a = 3 then decide (b = 1 ∨ b = 3) else if a = 4 then decide (b = 1) else false
def fitsC : Array Value := #[.bool false, .bool false, .bool false, .bool false, .bool false, .bool false,
  .bool false, .bool true, .bool true, .bool true, .bool true, .bool false,
  .bool false, .bool true, .bool true, .bool false, .bool false, .bool false,
  .bool false, .bool true, .bool false, .bool true, .bool false, .bool false,
  .bool false, .bool true, .bool false, .bool false, .bool false, .bool false,
  .bool false, .bool false, .bool false, .bool false, .bool false, .bool false]
def fitsV : Value := .agg fitsC
def fitsRow (a : Int) : Value := .agg (fitsC.extract (6 * a.toNat) (6 * a.toNat + 6))
def mode_Fits.f (a0 : Int) (a1 : Int) : Option (Bool) := some (fitsB a0 a1)
set_option maxHeartbeats 1000000 in
set_option maxRecDepth 100000 in
theorem mode_together.any (w : World) : Calls Try.prog 17 #[] w fun e w' => e = .returned fitsV ∧ Below w.heap.size w w' := by
  go_enter Try.func17, Try.ntmps17
  go_wp2_with (with_reducible refine wpList_store_row rfl _ _ _ rfl w.heap.size fitsC ?hx ?hy 29 (Array.replicate 36 (.bool false)) ?hg ?hi ?ho ?h1 ?_)
  case hx => rfl
  case hy => rfl
  case hg => exact heap_alloc_new w _
  case hi => kernel_rfl
  case ho => rfl
  case h1 => kernel_rfl
  go_wp2
  have hg := setRow_heap (w.alloc (.cells (Array.replicate 36 (.bool false)) 29)) w.heap.size _ fitsC _ _ (heap_alloc_new w _)
  refine bodyPost_ret (v := fitsV) (results_cell_row Try.results17 _ _ w.heap.size _ fitsC _ _ rfl hg Try.underlying29 rfl (by kernel_rfl)) rfl ⟨rfl, ?_⟩
  exact below_setRow (below_alloc (Below.refl _ _) _) (Nat.le_refl _) _
set_option maxHeartbeats 1000000 in
set_option maxRecDepth 100000 in
theorem mode_Fits.yes (a b : Int) (ra : Value) (rb : Bool) (w : World) (h0 : 1 ≤ a) (h1 : a ≤ 5) (h2 : 1 ≤ b) (h3 : b ≤ 5)
    (i1 : ∀ w, (Instr.index 29 fitsV (.int .i64 a)).run Try.prog w = .ok ra w) (i2 : ∀ w, (Instr.index 28 ra (.int .i64 b)).run Try.prog w = .ok (.bool rb) w) :
    Calls Try.prog 8 #[.int .i64 a, .int .i64 b] w fun e w' => e = .returned (.bool rb) ∧ Below w.heap.size w w' := by
  have d0 : decide (1 ≤ a) = true := decide_eq_true h0
  have d1 : decide (a ≤ 5) = true := decide_eq_true h1
  have d2 : decide (1 ≤ b) = true := decide_eq_true h2
  have d3 : decide (b ≤ 5) = true := decide_eq_true h3
  go_enter Try.func8, Try.ntmps8
  go_wp2_with (first | (go_at_call 17; refine (mode_together.any _).mono ?_; rintro e w1 ⟨rfl, hb⟩) | go_in)
  go_ret
  exact ⟨rfl, hb⟩
set_option maxHeartbeats 1000000 in
set_option maxRecDepth 100000 in
theorem mode_Fits.no (a b : Int) (w : World) (h : (a < 1 ∨ 5 < a) ∨ ((1 ≤ a ∧ a ≤ 5) ∧ (b < 1 ∨ 5 < b))) :
    Calls Try.prog 8 #[.int .i64 a, .int .i64 b] w fun e w' => e = .returned (.bool false) ∧ Below w.heap.size w w' := by
  rcases h with (h | h) | ⟨⟨h0, h1⟩, h | h⟩
  · have d0 : decide (1 ≤ a) = false := decide_eq_false (by omega)
    clear h
    go_enter Try.func8, Try.ntmps8
    go_wp2
    go_ret
    exact ⟨rfl, Below.refl _ _⟩
  · have d0 : decide (1 ≤ a) = true := decide_eq_true (by omega)
    have d1 : decide (a ≤ 5) = false := decide_eq_false (by omega)
    clear h
    go_enter Try.func8, Try.ntmps8
    go_wp2
    go_ret
    exact ⟨rfl, Below.refl _ _⟩
  · have d0 : decide (1 ≤ a) = true := decide_eq_true h0
    have d1 : decide (a ≤ 5) = true := decide_eq_true h1
    have d2 : decide (1 ≤ b) = false := decide_eq_false (by omega)
    clear h h0 h1
    go_enter Try.func8, Try.ntmps8
    go_wp2
    go_ret
    exact ⟨rfl, Below.refl _ _⟩
  · have d0 : decide (1 ≤ a) = true := decide_eq_true h0
    have d1 : decide (a ≤ 5) = true := decide_eq_true h1
    have d2 : decide (1 ≤ b) = true := decide_eq_true (by omega)
    have d3 : decide (b ≤ 5) = false := decide_eq_false (by omega)
    clear h h0 h1
    go_enter Try.func8, Try.ntmps8
    go_wp2
    go_ret
    exact ⟨rfl, Below.refl _ _⟩
theorem mode_Fits.r1 : ∀ w, (Instr.index 29 fitsV (.int .i64 1)).run Try.prog w = .ok (fitsRow 1) w := fun _ => by kernel_rfl
theorem mode_Fits.c11 : ∀ w, (Instr.index 28 (fitsRow 1) (.int .i64 1)).run Try.prog w = .ok (.bool (fitsB 1 1)) w := fun _ => by kernel_rfl
theorem mode_Fits.c12 : ∀ w, (Instr.index 28 (fitsRow 1) (.int .i64 2)).run Try.prog w = .ok (.bool (fitsB 1 2)) w := fun _ => by kernel_rfl
theorem mode_Fits.c13 : ∀ w, (Instr.index 28 (fitsRow 1) (.int .i64 3)).run Try.prog w = .ok (.bool (fitsB 1 3)) w := fun _ => by kernel_rfl
theorem mode_Fits.c14 : ∀ w, (Instr.index 28 (fitsRow 1) (.int .i64 4)).run Try.prog w = .ok (.bool (fitsB 1 4)) w := fun _ => by kernel_rfl
theorem mode_Fits.c15 : ∀ w, (Instr.index 28 (fitsRow 1) (.int .i64 5)).run Try.prog w = .ok (.bool (fitsB 1 5)) w := fun _ => by kernel_rfl
theorem mode_Fits.r2 : ∀ w, (Instr.index 29 fitsV (.int .i64 2)).run Try.prog w = .ok (fitsRow 2) w := fun _ => by kernel_rfl
theorem mode_Fits.c21 : ∀ w, (Instr.index 28 (fitsRow 2) (.int .i64 1)).run Try.prog w = .ok (.bool (fitsB 2 1)) w := fun _ => by kernel_rfl
theorem mode_Fits.c22 : ∀ w, (Instr.index 28 (fitsRow 2) (.int .i64 2)).run Try.prog w = .ok (.bool (fitsB 2 2)) w := fun _ => by kernel_rfl
theorem mode_Fits.c23 : ∀ w, (Instr.index 28 (fitsRow 2) (.int .i64 3)).run Try.prog w = .ok (.bool (fitsB 2 3)) w := fun _ => by kernel_rfl
theorem mode_Fits.c24 : ∀ w, (Instr.index 28 (fitsRow 2) (.int .i64 4)).run Try.prog w = .ok (.bool (fitsB 2 4)) w := fun _ => by kernel_rfl
theorem mode_Fits.c25 : ∀ w, (Instr.index 28 (fitsRow 2) (.int .i64 5)).run Try.prog w = .ok (.bool (fitsB 2 5)) w := fun _ => by kernel_rfl
theorem mode_Fits.r3 : ∀ w, (Instr.index 29 fitsV (.int .i64 3)).run Try.prog w = .ok (fitsRow 3) w := fun _ => by kernel_rfl
theorem mode_Fits.c31 : ∀ w, (Instr.index 28 (fitsRow 3) (.int .i64 1)).run Try.prog w = .ok (.bool (fitsB 3 1)) w := fun _ => by kernel_rfl
theorem mode_Fits.c32 : ∀ w, (Instr.index 28 (fitsRow 3) (.int .i64 2)).run Try.prog w = .ok (.bool (fitsB 3 2)) w := fun _ => by kernel_rfl
theorem mode_Fits.c33 : ∀ w, (Instr.index 28 (fitsRow 3) (.int .i64 3)).run Try.prog w = .ok (.bool (fitsB 3 3)) w := fun _ => by kernel_rfl
theorem mode_Fits.c34 : ∀ w, (Instr.index 28 (fitsRow 3) (.int .i64 4)).run Try.prog w = .ok (.bool (fitsB 3 4)) w := fun _ => by kernel_rfl
theorem mode_Fits.c35 : ∀ w, (Instr.index 28 (fitsRow 3) (.int .i64 5)).run Try.prog w = .ok (.bool (fitsB 3 5)) w := fun _ => by kernel_rfl
theorem mode_Fits.r4 : ∀ w, (Instr.index 29 fitsV (.int .i64 4)).run Try.prog w = .ok (fitsRow 4) w := fun _ => by kernel_rfl
theorem mode_Fits.c41 : ∀ w, (Instr.index 28 (fitsRow 4) (.int .i64 1)).run Try.prog w = .ok (.bool (fitsB 4 1)) w := fun _ => by kernel_rfl
theorem mode_Fits.c42 : ∀ w, (Instr.index 28 (fitsRow 4) (.int .i64 2)).run Try.prog w = .ok (.bool (fitsB 4 2)) w := fun _ => by kernel_rfl
theorem mode_Fits.c43 : ∀ w, (Instr.index 28 (fitsRow 4) (.int .i64 3)).run Try.prog w = .ok (.bool (fitsB 4 3)) w := fun _ => by kernel_rfl
theorem mode_Fits.c44 : ∀ w, (Instr.index 28 (fitsRow 4) (.int .i64 4)).run Try.prog w = .ok (.bool (fitsB 4 4)) w := fun _ => by kernel_rfl
theorem mode_Fits.c45 : ∀ w, (Instr.index 28 (fitsRow 4) (.int .i64 5)).run Try.prog w = .ok (.bool (fitsB 4 5)) w := fun _ => by kernel_rfl
theorem mode_Fits.r5 : ∀ w, (Instr.index 29 fitsV (.int .i64 5)).run Try.prog w = .ok (fitsRow 5) w := fun _ => by kernel_rfl
theorem mode_Fits.c51 : ∀ w, (Instr.index 28 (fitsRow 5) (.int .i64 1)).run Try.prog w = .ok (.bool (fitsB 5 1)) w := fun _ => by kernel_rfl
theorem mode_Fits.c52 : ∀ w, (Instr.index 28 (fitsRow 5) (.int .i64 2)).run Try.prog w = .ok (.bool (fitsB 5 2)) w := fun _ => by kernel_rfl
theorem mode_Fits.c53 : ∀ w, (Instr.index 28 (fitsRow 5) (.int .i64 3)).run Try.prog w = .ok (.bool (fitsB 5 3)) w := fun _ => by kernel_rfl
theorem mode_Fits.c54 : ∀ w, (Instr.index 28 (fitsRow 5) (.int .i64 4)).run Try.prog w = .ok (.bool (fitsB 5 4)) w := fun _ => by kernel_rfl
theorem mode_Fits.c55 : ∀ w, (Instr.index 28 (fitsRow 5) (.int .i64 5)).run Try.prog w = .ok (.bool (fitsB 5 5)) w := fun _ => by kernel_rfl
theorem five (a : Int) (h0 : 1 ≤ a) (h1 : a ≤ 5) : a = 1 ∨ a = 2 ∨ a = 3 ∨ a = 4 ∨ a = 5 := by omega
set_option maxHeartbeats 1000000 in
set_option maxRecDepth 100000 in
theorem mode_Fits.calls (a0 : Int) (a1 : Int) (r : Bool) (w : World) (h : mode_Fits.f a0 a1 = some r) :
    Calls Try.prog 8 #[.int .i64 a0, .int .i64 a1] w fun e w' => e = .returned (.bool r) ∧ Below w.heap.size w w' := by
  unfold mode_Fits.f at h
  obtain rfl := Option.some.inj h
  clear h
  by_cases ha : 1 ≤ a0 ∧ a0 ≤ 5
  · by_cases hb : 1 ≤ a1 ∧ a1 ≤ 5
    · obtain ⟨h0, h1⟩ := ha
      obtain ⟨h2, h3⟩ := hb
      rcases five a0 h0 h1 with rfl | rfl | rfl | rfl | rfl <;> rcases five a1 h2 h3 with rfl | rfl | rfl | rfl | rfl
      · exact mode_Fits.yes 1 1 (fitsRow 1) (fitsB 1 1) w h0 h1 h2 h3 mode_Fits.r1 mode_Fits.c11
      · exact mode_Fits.yes 1 2 (fitsRow 1) (fitsB 1 2) w h0 h1 h2 h3 mode_Fits.r1 mode_Fits.c12
      · exact mode_Fits.yes 1 3 (fitsRow 1) (fitsB 1 3) w h0 h1 h2 h3 mode_Fits.r1 mode_Fits.c13
      · exact mode_Fits.yes 1 4 (fitsRow 1) (fitsB 1 4) w h0 h1 h2 h3 mode_Fits.r1 mode_Fits.c14
      · exact mode_Fits.yes 1 5 (fitsRow 1) (fitsB 1 5) w h0 h1 h2 h3 mode_Fits.r1 mode_Fits.c15
      · exact mode_Fits.yes 2 1 (fitsRow 2) (fitsB 2 1) w h0 h1 h2 h3 mode_Fits.r2 mode_Fits.c21
      · exact mode_Fits.yes 2 2 (fitsRow 2) (fitsB 2 2) w h0 h1 h2 h3 mode_Fits.r2 mode_Fits.c22
      · exact mode_Fits.yes 2 3 (fitsRow 2) (fitsB 2 3) w h0 h1 h2 h3 mode_Fits.r2 mode_Fits.c23
      · exact mode_Fits.yes 2 4 (fitsRow 2) (fitsB 2 4) w h0 h1 h2 h3 mode_Fits.r2 mode_Fits.c24
      · exact mode_Fits.yes 2 5 (fitsRow 2) (fitsB 2 5) w h0 h1 h2 h3 mode_Fits.r2 mode_Fits.c25
      · exact mode_Fits.yes 3 1 (fitsRow 3) (fitsB 3 1) w h0 h1 h2 h3 mode_Fits.r3 mode_Fits.c31
      · exact mode_Fits.yes 3 2 (fitsRow 3) (fitsB 3 2) w h0 h1 h2 h3 mode_Fits.r3 mode_Fits.c32
      · exact mode_Fits.yes 3 3 (fitsRow 3) (fitsB 3 3) w h0 h1 h2 h3 mode_Fits.r3 mode_Fits.c33
      · exact mode_Fits.yes 3 4 (fitsRow 3) (fitsB 3 4) w h0 h1 h2 h3 mode_Fits.r3 mode_Fits.c34
      · exact mode_Fits.yes 3 5 (fitsRow 3) (fitsB 3 5) w h0 h1 h2 h3 mode_Fits.r3 mode_Fits.c35
      · exact mode_Fits.yes 4 1 (fitsRow 4) (fitsB 4 1) w h0 h1 h2 h3 mode_Fits.r4 mode_Fits.c41
      · exact mode_Fits.yes 4 2 (fitsRow 4) (fitsB 4 2) w h0 h1 h2 h3 mode_Fits.r4 mode_Fits.c42
      · exact mode_Fits.yes 4 3 (fitsRow 4) (fitsB 4 3) w h0 h1 h2 h3 mode_Fits.r4 mode_Fits.c43
      · exact mode_Fits.yes 4 4 (fitsRow 4) (fitsB 4 4) w h0 h1 h2 h3 mode_Fits.r4 mode_Fits.c44
      · exact mode_Fits.yes 4 5 (fitsRow 4) (fitsB 4 5) w h0 h1 h2 h3 mode_Fits.r4 mode_Fits.c45
      · exact mode_Fits.yes 5 1 (fitsRow 5) (fitsB 5 1) w h0 h1 h2 h3 mode_Fits.r5 mode_Fits.c51
      · exact mode_Fits.yes 5 2 (fitsRow 5) (fitsB 5 2) w h0 h1 h2 h3 mode_Fits.r5 mode_Fits.c52
      · exact mode_Fits.yes 5 3 (fitsRow 5) (fitsB 5 3) w h0 h1 h2 h3 mode_Fits.r5 mode_Fits.c53
      · exact mode_Fits.yes 5 4 (fitsRow 5) (fitsB 5 4) w h0 h1 h2 h3 mode_Fits.r5 mode_Fits.c54
      · exact mode_Fits.yes 5 5 (fitsRow 5) (fitsB 5 5) w h0 h1 h2 h3 mode_Fits.r5 mode_Fits.c55
    · have e : fitsB a0 a1 = false := by unfold fitsB; (repeat' split) <;> simp <;> omega
      rw [e]
      exact mode_Fits.no _ _ w (.inr ⟨ha, by omega⟩)
  · have e : fitsB a0 a1 = false := by unfold fitsB; rw [if_neg (by omega), if_neg (by omega), if_neg (by omega), if_neg (by omega)]
    rw [e]
    exact mode_Fits.no _ _ w (.inl (by omega))

end Go.Proofs.Ytiliailmgjhjbaa.P
