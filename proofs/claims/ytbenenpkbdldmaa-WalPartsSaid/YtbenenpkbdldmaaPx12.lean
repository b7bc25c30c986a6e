-- Written by wip/gprint.py, a program of this session over the kit's print; Lean checks it.
import Derived.Test.YtbenenpkbdldmaaPx0
import Derived.Test.YtbenenpkbdldmaaPx1
import Derived.Test.YtbenenpkbdldmaaPx11
namespace Go.Proofs.Ytbenenpkbdldmaa.P
open Go.RowKit Go.Proofs.YtbenenpkbdldmaaW.PrintWords Go.Proofs.YtbenenpkbdldmaaW.PrintLast Go.Proofs.YtbenenpkbdldmaaW.PrintMore
attribute [local go_sem] max2_int min2_int max_two min_two max_three min_three max_four min_four   -- for this text's walks alone
set_option linter.unusedVariables false
set_option linter.unusedSimpArgs false

/-GIVEN sum_Sum-/
/-! ### sum_Sum: function 34 -/
def sumStep (p : Int × Int) (b : Int) : Int × Int := ((p.1 + b) % 65535, (p.2 + (p.1 + b) % 65535) % 65535)
def sumPair (l : List Int) : Int × Int := l.foldl sumStep (0, 0)
theorem sumPair_bd (l : List Int) : (0 ≤ (sumPair l).1 ∧ (sumPair l).1 < 65535) ∧ (0 ≤ (sumPair l).2 ∧ (sumPair l).2 < 65535) := by
  unfold sumPair
  suffices h : ∀ (l : List Int) (p : Int × Int), ((0 ≤ p.1 ∧ p.1 < 65535) ∧ (0 ≤ p.2 ∧ p.2 < 65535)) → ((0 ≤ (l.foldl sumStep p).1 ∧ (l.foldl sumStep p).1 < 65535) ∧ (0 ≤ (l.foldl sumStep p).2 ∧ (l.foldl sumStep p).2 < 65535)) from h l (0, 0) (by simp)
  intro l
  induction l with
  | nil => intro p h; exact h
  | cons a l ih =>
    intro p h
    rw [List.foldl_cons]
    apply ih
    unfold sumStep
    simp only
    omega
theorem sumPair_snoc (l : List Int) (b : Int) : sumPair (l ++ [b]) = sumStep (sumPair l) b := by
  unfold sumPair
  rw [List.foldl_append]
  rfl
def sum_Sum.f (l0 : List Int) : Option (Int) := if okb l0 = true then some ((sumPair l0).2 * 65536 + (sumPair l0).1) else none
set_option maxHeartbeats 1000000 in
set_option maxRecDepth 100000 in
theorem sum_Sum.calls (A0 : Option Addr) (c0 : Nat) (l0 : List Int) (r : Int) (w : World) (hr0 : Kd.C (Kd.int .u8) w A0 l0.length l0) (hc0 : l0.length ≤ c0) (h : sum_Sum.f l0 = some r) :
    Calls Try.prog 34 #[.slice A0 l0.length c0] w fun e w' => e = .returned (.int .u32 r) ∧ Below w.heap.size w w' := by
  unfold sum_Sum.f at h
  have hok : okb l0 = true := Classical.byContradiction fun hn => by rw [if_neg hn] at h; cases h
  rw [if_pos hok] at h
  obtain rfl := Option.some.inj h
  clear h
  have hmf : ∀ (fn : Fn) (first cap : Array Value) (w : World), (Instr.makeFunc fn first cap).run Try.prog w = .ok (.func fn first cap) w := fun _ _ _ _ => rfl
  have HOK := Aside0.mk hok
  have HR := Aside0.mk hr0
  have hm : l0.length ≤ 9223372036854775807 := Kd.C_max hr0
  clear hok hr0
  go_enter Try.func34, Try.ntmps34
  go_wp2
  go_loopw [10] (fun i wr => ∃ k : Nat, k ≤ l0.length ∧ i = .int .i64 k ∧ Aside0 (wr.heap[w.heap.size]? = some (.cells #[.int .u64 (sumPair (l0.take k)).1, .int .u64 (sumPair (l0.take k)).2] 66 (0, 0))) ∧ Aside0 (Below w.heap.size w wr)) (fun i _ => l0.length - (intOf i).toNat)
  case atStart => exact ⟨0, Nat.zero_le _, rfl, ⟨by simpa [sumPair] using heap_alloc_new w (.cells #[.int .u64 0, .int .u64 0] 66)⟩, ⟨below_alloc (Below.refl _ _) _⟩⟩
  case round =>
    obtain ⟨k, hk, rfl, HP, HB⟩ := hrel
    by_cases hlt : k < l0.length
    · obtain ⟨⟨hx0, hx1⟩, hy0, hy1⟩ := sumPair_bd (l0.take k)
      obtain ⟨hb0, hb1⟩ := okb_rd HOK.out k hlt
      have HT := Aside0.mk (take_rd l0 k hlt)
      obtain ⟨ad, e, hc⟩ := Kd.at_int (Kd.C_below HR.out HB.out) k (by omega) (by omega)
      cases e
      rw [Int.toNat_natCast] at hc
      have HS := Aside0.mk (sumPair_snoc (l0.take k) (rd l0 (k : Int)))
      have hcx : wr.cell? ⟨w.heap.size, 0, none⟩ = some (.int .u64 (sumPair (l0.take k)).1) := (blk_cell HP.out 0).trans rfl
      have hcy : wr.cell? ⟨w.heap.size, 1, none⟩ = some (.int .u64 (sumPair (l0.take k)).2) := (blk_cell HP.out 1).trans rfl
      have hfx := blk_frozen HP.out 0
      have hfy := blk_frozen HP.out 1
      generalize hq : sumPair (l0.take k) = q at *
      have HQ := Aside0.mk hq
      clear hq
      go_wp2
      go_region
      go_wp2
      go_end0
      go_wp2
      go_roundw
      case rel =>
        refine ⟨k + 1, by omega, by go_num, ?_, ?_⟩
        · refine ⟨?_⟩
          rw [HT.out, HS.out]
          have z := blk_set (blk_set HP.out 0 (.int .u64 ((q.1 + rd l0 (k : Int)) % 65535))) 1 (.int .u64 ((q.2 + (q.1 + rd l0 (k : Int)) % 65535) % 65535))
          simp at z
          simp [sumStep]
          exact z
        · refine ⟨?_⟩
          exact below_drew1 (below_set (below_set HB.out (Nat.le_refl _)) (Nat.le_refl _))
      case measure => simp [intOf]; omega
    · have ek : k = l0.length := by omega
      subst ek
      obtain ⟨hx, hy⟩ := sumPair_bd (l0.take l0.length)
      have HF := Aside0.mk (pair_or _ _ hx hy)
      rw [List.take_length] at HP HF hx hy
      have HX := Aside0.mk (And.intro hx hy)
      clear hx hy
      have hcx : wr.cell? ⟨w.heap.size, 0, none⟩ = some (.int .u64 (sumPair l0).1) := (blk_cell HP.out 0).trans rfl
      have hcy : wr.cell? ⟨w.heap.size, 1, none⟩ = some (.int .u64 (sumPair l0).2) := (blk_cell HP.out 1).trans rfl
      go_wp2_with (go_at_call 39; refine (sum_pair_one.calls _ _ _ _ (congrArg some HF.out)).mono ?_; rintro e w1 ⟨rfl, hb⟩)
      go_ret
      exact ⟨rfl, HB.out.trans (hb.mono (by have := HB.out.size; omega))⟩

end Go.Proofs.Ytbenenpkbdldmaa.P
