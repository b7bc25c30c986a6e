-- Written by wip/gprint.py, a program of this session over the kit's print; Lean checks it.
import Derived.Test.YtbenenpkbdldmaaPx0
namespace Go.Proofs.Ytbenenpkbdldmaa.P
open Go.RowKit Go.Proofs.YtbenenpkbdldmaaW.PrintWords Go.Proofs.YtbenenpkbdldmaaW.PrintLast Go.Proofs.YtbenenpkbdldmaaW.PrintMore
attribute [local go_sem] max2_int min2_int max_two min_two max_three min_three max_four min_four   -- for this text's walks alone
set_option linter.unusedVariables false
set_option linter.unusedSimpArgs false

/-GIVEN 08away-/
/-- A row that is only read, and that no block of g's tells: it does not stand in g. -/
theorem V_off {α : Type} {d : Kd α} {e base n c g : Nat} {W : World} {ok : Nat → Prop} {ad : Addr} {xs : List α} (h : Kd.V d e W base ok (.slice (some ad) n c) xs) (hn : 0 < xs.length) (hz : 0 < d.sz) (hok : ∀ k, ok k → k ≠ g) : ad.block ≠ g := by
  rintro rfl
  have hF := (Kd.V_at h).2.2
  have hlen := (Kd.V_at h).1
  have hr := hF { W with heap := W.heap.setIfInBounds ad.block (.cells #[] 0 (0, 0)) } (fun k hk _ => by
    show (W.heap.setIfInBounds ad.block _)[k]? = _
    rw [Array.getElem?_setIfInBounds_ne (Ne.symm (hok k hk))])
  obtain ⟨ad', e1, hc⟩ := hr.2.2 hn
  cases e1
  obtain ⟨cs, hl, _, hcell⟩ := hc 0 _ (List.getElem?_eq_getElem hn)
  have h0 : 0 < cs.length := by omega
  have h1 := hcell 0 _ (List.getElem?_eq_getElem h0)
  rw [Nat.zero_mul, Nat.zero_add, Addr.add] at h1
  unfold World.cell? at h1
  by_cases hb : ad.block < W.heap.size
  · simp [hb] at h1
  · have hnn : W.heap.size ≤ ad.block := by omega
    have : (W.heap.setIfInBounds ad.block (.cells #[] 0 (0, 0)))[ad.block]? = none := by simp [hnn]
    simp [this] at h1
def ownA (A : Option Addr) : Option Nat := (Value.slice A 0 0).ownBlock
theorem own_lenA (A : Option Addr) (n c : Nat) : (Value.slice A n c).ownBlock = ownA A := by cases A <;> rfl

end Go.Proofs.Ytbenenpkbdldmaa.P
