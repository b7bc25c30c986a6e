-- Written by wip/gprint.py, a program of this session over the kit's print; Lean checks it.
import Derived.Test.YtbenenpkbdldmaaPx0
namespace Go.Proofs.Ytbenenpkbdldmaa.P
open Go.RowKit Go.Proofs.YtbenenpkbdldmaaW.PrintWords Go.Proofs.YtbenenpkbdldmaaW.PrintLast Go.Proofs.YtbenenpkbdldmaaW.PrintMore
attribute [local go_sem] max2_int min2_int max_two min_two max_three min_three max_four min_four   -- for this text's walks alone
set_option linter.unusedVariables false
set_option linter.unusedSimpArgs false

/-GIVEN 09ups-/
/-- What lay in w lies in W: W is w, drawn and with more. -/
class Ups (w W : World) : Prop where
  up : ∀ (g : Nat) (o : Obj), w.heap[g]? = some o → W.heap[g]? = some o
instance Ups.same (w : World) : Ups w w := ⟨fun _ _ h => h⟩
instance Ups.alloc (w W : World) (o : Obj) [h : Ups w W] : Ups w (W.alloc o) := ⟨fun g x hx => blk_alloc (h.up g x hx) o⟩
instance Ups.drewN (w W : World) (n : Nat) [h : Ups w W] : Ups w (W.drewN n) := ⟨fun g x hx => h.up g x hx⟩
instance Ups.drew (w W : World) [h : Ups w W] : Ups w W.drew := ⟨fun g x hx => h.up g x hx⟩
theorem Ups.at {w W : World} (h : Ups w W) (k : Nat) (hk : k < w.heap.size) : W.heap[k]? = w.heap[k]? := by
  rw [Array.getElem?_eq_getElem hk]
  exact h.up k _ (Array.getElem?_eq_getElem hk)
theorem bU {w W : World} [h : Ups w W] {g : Nat} {o : Obj} (x : w.heap[g]? = some o) : W.heap[g]? = some o := h.up g o x
theorem vU {α : Type} {d : Kd α} {e base : Nat} {w W : World} {ok : Nat → Prop} {v : Value} {xs : List α} [h : Ups w W] (x : Kd.V d e w base ok v xs) : Kd.V d e W base ok v xs := Kd.V_step x (fun k _ hk => h.at k hk)
theorem nU {α : Type} {d : Kd α} {e base : Nat} {w W : World} {ok : Nat → Prop} {v : Value} {xs : List α} [h : Ups w W] (x : Kd.N d e w base ok v xs) : Kd.N d e W base ok v xs := Kd.N_step x (fun k _ hk => h.at k hk)
theorem rU {α : Type} {d : Kd α} {e base : Nat} {w W : World} {ok : Nat → Prop} {v : Value} {xs : List α} [h : Ups w W] (x : Kd.R d e w base ok v xs) : Kd.R d e W base ok v xs := Kd.R_step x (fun k _ hk => h.at k hk)
theorem bA {w W : World} (h : Below w.heap.size w W) (o : Obj) : Below w.heap.size w (W.alloc o) := below_alloc h o
theorem bN {B : Nat} {w W : World} (h : Below B w W) (n : Nat) : Below B w (W.drewN n) := pw_below_drewN h n
theorem bD {base : Nat} {w W : World} (h : Below base w W) : Below base w W.drew := below_drew1 h
theorem bS {w W : World} {g j : Nat} {v : Value} (h : Below w.heap.size w W) (hg : w.heap.size ≤ g) : Below w.heap.size w (W.setCell ⟨g, j, none⟩ v) := below_set h hg
theorem aM {p : Prop} (h : p) : Aside0 p := ⟨h⟩
abbrev T_ := true
abbrev F_ := false
theorem vB {α : Type} {d : Kd α} {e base : Nat} {W w1 : World} {ok : Nat → Prop} {v : Value} {xs : List α} (h : Kd.V d e W base ok v xs) (hb : Below W.heap.size W w1) : Kd.V d e w1 base ok v xs := Kd.V_below h hb
theorem kB {w w1 : World} {g : Nat} {o : Obj} (h : w.heap[g]? = some o) (hb : Below w.heap.size w w1) : w1.heap[g]? = some o := blk_below h hb
theorem vE {α : Type} {d : Kd α} {e base : Nat} {W : World} {ok : Nat → Prop} {v : Value} {xs : List α} (h : Kd.V d e W base ok v xs) (a : Nat) (ha : W.heap.size ≤ a) : Kd.V d e W base (fun k => ok k ∧ k ≠ a) v xs := Kd.V_elderB h a ha
theorem kF {w : World} {g : Nat} {t : TypeId} {cs : Array Value} (h : w.heap[g]? = some (.cells cs t (0, 0))) (i : Nat) : w.frozen? ⟨g, i, none⟩ = false := blk_frozen h i
theorem kC {w : World} {g : Nat} {t : TypeId} {cs : Array Value} (h : w.heap[g]? = some (.cells cs t (0, 0))) (i : Nat) : w.cell? ⟨g, i, none⟩ = cs[i]? := blk_cell h i

end Go.Proofs.Ytbenenpkbdldmaa.P
