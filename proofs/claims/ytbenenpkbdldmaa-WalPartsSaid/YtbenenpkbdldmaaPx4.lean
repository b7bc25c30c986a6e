-- Written by wip/gprint.py, a program of this session over the kit's print; Lean checks it.
import Derived.Test.YtbenenpkbdldmaaPx0
import Derived.Lib.SlBytesConst
namespace Go.Proofs.Ytbenenpkbdldmaa.P
open Go.RowKit Go.Proofs.YtbenenpkbdldmaaW.PrintWords Go.Proofs.YtbenenpkbdldmaaW.PrintLast Go.Proofs.YtbenenpkbdldmaaW.PrintMore
attribute [local go_sem] max2_int min2_int max_two min_two max_three min_three max_four min_four   -- for this text's walks alone
set_option linter.unusedVariables false
set_option linter.unusedSimpArgs false

/-GIVEN 03conv-/
def conv_lit.f (l : List Int) : Option (List Int) := some l
/-- '[]byte("..")' of a constant: the row that is laid, and its mark. -/
theorem conv_lit_op {P : Program} {ops : Array Oper} {rest : List Oper} {o1 o2 : Oper} {a : Act} {Q : Exit → Act → World → Prop} {W : World} (t e : TypeId) (ht : P.underlying t = some (.slice e)) (he : P.underlying e = some (.int .u8)) (hg1 : o1.guard = none) (N1 N2 : Tmp) (hd1 : o1.dst = some N1) (hg2 : o2.guard = none) (hd2 : o2.dst = some N2) (ho2 : o2.op = .convert t t (.tmp N1)) (xs ys : List Int) (hA : conv_lit.f xs = some ys) (inner : List Value)
    (hrun : (execOp a.eval o1).run P W = .ok (.value (.slice (some ⟨W.heap.size, 0, none⟩) xs.length xs.length)) (W.alloc (.cells inner.toArray e)))
    (hev : ∀ v : Value, (a.put (some N1) v).eval (.tmp N1) = v) (hin : inner = xs.map (Value.int .u8)) (hm : xs.length ≤ 9223372036854775807)
    (h : ∀ v w1, Kd.V (Kd.int .u8) e w1 W.heap.size (fun k_ => W.heap.size ≤ k_) v ys → Below W.heap.size W w1 → wpList P ops Q rest ((a.put (some N1) v).put (some N2) v) w1) : wpList P ops Q (o1 :: o2 :: rest) a W := by
  obtain rfl : xs = ys := Option.some.inj hA
  refine Kd.event_run hg1 hrun ?_
  rw [hd1]
  have hrun2 : (execOp (a.put (some N1) (.slice (some ⟨W.heap.size, 0, none⟩) xs.length xs.length)).eval o2).run P (W.alloc (.cells inner.toArray e)) = .ok (.value (.slice (some ⟨W.heap.size, 0, none⟩) xs.length xs.length)) (W.alloc (.cells inner.toArray e (inner.toArray.size, inner.toArray.size + 1))) := by
    have hc := Lib.run_convert_bytes_const (P := P) W t e inner.toArray xs.length xs.length ht he
    simp [execOp, ho2, hev, hc]
  refine Kd.event_run hg2 hrun2 ?_
  rw [hd2]
  refine h _ _ ?_ (below_alloc (Below.refl _ _) _)
  subst hin
  have hg : (W.alloc (.cells (xs.map (Value.int .u8)).toArray e ((xs.map (Value.int .u8)).toArray.size, (xs.map (Value.int .u8)).toArray.size + 1))).heap[W.heap.size]? = some (.cells (xs.map (Value.int .u8)).toArray e ((xs.map (Value.int .u8)).toArray.size, (xs.map (Value.int .u8)).toArray.size + 1)) := by
    show (W.heap.push _)[W.heap.size]? = _
    simp
  refine ⟨some ⟨W.heap.size, 0, none⟩, xs.length, rfl, Nat.le_refl _, fun W' hW => ⟨rfl, hm, fun _ => ⟨⟨W.heap.size, 0, none⟩, rfl, fun j p hj => ⟨[.int .u8 p], rfl, rfl, fun i u hu => ?_⟩⟩⟩⟩
  have hg' := (hW W.heap.size (Nat.le_refl _) (blk_lt hg)).trans hg
  cases i with
  | succ i => simp at hu
  | zero =>
    have hu' : Value.int .u8 p = u := by simpa using hu
    subst hu'
    rw [add_plain, cell_of_row W' W.heap.size _ _ e _ hg']
    have hs : (Kd.int .u8).sz = 1 := rfl
    simp [hs, hj]

end Go.Proofs.Ytbenenpkbdldmaa.P
