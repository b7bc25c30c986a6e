-- Written by wip/gprint.py, a program of this session over the kit's print; Lean checks it.
import Derived.Test.YtbenenpkbdldmaaRows
import Derived.Test.YtbenenpkbdldmaaPx37
import Derived.Test.YtbenenpkbdldmaaPureWalParts
import Derived.Test.YtbenenpkbdldmaaOpen
namespace Go.Proofs.Ytbenenpkbdldmaa.walParts
open Go.ChangeShapes Go.WideShapes Go.ChangeAt Go.RowKit Go.Proofs.Ytbenenpkbdldmaa.Open Go.Proofs.Ytbenenpkbdldmaa.P Go.Proofs.YtbenenpkbdldmaaW.PrintWords
open Go.ChangeMaps (open_string shut_string)
set_option linter.unusedVariables false
theorem own : ownKnob Try.prog.godebug = none := by kernel_rfl
theorem laidOut : laidOutB Try.prog = true := by kernel_rfl
theorem op_t26 (W : World) : Open.Op Try.prog W k26 26 (fun x_ : S26 => (fun xs_ : List Int => xs_.length ≤ maxLen ∧ ∀ x ∈ xs_, (fun n_ : Int => (Lit.int .u8 n_).wf = true) x) x_.f0 ∧ (fun n_ : Int => (Lit.int .i64 n_).wf = true) x_.f1) := by
  intro H enc base spare held fuel cs x h
  obtain ⟨xs, n, _, _, hl, hlen, hf⟩ := DataW.trod_struct Try.underlying26 h
  have hl' : cs.length = 2 := by rw [hl]; kernel_rfl
  obtain ⟨u0, u1, rfl⟩ : ∃ u0 u1, cs = [u0, u1] := by
    match cs, hl' with
    | [u0, u1], _ => exact ⟨_, _, rfl⟩
  have c0 : Try.prog.cellsOf 23 = 1 := by kernel_rfl
  have e0 : DataW.trod enc Try.prog W base spare held n 23 (([u0, u1].drop 0).take (Try.prog.cellsOf 23)) = xs[0]? := hf 0 _ rfl
  obtain ⟨y0, hy0⟩ : ∃ y, xs[0]? = some y := ⟨_, List.getElem?_eq_getElem (by rw [hlen]; decide)⟩
  rw [hy0, c0] at e0
  have f0 : DataW.trod enc Try.prog W base spare held n 23 [u0] = some y0 := e0
  obtain ⟨v0, k0, g0⟩ := (op_slice (d := (Kd.int .u8)) Try.underlying23 (by kernel_rfl) (op_int Try.underlying5)) enc base spare held n _ _ f0
  have c1 : Try.prog.cellsOf 3 = 1 := by kernel_rfl
  have e1 : DataW.trod enc Try.prog W base spare held n 3 (([u0, u1].drop 1).take (Try.prog.cellsOf 3)) = xs[1]? := hf 1 _ rfl
  obtain ⟨y1, hy1⟩ : ∃ y, xs[1]? = some y := ⟨_, List.getElem?_eq_getElem (by rw [hlen]; decide)⟩
  rw [hy1, c1] at e1
  have f1 : DataW.trod enc Try.prog W base spare held n 3 [u1] = some y1 := e1
  obtain ⟨v1, k1, g1⟩ := (op_int Try.underlying3) enc base spare held n _ _ f1
  exact ⟨⟨v0, v1⟩, ⟨[u0], [u1], rfl, k0, k1⟩, g0, g1⟩
set_option maxRecDepth 100000 in
theorem lifted (os : Os) (started : os.Started) (H : Type) (enc : TypeId × Value → H) :
    ReturnsInHanded {} Try.checked os 4 .any (Rows.walPartsSpec.pre6 enc Try.prog Try.f4 Rows.walPartsRow.domain false) (Rows.walPartsSpec.post enc Try.prog Try.f4 false true false false) := by
  refine returnsInHanded_of_change_sized (C := Try.checked) own started (by kernel_rfl) Try.func4
    (ChangeSpec.witness6 (enc := enc) (C := Try.checked) false ⟨#[], #[.agg #[.slice none 0 0, .int .i64 0], .slice none 0 0], []⟩ 8 (by kernel_rfl) (by kernel_rfl) (by kernel_rfl) (by kernel_rfl)) ?_
  intro W base args ds gs before hval0 hW hcnd hsz0 _
  have hval : ∀ (j : Nat) t v, Try.f4.params[j]? = some t → args[j]? = some v → Value.okWide Try.prog W .any base t v := hval0
  have hW' := hW
  obtain ⟨p, q, hA0, hV, rfl, hfz, hnd⟩ := hW
  have hA : DataW.TrodAll enc Try.prog W 0 (fun _ => true) true Try.f4.params.toList args.toList ds p := hA0
  rw [Try.params4] at hA hval
  obtain ⟨v0, vs0, d0, ds0, p0, q0, hargs, rfl, rfl, h0, r0⟩ := trodAll_cons hA
  obtain ⟨v1, vs1, d1, ds1, p1, q1, rfl, rfl, rfl, h1, r1⟩ := trodAll_cons r0
  obtain ⟨rfl, rfl, rfl⟩ := trodAll_nil r1
  obtain rfl : args = #[v0, v1] := by cases args; simp_all
  obtain ⟨rfl, rfl⟩ := trodVars_none hV
  have k0 := h0
  have lt0 : ∀ x ∈ p0, x.block < W.heap.size := by obtain ⟨m, hm⟩ := k0; exact DataW.trod_lt m _ _ _ hm
  obtain ⟨cs0, rfl, hs0⟩ := okWide_struct Try.underlying26 (hval 0 26 v0 rfl rfl)
  obtain ⟨fu0, hf0⟩ := h0
  obtain ⟨z0, hz0, ⟨g0_0, g0_1⟩⟩ := (op_t26 W) enc _ _ _ _ _ _ hf0
  obtain ⟨A0_0, c0_0, hcs0, hc0_0, hr0_0⟩ := k26_open hz0
  obtain rfl : cs0 = #[.slice A0_0 z0.f0.length c0_0, .int .i64 z0.f1] := by apply Array.ext'; simpa [Value.cells] using hcs0
  have k1 := h1
  have lt1 : ∀ x ∈ p1, x.block < W.heap.size := by obtain ⟨m, hm⟩ := k1; exact DataW.trod_lt m _ _ _ hm
  obtain ⟨A1, len1, c1, rfl⟩ := okWide_slice Try.underlying22 (hval 1 22 v1 rfl rfl)
  obtain ⟨fu1, hf1⟩ := h1
  obtain ⟨l1, ⟨B1, e1, hcs1, hc1, hr1⟩, g1⟩ := (op_slice (d := (Kd.slice 5 (Kd.int .u8))) Try.underlying22 (by kernel_rfl) (op_slice (d := (Kd.int .u8)) Try.underlying23 (by kernel_rfl) (op_int Try.underlying5))) enc _ _ _ _ _ _ hf1
  simp [Value.cells] at hcs1
  obtain ⟨rfl, rfl, rfl⟩ := hcs1
  clear hA0 hval0 hsz0
  obtain ⟨k, hP⟩ := Pure.WalParts z0.f0 z0.f1 l1 g0_0 g0_1 g1
  refine (banksmanlaw04_WalParts.calls k (fun k_ => k_ < W.heap.size) A0_0 c0_0 z0.f0 z0.f1 (fun k_ => k_ < W.heap.size) A1 c1 l1 true W (Kd.V_mk hc0_0 (Kd.C_F (by repeat (first | exact Kd.heap_int _ | exact Kd.heap_bool | exact Kd.heap_string | apply Kd.heap_slice)) hr0_0)) (Kd.V_mk hc1 (Kd.C_F (by repeat (first | exact Kd.heap_int _ | exact Kd.heap_bool | exact Kd.heap_string | apply Kd.heap_slice)) hr1)) hP rfl).mono fun e W' ⟨he, bel0⟩ => ?_
  have bel : Below W.heap.size W W' := bel0
  subst he
  exact ⟨_, rfl, _, _, _, [], _, [], hW', trodAll_mk1 (shut_bool Try.underlying4 _), (trodAll_cons_mk (Below.trod laidOut (by kernel_rfl) (of_decide_eq_true (by kernel_rfl)) k0 bel lt0) (trodAll_cons_mk (Below.trod laidOut (by kernel_rfl) (of_decide_eq_true (by kernel_rfl)) k1 bel lt1) trodAll_mk0)), rfl, bel.frame _, fun h => by cases h⟩
theorem over : Rows.walPartsRow.holds Try.pinned (OpenSpec.ofChange Rows.walPartsSpec) :=
  OpenClaim.holds_of_wide 4 Try.f4 rfl rfl rfl rfl rfl rfl rfl ⟨rfl, rfl, rfl, rfl, rfl⟩ rfl rfl rfl rfl rfl (by kernel_rfl) Try.func4 (by kernel_rfl)
    (of_decide_eq_true (by kernel_rfl)) (by unfold Func.isWrapper; first | (rw [if_pos (by decide +kernel)]; kernel_rfl) | (rw [if_neg (by decide +kernel)]; exact ⟨rfl, rfl⟩))
    (fun os started H enc _ => lifted os started H enc)
theorem proved : Rows.WalPartsSaid := over
#print axioms proved
end Go.Proofs.Ytbenenpkbdldmaa.walParts
namespace Go.Proofs.Ytbenenpkbdldmaa
/-- The row, under a short name, for the claim. -/
theorem walParts_holds : Rows.WalPartsSaid := walParts.proved
end Go.Proofs.Ytbenenpkbdldmaa
