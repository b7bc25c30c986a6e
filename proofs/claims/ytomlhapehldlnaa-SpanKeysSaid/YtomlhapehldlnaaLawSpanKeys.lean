-- Written by wip/gprint.py, a program of this session over the kit's print; Lean checks it.
import Derived.Test.YtomlhapehldlnaaRows
import Derived.Test.YtomlhapehldlnaaPx54
import Derived.Test.YtomlhapehldlnaaPureSpanKeys
import Derived.Test.YtomlhapehldlnaaOpen
namespace Go.Proofs.Ytomlhapehldlnaa.spanKeys
open Go.ChangeShapes Go.WideShapes Go.ChangeAt Go.RowKit Go.Proofs.Ytomlhapehldlnaa.Open Go.Proofs.Ytomlhapehldlnaa.P Go.Proofs.YtomlhapehldlnaaW.PrintWords
open Go.ChangeMaps (open_string shut_string)
set_option linter.unusedVariables false
theorem own : ownKnob Try.prog.godebug = none := by kernel_rfl
theorem laidOut : laidOutB Try.prog = true := by kernel_rfl
theorem op_t24 (W : World) : Open.Op Try.prog W k24 24 (fun x_ : S24 => (fun n_ : Int => (Lit.int .i64 n_).wf = true) x_.f0 ∧ (fun xs_ : List Int => xs_.length ≤ maxLen ∧ ∀ x ∈ xs_, (fun n_ : Int => (Lit.int .u8 n_).wf = true) x) x_.f1 ∧ (fun xs_ : List Int => xs_.length ≤ maxLen ∧ ∀ x ∈ xs_, (fun n_ : Int => (Lit.int .u8 n_).wf = true) x) x_.f2 ∧ (fun _ : Bool => True) x_.f3) := by
  intro H enc base spare held fuel cs x h
  obtain ⟨xs, n, _, _, hl, hlen, hf⟩ := DataW.trod_struct Try.underlying24 h
  have hl' : cs.length = 4 := by rw [hl]; kernel_rfl
  obtain ⟨u0, u1, u2, u3, rfl⟩ : ∃ u0 u1 u2 u3, cs = [u0, u1, u2, u3] := by
    match cs, hl' with
    | [u0, u1, u2, u3], _ => exact ⟨_, _, _, _, rfl⟩
  have c0 : Try.prog.cellsOf 3 = 1 := by kernel_rfl
  have e0 : DataW.trod enc Try.prog W base spare held n 3 (([u0, u1, u2, u3].drop 0).take (Try.prog.cellsOf 3)) = xs[0]? := hf 0 _ rfl
  obtain ⟨y0, hy0⟩ : ∃ y, xs[0]? = some y := ⟨_, List.getElem?_eq_getElem (by rw [hlen]; decide)⟩
  rw [hy0, c0] at e0
  have f0 : DataW.trod enc Try.prog W base spare held n 3 [u0] = some y0 := e0
  obtain ⟨v0, k0, g0⟩ := (op_int Try.underlying3) enc base spare held n _ _ f0
  have c1 : Try.prog.cellsOf 22 = 1 := by kernel_rfl
  have e1 : DataW.trod enc Try.prog W base spare held n 22 (([u0, u1, u2, u3].drop 1).take (Try.prog.cellsOf 22)) = xs[1]? := hf 1 _ rfl
  obtain ⟨y1, hy1⟩ : ∃ y, xs[1]? = some y := ⟨_, List.getElem?_eq_getElem (by rw [hlen]; decide)⟩
  rw [hy1, c1] at e1
  have f1 : DataW.trod enc Try.prog W base spare held n 22 [u1] = some y1 := e1
  obtain ⟨v1, k1, g1⟩ := (op_slice (d := (Kd.int .u8)) Try.underlying22 (by kernel_rfl) (op_int Try.underlying5)) enc base spare held n _ _ f1
  have c2 : Try.prog.cellsOf 22 = 1 := by kernel_rfl
  have e2 : DataW.trod enc Try.prog W base spare held n 22 (([u0, u1, u2, u3].drop 2).take (Try.prog.cellsOf 22)) = xs[2]? := hf 2 _ rfl
  obtain ⟨y2, hy2⟩ : ∃ y, xs[2]? = some y := ⟨_, List.getElem?_eq_getElem (by rw [hlen]; decide)⟩
  rw [hy2, c2] at e2
  have f2 : DataW.trod enc Try.prog W base spare held n 22 [u2] = some y2 := e2
  obtain ⟨v2, k2, g2⟩ := (op_slice (d := (Kd.int .u8)) Try.underlying22 (by kernel_rfl) (op_int Try.underlying5)) enc base spare held n _ _ f2
  have c3 : Try.prog.cellsOf 4 = 1 := by kernel_rfl
  have e3 : DataW.trod enc Try.prog W base spare held n 4 (([u0, u1, u2, u3].drop 3).take (Try.prog.cellsOf 4)) = xs[3]? := hf 3 _ rfl
  obtain ⟨y3, hy3⟩ : ∃ y, xs[3]? = some y := ⟨_, List.getElem?_eq_getElem (by rw [hlen]; decide)⟩
  rw [hy3, c3] at e3
  have f3 : DataW.trod enc Try.prog W base spare held n 4 [u3] = some y3 := e3
  obtain ⟨v3, k3, g3⟩ := (op_bool Try.underlying4) enc base spare held n _ _ f3
  exact ⟨⟨v0, v1, v2, v3⟩, ⟨[u0], [u1, u2, u3], rfl, k0, ⟨[u1], [u2, u3], rfl, k1, ⟨[u2], [u3], rfl, k2, k3⟩⟩⟩, g0, g1, g2, g3⟩
set_option maxRecDepth 100000 in
theorem lifted (os : Os) (started : os.Started) (H : Type) (enc : TypeId × Value → H) :
    ReturnsInHanded {} Try.checked os 5 .any (Rows.spanKeysSpec.pre6 enc Try.prog Try.f5 Rows.spanKeysRow.domain false) (Rows.spanKeysSpec.post enc Try.prog Try.f5 false true false false) := by
  refine returnsInHanded_of_change_sized (C := Try.checked) own started (by kernel_rfl) Try.func5
    (ChangeSpec.witness6 (enc := enc) (C := Try.checked) false ⟨#[], #[.agg #[.int .i64 0, .slice none 0 0, .slice none 0 0, .bool false], .agg #[.int .i64 0, .slice none 0 0, .slice none 0 0, .bool false], .int .i64 0, .slice none 0 0, .slice none 0 0], []⟩ 8 (by kernel_rfl) (by kernel_rfl) (by kernel_rfl) (by kernel_rfl)) ?_
  intro W base args ds gs before hval0 hW hcnd hsz0 _
  have hval : ∀ (j : Nat) t v, Try.f5.params[j]? = some t → args[j]? = some v → Value.okWide Try.prog W .any base t v := hval0
  have hW' := hW
  obtain ⟨p, q, hA0, hV, rfl, hfz, hnd⟩ := hW
  have hA : DataW.TrodAll enc Try.prog W 0 (fun _ => true) true Try.f5.params.toList args.toList ds p := hA0
  rw [Try.params5] at hA hval
  obtain ⟨v0, vs0, d0, ds0, p0, q0, hargs, rfl, rfl, h0, r0⟩ := trodAll_cons hA
  obtain ⟨v1, vs1, d1, ds1, p1, q1, rfl, rfl, rfl, h1, r1⟩ := trodAll_cons r0
  obtain ⟨v2, vs2, d2, ds2, p2, q2, rfl, rfl, rfl, h2, r2⟩ := trodAll_cons r1
  obtain ⟨v3, vs3, d3, ds3, p3, q3, rfl, rfl, rfl, h3, r3⟩ := trodAll_cons r2
  obtain ⟨v4, vs4, d4, ds4, p4, q4, rfl, rfl, rfl, h4, r4⟩ := trodAll_cons r3
  obtain ⟨rfl, rfl, rfl⟩ := trodAll_nil r4
  obtain rfl : args = #[v0, v1, v2, v3, v4] := by cases args; simp_all
  obtain ⟨rfl, rfl⟩ := trodVars_none hV
  have k0 := h0
  have lt0 : ∀ x ∈ p0, x.block < W.heap.size := by obtain ⟨m, hm⟩ := k0; exact DataW.trod_lt m _ _ _ hm
  obtain ⟨cs0, rfl, hs0⟩ := okWide_struct Try.underlying24 (hval 0 24 v0 rfl rfl)
  obtain ⟨fu0, hf0⟩ := h0
  obtain ⟨z0, hz0, ⟨g0_0, g0_1, g0_2, g0_3⟩⟩ := (op_t24 W) enc _ _ _ _ _ _ hf0
  obtain ⟨A0_1, c0_1, A0_2, c0_2, hcs0, hc0_1, hr0_1, hc0_2, hr0_2⟩ := k24_open hz0
  obtain rfl : cs0 = #[.int .i64 z0.f0, .slice A0_1 z0.f1.length c0_1, .slice A0_2 z0.f2.length c0_2, .bool z0.f3] := by apply Array.ext'; simpa [Value.cells] using hcs0
  have k1 := h1
  have lt1 : ∀ x ∈ p1, x.block < W.heap.size := by obtain ⟨m, hm⟩ := k1; exact DataW.trod_lt m _ _ _ hm
  obtain ⟨cs1, rfl, hs1⟩ := okWide_struct Try.underlying24 (hval 1 24 v1 rfl rfl)
  obtain ⟨fu1, hf1⟩ := h1
  obtain ⟨z1, hz1, ⟨g1_0, g1_1, g1_2, g1_3⟩⟩ := (op_t24 W) enc _ _ _ _ _ _ hf1
  obtain ⟨A1_1, c1_1, A1_2, c1_2, hcs1, hc1_1, hr1_1, hc1_2, hr1_2⟩ := k24_open hz1
  obtain rfl : cs1 = #[.int .i64 z1.f0, .slice A1_1 z1.f1.length c1_1, .slice A1_2 z1.f2.length c1_2, .bool z1.f3] := by apply Array.ext'; simpa [Value.cells] using hcs1
  obtain ⟨a2, rfl, rfl, rfl, g2⟩ := open_int Try.underlying3 (hval 2 3 v2 rfl rfl) h2
  have k3 := h3
  have lt3 : ∀ x ∈ p3, x.block < W.heap.size := by obtain ⟨m, hm⟩ := k3; exact DataW.trod_lt m _ _ _ hm
  obtain ⟨A3, len3, c3, rfl⟩ := okWide_slice Try.underlying22 (hval 3 22 v3 rfl rfl)
  obtain ⟨fu3, hf3⟩ := h3
  obtain ⟨l3, ⟨B3, e3, hcs3, hc3, hr3⟩, g3⟩ := (op_slice (d := (Kd.int .u8)) Try.underlying22 (by kernel_rfl) (op_int Try.underlying5)) enc _ _ _ _ _ _ hf3
  simp [Value.cells] at hcs3
  obtain ⟨rfl, rfl, rfl⟩ := hcs3
  have k4 := h4
  have lt4 : ∀ x ∈ p4, x.block < W.heap.size := by obtain ⟨m, hm⟩ := k4; exact DataW.trod_lt m _ _ _ hm
  obtain ⟨A4, len4, c4, rfl⟩ := okWide_slice Try.underlying22 (hval 4 22 v4 rfl rfl)
  obtain ⟨fu4, hf4⟩ := h4
  obtain ⟨l4, ⟨B4, e4, hcs4, hc4, hr4⟩, g4⟩ := (op_slice (d := (Kd.int .u8)) Try.underlying22 (by kernel_rfl) (op_int Try.underlying5)) enc _ _ _ _ _ _ hf4
  simp [Value.cells] at hcs4
  obtain ⟨rfl, rfl, rfl⟩ := hcs4
  clear hA0 hval0 hsz0
  have hP := Pure.SpanKeys z0.f0 z0.f1 z0.f2 z0.f3 z1.f0 z1.f1 z1.f2 z1.f3 a2 l3 l4 g0_0 g0_1 g0_2 g1_0 g1_1 g1_2 g2 g3 g4
  refine (banksmanlaw10_SpanKeys.calls z0.f0 A0_1 c0_1 z0.f1 A0_2 c0_2 z0.f2 z0.f3 z1.f0 A1_1 c1_1 z1.f1 A1_2 c1_2 z1.f2 z1.f3 a2 A3 c3 l3 A4 c4 l4 true W hr0_1 hc0_1 hr0_2 hc0_2 hr1_1 hc1_1 hr1_2 hc1_2 hr3 hc3 hr4 hc4 hP rfl).mono fun e W' ⟨he, bel0⟩ => ?_
  have bel : Below W.heap.size W W' := bel0
  subst he
  exact ⟨_, rfl, _, _, _, [], _, [], hW', trodAll_mk1 (shut_bool Try.underlying4 _), (trodAll_cons_mk (Below.trod laidOut (by kernel_rfl) (of_decide_eq_true (by kernel_rfl)) k0 bel lt0) (trodAll_cons_mk (Below.trod laidOut (by kernel_rfl) (of_decide_eq_true (by kernel_rfl)) k1 bel lt1) (trodAll_cons_mk (shut_int Try.underlying3 g2) (trodAll_cons_mk (Below.trod laidOut (by kernel_rfl) (of_decide_eq_true (by kernel_rfl)) k3 bel lt3) (trodAll_cons_mk (Below.trod laidOut (by kernel_rfl) (of_decide_eq_true (by kernel_rfl)) k4 bel lt4) trodAll_mk0))))), rfl, bel.frame _, fun h => by cases h⟩
theorem over : Rows.spanKeysRow.holds Try.pinned (OpenSpec.ofChange Rows.spanKeysSpec) :=
  OpenClaim.holds_of_wide 5 Try.f5 rfl rfl rfl rfl rfl rfl rfl ⟨rfl, rfl, rfl, rfl, rfl⟩ rfl rfl rfl rfl rfl (by kernel_rfl) Try.func5 (by kernel_rfl)
    (of_decide_eq_true (by kernel_rfl)) (by unfold Func.isWrapper; first | (rw [if_pos (by decide +kernel)]; kernel_rfl) | (rw [if_neg (by decide +kernel)]; exact ⟨rfl, rfl⟩))
    (fun os started H enc _ => lifted os started H enc)
theorem proved : Rows.SpanKeysSaid := over
#print axioms proved
end Go.Proofs.Ytomlhapehldlnaa.spanKeys
namespace Go.Proofs.Ytomlhapehldlnaa
/-- The row, under a short name, for the claim. -/
theorem spanKeys_holds : Rows.SpanKeysSaid := spanKeys.proved
end Go.Proofs.Ytomlhapehldlnaa
