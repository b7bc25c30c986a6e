-- Written by wip/gprint.py, a program of this session over the kit's print; Lean checks it.
import Derived.Test.YtfbjabpjfalmlaaRows
import Derived.Test.YtfbjabpjfalmlaaPx53
import Derived.Test.YtfbjabpjfalmlaaPureWireShort
import Derived.Test.YtfbjabpjfalmlaaOpen
namespace Go.Proofs.Ytfbjabpjfalmlaa.wireShort
open Go.ChangeShapes Go.WideShapes Go.ChangeAt Go.RowKit Go.Proofs.Ytfbjabpjfalmlaa.Open Go.Proofs.Ytfbjabpjfalmlaa.P Go.Proofs.YtfbjabpjfalmlaaW.PrintWords
open Go.ChangeMaps (open_string shut_string)
set_option linter.unusedVariables false
theorem own : ownKnob Try.prog.godebug = none := by kernel_rfl
theorem laidOut : laidOutB Try.prog = true := by kernel_rfl
theorem op_t24 (W : World) : Open.Op Try.prog W k24 24 (fun x_ : S24 => (fun n_ : Int => (Lit.int .i64 n_).wf = true) x_.f0 ∧ (fun n_ : Int => (Lit.int .i64 n_).wf = true) x_.f1 ∧ (fun xs_ : List Int => xs_.length ≤ maxLen ∧ ∀ x ∈ xs_, (fun n_ : Int => (Lit.int .u8 n_).wf = true) x) x_.f2 ∧ (fun xs_ : List Int => xs_.length ≤ maxLen ∧ ∀ x ∈ xs_, (fun n_ : Int => (Lit.int .u8 n_).wf = true) x) x_.f3 ∧ (fun _ : Bool => True) x_.f4 ∧ (fun xs_ : List Int => xs_.length ≤ maxLen ∧ ∀ x ∈ xs_, (fun n_ : Int => (Lit.int .u8 n_).wf = true) x) x_.f5 ∧ (fun n_ : Int => (Lit.int .i64 n_).wf = true) x_.f6) := by
  intro H enc base spare held fuel cs x h
  obtain ⟨xs, n, _, _, hl, hlen, hf⟩ := DataW.trod_struct Try.underlying24 h
  have hl' : cs.length = 7 := by rw [hl]; kernel_rfl
  obtain ⟨u0, u1, u2, u3, u4, u5, u6, rfl⟩ : ∃ u0 u1 u2 u3 u4 u5 u6, cs = [u0, u1, u2, u3, u4, u5, u6] := by
    match cs, hl' with
    | [u0, u1, u2, u3, u4, u5, u6], _ => exact ⟨_, _, _, _, _, _, _, rfl⟩
  have c0 : Try.prog.cellsOf 3 = 1 := by kernel_rfl
  have e0 : DataW.trod enc Try.prog W base spare held n 3 (([u0, u1, u2, u3, u4, u5, u6].drop 0).take (Try.prog.cellsOf 3)) = xs[0]? := hf 0 _ rfl
  obtain ⟨y0, hy0⟩ : ∃ y, xs[0]? = some y := ⟨_, List.getElem?_eq_getElem (by rw [hlen]; decide)⟩
  rw [hy0, c0] at e0
  have f0 : DataW.trod enc Try.prog W base spare held n 3 [u0] = some y0 := e0
  obtain ⟨v0, k0, g0⟩ := (op_int Try.underlying3) enc base spare held n _ _ f0
  have c1 : Try.prog.cellsOf 3 = 1 := by kernel_rfl
  have e1 : DataW.trod enc Try.prog W base spare held n 3 (([u0, u1, u2, u3, u4, u5, u6].drop 1).take (Try.prog.cellsOf 3)) = xs[1]? := hf 1 _ rfl
  obtain ⟨y1, hy1⟩ : ∃ y, xs[1]? = some y := ⟨_, List.getElem?_eq_getElem (by rw [hlen]; decide)⟩
  rw [hy1, c1] at e1
  have f1 : DataW.trod enc Try.prog W base spare held n 3 [u1] = some y1 := e1
  obtain ⟨v1, k1, g1⟩ := (op_int Try.underlying3) enc base spare held n _ _ f1
  have c2 : Try.prog.cellsOf 22 = 1 := by kernel_rfl
  have e2 : DataW.trod enc Try.prog W base spare held n 22 (([u0, u1, u2, u3, u4, u5, u6].drop 2).take (Try.prog.cellsOf 22)) = xs[2]? := hf 2 _ rfl
  obtain ⟨y2, hy2⟩ : ∃ y, xs[2]? = some y := ⟨_, List.getElem?_eq_getElem (by rw [hlen]; decide)⟩
  rw [hy2, c2] at e2
  have f2 : DataW.trod enc Try.prog W base spare held n 22 [u2] = some y2 := e2
  obtain ⟨v2, k2, g2⟩ := (op_slice (d := (Kd.int .u8)) Try.underlying22 (by kernel_rfl) (op_int Try.underlying5)) enc base spare held n _ _ f2
  have c3 : Try.prog.cellsOf 22 = 1 := by kernel_rfl
  have e3 : DataW.trod enc Try.prog W base spare held n 22 (([u0, u1, u2, u3, u4, u5, u6].drop 3).take (Try.prog.cellsOf 22)) = xs[3]? := hf 3 _ rfl
  obtain ⟨y3, hy3⟩ : ∃ y, xs[3]? = some y := ⟨_, List.getElem?_eq_getElem (by rw [hlen]; decide)⟩
  rw [hy3, c3] at e3
  have f3 : DataW.trod enc Try.prog W base spare held n 22 [u3] = some y3 := e3
  obtain ⟨v3, k3, g3⟩ := (op_slice (d := (Kd.int .u8)) Try.underlying22 (by kernel_rfl) (op_int Try.underlying5)) enc base spare held n _ _ f3
  have c4 : Try.prog.cellsOf 4 = 1 := by kernel_rfl
  have e4 : DataW.trod enc Try.prog W base spare held n 4 (([u0, u1, u2, u3, u4, u5, u6].drop 4).take (Try.prog.cellsOf 4)) = xs[4]? := hf 4 _ rfl
  obtain ⟨y4, hy4⟩ : ∃ y, xs[4]? = some y := ⟨_, List.getElem?_eq_getElem (by rw [hlen]; decide)⟩
  rw [hy4, c4] at e4
  have f4 : DataW.trod enc Try.prog W base spare held n 4 [u4] = some y4 := e4
  obtain ⟨v4, k4, g4⟩ := (op_bool Try.underlying4) enc base spare held n _ _ f4
  have c5 : Try.prog.cellsOf 22 = 1 := by kernel_rfl
  have e5 : DataW.trod enc Try.prog W base spare held n 22 (([u0, u1, u2, u3, u4, u5, u6].drop 5).take (Try.prog.cellsOf 22)) = xs[5]? := hf 5 _ rfl
  obtain ⟨y5, hy5⟩ : ∃ y, xs[5]? = some y := ⟨_, List.getElem?_eq_getElem (by rw [hlen]; decide)⟩
  rw [hy5, c5] at e5
  have f5 : DataW.trod enc Try.prog W base spare held n 22 [u5] = some y5 := e5
  obtain ⟨v5, k5, g5⟩ := (op_slice (d := (Kd.int .u8)) Try.underlying22 (by kernel_rfl) (op_int Try.underlying5)) enc base spare held n _ _ f5
  have c6 : Try.prog.cellsOf 3 = 1 := by kernel_rfl
  have e6 : DataW.trod enc Try.prog W base spare held n 3 (([u0, u1, u2, u3, u4, u5, u6].drop 6).take (Try.prog.cellsOf 3)) = xs[6]? := hf 6 _ rfl
  obtain ⟨y6, hy6⟩ : ∃ y, xs[6]? = some y := ⟨_, List.getElem?_eq_getElem (by rw [hlen]; decide)⟩
  rw [hy6, c6] at e6
  have f6 : DataW.trod enc Try.prog W base spare held n 3 [u6] = some y6 := e6
  obtain ⟨v6, k6, g6⟩ := (op_int Try.underlying3) enc base spare held n _ _ f6
  exact ⟨⟨v0, v1, v2, v3, v4, v5, v6⟩, ⟨[u0], [u1, u2, u3, u4, u5, u6], rfl, k0, ⟨[u1], [u2, u3, u4, u5, u6], rfl, k1, ⟨[u2], [u3, u4, u5, u6], rfl, k2, ⟨[u3], [u4, u5, u6], rfl, k3, ⟨[u4], [u5, u6], rfl, k4, ⟨[u5], [u6], rfl, k5, k6⟩⟩⟩⟩⟩⟩, g0, g1, g2, g3, g4, g5, g6⟩
theorem op_t47 (W : World) : Open.Op Try.prog W k47 47 (fun x_ : S47 => (fun xs_ : List Int => xs_.length ≤ maxLen ∧ ∀ x ∈ xs_, (fun n_ : Int => (Lit.int .u8 n_).wf = true) x) x_.f0 ∧ (fun xs_ : List Int => xs_.length ≤ maxLen ∧ ∀ x ∈ xs_, (fun n_ : Int => (Lit.int .u8 n_).wf = true) x) x_.f1) := by
  intro H enc base spare held fuel cs x h
  obtain ⟨xs, n, _, _, hl, hlen, hf⟩ := DataW.trod_struct Try.underlying47 h
  have hl' : cs.length = 2 := by rw [hl]; kernel_rfl
  obtain ⟨u0, u1, rfl⟩ : ∃ u0 u1, cs = [u0, u1] := by
    match cs, hl' with
    | [u0, u1], _ => exact ⟨_, _, rfl⟩
  have c0 : Try.prog.cellsOf 22 = 1 := by kernel_rfl
  have e0 : DataW.trod enc Try.prog W base spare held n 22 (([u0, u1].drop 0).take (Try.prog.cellsOf 22)) = xs[0]? := hf 0 _ rfl
  obtain ⟨y0, hy0⟩ : ∃ y, xs[0]? = some y := ⟨_, List.getElem?_eq_getElem (by rw [hlen]; decide)⟩
  rw [hy0, c0] at e0
  have f0 : DataW.trod enc Try.prog W base spare held n 22 [u0] = some y0 := e0
  obtain ⟨v0, k0, g0⟩ := (op_slice (d := (Kd.int .u8)) Try.underlying22 (by kernel_rfl) (op_int Try.underlying5)) enc base spare held n _ _ f0
  have c1 : Try.prog.cellsOf 22 = 1 := by kernel_rfl
  have e1 : DataW.trod enc Try.prog W base spare held n 22 (([u0, u1].drop 1).take (Try.prog.cellsOf 22)) = xs[1]? := hf 1 _ rfl
  obtain ⟨y1, hy1⟩ : ∃ y, xs[1]? = some y := ⟨_, List.getElem?_eq_getElem (by rw [hlen]; decide)⟩
  rw [hy1, c1] at e1
  have f1 : DataW.trod enc Try.prog W base spare held n 22 [u1] = some y1 := e1
  obtain ⟨v1, k1, g1⟩ := (op_slice (d := (Kd.int .u8)) Try.underlying22 (by kernel_rfl) (op_int Try.underlying5)) enc base spare held n _ _ f1
  exact ⟨⟨v0, v1⟩, ⟨[u0], [u1], rfl, k0, k1⟩, g0, g1⟩
theorem op_t36 (W : World) : Open.Op Try.prog W k36 36 (fun x_ : S36 => (fun n_ : Int => (Lit.int .i64 n_).wf = true) x_.f0 ∧ (fun _ : Bool => True) x_.f1 ∧ (fun xs_ : List Int => xs_.length ≤ maxLen ∧ ∀ x ∈ xs_, (fun n_ : Int => (Lit.int .u8 n_).wf = true) x) x_.f2 ∧ (fun xs_ : List (S47) => xs_.length ≤ maxLen ∧ ∀ x ∈ xs_, (fun x_ : S47 => (fun xs_ : List Int => xs_.length ≤ maxLen ∧ ∀ x ∈ xs_, (fun n_ : Int => (Lit.int .u8 n_).wf = true) x) x_.f0 ∧ (fun xs_ : List Int => xs_.length ≤ maxLen ∧ ∀ x ∈ xs_, (fun n_ : Int => (Lit.int .u8 n_).wf = true) x) x_.f1) x) x_.f3) := by
  intro H enc base spare held fuel cs x h
  obtain ⟨xs, n, _, _, hl, hlen, hf⟩ := DataW.trod_struct Try.underlying36 h
  have hl' : cs.length = 4 := by rw [hl]; kernel_rfl
  obtain ⟨u0, u1, u2, u3, rfl⟩ : ∃ u0 u1 u2 u3, cs = [u0, u1, u2, u3] := by
    match cs, hl' with
    | [u0, u1, u2, u3], _ => exact ⟨_, _, _, _, rfl⟩
  have c0 : Try.prog.cellsOf 27 = 1 := by kernel_rfl
  have e0 : DataW.trod enc Try.prog W base spare held n 27 (([u0, u1, u2, u3].drop 0).take (Try.prog.cellsOf 27)) = xs[0]? := hf 0 _ rfl
  obtain ⟨y0, hy0⟩ : ∃ y, xs[0]? = some y := ⟨_, List.getElem?_eq_getElem (by rw [hlen]; decide)⟩
  rw [hy0, c0] at e0
  have f0 : DataW.trod enc Try.prog W base spare held n 27 [u0] = some y0 := e0
  obtain ⟨v0, k0, g0⟩ := (op_int Try.underlying27) enc base spare held n _ _ f0
  have c1 : Try.prog.cellsOf 4 = 1 := by kernel_rfl
  have e1 : DataW.trod enc Try.prog W base spare held n 4 (([u0, u1, u2, u3].drop 1).take (Try.prog.cellsOf 4)) = xs[1]? := hf 1 _ rfl
  obtain ⟨y1, hy1⟩ : ∃ y, xs[1]? = some y := ⟨_, List.getElem?_eq_getElem (by rw [hlen]; decide)⟩
  rw [hy1, c1] at e1
  have f1 : DataW.trod enc Try.prog W base spare held n 4 [u1] = some y1 := e1
  obtain ⟨v1, k1, g1⟩ := (op_bool Try.underlying4) enc base spare held n _ _ f1
  have c2 : Try.prog.cellsOf 22 = 1 := by kernel_rfl
  have e2 : DataW.trod enc Try.prog W base spare held n 22 (([u0, u1, u2, u3].drop 2).take (Try.prog.cellsOf 22)) = xs[2]? := hf 2 _ rfl
  obtain ⟨y2, hy2⟩ : ∃ y, xs[2]? = some y := ⟨_, List.getElem?_eq_getElem (by rw [hlen]; decide)⟩
  rw [hy2, c2] at e2
  have f2 : DataW.trod enc Try.prog W base spare held n 22 [u2] = some y2 := e2
  obtain ⟨v2, k2, g2⟩ := (op_slice (d := (Kd.int .u8)) Try.underlying22 (by kernel_rfl) (op_int Try.underlying5)) enc base spare held n _ _ f2
  have c3 : Try.prog.cellsOf 34 = 1 := by kernel_rfl
  have e3 : DataW.trod enc Try.prog W base spare held n 34 (([u0, u1, u2, u3].drop 3).take (Try.prog.cellsOf 34)) = xs[3]? := hf 3 _ rfl
  obtain ⟨y3, hy3⟩ : ∃ y, xs[3]? = some y := ⟨_, List.getElem?_eq_getElem (by rw [hlen]; decide)⟩
  rw [hy3, c3] at e3
  have f3 : DataW.trod enc Try.prog W base spare held n 34 [u3] = some y3 := e3
  obtain ⟨v3, k3, g3⟩ := (op_slice (d := k47) Try.underlying34 (by kernel_rfl) (op_t47 W)) enc base spare held n _ _ f3
  exact ⟨⟨v0, v1, v2, v3⟩, ⟨[u0], [u1, u2, u3], rfl, k0, ⟨[u1], [u2, u3], rfl, k1, ⟨[u2], [u3], rfl, k2, k3⟩⟩⟩, g0, g1, g2, g3⟩
set_option maxRecDepth 100000 in
theorem lifted (os : Os) (started : os.Started) (H : Type) (enc : TypeId × Value → H) :
    ReturnsInHanded {} Try.checked os 7 .any (Rows.wireShortSpec.pre6 enc Try.prog Try.f7 Rows.wireShortRow.domain false) (Rows.wireShortSpec.post enc Try.prog Try.f7 false true false false) := by
  refine returnsInHanded_of_change_sized (C := Try.checked) own started (by kernel_rfl) Try.func7
    (ChangeSpec.witness6 (enc := enc) (C := Try.checked) false ⟨#[], #[.int .i64 0, .agg #[.int .i64 0, .int .i64 0, .slice none 0 0, .slice none 0 0, .bool false, .slice none 0 0, .int .i64 0], .agg #[.int .i64 0, .int .i64 0, .slice none 0 0, .slice none 0 0, .bool false, .slice none 0 0, .int .i64 0], .agg #[.int .i64 0, .bool false, .slice none 0 0, .slice none 0 0]], []⟩ 8 (by kernel_rfl) (by kernel_rfl) (by kernel_rfl) (by kernel_rfl)) ?_
  intro W base args ds gs before hval0 hW hcnd hsz0 _
  have hval : ∀ (j : Nat) t v, Try.f7.params[j]? = some t → args[j]? = some v → Value.okWide Try.prog W .any base t v := hval0
  have hW' := hW
  obtain ⟨p, q, hA0, hV, rfl, hfz, hnd⟩ := hW
  have hA : DataW.TrodAll enc Try.prog W 0 (fun _ => true) true Try.f7.params.toList args.toList ds p := hA0
  rw [Try.params7] at hA hval
  obtain ⟨v0, vs0, d0, ds0, p0, q0, hargs, rfl, rfl, h0, r0⟩ := trodAll_cons hA
  obtain ⟨v1, vs1, d1, ds1, p1, q1, rfl, rfl, rfl, h1, r1⟩ := trodAll_cons r0
  obtain ⟨v2, vs2, d2, ds2, p2, q2, rfl, rfl, rfl, h2, r2⟩ := trodAll_cons r1
  obtain ⟨v3, vs3, d3, ds3, p3, q3, rfl, rfl, rfl, h3, r3⟩ := trodAll_cons r2
  obtain ⟨rfl, rfl, rfl⟩ := trodAll_nil r3
  obtain rfl : args = #[v0, v1, v2, v3] := by cases args; simp_all
  obtain ⟨rfl, rfl⟩ := trodVars_none hV
  obtain ⟨a0, rfl, rfl, rfl, g0⟩ := open_int Try.underlying3 (hval 0 3 v0 rfl rfl) h0
  have k1 := h1
  have lt1 : ∀ x ∈ p1, x.block < W.heap.size := by obtain ⟨m, hm⟩ := k1; exact DataW.trod_lt m _ _ _ hm
  obtain ⟨cs1, rfl, hs1⟩ := okWide_struct Try.underlying24 (hval 1 24 v1 rfl rfl)
  obtain ⟨fu1, hf1⟩ := h1
  obtain ⟨z1, hz1, ⟨g1_0, g1_1, g1_2, g1_3, g1_4, g1_5, g1_6⟩⟩ := (op_t24 W) enc _ _ _ _ _ _ hf1
  obtain ⟨A1_2, c1_2, A1_3, c1_3, A1_5, c1_5, hcs1, hc1_2, hr1_2, hc1_3, hr1_3, hc1_5, hr1_5⟩ := k24_open hz1
  obtain rfl : cs1 = #[.int .i64 z1.f0, .int .i64 z1.f1, .slice A1_2 z1.f2.length c1_2, .slice A1_3 z1.f3.length c1_3, .bool z1.f4, .slice A1_5 z1.f5.length c1_5, .int .i64 z1.f6] := by apply Array.ext'; simpa [Value.cells] using hcs1
  have k2 := h2
  have lt2 : ∀ x ∈ p2, x.block < W.heap.size := by obtain ⟨m, hm⟩ := k2; exact DataW.trod_lt m _ _ _ hm
  obtain ⟨cs2, rfl, hs2⟩ := okWide_struct Try.underlying24 (hval 2 24 v2 rfl rfl)
  obtain ⟨fu2, hf2⟩ := h2
  obtain ⟨z2, hz2, ⟨g2_0, g2_1, g2_2, g2_3, g2_4, g2_5, g2_6⟩⟩ := (op_t24 W) enc _ _ _ _ _ _ hf2
  obtain ⟨A2_2, c2_2, A2_3, c2_3, A2_5, c2_5, hcs2, hc2_2, hr2_2, hc2_3, hr2_3, hc2_5, hr2_5⟩ := k24_open hz2
  obtain rfl : cs2 = #[.int .i64 z2.f0, .int .i64 z2.f1, .slice A2_2 z2.f2.length c2_2, .slice A2_3 z2.f3.length c2_3, .bool z2.f4, .slice A2_5 z2.f5.length c2_5, .int .i64 z2.f6] := by apply Array.ext'; simpa [Value.cells] using hcs2
  have k3 := h3
  have lt3 : ∀ x ∈ p3, x.block < W.heap.size := by obtain ⟨m, hm⟩ := k3; exact DataW.trod_lt m _ _ _ hm
  obtain ⟨cs3, rfl, hs3⟩ := okWide_struct Try.underlying36 (hval 3 36 v3 rfl rfl)
  obtain ⟨fu3, hf3⟩ := h3
  obtain ⟨z3, hz3, ⟨g3_0, g3_1, g3_2, g3_3⟩⟩ := (op_t36 W) enc _ _ _ _ _ _ hf3
  obtain ⟨A3_2, c3_2, A3_3, c3_3, hcs3, hc3_2, hr3_2, hc3_3, hr3_3⟩ := k36_open hz3
  obtain rfl : cs3 = #[.int .i64 z3.f0, .bool z3.f1, .slice A3_2 z3.f2.length c3_2, .slice A3_3 z3.f3.length c3_3] := by apply Array.ext'; simpa [Value.cells] using hcs3
  clear hA0 hval0 hsz0
  obtain ⟨k, hP⟩ := Pure.WireShort a0 z1.f0 z1.f1 z1.f2 z1.f3 z1.f4 z1.f5 z1.f6 z2.f0 z2.f1 z2.f2 z2.f3 z2.f4 z2.f5 z2.f6 z3.f0 z3.f1 z3.f2 z3.f3 g0 g1_0 g1_1 g1_2 g1_3 g1_5 g1_6 g2_0 g2_1 g2_2 g2_3 g2_5 g2_6 g3_0 g3_2 g3_3
  refine (banksmanlaw21_WireShort.calls k a0 z1.f0 z1.f1 A1_2 c1_2 z1.f2 A1_3 c1_3 z1.f3 z1.f4 A1_5 c1_5 z1.f5 z1.f6 z2.f0 z2.f1 A2_2 c2_2 z2.f2 A2_3 c2_3 z2.f3 z2.f4 A2_5 c2_5 z2.f5 z2.f6 z3.f0 z3.f1 A3_2 c3_2 z3.f2 A3_3 c3_3 z3.f3 true W hr1_2 hc1_2 hr1_3 hc1_3 hr1_5 hc1_5 hr2_2 hc2_2 hr2_3 hc2_3 hr2_5 hc2_5 hr3_2 hc3_2 hr3_3 hc3_3 hP rfl).mono fun e W' ⟨he, bel0⟩ => ?_
  have bel : Below W.heap.size W W' := bel0
  subst he
  exact ⟨_, rfl, _, _, _, [], _, [], hW', trodAll_mk1 (shut_bool Try.underlying4 _), (trodAll_cons_mk (shut_int Try.underlying3 g0) (trodAll_cons_mk (Below.trod laidOut (by kernel_rfl) (of_decide_eq_true (by kernel_rfl)) k1 bel lt1) (trodAll_cons_mk (Below.trod laidOut (by kernel_rfl) (of_decide_eq_true (by kernel_rfl)) k2 bel lt2) (trodAll_cons_mk (Below.trod laidOut (by kernel_rfl) (of_decide_eq_true (by kernel_rfl)) k3 bel lt3) trodAll_mk0)))), rfl, bel.frame _, fun h => by cases h⟩
theorem over : Rows.wireShortRow.holds Try.pinned (OpenSpec.ofChange Rows.wireShortSpec) :=
  OpenClaim.holds_of_wide 7 Try.f7 rfl rfl rfl rfl rfl rfl rfl ⟨rfl, rfl, rfl, rfl, rfl⟩ rfl rfl rfl rfl rfl (by kernel_rfl) Try.func7 (by kernel_rfl)
    (of_decide_eq_true (by kernel_rfl)) (by unfold Func.isWrapper; first | (rw [if_pos (by decide +kernel)]; kernel_rfl) | (rw [if_neg (by decide +kernel)]; exact ⟨rfl, rfl⟩))
    (fun os started H enc _ => lifted os started H enc)
theorem proved : Rows.WireShortSaid := over
#print axioms proved
end Go.Proofs.Ytfbjabpjfalmlaa.wireShort
namespace Go.Proofs.Ytfbjabpjfalmlaa
/-- The row, under a short name, for the claim. -/
theorem wireShort_holds : Rows.WireShortSaid := wireShort.proved
end Go.Proofs.Ytfbjabpjfalmlaa
