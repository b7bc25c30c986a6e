import Derived.Test.YtbjeaalbdaedpaaRows
import Derived.Test.YtbjeaalbdaedpaaPx103
import Derived.Test.YtbjeaalbdaedpaaPureDeltaTwice
import Derived.Test.YtbjeaalbdaedpaaOpen
namespace Go.Proofs.Ytbjeaalbdaedpaa.deltaTwice
open Go.ChangeShapes Go.WideShapes Go.ChangeAt Go.RowKit Go.Proofs.Ytbjeaalbdaedpaa.Open Go.Proofs.Ytbjeaalbdaedpaa.P Go.Proofs.YtbjeaalbdaedpaaW.PrintWords
open Go.ChangeMaps (open_string shut_string)
set_option linter.unusedVariables false
theorem own : ownKnob Try.prog.godebug = none := by kernel_rfl
theorem laidOut : laidOutB Try.prog = true := by kernel_rfl
theorem op_t28 (W : World) : Open.Op Try.prog W k28 28 (fun x_ : S28 => (fun n_ : Int => (Lit.int .i64 n_).wf = true) x_.f0 ∧ (fun xs_ : List Int => xs_.length ≤ maxLen ∧ ∀ x ∈ xs_, (fun n_ : Int => (Lit.int .u8 n_).wf = true) x) x_.f1 ∧ (fun _ : Bool => True) x_.f2 ∧ (fun xs_ : List Int => xs_.length ≤ maxLen ∧ ∀ x ∈ xs_, (fun n_ : Int => (Lit.int .u8 n_).wf = true) x) x_.f3) := by
  intro H enc base spare held fuel cs x h
  obtain ⟨xs, n, _, _, hl, hlen, hf⟩ := DataW.trod_struct Try.underlying28 h
  have hl' : cs.length = 4 := by rw [hl]; kernel_rfl
  obtain ⟨u0, u1, u2, u3, rfl⟩ : ∃ u0 u1 u2 u3, cs = [u0, u1, u2, u3] := by
    clear hf hl h
    match cs, hl' with
    | [u0, u1, u2, u3], _ => exact ⟨_, _, _, _, rfl⟩
  have c0 : Try.prog.cellsOf 3 = 1 := by kernel_rfl
  have e0 : DataW.trod enc Try.prog W base spare held n 3 (([u0, u1, u2, u3].drop 0).take (Try.prog.cellsOf 3)) = xs[0]? := hf 0 _ rfl
  obtain ⟨y0, hy0⟩ : ∃ y, xs[0]? = some y := ⟨_, List.getElem?_eq_getElem (by rw [hlen]; decide)⟩
  rw [hy0, c0] at e0
  have f0 : DataW.trod enc Try.prog W base spare held n 3 [u0] = some y0 := e0
  obtain ⟨v0, k0, g0⟩ := (op_int Try.underlying3) enc base spare held n _ _ f0
  have c1 : Try.prog.cellsOf 26 = 1 := by kernel_rfl
  have e1 : DataW.trod enc Try.prog W base spare held n 26 (([u0, u1, u2, u3].drop 1).take (Try.prog.cellsOf 26)) = xs[1]? := hf 1 _ rfl
  obtain ⟨y1, hy1⟩ : ∃ y, xs[1]? = some y := ⟨_, List.getElem?_eq_getElem (by rw [hlen]; decide)⟩
  rw [hy1, c1] at e1
  have f1 : DataW.trod enc Try.prog W base spare held n 26 [u1] = some y1 := e1
  obtain ⟨v1, k1, g1⟩ := (op_slice (d := (Kd.int .u8)) Try.underlying26 (by kernel_rfl) (op_int Try.underlying5)) enc base spare held n _ _ f1
  have c2 : Try.prog.cellsOf 4 = 1 := by kernel_rfl
  have e2 : DataW.trod enc Try.prog W base spare held n 4 (([u0, u1, u2, u3].drop 2).take (Try.prog.cellsOf 4)) = xs[2]? := hf 2 _ rfl
  obtain ⟨y2, hy2⟩ : ∃ y, xs[2]? = some y := ⟨_, List.getElem?_eq_getElem (by rw [hlen]; decide)⟩
  rw [hy2, c2] at e2
  have f2 : DataW.trod enc Try.prog W base spare held n 4 [u2] = some y2 := e2
  obtain ⟨v2, k2, g2⟩ := (op_bool Try.underlying4) enc base spare held n _ _ f2
  have c3 : Try.prog.cellsOf 26 = 1 := by kernel_rfl
  have e3 : DataW.trod enc Try.prog W base spare held n 26 (([u0, u1, u2, u3].drop 3).take (Try.prog.cellsOf 26)) = xs[3]? := hf 3 _ rfl
  obtain ⟨y3, hy3⟩ : ∃ y, xs[3]? = some y := ⟨_, List.getElem?_eq_getElem (by rw [hlen]; decide)⟩
  rw [hy3, c3] at e3
  have f3 : DataW.trod enc Try.prog W base spare held n 26 [u3] = some y3 := e3
  obtain ⟨v3, k3, g3⟩ := (op_slice (d := (Kd.int .u8)) Try.underlying26 (by kernel_rfl) (op_int Try.underlying5)) enc base spare held n _ _ f3
  exact ⟨⟨v0, v1, v2, v3⟩, ⟨[u0], [u1, u2, u3], rfl, k0, ⟨[u1], [u2, u3], rfl, k1, ⟨[u2], [u3], rfl, k2, k3⟩⟩⟩, g0, g1, g2, g3⟩
theorem op_t25 (W : World) : Open.Op Try.prog W k25 25 (fun x_ : S25 => (fun xs_ : List (S28) => xs_.length ≤ maxLen ∧ ∀ x ∈ xs_, (fun x_ : S28 => (fun n_ : Int => (Lit.int .i64 n_).wf = true) x_.f0 ∧ (fun xs_ : List Int => xs_.length ≤ maxLen ∧ ∀ x ∈ xs_, (fun n_ : Int => (Lit.int .u8 n_).wf = true) x) x_.f1 ∧ (fun _ : Bool => True) x_.f2 ∧ (fun xs_ : List Int => xs_.length ≤ maxLen ∧ ∀ x ∈ xs_, (fun n_ : Int => (Lit.int .u8 n_).wf = true) x) x_.f3) x) x_.f0 ∧ (fun xs_ : List Int => xs_.length ≤ maxLen ∧ ∀ x ∈ xs_, (fun n_ : Int => (Lit.int .i64 n_).wf = true) x) x_.f1) := by
  intro H enc base spare held fuel cs x h
  obtain ⟨xs, n, _, _, hl, hlen, hf⟩ := DataW.trod_struct Try.underlying25 h
  have hl' : cs.length = 2 := by rw [hl]; kernel_rfl
  obtain ⟨u0, u1, rfl⟩ : ∃ u0 u1, cs = [u0, u1] := by
    clear hf hl h
    match cs, hl' with
    | [u0, u1], _ => exact ⟨_, _, rfl⟩
  have c0 : Try.prog.cellsOf 22 = 1 := by kernel_rfl
  have e0 : DataW.trod enc Try.prog W base spare held n 22 (([u0, u1].drop 0).take (Try.prog.cellsOf 22)) = xs[0]? := hf 0 _ rfl
  obtain ⟨y0, hy0⟩ : ∃ y, xs[0]? = some y := ⟨_, List.getElem?_eq_getElem (by rw [hlen]; decide)⟩
  rw [hy0, c0] at e0
  have f0 : DataW.trod enc Try.prog W base spare held n 22 [u0] = some y0 := e0
  obtain ⟨v0, k0, g0⟩ := (op_slice (d := k28) Try.underlying22 (by kernel_rfl) (op_t28 W)) enc base spare held n _ _ f0
  have c1 : Try.prog.cellsOf 23 = 1 := by kernel_rfl
  have e1 : DataW.trod enc Try.prog W base spare held n 23 (([u0, u1].drop 1).take (Try.prog.cellsOf 23)) = xs[1]? := hf 1 _ rfl
  obtain ⟨y1, hy1⟩ : ∃ y, xs[1]? = some y := ⟨_, List.getElem?_eq_getElem (by rw [hlen]; decide)⟩
  rw [hy1, c1] at e1
  have f1 : DataW.trod enc Try.prog W base spare held n 23 [u1] = some y1 := e1
  obtain ⟨v1, k1, g1⟩ := (op_slice (d := (Kd.int .i64)) Try.underlying23 (by kernel_rfl) (op_int Try.underlying3)) enc base spare held n _ _ f1
  exact ⟨⟨v0, v1⟩, ⟨[u0], [u1], rfl, k0, k1⟩, g0, g1⟩
theorem op_t39 (W : World) : Open.Op Try.prog W k39 39 (fun x_ : S39 => (fun n_ : Int => (Lit.int .i64 n_).wf = true) x_.f0 ∧ (fun xs_ : List Int => xs_.length ≤ maxLen ∧ ∀ x ∈ xs_, (fun n_ : Int => (Lit.int .u8 n_).wf = true) x) x_.f1 ∧ (fun xs_ : List Int => xs_.length ≤ maxLen ∧ ∀ x ∈ xs_, (fun n_ : Int => (Lit.int .u8 n_).wf = true) x) x_.f2 ∧ (fun _ : Bool => True) x_.f3) := by
  intro H enc base spare held fuel cs x h
  obtain ⟨xs, n, _, _, hl, hlen, hf⟩ := DataW.trod_struct Try.underlying39 h
  have hl' : cs.length = 4 := by rw [hl]; kernel_rfl
  obtain ⟨u0, u1, u2, u3, rfl⟩ : ∃ u0 u1 u2 u3, cs = [u0, u1, u2, u3] := by
    clear hf hl h
    match cs, hl' with
    | [u0, u1, u2, u3], _ => exact ⟨_, _, _, _, rfl⟩
  have c0 : Try.prog.cellsOf 3 = 1 := by kernel_rfl
  have e0 : DataW.trod enc Try.prog W base spare held n 3 (([u0, u1, u2, u3].drop 0).take (Try.prog.cellsOf 3)) = xs[0]? := hf 0 _ rfl
  obtain ⟨y0, hy0⟩ : ∃ y, xs[0]? = some y := ⟨_, List.getElem?_eq_getElem (by rw [hlen]; decide)⟩
  rw [hy0, c0] at e0
  have f0 : DataW.trod enc Try.prog W base spare held n 3 [u0] = some y0 := e0
  obtain ⟨v0, k0, g0⟩ := (op_int Try.underlying3) enc base spare held n _ _ f0
  have c1 : Try.prog.cellsOf 26 = 1 := by kernel_rfl
  have e1 : DataW.trod enc Try.prog W base spare held n 26 (([u0, u1, u2, u3].drop 1).take (Try.prog.cellsOf 26)) = xs[1]? := hf 1 _ rfl
  obtain ⟨y1, hy1⟩ : ∃ y, xs[1]? = some y := ⟨_, List.getElem?_eq_getElem (by rw [hlen]; decide)⟩
  rw [hy1, c1] at e1
  have f1 : DataW.trod enc Try.prog W base spare held n 26 [u1] = some y1 := e1
  obtain ⟨v1, k1, g1⟩ := (op_slice (d := (Kd.int .u8)) Try.underlying26 (by kernel_rfl) (op_int Try.underlying5)) enc base spare held n _ _ f1
  have c2 : Try.prog.cellsOf 26 = 1 := by kernel_rfl
  have e2 : DataW.trod enc Try.prog W base spare held n 26 (([u0, u1, u2, u3].drop 2).take (Try.prog.cellsOf 26)) = xs[2]? := hf 2 _ rfl
  obtain ⟨y2, hy2⟩ : ∃ y, xs[2]? = some y := ⟨_, List.getElem?_eq_getElem (by rw [hlen]; decide)⟩
  rw [hy2, c2] at e2
  have f2 : DataW.trod enc Try.prog W base spare held n 26 [u2] = some y2 := e2
  obtain ⟨v2, k2, g2⟩ := (op_slice (d := (Kd.int .u8)) Try.underlying26 (by kernel_rfl) (op_int Try.underlying5)) enc base spare held n _ _ f2
  have c3 : Try.prog.cellsOf 4 = 1 := by kernel_rfl
  have e3 : DataW.trod enc Try.prog W base spare held n 4 (([u0, u1, u2, u3].drop 3).take (Try.prog.cellsOf 4)) = xs[3]? := hf 3 _ rfl
  obtain ⟨y3, hy3⟩ : ∃ y, xs[3]? = some y := ⟨_, List.getElem?_eq_getElem (by rw [hlen]; decide)⟩
  rw [hy3, c3] at e3
  have f3 : DataW.trod enc Try.prog W base spare held n 4 [u3] = some y3 := e3
  obtain ⟨v3, k3, g3⟩ := (op_bool Try.underlying4) enc base spare held n _ _ f3
  exact ⟨⟨v0, v1, v2, v3⟩, ⟨[u0], [u1, u2, u3], rfl, k0, ⟨[u1], [u2, u3], rfl, k1, ⟨[u2], [u3], rfl, k2, k3⟩⟩⟩, g0, g1, g2, g3⟩
theorem op_t53 (W : World) : Open.Op Try.prog W k53 53 (fun x_ : S53 => (fun xs_ : List Int => xs_.length ≤ maxLen ∧ ∀ x ∈ xs_, (fun n_ : Int => (Lit.int .u8 n_).wf = true) x) x_.f0 ∧ (fun xs_ : List Int => xs_.length ≤ maxLen ∧ ∀ x ∈ xs_, (fun n_ : Int => (Lit.int .u8 n_).wf = true) x) x_.f1) := by
  intro H enc base spare held fuel cs x h
  obtain ⟨xs, n, _, _, hl, hlen, hf⟩ := DataW.trod_struct Try.underlying53 h
  have hl' : cs.length = 2 := by rw [hl]; kernel_rfl
  obtain ⟨u0, u1, rfl⟩ : ∃ u0 u1, cs = [u0, u1] := by
    clear hf hl h
    match cs, hl' with
    | [u0, u1], _ => exact ⟨_, _, rfl⟩
  have c0 : Try.prog.cellsOf 26 = 1 := by kernel_rfl
  have e0 : DataW.trod enc Try.prog W base spare held n 26 (([u0, u1].drop 0).take (Try.prog.cellsOf 26)) = xs[0]? := hf 0 _ rfl
  obtain ⟨y0, hy0⟩ : ∃ y, xs[0]? = some y := ⟨_, List.getElem?_eq_getElem (by rw [hlen]; decide)⟩
  rw [hy0, c0] at e0
  have f0 : DataW.trod enc Try.prog W base spare held n 26 [u0] = some y0 := e0
  obtain ⟨v0, k0, g0⟩ := (op_slice (d := (Kd.int .u8)) Try.underlying26 (by kernel_rfl) (op_int Try.underlying5)) enc base spare held n _ _ f0
  have c1 : Try.prog.cellsOf 26 = 1 := by kernel_rfl
  have e1 : DataW.trod enc Try.prog W base spare held n 26 (([u0, u1].drop 1).take (Try.prog.cellsOf 26)) = xs[1]? := hf 1 _ rfl
  obtain ⟨y1, hy1⟩ : ∃ y, xs[1]? = some y := ⟨_, List.getElem?_eq_getElem (by rw [hlen]; decide)⟩
  rw [hy1, c1] at e1
  have f1 : DataW.trod enc Try.prog W base spare held n 26 [u1] = some y1 := e1
  obtain ⟨v1, k1, g1⟩ := (op_slice (d := (Kd.int .u8)) Try.underlying26 (by kernel_rfl) (op_int Try.underlying5)) enc base spare held n _ _ f1
  exact ⟨⟨v0, v1⟩, ⟨[u0], [u1], rfl, k0, k1⟩, g0, g1⟩
set_option maxRecDepth 100000 in
theorem lifted (os : Os) (started : os.Started) (H : Type) (enc : TypeId × Value → H) :
    ReturnsInHanded {} Try.checked os 7 .any (Rows.deltaTwiceSpec.pre6 enc Try.prog Try.f7 Rows.deltaTwiceRow.domain false) (Rows.deltaTwiceSpec.post enc Try.prog Try.f7 false true false false) := by
  refine returnsInHanded_of_change_sized (C := Try.checked) own started (by kernel_rfl) Try.func7
    (ChangeSpec.witness6 (enc := enc) (C := Try.checked) false ⟨#[], #[.agg #[.slice none 0 0, .slice none 0 0], .agg #[.int .i64 0, .slice none 0 0, .slice none 0 0, .bool false], .slice none 0 0], []⟩ 8 (by kernel_rfl) (by kernel_rfl) (by kernel_rfl) (by kernel_rfl)) ?_
  intro W base args ds gs before hval0 hW hcnd hsz0 _
  have hval : ∀ (j : Nat) t v, Try.f7.params[j]? = some t → args[j]? = some v → Value.okWide Try.prog W .any base t v := hval0
  have hW' := hW
  obtain ⟨p, q, hA0, hV, rfl, hfz, hnd⟩ := hW
  have hA : DataW.TrodAll enc Try.prog W 0 (fun _ => true) true Try.f7.params.toList args.toList ds p := hA0
  rw [Try.params7] at hA hval
  obtain ⟨v0, vs0, d0, ds0, p0, q0, hargs, rfl, rfl, h0, r0⟩ := trodAll_cons hA
  obtain ⟨v1, vs1, d1, ds1, p1, q1, rfl, rfl, rfl, h1, r1⟩ := trodAll_cons r0
  obtain ⟨v2, vs2, d2, ds2, p2, q2, rfl, rfl, rfl, h2, r2⟩ := trodAll_cons r1
  obtain ⟨rfl, rfl, rfl⟩ := trodAll_nil r2
  obtain rfl : args = #[v0, v1, v2] := by cases args; simp_all
  obtain ⟨rfl, rfl⟩ := trodVars_none hV
  have k0 := h0
  have lt0 : ∀ x ∈ p0, x.block < W.heap.size := by obtain ⟨m, hm⟩ := k0; exact DataW.trod_lt m _ _ _ hm
  obtain ⟨cs0, rfl, hs0⟩ := okWide_struct Try.underlying25 (hval 0 25 v0 rfl rfl)
  obtain ⟨fu0, hf0⟩ := h0
  obtain ⟨z0, hz0, ⟨g0_0, g0_1⟩⟩ := (op_t25 W) enc _ _ _ _ _ _ hf0
  obtain ⟨A0_0, c0_0, A0_1, c0_1, hcs0, hc0_0, hr0_0, hc0_1, hr0_1⟩ := k25_open hz0
  obtain rfl : cs0 = #[.slice A0_0 z0.f0.length c0_0, .slice A0_1 z0.f1.length c0_1] := by apply Array.ext'; simpa [Value.cells] using hcs0
  have k1 := h1
  have lt1 : ∀ x ∈ p1, x.block < W.heap.size := by obtain ⟨m, hm⟩ := k1; exact DataW.trod_lt m _ _ _ hm
  obtain ⟨cs1, rfl, hs1⟩ := okWide_struct Try.underlying39 (hval 1 39 v1 rfl rfl)
  obtain ⟨fu1, hf1⟩ := h1
  obtain ⟨z1, hz1, ⟨g1_0, g1_1, g1_2, g1_3⟩⟩ := (op_t39 W) enc _ _ _ _ _ _ hf1
  obtain ⟨A1_1, c1_1, A1_2, c1_2, hcs1, hc1_1, hr1_1, hc1_2, hr1_2⟩ := k39_open hz1
  obtain rfl : cs1 = #[.int .i64 z1.f0, .slice A1_1 z1.f1.length c1_1, .slice A1_2 z1.f2.length c1_2, .bool z1.f3] := by apply Array.ext'; simpa [Value.cells] using hcs1
  have k2 := h2
  have lt2 : ∀ x ∈ p2, x.block < W.heap.size := by obtain ⟨m, hm⟩ := k2; exact DataW.trod_lt m _ _ _ hm
  obtain ⟨A2, len2, c2, rfl⟩ := okWide_slice Try.underlying40 (hval 2 40 v2 rfl rfl)
  obtain ⟨fu2, hf2⟩ := h2
  obtain ⟨l2, ⟨B2, e2, hcs2, hc2, hr2⟩, g2⟩ := (op_slice (d := k53) Try.underlying40 (by kernel_rfl) (op_t53 W)) enc _ _ _ _ _ _ hf2
  simp [Value.cells] at hcs2
  obtain ⟨rfl, rfl, rfl⟩ := hcs2
  clear hA0 hval0 hsz0
  obtain ⟨k, hP⟩ := Pure.DeltaTwice z0.f0 z0.f1 z1.f0 z1.f1 z1.f2 z1.f3 l2 g0_0 g0_1 g1_0 g1_1 g1_2 g2
  refine (banksmanlaw08_DeltaTwice.calls k A0_0 c0_0 z0.f0 A0_1 c0_1 z0.f1 z1.f0 A1_1 c1_1 z1.f1 A1_2 c1_2 z1.f2 z1.f3 A2 c2 l2 true W hr0_0 hc0_0 hr0_1 hc0_1 hr1_1 hc1_1 hr1_2 hc1_2 hr2 hc2 hP rfl).mono fun e W' ⟨he, bel0⟩ => ?_
  have bel : Below W.heap.size W W' := bel0
  subst he
  exact ⟨_, rfl, _, _, _, [], _, [], hW', trodAll_mk1 (shut_bool Try.underlying4 _), (trodAll_cons_mk (Below.trod laidOut (by kernel_rfl) (of_decide_eq_true (by kernel_rfl)) k0 bel lt0) (trodAll_cons_mk (Below.trod laidOut (by kernel_rfl) (of_decide_eq_true (by kernel_rfl)) k1 bel lt1) (trodAll_cons_mk (Below.trod laidOut (by kernel_rfl) (of_decide_eq_true (by kernel_rfl)) k2 bel lt2) trodAll_mk0))), rfl, bel.frame _, fun h => by cases h⟩
theorem over : Rows.deltaTwiceRow.holds Try.pinned (OpenSpec.ofChange Rows.deltaTwiceSpec) :=
  OpenClaim.holds_of_wide 7 Try.f7 rfl rfl rfl rfl rfl rfl rfl ⟨rfl, rfl, rfl, rfl, rfl⟩ rfl rfl rfl rfl rfl (by kernel_rfl) Try.func7 (by kernel_rfl)
    (of_decide_eq_true (by kernel_rfl)) (by unfold Func.isWrapper; first | (rw [if_pos (by decide +kernel)]; kernel_rfl) | (rw [if_neg (by decide +kernel)]; exact ⟨rfl, rfl⟩))
    (fun os started H enc _ => lifted os started H enc)
theorem proved : Rows.DeltaTwiceSaid := over
#print axioms proved
end Go.Proofs.Ytbjeaalbdaedpaa.deltaTwice
namespace Go.Proofs.Ytbjeaalbdaedpaa
theorem deltaTwice_holds : Rows.DeltaTwiceSaid := deltaTwice.proved
end Go.Proofs.Ytbjeaalbdaedpaa
