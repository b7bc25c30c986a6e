import Derived.Test.YtfbjabpjfalmlaaRows
import Derived.Test.YtfbjabpjfalmlaaPx50
import Derived.Test.YtfbjabpjfalmlaaPureWireReplies
import Derived.Test.YtfbjabpjfalmlaaOpen
namespace Go.Proofs.Ytfbjabpjfalmlaa.wireReplies
open Go.ChangeShapes Go.WideShapes Go.ChangeAt Go.RowKit Go.Proofs.Ytfbjabpjfalmlaa.Open Go.Proofs.Ytfbjabpjfalmlaa.P Go.Proofs.YtfbjabpjfalmlaaW.PrintWords
open Go.ChangeMaps (open_string shut_string)
set_option linter.unusedVariables false
theorem own : ownKnob Try.prog.godebug = none := by kernel_rfl
theorem laidOut : laidOutB Try.prog = true := by kernel_rfl
theorem op_t47 (W : World) : Open.Op Try.prog W k47 47 (fun x_ : S47 => (fun xs_ : List Int => xs_.length ≤ maxLen ∧ ∀ x ∈ xs_, (fun n_ : Int => (Lit.int .u8 n_).wf = true) x) x_.f0 ∧ (fun xs_ : List Int => xs_.length ≤ maxLen ∧ ∀ x ∈ xs_, (fun n_ : Int => (Lit.int .u8 n_).wf = true) x) x_.f1) := by
  intro H enc base spare held fuel cs x h
  obtain ⟨xs, n, _, _, hl, hlen, hf⟩ := DataW.trod_struct Try.underlying47 h
  have hl' : cs.length = 2 := by rw [hl]; kernel_rfl
  obtain ⟨u0, u1, rfl⟩ : ∃ u0 u1, cs = [u0, u1] := by
    match cs, hl' with
    | [u0, u1], _ => exact ⟨_, _, rfl⟩
  have c0 : Try.prog.cellsOf 22 = 1 := by kernel_rfl
  have e0 : DataW.trod enc Try.prog W base spare held n 22 (([u0, u1].drop 0).take (Try.prog.cellsOf 22)) = xs[0]? := hf 0 _ rfl
  obtain ⟨y0, hy0⟩ : ∃ y, xs[0]? = some y := ⟨_, List.getElem?_eq_getElem (by rw [hlen]; decide)⟩
  rw [hy0, c0] at e0
  have f0 : DataW.trod enc Try.prog W base spare held n 22 [u0] = some y0 := e0
  obtain ⟨v0, k0, g0⟩ := (op_slice (d := (Kd.int .u8)) Try.underlying22 (by kernel_rfl) (op_int Try.underlying5)) enc base spare held n _ _ f0
  have c1 : Try.prog.cellsOf 22 = 1 := by kernel_rfl
  have e1 : DataW.trod enc Try.prog W base spare held n 22 (([u0, u1].drop 1).take (Try.prog.cellsOf 22)) = xs[1]? := hf 1 _ rfl
  obtain ⟨y1, hy1⟩ : ∃ y, xs[1]? = some y := ⟨_, List.getElem?_eq_getElem (by rw [hlen]; decide)⟩
  rw [hy1, c1] at e1
  have f1 : DataW.trod enc Try.prog W base spare held n 22 [u1] = some y1 := e1
  obtain ⟨v1, k1, g1⟩ := (op_slice (d := (Kd.int .u8)) Try.underlying22 (by kernel_rfl) (op_int Try.underlying5)) enc base spare held n _ _ f1
  exact ⟨⟨v0, v1⟩, ⟨[u0], [u1], rfl, k0, k1⟩, g0, g1⟩
theorem op_t36 (W : World) : Open.Op Try.prog W k36 36 (fun x_ : S36 => (fun n_ : Int => (Lit.int .i64 n_).wf = true) x_.f0 ∧ (fun _ : Bool => True) x_.f1 ∧ (fun xs_ : List Int => xs_.length ≤ maxLen ∧ ∀ x ∈ xs_, (fun n_ : Int => (Lit.int .u8 n_).wf = true) x) x_.f2 ∧ (fun xs_ : List (S47) => xs_.length ≤ maxLen ∧ ∀ x ∈ xs_, (fun x_ : S47 => (fun xs_ : List Int => xs_.length ≤ maxLen ∧ ∀ x ∈ xs_, (fun n_ : Int => (Lit.int .u8 n_).wf = true) x) x_.f0 ∧ (fun xs_ : List Int => xs_.length ≤ maxLen ∧ ∀ x ∈ xs_, (fun n_ : Int => (Lit.int .u8 n_).wf = true) x) x_.f1) x) x_.f3) := by
  intro H enc base spare held fuel cs x h
  obtain ⟨xs, n, _, _, hl, hlen, hf⟩ := DataW.trod_struct Try.underlying36 h
  have hl' : cs.length = 4 := by rw [hl]; kernel_rfl
  obtain ⟨u0, u1, u2, u3, rfl⟩ : ∃ u0 u1 u2 u3, cs = [u0, u1, u2, u3] := by
    match cs, hl' with
    | [u0, u1, u2, u3], _ => exact ⟨_, _, _, _, rfl⟩
  have c0 : Try.prog.cellsOf 27 = 1 := by kernel_rfl
  have e0 : DataW.trod enc Try.prog W base spare held n 27 (([u0, u1, u2, u3].drop 0).take (Try.prog.cellsOf 27)) = xs[0]? := hf 0 _ rfl
  obtain ⟨y0, hy0⟩ : ∃ y, xs[0]? = some y := ⟨_, List.getElem?_eq_getElem (by rw [hlen]; decide)⟩
  rw [hy0, c0] at e0
  have f0 : DataW.trod enc Try.prog W base spare held n 27 [u0] = some y0 := e0
  obtain ⟨v0, k0, g0⟩ := (op_int Try.underlying27) enc base spare held n _ _ f0
  have c1 : Try.prog.cellsOf 4 = 1 := by kernel_rfl
  have e1 : DataW.trod enc Try.prog W base spare held n 4 (([u0, u1, u2, u3].drop 1).take (Try.prog.cellsOf 4)) = xs[1]? := hf 1 _ rfl
  obtain ⟨y1, hy1⟩ : ∃ y, xs[1]? = some y := ⟨_, List.getElem?_eq_getElem (by rw [hlen]; decide)⟩
  rw [hy1, c1] at e1
  have f1 : DataW.trod enc Try.prog W base spare held n 4 [u1] = some y1 := e1
  obtain ⟨v1, k1, g1⟩ := (op_bool Try.underlying4) enc base spare held n _ _ f1
  have c2 : Try.prog.cellsOf 22 = 1 := by kernel_rfl
  have e2 : DataW.trod enc Try.prog W base spare held n 22 (([u0, u1, u2, u3].drop 2).take (Try.prog.cellsOf 22)) = xs[2]? := hf 2 _ rfl
  obtain ⟨y2, hy2⟩ : ∃ y, xs[2]? = some y := ⟨_, List.getElem?_eq_getElem (by rw [hlen]; decide)⟩
  rw [hy2, c2] at e2
  have f2 : DataW.trod enc Try.prog W base spare held n 22 [u2] = some y2 := e2
  obtain ⟨v2, k2, g2⟩ := (op_slice (d := (Kd.int .u8)) Try.underlying22 (by kernel_rfl) (op_int Try.underlying5)) enc base spare held n _ _ f2
  have c3 : Try.prog.cellsOf 34 = 1 := by kernel_rfl
  have e3 : DataW.trod enc Try.prog W base spare held n 34 (([u0, u1, u2, u3].drop 3).take (Try.prog.cellsOf 34)) = xs[3]? := hf 3 _ rfl
  obtain ⟨y3, hy3⟩ : ∃ y, xs[3]? = some y := ⟨_, List.getElem?_eq_getElem (by rw [hlen]; decide)⟩
  rw [hy3, c3] at e3
  have f3 : DataW.trod enc Try.prog W base spare held n 34 [u3] = some y3 := e3
  obtain ⟨v3, k3, g3⟩ := (op_slice (d := k47) Try.underlying34 (by kernel_rfl) (op_t47 W)) enc base spare held n _ _ f3
  exact ⟨⟨v0, v1, v2, v3⟩, ⟨[u0], [u1, u2, u3], rfl, k0, ⟨[u1], [u2, u3], rfl, k1, ⟨[u2], [u3], rfl, k2, k3⟩⟩⟩, g0, g1, g2, g3⟩
set_option maxRecDepth 100000 in
theorem lifted (os : Os) (started : os.Started) (H : Type) (enc : TypeId × Value → H) :
    ReturnsInHanded {} Try.checked os 4 .any (Rows.wireRepliesSpec.pre6 enc Try.prog Try.f4 Rows.wireRepliesRow.domain false) (Rows.wireRepliesSpec.post enc Try.prog Try.f4 false true false false) := by
  refine returnsInHanded_of_change_sized (C := Try.checked) own started (by kernel_rfl) Try.func4
    (ChangeSpec.witness6 (enc := enc) (C := Try.checked) false ⟨#[], #[.agg #[.int .i64 0, .bool false, .slice none 0 0, .slice none 0 0], .slice none 0 0], []⟩ 8 (by kernel_rfl) (by kernel_rfl) (by kernel_rfl) (by kernel_rfl)) ?_
  intro W base args ds gs before hval0 hW hcnd hsz0 _
  have hval : ∀ (j : Nat) t v, Try.f4.params[j]? = some t → args[j]? = some v → Value.okWide Try.prog W .any base t v := hval0
  have hW' := hW
  obtain ⟨p, q, hA0, hV, rfl, hfz, hnd⟩ := hW
  have hA : DataW.TrodAll enc Try.prog W 0 (fun _ => true) true Try.f4.params.toList args.toList ds p := hA0
  rw [Try.params4] at hA hval
  obtain ⟨v0, vs0, d0, ds0, p0, q0, hargs, rfl, rfl, h0, r0⟩ := trodAll_cons hA
  obtain ⟨v1, vs1, d1, ds1, p1, q1, rfl, rfl, rfl, h1, r1⟩ := trodAll_cons r0
  obtain ⟨rfl, rfl, rfl⟩ := trodAll_nil r1
  obtain rfl : args = #[v0, v1] := by cases args; simp_all
  obtain ⟨rfl, rfl⟩ := trodVars_none hV
  have k0 := h0
  have lt0 : ∀ x ∈ p0, x.block < W.heap.size := by obtain ⟨m, hm⟩ := k0; exact DataW.trod_lt m _ _ _ hm
  obtain ⟨cs0, rfl, hs0⟩ := okWide_struct Try.underlying36 (hval 0 36 v0 rfl rfl)
  obtain ⟨fu0, hf0⟩ := h0
  obtain ⟨z0, hz0, ⟨g0_0, g0_1, g0_2, g0_3⟩⟩ := (op_t36 W) enc _ _ _ _ _ _ hf0
  obtain ⟨A0_2, c0_2, A0_3, c0_3, hcs0, hc0_2, hr0_2, hc0_3, hr0_3⟩ := k36_open hz0
  obtain rfl : cs0 = #[.int .i64 z0.f0, .bool z0.f1, .slice A0_2 z0.f2.length c0_2, .slice A0_3 z0.f3.length c0_3] := by apply Array.ext'; simpa [Value.cells] using hcs0
  have k1 := h1
  have lt1 : ∀ x ∈ p1, x.block < W.heap.size := by obtain ⟨m, hm⟩ := k1; exact DataW.trod_lt m _ _ _ hm
  obtain ⟨A1, len1, c1, rfl⟩ := okWide_slice Try.underlying22 (hval 1 22 v1 rfl rfl)
  obtain ⟨fu1, hf1⟩ := h1
  obtain ⟨l1, ⟨B1, e1, hcs1, hc1, hr1⟩, g1⟩ := (op_slice (d := (Kd.int .u8)) Try.underlying22 (by kernel_rfl) (op_int Try.underlying5)) enc _ _ _ _ _ _ hf1
  simp [Value.cells] at hcs1
  obtain ⟨rfl, rfl, rfl⟩ := hcs1
  clear hA0 hval0 hsz0
  obtain ⟨k, hP⟩ := Pure.WireReplies z0.f0 z0.f1 z0.f2 z0.f3 l1 g0_0 g0_2 g0_3 g1
  refine (banksmanlaw21_WireReplies.calls k z0.f0 z0.f1 A0_2 c0_2 z0.f2 A0_3 c0_3 z0.f3 A1 c1 l1 true W hr0_2 hc0_2 hr0_3 hc0_3 hr1 hc1 hP rfl).mono fun e W' ⟨he, bel0⟩ => ?_
  have bel : Below W.heap.size W W' := bel0
  subst he
  exact ⟨_, rfl, _, _, _, [], _, [], hW', trodAll_mk1 (shut_bool Try.underlying4 _), (trodAll_cons_mk (Below.trod laidOut (by kernel_rfl) (of_decide_eq_true (by kernel_rfl)) k0 bel lt0) (trodAll_cons_mk (Below.trod laidOut (by kernel_rfl) (of_decide_eq_true (by kernel_rfl)) k1 bel lt1) trodAll_mk0)), rfl, bel.frame _, fun h => by cases h⟩
theorem over : Rows.wireRepliesRow.holds Try.pinned (OpenSpec.ofChange Rows.wireRepliesSpec) :=
  OpenClaim.holds_of_wide 4 Try.f4 rfl rfl rfl rfl rfl rfl rfl ⟨rfl, rfl, rfl, rfl, rfl⟩ rfl rfl rfl rfl rfl (by kernel_rfl) Try.func4 (by kernel_rfl)
    (of_decide_eq_true (by kernel_rfl)) (by unfold Func.isWrapper; first | (rw [if_pos (by decide +kernel)]; kernel_rfl) | (rw [if_neg (by decide +kernel)]; exact ⟨rfl, rfl⟩))
    (fun os started H enc _ => lifted os started H enc)
theorem proved : Rows.WireRepliesSaid := over
#print axioms proved
end Go.Proofs.Ytfbjabpjfalmlaa.wireReplies
namespace Go.Proofs.Ytfbjabpjfalmlaa
theorem wireReplies_holds : Rows.WireRepliesSaid := wireReplies.proved
end Go.Proofs.Ytfbjabpjfalmlaa
