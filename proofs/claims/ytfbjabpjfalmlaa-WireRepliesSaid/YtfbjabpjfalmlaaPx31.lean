import Derived.Test.YtfbjabpjfalmlaaPx0
import Derived.Test.YtfbjabpjfalmlaaPx1
namespace Go.Proofs.Ytfbjabpjfalmlaa.P
open Go.RowKit Go.Proofs.YtfbjabpjfalmlaaW.PrintWords Go.Proofs.YtfbjabpjfalmlaaW.PrintLast Go.Proofs.YtfbjabpjfalmlaaW.PrintMore
attribute [local go_sem] max2_int min2_int max_two min_two max_three min_three max_four min_four
set_option linter.unusedVariables false
set_option linter.unusedSimpArgs false
def wire_Tell.f (l0 : List Int) : Option (Int × Bool × List Int × (List (S47)) × List Int × Int) := (tellF l0).bind fun res => match res with
  | none => some (0, false, [], [], [], 210)
  | some (er, op, v, ps, rest) => (wire_reply.f er op v ps).bind fun m => if m = true then (bytes_Clone.f rest).bind fun c => some (er, op, v, ps, c, 0) else some (0, false, [], [], [], 210)
set_option maxHeartbeats 4000000 in
set_option maxRecDepth 100000 in
theorem wire_Tell.calls (A0 : Option Addr) (c0 : Nat) (l0 : List Int) (r1 : Int) (r2 : Bool) (r3 : List Int) (r4 : List (S47)) (r5 : List Int) (r6 : Int) (w : World) (hr0 : Kd.C (Kd.int .u8) w A0 l0.length l0) (hc0 : l0.length ≤ c0) (h : wire_Tell.f l0 = some (r1, r2, r3, r4, r5, r6)) :
    Calls Try.prog 18 #[.slice A0 l0.length c0] w fun e w' => ∃ v2_ v3_ v4_ : Value, e = .returned (.tuple #[.agg #[.int .i64 r1, .bool r2, v2_, v3_], v4_, .int .i64 r6]) ∧ Kd.V (Kd.int .u8) 5 w' w.heap.size (fun k_ => (w.heap.size ≤ k_) ∧ some k_ ≠ (v3_ : Value).ownBlock ∧ some k_ ≠ (v4_ : Value).ownBlock) v2_ r3 ∧ Kd.N k47 47 w' w.heap.size (fun k_ => (w.heap.size ≤ k_) ∧ some k_ ≠ (v4_ : Value).ownBlock) v3_ r4 ∧ Kd.R (Kd.int .u8) 5 w' w.heap.size (fun k_ => (w.heap.size ≤ k_)) v4_ r5 ∧ Below w.heap.size w w' := by
  unfold wire_Tell.f at h
  have HF := Aside0.mk h
  have HR := Aside0.mk hr0
  have HC := Aside0.mk hc0
  clear h hr0 hc0
  have hmf : ∀ (fn : Fn) (first cap : Array Value) (w : World), (Instr.makeFunc fn first cap).run Try.prog w = .ok (.func fn first cap) w := fun _ _ _ _ => rfl
  have hu := Try.underlying36
  go_enter Try.func18, Try.ntmps18
  go_wp2_with (first | (go_at_call 27; (with_reducible refine (taker_calls _ _).mono ?_); rintro e X ⟨rfl, x2, x3, hbX, hsX⟩; simp only [World.size_alloc, Nat.add_assoc, Nat.reduceAdd] at x2 x3 hsX ⊢; have X2 := Aside0.mk x2; have X3 := Aside0.mk x3; have XB := Aside0.mk hbX; have XS := Aside0.mk hsX; clear x2 x3 hbX hsX) | ((with_reducible refine gate_store (t := 53) (p := 5) rfl ?_); (suffices hsuf : Aside0 _ from hsuf.out)))
  refine ⟨?_⟩
  have hxs := XS.out
  rw [hxs]
  simp only [Nat.add_assoc, Nat.reduceAdd]
  have V0 := Aside0.mk (RdV.start (w := w) (vb := .slice A0 l0.length c0) (a := .cells #[.nilFunc] 53) (b := .cells #[.nilFunc] 54) (c := .cells #[.nilFunc] 25) X2.out X3.out XB.out XS.out rfl rfl rfl rfl)
  have Z1 := Aside0.mk (show (((X.alloc (.cells #[.nilFunc] 53)).alloc (.cells #[.nilFunc] 54)).alloc (.cells #[.nilFunc] 25)).heap[w.heap.size + 1]? = some (.cells #[.int .i64 0, .bool false, .slice none 0 0, .slice none 0 0] 36 (0, 0)) from blk_alloc (blk_alloc (blk_alloc ((XB.out.block _ (by simp)).trans (new_at2 w _ _)) _) _) _)
  generalize ((X.alloc (.cells #[.nilFunc] 53)).alloc (.cells #[.nilFunc] 54)).alloc (.cells #[.nilFunc] 25) = Y at V0 Z1 ⊢
  clear X2 X3 XB XS hxs X
  have hc := (blk_cell V0.out.b4 0).trans (show _ = some _ from rfl)
  have hz := blk_frozen V0.out.b4 0
  go_wp2_with ((with_reducible refine gate_store (t := 54) (p := 6) rfl ?_); (suffices hsuf : Aside0 _ from hsuf.out))
  refine ⟨?_⟩
  have V1 := Aside0.mk (V0.out.set4 (.func (.func 41) #[] #[.pointer (some ⟨w.heap.size + 2, 0, none⟩)]))
  have Z2 := Aside0.mk ((Below.heap_setCell Y ⟨w.heap.size + 4, 0, none⟩ (.func (.func 41) #[] #[.pointer (some ⟨w.heap.size + 2, 0, none⟩)]) (w.heap.size + 1) (by show w.heap.size + 1 ≠ w.heap.size + 4; omega)).trans Z1.out)
  clear hc hz V0 Z1
  generalize Y.setCell ⟨w.heap.size + 4, 0, none⟩ (.func (.func 41) #[] #[.pointer (some ⟨w.heap.size + 2, 0, none⟩)]) = Y1 at V1 Z2 ⊢
  have hc := (blk_cell V1.out.b5 0).trans (show _ = some _ from rfl)
  have hz := blk_frozen V1.out.b5 0
  go_wp2_with ((with_reducible refine gate_store (t := 25) (p := 7) rfl ?_); (suffices hsuf : Aside0 _ from hsuf.out))
  refine ⟨?_⟩
  have V2 := Aside0.mk (V1.out.set5 (.func (.func 44) #[] #[.pointer (some ⟨w.heap.size + 2, 0, none⟩)]))
  have Z3 := Aside0.mk ((Below.heap_setCell Y1 ⟨w.heap.size + 5, 0, none⟩ (.func (.func 44) #[] #[.pointer (some ⟨w.heap.size + 2, 0, none⟩)]) (w.heap.size + 1) (by show w.heap.size + 1 ≠ w.heap.size + 5; omega)).trans Z2.out)
  clear hc hz V1 Z2
  generalize Y1.setCell ⟨w.heap.size + 5, 0, none⟩ (.func (.func 44) #[] #[.pointer (some ⟨w.heap.size + 2, 0, none⟩)]) = Y2 at V2 Z3 ⊢
  have hc := (blk_cell V2.out.b6 0).trans (show _ = some _ from rfl)
  have hz := blk_frozen V2.out.b6 0
  go_wp2_with (go_at_call 28; (suffices hsuf : Aside0 _ from hsuf.out))
  refine ⟨?_⟩
  have V3 := Aside0.mk (V2.out.set6 (.func (.func 47) #[] #[.pointer (some ⟨w.heap.size + 3, 0, none⟩)]))
  have Z4 := Aside0.mk ((Below.heap_setCell Y2 ⟨w.heap.size + 6, 0, none⟩ (.func (.func 47) #[] #[.pointer (some ⟨w.heap.size + 3, 0, none⟩)]) (w.heap.size + 1) (by show w.heap.size + 1 ≠ w.heap.size + 6; omega)).trans Z3.out)
  have hY2 := V2.out.sz
  clear hc hz V2 Z3
  generalize Y2.setCell ⟨w.heap.size + 6, 0, none⟩ (.func (.func 47) #[] #[.pointer (some ⟨w.heap.size + 3, 0, none⟩)]) = Y3 at V3 Z4 ⊢
  rw [hY2]
  simp only [Nat.add_assoc, Nat.add_zero, Nat.reduceAdd]
  have hY3 := V3.out.sz
  have hS := heap_alloc_new Y3 (.cells #[.int .i64 0, .bool false, .slice none 0 0, .slice none 0 0] 36 (0, 0))
  rw [hY3] at hS
  have V5 := Aside0.mk (V3.out.alloc (.cells #[.int .i64 0, .bool false, .slice none 0 0, .slice none 0 0] 36 (0, 0)))
  have hS5 := Aside0.mk hS
  have Z5 := Aside0.mk (blk_alloc Z4.out (.cells #[.int .i64 0, .bool false, .slice none 0 0, .slice none 0 0] 36 (0, 0)))
  have hY5 := V5.out.sz
  clear hY2 hY3 hS V3 Z4
  generalize Y3.alloc (.cells #[.int .i64 0, .bool false, .slice none 0 0, .slice none 0 0] 36 (0, 0)) = Y5 at V5 hS5 Z5 hY5 ⊢
  have V6 := V5.out.alloc (.cells #[.bool false] 4 (0, 0))
  have h9 := heap_alloc_new Y5 (.cells #[.bool false] 4 (0, 0))
  rw [hY5] at h9
  have HD := Aside0.mk (TlS.mk (W := Y5.alloc (.cells #[.bool false] 4 (0, 0))) (V6.tk HR.out HC.out (M := w.heap.size + 8) (ok := fun k_ => w.heap.size + 9 ≤ k_ ∧ some k_ ≠ (Value.slice none 0 0).ownBlock) (by omega) (by rw [World.size_alloc, hY5]; omega) (fun k hk => ⟨by rw [World.size_alloc, hY5] at hk; omega, by simp [Value.ownBlock]⟩)) (Below.refl _ _) (blk_alloc Z5.out (.cells #[.bool false] 4 (0, 0))) h9 (blk_alloc hS5.out (.cells #[.bool false] 4 (0, 0))) (Kd.V_nil (Kd.int .u8) 5 _ 0 _) (Kd.N_nil k47 47 _ _ _) (by rw [World.size_alloc, hY5]; omega))
  have HB6 := Aside0.mk V6.hb
  clear V6 h9
  obtain ⟨res, hres, hF⟩ := Option.bind_eq_some_iff.mp HF.out
  have eg := enters_of (P := Try.prog) Try.func34 (by kernel_rfl) rfl
  cases res with
  | none =>
    obtain ⟨rfl, rfl, rfl, rfl, rfl, rfl⟩ : 0 = r1 ∧ false = r2 ∧ [] = r3 ∧ [] = r4 ∧ [] = r5 ∧ 210 = r6 := by simpa using hF
    refine (take_lost 34 _ Y5 (fun W => Below w.heap.size (Y5.alloc (.cells #[.bool false] 4 (0, 0))) W ∧ W.heap[w.heap.size + 1]? = some (.cells #[.int .i64 0, .bool false, .slice none 0 0, .slice none 0 0] 36 (0, 0)) ∧ W.heap[w.heap.size + 8]? = some (.cells #[.bool false] 4 (0, 0))) (fun W hW => by rw [hY5]; exact hW.2.2) eg ((tellDo HD.out hres).mono ?_)).mono ?_
    · rintro e W (⟨x, _, rfl, hb, h1, h9⟩ | ⟨_, _, _, _, _, _, _, hh, _⟩)
      · exact ⟨x, rfl, hb, h1, h9⟩
      · cases hh
    rintro e W' ⟨rfl, x, W, ⟨hb, h1, h9⟩, rfl⟩
    have hz := (Below.heap_setCell (W.alloc (.cells #[.int .i64 x] 64)) ⟨w.heap.size + 8, 0, none⟩ (.bool false) (w.heap.size + 1) (by show w.heap.size + 1 ≠ w.heap.size + 8; omega)).trans (blk_alloc h1 _)
    have hb7 := (below_alloc (HB6.out.trans hb) (.cells #[.int .i64 x] 64)).setCell (p := ⟨w.heap.size + 8, 0, none⟩) (by show w.heap.size ≤ w.heap.size + 8; omega) (.bool false)
    rw [hY5]
    have HZ := Aside0.mk hz
    have HB7 := Aside0.mk hb7
    clear hz hb7 h1 h9 hb HD HR HC
    generalize (W.alloc (.cells #[.int .i64 x] 64)).setCell ⟨w.heap.size + 8, 0, none⟩ (.bool false) = W7 at HZ HB7 ⊢
    simp only []
    go_wp2_with ((with_reducible refine gate_store (t := 36) (p := 2) rfl ?_); (suffices hsuf : Aside0 _ from hsuf.out))
    refine ⟨?_⟩
    refine storeL_row_ 36 (.tmp 2) (.tmp 24) rfl rfl rfl (w.heap.size + 1) #[.int .i64 0, .bool false, .slice none 0 0, .slice none 0 0] rfl rfl 36 _ HZ.out (by kernel_rfl) rfl (by simp [Value.oneCell']) ?_
    have HB8 := Aside0.mk (below_setRow HB7.out (show w.heap.size ≤ w.heap.size + 1 by omega) #[.int .i64 0, .bool false, .slice none 0 0, .slice none 0 0])
    have HO8 := setRow_heap W7 (w.heap.size + 1) _ #[.int .i64 0, .bool false, .slice none 0 0, .slice none 0 0] 36 (0, 0) HZ.out
    generalize W7.setRow (w.heap.size + 1) #[.int .i64 0, .bool false, .slice none 0 0, .slice none 0 0] = W8 at HB8 HO8 ⊢
    go_wp2_with (fail)
    have q0 := (blk_cell HO8 0).trans (show _ = some _ from rfl)
    have q1 := (blk_cell HO8 1).trans (show _ = some _ from rfl)
    have q2 := (blk_cell HO8 2).trans (show _ = some _ from rfl)
    have q3 := (blk_cell HO8 3).trans (show _ = some _ from rfl)
    refine bodyPost_ret (v := .tuple #[.agg #[.int .i64 0, .bool false, .slice none 0 0, .slice none 0 0], .slice none 0 0, .int .i64 210]) (by simp [results, Try.results18, go_sem, q0, q1, q2, q3]) rfl ?_
    exact ⟨_, _, _, rfl, Kd.V_nil _ _ _ _ _, Kd.N_nil _ _ _ _ _, Kd.R_nil _ _ _ _ _, HB8.out⟩
  | some q =>
    obtain ⟨er, op, v, ps, rest⟩ := q
    simp only at hF
    refine (take_ok 34 _ Y5 (fun W => ∃ uv u, TlS w.heap.size (some (.cells #[.int .i64 0, .bool false, .slice none 0 0, .slice none 0 0] 36 (0, 0))) (some (.cells #[.bool false] 4 (0, 0))) (Y5.alloc (.cells #[.bool false] 4 (0, 0))) W rest (.int .i64 er) (.bool op) uv v u ps) (fun W hW => by obtain ⟨_, _, hW⟩ := hW; rw [hY5]; exact hW.b9) eg ((tellDo HD.out hres).mono ?_)).mono ?_
    · rintro e W (⟨x, hh, _⟩ | ⟨er', op', v', ps', rest', uv, u, hh, rfl, hR⟩)
      · cases hh
      · obtain ⟨rfl, rfl, rfl, rfl, rfl⟩ : er = er' ∧ op = op' ∧ v = v' ∧ ps = ps' ∧ rest = rest' := by simpa using hh
        exact ⟨rfl, uv, u, hR⟩
    rintro e W' ⟨rfl, W, ⟨uv, u, hR⟩, rfl⟩
    obtain ⟨Av, cv, rfl⟩ := Kd.V_slice hR.tv
    obtain ⟨Au, cu, rfl⟩ := Kd.N_slice hR.hp
    obtain ⟨vb, hvb, Ab, cb, rfl, hcb, hrb⟩ := hR.tk.bx
    rw [hY5]
    have hf : ∀ j, j ≠ w.heap.size + 8 → (W.setCell ⟨w.heap.size + 8, 0, none⟩ (.bool true)).heap[j]? = W.heap[j]? := fun j hj => Below.heap_setCell W ⟨w.heap.size + 8, 0, none⟩ (.bool true) j hj
    have hbW : Below w.heap.size W (W.setCell ⟨w.heap.size + 8, 0, none⟩ (.bool true)) := (Below.refl _ W).setCell (p := ⟨w.heap.size + 8, 0, none⟩) (by show w.heap.size ≤ w.heap.size + 8; omega) (.bool true)
    have HZ := Aside0.mk ((hf _ (by omega)).trans hR.b1)
    have HV := Aside0.mk ((hf _ (by omega)).trans hvb)
    have HO7 := Aside0.mk ((hf _ (by omega)).trans hR.bo)
    have TV := Aside0.mk (Kd.V_step hR.tv (fun j hj _ => hf j (by have := hj.1; omega)))
    have TP := Aside0.mk (Kd.N_step hR.hp (fun j hj _ => hf j (by have h3 : w.heap.size + 9 ≤ j := hj; omega)))
    have TR := Aside0.mk (And.intro (hrb _ hbW (fun j _ hj => hf j (by have := hj.1; omega))) hcb)
    have HB7 := Aside0.mk ((HB6.out.trans hR.hb).trans hbW)
    clear hR hvb hcb hrb hf hbW HD HR HC HF hres
    generalize W.setCell ⟨w.heap.size + 8, 0, none⟩ (.bool true) = W7 at HZ HV HO7 TV TP TR HB7 ⊢
    simp only []
    have v0 := (blk_cell HV.out 0).trans (show _ = some _ from rfl)
    have o0 := (blk_cell HO7.out 0).trans (show _ = some _ from rfl)
    have o1 := (blk_cell HO7.out 1).trans (show _ = some _ from rfl)
    have o2 := (blk_cell HO7.out 2).trans (show _ = some _ from rfl)
    have o3 := (blk_cell HO7.out 3).trans (show _ = some _ from rfl)
    obtain ⟨m, hm, hF⟩ := Option.bind_eq_some_iff.mp hF
    have HM := Aside0.mk (wire_reply.calls er op Av cv v Au cu ps m W7 (Kd.V_reads' TV.out).2.2 (Kd.V_reads' TV.out).2.1 (Kd.N_reads' TP.out).2.2 (Kd.N_reads' TP.out).2.1 hm)
    clear hm
    cases m with
    | false =>
      rw [if_neg (by decide)] at hF
      obtain ⟨rfl, rfl, rfl, rfl, rfl, rfl⟩ : 0 = r1 ∧ false = r2 ∧ [] = r3 ∧ [] = r4 ∧ [] = r5 ∧ 210 = r6 := by simpa using hF
      go_wp2_with (first | (go_at_call 32; (with_reducible refine HM.out.mono ?_); rintro e1 W9 ⟨rfl, hb⟩; have HB9 := Aside0.mk (below_step HB7.out hb); have HZ9 := Aside0.mk (blk_below HZ.out hb); have HV9 := Aside0.mk (blk_below HV.out hb); have HO9 := Aside0.mk (blk_below HO7.out hb); have TV9 := Aside0.mk (Kd.V_below TV.out hb); have TP9 := Aside0.mk (Kd.N_below TP.out hb); have TR9 := Aside0.mk (And.intro (Kd.C_below TR.out.1 hb) TR.out.2); clear hb v0 o0 o1 o2 o3) | ((with_reducible refine gate_store (t := 36) (p := 2) rfl ?_); (suffices hsuf : Aside0 _ from hsuf.out)))
      refine ⟨?_⟩
      refine storeL_row_ 36 (.tmp 2) (.tmp 24) rfl rfl rfl (w.heap.size + 1) #[.int .i64 0, .bool false, .slice none 0 0, .slice none 0 0] rfl rfl 36 _ HZ9.out (by kernel_rfl) rfl (by simp [Value.oneCell']) ?_
      have HB8 := Aside0.mk (below_setRow HB9.out (show w.heap.size ≤ w.heap.size + 1 by omega) #[.int .i64 0, .bool false, .slice none 0 0, .slice none 0 0])
      have HO8 := setRow_heap W9 (w.heap.size + 1) _ #[.int .i64 0, .bool false, .slice none 0 0, .slice none 0 0] 36 (0, 0) HZ9.out
      generalize W9.setRow (w.heap.size + 1) #[.int .i64 0, .bool false, .slice none 0 0, .slice none 0 0] = W8 at HB8 HO8 ⊢
      go_wp2_with (fail)
      have q0 := (blk_cell HO8 0).trans (show _ = some _ from rfl)
      have q1 := (blk_cell HO8 1).trans (show _ = some _ from rfl)
      have q2 := (blk_cell HO8 2).trans (show _ = some _ from rfl)
      have q3 := (blk_cell HO8 3).trans (show _ = some _ from rfl)
      refine bodyPost_ret (v := .tuple #[.agg #[.int .i64 0, .bool false, .slice none 0 0, .slice none 0 0], .slice none 0 0, .int .i64 210]) (by simp [results, Try.results18, go_sem, q0, q1, q2, q3]) rfl ?_
      exact ⟨_, _, _, rfl, Kd.V_nil _ _ _ _ _, Kd.N_nil _ _ _ _ _, Kd.R_nil _ _ _ _ _, HB8.out⟩
    | true =>
      rw [if_pos rfl] at hF
      obtain ⟨cl, hcl, hF⟩ := Option.bind_eq_some_iff.mp hF
      obtain ⟨rfl, rfl, rfl, rfl, rfl, rfl⟩ : er = r1 ∧ op = r2 ∧ v = r3 ∧ ps = r4 ∧ cl = r5 ∧ 0 = r6 := by simpa using hF
      have HCL := Aside0.mk hcl
      clear hcl hF
      go_wp2_with (first | (go_at_call 32; (with_reducible refine HM.out.mono ?_); rintro e1 W9 ⟨rfl, hb⟩; have HB9 := Aside0.mk (below_step HB7.out hb); have HZ9 := Aside0.mk (blk_below HZ.out hb); have HV9 := Aside0.mk (blk_below HV.out hb); have HO9 := Aside0.mk (blk_below HO7.out hb); have TV9 := Aside0.mk (Kd.V_below TV.out hb); have TP9 := Aside0.mk (Kd.N_below TP.out hb); have TR9 := Aside0.mk (And.intro (Kd.C_below TR.out.1 hb) TR.out.2); clear hb v0 o0 o1 o2 o3))
      have HB10 := Aside0.mk HB9.out.drew
      have HZ10 := Aside0.mk (show W9.drew.heap[w.heap.size + 1]? = _ from HZ9.out)
      have HV10 := Aside0.mk (show W9.drew.heap[w.heap.size]? = _ from HV9.out)
      have HO10 := Aside0.mk (show W9.drew.heap[w.heap.size + 7]? = _ from HO9.out)
      have TV10 := Aside0.mk (Kd.V_drew TV9.out)
      have TP10 := Aside0.mk (Kd.N_drew TP9.out)
      have TR10 := Aside0.mk (And.intro (Kd.C_drew TR9.out.1) TR9.out.2)
      refine start_ (n := 6) (S := fun w' => w'.cell? ⟨w.heap.size, 0, none⟩ = some (.slice Ab rest.length cb) ∧ w'.cell? ⟨w.heap.size + 7, 0, none⟩ = some (.int .i64 er) ∧ w'.cell? ⟨w.heap.size + 7, 1, none⟩ = some (.bool op) ∧ w'.cell? ⟨w.heap.size + 7, 2, none⟩ = some (.slice Av v.length cv) ∧ w'.cell? ⟨w.heap.size + 7, 3, none⟩ = some (.slice Au ps.length cu)) (ds := [3]) #[false, false, false, false, false, false] (by kernel_rfl) rfl rfl ⟨(blk_cell HV9.out 0).trans rfl, (blk_cell HO9.out 0).trans rfl, (blk_cell HO9.out 1).trans rfl, (blk_cell HO9.out 2).trans rfl, (blk_cell HO9.out 3).trans rfl⟩ (fun hHeld => ?_)
      clear HB9 HZ9 HV9 HO9 TV9 TP9 TR9
      generalize W9.drew = W10 at HB10 HZ10 HV10 HO10 TV10 TP10 TR10 hHeld ⊢
      refine take_ (i := 0) (N := some 25) (v := ?_) (a' := ?_) #[true, false, false, false, false, false] rfl rfl (by kernel_rfl) (fun _ _ _ h => h) (Or.inl ⟨by rfl, ?_⟩) hHeld ?_ ?_
      rotate_left
      · rintro w' ⟨s0, s1, s2, s3, s4⟩
        go_simp
        with_reducible rfl
      rotate_left
      · simp only [Act.put, List.setIfInBounds_toArray, List.set_cons_zero, List.set_cons_succ]
        rfl
      refine take_ (i := 1) (N := some 26) (v := ?_) (a' := ?_) #[true, true, false, false, false, false] rfl rfl (by kernel_rfl) (fun _ _ _ h => h) (Or.inl ⟨by rfl, ?_⟩) hHeld ?_ ?_
      rotate_left
      · rintro w' ⟨s0, s1, s2, s3, s4⟩
        go_simp
        with_reducible rfl
      rotate_left
      · simp only [Act.put, List.setIfInBounds_toArray, List.set_cons_zero, List.set_cons_succ]
        rfl
      refine one_ (i := 2) (N := some 27) #[true, true, true, false, false, false] rfl rfl (by kernel_rfl) (by decide) (fun K hK => ?_)
      refine goes_ Try.func35 (by kernel_rfl) rfl #[.slice Ab rest.length cb] (by rfl) rfl rfl (by (try simp only [List.map_toArray, List.map_cons, List.map_nil]); first | done | rfl) ?_
      refine (bytes_Clone.calls Ab cb rest cl W10 TR10.out.1 TR10.out.2 HCL.out).mono ?_
      rintro e W11 ⟨vc, rfl, hc, hb⟩
      obtain ⟨Ac, cc, rfl⟩ := Kd.R_slice hc
      have hbase : ∀ k, (Value.slice Ac cl.length cc).ownBlock = some k → W10.heap.size ≤ k := Kd.R_base hc
      have HB11 := Aside0.mk (below_step HB10.out hb)
      have HZ11 := Aside0.mk (blk_below HZ10.out hb)
      have HV11 := Aside0.mk (blk_below HV10.out hb)
      have HO11 := Aside0.mk (blk_below HO10.out hb)
      have TV11 := Aside0.mk (Kd.V_elder' TV10.out hbase hb)
      have TP11 := Aside0.mk (Kd.N_elder' TP10.out hbase hb)
      have TC11 := Aside0.mk (Kd.R_mono (Kd.R_tight rfl hc) (fun k_ hk_ => (show W10.heap.size ≤ k_ from hbase k_ hk_.symm)))
      have hs10 := HB10.out.size
      have hz10 := blk_lt HO10.out
      clear hc hb hbase
      refine ⟨_, rfl, ?_⟩
      refine hK.out _ _ ⟨(blk_cell HV11.out 0).trans rfl, (blk_cell HO11.out 0).trans rfl, (blk_cell HO11.out 1).trans rfl, (blk_cell HO11.out 2).trans rfl, (blk_cell HO11.out 3).trans rfl⟩ (fun hHeld => ?_)
      clear hK K
      refine norm_ (a' := ?_) ?_ ?_
      rotate_left
      · show Act.put _ (some 27) _ = _
        simp only [Act.put, List.setIfInBounds_toArray, List.set_cons_zero, List.set_cons_succ]
        rfl
      refine last_ (i := 3) (N := none) #[true, true, true, true, false, false] rfl rfl (by kernel_rfl) (by decide) (fun K hK => ?_)
      refine store_row_ 36 (.tmp 2) (.tmp 25) rfl rfl rfl (w.heap.size + 1) #[.int .i64 er, .bool op, .slice Av v.length cv, .slice Au ps.length cu] rfl rfl 36 _ HZ11.out (by kernel_rfl) rfl (by simp [Value.oneCell']) ?_
      refine hK.out _ _ ?_
      clear hK K
      have HB12 := Aside0.mk (below_setRow HB11.out (show w.heap.size ≤ w.heap.size + 1 by omega) #[.int .i64 er, .bool op, .slice Av v.length cv, .slice Au ps.length cu])
      have HO12 := setRow_heap W11 (w.heap.size + 1) _ #[.int .i64 er, .bool op, .slice Av v.length cv, .slice Au ps.length cu] 36 (0, 0) HZ11.out
      have TV12 := Aside0.mk (Kd.V_step TV11.out (fun j hj _ => setRow_other W11 (w.heap.size + 1) j #[.int .i64 er, .bool op, .slice Av v.length cv, .slice Au ps.length cu] (by have := hj.1.1; omega)))
      have TP12 := Aside0.mk (Kd.N_step TP11.out (fun j hj _ => setRow_other W11 (w.heap.size + 1) j #[.int .i64 er, .bool op, .slice Av v.length cv, .slice Au ps.length cu] (by have := hj.1; omega)))
      have TC12 := Aside0.mk (Kd.R_step TC11.out (fun j hj _ => setRow_other W11 (w.heap.size + 1) j #[.int .i64 er, .bool op, .slice Av v.length cv, .slice Au ps.length cu] (by have h3 : W10.heap.size ≤ j := hj; omega)))
      generalize W11.setRow (w.heap.size + 1) #[.int .i64 er, .bool op, .slice Av v.length cv, .slice Au ps.length cu] = W12 at HB12 HO12 TV12 TP12 TC12 ⊢
      refine pure_ (i := 4) (N := some 3) (v := ?_) (a' := ?_) #[true, true, true, true, true, false] rfl rfl (by kernel_rfl) (fun _ _ _ h => h) (Or.inl ⟨by rfl, ?_⟩) ?_ ?_
      rotate_left
      · intro w'
        go_simp
        with_reducible rfl
      rotate_left
      · simp only [Act.put, List.setIfInBounds_toArray, List.set_cons_zero, List.set_cons_succ]
        rfl
      refine pure_ (i := 5) (N := some 4) (v := ?_) (a' := ?_) #[true, true, true, true, true, true] rfl rfl (by kernel_rfl) (fun _ _ _ h => h) (Or.inl ⟨by rfl, ?_⟩) ?_ ?_
      rotate_left
      · intro w'
        go_simp
        with_reducible rfl
      rotate_left
      · simp only [Act.put, List.setIfInBounds_toArray, List.set_cons_zero, List.set_cons_succ]
        rfl
      refine done_ (by kernel_rfl) ?_
      clear hHeld
      go_wp2
      have q0 := (blk_cell HO12 0).trans (show _ = some _ from rfl)
      have q1 := (blk_cell HO12 1).trans (show _ = some _ from rfl)
      have q2 := (blk_cell HO12 2).trans (show _ = some _ from rfl)
      have q3 := (blk_cell HO12 3).trans (show _ = some _ from rfl)
      refine bodyPost_ret (v := .tuple #[.agg #[.int .i64 er, .bool op, .slice Av v.length cv, .slice Au ps.length cu], .slice Ac cl.length cc, .int .i64 0]) (by simp [results, Try.results18, go_sem, q0, q1, q2, q3]) rfl ?_
      exact ⟨_, _, _, rfl, Kd.V_mono (show Kd.V (Kd.int .u8) 5 W12 w.heap.size _ _ _ from TV12.out) (fun j hj => ⟨by have := hj.1.1; omega, hj.1.2, hj.2⟩), Kd.N_mono (Kd.N_lower TP12.out (by omega)) (fun j hj => ⟨by have := hj.1; omega, hj.2⟩), Kd.R_mono (Kd.R_lower TC12.out (by omega)) (fun j hj => by have h3 : W10.heap.size ≤ j := hj; show w.heap.size ≤ j; omega), HB12.out⟩
end Go.Proofs.Ytfbjabpjfalmlaa.P
