import Derived.Test.YtbjeaalbdaedpaaPx0
import Derived.Lib.SliceRun
namespace Go.Proofs.Ytbjeaalbdaedpaa.P
open Go.RowKit Go.Proofs.YtbjeaalbdaedpaaW.PrintWords Go.Proofs.YtbjeaalbdaedpaaW.PrintLast Go.Proofs.YtbjeaalbdaedpaaW.PrintMore
attribute [local go_sem] max2_int min2_int max_two min_two max_three min_three max_four min_four
set_option linter.unusedVariables false
set_option linter.unusedSimpArgs false
def slices_Clone_Pair.f (l0 : List (S53)) : Option ((List (S53))) := if l0.length < 2199023255552 then some l0 else none
set_option maxHeartbeats 1000000 in
set_option maxRecDepth 100000 in
theorem slices_Clone_Pair.calls (P0_ : Nat → Prop) (A0 : Option Addr) (c0 : Nat) (l0 : List (S53)) (r : List (S53)) (w : World) (hs0 : Kd.V k53 53 w w.heap.size (fun k_ => P0_ k_) (.slice A0 l0.length c0) l0) (h : slices_Clone_Pair.f l0 = some r) :
    Calls Try.prog 45 #[.slice A0 l0.length c0] w fun e w' => ∃ v0_ : Value, e = .returned (v0_) ∧ Kd.N k53 53 w' w.heap.size (fun k_ => (P0_ k_ ∨ w.heap.size ≤ k_)) v0_ r ∧ Below w.heap.size w w' := by
  unfold slices_Clone_Pair.f at h
  have hlt : l0.length < 2199023255552 := Classical.byContradiction fun hn => by rw [if_neg hn] at h; cases h
  rw [if_pos hlt] at h
  obtain rfl := Option.some.inj h
  clear h
  have hF := Kd.V_F hs0
  cases A0 with
  | none =>
    have hl : l0.length = 0 := Classical.byContradiction fun hn => by
      obtain ⟨ad, he, _⟩ := (Kd.F_now hF).2.2 (by omega)
      cases he
    obtain rfl : l0 = [] := List.length_eq_zero_iff.mp hl
    have ke : ∀ w, (binOp .eql 40 (.slice none 0 c0) (.slice none 0 0)).run Try.prog w = .ok (.bool true) w := fun w => Lib.run_eql_slice_nil w _ _ none 0 c0 0 0 Try.underlying40
    clear hs0 hl hF
    go_enter Try.func45, Try.ntmps45
    go_wp2
    go_ret
    exact ⟨_, rfl, Kd.N_nil _ _ _ _ _, Below.refl _ _⟩
  | some a =>
    have ke : ∀ w, (binOp .eql 40 (.slice (some a) l0.length c0) (.slice none 0 0)).run Try.prog w = .ok (.bool false) w := fun w => Lib.run_eql_slice_nil w _ _ (some a) l0.length c0 0 0 Try.underlying40
    have HF := Aside0.mk hF
    clear hs0 hF
    go_enter Try.func45, Try.ntmps45
    go_wp2_with (first | ((with_reducible refine gate_dst (N := 5) rfl ?_); refine Kd.R_lit k53 w.heap.size 53 ?hg (N := 5) ?hd (xs := ([] : List S53)) (inner := []) (ok := fun k => w.heap.size ≤ k) (okp := fun k => w.heap.size ≤ k) ?hr ?hp (fun _ hk => hk) (Nat.le_refl _) (Below.refl _ _) (Nat.le_refl _) (by simp) ?_; (case hd => rfl); (case hg => rfl); (case hr => first | (go_simp; done) | (go_simp; rfl)); (case hp => exact (Reps.none _ _)); intro v5 w5 ho5 hb5 hg5 hn5; have HO5 := Aside0.mk (Kd.R_N ho5); have HB5 := Aside0.mk hb5; clear ho5 hb5 hg5 hn5) | ((with_reducible refine gate_builtin (b := .append) (xs := #[.tmp 5, .tmp 6]) rfl ?_); at_builtin; refine Kd.N_append_rows k53 (w0 := w) w.heap.size rfl (.tmp 5) (.tmp 6) 40 53 _ _ rfl Try.underlying40 info53 rfl (by decide) (by omega) _ [] l0 _ _ _ (fun k => P0_ k ∨ w.heap.size ≤ k) (fun k => P0_ k ∧ k < w.heap.size) rfl rfl (Kd.N_mono HO5.out (fun k hk => .inr hk)) (Kd.F_below (Kd.F_bound HF.out) HB5.out) (fun k hk => ⟨.inl hk.1, fun he => by have := Kd.N_base HO5.out k he.symm; have := hk.2; omega⟩) (fun k hk => .inr (Nat.le_trans (below_size HB5.out) hk)) HB5.out (below_size HB5.out) (by simp; omega) ?_; intro v7 w7 ho7 hb7 hg7 ha7; have HO7 := Aside0.mk ho7; have HB7 := Aside0.mk hb7; clear ho7 hb7 hg7 ha7))
    go_ret
    exact ⟨_, rfl, HO7.out, HB7.out⟩
end Go.Proofs.Ytbjeaalbdaedpaa.P
