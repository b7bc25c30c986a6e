-- Written by wip/gprint.py, a program of this session over the kit's print; Lean checks it.
import Derived.Test.YtbenenpkbdldmaaPx0
import Derived.Test.YtbenenpkbdldmaaPx14
import Derived.Test.YtbenenpkbdldmaaPx15
namespace Go.Proofs.Ytbenenpkbdldmaa.P
open Go.RowKit Go.Proofs.YtbenenpkbdldmaaW.PrintWords Go.Proofs.YtbenenpkbdldmaaW.PrintLast Go.Proofs.YtbenenpkbdldmaaW.PrintMore
attribute [local go_sem] max2_int min2_int max_two min_two max_three min_three max_four min_four   -- for this text's walks alone
set_option linter.unusedVariables false
set_option linter.unusedSimpArgs false

/-GIVEN octet_TakeText-/
/-! ### octet_TakeText: function 40 -/
def octet_TakeText.f (l0 : List Int) : Option (List Int × List Int × Int) := (octet_Take.f l0).bind fun p => if p.2.2 = 0 then (if p.1 < 0 then none else if p.1 > 65535 then some ([], [], 10) else if p.1 > (p.2.1.length : Int) then some ([], [], 10) else if p.2.1.length < 140737488355328 then some (p.2.1.take p.1.toNat, p.2.1.drop p.1.toNat, 0) else none) else some ([], [], 10)
set_option maxHeartbeats 2000000 in
set_option maxRecDepth 100000 in
theorem octet_TakeText.calls (A0 : Option Addr) (c0 : Nat) (l0 : List Int) (r1 : List Int) (r2 : List Int) (r3 : Int) (w : World) (hr0 : Kd.C (Kd.int .u8) w A0 l0.length l0) (hc0 : l0.length ≤ c0) (h : octet_TakeText.f l0 = some (r1, r2, r3)) :
    Calls Try.prog 40 #[.slice A0 l0.length c0] w fun e w' => ∃ v0_ v1_ : Value, e = .returned (.tuple #[v0_, v1_, .int .i64 r3]) ∧ Kd.V (Kd.int .u8) 5 w' w.heap.size (fun k_ => (w.heap.size ≤ k_) ∧ some k_ ≠ (v1_ : Value).ownBlock) v0_ r1 ∧ Kd.R (Kd.int .u8) 5 w' w.heap.size (fun k_ => (w.heap.size ≤ k_)) v1_ r2 ∧ Below w.heap.size w w' := by
  unfold octet_TakeText.f at h
  obtain ⟨⟨n, t, e⟩, hT, h⟩ := Option.bind_eq_some_iff.mp h
  simp only at h
  have HT := Aside0.mk hT
  have HR := Aside0.mk hr0
  have HC := Aside0.mk hc0
  clear hT hr0 hc0
  by_cases he : e = 0
  · rw [if_pos he] at h
    subst he
    by_cases h0 : n < 0
    · rw [if_pos h0] at h; cases h
    rw [if_neg h0] at h
    by_cases h1 : n > 65535
    · rw [if_pos h1] at h
      obtain ⟨rfl, rfl, rfl⟩ : [] = r1 ∧ [] = r2 ∧ 10 = r3 := by simpa using h
      clear h
      go_enter Try.func40, Try.ntmps40
      go_wp2_with (go_at_call 42; refine (octet_Take.calls A0 c0 l0 n t 0 _ HR.out HC.out HT.out).mono ?_; rintro e w1 ⟨v1, rfl, ho1, hb1⟩)
      refine bodyPost_ret (results_tmp3 rfl _ _ _) rfl ?_
      exact ⟨_, _, rfl, Kd.V_nil _ _ _ _ _, Kd.R_nil _ _ _ _ _, hb1⟩
    rw [if_neg h1] at h
    by_cases h2 : n > (t.length : Int)
    · rw [if_pos h2] at h
      obtain ⟨rfl, rfl, rfl⟩ : [] = r1 ∧ [] = r2 ∧ 10 = r3 := by simpa using h
      clear h
      go_enter Try.func40, Try.ntmps40
      go_wp2_with (go_at_call 42; refine (octet_Take.calls A0 c0 l0 n t 0 _ HR.out HC.out HT.out).mono ?_; rintro e w1 ⟨v1, rfl, ho1, hb1⟩; obtain ⟨A1, c1, e1⟩ := Kd.R_slice ho1; subst e1)
      refine bodyPost_ret (results_tmp3 rfl _ _ _) rfl ?_
      exact ⟨_, _, rfl, Kd.V_nil _ _ _ _ _, Kd.R_nil _ _ _ _ _, hb1⟩
    rw [if_neg h2] at h
    by_cases h3 : t.length < 140737488355328
    · rw [if_pos h3] at h
      obtain ⟨rfl, rfl, rfl⟩ : t.take n.toNat = r1 ∧ t.drop n.toNat = r2 ∧ 0 = r3 := by simpa using h
      clear h
      obtain ⟨m, rfl⟩ := Int.eq_ofNat_of_zero_le (show 0 ≤ n by omega)
      simp only [Int.toNat_natCast]
      have hm : m ≤ t.length := by omega
      obtain ⟨y, hy⟩ : ∃ y, y = t.drop m := ⟨_, rfl⟩
      have hyl : y.length = t.length - m := by rw [hy, List.length_drop]
      have HCL := Aside0.mk (show bytes_Clone.f y = some y by unfold bytes_Clone.f; rw [if_pos (by omega)])
      have HY := Aside0.mk hy
      rw [← hy]
      clear hy
      go_enter Try.func40, Try.ntmps40
      go_wp2_with (go_at_call 42; refine (octet_Take.calls A0 c0 l0 m t 0 _ HR.out HC.out HT.out).mono ?_; rintro e w1 ⟨v1, rfl, ho1, hb1⟩; obtain ⟨A1, c1, e1⟩ := Kd.R_slice ho1; subst e1)
      have hr := Kd.C_drop (m := m) (c := c1) (Kd.R_reads' ho1).2.2 hm (Kd.R_reads' ho1).2.1
      rw [← HY.out] at hr
      obtain ⟨i0, hi0, _, hsz, _⟩ := info_parts info5
      have hcut := cut_from (P := Try.prog) 23 5 .i64 Try.underlying23 hi0 1 hsz A1 t.length c1 (m : Int) (by omega) (by omega)
      obtain ⟨A2, hA2⟩ : ∃ A2, A2 = (if c1 = m then A1 else A1.map (·.add (m * 1))) := ⟨_, rfl⟩
      obtain ⟨c2, hc2⟩ : ∃ c2, c2 = c1 - m := ⟨_, rfl⟩
      rw [Int.toNat_natCast, ← hA2, ← hc2, ← hyl] at hcut
      have hrow1 := (Kd.R_reads' ho1).2.1
      have HCY := Aside0.mk (show y.length ≤ c2 by omega)
      have hmc : m ≤ c1 := by omega
      have HRY := Aside0.mk (show Kd.C (Kd.int .u8) w1 A2 y.length y by rw [hA2]; exact hr)
      have HYL := Aside0.mk hyl
      clear hyl
      have HO1 := Aside0.mk (Kd.R_drew ho1)
      have HB1 := Aside0.mk (below_drew1 hb1)
      have HRY' := Aside0.mk (Kd.C_drew HRY.out)
      clear hr hA2 hc2 hi0 hsz ho1 hb1 HRY
      refine start_ (n := 11) (S := fun _ => True) (ds := []) #[false, false, false, false, false, false, false, false, false, false, false] (by kernel_rfl) rfl rfl trivial (fun hHeld => ?_)
      generalize w1.drew = w2 at HO1 HB1 HRY' ⊢
      refine pure_ (i := 0) (N := some 26) (v := ?_) (a' := ?_) #[true, false, false, false, false, false, false, false, false, false, false] rfl rfl (by kernel_rfl) (fun _ _ _ h => h) (Or.inl ⟨by rfl, ?_⟩) ?_ ?_
      rotate_left
      · intro w'
        go_simp
        with_reducible rfl
      rotate_left
      · simp only [Act.put, List.setIfInBounds_toArray, List.set_cons_zero, List.set_cons_succ]
        rfl
      refine pure_ (i := 1) (N := some 27) (v := ?_) (a' := ?_) #[true, true, false, false, false, false, false, false, false, false, false] rfl rfl (by kernel_rfl) (fun _ _ _ h => h) (Or.inl ⟨by rfl, ?_⟩) ?_ ?_
      rotate_left
      · intro w'
        go_simp
        with_reducible rfl
      rotate_left
      · simp only [Act.put, List.setIfInBounds_toArray, List.set_cons_zero, List.set_cons_succ]
        rfl
      refine pure_ (i := 2) (N := some 28) (v := ?_) (a' := ?_) #[true, true, true, false, false, false, false, false, false, false, false] rfl rfl (by kernel_rfl) (fun _ _ _ h => h) (Or.inl ⟨by rfl, ?_⟩) ?_ ?_
      rotate_left
      · intro w'
        go_simp
        with_reducible rfl
      rotate_left
      · simp only [Act.put, List.setIfInBounds_toArray, List.set_cons_zero, List.set_cons_succ]
        rfl
      refine pure_ (i := 3) (N := some 29) (v := ?_) (a' := ?_) #[true, true, true, true, false, false, false, false, false, false, false] rfl rfl (by kernel_rfl) (fun _ _ _ h => h) (Or.inl ⟨by rfl, ?_⟩) ?_ ?_
      rotate_left
      · intro w'
        go_simp
        with_reducible rfl
      rotate_left
      · simp only [Act.put, List.setIfInBounds_toArray, List.set_cons_zero, List.set_cons_succ]
        rfl
      refine pure_ (i := 4) (N := some 30) (v := ?_) (a' := ?_) #[true, true, true, true, true, false, false, false, false, false, false] rfl rfl (by kernel_rfl) (fun _ _ _ h => h) (Or.inl ⟨by rfl, ?_⟩) ?_ ?_
      rotate_left
      · intro w'
        go_simp
        with_reducible rfl
      rotate_left
      · simp only [Act.put, List.setIfInBounds_toArray, List.set_cons_zero, List.set_cons_succ]
        rfl
      refine pure_ (i := 5) (N := some 31) (v := ?_) (a' := ?_) #[true, true, true, true, true, true, false, false, false, false, false] rfl rfl (by kernel_rfl) (fun _ _ _ h => h) (Or.inl ⟨by rfl, ?_⟩) ?_ ?_
      rotate_left
      · intro w'
        go_simp
        with_reducible rfl
      rotate_left
      · simp only [Act.put, List.setIfInBounds_toArray, List.set_cons_zero, List.set_cons_succ]
        rfl
      refine pure_ (i := 6) (N := some 32) (v := ?_) (a' := ?_) #[true, true, true, true, true, true, true, false, false, false, false] rfl rfl (by kernel_rfl) (fun _ _ _ h => h) (Or.inl ⟨by rfl, ?_⟩) ?_ ?_
      rotate_left
      · intro w'
        go_simp
        with_reducible rfl
      rotate_left
      · simp only [Act.put, List.setIfInBounds_toArray, List.set_cons_zero, List.set_cons_succ]
        rfl
      refine one_ (i := 7) (N := some 33) #[true, true, true, true, true, true, true, true, false, false, false] rfl rfl (by kernel_rfl) (by decide) (fun K hK => ?_)
      refine goes_ Try.func29 (by kernel_rfl) rfl #[.slice A2 y.length c2] (by rfl) rfl rfl (by (try simp only [List.map_toArray, List.map_cons, List.map_nil]); first | done | rfl) ?_
      refine (bytes_Clone.calls A2 c2 y y _ HRY'.out HCY.out HCL.out).mono ?_
      rintro e w3 ⟨v2, rfl, ho2, hb2⟩
      refine ⟨_, rfl, ?_⟩
      obtain ⟨A3, c3, e3⟩ := Kd.R_slice ho2
      subst e3
      refine hK.out _ _ trivial (fun hHeld2 => ?_)
      clear hK K
      refine norm_ (a' := ?_) ?_ ?_
      rotate_left
      · show Act.put _ (some 33) _ = _
        simp only [Act.put, List.setIfInBounds_toArray, List.set_cons_zero, List.set_cons_succ]
        rfl
      refine pure_ (i := 8) (N := some 2) (v := ?_) (a' := ?_) #[true, true, true, true, true, true, true, true, true, false, false] rfl rfl (by kernel_rfl) (fun _ _ _ h => h) (Or.inl ⟨by rfl, ?_⟩) ?_ ?_
      rotate_left
      · intro w'
        go_simp
        with_reducible rfl
      rotate_left
      · simp only [Act.put, List.setIfInBounds_toArray, List.set_cons_zero, List.set_cons_succ]
        rfl
      refine pure_ (i := 9) (N := some 3) (v := ?_) (a' := ?_) #[true, true, true, true, true, true, true, true, true, true, false] rfl rfl (by kernel_rfl) (fun _ _ _ h => h) (Or.inl ⟨by rfl, ?_⟩) ?_ ?_
      rotate_left
      · intro w'
        go_simp
        with_reducible rfl
      rotate_left
      · simp only [Act.put, List.setIfInBounds_toArray, List.set_cons_zero, List.set_cons_succ]
        rfl
      refine pure_ (i := 10) (N := some 4) (v := ?_) (a' := ?_) #[true, true, true, true, true, true, true, true, true, true, true] rfl rfl (by kernel_rfl) (fun _ _ _ h => h) (Or.inl ⟨by rfl, ?_⟩) ?_ ?_
      rotate_left
      · intro w'
        go_simp
        with_reducible rfl
      rotate_left
      · simp only [Act.put, List.setIfInBounds_toArray, List.set_cons_zero, List.set_cons_succ]
        rfl
      refine done_ (by kernel_rfl) ?_
      try go_wp2
      refine bodyPost_ret (results_tmp3 rfl _ _ _) rfl ?_
      have hml : (t.take m).length = m := by rw [List.length_take]; omega
      have hV2 := Kd.V_below (Kd.V_mk (e := 5) (base := w.heap.size) (c := m) (Nat.le_of_eq hml) (Kd.F_take (Kd.R_F (Kd.R_tight rfl HO1.out)) hm)) hb2
      rw [hml] at hV2
      exact ⟨_, _, rfl, Kd.V_mono hV2 (fun k_ hk_ => ⟨Kd.R_base HO1.out k_ hk_.symm, fun e_ => Nat.not_le.2 (Kd.R_lt HO1.out k_ hk_.symm) (Kd.R_base ho2 k_ e_.symm)⟩), Kd.R_lower (Kd.R_mono (Kd.R_tight rfl ho2) (fun k_ hk_ => Nat.le_trans (below_size HB1.out) (Kd.R_base ho2 k_ hk_.symm))) (below_size HB1.out), below_step HB1.out hb2⟩
    · rw [if_neg h3] at h; cases h
  · rw [if_neg he] at h
    obtain ⟨rfl, rfl, rfl⟩ : [] = r1 ∧ [] = r2 ∧ 10 = r3 := by simpa using h
    clear h
    go_enter Try.func40, Try.ntmps40
    go_wp2_with (go_at_call 42; refine (octet_Take.calls A0 c0 l0 n t e _ HR.out HC.out HT.out).mono ?_; rintro e w1 ⟨v1, rfl, ho1, hb1⟩)
    refine bodyPost_ret (results_tmp3 rfl _ _ _) rfl ?_
    exact ⟨_, _, rfl, Kd.V_nil _ _ _ _ _, Kd.R_nil _ _ _ _ _, hb1⟩

end Go.Proofs.Ytbenenpkbdldmaa.P
