-- Written by wip/gprint.py, a program of this session over the kit's print; Lean checks it.
import Derived.Test.YtomlhapehldlnaaPx0
import Derived.Test.YtomlhapehldlnaaPx1
import Derived.OwnWalkIn
namespace Go.Proofs.Ytomlhapehldlnaa.P
open Go.RowKit Go.Proofs.YtomlhapehldlnaaW.PrintWords Go.Proofs.YtomlhapehldlnaaW.PrintLast Go.Proofs.YtomlhapehldlnaaW.PrintMore
attribute [local go_sem] max2_int min2_int max_two min_two max_three min_three max_four min_four   -- for this text's walks alone
set_option linter.unusedVariables false
set_option linter.unusedSimpArgs false

/-GIVEN span_own-/
/-! ### span_own: function 34 -/
def span_own.f (l0 : List (S24)) : Option ((List (S24))) := if (decide (l0.length < 2199023255552) && l0.all okSp) = true then some l0 else none
set_option maxHeartbeats 4000000 in
set_option maxRecDepth 100000 in
theorem span_own.calls (A0 : Option Addr) (c0 : Nat) (l0 : List (S24)) (r : List (S24)) (w : World) (hr0 : Kd.C k24 w A0 l0.length l0) (hc0 : l0.length ≤ c0) (h : span_own.f l0 = some r) :
    Calls Try.prog 34 #[.slice A0 l0.length c0] w fun e w' => ∃ v0_ : Value, e = .returned (v0_) ∧ Kd.V k24 24 w' w.heap.size (fun k_ => (w.heap.size ≤ k_)) v0_ r ∧ Below w.heap.size w w' := by
  unfold span_own.f at h
  have hok : (decide (l0.length < 2199023255552) && l0.all okSp) = true := Classical.byContradiction fun hn => by rw [if_neg hn] at h; cases h
  rw [if_pos hok] at h
  obtain rfl := Option.some.inj h
  clear h
  simp only [Bool.and_eq_true, decide_eq_true_eq, List.all_eq_true] at hok
  obtain ⟨hln, hsm⟩ := hok
  have HSM := Aside0.mk hsm
  have HCO := Aside0.mk (show slices_Clone_Span.f l0 = some l0 by unfold slices_Clone_Span.f; rw [if_pos hln])
  have HV := Aside0.mk (show Kd.V k24 24 w w.heap.size (fun k_ => k_ < w.heap.size) (.slice A0 l0.length c0) l0 from Kd.V_mk hc0 (Kd.C_F (by repeat (first | exact Kd.heap_int _ | exact Kd.heap_bool | exact Kd.heap_string | apply Kd.heap_slice | apply Kd.heap_iso | apply Kd.heap_pair)) hr0))
  clear hr0 hsm
  have hu2 := Try.underlying24
  go_enter Try.func34, Try.ntmps34
  go_wp2_with fail
  refine (slices_Clone_Span.calls (fun k_ => k_ < w.heap.size) A0 c0 l0 l0 w HV.out HCO.out).mono ?_
  rintro e wb ⟨v, rfl, hN, hb⟩
  obtain ⟨Ar, cr, rfl, hcr, hrow⟩ := N_block hN
  have hm : l0.length ≤ 9223372036854775807 := by omega
  obtain ⟨B1, hB1, hS1⟩ : ∃ B, (0 < l0.length → w.heap.size ≤ B) ∧ RowSt k24 24 wb Ar l0 0 B (fun q => w.heap.size ≤ q ∧ q ≠ B) (fun q => (q < w.heap.size ∨ w.heap.size ≤ q) ∧ q ≠ B) := by
    by_cases hn : 0 < l0.length
    · obtain ⟨g, cur, _, _, hg, _⟩ := hrow hn
      obtain ⟨B, h1, _, _, h4⟩ := RowSt.of_block (Nat.lt_of_le_of_lt (Nat.zero_le _) (blk_lt hg)) hrow
      exact ⟨B, h1, h4 _⟩
    · exact ⟨0, fun h => absurd h hn, fun h => absurd h hn⟩
  have HB1 := Aside0.mk hb
  have HS1 := Aside0.mk hS1
  clear hN hb hrow hS1
  go_wp2_with fail
  go_loopw [10] (fun v_ wr => ∃ k : Nat, k ≤ l0.length ∧ v_ = .int .i64 k ∧ Aside0 (Below w.heap.size w wr) ∧ Aside0 (RowSt k24 24 wr Ar l0 k B1 (fun q => w.heap.size ≤ q ∧ q ≠ B1) (fun q => (q < w.heap.size ∨ w.heap.size ≤ q) ∧ q ≠ B1))) (fun v_ _ => l0.length - (intOf v_).toNat)
  case atStart => exact ⟨0, Nat.zero_le _, rfl, HB1, HS1⟩
  case round =>
    obtain ⟨k, hk, rfl, HBr, HRr⟩ := hrel
    by_cases hlt : k < l0.length
    · obtain ⟨hAr, hBl, cur, hcur, hcl, hE⟩ := HRr.out (by omega)
      subst hAr
      have hBB := hB1 (by omega)
      obtain ⟨p, hp⟩ : ∃ p, l0[k]? = some p := ⟨_, List.getElem?_eq_getElem hlt⟩
      obtain ⟨Aa, ca, Ab, cb, hch, hla, hFa, hlb, hFb⟩ := k24_openF ((hE k p hp).2 (Nat.le_refl _))
      have hch' : (cur.drop (k * 4)).take 4 = [.int .i64 p.f0, .slice Aa p.f1.length ca, .slice Ab p.f2.length cb, .bool p.f3] := hch
      have hcl' : l0.length * 4 ≤ cur.length := hcl
      have hx0 : wr.cell? ⟨B1, k * 4, none⟩ = some (.int .i64 p.f0) := by
        rw [blk_cell hcur]; have := chunk_at (cur := cur) (k := k) (show 0 < 4 by decide); rw [hch'] at this; simpa using this
      have hx1 : wr.cell? ⟨B1, k * 4 + 1, none⟩ = some (.slice Aa p.f1.length ca) := by
        rw [blk_cell hcur]; have := chunk_at (cur := cur) (k := k) (show 1 < 4 by decide); rw [hch'] at this; simpa using this
      have hx2 : wr.cell? ⟨B1, k * 4 + 2, none⟩ = some (.slice Ab p.f2.length cb) := by
        rw [blk_cell hcur]; have := chunk_at (cur := cur) (k := k) (show 2 < 4 by decide); rw [hch'] at this; simpa using this
      have hx3 : wr.cell? ⟨B1, k * 4 + 3, none⟩ = some (.bool p.f3) := by
        rw [blk_cell hcur]; have := chunk_at (cur := cur) (k := k) (show 3 < 4 by decide); rw [hch'] at this; simpa using this
      have hsmall := HSM.out p (List.mem_of_getElem? hp)
      unfold okSp at hsmall
      simp only [Bool.and_eq_true, decide_eq_true_eq] at hsmall
      have HCa := Aside0.mk (show bytes_Clone.f p.f1 = some p.f1 by unfold bytes_Clone.f; rw [if_pos hsmall.1])
      have HCb := Aside0.mk (show bytes_Clone.f p.f2 = some p.f2 by unfold bytes_Clone.f; rw [if_pos hsmall.2])
      have HP := Aside0.mk hp
      have HCH := Aside0.mk hch'
      have HE := Aside0.mk hE
      have HCUR := Aside0.mk hcur
      have HCL := Aside0.mk hcl'
      have HRa := Aside0.mk (Kd.F_now hFa)
      have HRb := Aside0.mk (Kd.F_now hFb)
      have HLa := Aside0.mk hla
      have HLb := Aside0.mk hlb
      clear hp hch hch' hE hcl hcl' hFa hFb hla hlb hsmall
      go_wp2_with fail
      obtain ⟨gx, hgx⟩ : ∃ gx, gx = wr.heap.size := ⟨_, rfl⟩
      obtain ⟨Wy, hWy⟩ : ∃ Wy, Wy = wr.alloc (.cells #[.int .i64 p.f0, .slice Aa p.f1.length ca, .slice Ab p.f2.length cb, .bool p.f3] 24 (0, 0)) := ⟨_, rfl⟩
      have HBy := Aside0.mk (show Below wr.heap.size wr Wy by rw [hWy]; exact below_alloc (Below.refl _ _) _)
      have hX : Wy.heap[gx]? = some (.cells #[.int .i64 p.f0, .slice Aa p.f1.length ca, .slice Ab p.f2.length cb, .bool p.f3] 24 (0, 0)) := by rw [hWy, hgx]; exact heap_alloc_new wr _
      have HCY := Aside0.mk ((HBy.out.block _ hBl).trans HCUR.out)
      have hszy : gx < Wy.heap.size := blk_lt hX
      have HGX := Aside0.mk hgx
      have hgxl : wr.heap.size ≤ gx := by omega
      rw [← hWy, ← hgx]
      clear hWy hgx hx0 hx1 hx2 hx3 hcur
      have HX := Aside0.mk hX
      have hq1 : Wy.cell? ⟨gx, 1, none⟩ = some (.slice Aa p.f1.length ca) := (blk_cell hX 1).trans rfl
      have hq2 : Wy.cell? ⟨gx, 2, none⟩ = some (.slice Ab p.f2.length cb) := (blk_cell hX 2).trans rfl
      clear hX
      have hp1 : (0 ≤ (k : Int)) = True := eq_true (by omega)
      have hp2 : ((k : Int) < (l0.length : Int)) = True := eq_true (by omega)
      refine start_ (n := 16) (S := fun w' => w'.cell? ⟨gx, 1, none⟩ = some (.slice Aa p.f1.length ca) ∧ w'.cell? ⟨gx, 2, none⟩ = some (.slice Ab p.f2.length cb)) (ds := [15]) #[false, false, false, false, false, false, false, false, false, false, false, false, false, false, false, false] (by kernel_rfl) rfl rfl ⟨hq1, hq2⟩ (fun hHeld => ?_)
      clear hq1 hq2
      have HCa0 := Aside0.mk (show Wy.drew.heap[B1]? = some (.cells cur.toArray 24 (0, 0)) from HCY.out)
      have HXa := Aside0.mk (show Wy.drew.heap[gx]? = some (.cells #[.int .i64 p.f0, .slice Aa p.f1.length ca, .slice Ab p.f2.length cb, .bool p.f3] 24 (0, 0)) from HX.out)
      have HBa := Aside0.mk (below_drew1 HBy.out)
      have hsza : gx < Wy.drew.heap.size := hszy
      clear HCY HX HBy hszy
      generalize Wy.drew = ya at HCa0 HXa HBa hsza hHeld ⊢
      refine pure_ (i := 0) (N := some 15) (v := ?_) (a' := ?_) #[true, false, false, false, false, false, false, false, false, false, false, false, false, false, false, false] rfl rfl (by kernel_rfl) (fun _ _ _ h => h) (Or.inl ⟨by rfl, ?_⟩) ?_ ?_
      rotate_left
      · intro w'
        go_simp
        with_reducible rfl
      rotate_left
      · simp only [Act.put, List.setIfInBounds_toArray, List.set_cons_zero, List.set_cons_succ, i64_w, i32_w]
        rfl
      refine pure_ (i := 1) (N := some 16) (v := ?_) (a' := ?_) #[true, true, false, false, false, false, false, false, false, false, false, false, false, false, false, false] rfl rfl (by kernel_rfl) (fun _ _ _ h => h) (Or.inl ⟨by rfl, ?_⟩) ?_ ?_
      rotate_left
      · intro w'
        go_simp
        with_reducible rfl
      rotate_left
      · simp only [Act.put, List.setIfInBounds_toArray, List.set_cons_zero, List.set_cons_succ, i64_w, i32_w]
        rfl
      refine pure_ (i := 2) (N := some 17) (v := ?_) (a' := ?_) #[true, true, true, false, false, false, false, false, false, false, false, false, false, false, false, false] rfl rfl (by kernel_rfl) (fun _ _ _ h => h) (Or.inl ⟨by rfl, ?_⟩) ?_ ?_
      rotate_left
      · intro w'
        go_simp
        with_reducible rfl
      rotate_left
      · simp only [Act.put, List.setIfInBounds_toArray, List.set_cons_zero, List.set_cons_succ, i64_w, i32_w]
        rfl
      refine pure_ (i := 3) (N := some 18) (v := ?_) (a' := ?_) #[true, true, true, true, false, false, false, false, false, false, false, false, false, false, false, false] rfl rfl (by kernel_rfl) (fun _ _ _ h => h) (Or.inl ⟨by rfl, ?_⟩) ?_ ?_
      rotate_left
      · intro w'
        go_simp
        with_reducible rfl
      rotate_left
      · simp only [Act.put, List.setIfInBounds_toArray, List.set_cons_zero, List.set_cons_succ, i64_w, i32_w]
        rfl
      refine pure_ (i := 4) (N := some 19) (v := ?_) (a' := ?_) #[true, true, true, true, true, false, false, false, false, false, false, false, false, false, false, false] rfl rfl (by kernel_rfl) (fun _ _ _ h => h) (Or.inl ⟨by rfl, ?_⟩) ?_ ?_
      rotate_left
      · intro w'
        go_simp
        with_reducible rfl
      rotate_left
      · simp only [Act.put, List.setIfInBounds_toArray, List.set_cons_zero, List.set_cons_succ, i64_w, i32_w]
        rfl
      refine take_ (i := 5) (N := some 20) (v := ?_) (a' := ?_) #[true, true, true, true, true, true, false, false, false, false, false, false, false, false, false, false] rfl rfl (by kernel_rfl) (fun _ _ _ h => h) (Or.inl ⟨by rfl, ?_⟩) hHeld ?_ ?_
      rotate_left
      · rintro w' ⟨s0, s1⟩
        go_simp
        with_reducible rfl
      rotate_left
      · simp only [Act.put, List.setIfInBounds_toArray, List.set_cons_zero, List.set_cons_succ, i64_w, i32_w]
        rfl
      refine pure_ (i := 7) (N := some 22) (v := ?_) (a' := ?_) #[true, true, true, true, true, true, false, true, false, false, false, false, false, false, false, false] rfl rfl (by kernel_rfl) (fun _ _ _ h => h) (Or.inl ⟨by rfl, ?_⟩) ?_ ?_
      rotate_left
      · intro w'
        go_simp
        with_reducible rfl
      rotate_left
      · simp only [Act.put, List.setIfInBounds_toArray, List.set_cons_zero, List.set_cons_succ, i64_w, i32_w]
        rfl
      refine take_ (i := 8) (N := some 23) (v := ?_) (a' := ?_) #[true, true, true, true, true, true, false, true, true, false, false, false, false, false, false, false] rfl rfl (by kernel_rfl) (fun _ _ _ h => h) (Or.inl ⟨by rfl, ?_⟩) hHeld ?_ ?_
      rotate_left
      · rintro w' ⟨s0, s1⟩
        go_simp
        with_reducible rfl
      rotate_left
      · simp only [Act.put, List.setIfInBounds_toArray, List.set_cons_zero, List.set_cons_succ, i64_w, i32_w]
        rfl
      refine one_ (i := 6) (N := some 21) #[true, true, true, true, true, true, true, true, true, false, false, false, false, false, false, false] rfl rfl (by kernel_rfl) (by decide) (fun K hK => ?_)
      refine goes_ Try.func28 (by kernel_rfl) rfl #[.slice Aa p.f1.length ca] (by rfl) rfl rfl (by (try simp only [List.map_toArray, List.map_cons, List.map_nil]); first | done | rfl) ?_
      refine (bytes_Clone.calls Aa ca p.f1 p.f1 ya (Kd.C_below HRa.out HBa.out) HLa.out HCa.out).mono ?_
      rintro e yb ⟨v, rfl, hva, hba⟩
      have HCb0 := Aside0.mk ((hba.block _ (by omega)).trans HCa0.out)
      have HXb := Aside0.mk ((hba.block _ (by omega)).trans HXa.out)
      refine ⟨_, rfl, ?_⟩
      refine hK.out _ _ ⟨(blk_cell HXb.out 1).trans rfl, (blk_cell HXb.out 2).trans rfl⟩ (fun hHeld => ?_)
      clear hK K
      refine norm_ (a' := ?_) ?_ ?_
      rotate_left
      · show Act.put _ (some 21) _ = _
        simp only [Act.put, List.setIfInBounds_toArray, List.set_cons_zero, List.set_cons_succ, i64_w, i32_w]
        rfl
      obtain ⟨Ac, cc, rfl⟩ := Kd.R_slice hva
      have HVa := Aside0.mk hva
      have HBb := Aside0.mk (below_step HBa.out hba)
      have hszb : ya.heap.size ≤ yb.heap.size := hba.size
      clear hva hba
      refine one_ (i := 9) (N := some 24) #[true, true, true, true, true, true, true, true, true, true, false, false, false, false, false, false] rfl rfl (by kernel_rfl) (by decide) (fun K hK => ?_)
      refine goes_ Try.func28 (by kernel_rfl) rfl #[.slice Ab p.f2.length cb] (by rfl) rfl rfl (by (try simp only [List.map_toArray, List.map_cons, List.map_nil]); first | done | rfl) ?_
      refine (bytes_Clone.calls Ab cb p.f2 p.f2 yb (Kd.C_below HRb.out HBb.out) HLb.out HCb.out).mono ?_
      rintro e yc ⟨v, rfl, hvb, hbb⟩
      have HCc0 := Aside0.mk ((hbb.block _ (by omega)).trans HCb0.out)
      have HXc := Aside0.mk ((hbb.block _ (by omega)).trans HXb.out)
      refine ⟨_, rfl, ?_⟩
      refine hK.out _ _ ⟨(blk_cell HXc.out 1).trans rfl, (blk_cell HXc.out 2).trans rfl⟩ (fun hHeld => ?_)
      clear hK K
      refine norm_ (a' := ?_) ?_ ?_
      rotate_left
      · show Act.put _ (some 24) _ = _
        simp only [Act.put, List.setIfInBounds_toArray, List.set_cons_zero, List.set_cons_succ, i64_w, i32_w]
        rfl
      obtain ⟨Ae, ce, rfl⟩ := Kd.R_slice hvb
      have HVb := Aside0.mk hvb
      have HBc := Aside0.mk (below_step HBb.out hbb)
      have HVa2 := Aside0.mk (Kd.R_below HVa.out hbb)
      have hszc : yb.heap.size ≤ yc.heap.size := hbb.size
      clear hvb hbb
      have hlen4 : k * 4 + 4 ≤ cur.length := by have := HCL.out; omega
      have hga : yc.cell? ⟨B1, k * 4 + 1, none⟩ = some (.slice Aa p.f1.length ca) := by
        rw [blk_cell HCc0.out]; have := chunk_at (cur := cur) (k := k) (show 1 < 4 by decide); rw [HCH.out] at this; simpa using this
      have hgb : yc.cell? ⟨B1, k * 4 + 2, none⟩ = some (.slice Ab p.f2.length cb) := by
        rw [blk_cell HCc0.out]; have := chunk_at (cur := cur) (k := k) (show 2 < 4 by decide); rw [HCH.out] at this; simpa using this
      have hfa := blk_frozen HCc0.out (k * 4 + 1)
      have hfb := blk_frozen HCc0.out (k * 4 + 2)
      have hne2 : gx ≠ B1 := by omega
      refine pure_ (i := 10) (N := some 25) (v := ?_) (a' := ?_) #[true, true, true, true, true, true, true, true, true, true, true, false, false, false, false, false] rfl rfl (by kernel_rfl) (fun _ _ _ h => h) (Or.inl ⟨by rfl, ?_⟩) ?_ ?_
      rotate_left
      · intro w'
        go_simp
        with_reducible rfl
      rotate_left
      · simp only [Act.put, List.setIfInBounds_toArray, List.set_cons_zero, List.set_cons_succ, i64_w, i32_w]
        rfl
      refine pure_ (i := 11) (N := some 26) (v := ?_) (a' := ?_) #[true, true, true, true, true, true, true, true, true, true, true, true, false, false, false, false] rfl rfl (by kernel_rfl) (fun _ _ _ h => h) (Or.inl ⟨by rfl, ?_⟩) ?_ ?_
      rotate_left
      · intro w'
        go_simp
        with_reducible rfl
      rotate_left
      · simp only [Act.put, List.setIfInBounds_toArray, List.set_cons_zero, List.set_cons_succ, i64_w, i32_w]
        rfl
      refine one_ (i := 12) (N := none) #[true, true, true, true, true, true, true, true, true, true, true, true, true, false, false, false] rfl rfl (by kernel_rfl) (by decide) (fun K hK => ?_)
      refine skip_ (w1 := ?_) (by rfl) rfl ?_ ?_
      rotate_left
      · go_simp
        rfl
      refine hK.out _ _ ⟨(blk_cell (blk_far HXc.out (p := ⟨B1, k * 4 + 1, none⟩) hne2 _) 1).trans rfl, (blk_cell (blk_far HXc.out (p := ⟨B1, k * 4 + 1, none⟩) hne2 _) 2).trans rfl⟩ (fun hHeld => ?_)
      clear hK K
      have HCd := Aside0.mk (blk_set HCc0.out (k * 4 + 1) (.slice Ac p.f1.length cc))
      have hfb2 := blk_frozen HCd.out (k * 4 + 2)
      have hgb2 : (yc.setCell ⟨B1, k * 4 + 1, none⟩ (.slice Ac p.f1.length cc)).cell? ⟨B1, k * 4 + 2, none⟩ = some (.slice Ab p.f2.length cb) := by
        rw [blk_cell HCd.out, Array.getElem?_setIfInBounds_ne (by omega), ← blk_cell HCc0.out]; exact hgb
      refine pure_ (i := 13) (N := some 27) (v := ?_) (a' := ?_) #[true, true, true, true, true, true, true, true, true, true, true, true, true, true, false, false] rfl rfl (by kernel_rfl) (fun _ _ _ h => h) (Or.inl ⟨by rfl, ?_⟩) ?_ ?_
      rotate_left
      · intro w'
        go_simp
        with_reducible rfl
      rotate_left
      · simp only [Act.put, List.setIfInBounds_toArray, List.set_cons_zero, List.set_cons_succ, i64_w, i32_w]
        rfl
      refine pure_ (i := 14) (N := some 28) (v := ?_) (a' := ?_) #[true, true, true, true, true, true, true, true, true, true, true, true, true, true, true, false] rfl rfl (by kernel_rfl) (fun _ _ _ h => h) (Or.inl ⟨by rfl, ?_⟩) ?_ ?_
      rotate_left
      · intro w'
        go_simp
        with_reducible rfl
      rotate_left
      · simp only [Act.put, List.setIfInBounds_toArray, List.set_cons_zero, List.set_cons_succ, i64_w, i32_w]
        rfl
      refine last_ (i := 15) (N := none) #[true, true, true, true, true, true, true, true, true, true, true, true, true, true, true, true] rfl rfl (by kernel_rfl) (by decide) (fun K hK => ?_)
      refine skip_ (w1 := ?_) (by rfl) rfl ?_ ?_
      rotate_left
      · go_simp
        rfl
      refine hK.out _ _ ?_
      clear hK K
      refine done_ (by kernel_rfl) ?_
      have HCe := Aside0.mk (blk_set HCd.out (k * 4 + 2) (.slice Ae p.f2.length ce))
      have hoth : ∀ q, q ≠ B1 → ((yc.setCell ⟨B1, k * 4 + 1, none⟩ (.slice Ac p.f1.length cc)).setCell ⟨B1, k * 4 + 2, none⟩ (.slice Ae p.f2.length ce)).heap[q]? = yc.heap[q]? := fun q hq => (Below.heap_setCell _ _ _ _ hq).trans (Below.heap_setCell _ _ _ _ hq)
      have hszz : ((yc.setCell ⟨B1, k * 4 + 1, none⟩ (.slice Ac p.f1.length cc)).setCell ⟨B1, k * 4 + 2, none⟩ (.slice Ae p.f2.length ce)).heap.size = yc.heap.size := by simp [World.setCell]
      have hszr : wr.heap.size ≤ yc.heap.size := by omega
      have HBz := Aside0.mk (show Below w.heap.size w ((yc.setCell ⟨B1, k * 4 + 1, none⟩ (.slice Ac p.f1.length cc)).setCell ⟨B1, k * 4 + 2, none⟩ (.slice Ae p.f2.length ce)) from ((below_step HBr.out HBc.out).setCell (p := ⟨B1, k * 4 + 1, none⟩) (by show w.heap.size ≤ B1; omega) _).setCell (p := ⟨B1, k * 4 + 2, none⟩) (by show w.heap.size ≤ B1; omega) _)
      have hoth2 : ∀ q, q ≠ B1 → q < wr.heap.size → ((yc.setCell ⟨B1, k * 4 + 1, none⟩ (.slice Ac p.f1.length cc)).setCell ⟨B1, k * 4 + 2, none⟩ (.slice Ae p.f2.length ce)).heap[q]? = wr.heap[q]? := fun q hq hl => (hoth q hq).trans (HBc.out.block q hl)
      have hwr : w.heap.size ≤ wr.heap.size := HBr.out.size
      have HFa := Aside0.mk (Kd.F_step (W1 := ((yc.setCell ⟨B1, k * 4 + 1, none⟩ (.slice Ac p.f1.length cc)).setCell ⟨B1, k * 4 + 2, none⟩ (.slice Ae p.f2.length ce))) (Kd.R_F (Kd.R_mono (ok' := fun q => ya.heap.size ≤ q) (Kd.R_bound HVa2.out) (fun q hq => hq.2.1))) (fun q hq _ => hoth q (by omega)))
      have HFb := Aside0.mk (Kd.F_step (W1 := ((yc.setCell ⟨B1, k * 4 + 1, none⟩ (.slice Ac p.f1.length cc)).setCell ⟨B1, k * 4 + 2, none⟩ (.slice Ae p.f2.length ce))) (Kd.R_F (Kd.R_mono (ok' := fun q => yb.heap.size ≤ q) (Kd.R_bound HVb.out) (fun q hq => hq.2.1))) (fun q hq _ => hoth q (by omega)))
      have HLa2 := Aside0.mk (Kd.R_reads' HVa.out).2.1
      have HLb2 := Aside0.mk (Kd.R_reads' HVb.out).2.1
      have HNEW := Aside0.mk (show RowSt k24 24 ((yc.setCell ⟨B1, k * 4 + 1, none⟩ (.slice Ac p.f1.length cc)).setCell ⟨B1, k * 4 + 2, none⟩ (.slice Ae p.f2.length ce)) (some ⟨B1, 0, none⟩) l0 (k + 1) B1 (fun q => w.heap.size ≤ q ∧ q ≠ B1) (fun q => (q < w.heap.size ∨ w.heap.size ≤ q) ∧ q ≠ B1) from fun _ => by
        refine ⟨rfl, by omega, (cur.set (k * 4 + 1) (.slice Ac p.f1.length cc)).set (k * 4 + 2) (.slice Ae p.f2.length ce), ?_, ?_, fun j q hj => ?_⟩
        · have := HCe.out; simpa using this
        · show l0.length * 4 ≤ _; rw [List.length_set, List.length_set]; exact HCL.out
        · have hold := HE.out j q hj
          have hck : ((((cur.set (k * 4 + 1) (.slice Ac p.f1.length cc)).set (k * 4 + 2) (.slice Ae p.f2.length ce)).drop (j * 4)).take 4) = if j = k then [.int .i64 p.f0, .slice Ac p.f1.length cc, .slice Ae p.f2.length ce, .bool p.f3] else (cur.drop (j * 4)).take 4 := by
            rw [chunk_set _ 4 k j 2 _ (by decide), chunk_set cur 4 k j 1 _ (by decide)]
            by_cases e : j = k
            · subst e; rw [if_pos rfl, if_pos rfl, if_pos rfl, HCH.out]; rfl
            · rw [if_neg e, if_neg e, if_neg e]
          refine ⟨fun hjk => ?_, fun hjk => ?_⟩
          · show Kd.FK _ _ _ _ ((((cur.set (k * 4 + 1) (.slice Ac p.f1.length cc)).set (k * 4 + 2) (.slice Ae p.f2.length ce)).drop (j * 4)).take 4)
            rw [hck]
            by_cases e : j = k
            · subst e
              have hqp : q = p := Option.some.inj (hj.symm.trans HP.out)
              subst hqp
              rw [if_pos rfl]
              exact k24_mkF _ _ _ HLa2.out (Kd.F_mono HFa.out (fun z hz => by omega)) HLb2.out (Kd.F_mono HFb.out (fun z hz => by omega))
            · rw [if_neg e]
              exact Kd.FK_step (hold.1 (by omega)) (fun z hz hl => hoth2 z (by omega) hl)
          · show Kd.FK _ _ _ _ ((((cur.set (k * 4 + 1) (.slice Ac p.f1.length cc)).set (k * 4 + 2) (.slice Ae p.f2.length ce)).drop (j * 4)).take 4)
            rw [hck, if_neg (by omega)]
            exact Kd.FK_step (hold.2 (by omega)) (fun z hz hl => hoth2 z (by have := hz.2; omega) hl))
      have hmeas := meas_stepK l0.length k hlt
      go_wp2
      go_roundw
      case rel => exact ⟨k + 1, hlt, by go_num, HBz, HNEW⟩
      case measure => exact hmeas
    · obtain rfl : k = l0.length := by omega
      go_wp2
      go_ret
      refine ⟨_, rfl, Kd.V_mk hcr (F_of_block (t := 24) hm (fun hn => ?_)), HBr.out⟩
      obtain ⟨hA, hBl, cur, h1, h2, h3⟩ := HRr.out hn
      exact ⟨B1, cur, hA, h1, hB1 hn, h2, fun j q hj => Kd.FK_mono ((h3 j q hj).1 (List.getElem?_eq_some_iff.1 hj).1) (fun z hz => hz.1)⟩

end Go.Proofs.Ytomlhapehldlnaa.P
