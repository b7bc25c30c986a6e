import Derived.Test.YtbjeaalbdaedpaaPx0
import Derived.Test.YtbjeaalbdaedpaaPx1
import Derived.Test.YtbjeaalbdaedpaaPx37
import Derived.Test.YtbjeaalbdaedpaaPx44
import Derived.Test.YtbjeaalbdaedpaaPx45
import Derived.Test.YtbjeaalbdaedpaaPx46
import Derived.Test.YtbjeaalbdaedpaaPx49
import Derived.Test.YtbjeaalbdaedpaaPx69
import Derived.Test.YtbjeaalbdaedpaaPx80
import Derived.Lib.SlBytesConst
import Derived.OwnWalkIn
namespace Go.Proofs.Ytbjeaalbdaedpaa.P
open Go.RowKit Go.Proofs.YtbjeaalbdaedpaaW.PrintWords Go.Proofs.YtbjeaalbdaedpaaW.PrintLast Go.Proofs.YtbjeaalbdaedpaaW.PrintMore
attribute [local go_sem] max2_int min2_int max_two min_two max_three min_three max_four min_four
set_option linter.unusedVariables false
set_option linter.unusedSimpArgs false
def banksmanlaw08_awake.f  : Option (Bool) := some true
set_option maxHeartbeats 8000000 in
set_option maxRecDepth 100000 in
theorem banksmanlaw08_awake.calls  (r : Bool) (w : World) (h : banksmanlaw08_awake.f  = some r) :
    Calls Try.prog 8 #[] w fun e w' => e = .returned (.bool r) ∧ Below w.heap.size w w' := by
  unfold banksmanlaw08_awake.f at h
  obtain rfl := Option.some.inj h
  clear h
  have H0 := Aside0.mk (AB.start w)
  obtain ⟨La, hLa_⟩ : ∃ y_, y_ = [(⟨0, [98], false, [118]⟩ : S28)] := ⟨_, rfl⟩
  obtain ⟨Ma, hMa_⟩ : ∃ y_, y_ = ([] : List Int) := ⟨_, rfl⟩
  obtain ⟨Mb, hMb_⟩ : ∃ y_, y_ = ([1] : List Int) := ⟨_, rfl⟩
  obtain ⟨Lc, hLc_⟩ : ∃ y_, y_ = [(⟨0, [98], false, [118]⟩ : S28), (⟨0, [97], true, []⟩ : S28)] := ⟨_, rfl⟩
  obtain ⟨LL, hLL_⟩ : ∃ y_, y_ = [(⟨0, [97], true, []⟩ : S28), (⟨0, [98], false, [118]⟩ : S28)] := ⟨_, rfl⟩
  obtain ⟨OO, hOO_⟩ : ∃ y_, y_ = [(⟨[98], [118]⟩ : S53), ⟨[99], []⟩] := ⟨_, rfl⟩
  have HP1 := Aside0.mk (show delta_Put.f 64 [] [] 0 [98] false [118] = some (La, Ma, 0) by subst hLa_ hMa_ hMb_ hLc_ hLL_ hOO_; kernel_rfl)
  have HM := Aside0.mk (show delta_Mark.f La Ma = some (La, Mb, 0) by subst hLa_ hMa_ hMb_ hLc_ hLL_ hOO_; kernel_rfl)
  have HP2 := Aside0.mk (show delta_Put.f 64 La Mb 0 [97] true [] = some (Lc, Mb, 0) by subst hLa_ hMa_ hMb_ hLc_ hLL_ hOO_; kernel_rfl)
  have HF1 := Aside0.mk (show delta_Find.f Lc Mb 0 [97] = some (0, [97], true, [], true) by subst hLa_ hMa_ hMb_ hLc_ hLL_ hOO_; kernel_rfl)
  have HL := Aside0.mk (show delta_Last.f Lc Mb = some LL by subst hLa_ hMa_ hMb_ hLc_ hLL_ hOO_; kernel_rfl)
  have HO := Aside0.mk (show delta_Over.f Lc Mb 0 [] [] true [(⟨[97], []⟩ : S53), ⟨[99], []⟩] = some OO by subst hLa_ hMa_ hMb_ hLc_ hLL_ hOO_; kernel_rfl)
  have HB1 := Aside0.mk (show delta_Back.f Lc Mb 0 = some (La, Mb, 0) by subst hLa_ hMa_ hMb_ hLc_ hLL_ hOO_; kernel_rfl)
  have HB2 := Aside0.mk (show delta_Back.f Lc Mb 1 = some (Lc, Mb, 1) by subst hLa_ hMa_ hMb_ hLc_ hLL_ hOO_; kernel_rfl)
  have HF2 := Aside0.mk (show delta_Find.f La Mb 0 [97] = some (0, [], false, [], false) by subst hLa_ hMa_ hMb_ hLc_ hLL_ hOO_; kernel_rfl)
  have HP3 := Aside0.mk (show delta_Put.f 64 Lc Mb 4 [] false [] = some (Lc, Mb, 1) by subst hLa_ hMa_ hMb_ hLc_ hLL_ hOO_; kernel_rfl)
  have HK := Aside0.mk (show delta_Check.f Lc Mb = some true by subst hLa_ hMa_ hMb_ hLc_ hLL_ hOO_; kernel_rfl)
  have HN := Aside0.mk (show LL.length = 2 ∧ OO.length = 2 ∧ La.length = 1 ∧ Mb.length = 1 ∧ (rd_T28 LL 0).f1 = [97] ∧ (rd_T53 OO 0).f0 = [98] ∧ (rd_T53 OO 1).f0 = [99] by subst hLa_ hMa_ hMb_ hLc_ hLL_ hOO_; exact ⟨rfl, rfl, rfl, rfl, rfl, rfl, rfl⟩)
  clear hLa_ hMa_ hMb_ hLc_ hLL_ hOO_
  have hu25 := Try.underlying25
  have hu28 := Try.underlying28
  have hu53 := Try.underlying53
  have hu39 := Try.underlying39
  go_enter Try.func8, Try.ntmps8
  go_wp2_with ((with_reducible refine gate_dst (N := 21) rfl ?_); (suffices hsuf : Aside0 _ from hsuf.out))
  refine ⟨?_⟩
  refine conv_lit_op 26 5 Try.underlying26 Try.underlying5 rfl 21 22 rfl rfl rfl rfl ([98] : List Int) ([98] : List Int) rfl [.int .u8 98] ?hr (by intro v_; first | rfl | (go_simp; done)) rfl (by simp) ?_
  case hr => first | (go_simp; done) | (go_simp; rfl)
  intro v_ w1 hV hb
  obtain ⟨A0, c0, rfl⟩ := Kd.V_slice hV
  have hc0 : ([98] : List Int).length ≤ c0 := (Kd.V_at hV).2.1
  have H1 := Aside0.mk (H0.out.below hb)
  clear H0
  have H2 := Aside0.mk (H1.out.add (stable_C (Kd.int .u8) _ _) (Kd.V_reads' hV).2.2)
  clear H1
  clear hV hb
  simp only [Act.put, List.setIfInBounds_toArray, List.set_cons_zero, List.set_cons_succ]
  go_wp2_with ((with_reducible refine gate_dst (N := 23) rfl ?_); (suffices hsuf : Aside0 _ from hsuf.out))
  refine ⟨?_⟩
  refine conv_lit_op 26 5 Try.underlying26 Try.underlying5 rfl 23 24 rfl rfl rfl rfl ([118] : List Int) ([118] : List Int) rfl [.int .u8 118] ?hr (by intro v_; first | rfl | (go_simp; done)) rfl (by simp) ?_
  case hr => first | (go_simp; done) | (go_simp; rfl)
  intro v_ w2 hV hb
  obtain ⟨A1, c1, rfl⟩ := Kd.V_slice hV
  have hc1 : ([118] : List Int).length ≤ c1 := (Kd.V_at hV).2.1
  have H3 := Aside0.mk (H2.out.below hb)
  clear H2
  have H4 := Aside0.mk (H3.out.add (stable_C (Kd.int .u8) _ _) (Kd.V_reads' hV).2.2)
  clear H3
  clear hV hb
  simp only [Act.put, List.setIfInBounds_toArray, List.set_cons_zero, List.set_cons_succ]
  go_wp2_with (go_at_call 10; refine (delta_Put.calls 64 (fun _ => True) none 0 ([] : List S28) none 0 ([] : List Int) 0 A0 c0 [98] false A1 c1 [118] La Ma 0 w2 (Kd.V_nil _ _ _ _ _) (⟨rfl, by simp, fun h => absurd h (by simp)⟩ : Kd.C (Kd.int .i64) _ none ([] : List _).length []) (Nat.zero_le _) H4.out.hp.2.1 hc0 H4.out.hp.1 hc1 HP1.out).mono ?_; rintro e v5 ⟨v0_, v1_, rfl, hN, hR, hb⟩; (suffices hsuf : Aside0 _ from hsuf.out))
  refine ⟨?_⟩
  obtain ⟨Da, cDa, rfl⟩ := Kd.N_slice hN
  obtain ⟨Dam, dDa, rfl⟩ := Kd.R_slice hR
  have hcDa : La.length ≤ cDa := (Kd.N_reads' hN).2.1
  have hdDa : Ma.length ≤ dDa := (Kd.R_reads' hR).2.1
  have H6 := Aside0.mk (H4.out.below hb)
  clear H4
  have H7 := Aside0.mk (H6.out.add (stable_C k28 _ _) (Kd.N_reads' hN).2.2)
  clear H6
  have H8 := Aside0.mk (H7.out.add (stable_C (Kd.int .i64) _ _) (Kd.R_reads' hR).2.2)
  clear H7
  clear hN hR hb
  obtain ⟨ga, hg_⟩ : ∃ g_, g_ = v5.heap.size := ⟨_, rfl⟩
  obtain ⟨x1, hW_⟩ : ∃ y_, y_ = v5.alloc (.cells #[.slice Da La.length cDa, .slice Dam Ma.length dDa] 25 (0, 0)) := ⟨_, rfl⟩
  have hbb : Below v5.heap.size v5 x1 := by rw [hW_]; exact below_alloc (Below.refl _ _) _
  have hbl : x1.heap[ga]? = some (.cells #[.slice Da La.length cDa, .slice Dam Ma.length dDa] 25 (0, 0)) := by rw [hW_, hg_]; exact heap_alloc_new _ _
  (try simp only [List.length_cons, List.length_nil, Nat.reduceAdd, Nat.zero_add] at hW_)
  have HG_ := Aside0.mk hg_
  have HW_ := Aside0.mk hW_
  clear hg_ hW_
  have HBB := Aside0.mk hbb
  have HBL := Aside0.mk hbl
  clear hbb hbl
  go_upto_region 2 with (fail)
  rw [← HG_.out, ← HW_.out]
  clear HG_ HW_
  have H9 := Aside0.mk (H8.out.below HBB.out)
  clear H8
  have H10 := Aside0.mk (H9.out.add (stable_blk _ _) HBL.out)
  clear H9
  clear HBB HBL
  have zga_0 := (blk_cell H10.out.hp.1 0).trans rfl
  have zga_1 := (blk_cell H10.out.hp.1 1).trans rfl
  go_wp2_with (go_at_call 12; refine (delta_Mark.calls (fun k => k < x1.heap.size) Da cDa La Dam dDa Ma La Mb 0 x1 (Kd.V_mk hcDa (Kd.C_F k28_heap H10.out.hp.2.2.1)) H10.out.hp.2.1 hdDa HM.out).mono ?_; rintro e v11 ⟨v0_, v1_, rfl, hN, hR, hb⟩; (suffices hsuf : Aside0 _ from hsuf.out))
  refine ⟨?_⟩
  obtain ⟨Db, cDb, rfl⟩ := Kd.N_slice hN
  obtain ⟨Dbm, dDb, rfl⟩ := Kd.R_slice hR
  have hcDb : La.length ≤ cDb := (Kd.N_reads' hN).2.1
  have hdDb : Mb.length ≤ dDb := (Kd.R_reads' hR).2.1
  have H12 := Aside0.mk (H10.out.below hb)
  clear H10
  have H13 := Aside0.mk (H12.out.add (stable_C k28 _ _) (Kd.N_reads' hN).2.2)
  clear H12
  have H14 := Aside0.mk (H13.out.add (stable_C (Kd.int .i64) _ _) (Kd.R_reads' hR).2.2)
  clear H13
  clear hN hR hb
  clear zga_0 zga_1
  obtain ⟨gb, hg_⟩ : ∃ g_, g_ = v11.heap.size := ⟨_, rfl⟩
  obtain ⟨x2, hW_⟩ : ∃ y_, y_ = v11.alloc (.cells #[.slice Db La.length cDb, .slice Dbm Mb.length dDb] 25 (0, 0)) := ⟨_, rfl⟩
  have hbb : Below v11.heap.size v11 x2 := by rw [hW_]; exact below_alloc (Below.refl _ _) _
  have hbl : x2.heap[gb]? = some (.cells #[.slice Db La.length cDb, .slice Dbm Mb.length dDb] 25 (0, 0)) := by rw [hW_, hg_]; exact heap_alloc_new _ _
  (try simp only [List.length_cons, List.length_nil, Nat.reduceAdd, Nat.zero_add] at hW_)
  have HG_ := Aside0.mk hg_
  have HW_ := Aside0.mk hW_
  clear hg_ hW_
  have HBB := Aside0.mk hbb
  have HBL := Aside0.mk hbl
  clear hbb hbl
  go_upto_region 3 with (fail)
  rw [← HG_.out, ← HW_.out]
  clear HG_ HW_
  have H15 := Aside0.mk (H14.out.below HBB.out)
  clear H14
  have H16 := Aside0.mk (H15.out.add (stable_blk _ _) HBL.out)
  clear H15
  clear HBB HBL
  have zgb_0 := (blk_cell H16.out.hp.1 0).trans rfl
  have zgb_1 := (blk_cell H16.out.hp.1 1).trans rfl
  go_wp2_with ((with_reducible refine gate_dst (N := 36) rfl ?_); (suffices hsuf : Aside0 _ from hsuf.out))
  refine ⟨?_⟩
  refine conv_lit_op 26 5 Try.underlying26 Try.underlying5 rfl 36 37 rfl rfl rfl rfl ([97] : List Int) ([97] : List Int) rfl [.int .u8 97] ?hr (by intro v_; first | rfl | (go_simp; done)) rfl (by simp) ?_
  case hr => first | (go_simp; done) | (go_simp; rfl)
  intro v_ w3 hV hb
  obtain ⟨A2, c2, rfl⟩ := Kd.V_slice hV
  have hc2 : ([97] : List Int).length ≤ c2 := (Kd.V_at hV).2.1
  have H17 := Aside0.mk (H16.out.below hb)
  clear H16
  have H18 := Aside0.mk (H17.out.add (stable_C (Kd.int .u8) _ _) (Kd.V_reads' hV).2.2)
  clear H17
  clear hV hb
  simp only [Act.put, List.setIfInBounds_toArray, List.set_cons_zero, List.set_cons_succ]
  clear zgb_0 zgb_1
  go_wp2_with (go_at_call 10; refine (delta_Put.calls 64 (fun k => k < w3.heap.size) Db cDb La Dbm dDb Mb 0 A2 c2 [97] true none 0 ([] : List Int) Lc Mb 0 w3 (Kd.V_mk hcDb (Kd.C_F k28_heap H18.out.hp.2.2.2.1)) H18.out.hp.2.2.1 hdDb H18.out.hp.1 hc2 (⟨rfl, by simp, fun h => absurd h (by simp)⟩ : Kd.C (Kd.int .u8) _ none ([] : List _).length []) (Nat.zero_le _) HP2.out).mono ?_; rintro e v19 ⟨v0_, v1_, rfl, hN, hR, hb⟩; (suffices hsuf : Aside0 _ from hsuf.out))
  refine ⟨?_⟩
  obtain ⟨Dc, cDc, rfl⟩ := Kd.N_slice hN
  obtain ⟨Dcm, dDc, rfl⟩ := Kd.R_slice hR
  have hcDc : Lc.length ≤ cDc := (Kd.N_reads' hN).2.1
  have hdDc : Mb.length ≤ dDc := (Kd.R_reads' hR).2.1
  have H20 := Aside0.mk (H18.out.below hb)
  clear H18
  have H21 := Aside0.mk (H20.out.add (stable_C k28 _ _) (Kd.N_reads' hN).2.2)
  clear H20
  have H22 := Aside0.mk (H21.out.add (stable_C (Kd.int .i64) _ _) (Kd.R_reads' hR).2.2)
  clear H21
  clear hN hR hb
  obtain ⟨gc, hg_⟩ : ∃ g_, g_ = v19.heap.size := ⟨_, rfl⟩
  obtain ⟨x3, hW_⟩ : ∃ y_, y_ = v19.alloc (.cells #[.slice Dc Lc.length cDc, .slice Dcm Mb.length dDc] 25 (0, 0)) := ⟨_, rfl⟩
  have hbb : Below v19.heap.size v19 x3 := by rw [hW_]; exact below_alloc (Below.refl _ _) _
  have hbl : x3.heap[gc]? = some (.cells #[.slice Dc Lc.length cDc, .slice Dcm Mb.length dDc] 25 (0, 0)) := by rw [hW_, hg_]; exact heap_alloc_new _ _
  (try simp only [List.length_cons, List.length_nil, Nat.reduceAdd, Nat.zero_add] at hW_)
  have HG_ := Aside0.mk hg_
  have HW_ := Aside0.mk hW_
  clear hg_ hW_
  have HBB := Aside0.mk hbb
  have HBL := Aside0.mk hbl
  clear hbb hbl
  go_upto_region 4 with (fail)
  rw [← HG_.out, ← HW_.out]
  clear HG_ HW_
  have H23 := Aside0.mk (H22.out.below HBB.out)
  clear H22
  have H24 := Aside0.mk (H23.out.add (stable_blk _ _) HBL.out)
  clear H23
  clear HBB HBL
  have zgc_0 := (blk_cell H24.out.hp.1 0).trans rfl
  have zgc_1 := (blk_cell H24.out.hp.1 1).trans rfl
  go_wp2_with ((with_reducible refine gate_dst (N := 44) rfl ?_); (suffices hsuf : Aside0 _ from hsuf.out))
  refine ⟨?_⟩
  refine conv_lit_op 26 5 Try.underlying26 Try.underlying5 rfl 44 45 rfl rfl rfl rfl ([97] : List Int) ([97] : List Int) rfl [.int .u8 97] ?hr (by intro v_; first | rfl | (go_simp; done)) rfl (by simp) ?_
  case hr => first | (go_simp; done) | (go_simp; rfl)
  intro v_ w4 hV hb
  obtain ⟨A3, c3, rfl⟩ := Kd.V_slice hV
  have hc3 : ([97] : List Int).length ≤ c3 := (Kd.V_at hV).2.1
  have H25 := Aside0.mk (H24.out.below hb)
  clear H24
  have H26 := Aside0.mk (H25.out.add (stable_C (Kd.int .u8) _ _) (Kd.V_reads' hV).2.2)
  clear H25
  clear hV hb
  simp only [Act.put, List.setIfInBounds_toArray, List.set_cons_zero, List.set_cons_succ]
  clear zgc_0 zgc_1
  go_wp2_with (go_at_call 20; refine (delta_Find.calls Dc cDc Lc Dcm dDc Mb 0 A3 c3 [97] 0 [97] true [] true w4 H26.out.hp.2.2.2.1 hcDc H26.out.hp.2.2.1 hdDc H26.out.hp.1 hc3 HF1.out).mono ?_; rintro e v27 ⟨v1_, v3_, rfl, hR1, hR3, hb⟩; (suffices hsuf : Aside0 _ from hsuf.out))
  refine ⟨?_⟩
  obtain ⟨gfx, gfy, rfl⟩ := Kd.R_slice hR1
  obtain ⟨gfu, gfv, rfl⟩ := Kd.R_slice hR3
  have H28 := Aside0.mk (H26.out.below hb)
  clear H26
  clear hR1 hR3 hb
  obtain ⟨gf, hg_⟩ : ∃ g_, g_ = v27.heap.size := ⟨_, rfl⟩
  obtain ⟨x4, hW_⟩ : ∃ y_, y_ = v27.alloc (.cells #[.int .i64 0, .slice gfx ([97] : List Int).length gfy, .bool true, .slice gfu ([] : List Int).length gfv] 28 (0, 0)) := ⟨_, rfl⟩
  have hbb : Below v27.heap.size v27 x4 := by rw [hW_]; exact below_alloc (Below.refl _ _) _
  have hbl : x4.heap[gf]? = some (.cells #[.int .i64 0, .slice gfx ([97] : List Int).length gfy, .bool true, .slice gfu ([] : List Int).length gfv] 28 (0, 0)) := by rw [hW_, hg_]; exact heap_alloc_new _ _
  (try simp only [List.length_cons, List.length_nil, Nat.reduceAdd, Nat.zero_add] at hW_)
  have HG_ := Aside0.mk hg_
  have HW_ := Aside0.mk hW_
  clear hg_ hW_
  have HBB := Aside0.mk hbb
  have HBL := Aside0.mk hbl
  clear hbb hbl
  go_upto_region 5 with (fail)
  rw [← HG_.out, ← HW_.out]
  clear HG_ HW_
  have H29 := Aside0.mk (H28.out.below HBB.out)
  clear H28
  have H30 := Aside0.mk (H29.out.add (stable_blk _ _) HBL.out)
  clear H29
  clear HBB HBL
  have zgc_0 := (blk_cell H30.out.hp.2.2.1 0).trans rfl
  have zgc_1 := (blk_cell H30.out.hp.2.2.1 1).trans rfl
  go_wp2_with (go_at_call 23; refine (delta_Last.calls Dc cDc Lc Dcm dDc Mb LL x4 H30.out.hp.2.2.2.2.1 hcDc H30.out.hp.2.2.2.1 hdDc HL.out).mono ?_; rintro e v31 ⟨v0_, rfl, hN, hb⟩; (suffices hsuf : Aside0 _ from hsuf.out))
  refine ⟨?_⟩
  obtain ⟨Al, cl, rfl⟩ := Kd.N_slice hN
  obtain ⟨gl, hg0⟩ : ∃ g_, Al = some ⟨g_, 0, none⟩ := by
    rcases N_open hN with ⟨_, hx⟩ | ⟨g_, _, _, hv, _⟩
    · have := HN.out.1; rw [hx] at this; cases this
    · injection hv with e_; exact ⟨g_, e_⟩
  subst hg0
  have H32 := Aside0.mk (H30.out.below hb)
  clear H30
  have H33 := Aside0.mk (H32.out.add (stable_C k28 _ _) (Kd.N_reads' hN).2.2)
  clear H32
  clear hN hb
  clear zgc_0 zgc_1
  go_upto_region 6 with (fail)
  have zgc_0 := (blk_cell H33.out.hp.2.2.2.1 0).trans rfl
  have zgc_1 := (blk_cell H33.out.hp.2.2.2.1 1).trans rfl
  go_wp2_with ((with_reducible refine gate_dst (N := 53) rfl ?_); (suffices hsuf : Aside0 _ from hsuf.out))
  refine ⟨?_⟩
  refine conv_lit_op 26 5 Try.underlying26 Try.underlying5 rfl 53 54 rfl rfl rfl rfl ([97] : List Int) ([97] : List Int) rfl [.int .u8 97] ?hr (by intro v_; first | rfl | (go_simp; done)) rfl (by simp) ?_
  case hr => first | (go_simp; done) | (go_simp; rfl)
  intro v_ w5 hV hb
  obtain ⟨A4, c4, rfl⟩ := Kd.V_slice hV
  have hc4 : ([97] : List Int).length ≤ c4 := (Kd.V_at hV).2.1
  have H34 := Aside0.mk (H33.out.below hb)
  clear H33
  have H35 := Aside0.mk (H34.out.add (stable_C (Kd.int .u8) _ _) (Kd.V_reads' hV).2.2)
  clear H34
  clear hV hb
  simp only [Act.put, List.setIfInBounds_toArray, List.set_cons_zero, List.set_cons_succ]
  clear zgc_0 zgc_1
  go_wp2_with ((with_reducible refine gate_dst (N := 56) rfl ?_); (suffices hsuf : Aside0 _ from hsuf.out))
  refine ⟨?_⟩
  refine conv_lit_op 26 5 Try.underlying26 Try.underlying5 rfl 56 57 rfl rfl rfl rfl ([99] : List Int) ([99] : List Int) rfl [.int .u8 99] ?hr (by intro v_; first | rfl | (go_simp; done)) rfl (by simp) ?_
  case hr => first | (go_simp; done) | (go_simp; rfl)
  intro v_ w6 hV hb
  obtain ⟨A5, c5, rfl⟩ := Kd.V_slice hV
  have hc5 : ([99] : List Int).length ≤ c5 := (Kd.V_at hV).2.1
  have H36 := Aside0.mk (H35.out.below hb)
  clear H35
  have H37 := Aside0.mk (H36.out.add (stable_C (Kd.int .u8) _ _) (Kd.V_reads' hV).2.2)
  clear H36
  clear hV hb
  simp only [Act.put, List.setIfInBounds_toArray, List.set_cons_zero, List.set_cons_succ]
  go_wp2_with ((with_reducible refine gate_dst (N := 60) rfl ?_); (suffices hsuf : Aside0 _ from hsuf.out))
  refine ⟨?_⟩
  obtain ⟨w7, hw7⟩ : ∃ y_, y_ = w6.alloc (.cells #[.slice A4 ([97] : List Int).length c4, .slice none ([] : List Int).length 0, .slice A5 ([99] : List Int).length c5, .slice none ([] : List Int).length 0] 53 (0, 0)) := ⟨_, rfl⟩
  have hbb : Below w6.heap.size w6 w7 := by rw [hw7]; exact below_alloc (Below.refl _ _) _
  have H38 := Aside0.mk (H37.out.below hbb)
  clear H37
  obtain ⟨gp, hg_⟩ : ∃ g_, g_ = w6.heap.size := ⟨_, rfl⟩
  have hbl : w7.heap[gp]? = some (.cells #[.slice A4 ([97] : List Int).length c4, .slice none ([] : List Int).length 0, .slice A5 ([99] : List Int).length c5, .slice none ([] : List Int).length 0] 53 (0, 0)) := by rw [hw7, hg_]; exact heap_alloc_new _ _
  have hsp : Kd.C k53 w7 (some ⟨gp, 0, none⟩) ([(⟨([97] : List Int), ([] : List Int)⟩ : S53), (⟨([99] : List Int), ([] : List Int)⟩ : S53)] : List S53).length ([(⟨([97] : List Int), ([] : List Int)⟩ : S53), (⟨([99] : List Int), ([] : List Int)⟩ : S53)] : List S53) := by
    refine C_of_block (cur := (#[.slice A4 ([97] : List Int).length c4, .slice none ([] : List Int).length 0, .slice A5 ([99] : List Int).length c5, .slice none ([] : List Int).length 0]).toList) (by simp) hbl (by show 2 * 2 ≤ 4; omega) (fun j p hj => ?_)
    rcases j with _ | _ | j
    · cases hj
      exact k53_mk _ (⟨([97] : List Int), ([] : List Int)⟩ : S53) hc4 H38.out.hp.2.1 (Nat.zero_le _) (⟨rfl, by simp, fun h => absurd h (by simp)⟩ : Kd.C (Kd.int .u8) _ none ([] : List _).length [])
    · cases hj
      exact k53_mk _ (⟨([99] : List Int), ([] : List Int)⟩ : S53) hc5 H38.out.hp.1 (Nat.zero_le _) (⟨rfl, by simp, fun h => absurd h (by simp)⟩ : Kd.C (Kd.int .u8) _ none ([] : List _).length [])
    · cases hj
  (try simp only [List.length_cons, List.length_nil, Nat.reduceAdd, Nat.zero_add] at hw7)
  rw [← hw7, ← hg_]
  have H39 := Aside0.mk (H38.out.add (stable_C k53 _ _) hsp)
  clear H38
  clear hbb hbl hsp hw7 hg_
  go_wp2_with (go_at_call 26; refine (delta_Over.calls Dc cDc Lc Dcm dDc Mb 0 none 0 ([] : List Int) none 0 ([] : List Int) true (fun k => k < w7.heap.size) (some ⟨gp, 0, none⟩) 2 [(⟨[97], []⟩ : S53), ⟨[99], []⟩] OO w7 H39.out.hp.2.2.2.2.2.2.2.2.1 hcDc H39.out.hp.2.2.2.2.2.2.2.1 hdDc (⟨rfl, by simp, fun h => absurd h (by simp)⟩ : Kd.C (Kd.int .u8) _ none ([] : List _).length []) (Nat.zero_le _) (⟨rfl, by simp, fun h => absurd h (by simp)⟩ : Kd.C (Kd.int .u8) _ none ([] : List _).length []) (Nat.zero_le _) (Kd.V_mk (Nat.le_refl _) (Kd.C_F k53_heap H39.out.hp.1)) HO.out).mono ?_; rintro e v40 ⟨v0_, rfl, hN, hb⟩; (suffices hsuf : Aside0 _ from hsuf.out))
  refine ⟨?_⟩
  obtain ⟨Ao, co, rfl⟩ := Kd.N_slice hN
  obtain ⟨go_, hg0⟩ : ∃ g_, Ao = some ⟨g_, 0, none⟩ := by
    rcases N_open hN with ⟨_, hx⟩ | ⟨g_, _, _, hv, _⟩
    · have := HN.out.2.1; rw [hx] at this; cases this
    · injection hv with e_; exact ⟨g_, e_⟩
  subst hg0
  have H41 := Aside0.mk (H39.out.below hb)
  clear H39
  have H42 := Aside0.mk (H41.out.add (stable_C k53 _ _) (Kd.N_reads' hN).2.2)
  clear H41
  clear hN hb
  go_upto_region 7 with (fail)
  have zgc_0 := (blk_cell H42.out.hp.2.2.2.2.2.2.2.1 0).trans rfl
  have zgc_1 := (blk_cell H42.out.hp.2.2.2.2.2.2.2.1 1).trans rfl
  go_wp2_with (go_at_call 14; refine (delta_Back.calls (fun k => k < v40.heap.size) Dc cDc Lc Dcm dDc Mb 0 La Mb 0 v40 (Kd.V_mk hcDc (Kd.C_F k28_heap H42.out.hp.2.2.2.2.2.2.2.2.2.1)) H42.out.hp.2.2.2.2.2.2.2.2.1 hdDc HB1.out).mono ?_; rintro e v43 ⟨v0_, v1_, rfl, hN, hR, hb⟩; (suffices hsuf : Aside0 _ from hsuf.out))
  refine ⟨?_⟩
  obtain ⟨Dd, cDd, rfl⟩ := Kd.N_slice hN
  obtain ⟨Ddm, dDd, rfl⟩ := Kd.R_slice hR
  have hcDd : La.length ≤ cDd := (Kd.N_reads' hN).2.1
  have hdDd : Mb.length ≤ dDd := (Kd.R_reads' hR).2.1
  have H44 := Aside0.mk (H42.out.below hb)
  clear H42
  have H45 := Aside0.mk (H44.out.add (stable_C k28 _ _) (Kd.N_reads' hN).2.2)
  clear H44
  have H46 := Aside0.mk (H45.out.add (stable_C (Kd.int .i64) _ _) (Kd.R_reads' hR).2.2)
  clear H45
  clear hN hR hb
  clear zgc_0 zgc_1
  obtain ⟨gd, hg_⟩ : ∃ g_, g_ = v43.heap.size := ⟨_, rfl⟩
  obtain ⟨x5, hW_⟩ : ∃ y_, y_ = v43.alloc (.cells #[.slice Dd La.length cDd, .slice Ddm Mb.length dDd] 25 (0, 0)) := ⟨_, rfl⟩
  have hbb : Below v43.heap.size v43 x5 := by rw [hW_]; exact below_alloc (Below.refl _ _) _
  have hbl : x5.heap[gd]? = some (.cells #[.slice Dd La.length cDd, .slice Ddm Mb.length dDd] 25 (0, 0)) := by rw [hW_, hg_]; exact heap_alloc_new _ _
  (try simp only [List.length_cons, List.length_nil, Nat.reduceAdd, Nat.zero_add] at hW_)
  have HG_ := Aside0.mk hg_
  have HW_ := Aside0.mk hW_
  clear hg_ hW_
  have HBB := Aside0.mk hbb
  have HBL := Aside0.mk hbl
  clear hbb hbl
  go_upto_region 8 with (fail)
  rw [← HG_.out, ← HW_.out]
  clear HG_ HW_
  have H47 := Aside0.mk (H46.out.below HBB.out)
  clear H46
  have H48 := Aside0.mk (H47.out.add (stable_blk _ _) HBL.out)
  clear H47
  clear HBB HBL
  have zgc_0 := (blk_cell H48.out.hp.2.2.2.2.2.2.2.2.2.2.1 0).trans rfl
  have zgc_1 := (blk_cell H48.out.hp.2.2.2.2.2.2.2.2.2.2.1 1).trans rfl
  go_wp2_with (go_at_call 14; refine (delta_Back.calls (fun k => k < x5.heap.size) Dc cDc Lc Dcm dDc Mb 1 Lc Mb 1 x5 (Kd.V_mk hcDc (Kd.C_F k28_heap H48.out.hp.2.2.2.2.2.2.2.2.2.2.2.2.1)) H48.out.hp.2.2.2.2.2.2.2.2.2.2.2.1 hdDc HB2.out).mono ?_; rintro e v49 ⟨v0_, v1_, rfl, hN, hR, hb⟩; (suffices hsuf : Aside0 _ from hsuf.out))
  refine ⟨?_⟩
  obtain ⟨De, cDe, rfl⟩ := Kd.N_slice hN
  obtain ⟨Dem, dDe, rfl⟩ := Kd.R_slice hR
  have hcDe : Lc.length ≤ cDe := (Kd.N_reads' hN).2.1
  have hdDe : Mb.length ≤ dDe := (Kd.R_reads' hR).2.1
  have H50 := Aside0.mk (H48.out.below hb)
  clear H48
  have H51 := Aside0.mk (H50.out.add (stable_C k28 _ _) (Kd.N_reads' hN).2.2)
  clear H50
  have H52 := Aside0.mk (H51.out.add (stable_C (Kd.int .i64) _ _) (Kd.R_reads' hR).2.2)
  clear H51
  clear hN hR hb
  clear zgc_0 zgc_1
  obtain ⟨ge, hg_⟩ : ∃ g_, g_ = v49.heap.size := ⟨_, rfl⟩
  obtain ⟨x6, hW_⟩ : ∃ y_, y_ = v49.alloc (.cells #[.slice De Lc.length cDe, .slice Dem Mb.length dDe] 25 (0, 0)) := ⟨_, rfl⟩
  have hbb : Below v49.heap.size v49 x6 := by rw [hW_]; exact below_alloc (Below.refl _ _) _
  have hbl : x6.heap[ge]? = some (.cells #[.slice De Lc.length cDe, .slice Dem Mb.length dDe] 25 (0, 0)) := by rw [hW_, hg_]; exact heap_alloc_new _ _
  (try simp only [List.length_cons, List.length_nil, Nat.reduceAdd, Nat.zero_add] at hW_)
  have HG_ := Aside0.mk hg_
  have HW_ := Aside0.mk hW_
  clear hg_ hW_
  have HBB := Aside0.mk hbb
  have HBL := Aside0.mk hbl
  clear hbb hbl
  go_upto_region 9 with (fail)
  rw [← HG_.out, ← HW_.out]
  clear HG_ HW_
  have H53 := Aside0.mk (H52.out.below HBB.out)
  clear H52
  have H54 := Aside0.mk (H53.out.add (stable_blk _ _) HBL.out)
  clear H53
  clear HBB HBL
  have zgd_0 := (blk_cell H54.out.hp.2.2.2.1 0).trans rfl
  have zgd_1 := (blk_cell H54.out.hp.2.2.2.1 1).trans rfl
  go_wp2_with ((with_reducible refine gate_dst (N := 73) rfl ?_); (suffices hsuf : Aside0 _ from hsuf.out))
  refine ⟨?_⟩
  refine conv_lit_op 26 5 Try.underlying26 Try.underlying5 rfl 73 74 rfl rfl rfl rfl ([97] : List Int) ([97] : List Int) rfl [.int .u8 97] ?hr (by intro v_; first | rfl | (go_simp; done)) rfl (by simp) ?_
  case hr => first | (go_simp; done) | (go_simp; rfl)
  intro v_ w8 hV hb
  obtain ⟨A6, c6, rfl⟩ := Kd.V_slice hV
  have hc6 : ([97] : List Int).length ≤ c6 := (Kd.V_at hV).2.1
  have H55 := Aside0.mk (H54.out.below hb)
  clear H54
  have H56 := Aside0.mk (H55.out.add (stable_C (Kd.int .u8) _ _) (Kd.V_reads' hV).2.2)
  clear H55
  clear hV hb
  simp only [Act.put, List.setIfInBounds_toArray, List.set_cons_zero, List.set_cons_succ]
  clear zgd_0 zgd_1
  go_wp2_with (go_at_call 20; refine (delta_Find.calls Dd cDd La Ddm dDd Mb 0 A6 c6 [97] 0 [] false [] false w8 H56.out.hp.2.2.2.2.2.2.1 hcDd H56.out.hp.2.2.2.2.2.1 hdDd H56.out.hp.1 hc6 HF2.out).mono ?_; rintro e v57 ⟨v1_, v3_, rfl, hR1, hR3, hb⟩; (suffices hsuf : Aside0 _ from hsuf.out))
  refine ⟨?_⟩
  obtain ⟨ghx, ghy, rfl⟩ := Kd.R_slice hR1
  obtain ⟨ghu, ghv, rfl⟩ := Kd.R_slice hR3
  have H58 := Aside0.mk (H56.out.below hb)
  clear H56
  clear hR1 hR3 hb
  obtain ⟨gh, hg_⟩ : ∃ g_, g_ = v57.heap.size := ⟨_, rfl⟩
  obtain ⟨x7, hW_⟩ : ∃ y_, y_ = v57.alloc (.cells #[.int .i64 0, .slice ghx ([] : List Int).length ghy, .bool false, .slice ghu ([] : List Int).length ghv] 28 (0, 0)) := ⟨_, rfl⟩
  have hbb : Below v57.heap.size v57 x7 := by rw [hW_]; exact below_alloc (Below.refl _ _) _
  have hbl : x7.heap[gh]? = some (.cells #[.int .i64 0, .slice ghx ([] : List Int).length ghy, .bool false, .slice ghu ([] : List Int).length ghv] 28 (0, 0)) := by rw [hW_, hg_]; exact heap_alloc_new _ _
  (try simp only [List.length_cons, List.length_nil, Nat.reduceAdd, Nat.zero_add] at hW_)
  have HG_ := Aside0.mk hg_
  have HW_ := Aside0.mk hW_
  clear hg_ hW_
  have HBB := Aside0.mk hbb
  have HBL := Aside0.mk hbl
  clear hbb hbl
  go_upto_region 10 with (fail)
  rw [← HG_.out, ← HW_.out]
  clear HG_ HW_
  have H59 := Aside0.mk (H58.out.below HBB.out)
  clear H58
  have H60 := Aside0.mk (H59.out.add (stable_blk _ _) HBL.out)
  clear H59
  clear HBB HBL
  have zgc_0 := (blk_cell H60.out.hp.2.2.2.2.2.2.2.2.2.2.2.2.2.2.2.1 0).trans rfl
  have zgc_1 := (blk_cell H60.out.hp.2.2.2.2.2.2.2.2.2.2.2.2.2.2.2.1 1).trans rfl
  go_wp2_with (go_at_call 10; refine (delta_Put.calls 64 (fun k => k < x7.heap.size) Dc cDc Lc Dcm dDc Mb 4 none 0 ([] : List Int) false none 0 ([] : List Int) Lc Mb 1 x7 (Kd.V_mk hcDc (Kd.C_F k28_heap H60.out.hp.2.2.2.2.2.2.2.2.2.2.2.2.2.2.2.2.2.1)) H60.out.hp.2.2.2.2.2.2.2.2.2.2.2.2.2.2.2.2.1 hdDc (⟨rfl, by simp, fun h => absurd h (by simp)⟩ : Kd.C (Kd.int .u8) _ none ([] : List _).length []) (Nat.zero_le _) (⟨rfl, by simp, fun h => absurd h (by simp)⟩ : Kd.C (Kd.int .u8) _ none ([] : List _).length []) (Nat.zero_le _) HP3.out).mono ?_; rintro e v61 ⟨v0_, v1_, rfl, hN, hR, hb⟩; (suffices hsuf : Aside0 _ from hsuf.out))
  refine ⟨?_⟩
  obtain ⟨Df, cDf, rfl⟩ := Kd.N_slice hN
  obtain ⟨Dfm, dDf, rfl⟩ := Kd.R_slice hR
  have hcDf : Lc.length ≤ cDf := (Kd.N_reads' hN).2.1
  have hdDf : Mb.length ≤ dDf := (Kd.R_reads' hR).2.1
  have H62 := Aside0.mk (H60.out.below hb)
  clear H60
  have H63 := Aside0.mk (H62.out.add (stable_C k28 _ _) (Kd.N_reads' hN).2.2)
  clear H62
  have H64 := Aside0.mk (H63.out.add (stable_C (Kd.int .i64) _ _) (Kd.R_reads' hR).2.2)
  clear H63
  clear hN hR hb
  clear zgc_0 zgc_1
  obtain ⟨gi, hg_⟩ : ∃ g_, g_ = v61.heap.size := ⟨_, rfl⟩
  obtain ⟨x8, hW_⟩ : ∃ y_, y_ = v61.alloc (.cells #[.slice Df Lc.length cDf, .slice Dfm Mb.length dDf] 25 (0, 0)) := ⟨_, rfl⟩
  have hbb : Below v61.heap.size v61 x8 := by rw [hW_]; exact below_alloc (Below.refl _ _) _
  have hbl : x8.heap[gi]? = some (.cells #[.slice Df Lc.length cDf, .slice Dfm Mb.length dDf] 25 (0, 0)) := by rw [hW_, hg_]; exact heap_alloc_new _ _
  (try simp only [List.length_cons, List.length_nil, Nat.reduceAdd, Nat.zero_add] at hW_)
  have HG_ := Aside0.mk hg_
  have HW_ := Aside0.mk hW_
  clear hg_ hW_
  have HBB := Aside0.mk hbb
  have HBL := Aside0.mk hbl
  clear hbb hbl
  go_upto_region 11 with (fail)
  rw [← HG_.out, ← HW_.out]
  clear HG_ HW_
  have H65 := Aside0.mk (H64.out.below HBB.out)
  clear H64
  have H66 := Aside0.mk (H65.out.add (stable_blk _ _) HBL.out)
  clear H65
  clear HBB HBL
  obtain ⟨hn1, hn2, hn3, hn4, hn5, hn6, hn7⟩ := HN.out
  obtain ⟨adp, Akp, ckp, Avp, cvp, ep, hx0p, hx1p, hx2p, hx3p, hl1p, hi1p, hl3p, hi3p⟩ := at_T28 H66.out.hp.2.2.2.2.2.2.2.2.2.2.2.2.2.2.2.1 0 (by decide) (by omega)
  rw [hn5] at hx1p hl1p hi1p
  cases ep
  have hyp : x8.cell? ⟨gl, 1, none⟩ = some (.slice Akp ([97] : List Int).length ckp) := by simpa [add_plain] using hx1p
  clear hx0p hx1p hx2p hx3p
  have hcvp := Kd.C_string (P := Try.prog) (A := Akp) (c := ckp) Try.underlying26 Try.underlying5 Try.underlying9 hi1p
  obtain ⟨adq, Akq, ckq, Avq, cvq, eq, hx0q, hx1q, hl1q, hi1q, hl3q, hi3q⟩ := at_T53 H66.out.hp.2.2.2.2.2.2.2.2.2.2.2.1 0 (by decide) (by omega)
  rw [hn6] at hx0q hl1q hi1q
  cases eq
  have hyq : x8.cell? ⟨go_, 0, none⟩ = some (.slice Akq ([98] : List Int).length ckq) := by simpa [add_plain] using hx0q
  clear hx0q hx1q
  have hcvq := Kd.C_string (P := Try.prog) (A := Akq) (c := ckq) Try.underlying26 Try.underlying5 Try.underlying9 hi1q
  obtain ⟨adr, Akr, ckr, Avr, cvr, er, hx0r, hx1r, hl1r, hi1r, hl3r, hi3r⟩ := at_T53 H66.out.hp.2.2.2.2.2.2.2.2.2.2.2.1 1 (by decide) (by omega)
  rw [hn7] at hx0r hl1r hi1r
  cases er
  have hyr : x8.cell? ⟨go_, 2, none⟩ = some (.slice Akr ([99] : List Int).length ckr) := by simpa [add_plain] using hx0r
  clear hx0r hx1r
  have hcvr := Kd.C_string (P := Try.prog) (A := Akr) (c := ckr) Try.underlying26 Try.underlying5 Try.underlying9 hi1r
  have zgf_2 := (blk_cell H66.out.hp.2.2.2.2.2.2.2.2.2.2.2.2.2.2.2.2.1 2).trans rfl
  have zgd_0 := (blk_cell H66.out.hp.2.2.2.2.2.2.2.2.1 0).trans rfl
  have zgd_1 := (blk_cell H66.out.hp.2.2.2.2.2.2.2.2.1 1).trans rfl
  have zgc_0 := (blk_cell H66.out.hp.2.2.2.2.2.2.2.2.2.2.2.2.2.2.2.2.2.2.1 0).trans rfl
  have zgc_1 := (blk_cell H66.out.hp.2.2.2.2.2.2.2.2.2.2.2.2.2.2.2.2.2.2.1 1).trans rfl
  have s97 : strOfNums [97] = ⟨#[97]⟩ := by rfl
  have s98 : strOfNums [98] = ⟨#[98]⟩ := by rfl
  have s99 : strOfNums [99] = ⟨#[99]⟩ := by rfl
  rw [s97] at hcvp
  rw [s98] at hcvq
  rw [s99] at hcvr
  simp only [List.length_cons, List.length_nil, Nat.reduceAdd, Nat.zero_add] at hcvp hcvq hcvr hyp hyq hyr
  clear s97 s98 s99
  go_wp2_with (go_at_call 17; (suffices hsuf : Aside0 _ from hsuf.out))
  refine ⟨?_⟩
  have hck := delta_Check.calls Dc cDc Lc Dcm dDc Mb true x8 H66.out.hp.2.2.2.2.2.2.2.2.2.2.2.2.2.2.2.2.2.2.2.2.1 hcDc H66.out.hp.2.2.2.2.2.2.2.2.2.2.2.2.2.2.2.2.2.2.2.1 hdDc HK.out
  rw [hn4] at hck
  refine hck.mono ?_
  rintro e v99 ⟨rfl, hb⟩
  have H67 := Aside0.mk (H66.out.below hb)
  clear H66
  clear hb hck
  go_wp2
  go_ret
  exact ⟨rfl, H67.out.hb⟩
end Go.Proofs.Ytbjeaalbdaedpaa.P
