-- Written by wip/gprint.py, a program of this session over the kit's print; Lean checks it.
import Derived.Test.YtomlhapehldlnaaPx0
import Derived.Test.YtomlhapehldlnaaPx1
import Derived.Test.YtomlhapehldlnaaPx39
import Derived.Test.YtomlhapehldlnaaPx40
import Derived.Lib.SlBytesConst
import Derived.OwnWalkIn
namespace Go.Proofs.Ytomlhapehldlnaa.P
open Go.RowKit Go.Proofs.YtomlhapehldlnaaW.PrintWords Go.Proofs.YtomlhapehldlnaaW.PrintLast Go.Proofs.YtomlhapehldlnaaW.PrintMore
attribute [local go_sem] max2_int min2_int max_two min_two max_three min_three max_four min_four   -- for this text's walks alone
set_option linter.unusedVariables false
set_option linter.unusedSimpArgs false

/-GIVEN banksmanlaw10_awake-/
/-! ### banksmanlaw10_awake: function 8 -/
def banksmanlaw10_awake.f  : Option (Bool) := some true
set_option maxHeartbeats 8000000 in
set_option maxRecDepth 100000 in
theorem banksmanlaw10_awake.calls  (r : Bool) (w : World) (h : banksmanlaw10_awake.f  = some r) :
    Calls Try.prog 8 #[] w fun e w' => e = .returned (.bool r) ∧ Below w.heap.size w w' := by
  unfold banksmanlaw10_awake.f at h
  obtain rfl := Option.some.inj h
  clear h
  have H0 := Aside0.mk (AB.start w)
  have hu := Try.underlying24
  have hkc := fun (W : World) (C : Array Value) (n c : Nat) => Lib.run_convert_bytes_const (P := Try.prog) W 22 5 C n c Try.underlying22 Try.underlying5
  go_enter Try.func8, Try.ntmps8
  go_wp2_with ((with_reducible refine gate_dst (N := 10) rfl ?_); (suffices hsuf : Aside0 _ from hsuf.out))
  refine ⟨?_⟩
  refine conv_lit_op 22 5 Try.underlying22 Try.underlying5 rfl 10 11 rfl rfl rfl rfl ([97] : List Int) ([97] : List Int) rfl [.int .u8 97] ?hr (by intro v_; first | rfl | (go_simp; done)) rfl (by simp) ?_
  case hr => first | (go_simp; done) | (go_simp; rfl)
  intro v_ w1 hV hb
  obtain ⟨A0, c0, rfl⟩ := Kd.V_slice hV
  have hc0 : ([97] : List Int).length ≤ c0 := (Kd.V_at hV).2.1
  have H1 := Aside0.mk (H0.out.below hb)
  clear H0
  have H2 := Aside0.mk (H1.out.add (stable_C (Kd.int .u8) _ _) (Kd.V_reads' hV).2.2)
  clear H1
  clear hV hb
  simp only [Act.put, List.setIfInBounds_toArray, List.set_cons_zero, List.set_cons_succ]
  go_wp2_with (go_at_call 11; refine (span_Point.calls 1 A0 c0 ([97] : List Int) 1 ([97] : List Int) ([97, 0] : List Int) false w1 H2.out.hp.1 hc0 (by kernel_rfl)).mono ?_; rintro e w2 ⟨v1_, v2_, rfl, hRa, hRb, hb⟩; (suffices hsuf : Aside0 _ from hsuf.out))
  refine ⟨?_⟩
  obtain ⟨Aa, ca, rfl⟩ := Kd.R_slice hRa
  obtain ⟨Ab, cb, rfl⟩ := Kd.R_slice hRb
  have hca : ([97] : List Int).length ≤ ca := (Kd.R_reads' hRa).2.1
  have hcb : ([97, 0] : List Int).length ≤ cb := (Kd.R_reads' hRb).2.1
  have H3 := Aside0.mk (H2.out.below hb)
  clear H2
  have H4 := Aside0.mk (H3.out.add (stable_C (Kd.int .u8) _ _) (Kd.R_reads' hRa).2.2)
  clear H3
  have H5 := Aside0.mk (H4.out.add (stable_C (Kd.int .u8) _ _) (Kd.R_reads' hRb).2.2)
  clear H4
  clear hRa hRb hb
  go_wp2_with ((with_reducible refine gate_dst (N := 13) rfl ?_); (suffices hsuf : Aside0 _ from hsuf.out))
  refine ⟨?_⟩
  obtain ⟨w3, hw3⟩ : ∃ y_, y_ = w2.alloc (.cells #[.int .i64 1, .slice Aa ([97] : List Int).length ca, .slice Ab ([97, 0] : List Int).length cb, .bool false] 24 (0, 0)) := ⟨_, rfl⟩
  obtain ⟨ga, hga⟩ : ∃ g_, g_ = w2.heap.size := ⟨_, rfl⟩
  have hbl : w3.heap[ga]? = some (.cells #[.int .i64 1, .slice Aa ([97] : List Int).length ca, .slice Ab ([97, 0] : List Int).length cb, .bool false] 24 (0, 0)) := by rw [hw3, hga]; exact heap_alloc_new _ _
  have hbb : Below w2.heap.size w2 w3 := by rw [hw3]; exact below_alloc (Below.refl _ _) _
  (try simp only [List.length_cons, List.length_nil, Nat.reduceAdd, Nat.zero_add] at hw3)
  rw [← hw3, ← hga]
  have H6 := Aside0.mk (H5.out.below hbb)
  clear H5
  have H7 := Aside0.mk (H6.out.add (stable_blk _ _) hbl)
  clear H6
  clear hbl hbb hw3 hga
  refine conv_lit_op 22 5 Try.underlying22 Try.underlying5 rfl 13 14 rfl rfl rfl rfl ([98] : List Int) ([98] : List Int) rfl [.int .u8 98] ?hr (by intro v_; first | rfl | (go_simp; done)) rfl (by simp) ?_
  case hr => first | (go_simp; done) | (go_simp; rfl)
  intro v_ w4 hV hb
  obtain ⟨Ac, cc, rfl⟩ := Kd.V_slice hV
  have hcc : ([98] : List Int).length ≤ cc := (Kd.V_at hV).2.1
  have H8 := Aside0.mk (H7.out.below hb)
  clear H7
  have H9 := Aside0.mk (H8.out.add (stable_C (Kd.int .u8) _ _) (Kd.V_reads' hV).2.2)
  clear H8
  clear hV hb
  simp only [Act.put, List.setIfInBounds_toArray, List.set_cons_zero, List.set_cons_succ]
  go_wp2_with ((with_reducible refine gate_dst (N := 17) rfl ?_); (suffices hsuf : Aside0 _ from hsuf.out))
  refine ⟨?_⟩
  obtain ⟨w5, hw5⟩ : ∃ y_, y_ = w4.alloc (.cells #[.int .i64 1, .slice Ac ([98] : List Int).length cc, .slice none ([] : List Int).length 0, .bool true] 24 (0, 0)) := ⟨_, rfl⟩
  obtain ⟨gb, hg_⟩ : ∃ g_, g_ = w4.heap.size := ⟨_, rfl⟩
  have hbl : w5.heap[gb]? = some (.cells #[.int .i64 1, .slice Ac ([98] : List Int).length cc, .slice none ([] : List Int).length 0, .bool true] 24 (0, 0)) := by rw [hw5, hg_]; exact heap_alloc_new _ _
  have hbb : Below w4.heap.size w4 w5 := by rw [hw5]; exact below_alloc (Below.refl _ _) _
  (try simp only [List.length_cons, List.length_nil, Nat.reduceAdd, Nat.zero_add] at hw5)
  rw [← hw5, ← hg_]
  have H10 := Aside0.mk (H9.out.below hbb)
  clear H9
  have H11 := Aside0.mk (H10.out.add (stable_blk _ _) hbl)
  clear H10
  clear hbl hbb hw5 hg_
  have x0 := (blk_cell H11.out.hp.2.2.1 0).trans rfl
  have x1 := (blk_cell H11.out.hp.2.2.1 1).trans rfl
  have x2 := (blk_cell H11.out.hp.2.2.1 2).trans rfl
  have x3 := (blk_cell H11.out.hp.2.2.1 3).trans rfl
  have y0 := (blk_cell H11.out.hp.1 0).trans rfl
  have y1 := (blk_cell H11.out.hp.1 1).trans rfl
  have y2 := (blk_cell H11.out.hp.1 2).trans rfl
  have y3 := (blk_cell H11.out.hp.1 3).trans rfl
  go_wp2_with ((with_reducible refine gate_dst (N := 18) rfl ?_); (suffices hsuf : Aside0 _ from hsuf.out))
  refine ⟨?_⟩
  clear x0 x1 x2 x3 y0 y1 y2 y3
  go_wp2_with ((with_reducible refine gate_dst (N := 19) rfl ?_); (suffices hsuf : Aside0 _ from hsuf.out))
  refine ⟨?_⟩
  obtain ⟨w6, hw6⟩ : ∃ y_, y_ = w5.alloc (.cells #[.int .i64 1, .slice Aa ([97] : List Int).length ca, .slice Ab ([97, 0] : List Int).length cb, .bool false] 24 (0, 0)) := ⟨_, rfl⟩
  have hbb : Below w5.heap.size w5 w6 := by rw [hw6]; exact below_alloc (Below.refl _ _) _
  have H12 := Aside0.mk (H11.out.below hbb)
  clear H11
  obtain ⟨gs, hg_⟩ : ∃ g_, g_ = w5.heap.size := ⟨_, rfl⟩
  have hbl : w6.heap[gs]? = some (.cells #[.int .i64 1, .slice Aa ([97] : List Int).length ca, .slice Ab ([97, 0] : List Int).length cb, .bool false] 24 (0, 0)) := by rw [hw6, hg_]; exact heap_alloc_new _ _
  have hsp : Kd.C k24 w6 (some ⟨gs, 0, none⟩) [(⟨1, ([97] : List Int), ([97, 0] : List Int), false⟩ : S24)].length [(⟨1, ([97] : List Int), ([97, 0] : List Int), false⟩ : S24)] := by
    refine C_of_block (cur := (#[.int .i64 1, .slice Aa ([97] : List Int).length ca, .slice Ab ([97, 0] : List Int).length cb, .bool false]).toList) (by simp) hbl (by show 1 * 4 ≤ 4; omega) (fun j p hj => ?_)
    rcases j with _ | j
    · cases hj
      exact k24_mk _ (⟨1, ([97] : List Int), ([97, 0] : List Int), false⟩ : S24) hca H12.out.hp.2.2.2.2.1 hcb H12.out.hp.2.2.2.1
    · cases hj
  (try simp only [List.length_cons, List.length_nil, Nat.reduceAdd, Nat.zero_add] at hw6)
  rw [← hw6, ← hg_]
  have H13 := Aside0.mk (H12.out.add (stable_C k24 _ _) hsp)
  clear H12
  clear hbb hbl hsp hw6 hg_
  have y0 := (blk_cell H13.out.hp.2.1 0).trans rfl
  have y1 := (blk_cell H13.out.hp.2.1 1).trans rfl
  have y2 := (blk_cell H13.out.hp.2.1 2).trans rfl
  have y3 := (blk_cell H13.out.hp.2.1 3).trans rfl
  go_wp2_with (go_at_call 25; refine (span_Add.calls (some ⟨gs, 0, none⟩) 1 [(⟨1, ([97] : List Int), ([97, 0] : List Int), false⟩ : S24)] 1 Ac cc ([98] : List Int) none 0 ([] : List Int) true 2 [(⟨1, ([97] : List Int), ([97, 0] : List Int), false⟩ : S24), (⟨1, ([98] : List Int), ([] : List Int), true⟩ : S24)] 0 w6 H13.out.hp.1 (Nat.le_refl _) H13.out.hp.2.2.1 hcc (⟨rfl, by simp, fun h => absurd h (by simp)⟩ : Kd.C (Kd.int .u8) _ none ([] : List Int).length []) (Nat.zero_le _) (by kernel_rfl)).mono ?_; rintro e w7 ⟨v0_, rfl, hV, hb⟩; (suffices hsuf : Aside0 _ from hsuf.out))
  refine ⟨?_⟩
  obtain ⟨Al, cl, rfl⟩ := Kd.V_slice hV
  have hcl : [(⟨1, ([97] : List Int), ([97, 0] : List Int), false⟩ : S24), (⟨1, ([98] : List Int), ([] : List Int), true⟩ : S24)].length ≤ cl := (Kd.V_at hV).2.1
  have H14 := Aside0.mk (H13.out.below hb)
  clear H13
  have H15 := Aside0.mk (H14.out.add (stable_C k24 _ _) (Kd.V_reads' hV).2.2)
  clear H14
  clear hV hb
  clear y0 y1 y2 y3
  go_wp2_with ((with_reducible refine gate_dst (N := 25) rfl ?_); (suffices hsuf : Aside0 _ from hsuf.out))
  refine ⟨?_⟩
  refine conv_lit_op 22 5 Try.underlying22 Try.underlying5 rfl 25 26 rfl rfl rfl rfl ([65] : List Int) ([65] : List Int) rfl [.int .u8 65] ?hr (by intro v_; first | rfl | (go_simp; done)) rfl (by simp) ?_
  case hr => first | (go_simp; done) | (go_simp; rfl)
  intro v_ w8 hV hb
  obtain ⟨Ad, cd, rfl⟩ := Kd.V_slice hV
  have hcd : ([65] : List Int).length ≤ cd := (Kd.V_at hV).2.1
  have H16 := Aside0.mk (H15.out.below hb)
  clear H15
  have H17 := Aside0.mk (H16.out.add (stable_C (Kd.int .u8) _ _) (Kd.V_reads' hV).2.2)
  clear H16
  clear hV hb
  simp only [Act.put, List.setIfInBounds_toArray, List.set_cons_zero, List.set_cons_succ]
  go_wp2_with (go_at_call 11; refine (span_Point.calls 1 Ad cd ([65] : List Int) 1 ([65] : List Int) ([65, 0] : List Int) false w8 H17.out.hp.1 hcd (by kernel_rfl)).mono ?_; rintro e w9 ⟨v1_, v2_, rfl, hRa, hRb, hb⟩; (suffices hsuf : Aside0 _ from hsuf.out))
  refine ⟨?_⟩
  obtain ⟨Ae, ce, rfl⟩ := Kd.R_slice hRa
  obtain ⟨Af, cf, rfl⟩ := Kd.R_slice hRb
  have hce : ([65] : List Int).length ≤ ce := (Kd.R_reads' hRa).2.1
  have hcf : ([65, 0] : List Int).length ≤ cf := (Kd.R_reads' hRb).2.1
  have H18 := Aside0.mk (H17.out.below hb)
  clear H17
  have H19 := Aside0.mk (H18.out.add (stable_C (Kd.int .u8) _ _) (Kd.R_reads' hRa).2.2)
  clear H18
  have H20 := Aside0.mk (H19.out.add (stable_C (Kd.int .u8) _ _) (Kd.R_reads' hRb).2.2)
  clear H19
  clear hRa hRb hb
  go_wp2_with (go_at_call 25; refine (span_Add.calls Al cl [(⟨1, ([97] : List Int), ([97, 0] : List Int), false⟩ : S24), (⟨1, ([98] : List Int), ([] : List Int), true⟩ : S24)] 1 Ae ce ([65] : List Int) Af cf ([65, 0] : List Int) false 2 [(⟨1, ([] : List Int), ([] : List Int), true⟩ : S24)] 0 w9 H20.out.hp.2.2.2.1 hcl H20.out.hp.2.1 hce H20.out.hp.1 hcf (by kernel_rfl)).mono ?_; rintro e w10 ⟨v0_, rfl, hV, hb⟩; (suffices hsuf : Aside0 _ from hsuf.out))
  refine ⟨?_⟩
  obtain ⟨Am, cm, rfl⟩ := Kd.V_slice hV
  have hcm : [(⟨1, ([] : List Int), ([] : List Int), true⟩ : S24)].length ≤ cm := (Kd.V_at hV).2.1
  have H21 := Aside0.mk (H20.out.below hb)
  clear H20
  have H22 := Aside0.mk (H21.out.add (stable_C k24 _ _) (Kd.V_reads' hV).2.2)
  clear H21
  clear hV hb
  go_wp2_with (go_at_call 25; refine (span_Add.calls Al cl [(⟨1, ([97] : List Int), ([97, 0] : List Int), false⟩ : S24), (⟨1, ([98] : List Int), ([] : List Int), true⟩ : S24)] 4 none 0 ([] : List Int) none 0 ([] : List Int) false 2 [(⟨1, ([97] : List Int), ([97, 0] : List Int), false⟩ : S24), (⟨1, ([98] : List Int), ([] : List Int), true⟩ : S24)] 1 w10 H22.out.hp.2.2.2.2.1 hcl (⟨rfl, by simp, fun h => absurd h (by simp)⟩ : Kd.C (Kd.int .u8) _ none ([] : List Int).length []) (Nat.zero_le _) (⟨rfl, by simp, fun h => absurd h (by simp)⟩ : Kd.C (Kd.int .u8) _ none ([] : List Int).length []) (Nat.zero_le _) (by kernel_rfl)).mono ?_; rintro e w11 ⟨v0_, rfl, hV, hb⟩; (suffices hsuf : Aside0 _ from hsuf.out))
  refine ⟨?_⟩
  obtain ⟨An, cn, rfl⟩ := Kd.V_slice hV
  have hcn : [(⟨1, ([97] : List Int), ([97, 0] : List Int), false⟩ : S24), (⟨1, ([98] : List Int), ([] : List Int), true⟩ : S24)].length ≤ cn := (Kd.V_at hV).2.1
  have H23 := Aside0.mk (H22.out.below hb)
  clear H22
  have H24 := Aside0.mk (H23.out.add (stable_C k24 _ _) (Kd.V_reads' hV).2.2)
  clear H23
  clear hV hb
  go_wp2_with fail
  as_aux_lemma =>
  have x0 := (blk_cell H24.out.hp.2.2.2.2.2.2.2.2.2.1 0).trans rfl
  have x1 := (blk_cell H24.out.hp.2.2.2.2.2.2.2.2.2.1 1).trans rfl
  have x2 := (blk_cell H24.out.hp.2.2.2.2.2.2.2.2.2.1 2).trans rfl
  have x3 := (blk_cell H24.out.hp.2.2.2.2.2.2.2.2.2.1 3).trans rfl
  have y0 := (blk_cell H24.out.hp.2.2.2.2.2.2.2.1 0).trans rfl
  have y1 := (blk_cell H24.out.hp.2.2.2.2.2.2.2.1 1).trans rfl
  have y2 := (blk_cell H24.out.hp.2.2.2.2.2.2.2.1 2).trans rfl
  have y3 := (blk_cell H24.out.hp.2.2.2.2.2.2.2.1 3).trans rfl
  refine start_ (n := 12) (S := fun w' => w'.cell? ⟨ga, 0, none⟩ = some (.int .i64 1) ∧ w'.cell? ⟨ga, 1, none⟩ = some (.slice Aa ([97] : List Int).length ca) ∧ w'.cell? ⟨ga, 2, none⟩ = some (.slice Ab ([97, 0] : List Int).length cb) ∧ w'.cell? ⟨ga, 3, none⟩ = some (.bool false) ∧ w'.cell? ⟨gb, 0, none⟩ = some (.int .i64 1) ∧ w'.cell? ⟨gb, 1, none⟩ = some (.slice Ac ([98] : List Int).length cc) ∧ w'.cell? ⟨gb, 2, none⟩ = some (.slice none ([] : List Int).length 0) ∧ w'.cell? ⟨gb, 3, none⟩ = some (.bool true)) (ds := ([] : List Nat)) #[false, false, false, false, false, false, false, false, false, false, false, false] (by kernel_rfl) rfl rfl ⟨x0, x1, x2, x3, y0, y1, y2, y3⟩ (fun hHeld => ?_)
  have hb_ := below_drew1 (Below.refl w11.heap.size w11)
  have H25 := Aside0.mk (H24.out.below hb_)
  clear H24
  clear hb_ x0 x1 x2 x3 y0 y1 y2 y3
  generalize w11.drew = d6 at H25 hHeld ⊢
  refine take_ (i := 0) (N := some 37) (v := ?_) (a' := ?_) #[true, false, false, false, false, false, false, false, false, false, false, false] rfl rfl (by kernel_rfl) (fun _ _ _ h => h) (Or.inl ⟨by rfl, ?_⟩) hHeld ?_ ?_
  rotate_left
  · rintro w' ⟨s0, s1, s2, s3, s4, s5, s6, s7⟩
    go_simp
    with_reducible rfl
  rotate_left
  · simp only [Act.put, List.setIfInBounds_toArray, List.set_cons_zero, List.set_cons_succ, i64_w, i32_w]
    rfl
  refine one_ (i := 1) (N := some 38) #[true, true, false, false, false, false, false, false, false, false, false, false] rfl rfl (by kernel_rfl) (by decide) (fun K hK => ?_)
  refine value_ (v := .slice (some ⟨d6.heap.size, 0, none⟩) 1 1) (w1 := d6.alloc (.cells #[.int .u8 97] 5 (0, 0))) (by rfl) rfl (by first | (go_simp; done) | (go_simp; rfl)) ?_
  have hbb := below_alloc (Below.refl d6.heap.size d6) (.cells #[.int .u8 97] 5 (0, 0))
  have H26 := Aside0.mk (H25.out.below hbb)
  refine hK.out _ _ ⟨(blk_cell H26.out.hp.2.2.2.2.2.2.2.2.2.1 0).trans rfl, (blk_cell H26.out.hp.2.2.2.2.2.2.2.2.2.1 1).trans rfl, (blk_cell H26.out.hp.2.2.2.2.2.2.2.2.2.1 2).trans rfl, (blk_cell H26.out.hp.2.2.2.2.2.2.2.2.2.1 3).trans rfl, (blk_cell H26.out.hp.2.2.2.2.2.2.2.1 0).trans rfl, (blk_cell H26.out.hp.2.2.2.2.2.2.2.1 1).trans rfl, (blk_cell H26.out.hp.2.2.2.2.2.2.2.1 2).trans rfl, (blk_cell H26.out.hp.2.2.2.2.2.2.2.1 3).trans rfl⟩ (fun hHeld => ?_)
  clear hK K hbb H26
  refine norm_ (a' := ?_) ?_ ?_
  rotate_left
  · show Act.put _ (some 38) _ = _
    simp only [Act.put, List.setIfInBounds_toArray, List.set_cons_zero, List.set_cons_succ, i64_w, i32_w]
    rfl
  refine one_ (i := 2) (N := some 39) #[true, true, true, false, false, false, false, false, false, false, false, false] rfl rfl (by kernel_rfl) (by decide) (fun K hK => ?_)
  refine value_ (v := .slice (some ⟨d6.heap.size, 0, none⟩) 1 1) (w1 := d6.alloc (.cells #[.int .u8 97] 5 (1, 2))) (by rfl) rfl (by first | (go_simp; done) | (go_simp; rfl)) ?_
  have hrow : Kd.C (Kd.int .u8) (d6.alloc (.cells #[.int .u8 97] 5 (1, 2))) (some ⟨d6.heap.size, 0, none⟩) ([97] : List Int).length ([97] : List Int) := lit_row ([97] : List Int) (by simp) 5 (1, 2)
  have hbb := below_alloc (Below.refl d6.heap.size d6) (.cells #[.int .u8 97] 5 (1, 2))
  obtain ⟨d6_2, hd6_2⟩ : ∃ y_, y_ = d6.alloc (.cells #[.int .u8 97] 5 (1, 2)) := ⟨_, rfl⟩
  obtain ⟨Ba, hA_⟩ : ∃ A_ : Option Addr, A_ = some ⟨d6.heap.size, 0, none⟩ := ⟨_, rfl⟩
  rw [← hd6_2] at hbb
  rw [← hd6_2, ← hA_] at hrow
  rw [← hd6_2, ← hA_]
  have H27 := Aside0.mk (H25.out.below hbb)
  clear H25
  have H28 := Aside0.mk (H27.out.add (stable_C (Kd.int .u8) _ _) hrow)
  clear H27
  clear hbb hrow hd6_2 hA_
  refine hK.out _ _ ⟨(blk_cell H28.out.hp.2.2.2.2.2.2.2.2.2.2.1 0).trans rfl, (blk_cell H28.out.hp.2.2.2.2.2.2.2.2.2.2.1 1).trans rfl, (blk_cell H28.out.hp.2.2.2.2.2.2.2.2.2.2.1 2).trans rfl, (blk_cell H28.out.hp.2.2.2.2.2.2.2.2.2.2.1 3).trans rfl, (blk_cell H28.out.hp.2.2.2.2.2.2.2.2.1 0).trans rfl, (blk_cell H28.out.hp.2.2.2.2.2.2.2.2.1 1).trans rfl, (blk_cell H28.out.hp.2.2.2.2.2.2.2.2.1 2).trans rfl, (blk_cell H28.out.hp.2.2.2.2.2.2.2.2.1 3).trans rfl⟩ (fun hHeld => ?_)
  clear hK K
  refine norm_ (a' := ?_) ?_ ?_
  rotate_left
  · show Act.put _ (some 39) _ = _
    simp only [Act.put, List.setIfInBounds_toArray, List.set_cons_zero, List.set_cons_succ, i64_w, i32_w]
    rfl
  refine one_ (i := 3) (N := some 40) #[true, true, true, true, false, false, false, false, false, false, false, false] rfl rfl (by kernel_rfl) (by decide) (fun K hK => ?_)
  refine goes_ Try.func12 (by kernel_rfl) rfl #[.int .i64 1, .slice Ba ([97] : List Int).length 1] (by rfl) rfl rfl (by (try simp only [List.map_toArray, List.map_cons, List.map_nil]); first | done | rfl) ?_
  refine (banksmanref10_Point.calls 1 Ba 1 ([97] : List Int) 1 ([97] : List Int) ([97, 0] : List Int) false d6_2 H28.out.hp.1 (Nat.le_refl _) (by kernel_rfl)).mono ?_
  rintro e d6_3 ⟨v1_, v2_, rfl, hRa, hRb, hb⟩
  obtain ⟨Bb, cbb, rfl⟩ := Kd.R_slice hRa
  obtain ⟨Bc, cbc, rfl⟩ := Kd.R_slice hRb
  have hcbb : ([97] : List Int).length ≤ cbb := (Kd.R_reads' hRa).2.1
  have hcbc : ([97, 0] : List Int).length ≤ cbc := (Kd.R_reads' hRb).2.1
  have H29 := Aside0.mk (H28.out.below hb)
  clear H28
  have H30 := Aside0.mk (H29.out.add (stable_C (Kd.int .u8) _ _) (Kd.R_reads' hRa).2.2)
  clear H29
  have H31 := Aside0.mk (H30.out.add (stable_C (Kd.int .u8) _ _) (Kd.R_reads' hRb).2.2)
  clear H30
  clear hRa hRb hb
  refine ⟨_, rfl, ?_⟩
  refine hK.out _ _ ⟨(blk_cell H31.out.hp.2.2.2.2.2.2.2.2.2.2.2.2.1 0).trans rfl, (blk_cell H31.out.hp.2.2.2.2.2.2.2.2.2.2.2.2.1 1).trans rfl, (blk_cell H31.out.hp.2.2.2.2.2.2.2.2.2.2.2.2.1 2).trans rfl, (blk_cell H31.out.hp.2.2.2.2.2.2.2.2.2.2.2.2.1 3).trans rfl, (blk_cell H31.out.hp.2.2.2.2.2.2.2.2.2.2.1 0).trans rfl, (blk_cell H31.out.hp.2.2.2.2.2.2.2.2.2.2.1 1).trans rfl, (blk_cell H31.out.hp.2.2.2.2.2.2.2.2.2.2.1 2).trans rfl, (blk_cell H31.out.hp.2.2.2.2.2.2.2.2.2.2.1 3).trans rfl⟩ (fun hHeld => ?_)
  clear hK K
  refine norm_ (a' := ?_) ?_ ?_
  rotate_left
  · show Act.put _ (some 40) _ = _
    simp only [Act.put, List.setIfInBounds_toArray, List.set_cons_zero, List.set_cons_succ, i64_w, i32_w]
    rfl
  as_aux_lemma =>
  refine one_ (i := 4) (N := some 41) #[true, true, true, true, true, false, false, false, false, false, false, false] rfl rfl (by kernel_rfl) (by decide) (fun K hK => ?_)
  refine goes_ Try.func10 (by kernel_rfl) rfl #[.agg #[.int .i64 1, .slice Aa ([97] : List Int).length ca, .slice Ab ([97, 0] : List Int).length cb, .bool false], .agg #[.int .i64 1, .slice Bb ([97] : List Int).length cbb, .slice Bc ([97, 0] : List Int).length cbc, .bool false]] (by rfl) rfl rfl (by (try simp only [List.map_toArray, List.map_cons, List.map_nil]); first | done | rfl) ?_
  refine (banksmanref10_One.calls 1 Aa ca ([97] : List Int) Ab cb ([97, 0] : List Int) false 1 Bb cbb ([97] : List Int) Bc cbc ([97, 0] : List Int) false true d6_3 H31.out.hp.2.2.2.2.2.2.2.2.2.2.2.2.2.2.1 hca H31.out.hp.2.2.2.2.2.2.2.2.2.2.2.2.2.1 hcb H31.out.hp.2.1 hcbb H31.out.hp.1 hcbc (by kernel_rfl)).mono ?_
  rintro e d6_4 ⟨rfl, hb⟩
  have H32 := Aside0.mk (H31.out.below hb)
  clear H31
  clear hb
  refine ⟨_, rfl, ?_⟩
  refine hK.out _ _ ⟨(blk_cell H32.out.hp.2.2.2.2.2.2.2.2.2.2.2.2.1 0).trans rfl, (blk_cell H32.out.hp.2.2.2.2.2.2.2.2.2.2.2.2.1 1).trans rfl, (blk_cell H32.out.hp.2.2.2.2.2.2.2.2.2.2.2.2.1 2).trans rfl, (blk_cell H32.out.hp.2.2.2.2.2.2.2.2.2.2.2.2.1 3).trans rfl, (blk_cell H32.out.hp.2.2.2.2.2.2.2.2.2.2.1 0).trans rfl, (blk_cell H32.out.hp.2.2.2.2.2.2.2.2.2.2.1 1).trans rfl, (blk_cell H32.out.hp.2.2.2.2.2.2.2.2.2.2.1 2).trans rfl, (blk_cell H32.out.hp.2.2.2.2.2.2.2.2.2.2.1 3).trans rfl⟩ (fun hHeld => ?_)
  clear hK K
  refine norm_ (a' := ?_) ?_ ?_
  rotate_left
  · show Act.put _ (some 41) _ = _
    simp only [Act.put, List.setIfInBounds_toArray, List.set_cons_zero, List.set_cons_succ, i64_w, i32_w]
    rfl
  as_aux_lemma =>
  refine pure_ (i := 5) (N := some 42) (v := ?_) (a' := ?_) #[true, true, true, true, true, true, false, false, false, false, false, false] rfl rfl (by kernel_rfl) (fun _ _ _ h => h) (Or.inl ⟨by rfl, ?_⟩) ?_ ?_
  rotate_left
  · intro w'
    go_simp
    with_reducible rfl
  rotate_left
  · simp only [Act.put, List.setIfInBounds_toArray, List.set_cons_zero, List.set_cons_succ, i64_w, i32_w]
    rfl
  refine pure_ (i := 6) (N := some 43) (v := ?_) (a' := ?_) #[true, true, true, true, true, true, true, false, false, false, false, false] rfl rfl (by kernel_rfl) (fun _ _ _ h => h) (Or.inl ⟨by rfl, ?_⟩) ?_ ?_
  rotate_left
  · intro w'
    go_simp
    with_reducible rfl
  rotate_left
  · simp only [Act.put, List.setIfInBounds_toArray, List.set_cons_zero, List.set_cons_succ, i64_w, i32_w]
    rfl
  refine one_ (i := 7) (N := some 44) #[true, true, true, true, true, true, true, true, false, false, false, false] rfl rfl (by kernel_rfl) (by decide) (fun K hK => ?_)
  refine goes_ Try.func13 (by kernel_rfl) rfl #[.int .i64 1] (by rfl) rfl rfl (by (try simp only [List.map_toArray, List.map_cons, List.map_nil]); first | done | rfl) ?_
  refine (span_All.calls 1 1 [] [] true d6_4 (by kernel_rfl)).mono ?_
  rintro e d6_5 ⟨v1_, v2_, rfl, hRa, hRb, hb⟩
  obtain ⟨Bd, cbd, rfl⟩ := Kd.R_slice hRa
  obtain ⟨Be, cbe, rfl⟩ := Kd.R_slice hRb
  have hcbd : ([] : List Int).length ≤ cbd := Nat.zero_le _
  have hcbe : ([] : List Int).length ≤ cbe := Nat.zero_le _
  have H33 := Aside0.mk (H32.out.below hb)
  clear H32
  have H34 := Aside0.mk (H33.out.add (stable_C (Kd.int .u8) _ _) (Kd.R_reads' hRa).2.2)
  clear H33
  have H35 := Aside0.mk (H34.out.add (stable_C (Kd.int .u8) _ _) (Kd.R_reads' hRb).2.2)
  clear H34
  clear hRa hRb hb
  refine ⟨_, rfl, ?_⟩
  refine hK.out _ _ ⟨(blk_cell H35.out.hp.2.2.2.2.2.2.2.2.2.2.2.2.2.2.1 0).trans rfl, (blk_cell H35.out.hp.2.2.2.2.2.2.2.2.2.2.2.2.2.2.1 1).trans rfl, (blk_cell H35.out.hp.2.2.2.2.2.2.2.2.2.2.2.2.2.2.1 2).trans rfl, (blk_cell H35.out.hp.2.2.2.2.2.2.2.2.2.2.2.2.2.2.1 3).trans rfl, (blk_cell H35.out.hp.2.2.2.2.2.2.2.2.2.2.2.2.1 0).trans rfl, (blk_cell H35.out.hp.2.2.2.2.2.2.2.2.2.2.2.2.1 1).trans rfl, (blk_cell H35.out.hp.2.2.2.2.2.2.2.2.2.2.2.2.1 2).trans rfl, (blk_cell H35.out.hp.2.2.2.2.2.2.2.2.2.2.2.2.1 3).trans rfl⟩ (fun hHeld => ?_)
  clear hK K
  refine norm_ (a' := ?_) ?_ ?_
  rotate_left
  · show Act.put _ (some 44) _ = _
    simp only [Act.put, List.setIfInBounds_toArray, List.set_cons_zero, List.set_cons_succ, i64_w, i32_w]
    rfl
  as_aux_lemma =>
  refine one_ (i := 8) (N := some 45) #[true, true, true, true, true, true, true, true, true, false, false, false] rfl rfl (by kernel_rfl) (by decide) (fun K hK => ?_)
  refine value_ (v := .slice (some ⟨d6_5.heap.size, 0, none⟩) 1 1) (w1 := d6_5.alloc (.cells #[.int .i64 1, .slice Bd ([] : List Int).length cbd, .slice Be ([] : List Int).length cbe, .bool true] 24 (0, 0))) (by rfl) rfl (by first | (go_simp; done) | (go_simp; rfl)) ?_
  obtain ⟨d6_6, hd6_6⟩ : ∃ y_, y_ = d6_5.alloc (.cells #[.int .i64 1, .slice Bd ([] : List Int).length cbd, .slice Be ([] : List Int).length cbe, .bool true] 24 (0, 0)) := ⟨_, rfl⟩
  have hbb : Below d6_5.heap.size d6_5 d6_6 := by rw [hd6_6]; exact below_alloc (Below.refl _ _) _
  have H36 := Aside0.mk (H35.out.below hbb)
  clear H35
  obtain ⟨gt, hg_⟩ : ∃ g_, g_ = d6_5.heap.size := ⟨_, rfl⟩
  have hbl : d6_6.heap[gt]? = some (.cells #[.int .i64 1, .slice Bd ([] : List Int).length cbd, .slice Be ([] : List Int).length cbe, .bool true] 24 (0, 0)) := by rw [hd6_6, hg_]; exact heap_alloc_new _ _
  have hsp : Kd.C k24 d6_6 (some ⟨gt, 0, none⟩) [(⟨1, ([] : List Int), ([] : List Int), true⟩ : S24)].length [(⟨1, ([] : List Int), ([] : List Int), true⟩ : S24)] := by
    refine C_of_block (cur := (#[.int .i64 1, .slice Bd ([] : List Int).length cbd, .slice Be ([] : List Int).length cbe, .bool true]).toList) (by simp) hbl (by show 1 * 4 ≤ 4; omega) (fun j p hj => ?_)
    rcases j with _ | j
    · cases hj
      exact k24_mk _ (⟨1, ([] : List Int), ([] : List Int), true⟩ : S24) hcbd H36.out.hp.2.1 hcbe H36.out.hp.1
    · cases hj
  rw [← hd6_6, ← hg_]
  have H37 := Aside0.mk (H36.out.add (stable_C k24 _ _) hsp)
  clear H36
  clear hbb hbl hsp hd6_6 hg_
  refine hK.out _ _ ⟨(blk_cell H37.out.hp.2.2.2.2.2.2.2.2.2.2.2.2.2.2.2.1 0).trans rfl, (blk_cell H37.out.hp.2.2.2.2.2.2.2.2.2.2.2.2.2.2.2.1 1).trans rfl, (blk_cell H37.out.hp.2.2.2.2.2.2.2.2.2.2.2.2.2.2.2.1 2).trans rfl, (blk_cell H37.out.hp.2.2.2.2.2.2.2.2.2.2.2.2.2.2.2.1 3).trans rfl, (blk_cell H37.out.hp.2.2.2.2.2.2.2.2.2.2.2.2.2.1 0).trans rfl, (blk_cell H37.out.hp.2.2.2.2.2.2.2.2.2.2.2.2.2.1 1).trans rfl, (blk_cell H37.out.hp.2.2.2.2.2.2.2.2.2.2.2.2.2.1 2).trans rfl, (blk_cell H37.out.hp.2.2.2.2.2.2.2.2.2.2.2.2.2.1 3).trans rfl⟩ (fun hHeld => ?_)
  clear hK K
  refine norm_ (a' := ?_) ?_ ?_
  rotate_left
  · show Act.put _ (some 45) _ = _
    simp only [Act.put, List.setIfInBounds_toArray, List.set_cons_zero, List.set_cons_succ, i64_w, i32_w]
    rfl
  refine one_ (i := 9) (N := some 46) #[true, true, true, true, true, true, true, true, true, true, false, false] rfl rfl (by kernel_rfl) (by decide) (fun K hK => ?_)
  refine goes_ Try.func27 (by kernel_rfl) rfl #[.slice Am [(⟨1, ([] : List Int), ([] : List Int), true⟩ : S24)].length cm, .slice (some ⟨gt, 0, none⟩) 1 1] (by rfl) rfl rfl (by (try simp only [List.map_toArray, List.map_cons, List.map_nil]); first | done | rfl) ?_
  refine (banksmanref10_Same.calls 64 Am cm [(⟨1, ([] : List Int), ([] : List Int), true⟩ : S24)] (some ⟨gt, 0, none⟩) 1 [(⟨1, ([] : List Int), ([] : List Int), true⟩ : S24)] true d6_6 H37.out.hp.2.2.2.2.2.2.2.1 hcm H37.out.hp.1 (Nat.le_refl _) (by kernel_rfl)).mono ?_
  rintro e d6_7 ⟨rfl, hb⟩
  have H38 := Aside0.mk (H37.out.below hb)
  clear H37
  clear hb
  refine ⟨_, rfl, ?_⟩
  refine hK.out _ _ ⟨(blk_cell H38.out.hp.2.2.2.2.2.2.2.2.2.2.2.2.2.2.2.1 0).trans rfl, (blk_cell H38.out.hp.2.2.2.2.2.2.2.2.2.2.2.2.2.2.2.1 1).trans rfl, (blk_cell H38.out.hp.2.2.2.2.2.2.2.2.2.2.2.2.2.2.2.1 2).trans rfl, (blk_cell H38.out.hp.2.2.2.2.2.2.2.2.2.2.2.2.2.2.2.1 3).trans rfl, (blk_cell H38.out.hp.2.2.2.2.2.2.2.2.2.2.2.2.2.1 0).trans rfl, (blk_cell H38.out.hp.2.2.2.2.2.2.2.2.2.2.2.2.2.1 1).trans rfl, (blk_cell H38.out.hp.2.2.2.2.2.2.2.2.2.2.2.2.2.1 2).trans rfl, (blk_cell H38.out.hp.2.2.2.2.2.2.2.2.2.2.2.2.2.1 3).trans rfl⟩ (fun hHeld => ?_)
  clear hK K
  refine norm_ (a' := ?_) ?_ ?_
  rotate_left
  · show Act.put _ (some 46) _ = _
    simp only [Act.put, List.setIfInBounds_toArray, List.set_cons_zero, List.set_cons_succ, i64_w, i32_w]
    rfl
  as_aux_lemma =>
  refine pure_ (i := 10) (N := some 47) (v := ?_) (a' := ?_) #[true, true, true, true, true, true, true, true, true, true, true, false] rfl rfl (by kernel_rfl) (fun _ _ _ h => h) (Or.inl ⟨by rfl, ?_⟩) ?_ ?_
  rotate_left
  · intro w'
    go_simp
    with_reducible rfl
  rotate_left
  · simp only [Act.put, List.setIfInBounds_toArray, List.set_cons_zero, List.set_cons_succ, i64_w, i32_w]
    rfl
  refine pure_ (i := 11) (N := some 9) (v := ?_) (a' := ?_) #[true, true, true, true, true, true, true, true, true, true, true, true] rfl rfl (by kernel_rfl) (fun _ _ _ h => h) (Or.inl ⟨by rfl, ?_⟩) ?_ ?_
  rotate_left
  · intro w'
    go_simp
    with_reducible rfl
  rotate_left
  · simp only [Act.put, List.setIfInBounds_toArray, List.set_cons_zero, List.set_cons_succ, i64_w, i32_w]
    rfl
  refine done_ (by kernel_rfl) ?_
  go_wp2_with fail
  have x0 := (blk_cell H38.out.hp.2.2.2.2.2.2.2.2.2.2.2.2.2.2.2.1 0).trans rfl
  have x1 := (blk_cell H38.out.hp.2.2.2.2.2.2.2.2.2.2.2.2.2.2.2.1 1).trans rfl
  have x2 := (blk_cell H38.out.hp.2.2.2.2.2.2.2.2.2.2.2.2.2.2.2.1 2).trans rfl
  have x3 := (blk_cell H38.out.hp.2.2.2.2.2.2.2.2.2.2.2.2.2.2.2.1 3).trans rfl
  have y0 := (blk_cell H38.out.hp.2.2.2.2.2.2.2.2.2.2.2.2.2.1 0).trans rfl
  have y1 := (blk_cell H38.out.hp.2.2.2.2.2.2.2.2.2.2.2.2.2.1 1).trans rfl
  have y2 := (blk_cell H38.out.hp.2.2.2.2.2.2.2.2.2.2.2.2.2.1 2).trans rfl
  have y3 := (blk_cell H38.out.hp.2.2.2.2.2.2.2.2.2.2.2.2.2.1 3).trans rfl
  refine start_ (n := 72) (S := fun w' => w'.cell? ⟨ga, 0, none⟩ = some (.int .i64 1) ∧ w'.cell? ⟨ga, 1, none⟩ = some (.slice Aa ([97] : List Int).length ca) ∧ w'.cell? ⟨ga, 2, none⟩ = some (.slice Ab ([97, 0] : List Int).length cb) ∧ w'.cell? ⟨ga, 3, none⟩ = some (.bool false) ∧ w'.cell? ⟨gb, 0, none⟩ = some (.int .i64 1) ∧ w'.cell? ⟨gb, 1, none⟩ = some (.slice Ac ([98] : List Int).length cc) ∧ w'.cell? ⟨gb, 2, none⟩ = some (.slice none ([] : List Int).length 0) ∧ w'.cell? ⟨gb, 3, none⟩ = some (.bool true)) (ds := ([] : List Nat)) #[false, false, false, false, false, false, false, false, false, false, false, false, false, false, false, false, false, false, false, false, false, false, false, false, false, false, false, false, false, false, false, false, false, false, false, false, false, false, false, false, false, false, false, false, false, false, false, false, false, false, false, false, false, false, false, false, false, false, false, false, false, false, false, false, false, false, false, false, false, false, false, false] (by kernel_rfl) rfl rfl ⟨x0, x1, x2, x3, y0, y1, y2, y3⟩ (fun hHeld => ?_)
  have hb_ := below_drew1 (Below.refl d6_7.heap.size d6_7)
  have H39 := Aside0.mk (H38.out.below hb_)
  clear H38
  clear hb_ x0 x1 x2 x3 y0 y1 y2 y3
  generalize d6_7.drew = d7 at H39 hHeld ⊢
  refine pure_ (i := 0) (N := some 48) (v := ?_) (a' := ?_) #[true, false, false, false, false, false, false, false, false, false, false, false, false, false, false, false, false, false, false, false, false, false, false, false, false, false, false, false, false, false, false, false, false, false, false, false, false, false, false, false, false, false, false, false, false, false, false, false, false, false, false, false, false, false, false, false, false, false, false, false, false, false, false, false, false, false, false, false, false, false, false, false] rfl rfl (by kernel_rfl) (fun _ _ _ h => h) (Or.inl ⟨by rfl, ?_⟩) ?_ ?_
  rotate_left
  · intro w'
    go_simp
    with_reducible rfl
  rotate_left
  · simp only [Act.put, List.setIfInBounds_toArray, List.set_cons_zero, List.set_cons_succ, i64_w, i32_w]
    rfl
  refine pure_ (i := 1) (N := some 49) (v := ?_) (a' := ?_) #[true, true, false, false, false, false, false, false, false, false, false, false, false, false, false, false, false, false, false, false, false, false, false, false, false, false, false, false, false, false, false, false, false, false, false, false, false, false, false, false, false, false, false, false, false, false, false, false, false, false, false, false, false, false, false, false, false, false, false, false, false, false, false, false, false, false, false, false, false, false, false, false] rfl rfl (by kernel_rfl) (fun _ _ _ h => h) (Or.inl ⟨by rfl, ?_⟩) ?_ ?_
  rotate_left
  · intro w'
    go_simp
    with_reducible rfl
  rotate_left
  · simp only [Act.put, List.setIfInBounds_toArray, List.set_cons_zero, List.set_cons_succ, i64_w, i32_w]
    rfl
  refine take_ (i := 2) (N := some 50) (v := ?_) (a' := ?_) #[true, true, true, false, false, false, false, false, false, false, false, false, false, false, false, false, false, false, false, false, false, false, false, false, false, false, false, false, false, false, false, false, false, false, false, false, false, false, false, false, false, false, false, false, false, false, false, false, false, false, false, false, false, false, false, false, false, false, false, false, false, false, false, false, false, false, false, false, false, false, false, false] rfl rfl (by kernel_rfl) (fun _ _ _ h => h) (Or.inl ⟨by rfl, ?_⟩) hHeld ?_ ?_
  rotate_left
  · rintro w' ⟨s0, s1, s2, s3, s4, s5, s6, s7⟩
    go_simp
    with_reducible rfl
  rotate_left
  · simp only [Act.put, List.setIfInBounds_toArray, List.set_cons_zero, List.set_cons_succ, i64_w, i32_w]
    rfl
  refine take_ (i := 3) (N := some 51) (v := ?_) (a' := ?_) #[true, true, true, true, false, false, false, false, false, false, false, false, false, false, false, false, false, false, false, false, false, false, false, false, false, false, false, false, false, false, false, false, false, false, false, false, false, false, false, false, false, false, false, false, false, false, false, false, false, false, false, false, false, false, false, false, false, false, false, false, false, false, false, false, false, false, false, false, false, false, false, false] rfl rfl (by kernel_rfl) (fun _ _ _ h => h) (Or.inl ⟨by rfl, ?_⟩) hHeld ?_ ?_
  rotate_left
  · rintro w' ⟨s0, s1, s2, s3, s4, s5, s6, s7⟩
    go_simp
    with_reducible rfl
  rotate_left
  · simp only [Act.put, List.setIfInBounds_toArray, List.set_cons_zero, List.set_cons_succ, i64_w, i32_w]
    rfl
  refine one_ (i := 4) (N := some 52) #[true, true, true, true, true, false, false, false, false, false, false, false, false, false, false, false, false, false, false, false, false, false, false, false, false, false, false, false, false, false, false, false, false, false, false, false, false, false, false, false, false, false, false, false, false, false, false, false, false, false, false, false, false, false, false, false, false, false, false, false, false, false, false, false, false, false, false, false, false, false, false, false] rfl rfl (by kernel_rfl) (by decide) (fun K hK => ?_)
  refine goes_ Try.func20 (by kernel_rfl) rfl #[.agg #[.int .i64 1, .slice Aa ([97] : List Int).length ca, .slice Ab ([97, 0] : List Int).length cb, .bool false], .agg #[.int .i64 1, .slice Ac ([98] : List Int).length cc, .slice none ([] : List Int).length 0, .bool true]] (by rfl) rfl rfl (by (try simp only [List.map_toArray, List.map_cons, List.map_nil]); first | done | rfl) ?_
  refine (span_Meets.calls 1 Aa ca ([97] : List Int) Ab cb ([97, 0] : List Int) false 1 Ac cc ([98] : List Int) none 0 ([] : List Int) true false d7 H39.out.hp.2.2.2.2.2.2.2.2.2.2.2.2.2.2.2.2.2.1 hca H39.out.hp.2.2.2.2.2.2.2.2.2.2.2.2.2.2.2.2.1 hcb H39.out.hp.2.2.2.2.2.2.2.2.2.2.2.2.2.2.1 hcc (⟨rfl, by simp, fun h => absurd h (by simp)⟩ : Kd.C (Kd.int .u8) _ none ([] : List Int).length []) (Nat.zero_le _) (by kernel_rfl)).mono ?_
  rintro e d7_1 ⟨rfl, hb⟩
  have H40 := Aside0.mk (H39.out.below hb)
  clear H39
  clear hb
  refine ⟨_, rfl, ?_⟩
  refine hK.out _ _ ⟨(blk_cell H40.out.hp.2.2.2.2.2.2.2.2.2.2.2.2.2.2.2.1 0).trans rfl, (blk_cell H40.out.hp.2.2.2.2.2.2.2.2.2.2.2.2.2.2.2.1 1).trans rfl, (blk_cell H40.out.hp.2.2.2.2.2.2.2.2.2.2.2.2.2.2.2.1 2).trans rfl, (blk_cell H40.out.hp.2.2.2.2.2.2.2.2.2.2.2.2.2.2.2.1 3).trans rfl, (blk_cell H40.out.hp.2.2.2.2.2.2.2.2.2.2.2.2.2.1 0).trans rfl, (blk_cell H40.out.hp.2.2.2.2.2.2.2.2.2.2.2.2.2.1 1).trans rfl, (blk_cell H40.out.hp.2.2.2.2.2.2.2.2.2.2.2.2.2.1 2).trans rfl, (blk_cell H40.out.hp.2.2.2.2.2.2.2.2.2.2.2.2.2.1 3).trans rfl⟩ (fun hHeld => ?_)
  clear hK K
  refine norm_ (a' := ?_) ?_ ?_
  rotate_left
  · show Act.put _ (some 52) _ = _
    simp only [Act.put, List.setIfInBounds_toArray, List.set_cons_zero, List.set_cons_succ, i64_w, i32_w]
    rfl
  as_aux_lemma =>
  refine pure_ (i := 5) (N := some 53) (v := ?_) (a' := ?_) #[true, true, true, true, true, true, false, false, false, false, false, false, false, false, false, false, false, false, false, false, false, false, false, false, false, false, false, false, false, false, false, false, false, false, false, false, false, false, false, false, false, false, false, false, false, false, false, false, false, false, false, false, false, false, false, false, false, false, false, false, false, false, false, false, false, false, false, false, false, false, false, false] rfl rfl (by kernel_rfl) (fun _ _ _ h => h) (Or.inl ⟨by rfl, ?_⟩) ?_ ?_
  rotate_left
  · intro w'
    go_simp
    with_reducible rfl
  rotate_left
  · simp only [Act.put, List.setIfInBounds_toArray, List.set_cons_zero, List.set_cons_succ, i64_w, i32_w]
    rfl
  refine pure_ (i := 6) (N := some 54) (v := ?_) (a' := ?_) #[true, true, true, true, true, true, true, false, false, false, false, false, false, false, false, false, false, false, false, false, false, false, false, false, false, false, false, false, false, false, false, false, false, false, false, false, false, false, false, false, false, false, false, false, false, false, false, false, false, false, false, false, false, false, false, false, false, false, false, false, false, false, false, false, false, false, false, false, false, false, false, false] rfl rfl (by kernel_rfl) (fun _ _ _ h => h) (Or.inl ⟨by rfl, ?_⟩) ?_ ?_
  rotate_left
  · intro w'
    go_simp
    with_reducible rfl
  rotate_left
  · simp only [Act.put, List.setIfInBounds_toArray, List.set_cons_zero, List.set_cons_succ, i64_w, i32_w]
    rfl
  refine pure_ (i := 7) (N := some 55) (v := ?_) (a' := ?_) #[true, true, true, true, true, true, true, true, false, false, false, false, false, false, false, false, false, false, false, false, false, false, false, false, false, false, false, false, false, false, false, false, false, false, false, false, false, false, false, false, false, false, false, false, false, false, false, false, false, false, false, false, false, false, false, false, false, false, false, false, false, false, false, false, false, false, false, false, false, false, false, false] rfl rfl (by kernel_rfl) (fun _ _ _ h => h) (Or.inl ⟨by rfl, ?_⟩) ?_ ?_
  rotate_left
  · intro w'
    go_simp
    with_reducible rfl
  rotate_left
  · simp only [Act.put, List.setIfInBounds_toArray, List.set_cons_zero, List.set_cons_succ, i64_w, i32_w]
    rfl
  refine take_ (i := 8) (N := some 56) (v := ?_) (a' := ?_) #[true, true, true, true, true, true, true, true, true, false, false, false, false, false, false, false, false, false, false, false, false, false, false, false, false, false, false, false, false, false, false, false, false, false, false, false, false, false, false, false, false, false, false, false, false, false, false, false, false, false, false, false, false, false, false, false, false, false, false, false, false, false, false, false, false, false, false, false, false, false, false, false] rfl rfl (by kernel_rfl) (fun _ _ _ h => h) (Or.inl ⟨by rfl, ?_⟩) hHeld ?_ ?_
  rotate_left
  · rintro w' ⟨s0, s1, s2, s3, s4, s5, s6, s7⟩
    go_simp
    with_reducible rfl
  rotate_left
  · simp only [Act.put, List.setIfInBounds_toArray, List.set_cons_zero, List.set_cons_succ, i64_w, i32_w]
    rfl
  refine one_ (i := 9) (N := some 57) #[true, true, true, true, true, true, true, true, true, true, false, false, false, false, false, false, false, false, false, false, false, false, false, false, false, false, false, false, false, false, false, false, false, false, false, false, false, false, false, false, false, false, false, false, false, false, false, false, false, false, false, false, false, false, false, false, false, false, false, false, false, false, false, false, false, false, false, false, false, false, false, false] rfl rfl (by kernel_rfl) (by decide) (fun K hK => ?_)
  refine goes_ Try.func13 (by kernel_rfl) rfl #[.int .i64 1] (by rfl) rfl rfl (by (try simp only [List.map_toArray, List.map_cons, List.map_nil]); first | done | rfl) ?_
  refine (span_All.calls 1 1 [] [] true d7_1 (by kernel_rfl)).mono ?_
  rintro e d7_2 ⟨v1_, v2_, rfl, hRa, hRb, hb⟩
  obtain ⟨Bf, cbf, rfl⟩ := Kd.R_slice hRa
  obtain ⟨Bg, cbg, rfl⟩ := Kd.R_slice hRb
  have hcbf : ([] : List Int).length ≤ cbf := Nat.zero_le _
  have hcbg : ([] : List Int).length ≤ cbg := Nat.zero_le _
  have H41 := Aside0.mk (H40.out.below hb)
  clear H40
  have H42 := Aside0.mk (H41.out.add (stable_C (Kd.int .u8) _ _) (Kd.R_reads' hRa).2.2)
  clear H41
  have H43 := Aside0.mk (H42.out.add (stable_C (Kd.int .u8) _ _) (Kd.R_reads' hRb).2.2)
  clear H42
  clear hRa hRb hb
  refine ⟨_, rfl, ?_⟩
  refine hK.out _ _ ⟨(blk_cell H43.out.hp.2.2.2.2.2.2.2.2.2.2.2.2.2.2.2.2.2.1 0).trans rfl, (blk_cell H43.out.hp.2.2.2.2.2.2.2.2.2.2.2.2.2.2.2.2.2.1 1).trans rfl, (blk_cell H43.out.hp.2.2.2.2.2.2.2.2.2.2.2.2.2.2.2.2.2.1 2).trans rfl, (blk_cell H43.out.hp.2.2.2.2.2.2.2.2.2.2.2.2.2.2.2.2.2.1 3).trans rfl, (blk_cell H43.out.hp.2.2.2.2.2.2.2.2.2.2.2.2.2.2.2.1 0).trans rfl, (blk_cell H43.out.hp.2.2.2.2.2.2.2.2.2.2.2.2.2.2.2.1 1).trans rfl, (blk_cell H43.out.hp.2.2.2.2.2.2.2.2.2.2.2.2.2.2.2.1 2).trans rfl, (blk_cell H43.out.hp.2.2.2.2.2.2.2.2.2.2.2.2.2.2.2.1 3).trans rfl⟩ (fun hHeld => ?_)
  clear hK K
  refine norm_ (a' := ?_) ?_ ?_
  rotate_left
  · show Act.put _ (some 57) _ = _
    simp only [Act.put, List.setIfInBounds_toArray, List.set_cons_zero, List.set_cons_succ, i64_w, i32_w]
    rfl
  as_aux_lemma =>
  refine one_ (i := 10) (N := some 58) #[true, true, true, true, true, true, true, true, true, true, true, false, false, false, false, false, false, false, false, false, false, false, false, false, false, false, false, false, false, false, false, false, false, false, false, false, false, false, false, false, false, false, false, false, false, false, false, false, false, false, false, false, false, false, false, false, false, false, false, false, false, false, false, false, false, false, false, false, false, false, false, false] rfl rfl (by kernel_rfl) (by decide) (fun K hK => ?_)
  refine goes_ Try.func20 (by kernel_rfl) rfl #[.agg #[.int .i64 1, .slice Ac ([98] : List Int).length cc, .slice none ([] : List Int).length 0, .bool true], .agg #[.int .i64 1, .slice Bf ([] : List Int).length cbf, .slice Bg ([] : List Int).length cbg, .bool true]] (by rfl) rfl rfl (by (try simp only [List.map_toArray, List.map_cons, List.map_nil]); first | done | rfl) ?_
  refine (span_Meets.calls 1 Ac cc ([98] : List Int) none 0 ([] : List Int) true 1 Bf cbf ([] : List Int) Bg cbg ([] : List Int) true true d7_2 H43.out.hp.2.2.2.2.2.2.2.2.2.2.2.2.2.2.2.2.1 hcc (⟨rfl, by simp, fun h => absurd h (by simp)⟩ : Kd.C (Kd.int .u8) _ none ([] : List Int).length []) (Nat.zero_le _) H43.out.hp.2.1 hcbf H43.out.hp.1 hcbg (by kernel_rfl)).mono ?_
  rintro e d7_3 ⟨rfl, hb⟩
  have H44 := Aside0.mk (H43.out.below hb)
  clear H43
  clear hb
  refine ⟨_, rfl, ?_⟩
  refine hK.out _ _ ⟨(blk_cell H44.out.hp.2.2.2.2.2.2.2.2.2.2.2.2.2.2.2.2.2.1 0).trans rfl, (blk_cell H44.out.hp.2.2.2.2.2.2.2.2.2.2.2.2.2.2.2.2.2.1 1).trans rfl, (blk_cell H44.out.hp.2.2.2.2.2.2.2.2.2.2.2.2.2.2.2.2.2.1 2).trans rfl, (blk_cell H44.out.hp.2.2.2.2.2.2.2.2.2.2.2.2.2.2.2.2.2.1 3).trans rfl, (blk_cell H44.out.hp.2.2.2.2.2.2.2.2.2.2.2.2.2.2.2.1 0).trans rfl, (blk_cell H44.out.hp.2.2.2.2.2.2.2.2.2.2.2.2.2.2.2.1 1).trans rfl, (blk_cell H44.out.hp.2.2.2.2.2.2.2.2.2.2.2.2.2.2.2.1 2).trans rfl, (blk_cell H44.out.hp.2.2.2.2.2.2.2.2.2.2.2.2.2.2.2.1 3).trans rfl⟩ (fun hHeld => ?_)
  clear hK K
  refine norm_ (a' := ?_) ?_ ?_
  rotate_left
  · show Act.put _ (some 58) _ = _
    simp only [Act.put, List.setIfInBounds_toArray, List.set_cons_zero, List.set_cons_succ, i64_w, i32_w]
    rfl
  as_aux_lemma =>
  refine pure_ (i := 11) (N := some 59) (v := ?_) (a' := ?_) #[true, true, true, true, true, true, true, true, true, true, true, true, false, false, false, false, false, false, false, false, false, false, false, false, false, false, false, false, false, false, false, false, false, false, false, false, false, false, false, false, false, false, false, false, false, false, false, false, false, false, false, false, false, false, false, false, false, false, false, false, false, false, false, false, false, false, false, false, false, false, false, false] rfl rfl (by kernel_rfl) (fun _ _ _ h => h) (Or.inl ⟨by rfl, ?_⟩) ?_ ?_
  rotate_left
  · intro w'
    go_simp
    with_reducible rfl
  rotate_left
  · simp only [Act.put, List.setIfInBounds_toArray, List.set_cons_zero, List.set_cons_succ, i64_w, i32_w]
    rfl
  refine pure_ (i := 12) (N := some 60) (v := ?_) (a' := ?_) #[true, true, true, true, true, true, true, true, true, true, true, true, true, false, false, false, false, false, false, false, false, false, false, false, false, false, false, false, false, false, false, false, false, false, false, false, false, false, false, false, false, false, false, false, false, false, false, false, false, false, false, false, false, false, false, false, false, false, false, false, false, false, false, false, false, false, false, false, false, false, false, false] rfl rfl (by kernel_rfl) (fun _ _ _ h => h) (Or.inl ⟨by rfl, ?_⟩) ?_ ?_
  rotate_left
  · intro w'
    go_simp
    with_reducible rfl
  rotate_left
  · simp only [Act.put, List.setIfInBounds_toArray, List.set_cons_zero, List.set_cons_succ, i64_w, i32_w]
    rfl
  refine take_ (i := 14) (N := some 62) (v := ?_) (a' := ?_) #[true, true, true, true, true, true, true, true, true, true, true, true, true, false, true, false, false, false, false, false, false, false, false, false, false, false, false, false, false, false, false, false, false, false, false, false, false, false, false, false, false, false, false, false, false, false, false, false, false, false, false, false, false, false, false, false, false, false, false, false, false, false, false, false, false, false, false, false, false, false, false, false] rfl rfl (by kernel_rfl) (fun _ _ _ h => h) (Or.inl ⟨by rfl, ?_⟩) hHeld ?_ ?_
  rotate_left
  · rintro w' ⟨s0, s1, s2, s3, s4, s5, s6, s7⟩
    go_simp
    with_reducible rfl
  rotate_left
  · simp only [Act.put, List.setIfInBounds_toArray, List.set_cons_zero, List.set_cons_succ, i64_w, i32_w]
    rfl
  refine one_ (i := 13) (N := some 61) #[true, true, true, true, true, true, true, true, true, true, true, true, true, true, true, false, false, false, false, false, false, false, false, false, false, false, false, false, false, false, false, false, false, false, false, false, false, false, false, false, false, false, false, false, false, false, false, false, false, false, false, false, false, false, false, false, false, false, false, false, false, false, false, false, false, false, false, false, false, false, false, false] rfl rfl (by kernel_rfl) (by decide) (fun K hK => ?_)
  refine goes_ Try.func13 (by kernel_rfl) rfl #[.int .i64 1] (by rfl) rfl rfl (by (try simp only [List.map_toArray, List.map_cons, List.map_nil]); first | done | rfl) ?_
  refine (span_All.calls 1 1 [] [] true d7_3 (by kernel_rfl)).mono ?_
  rintro e d7_4 ⟨v1_, v2_, rfl, hRa, hRb, hb⟩
  obtain ⟨Bh, cbh, rfl⟩ := Kd.R_slice hRa
  obtain ⟨Bi, cbi, rfl⟩ := Kd.R_slice hRb
  have hcbh : ([] : List Int).length ≤ cbh := Nat.zero_le _
  have hcbi : ([] : List Int).length ≤ cbi := Nat.zero_le _
  have H45 := Aside0.mk (H44.out.below hb)
  clear H44
  have H46 := Aside0.mk (H45.out.add (stable_C (Kd.int .u8) _ _) (Kd.R_reads' hRa).2.2)
  clear H45
  have H47 := Aside0.mk (H46.out.add (stable_C (Kd.int .u8) _ _) (Kd.R_reads' hRb).2.2)
  clear H46
  clear hRa hRb hb
  refine ⟨_, rfl, ?_⟩
  refine hK.out _ _ ⟨(blk_cell H47.out.hp.2.2.2.2.2.2.2.2.2.2.2.2.2.2.2.2.2.2.2.1 0).trans rfl, (blk_cell H47.out.hp.2.2.2.2.2.2.2.2.2.2.2.2.2.2.2.2.2.2.2.1 1).trans rfl, (blk_cell H47.out.hp.2.2.2.2.2.2.2.2.2.2.2.2.2.2.2.2.2.2.2.1 2).trans rfl, (blk_cell H47.out.hp.2.2.2.2.2.2.2.2.2.2.2.2.2.2.2.2.2.2.2.1 3).trans rfl, (blk_cell H47.out.hp.2.2.2.2.2.2.2.2.2.2.2.2.2.2.2.2.2.1 0).trans rfl, (blk_cell H47.out.hp.2.2.2.2.2.2.2.2.2.2.2.2.2.2.2.2.2.1 1).trans rfl, (blk_cell H47.out.hp.2.2.2.2.2.2.2.2.2.2.2.2.2.2.2.2.2.1 2).trans rfl, (blk_cell H47.out.hp.2.2.2.2.2.2.2.2.2.2.2.2.2.2.2.2.2.1 3).trans rfl⟩ (fun hHeld => ?_)
  clear hK K
  refine norm_ (a' := ?_) ?_ ?_
  rotate_left
  · show Act.put _ (some 61) _ = _
    simp only [Act.put, List.setIfInBounds_toArray, List.set_cons_zero, List.set_cons_succ, i64_w, i32_w]
    rfl
  as_aux_lemma =>
  refine one_ (i := 15) (N := some 63) #[true, true, true, true, true, true, true, true, true, true, true, true, true, true, true, true, false, false, false, false, false, false, false, false, false, false, false, false, false, false, false, false, false, false, false, false, false, false, false, false, false, false, false, false, false, false, false, false, false, false, false, false, false, false, false, false, false, false, false, false, false, false, false, false, false, false, false, false, false, false, false, false] rfl rfl (by kernel_rfl) (by decide) (fun K hK => ?_)
  refine goes_ Try.func22 (by kernel_rfl) rfl #[.agg #[.int .i64 1, .slice Bh ([] : List Int).length cbh, .slice Bi ([] : List Int).length cbi, .bool true], .agg #[.int .i64 1, .slice Aa ([97] : List Int).length ca, .slice Ab ([97, 0] : List Int).length cb, .bool false]] (by rfl) rfl rfl (by (try simp only [List.map_toArray, List.map_cons, List.map_nil]); first | done | rfl) ?_
  refine (span_Covers.calls 1 Bh cbh ([] : List Int) Bi cbi ([] : List Int) true 1 Aa ca ([97] : List Int) Ab cb ([97, 0] : List Int) false true d7_4 H47.out.hp.2.1 hcbh H47.out.hp.1 hcbi H47.out.hp.2.2.2.2.2.2.2.2.2.2.2.2.2.2.2.2.2.2.2.2.2.1 hca H47.out.hp.2.2.2.2.2.2.2.2.2.2.2.2.2.2.2.2.2.2.2.2.1 hcb (by kernel_rfl)).mono ?_
  rintro e d7_5 ⟨rfl, hb⟩
  have H48 := Aside0.mk (H47.out.below hb)
  clear H47
  clear hb
  refine ⟨_, rfl, ?_⟩
  refine hK.out _ _ ⟨(blk_cell H48.out.hp.2.2.2.2.2.2.2.2.2.2.2.2.2.2.2.2.2.2.2.1 0).trans rfl, (blk_cell H48.out.hp.2.2.2.2.2.2.2.2.2.2.2.2.2.2.2.2.2.2.2.1 1).trans rfl, (blk_cell H48.out.hp.2.2.2.2.2.2.2.2.2.2.2.2.2.2.2.2.2.2.2.1 2).trans rfl, (blk_cell H48.out.hp.2.2.2.2.2.2.2.2.2.2.2.2.2.2.2.2.2.2.2.1 3).trans rfl, (blk_cell H48.out.hp.2.2.2.2.2.2.2.2.2.2.2.2.2.2.2.2.2.1 0).trans rfl, (blk_cell H48.out.hp.2.2.2.2.2.2.2.2.2.2.2.2.2.2.2.2.2.1 1).trans rfl, (blk_cell H48.out.hp.2.2.2.2.2.2.2.2.2.2.2.2.2.2.2.2.2.1 2).trans rfl, (blk_cell H48.out.hp.2.2.2.2.2.2.2.2.2.2.2.2.2.2.2.2.2.1 3).trans rfl⟩ (fun hHeld => ?_)
  clear hK K
  refine norm_ (a' := ?_) ?_ ?_
  rotate_left
  · show Act.put _ (some 63) _ = _
    simp only [Act.put, List.setIfInBounds_toArray, List.set_cons_zero, List.set_cons_succ, i64_w, i32_w]
    rfl
  as_aux_lemma =>
  refine pure_ (i := 16) (N := some 64) (v := ?_) (a' := ?_) #[true, true, true, true, true, true, true, true, true, true, true, true, true, true, true, true, true, false, false, false, false, false, false, false, false, false, false, false, false, false, false, false, false, false, false, false, false, false, false, false, false, false, false, false, false, false, false, false, false, false, false, false, false, false, false, false, false, false, false, false, false, false, false, false, false, false, false, false, false, false, false, false] rfl rfl (by kernel_rfl) (fun _ _ _ h => h) (Or.inl ⟨by rfl, ?_⟩) ?_ ?_
  rotate_left
  · intro w'
    go_simp
    with_reducible rfl
  rotate_left
  · simp only [Act.put, List.setIfInBounds_toArray, List.set_cons_zero, List.set_cons_succ, i64_w, i32_w]
    rfl
  refine pure_ (i := 17) (N := some 65) (v := ?_) (a' := ?_) #[true, true, true, true, true, true, true, true, true, true, true, true, true, true, true, true, true, true, false, false, false, false, false, false, false, false, false, false, false, false, false, false, false, false, false, false, false, false, false, false, false, false, false, false, false, false, false, false, false, false, false, false, false, false, false, false, false, false, false, false, false, false, false, false, false, false, false, false, false, false, false, false] rfl rfl (by kernel_rfl) (fun _ _ _ h => h) (Or.inl ⟨by rfl, ?_⟩) ?_ ?_
  rotate_left
  · intro w'
    go_simp
    with_reducible rfl
  rotate_left
  · simp only [Act.put, List.setIfInBounds_toArray, List.set_cons_zero, List.set_cons_succ, i64_w, i32_w]
    rfl
  refine take_ (i := 18) (N := some 66) (v := ?_) (a' := ?_) #[true, true, true, true, true, true, true, true, true, true, true, true, true, true, true, true, true, true, true, false, false, false, false, false, false, false, false, false, false, false, false, false, false, false, false, false, false, false, false, false, false, false, false, false, false, false, false, false, false, false, false, false, false, false, false, false, false, false, false, false, false, false, false, false, false, false, false, false, false, false, false, false] rfl rfl (by kernel_rfl) (fun _ _ _ h => h) (Or.inl ⟨by rfl, ?_⟩) hHeld ?_ ?_
  rotate_left
  · rintro w' ⟨s0, s1, s2, s3, s4, s5, s6, s7⟩
    go_simp
    with_reducible rfl
  rotate_left
  · simp only [Act.put, List.setIfInBounds_toArray, List.set_cons_zero, List.set_cons_succ, i64_w, i32_w]
    rfl
  refine take_ (i := 19) (N := some 67) (v := ?_) (a' := ?_) #[true, true, true, true, true, true, true, true, true, true, true, true, true, true, true, true, true, true, true, true, false, false, false, false, false, false, false, false, false, false, false, false, false, false, false, false, false, false, false, false, false, false, false, false, false, false, false, false, false, false, false, false, false, false, false, false, false, false, false, false, false, false, false, false, false, false, false, false, false, false, false, false] rfl rfl (by kernel_rfl) (fun _ _ _ h => h) (Or.inl ⟨by rfl, ?_⟩) hHeld ?_ ?_
  rotate_left
  · rintro w' ⟨s0, s1, s2, s3, s4, s5, s6, s7⟩
    go_simp
    with_reducible rfl
  rotate_left
  · simp only [Act.put, List.setIfInBounds_toArray, List.set_cons_zero, List.set_cons_succ, i64_w, i32_w]
    rfl
  refine one_ (i := 20) (N := some 68) #[true, true, true, true, true, true, true, true, true, true, true, true, true, true, true, true, true, true, true, true, true, false, false, false, false, false, false, false, false, false, false, false, false, false, false, false, false, false, false, false, false, false, false, false, false, false, false, false, false, false, false, false, false, false, false, false, false, false, false, false, false, false, false, false, false, false, false, false, false, false, false, false] rfl rfl (by kernel_rfl) (by decide) (fun K hK => ?_)
  refine goes_ Try.func22 (by kernel_rfl) rfl #[.agg #[.int .i64 1, .slice Aa ([97] : List Int).length ca, .slice Ab ([97, 0] : List Int).length cb, .bool false], .agg #[.int .i64 1, .slice Ac ([98] : List Int).length cc, .slice none ([] : List Int).length 0, .bool true]] (by rfl) rfl rfl (by (try simp only [List.map_toArray, List.map_cons, List.map_nil]); first | done | rfl) ?_
  refine (span_Covers.calls 1 Aa ca ([97] : List Int) Ab cb ([97, 0] : List Int) false 1 Ac cc ([98] : List Int) none 0 ([] : List Int) true false d7_5 H48.out.hp.2.2.2.2.2.2.2.2.2.2.2.2.2.2.2.2.2.2.2.2.2.1 hca H48.out.hp.2.2.2.2.2.2.2.2.2.2.2.2.2.2.2.2.2.2.2.2.1 hcb H48.out.hp.2.2.2.2.2.2.2.2.2.2.2.2.2.2.2.2.2.2.1 hcc (⟨rfl, by simp, fun h => absurd h (by simp)⟩ : Kd.C (Kd.int .u8) _ none ([] : List Int).length []) (Nat.zero_le _) (by kernel_rfl)).mono ?_
  rintro e d7_6 ⟨rfl, hb⟩
  have H49 := Aside0.mk (H48.out.below hb)
  clear H48
  clear hb
  refine ⟨_, rfl, ?_⟩
  refine hK.out _ _ ⟨(blk_cell H49.out.hp.2.2.2.2.2.2.2.2.2.2.2.2.2.2.2.2.2.2.2.1 0).trans rfl, (blk_cell H49.out.hp.2.2.2.2.2.2.2.2.2.2.2.2.2.2.2.2.2.2.2.1 1).trans rfl, (blk_cell H49.out.hp.2.2.2.2.2.2.2.2.2.2.2.2.2.2.2.2.2.2.2.1 2).trans rfl, (blk_cell H49.out.hp.2.2.2.2.2.2.2.2.2.2.2.2.2.2.2.2.2.2.2.1 3).trans rfl, (blk_cell H49.out.hp.2.2.2.2.2.2.2.2.2.2.2.2.2.2.2.2.2.1 0).trans rfl, (blk_cell H49.out.hp.2.2.2.2.2.2.2.2.2.2.2.2.2.2.2.2.2.1 1).trans rfl, (blk_cell H49.out.hp.2.2.2.2.2.2.2.2.2.2.2.2.2.2.2.2.2.1 2).trans rfl, (blk_cell H49.out.hp.2.2.2.2.2.2.2.2.2.2.2.2.2.2.2.2.2.1 3).trans rfl⟩ (fun hHeld => ?_)
  clear hK K
  refine norm_ (a' := ?_) ?_ ?_
  rotate_left
  · show Act.put _ (some 68) _ = _
    simp only [Act.put, List.setIfInBounds_toArray, List.set_cons_zero, List.set_cons_succ, i64_w, i32_w]
    rfl
  as_aux_lemma =>
  refine pure_ (i := 21) (N := some 69) (v := ?_) (a' := ?_) #[true, true, true, true, true, true, true, true, true, true, true, true, true, true, true, true, true, true, true, true, true, true, false, false, false, false, false, false, false, false, false, false, false, false, false, false, false, false, false, false, false, false, false, false, false, false, false, false, false, false, false, false, false, false, false, false, false, false, false, false, false, false, false, false, false, false, false, false, false, false, false, false] rfl rfl (by kernel_rfl) (fun _ _ _ h => h) (Or.inl ⟨by rfl, ?_⟩) ?_ ?_
  rotate_left
  · intro w'
    go_simp
    with_reducible rfl
  rotate_left
  · simp only [Act.put, List.setIfInBounds_toArray, List.set_cons_zero, List.set_cons_succ, i64_w, i32_w]
    rfl
  refine pure_ (i := 22) (N := some 70) (v := ?_) (a' := ?_) #[true, true, true, true, true, true, true, true, true, true, true, true, true, true, true, true, true, true, true, true, true, true, true, false, false, false, false, false, false, false, false, false, false, false, false, false, false, false, false, false, false, false, false, false, false, false, false, false, false, false, false, false, false, false, false, false, false, false, false, false, false, false, false, false, false, false, false, false, false, false, false, false] rfl rfl (by kernel_rfl) (fun _ _ _ h => h) (Or.inl ⟨by rfl, ?_⟩) ?_ ?_
  rotate_left
  · intro w'
    go_simp
    with_reducible rfl
  rotate_left
  · simp only [Act.put, List.setIfInBounds_toArray, List.set_cons_zero, List.set_cons_succ, i64_w, i32_w]
    rfl
  refine pure_ (i := 23) (N := some 71) (v := ?_) (a' := ?_) #[true, true, true, true, true, true, true, true, true, true, true, true, true, true, true, true, true, true, true, true, true, true, true, true, false, false, false, false, false, false, false, false, false, false, false, false, false, false, false, false, false, false, false, false, false, false, false, false, false, false, false, false, false, false, false, false, false, false, false, false, false, false, false, false, false, false, false, false, false, false, false, false] rfl rfl (by kernel_rfl) (fun _ _ _ h => h) (Or.inl ⟨by rfl, ?_⟩) ?_ ?_
  rotate_left
  · intro w'
    go_simp
    with_reducible rfl
  rotate_left
  · simp only [Act.put, List.setIfInBounds_toArray, List.set_cons_zero, List.set_cons_succ, i64_w, i32_w]
    rfl
  refine pure_ (i := 24) (N := some 72) (v := ?_) (a' := ?_) #[true, true, true, true, true, true, true, true, true, true, true, true, true, true, true, true, true, true, true, true, true, true, true, true, true, false, false, false, false, false, false, false, false, false, false, false, false, false, false, false, false, false, false, false, false, false, false, false, false, false, false, false, false, false, false, false, false, false, false, false, false, false, false, false, false, false, false, false, false, false, false, false] rfl rfl (by kernel_rfl) (fun _ _ _ h => h) (Or.inl ⟨by rfl, ?_⟩) ?_ ?_
  rotate_left
  · intro w'
    go_simp
    with_reducible rfl
  rotate_left
  · simp only [Act.put, List.setIfInBounds_toArray, List.set_cons_zero, List.set_cons_succ, i64_w, i32_w]
    rfl
  refine pure_ (i := 25) (N := some 73) (v := ?_) (a' := ?_) #[true, true, true, true, true, true, true, true, true, true, true, true, true, true, true, true, true, true, true, true, true, true, true, true, true, true, false, false, false, false, false, false, false, false, false, false, false, false, false, false, false, false, false, false, false, false, false, false, false, false, false, false, false, false, false, false, false, false, false, false, false, false, false, false, false, false, false, false, false, false, false, false] rfl rfl (by kernel_rfl) (fun _ _ _ h => h) (Or.inl ⟨by rfl, ?_⟩) ?_ ?_
  rotate_left
  · intro w'
    go_simp
    with_reducible rfl
  rotate_left
  · simp only [Act.put, List.setIfInBounds_toArray, List.set_cons_zero, List.set_cons_succ, i64_w, i32_w]
    rfl
  refine pure_ (i := 26) (N := some 74) (v := ?_) (a' := ?_) #[true, true, true, true, true, true, true, true, true, true, true, true, true, true, true, true, true, true, true, true, true, true, true, true, true, true, true, false, false, false, false, false, false, false, false, false, false, false, false, false, false, false, false, false, false, false, false, false, false, false, false, false, false, false, false, false, false, false, false, false, false, false, false, false, false, false, false, false, false, false, false, false] rfl rfl (by kernel_rfl) (fun _ _ _ h => h) (Or.inl ⟨by rfl, ?_⟩) ?_ ?_
  rotate_left
  · intro w'
    go_simp
    with_reducible rfl
  rotate_left
  · simp only [Act.put, List.setIfInBounds_toArray, List.set_cons_zero, List.set_cons_succ, i64_w, i32_w]
    rfl
  refine pure_ (i := 27) (N := some 75) (v := ?_) (a' := ?_) #[true, true, true, true, true, true, true, true, true, true, true, true, true, true, true, true, true, true, true, true, true, true, true, true, true, true, true, true, false, false, false, false, false, false, false, false, false, false, false, false, false, false, false, false, false, false, false, false, false, false, false, false, false, false, false, false, false, false, false, false, false, false, false, false, false, false, false, false, false, false, false, false] rfl rfl (by kernel_rfl) (fun _ _ _ h => h) (Or.inl ⟨by rfl, ?_⟩) ?_ ?_
  rotate_left
  · intro w'
    go_simp
    with_reducible rfl
  rotate_left
  · simp only [Act.put, List.setIfInBounds_toArray, List.set_cons_zero, List.set_cons_succ, i64_w, i32_w]
    rfl
  refine pure_ (i := 28) (N := some 76) (v := ?_) (a' := ?_) #[true, true, true, true, true, true, true, true, true, true, true, true, true, true, true, true, true, true, true, true, true, true, true, true, true, true, true, true, true, false, false, false, false, false, false, false, false, false, false, false, false, false, false, false, false, false, false, false, false, false, false, false, false, false, false, false, false, false, false, false, false, false, false, false, false, false, false, false, false, false, false, false] rfl rfl (by kernel_rfl) (fun _ _ _ h => h) (Or.inl ⟨by rfl, ?_⟩) ?_ ?_
  rotate_left
  · intro w'
    go_simp
    with_reducible rfl
  rotate_left
  · simp only [Act.put, List.setIfInBounds_toArray, List.set_cons_zero, List.set_cons_succ, i64_w, i32_w]
    rfl
  refine pure_ (i := 29) (N := some 77) (v := ?_) (a' := ?_) #[true, true, true, true, true, true, true, true, true, true, true, true, true, true, true, true, true, true, true, true, true, true, true, true, true, true, true, true, true, true, false, false, false, false, false, false, false, false, false, false, false, false, false, false, false, false, false, false, false, false, false, false, false, false, false, false, false, false, false, false, false, false, false, false, false, false, false, false, false, false, false, false] rfl rfl (by kernel_rfl) (fun _ _ _ h => h) (Or.inl ⟨by rfl, ?_⟩) ?_ ?_
  rotate_left
  · intro w'
    go_simp
    with_reducible rfl
  rotate_left
  · simp only [Act.put, List.setIfInBounds_toArray, List.set_cons_zero, List.set_cons_succ, i64_w, i32_w]
    rfl
  refine pure_ (i := 30) (N := some 78) (v := ?_) (a' := ?_) #[true, true, true, true, true, true, true, true, true, true, true, true, true, true, true, true, true, true, true, true, true, true, true, true, true, true, true, true, true, true, true, false, false, false, false, false, false, false, false, false, false, false, false, false, false, false, false, false, false, false, false, false, false, false, false, false, false, false, false, false, false, false, false, false, false, false, false, false, false, false, false, false] rfl rfl (by kernel_rfl) (fun _ _ _ h => h) (Or.inl ⟨by rfl, ?_⟩) ?_ ?_
  rotate_left
  · intro w'
    go_simp
    with_reducible rfl
  rotate_left
  · simp only [Act.put, List.setIfInBounds_toArray, List.set_cons_zero, List.set_cons_succ, i64_w, i32_w]
    rfl
  refine pure_ (i := 31) (N := some 79) (v := ?_) (a' := ?_) #[true, true, true, true, true, true, true, true, true, true, true, true, true, true, true, true, true, true, true, true, true, true, true, true, true, true, true, true, true, true, true, true, false, false, false, false, false, false, false, false, false, false, false, false, false, false, false, false, false, false, false, false, false, false, false, false, false, false, false, false, false, false, false, false, false, false, false, false, false, false, false, false] rfl rfl (by kernel_rfl) (fun _ _ _ h => h) (Or.inl ⟨by rfl, ?_⟩) ?_ ?_
  rotate_left
  · intro w'
    go_simp
    with_reducible rfl
  rotate_left
  · simp only [Act.put, List.setIfInBounds_toArray, List.set_cons_zero, List.set_cons_succ, i64_w, i32_w]
    rfl
  refine pure_ (i := 32) (N := some 80) (v := ?_) (a' := ?_) #[true, true, true, true, true, true, true, true, true, true, true, true, true, true, true, true, true, true, true, true, true, true, true, true, true, true, true, true, true, true, true, true, true, false, false, false, false, false, false, false, false, false, false, false, false, false, false, false, false, false, false, false, false, false, false, false, false, false, false, false, false, false, false, false, false, false, false, false, false, false, false, false] rfl rfl (by kernel_rfl) (fun _ _ _ h => h) (Or.inl ⟨by rfl, ?_⟩) ?_ ?_
  rotate_left
  · intro w'
    go_simp
    with_reducible rfl
  rotate_left
  · simp only [Act.put, List.setIfInBounds_toArray, List.set_cons_zero, List.set_cons_succ, i64_w, i32_w]
    rfl
  refine pure_ (i := 33) (N := some 81) (v := ?_) (a' := ?_) #[true, true, true, true, true, true, true, true, true, true, true, true, true, true, true, true, true, true, true, true, true, true, true, true, true, true, true, true, true, true, true, true, true, true, false, false, false, false, false, false, false, false, false, false, false, false, false, false, false, false, false, false, false, false, false, false, false, false, false, false, false, false, false, false, false, false, false, false, false, false, false, false] rfl rfl (by kernel_rfl) (fun _ _ _ h => h) (Or.inl ⟨by rfl, ?_⟩) ?_ ?_
  rotate_left
  · intro w'
    go_simp
    with_reducible rfl
  rotate_left
  · simp only [Act.put, List.setIfInBounds_toArray, List.set_cons_zero, List.set_cons_succ, i64_w, i32_w]
    rfl
  refine pure_ (i := 34) (N := some 82) (v := ?_) (a' := ?_) #[true, true, true, true, true, true, true, true, true, true, true, true, true, true, true, true, true, true, true, true, true, true, true, true, true, true, true, true, true, true, true, true, true, true, true, false, false, false, false, false, false, false, false, false, false, false, false, false, false, false, false, false, false, false, false, false, false, false, false, false, false, false, false, false, false, false, false, false, false, false, false, false] rfl rfl (by kernel_rfl) (fun _ _ _ h => h) (Or.inl ⟨by rfl, ?_⟩) ?_ ?_
  rotate_left
  · intro w'
    go_simp
    with_reducible rfl
  rotate_left
  · simp only [Act.put, List.setIfInBounds_toArray, List.set_cons_zero, List.set_cons_succ, i64_w, i32_w]
    rfl
  refine pure_ (i := 35) (N := some 83) (v := ?_) (a' := ?_) #[true, true, true, true, true, true, true, true, true, true, true, true, true, true, true, true, true, true, true, true, true, true, true, true, true, true, true, true, true, true, true, true, true, true, true, true, false, false, false, false, false, false, false, false, false, false, false, false, false, false, false, false, false, false, false, false, false, false, false, false, false, false, false, false, false, false, false, false, false, false, false, false] rfl rfl (by kernel_rfl) (fun _ _ _ h => h) (Or.inl ⟨by rfl, ?_⟩) ?_ ?_
  rotate_left
  · intro w'
    go_simp
    with_reducible rfl
  rotate_left
  · simp only [Act.put, List.setIfInBounds_toArray, List.set_cons_zero, List.set_cons_succ, i64_w, i32_w]
    rfl
  refine pure_ (i := 36) (N := some 84) (v := ?_) (a' := ?_) #[true, true, true, true, true, true, true, true, true, true, true, true, true, true, true, true, true, true, true, true, true, true, true, true, true, true, true, true, true, true, true, true, true, true, true, true, true, false, false, false, false, false, false, false, false, false, false, false, false, false, false, false, false, false, false, false, false, false, false, false, false, false, false, false, false, false, false, false, false, false, false, false] rfl rfl (by kernel_rfl) (fun _ _ _ h => h) (Or.inl ⟨by rfl, ?_⟩) ?_ ?_
  rotate_left
  · intro w'
    go_simp
    with_reducible rfl
  rotate_left
  · simp only [Act.put, List.setIfInBounds_toArray, List.set_cons_zero, List.set_cons_succ, i64_w, i32_w]
    rfl
  refine pure_ (i := 37) (N := some 85) (v := ?_) (a' := ?_) #[true, true, true, true, true, true, true, true, true, true, true, true, true, true, true, true, true, true, true, true, true, true, true, true, true, true, true, true, true, true, true, true, true, true, true, true, true, true, false, false, false, false, false, false, false, false, false, false, false, false, false, false, false, false, false, false, false, false, false, false, false, false, false, false, false, false, false, false, false, false, false, false] rfl rfl (by kernel_rfl) (fun _ _ _ h => h) (Or.inl ⟨by rfl, ?_⟩) ?_ ?_
  rotate_left
  · intro w'
    go_simp
    with_reducible rfl
  rotate_left
  · simp only [Act.put, List.setIfInBounds_toArray, List.set_cons_zero, List.set_cons_succ, i64_w, i32_w]
    rfl
  refine pure_ (i := 38) (N := some 86) (v := ?_) (a' := ?_) #[true, true, true, true, true, true, true, true, true, true, true, true, true, true, true, true, true, true, true, true, true, true, true, true, true, true, true, true, true, true, true, true, true, true, true, true, true, true, true, false, false, false, false, false, false, false, false, false, false, false, false, false, false, false, false, false, false, false, false, false, false, false, false, false, false, false, false, false, false, false, false, false] rfl rfl (by kernel_rfl) (fun _ _ _ h => h) (Or.inl ⟨by rfl, ?_⟩) ?_ ?_
  rotate_left
  · intro w'
    go_simp
    with_reducible rfl
  rotate_left
  · simp only [Act.put, List.setIfInBounds_toArray, List.set_cons_zero, List.set_cons_succ, i64_w, i32_w]
    rfl
  refine pure_ (i := 39) (N := some 87) (v := ?_) (a' := ?_) #[true, true, true, true, true, true, true, true, true, true, true, true, true, true, true, true, true, true, true, true, true, true, true, true, true, true, true, true, true, true, true, true, true, true, true, true, true, true, true, true, false, false, false, false, false, false, false, false, false, false, false, false, false, false, false, false, false, false, false, false, false, false, false, false, false, false, false, false, false, false, false, false] rfl rfl (by kernel_rfl) (fun _ _ _ h => h) (Or.inl ⟨by rfl, ?_⟩) ?_ ?_
  rotate_left
  · intro w'
    go_simp
    with_reducible rfl
  rotate_left
  · simp only [Act.put, List.setIfInBounds_toArray, List.set_cons_zero, List.set_cons_succ, i64_w, i32_w]
    rfl
  refine pure_ (i := 40) (N := some 88) (v := ?_) (a' := ?_) #[true, true, true, true, true, true, true, true, true, true, true, true, true, true, true, true, true, true, true, true, true, true, true, true, true, true, true, true, true, true, true, true, true, true, true, true, true, true, true, true, true, false, false, false, false, false, false, false, false, false, false, false, false, false, false, false, false, false, false, false, false, false, false, false, false, false, false, false, false, false, false, false] rfl rfl (by kernel_rfl) (fun _ _ _ h => h) (Or.inl ⟨by rfl, ?_⟩) ?_ ?_
  rotate_left
  · intro w'
    go_simp
    with_reducible rfl
  rotate_left
  · simp only [Act.put, List.setIfInBounds_toArray, List.set_cons_zero, List.set_cons_succ, i64_w, i32_w]
    rfl
  refine take_ (i := 41) (N := some 89) (v := ?_) (a' := ?_) #[true, true, true, true, true, true, true, true, true, true, true, true, true, true, true, true, true, true, true, true, true, true, true, true, true, true, true, true, true, true, true, true, true, true, true, true, true, true, true, true, true, true, false, false, false, false, false, false, false, false, false, false, false, false, false, false, false, false, false, false, false, false, false, false, false, false, false, false, false, false, false, false] rfl rfl (by kernel_rfl) (fun _ _ _ h => h) (Or.inl ⟨by rfl, ?_⟩) hHeld ?_ ?_
  rotate_left
  · rintro w' ⟨s0, s1, s2, s3, s4, s5, s6, s7⟩
    go_simp
    with_reducible rfl
  rotate_left
  · simp only [Act.put, List.setIfInBounds_toArray, List.set_cons_zero, List.set_cons_succ, i64_w, i32_w]
    rfl
  refine one_ (i := 42) (N := some 90) #[true, true, true, true, true, true, true, true, true, true, true, true, true, true, true, true, true, true, true, true, true, true, true, true, true, true, true, true, true, true, true, true, true, true, true, true, true, true, true, true, true, true, true, false, false, false, false, false, false, false, false, false, false, false, false, false, false, false, false, false, false, false, false, false, false, false, false, false, false, false, false, false] rfl rfl (by kernel_rfl) (by decide) (fun K hK => ?_)
  refine value_ (v := .slice (some ⟨d7_6.heap.size, 0, none⟩) 1 1) (w1 := d7_6.alloc (.cells #[.int .u8 97] 5 (0, 0))) (by rfl) rfl (by first | (go_simp; done) | (go_simp; rfl)) ?_
  have hbb := below_alloc (Below.refl d7_6.heap.size d7_6) (.cells #[.int .u8 97] 5 (0, 0))
  have H50 := Aside0.mk (H49.out.below hbb)
  refine hK.out _ _ ⟨(blk_cell H50.out.hp.2.2.2.2.2.2.2.2.2.2.2.2.2.2.2.2.2.2.2.1 0).trans rfl, (blk_cell H50.out.hp.2.2.2.2.2.2.2.2.2.2.2.2.2.2.2.2.2.2.2.1 1).trans rfl, (blk_cell H50.out.hp.2.2.2.2.2.2.2.2.2.2.2.2.2.2.2.2.2.2.2.1 2).trans rfl, (blk_cell H50.out.hp.2.2.2.2.2.2.2.2.2.2.2.2.2.2.2.2.2.2.2.1 3).trans rfl, (blk_cell H50.out.hp.2.2.2.2.2.2.2.2.2.2.2.2.2.2.2.2.2.1 0).trans rfl, (blk_cell H50.out.hp.2.2.2.2.2.2.2.2.2.2.2.2.2.2.2.2.2.1 1).trans rfl, (blk_cell H50.out.hp.2.2.2.2.2.2.2.2.2.2.2.2.2.2.2.2.2.1 2).trans rfl, (blk_cell H50.out.hp.2.2.2.2.2.2.2.2.2.2.2.2.2.2.2.2.2.1 3).trans rfl⟩ (fun hHeld => ?_)
  clear hK K hbb H50
  refine norm_ (a' := ?_) ?_ ?_
  rotate_left
  · show Act.put _ (some 90) _ = _
    simp only [Act.put, List.setIfInBounds_toArray, List.set_cons_zero, List.set_cons_succ, i64_w, i32_w]
    rfl
  refine one_ (i := 43) (N := some 91) #[true, true, true, true, true, true, true, true, true, true, true, true, true, true, true, true, true, true, true, true, true, true, true, true, true, true, true, true, true, true, true, true, true, true, true, true, true, true, true, true, true, true, true, true, false, false, false, false, false, false, false, false, false, false, false, false, false, false, false, false, false, false, false, false, false, false, false, false, false, false, false, false] rfl rfl (by kernel_rfl) (by decide) (fun K hK => ?_)
  refine value_ (v := .slice (some ⟨d7_6.heap.size, 0, none⟩) 1 1) (w1 := d7_6.alloc (.cells #[.int .u8 97] 5 (1, 2))) (by rfl) rfl (by first | (go_simp; done) | (go_simp; rfl)) ?_
  have hrow : Kd.C (Kd.int .u8) (d7_6.alloc (.cells #[.int .u8 97] 5 (1, 2))) (some ⟨d7_6.heap.size, 0, none⟩) ([97] : List Int).length ([97] : List Int) := lit_row ([97] : List Int) (by simp) 5 (1, 2)
  have hbb := below_alloc (Below.refl d7_6.heap.size d7_6) (.cells #[.int .u8 97] 5 (1, 2))
  obtain ⟨d7_8, hd7_8⟩ : ∃ y_, y_ = d7_6.alloc (.cells #[.int .u8 97] 5 (1, 2)) := ⟨_, rfl⟩
  obtain ⟨Bj, hA_⟩ : ∃ A_ : Option Addr, A_ = some ⟨d7_6.heap.size, 0, none⟩ := ⟨_, rfl⟩
  rw [← hd7_8] at hbb
  rw [← hd7_8, ← hA_] at hrow
  rw [← hd7_8, ← hA_]
  have H51 := Aside0.mk (H49.out.below hbb)
  clear H49
  have H52 := Aside0.mk (H51.out.add (stable_C (Kd.int .u8) _ _) hrow)
  clear H51
  clear hbb hrow hd7_8 hA_
  refine hK.out _ _ ⟨(blk_cell H52.out.hp.2.2.2.2.2.2.2.2.2.2.2.2.2.2.2.2.2.2.2.2.1 0).trans rfl, (blk_cell H52.out.hp.2.2.2.2.2.2.2.2.2.2.2.2.2.2.2.2.2.2.2.2.1 1).trans rfl, (blk_cell H52.out.hp.2.2.2.2.2.2.2.2.2.2.2.2.2.2.2.2.2.2.2.2.1 2).trans rfl, (blk_cell H52.out.hp.2.2.2.2.2.2.2.2.2.2.2.2.2.2.2.2.2.2.2.2.1 3).trans rfl, (blk_cell H52.out.hp.2.2.2.2.2.2.2.2.2.2.2.2.2.2.2.2.2.2.1 0).trans rfl, (blk_cell H52.out.hp.2.2.2.2.2.2.2.2.2.2.2.2.2.2.2.2.2.2.1 1).trans rfl, (blk_cell H52.out.hp.2.2.2.2.2.2.2.2.2.2.2.2.2.2.2.2.2.2.1 2).trans rfl, (blk_cell H52.out.hp.2.2.2.2.2.2.2.2.2.2.2.2.2.2.2.2.2.2.1 3).trans rfl⟩ (fun hHeld => ?_)
  clear hK K
  refine norm_ (a' := ?_) ?_ ?_
  rotate_left
  · show Act.put _ (some 91) _ = _
    simp only [Act.put, List.setIfInBounds_toArray, List.set_cons_zero, List.set_cons_succ, i64_w, i32_w]
    rfl
  refine one_ (i := 44) (N := some 92) #[true, true, true, true, true, true, true, true, true, true, true, true, true, true, true, true, true, true, true, true, true, true, true, true, true, true, true, true, true, true, true, true, true, true, true, true, true, true, true, true, true, true, true, true, true, false, false, false, false, false, false, false, false, false, false, false, false, false, false, false, false, false, false, false, false, false, false, false, false, false, false, false] rfl rfl (by kernel_rfl) (by decide) (fun K hK => ?_)
  refine goes_ Try.func18 (by kernel_rfl) rfl #[.agg #[.int .i64 1, .slice Aa ([97] : List Int).length ca, .slice Ab ([97, 0] : List Int).length cb, .bool false], .int .i64 1, .slice Bj ([97] : List Int).length 1] (by rfl) rfl rfl (by (try simp only [List.map_toArray, List.map_cons, List.map_nil]); first | done | rfl) ?_
  refine (span_In.calls 1 Aa ca ([97] : List Int) Ab cb ([97, 0] : List Int) false 1 Bj 1 ([97] : List Int) true d7_8 H52.out.hp.2.2.2.2.2.2.2.2.2.2.2.2.2.2.2.2.2.2.2.2.2.2.1 hca H52.out.hp.2.2.2.2.2.2.2.2.2.2.2.2.2.2.2.2.2.2.2.2.2.1 hcb H52.out.hp.1 (Nat.le_refl _) (by kernel_rfl)).mono ?_
  rintro e d7_9 ⟨rfl, hb⟩
  have H53 := Aside0.mk (H52.out.below hb)
  clear H52
  clear hb
  refine ⟨_, rfl, ?_⟩
  refine hK.out _ _ ⟨(blk_cell H53.out.hp.2.2.2.2.2.2.2.2.2.2.2.2.2.2.2.2.2.2.2.2.1 0).trans rfl, (blk_cell H53.out.hp.2.2.2.2.2.2.2.2.2.2.2.2.2.2.2.2.2.2.2.2.1 1).trans rfl, (blk_cell H53.out.hp.2.2.2.2.2.2.2.2.2.2.2.2.2.2.2.2.2.2.2.2.1 2).trans rfl, (blk_cell H53.out.hp.2.2.2.2.2.2.2.2.2.2.2.2.2.2.2.2.2.2.2.2.1 3).trans rfl, (blk_cell H53.out.hp.2.2.2.2.2.2.2.2.2.2.2.2.2.2.2.2.2.2.1 0).trans rfl, (blk_cell H53.out.hp.2.2.2.2.2.2.2.2.2.2.2.2.2.2.2.2.2.2.1 1).trans rfl, (blk_cell H53.out.hp.2.2.2.2.2.2.2.2.2.2.2.2.2.2.2.2.2.2.1 2).trans rfl, (blk_cell H53.out.hp.2.2.2.2.2.2.2.2.2.2.2.2.2.2.2.2.2.2.1 3).trans rfl⟩ (fun hHeld => ?_)
  clear hK K
  refine norm_ (a' := ?_) ?_ ?_
  rotate_left
  · show Act.put _ (some 92) _ = _
    simp only [Act.put, List.setIfInBounds_toArray, List.set_cons_zero, List.set_cons_succ, i64_w, i32_w]
    rfl
  as_aux_lemma =>
  refine pure_ (i := 45) (N := some 93) (v := ?_) (a' := ?_) #[true, true, true, true, true, true, true, true, true, true, true, true, true, true, true, true, true, true, true, true, true, true, true, true, true, true, true, true, true, true, true, true, true, true, true, true, true, true, true, true, true, true, true, true, true, true, false, false, false, false, false, false, false, false, false, false, false, false, false, false, false, false, false, false, false, false, false, false, false, false, false, false] rfl rfl (by kernel_rfl) (fun _ _ _ h => h) (Or.inl ⟨by rfl, ?_⟩) ?_ ?_
  rotate_left
  · intro w'
    go_simp
    with_reducible rfl
  rotate_left
  · simp only [Act.put, List.setIfInBounds_toArray, List.set_cons_zero, List.set_cons_succ, i64_w, i32_w]
    rfl
  refine pure_ (i := 46) (N := some 94) (v := ?_) (a' := ?_) #[true, true, true, true, true, true, true, true, true, true, true, true, true, true, true, true, true, true, true, true, true, true, true, true, true, true, true, true, true, true, true, true, true, true, true, true, true, true, true, true, true, true, true, true, true, true, true, false, false, false, false, false, false, false, false, false, false, false, false, false, false, false, false, false, false, false, false, false, false, false, false, false] rfl rfl (by kernel_rfl) (fun _ _ _ h => h) (Or.inl ⟨by rfl, ?_⟩) ?_ ?_
  rotate_left
  · intro w'
    go_simp
    with_reducible rfl
  rotate_left
  · simp only [Act.put, List.setIfInBounds_toArray, List.set_cons_zero, List.set_cons_succ, i64_w, i32_w]
    rfl
  refine take_ (i := 47) (N := some 95) (v := ?_) (a' := ?_) #[true, true, true, true, true, true, true, true, true, true, true, true, true, true, true, true, true, true, true, true, true, true, true, true, true, true, true, true, true, true, true, true, true, true, true, true, true, true, true, true, true, true, true, true, true, true, true, true, false, false, false, false, false, false, false, false, false, false, false, false, false, false, false, false, false, false, false, false, false, false, false, false] rfl rfl (by kernel_rfl) (fun _ _ _ h => h) (Or.inl ⟨by rfl, ?_⟩) hHeld ?_ ?_
  rotate_left
  · rintro w' ⟨s0, s1, s2, s3, s4, s5, s6, s7⟩
    go_simp
    with_reducible rfl
  rotate_left
  · simp only [Act.put, List.setIfInBounds_toArray, List.set_cons_zero, List.set_cons_succ, i64_w, i32_w]
    rfl
  refine one_ (i := 48) (N := some 96) #[true, true, true, true, true, true, true, true, true, true, true, true, true, true, true, true, true, true, true, true, true, true, true, true, true, true, true, true, true, true, true, true, true, true, true, true, true, true, true, true, true, true, true, true, true, true, true, true, true, false, false, false, false, false, false, false, false, false, false, false, false, false, false, false, false, false, false, false, false, false, false, false] rfl rfl (by kernel_rfl) (by decide) (fun K hK => ?_)
  refine value_ (v := .slice (some ⟨d7_9.heap.size, 0, none⟩) 1 1) (w1 := d7_9.alloc (.cells #[.int .u8 97] 5 (0, 0))) (by rfl) rfl (by first | (go_simp; done) | (go_simp; rfl)) ?_
  have hbb := below_alloc (Below.refl d7_9.heap.size d7_9) (.cells #[.int .u8 97] 5 (0, 0))
  have H54 := Aside0.mk (H53.out.below hbb)
  refine hK.out _ _ ⟨(blk_cell H54.out.hp.2.2.2.2.2.2.2.2.2.2.2.2.2.2.2.2.2.2.2.2.1 0).trans rfl, (blk_cell H54.out.hp.2.2.2.2.2.2.2.2.2.2.2.2.2.2.2.2.2.2.2.2.1 1).trans rfl, (blk_cell H54.out.hp.2.2.2.2.2.2.2.2.2.2.2.2.2.2.2.2.2.2.2.2.1 2).trans rfl, (blk_cell H54.out.hp.2.2.2.2.2.2.2.2.2.2.2.2.2.2.2.2.2.2.2.2.1 3).trans rfl, (blk_cell H54.out.hp.2.2.2.2.2.2.2.2.2.2.2.2.2.2.2.2.2.2.1 0).trans rfl, (blk_cell H54.out.hp.2.2.2.2.2.2.2.2.2.2.2.2.2.2.2.2.2.2.1 1).trans rfl, (blk_cell H54.out.hp.2.2.2.2.2.2.2.2.2.2.2.2.2.2.2.2.2.2.1 2).trans rfl, (blk_cell H54.out.hp.2.2.2.2.2.2.2.2.2.2.2.2.2.2.2.2.2.2.1 3).trans rfl⟩ (fun hHeld => ?_)
  clear hK K hbb H54
  refine norm_ (a' := ?_) ?_ ?_
  rotate_left
  · show Act.put _ (some 96) _ = _
    simp only [Act.put, List.setIfInBounds_toArray, List.set_cons_zero, List.set_cons_succ, i64_w, i32_w]
    rfl
  refine one_ (i := 49) (N := some 97) #[true, true, true, true, true, true, true, true, true, true, true, true, true, true, true, true, true, true, true, true, true, true, true, true, true, true, true, true, true, true, true, true, true, true, true, true, true, true, true, true, true, true, true, true, true, true, true, true, true, true, false, false, false, false, false, false, false, false, false, false, false, false, false, false, false, false, false, false, false, false, false, false] rfl rfl (by kernel_rfl) (by decide) (fun K hK => ?_)
  refine value_ (v := .slice (some ⟨d7_9.heap.size, 0, none⟩) 1 1) (w1 := d7_9.alloc (.cells #[.int .u8 97] 5 (1, 2))) (by rfl) rfl (by first | (go_simp; done) | (go_simp; rfl)) ?_
  have hrow : Kd.C (Kd.int .u8) (d7_9.alloc (.cells #[.int .u8 97] 5 (1, 2))) (some ⟨d7_9.heap.size, 0, none⟩) ([97] : List Int).length ([97] : List Int) := lit_row ([97] : List Int) (by simp) 5 (1, 2)
  have hbb := below_alloc (Below.refl d7_9.heap.size d7_9) (.cells #[.int .u8 97] 5 (1, 2))
  obtain ⟨d7_11, hd7_11⟩ : ∃ y_, y_ = d7_9.alloc (.cells #[.int .u8 97] 5 (1, 2)) := ⟨_, rfl⟩
  obtain ⟨Bk, hA_⟩ : ∃ A_ : Option Addr, A_ = some ⟨d7_9.heap.size, 0, none⟩ := ⟨_, rfl⟩
  rw [← hd7_11] at hbb
  rw [← hd7_11, ← hA_] at hrow
  rw [← hd7_11, ← hA_]
  have H55 := Aside0.mk (H53.out.below hbb)
  clear H53
  have H56 := Aside0.mk (H55.out.add (stable_C (Kd.int .u8) _ _) hrow)
  clear H55
  clear hbb hrow hd7_11 hA_
  refine hK.out _ _ ⟨(blk_cell H56.out.hp.2.2.2.2.2.2.2.2.2.2.2.2.2.2.2.2.2.2.2.2.2.1 0).trans rfl, (blk_cell H56.out.hp.2.2.2.2.2.2.2.2.2.2.2.2.2.2.2.2.2.2.2.2.2.1 1).trans rfl, (blk_cell H56.out.hp.2.2.2.2.2.2.2.2.2.2.2.2.2.2.2.2.2.2.2.2.2.1 2).trans rfl, (blk_cell H56.out.hp.2.2.2.2.2.2.2.2.2.2.2.2.2.2.2.2.2.2.2.2.2.1 3).trans rfl, (blk_cell H56.out.hp.2.2.2.2.2.2.2.2.2.2.2.2.2.2.2.2.2.2.2.1 0).trans rfl, (blk_cell H56.out.hp.2.2.2.2.2.2.2.2.2.2.2.2.2.2.2.2.2.2.2.1 1).trans rfl, (blk_cell H56.out.hp.2.2.2.2.2.2.2.2.2.2.2.2.2.2.2.2.2.2.2.1 2).trans rfl, (blk_cell H56.out.hp.2.2.2.2.2.2.2.2.2.2.2.2.2.2.2.2.2.2.2.1 3).trans rfl⟩ (fun hHeld => ?_)
  clear hK K
  refine norm_ (a' := ?_) ?_ ?_
  rotate_left
  · show Act.put _ (some 97) _ = _
    simp only [Act.put, List.setIfInBounds_toArray, List.set_cons_zero, List.set_cons_succ, i64_w, i32_w]
    rfl
  refine one_ (i := 50) (N := some 98) #[true, true, true, true, true, true, true, true, true, true, true, true, true, true, true, true, true, true, true, true, true, true, true, true, true, true, true, true, true, true, true, true, true, true, true, true, true, true, true, true, true, true, true, true, true, true, true, true, true, true, true, false, false, false, false, false, false, false, false, false, false, false, false, false, false, false, false, false, false, false, false, false] rfl rfl (by kernel_rfl) (by decide) (fun K hK => ?_)
  refine goes_ Try.func18 (by kernel_rfl) rfl #[.agg #[.int .i64 1, .slice Aa ([97] : List Int).length ca, .slice Ab ([97, 0] : List Int).length cb, .bool false], .int .i64 0, .slice Bk ([97] : List Int).length 1] (by rfl) rfl rfl (by (try simp only [List.map_toArray, List.map_cons, List.map_nil]); first | done | rfl) ?_
  refine (span_In.calls 1 Aa ca ([97] : List Int) Ab cb ([97, 0] : List Int) false 0 Bk 1 ([97] : List Int) false d7_11 H56.out.hp.2.2.2.2.2.2.2.2.2.2.2.2.2.2.2.2.2.2.2.2.2.2.2.1 hca H56.out.hp.2.2.2.2.2.2.2.2.2.2.2.2.2.2.2.2.2.2.2.2.2.2.1 hcb H56.out.hp.1 (Nat.le_refl _) (by kernel_rfl)).mono ?_
  rintro e d7_12 ⟨rfl, hb⟩
  have H57 := Aside0.mk (H56.out.below hb)
  clear H56
  clear hb
  refine ⟨_, rfl, ?_⟩
  refine hK.out _ _ ⟨(blk_cell H57.out.hp.2.2.2.2.2.2.2.2.2.2.2.2.2.2.2.2.2.2.2.2.2.1 0).trans rfl, (blk_cell H57.out.hp.2.2.2.2.2.2.2.2.2.2.2.2.2.2.2.2.2.2.2.2.2.1 1).trans rfl, (blk_cell H57.out.hp.2.2.2.2.2.2.2.2.2.2.2.2.2.2.2.2.2.2.2.2.2.1 2).trans rfl, (blk_cell H57.out.hp.2.2.2.2.2.2.2.2.2.2.2.2.2.2.2.2.2.2.2.2.2.1 3).trans rfl, (blk_cell H57.out.hp.2.2.2.2.2.2.2.2.2.2.2.2.2.2.2.2.2.2.2.1 0).trans rfl, (blk_cell H57.out.hp.2.2.2.2.2.2.2.2.2.2.2.2.2.2.2.2.2.2.2.1 1).trans rfl, (blk_cell H57.out.hp.2.2.2.2.2.2.2.2.2.2.2.2.2.2.2.2.2.2.2.1 2).trans rfl, (blk_cell H57.out.hp.2.2.2.2.2.2.2.2.2.2.2.2.2.2.2.2.2.2.2.1 3).trans rfl⟩ (fun hHeld => ?_)
  clear hK K
  refine norm_ (a' := ?_) ?_ ?_
  rotate_left
  · show Act.put _ (some 98) _ = _
    simp only [Act.put, List.setIfInBounds_toArray, List.set_cons_zero, List.set_cons_succ, i64_w, i32_w]
    rfl
  as_aux_lemma =>
  refine pure_ (i := 51) (N := some 99) (v := ?_) (a' := ?_) #[true, true, true, true, true, true, true, true, true, true, true, true, true, true, true, true, true, true, true, true, true, true, true, true, true, true, true, true, true, true, true, true, true, true, true, true, true, true, true, true, true, true, true, true, true, true, true, true, true, true, true, true, false, false, false, false, false, false, false, false, false, false, false, false, false, false, false, false, false, false, false, false] rfl rfl (by kernel_rfl) (fun _ _ _ h => h) (Or.inl ⟨by rfl, ?_⟩) ?_ ?_
  rotate_left
  · intro w'
    go_simp
    with_reducible rfl
  rotate_left
  · simp only [Act.put, List.setIfInBounds_toArray, List.set_cons_zero, List.set_cons_succ, i64_w, i32_w]
    rfl
  refine pure_ (i := 52) (N := some 100) (v := ?_) (a' := ?_) #[true, true, true, true, true, true, true, true, true, true, true, true, true, true, true, true, true, true, true, true, true, true, true, true, true, true, true, true, true, true, true, true, true, true, true, true, true, true, true, true, true, true, true, true, true, true, true, true, true, true, true, true, true, false, false, false, false, false, false, false, false, false, false, false, false, false, false, false, false, false, false, false] rfl rfl (by kernel_rfl) (fun _ _ _ h => h) (Or.inl ⟨by rfl, ?_⟩) ?_ ?_
  rotate_left
  · intro w'
    go_simp
    with_reducible rfl
  rotate_left
  · simp only [Act.put, List.setIfInBounds_toArray, List.set_cons_zero, List.set_cons_succ, i64_w, i32_w]
    rfl
  refine pure_ (i := 53) (N := some 101) (v := ?_) (a' := ?_) #[true, true, true, true, true, true, true, true, true, true, true, true, true, true, true, true, true, true, true, true, true, true, true, true, true, true, true, true, true, true, true, true, true, true, true, true, true, true, true, true, true, true, true, true, true, true, true, true, true, true, true, true, true, true, false, false, false, false, false, false, false, false, false, false, false, false, false, false, false, false, false, false] rfl rfl (by kernel_rfl) (fun _ _ _ h => h) (Or.inl ⟨by rfl, ?_⟩) ?_ ?_
  rotate_left
  · intro w'
    go_simp
    with_reducible rfl
  rotate_left
  · simp only [Act.put, List.setIfInBounds_toArray, List.set_cons_zero, List.set_cons_succ, i64_w, i32_w]
    rfl
  refine pure_ (i := 54) (N := some 102) (v := ?_) (a' := ?_) #[true, true, true, true, true, true, true, true, true, true, true, true, true, true, true, true, true, true, true, true, true, true, true, true, true, true, true, true, true, true, true, true, true, true, true, true, true, true, true, true, true, true, true, true, true, true, true, true, true, true, true, true, true, true, true, false, false, false, false, false, false, false, false, false, false, false, false, false, false, false, false, false] rfl rfl (by kernel_rfl) (fun _ _ _ h => h) (Or.inl ⟨by rfl, ?_⟩) ?_ ?_
  rotate_left
  · intro w'
    go_simp
    with_reducible rfl
  rotate_left
  · simp only [Act.put, List.setIfInBounds_toArray, List.set_cons_zero, List.set_cons_succ, i64_w, i32_w]
    rfl
  refine one_ (i := 55) (N := some 103) #[true, true, true, true, true, true, true, true, true, true, true, true, true, true, true, true, true, true, true, true, true, true, true, true, true, true, true, true, true, true, true, true, true, true, true, true, true, true, true, true, true, true, true, true, true, true, true, true, true, true, true, true, true, true, true, true, false, false, false, false, false, false, false, false, false, false, false, false, false, false, false, false] rfl rfl (by kernel_rfl) (by decide) (fun K hK => ?_)
  refine goes_ Try.func16 (by kernel_rfl) rfl #[.agg #[.int .i64 0, .slice none ([] : List Int).length 0, .slice none ([] : List Int).length 0, .bool false]] (by rfl) rfl rfl (by (try simp only [List.map_toArray, List.map_cons, List.map_nil]); first | done | rfl) ?_
  refine (span_Empty.calls 0 none 0 ([] : List Int) none 0 ([] : List Int) false true d7_12 (⟨rfl, by simp, fun h => absurd h (by simp)⟩ : Kd.C (Kd.int .u8) _ none ([] : List Int).length []) (Nat.zero_le _) (⟨rfl, by simp, fun h => absurd h (by simp)⟩ : Kd.C (Kd.int .u8) _ none ([] : List Int).length []) (Nat.zero_le _) (by kernel_rfl)).mono ?_
  rintro e d7_13 ⟨rfl, hb⟩
  have H58 := Aside0.mk (H57.out.below hb)
  clear H57
  clear hb
  refine ⟨_, rfl, ?_⟩
  refine hK.out _ _ ⟨(blk_cell H58.out.hp.2.2.2.2.2.2.2.2.2.2.2.2.2.2.2.2.2.2.2.2.2.1 0).trans rfl, (blk_cell H58.out.hp.2.2.2.2.2.2.2.2.2.2.2.2.2.2.2.2.2.2.2.2.2.1 1).trans rfl, (blk_cell H58.out.hp.2.2.2.2.2.2.2.2.2.2.2.2.2.2.2.2.2.2.2.2.2.1 2).trans rfl, (blk_cell H58.out.hp.2.2.2.2.2.2.2.2.2.2.2.2.2.2.2.2.2.2.2.2.2.1 3).trans rfl, (blk_cell H58.out.hp.2.2.2.2.2.2.2.2.2.2.2.2.2.2.2.2.2.2.2.1 0).trans rfl, (blk_cell H58.out.hp.2.2.2.2.2.2.2.2.2.2.2.2.2.2.2.2.2.2.2.1 1).trans rfl, (blk_cell H58.out.hp.2.2.2.2.2.2.2.2.2.2.2.2.2.2.2.2.2.2.2.1 2).trans rfl, (blk_cell H58.out.hp.2.2.2.2.2.2.2.2.2.2.2.2.2.2.2.2.2.2.2.1 3).trans rfl⟩ (fun hHeld => ?_)
  clear hK K
  refine norm_ (a' := ?_) ?_ ?_
  rotate_left
  · show Act.put _ (some 103) _ = _
    simp only [Act.put, List.setIfInBounds_toArray, List.set_cons_zero, List.set_cons_succ, i64_w, i32_w]
    rfl
  as_aux_lemma =>
  refine pure_ (i := 56) (N := some 104) (v := ?_) (a' := ?_) #[true, true, true, true, true, true, true, true, true, true, true, true, true, true, true, true, true, true, true, true, true, true, true, true, true, true, true, true, true, true, true, true, true, true, true, true, true, true, true, true, true, true, true, true, true, true, true, true, true, true, true, true, true, true, true, true, true, false, false, false, false, false, false, false, false, false, false, false, false, false, false, false] rfl rfl (by kernel_rfl) (fun _ _ _ h => h) (Or.inl ⟨by rfl, ?_⟩) ?_ ?_
  rotate_left
  · intro w'
    go_simp
    with_reducible rfl
  rotate_left
  · simp only [Act.put, List.setIfInBounds_toArray, List.set_cons_zero, List.set_cons_succ, i64_w, i32_w]
    rfl
  refine pure_ (i := 57) (N := some 105) (v := ?_) (a' := ?_) #[true, true, true, true, true, true, true, true, true, true, true, true, true, true, true, true, true, true, true, true, true, true, true, true, true, true, true, true, true, true, true, true, true, true, true, true, true, true, true, true, true, true, true, true, true, true, true, true, true, true, true, true, true, true, true, true, true, true, false, false, false, false, false, false, false, false, false, false, false, false, false, false] rfl rfl (by kernel_rfl) (fun _ _ _ h => h) (Or.inl ⟨by rfl, ?_⟩) ?_ ?_
  rotate_left
  · intro w'
    go_simp
    with_reducible rfl
  rotate_left
  · simp only [Act.put, List.setIfInBounds_toArray, List.set_cons_zero, List.set_cons_succ, i64_w, i32_w]
    rfl
  refine take_ (i := 58) (N := some 106) (v := ?_) (a' := ?_) #[true, true, true, true, true, true, true, true, true, true, true, true, true, true, true, true, true, true, true, true, true, true, true, true, true, true, true, true, true, true, true, true, true, true, true, true, true, true, true, true, true, true, true, true, true, true, true, true, true, true, true, true, true, true, true, true, true, true, true, false, false, false, false, false, false, false, false, false, false, false, false, false] rfl rfl (by kernel_rfl) (fun _ _ _ h => h) (Or.inl ⟨by rfl, ?_⟩) hHeld ?_ ?_
  rotate_left
  · rintro w' ⟨s0, s1, s2, s3, s4, s5, s6, s7⟩
    go_simp
    with_reducible rfl
  rotate_left
  · simp only [Act.put, List.setIfInBounds_toArray, List.set_cons_zero, List.set_cons_succ, i64_w, i32_w]
    rfl
  refine one_ (i := 59) (N := some 107) #[true, true, true, true, true, true, true, true, true, true, true, true, true, true, true, true, true, true, true, true, true, true, true, true, true, true, true, true, true, true, true, true, true, true, true, true, true, true, true, true, true, true, true, true, true, true, true, true, true, true, true, true, true, true, true, true, true, true, true, true, false, false, false, false, false, false, false, false, false, false, false, false] rfl rfl (by kernel_rfl) (by decide) (fun K hK => ?_)
  refine goes_ Try.func16 (by kernel_rfl) rfl #[.agg #[.int .i64 1, .slice Ac ([98] : List Int).length cc, .slice none ([] : List Int).length 0, .bool true]] (by rfl) rfl rfl (by (try simp only [List.map_toArray, List.map_cons, List.map_nil]); first | done | rfl) ?_
  refine (span_Empty.calls 1 Ac cc ([98] : List Int) none 0 ([] : List Int) true false d7_13 H58.out.hp.2.2.2.2.2.2.2.2.2.2.2.2.2.2.2.2.2.2.2.2.1 hcc (⟨rfl, by simp, fun h => absurd h (by simp)⟩ : Kd.C (Kd.int .u8) _ none ([] : List Int).length []) (Nat.zero_le _) (by kernel_rfl)).mono ?_
  rintro e d7_14 ⟨rfl, hb⟩
  have H59 := Aside0.mk (H58.out.below hb)
  clear H58
  clear hb
  refine ⟨_, rfl, ?_⟩
  refine hK.out _ _ ⟨(blk_cell H59.out.hp.2.2.2.2.2.2.2.2.2.2.2.2.2.2.2.2.2.2.2.2.2.1 0).trans rfl, (blk_cell H59.out.hp.2.2.2.2.2.2.2.2.2.2.2.2.2.2.2.2.2.2.2.2.2.1 1).trans rfl, (blk_cell H59.out.hp.2.2.2.2.2.2.2.2.2.2.2.2.2.2.2.2.2.2.2.2.2.1 2).trans rfl, (blk_cell H59.out.hp.2.2.2.2.2.2.2.2.2.2.2.2.2.2.2.2.2.2.2.2.2.1 3).trans rfl, (blk_cell H59.out.hp.2.2.2.2.2.2.2.2.2.2.2.2.2.2.2.2.2.2.2.1 0).trans rfl, (blk_cell H59.out.hp.2.2.2.2.2.2.2.2.2.2.2.2.2.2.2.2.2.2.2.1 1).trans rfl, (blk_cell H59.out.hp.2.2.2.2.2.2.2.2.2.2.2.2.2.2.2.2.2.2.2.1 2).trans rfl, (blk_cell H59.out.hp.2.2.2.2.2.2.2.2.2.2.2.2.2.2.2.2.2.2.2.1 3).trans rfl⟩ (fun hHeld => ?_)
  clear hK K
  refine norm_ (a' := ?_) ?_ ?_
  rotate_left
  · show Act.put _ (some 107) _ = _
    simp only [Act.put, List.setIfInBounds_toArray, List.set_cons_zero, List.set_cons_succ, i64_w, i32_w]
    rfl
  as_aux_lemma =>
  refine pure_ (i := 60) (N := some 108) (v := ?_) (a' := ?_) #[true, true, true, true, true, true, true, true, true, true, true, true, true, true, true, true, true, true, true, true, true, true, true, true, true, true, true, true, true, true, true, true, true, true, true, true, true, true, true, true, true, true, true, true, true, true, true, true, true, true, true, true, true, true, true, true, true, true, true, true, true, false, false, false, false, false, false, false, false, false, false, false] rfl rfl (by kernel_rfl) (fun _ _ _ h => h) (Or.inl ⟨by rfl, ?_⟩) ?_ ?_
  rotate_left
  · intro w'
    go_simp
    with_reducible rfl
  rotate_left
  · simp only [Act.put, List.setIfInBounds_toArray, List.set_cons_zero, List.set_cons_succ, i64_w, i32_w]
    rfl
  refine pure_ (i := 61) (N := some 109) (v := ?_) (a' := ?_) #[true, true, true, true, true, true, true, true, true, true, true, true, true, true, true, true, true, true, true, true, true, true, true, true, true, true, true, true, true, true, true, true, true, true, true, true, true, true, true, true, true, true, true, true, true, true, true, true, true, true, true, true, true, true, true, true, true, true, true, true, true, true, false, false, false, false, false, false, false, false, false, false] rfl rfl (by kernel_rfl) (fun _ _ _ h => h) (Or.inl ⟨by rfl, ?_⟩) ?_ ?_
  rotate_left
  · intro w'
    go_simp
    with_reducible rfl
  rotate_left
  · simp only [Act.put, List.setIfInBounds_toArray, List.set_cons_zero, List.set_cons_succ, i64_w, i32_w]
    rfl
  refine pure_ (i := 62) (N := some 110) (v := ?_) (a' := ?_) #[true, true, true, true, true, true, true, true, true, true, true, true, true, true, true, true, true, true, true, true, true, true, true, true, true, true, true, true, true, true, true, true, true, true, true, true, true, true, true, true, true, true, true, true, true, true, true, true, true, true, true, true, true, true, true, true, true, true, true, true, true, true, true, false, false, false, false, false, false, false, false, false] rfl rfl (by kernel_rfl) (fun _ _ _ h => h) (Or.inl ⟨by rfl, ?_⟩) ?_ ?_
  rotate_left
  · intro w'
    go_simp
    with_reducible rfl
  rotate_left
  · simp only [Act.put, List.setIfInBounds_toArray, List.set_cons_zero, List.set_cons_succ, i64_w, i32_w]
    rfl
  refine take_ (i := 63) (N := some 111) (v := ?_) (a' := ?_) #[true, true, true, true, true, true, true, true, true, true, true, true, true, true, true, true, true, true, true, true, true, true, true, true, true, true, true, true, true, true, true, true, true, true, true, true, true, true, true, true, true, true, true, true, true, true, true, true, true, true, true, true, true, true, true, true, true, true, true, true, true, true, true, true, false, false, false, false, false, false, false, false] rfl rfl (by kernel_rfl) (fun _ _ _ h => h) (Or.inl ⟨by rfl, ?_⟩) hHeld ?_ ?_
  rotate_left
  · rintro w' ⟨s0, s1, s2, s3, s4, s5, s6, s7⟩
    go_simp
    with_reducible rfl
  rotate_left
  · simp only [Act.put, List.setIfInBounds_toArray, List.set_cons_zero, List.set_cons_succ, i64_w, i32_w]
    rfl
  refine one_ (i := 64) (N := some 112) #[true, true, true, true, true, true, true, true, true, true, true, true, true, true, true, true, true, true, true, true, true, true, true, true, true, true, true, true, true, true, true, true, true, true, true, true, true, true, true, true, true, true, true, true, true, true, true, true, true, true, true, true, true, true, true, true, true, true, true, true, true, true, true, true, true, false, false, false, false, false, false, false] rfl rfl (by kernel_rfl) (by decide) (fun K hK => ?_)
  refine goes_ Try.func14 (by kernel_rfl) rfl #[.agg #[.int .i64 1, .slice Ac ([98] : List Int).length cc, .slice none ([] : List Int).length 0, .bool true]] (by rfl) rfl rfl (by (try simp only [List.map_toArray, List.map_cons, List.map_nil]); first | done | rfl) ?_
  refine (span_Check.calls 1 Ac cc ([98] : List Int) none 0 ([] : List Int) true true d7_14 H59.out.hp.2.2.2.2.2.2.2.2.2.2.2.2.2.2.2.2.2.2.2.2.1 hcc (⟨rfl, by simp, fun h => absurd h (by simp)⟩ : Kd.C (Kd.int .u8) _ none ([] : List Int).length []) (Nat.zero_le _) (by kernel_rfl)).mono ?_
  rintro e d7_15 ⟨rfl, hb⟩
  have H60 := Aside0.mk (H59.out.below hb)
  clear H59
  clear hb
  refine ⟨_, rfl, ?_⟩
  refine hK.out _ _ ⟨(blk_cell H60.out.hp.2.2.2.2.2.2.2.2.2.2.2.2.2.2.2.2.2.2.2.2.2.1 0).trans rfl, (blk_cell H60.out.hp.2.2.2.2.2.2.2.2.2.2.2.2.2.2.2.2.2.2.2.2.2.1 1).trans rfl, (blk_cell H60.out.hp.2.2.2.2.2.2.2.2.2.2.2.2.2.2.2.2.2.2.2.2.2.1 2).trans rfl, (blk_cell H60.out.hp.2.2.2.2.2.2.2.2.2.2.2.2.2.2.2.2.2.2.2.2.2.1 3).trans rfl, (blk_cell H60.out.hp.2.2.2.2.2.2.2.2.2.2.2.2.2.2.2.2.2.2.2.1 0).trans rfl, (blk_cell H60.out.hp.2.2.2.2.2.2.2.2.2.2.2.2.2.2.2.2.2.2.2.1 1).trans rfl, (blk_cell H60.out.hp.2.2.2.2.2.2.2.2.2.2.2.2.2.2.2.2.2.2.2.1 2).trans rfl, (blk_cell H60.out.hp.2.2.2.2.2.2.2.2.2.2.2.2.2.2.2.2.2.2.2.1 3).trans rfl⟩ (fun hHeld => ?_)
  clear hK K
  refine norm_ (a' := ?_) ?_ ?_
  rotate_left
  · show Act.put _ (some 112) _ = _
    simp only [Act.put, List.setIfInBounds_toArray, List.set_cons_zero, List.set_cons_succ, i64_w, i32_w]
    rfl
  as_aux_lemma =>
  refine pure_ (i := 65) (N := some 113) (v := ?_) (a' := ?_) #[true, true, true, true, true, true, true, true, true, true, true, true, true, true, true, true, true, true, true, true, true, true, true, true, true, true, true, true, true, true, true, true, true, true, true, true, true, true, true, true, true, true, true, true, true, true, true, true, true, true, true, true, true, true, true, true, true, true, true, true, true, true, true, true, true, true, false, false, false, false, false, false] rfl rfl (by kernel_rfl) (fun _ _ _ h => h) (Or.inl ⟨by rfl, ?_⟩) ?_ ?_
  rotate_left
  · intro w'
    go_simp
    with_reducible rfl
  rotate_left
  · simp only [Act.put, List.setIfInBounds_toArray, List.set_cons_zero, List.set_cons_succ, i64_w, i32_w]
    rfl
  refine pure_ (i := 66) (N := some 114) (v := ?_) (a' := ?_) #[true, true, true, true, true, true, true, true, true, true, true, true, true, true, true, true, true, true, true, true, true, true, true, true, true, true, true, true, true, true, true, true, true, true, true, true, true, true, true, true, true, true, true, true, true, true, true, true, true, true, true, true, true, true, true, true, true, true, true, true, true, true, true, true, true, true, true, false, false, false, false, false] rfl rfl (by kernel_rfl) (fun _ _ _ h => h) (Or.inl ⟨by rfl, ?_⟩) ?_ ?_
  rotate_left
  · intro w'
    go_simp
    with_reducible rfl
  rotate_left
  · simp only [Act.put, List.setIfInBounds_toArray, List.set_cons_zero, List.set_cons_succ, i64_w, i32_w]
    rfl
  refine pure_ (i := 67) (N := some 115) (v := ?_) (a' := ?_) #[true, true, true, true, true, true, true, true, true, true, true, true, true, true, true, true, true, true, true, true, true, true, true, true, true, true, true, true, true, true, true, true, true, true, true, true, true, true, true, true, true, true, true, true, true, true, true, true, true, true, true, true, true, true, true, true, true, true, true, true, true, true, true, true, true, true, true, true, false, false, false, false] rfl rfl (by kernel_rfl) (fun _ _ _ h => h) (Or.inl ⟨by rfl, ?_⟩) ?_ ?_
  rotate_left
  · intro w'
    go_simp
    with_reducible rfl
  rotate_left
  · simp only [Act.put, List.setIfInBounds_toArray, List.set_cons_zero, List.set_cons_succ, i64_w, i32_w]
    rfl
  refine one_ (i := 68) (N := some 116) #[true, true, true, true, true, true, true, true, true, true, true, true, true, true, true, true, true, true, true, true, true, true, true, true, true, true, true, true, true, true, true, true, true, true, true, true, true, true, true, true, true, true, true, true, true, true, true, true, true, true, true, true, true, true, true, true, true, true, true, true, true, true, true, true, true, true, true, true, true, false, false, false] rfl rfl (by kernel_rfl) (by decide) (fun K hK => ?_)
  refine goes_ Try.func14 (by kernel_rfl) rfl #[.agg #[.int .i64 (-1), .slice none ([] : List Int).length 0, .slice none ([] : List Int).length 0, .bool false]] (by rfl) rfl rfl (by (try simp only [List.map_toArray, List.map_cons, List.map_nil]); first | done | rfl) ?_
  refine (span_Check.calls (-1) none 0 ([] : List Int) none 0 ([] : List Int) false false d7_15 (⟨rfl, by simp, fun h => absurd h (by simp)⟩ : Kd.C (Kd.int .u8) _ none ([] : List Int).length []) (Nat.zero_le _) (⟨rfl, by simp, fun h => absurd h (by simp)⟩ : Kd.C (Kd.int .u8) _ none ([] : List Int).length []) (Nat.zero_le _) (by kernel_rfl)).mono ?_
  rintro e d7_16 ⟨rfl, hb⟩
  have H61 := Aside0.mk (H60.out.below hb)
  clear H60
  clear hb
  refine ⟨_, rfl, ?_⟩
  refine hK.out _ _ ⟨(blk_cell H61.out.hp.2.2.2.2.2.2.2.2.2.2.2.2.2.2.2.2.2.2.2.2.2.1 0).trans rfl, (blk_cell H61.out.hp.2.2.2.2.2.2.2.2.2.2.2.2.2.2.2.2.2.2.2.2.2.1 1).trans rfl, (blk_cell H61.out.hp.2.2.2.2.2.2.2.2.2.2.2.2.2.2.2.2.2.2.2.2.2.1 2).trans rfl, (blk_cell H61.out.hp.2.2.2.2.2.2.2.2.2.2.2.2.2.2.2.2.2.2.2.2.2.1 3).trans rfl, (blk_cell H61.out.hp.2.2.2.2.2.2.2.2.2.2.2.2.2.2.2.2.2.2.2.1 0).trans rfl, (blk_cell H61.out.hp.2.2.2.2.2.2.2.2.2.2.2.2.2.2.2.2.2.2.2.1 1).trans rfl, (blk_cell H61.out.hp.2.2.2.2.2.2.2.2.2.2.2.2.2.2.2.2.2.2.2.1 2).trans rfl, (blk_cell H61.out.hp.2.2.2.2.2.2.2.2.2.2.2.2.2.2.2.2.2.2.2.1 3).trans rfl⟩ (fun hHeld => ?_)
  clear hK K
  refine norm_ (a' := ?_) ?_ ?_
  rotate_left
  · show Act.put _ (some 116) _ = _
    simp only [Act.put, List.setIfInBounds_toArray, List.set_cons_zero, List.set_cons_succ, i64_w, i32_w]
    rfl
  as_aux_lemma =>
  refine pure_ (i := 69) (N := some 117) (v := ?_) (a' := ?_) #[true, true, true, true, true, true, true, true, true, true, true, true, true, true, true, true, true, true, true, true, true, true, true, true, true, true, true, true, true, true, true, true, true, true, true, true, true, true, true, true, true, true, true, true, true, true, true, true, true, true, true, true, true, true, true, true, true, true, true, true, true, true, true, true, true, true, true, true, true, true, false, false] rfl rfl (by kernel_rfl) (fun _ _ _ h => h) (Or.inl ⟨by rfl, ?_⟩) ?_ ?_
  rotate_left
  · intro w'
    go_simp
    with_reducible rfl
  rotate_left
  · simp only [Act.put, List.setIfInBounds_toArray, List.set_cons_zero, List.set_cons_succ, i64_w, i32_w]
    rfl
  refine pure_ (i := 70) (N := some 118) (v := ?_) (a' := ?_) #[true, true, true, true, true, true, true, true, true, true, true, true, true, true, true, true, true, true, true, true, true, true, true, true, true, true, true, true, true, true, true, true, true, true, true, true, true, true, true, true, true, true, true, true, true, true, true, true, true, true, true, true, true, true, true, true, true, true, true, true, true, true, true, true, true, true, true, true, true, true, true, false] rfl rfl (by kernel_rfl) (fun _ _ _ h => h) (Or.inl ⟨by rfl, ?_⟩) ?_ ?_
  rotate_left
  · intro w'
    go_simp
    with_reducible rfl
  rotate_left
  · simp only [Act.put, List.setIfInBounds_toArray, List.set_cons_zero, List.set_cons_succ, i64_w, i32_w]
    rfl
  refine pure_ (i := 71) (N := some 0) (v := ?_) (a' := ?_) #[true, true, true, true, true, true, true, true, true, true, true, true, true, true, true, true, true, true, true, true, true, true, true, true, true, true, true, true, true, true, true, true, true, true, true, true, true, true, true, true, true, true, true, true, true, true, true, true, true, true, true, true, true, true, true, true, true, true, true, true, true, true, true, true, true, true, true, true, true, true, true, true] rfl rfl (by kernel_rfl) (fun _ _ _ h => h) (Or.inl ⟨by rfl, ?_⟩) ?_ ?_
  rotate_left
  · intro w'
    go_simp
    with_reducible rfl
  rotate_left
  · simp only [Act.put, List.setIfInBounds_toArray, List.set_cons_zero, List.set_cons_succ, i64_w, i32_w]
    rfl
  refine done_ (by kernel_rfl) ?_
  go_wp2_with fail
  go_ret
  exact ⟨rfl, H61.out.hb⟩

end Go.Proofs.Ytomlhapehldlnaa.P
