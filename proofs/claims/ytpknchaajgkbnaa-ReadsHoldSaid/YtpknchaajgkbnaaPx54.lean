-- Written by wip/gprint.py, a program of this session over the kit's print; Lean checks it.
import Derived.Test.YtpknchaajgkbnaaPx0
import Derived.Test.YtpknchaajgkbnaaPx1
import Derived.Test.YtpknchaajgkbnaaPx43
import Derived.Test.YtpknchaajgkbnaaPx48
import Derived.Test.YtpknchaajgkbnaaPx49
import Derived.Lib.SlBytesConst
import Derived.OwnWalkIn
namespace Go.Proofs.Ytpknchaajgkbnaa.P
open Go.RowKit Go.Proofs.YtpknchaajgkbnaaW.PrintWords Go.Proofs.YtpknchaajgkbnaaW.PrintLast Go.Proofs.YtpknchaajgkbnaaW.PrintMore
attribute [local go_sem] max2_int min2_int max_two min_two max_three min_three max_four min_four   -- for this text's walks alone
set_option linter.unusedVariables false
set_option linter.unusedSimpArgs false

/-GIVEN banksmanlaw13_awake-/
/-! ### banksmanlaw13_awake: function 5 -/
def banksmanlaw13_awake.f  : Option (Bool) := some true
set_option maxHeartbeats 8000000 in
set_option maxRecDepth 100000 in
theorem banksmanlaw13_awake.calls  (r : Bool) (w : World) (h : banksmanlaw13_awake.f  = some r) :
    Calls Try.prog 5 #[] w fun e w' => e = .returned (.bool r) ∧ Below w.heap.size w w' := by
  unfold banksmanlaw13_awake.f at h
  obtain rfl := Option.some.inj h
  clear h
  have H0 := Aside0.mk (AB.start w)
  have husp := Try.underlying38
  have huwr := Try.underlying46
  have hupa := Try.underlying34
  have huli := Try.underlying29
  go_enter Try.func5, Try.ntmps5
  go_wp2_with ((with_reducible refine gate_dst (N := 9) rfl ?_); (suffices hsuf : Aside0 _ from hsuf.out))
  refine ⟨?_⟩
  refine conv_lit_op 36 5 Try.underlying36 Try.underlying5 rfl 9 10 rfl rfl rfl rfl ([98] : List Int) ([98] : List Int) rfl [.int .u8 98] ?hr (by intro v_; first | rfl | (go_simp; done)) rfl (by simp) ?_
  case hr => first | (go_simp; done) | (go_simp; rfl)
  intro v_ w1 hV hb
  obtain ⟨A0, c0, rfl⟩ := Kd.V_slice hV
  have hc0 : ([98] : List Int).length ≤ c0 := (Kd.V_at hV).2.1
  have H1 := Aside0.mk (H0.out.below hb)
  clear H0
  have H2 := Aside0.mk (H1.out.add (stable_C (Kd.int .u8) _ _) (Kd.V_reads' hV).2.2)
  clear H1
  clear hV hb
  simp only [Act.put, List.setIfInBounds_toArray, List.set_cons_zero, List.set_cons_succ]
  go_wp2_with (go_at_call 11; refine (reads_Note.calls none 0 ([] : List S38) 0 A0 c0 ([98] : List Int) none 0 ([] : List Int) true ([(⟨0, ([98] : List Int), ([] : List Int), true⟩ : S38)] : List S38) 0 w1 (⟨rfl, by simp, fun h => absurd h (by simp)⟩ : Kd.C k38 _ none ([] : List _).length []) (Nat.zero_le _) H2.out.hp.1 hc0 (⟨rfl, by simp, fun h => absurd h (by simp)⟩ : Kd.C (Kd.int .u8) _ none ([] : List _).length []) (Nat.zero_le _) (by kernel_rfl)).mono ?_; rintro e v3 ⟨v0_, rfl, hV, hb⟩; (suffices hsuf : Aside0 _ from hsuf.out))
  refine ⟨?_⟩
  obtain ⟨Al, cl, rfl⟩ := Kd.V_slice hV
  have hcl : ([(⟨0, ([98] : List Int), ([] : List Int), true⟩ : S38)] : List S38).length ≤ cl := (Kd.V_at hV).2.1
  have H4 := Aside0.mk (H2.out.below hb)
  clear H2
  have H5 := Aside0.mk (H4.out.add (stable_C k38 _ _) (Kd.V_reads' hV).2.2)
  clear H4
  clear hV hb
  go_wp2_with (go_at_call 11; refine (reads_Note.calls Al cl ([(⟨0, ([98] : List Int), ([] : List Int), true⟩ : S38)] : List S38) 4 none 0 ([] : List Int) none 0 ([] : List Int) false ([(⟨0, ([98] : List Int), ([] : List Int), true⟩ : S38)] : List S38) 1 v3 H5.out.hp.1 hcl (⟨rfl, by simp, fun h => absurd h (by simp)⟩ : Kd.C (Kd.int .u8) _ none ([] : List _).length []) (Nat.zero_le _) (⟨rfl, by simp, fun h => absurd h (by simp)⟩ : Kd.C (Kd.int .u8) _ none ([] : List _).length []) (Nat.zero_le _) (by kernel_rfl)).mono ?_; rintro e v6 ⟨v0_, rfl, hV, hb⟩; (suffices hsuf : Aside0 _ from hsuf.out))
  refine ⟨?_⟩
  obtain ⟨Am, cm, rfl⟩ := Kd.V_slice hV
  have hcm : ([(⟨0, ([98] : List Int), ([] : List Int), true⟩ : S38)] : List S38).length ≤ cm := (Kd.V_at hV).2.1
  have H7 := Aside0.mk (H5.out.below hb)
  clear H5
  have H8 := Aside0.mk (H7.out.add (stable_C k38 _ _) (Kd.V_reads' hV).2.2)
  clear H7
  clear hV hb
  go_wp2_with ((with_reducible refine gate_dst (N := 21) rfl ?_); (suffices hsuf : Aside0 _ from hsuf.out))
  refine ⟨?_⟩
  refine conv_lit_op 36 5 Try.underlying36 Try.underlying5 rfl 21 22 rfl rfl rfl rfl ([99] : List Int) ([99] : List Int) rfl [.int .u8 99] ?hr (by intro v_; first | rfl | (go_simp; done)) rfl (by simp) ?_
  case hr => first | (go_simp; done) | (go_simp; rfl)
  intro v_ w4 hV hb
  obtain ⟨A3, c3, rfl⟩ := Kd.V_slice hV
  have hc3 : ([99] : List Int).length ≤ c3 := (Kd.V_at hV).2.1
  have H9 := Aside0.mk (H8.out.below hb)
  clear H8
  have H10 := Aside0.mk (H9.out.add (stable_C (Kd.int .u8) _ _) (Kd.V_reads' hV).2.2)
  clear H9
  clear hV hb
  simp only [Act.put, List.setIfInBounds_toArray, List.set_cons_zero, List.set_cons_succ]
  go_wp2_with ((with_reducible refine gate_dst (N := 25) rfl ?_); (suffices hsuf : Aside0 _ from hsuf.out))
  refine ⟨?_⟩
  obtain ⟨w5, hw5⟩ : ∃ y_, y_ = w4.alloc (.cells #[.int .i64 0, .slice A3 ([99] : List Int).length c3, .bool false, .slice none ([] : List Int).length 0] 46 (0, 0)) := ⟨_, rfl⟩
  have hbb : Below w4.heap.size w4 w5 := by rw [hw5]; exact below_alloc (Below.refl _ _) _
  have H11 := Aside0.mk (H10.out.below hbb)
  clear H10
  obtain ⟨gw, hg_⟩ : ∃ g_, g_ = w4.heap.size := ⟨_, rfl⟩
  have hbl : w5.heap[gw]? = some (.cells #[.int .i64 0, .slice A3 ([99] : List Int).length c3, .bool false, .slice none ([] : List Int).length 0] 46 (0, 0)) := by rw [hw5, hg_]; exact heap_alloc_new _ _
  have hsp : Kd.C k46 w5 (some ⟨gw, 0, none⟩) ([(⟨0, ([99] : List Int), false, ([] : List Int)⟩ : S46)] : List S46).length ([(⟨0, ([99] : List Int), false, ([] : List Int)⟩ : S46)] : List S46) := by
    refine C_of_block (cur := (#[.int .i64 0, .slice A3 ([99] : List Int).length c3, .bool false, .slice none ([] : List Int).length 0]).toList) (by simp) hbl (by show 1 * 4 ≤ 4; omega) (fun j p hj => ?_)
    rcases j with _ | j
    · cases hj
      exact k46_mk _ (⟨0, ([99] : List Int), false, ([] : List Int)⟩ : S46) hc3 H11.out.hp.1 (Nat.zero_le _) (⟨rfl, by simp, fun h => absurd h (by simp)⟩ : Kd.C (Kd.int .u8) _ none ([] : List _).length [])
    · cases hj
  (try simp only [List.length_cons, List.length_nil, Nat.reduceAdd, Nat.zero_add] at hw5)
  rw [← hw5, ← hg_]
  have H12 := Aside0.mk (H11.out.add (stable_C k46 _ _) hsp)
  clear H11
  clear hbb hbl hsp hw5 hg_
  go_wp2_with ((with_reducible refine gate_dst (N := 29) rfl ?_); (suffices hsuf : Aside0 _ from hsuf.out))
  refine ⟨?_⟩
  obtain ⟨w6, hw6⟩ : ∃ y_, y_ = w5.alloc (.cells #[.int .i64 0, .int .i64 3, .bool false, .slice none ([] : List S38).length 0, .slice none ([] : List S46).length 0, .bool false, .int .i64 0, .int .i64 5, .bool false, .slice none ([] : List S38).length 0, .slice none ([] : List S46).length 0, .bool false] 34 (0, 0)) := ⟨_, rfl⟩
  have hbb : Below w5.heap.size w5 w6 := by rw [hw6]; exact below_alloc (Below.refl _ _) _
  have H13 := Aside0.mk (H12.out.below hbb)
  clear H12
  obtain ⟨gp, hg_⟩ : ∃ g_, g_ = w5.heap.size := ⟨_, rfl⟩
  have hbl : w6.heap[gp]? = some (.cells #[.int .i64 0, .int .i64 3, .bool false, .slice none ([] : List S38).length 0, .slice none ([] : List S46).length 0, .bool false, .int .i64 0, .int .i64 5, .bool false, .slice none ([] : List S38).length 0, .slice none ([] : List S46).length 0, .bool false] 34 (0, 0)) := by rw [hw6, hg_]; exact heap_alloc_new _ _
  have hsp : Kd.C k34 w6 (some ⟨gp, 0, none⟩) ([(⟨0, 3, false, ([] : List S38), ([] : List S46), false⟩ : S34), (⟨0, 5, false, ([] : List S38), ([] : List S46), false⟩ : S34)] : List S34).length ([(⟨0, 3, false, ([] : List S38), ([] : List S46), false⟩ : S34), (⟨0, 5, false, ([] : List S38), ([] : List S46), false⟩ : S34)] : List S34) := by
    refine C_of_block (cur := (#[.int .i64 0, .int .i64 3, .bool false, .slice none ([] : List S38).length 0, .slice none ([] : List S46).length 0, .bool false, .int .i64 0, .int .i64 5, .bool false, .slice none ([] : List S38).length 0, .slice none ([] : List S46).length 0, .bool false]).toList) (by simp) hbl (by show 2 * 6 ≤ 12; omega) (fun j p hj => ?_)
    rcases j with _ | _ | j
    · cases hj
      exact k34_mk _ (⟨0, 3, false, ([] : List S38), ([] : List S46), false⟩ : S34) (Nat.zero_le _) (⟨rfl, by simp, fun h => absurd h (by simp)⟩ : Kd.C k38 _ none ([] : List _).length []) (Nat.zero_le _) (⟨rfl, by simp, fun h => absurd h (by simp)⟩ : Kd.C k46 _ none ([] : List _).length [])
    · cases hj
      exact k34_mk _ (⟨0, 5, false, ([] : List S38), ([] : List S46), false⟩ : S34) (Nat.zero_le _) (⟨rfl, by simp, fun h => absurd h (by simp)⟩ : Kd.C k38 _ none ([] : List _).length []) (Nat.zero_le _) (⟨rfl, by simp, fun h => absurd h (by simp)⟩ : Kd.C k46 _ none ([] : List _).length [])
    · cases hj
  (try simp only [List.length_cons, List.length_nil, Nat.reduceAdd, Nat.zero_add] at hw6)
  rw [← hw6, ← hg_]
  have H14 := Aside0.mk (H13.out.add (stable_C k34 _ _) hsp)
  clear H13
  clear hbb hbl hsp hw6 hg_
  go_wp2_with ((with_reducible refine gate_dst (N := 32) rfl ?_); (suffices hsuf : Aside0 _ from hsuf.out))
  refine ⟨?_⟩
  obtain ⟨w7, hw7⟩ : ∃ y_, y_ = w6.alloc (.cells #[.int .i64 9, .slice none ([] : List S38).length 0, .int .i64 3, .slice none ([] : List S38).length 0] 29 (0, 0)) := ⟨_, rfl⟩
  have hbb : Below w6.heap.size w6 w7 := by rw [hw7]; exact below_alloc (Below.refl _ _) _
  have H15 := Aside0.mk (H14.out.below hbb)
  clear H14
  obtain ⟨gl, hg_⟩ : ∃ g_, g_ = w6.heap.size := ⟨_, rfl⟩
  have hbl : w7.heap[gl]? = some (.cells #[.int .i64 9, .slice none ([] : List S38).length 0, .int .i64 3, .slice none ([] : List S38).length 0] 29 (0, 0)) := by rw [hw7, hg_]; exact heap_alloc_new _ _
  have hsp : Kd.C k29 w7 (some ⟨gl, 0, none⟩) ([(⟨9, ([] : List S38)⟩ : S29), (⟨3, ([] : List S38)⟩ : S29)] : List S29).length ([(⟨9, ([] : List S38)⟩ : S29), (⟨3, ([] : List S38)⟩ : S29)] : List S29) := by
    refine C_of_block (cur := (#[.int .i64 9, .slice none ([] : List S38).length 0, .int .i64 3, .slice none ([] : List S38).length 0]).toList) (by simp) hbl (by show 2 * 2 ≤ 4; omega) (fun j p hj => ?_)
    rcases j with _ | _ | j
    · cases hj
      exact k29_mk _ (⟨9, ([] : List S38)⟩ : S29) (Nat.zero_le _) (⟨rfl, by simp, fun h => absurd h (by simp)⟩ : Kd.C k38 _ none ([] : List _).length [])
    · cases hj
      exact k29_mk _ (⟨3, ([] : List S38)⟩ : S29) (Nat.zero_le _) (⟨rfl, by simp, fun h => absurd h (by simp)⟩ : Kd.C k38 _ none ([] : List _).length [])
    · cases hj
  (try simp only [List.length_cons, List.length_nil, Nat.reduceAdd, Nat.zero_add] at hw7)
  rw [← hw7, ← hg_]
  have H16 := Aside0.mk (H15.out.add (stable_C k29 _ _) hsp)
  clear H15
  clear hbb hbl hsp hw7 hg_
  go_wp2_with (go_at_call 7; refine (reads_Keep.calls (some ⟨gp, 0, none⟩) 2 ([(⟨0, 3, false, ([] : List S38), ([] : List S46), false⟩ : S34), (⟨0, 5, false, ([] : List S38), ([] : List S46), false⟩ : S34)] : List S34) (some ⟨gl, 0, none⟩) 2 ([(⟨9, ([] : List S38)⟩ : S29), (⟨3, ([] : List S38)⟩ : S29)] : List S29) ([(⟨0, 5, false, ([] : List S38), ([] : List S46), false⟩ : S34)] : List S34) w7 H16.out.hp.2.1 (Nat.le_refl _) H16.out.hp.1 (Nat.le_refl _) (by kernel_rfl)).mono ?_; rintro e v17 ⟨v0_, rfl, hV, hb⟩; (suffices hsuf : Aside0 _ from hsuf.out))
  refine ⟨?_⟩
  obtain ⟨Ak, ck, rfl⟩ := Kd.V_slice hV
  have hck : ([(⟨0, 5, false, ([] : List S38), ([] : List S46), false⟩ : S34)] : List S34).length ≤ ck := (Kd.V_at hV).2.1
  have H18 := Aside0.mk (H16.out.below hb)
  clear H16
  have H19 := Aside0.mk (H18.out.add (stable_C k34 _ _) (Kd.V_reads' hV).2.2)
  clear H18
  clear hV hb
  go_wp2_with (go_at_call 12; refine (reads_Hit.calls Al cl ([(⟨0, ([98] : List Int), ([] : List Int), true⟩ : S38)] : List S38) (some ⟨gw, 0, none⟩) 1 ([(⟨0, ([99] : List Int), false, ([] : List Int)⟩ : S46)] : List S46) true v17 H19.out.hp.2.2.2.2.2.2.1 hcl H19.out.hp.2.2.2.1 (Nat.le_refl _) (by kernel_rfl)).mono ?_; rintro e v20 ⟨rfl, hb⟩; (suffices hsuf : Aside0 _ from hsuf.out))
  refine ⟨?_⟩
  have H21 := Aside0.mk (H19.out.below hb)
  clear H19
  clear hb
  go_wp2_with ((with_reducible refine gate_dst (N := 51) rfl ?_); (suffices hsuf : Aside0 _ from hsuf.out))
  refine ⟨?_⟩
  refine conv_litg_op 36 5 Try.underlying36 Try.underlying5 51 52 (by first | rfl | (go_simp; done)) rfl (by intro v_; first | rfl | (go_simp; done)) rfl rfl ([97] : List Int) ([97] : List Int) rfl [.int .u8 97] ?hr (by intro v_; first | rfl | (go_simp; done)) rfl (by simp) ?_
  case hr => first | (go_simp; done) | (go_simp; rfl)
  intro v_ w8 hV hb
  obtain ⟨A4, c4, rfl⟩ := Kd.V_slice hV
  have hc4 : ([97] : List Int).length ≤ c4 := (Kd.V_at hV).2.1
  have H22 := Aside0.mk (H21.out.below hb)
  clear H21
  have H23 := Aside0.mk (H22.out.add (stable_C (Kd.int .u8) _ _) (Kd.V_reads' hV).2.2)
  clear H22
  clear hV hb
  simp only [Act.put, List.setIfInBounds_toArray, List.set_cons_zero, List.set_cons_succ]
  go_wp2_with ((with_reducible refine gate_dst (N := 55) rfl ?_); (suffices hsuf : Aside0 _ from hsuf.out))
  refine ⟨?_⟩
  obtain ⟨w9, hw9⟩ : ∃ y_, y_ = w8.alloc (.cells #[.int .i64 0, .slice A4 ([97] : List Int).length c4, .bool false, .slice none ([] : List Int).length 0] 46 (0, 0)) := ⟨_, rfl⟩
  have hbb : Below w8.heap.size w8 w9 := by rw [hw9]; exact below_alloc (Below.refl _ _) _
  have H24 := Aside0.mk (H23.out.below hbb)
  clear H23
  obtain ⟨gv, hg_⟩ : ∃ g_, g_ = w8.heap.size := ⟨_, rfl⟩
  have hbl : w9.heap[gv]? = some (.cells #[.int .i64 0, .slice A4 ([97] : List Int).length c4, .bool false, .slice none ([] : List Int).length 0] 46 (0, 0)) := by rw [hw9, hg_]; exact heap_alloc_new _ _
  have hsp : Kd.C k46 w9 (some ⟨gv, 0, none⟩) ([(⟨0, ([97] : List Int), false, ([] : List Int)⟩ : S46)] : List S46).length ([(⟨0, ([97] : List Int), false, ([] : List Int)⟩ : S46)] : List S46) := by
    refine C_of_block (cur := (#[.int .i64 0, .slice A4 ([97] : List Int).length c4, .bool false, .slice none ([] : List Int).length 0]).toList) (by simp) hbl (by show 1 * 4 ≤ 4; omega) (fun j p hj => ?_)
    rcases j with _ | j
    · cases hj
      exact k46_mk _ (⟨0, ([97] : List Int), false, ([] : List Int)⟩ : S46) hc4 H24.out.hp.1 (Nat.zero_le _) (⟨rfl, by simp, fun h => absurd h (by simp)⟩ : Kd.C (Kd.int .u8) _ none ([] : List _).length [])
    · cases hj
  (try simp only [List.length_cons, List.length_nil, Nat.reduceAdd, Nat.zero_add] at hw9)
  rw [← hw9, ← hg_]
  have H25 := Aside0.mk (H24.out.add (stable_C k46 _ _) hsp)
  clear H24
  clear hbb hbl hsp hw9 hg_
  go_wp2_with (go_at_call 12; refine (reads_Hit.calls Al cl ([(⟨0, ([98] : List Int), ([] : List Int), true⟩ : S38)] : List S38) (some ⟨gv, 0, none⟩) 1 ([(⟨0, ([97] : List Int), false, ([] : List Int)⟩ : S46)] : List S46) false w9 H25.out.hp.2.2.2.2.2.2.2.2.1 hcl H25.out.hp.1 (Nat.le_refl _) (by kernel_rfl)).mono ?_; rintro e v26 ⟨rfl, hb⟩; (suffices hsuf : Aside0 _ from hsuf.out))
  refine ⟨?_⟩
  have H27 := Aside0.mk (H25.out.below hb)
  clear H25
  clear hb
  go_wp2_with (go_at_call 14; refine (reads_Same.calls (some ⟨gw, 0, none⟩) 1 ([(⟨0, ([99] : List Int), false, ([] : List Int)⟩ : S46)] : List S46) (some ⟨gw, 0, none⟩) 1 ([(⟨0, ([99] : List Int), false, ([] : List Int)⟩ : S46)] : List S46) true v26 H27.out.hp.2.2.2.2.2.1 (Nat.le_refl _) H27.out.hp.2.2.2.2.2.1 (Nat.le_refl _) (by kernel_rfl)).mono ?_; rintro e v28 ⟨rfl, hb⟩; (suffices hsuf : Aside0 _ from hsuf.out))
  refine ⟨?_⟩
  have H29 := Aside0.mk (H27.out.below hb)
  clear H27
  clear hb
  go_wp2_with ((with_reducible refine gate_dst (N := 65) rfl ?_); (suffices hsuf : Aside0 _ from hsuf.out))
  refine ⟨?_⟩
  refine conv_litg_op 36 5 Try.underlying36 Try.underlying5 65 66 (by first | rfl | (go_simp; done)) rfl (by intro v_; first | rfl | (go_simp; done)) rfl rfl ([99] : List Int) ([99] : List Int) rfl [.int .u8 99] ?hr (by intro v_; first | rfl | (go_simp; done)) rfl (by simp) ?_
  case hr => first | (go_simp; done) | (go_simp; rfl)
  intro v_ w10 hV hb
  obtain ⟨A5, c5, rfl⟩ := Kd.V_slice hV
  have hc5 : ([99] : List Int).length ≤ c5 := (Kd.V_at hV).2.1
  have H30 := Aside0.mk (H29.out.below hb)
  clear H29
  have H31 := Aside0.mk (H30.out.add (stable_C (Kd.int .u8) _ _) (Kd.V_reads' hV).2.2)
  clear H30
  clear hV hb
  simp only [Act.put, List.setIfInBounds_toArray, List.set_cons_zero, List.set_cons_succ]
  go_wp2_with ((with_reducible refine gate_dst (N := 69) rfl ?_); (suffices hsuf : Aside0 _ from hsuf.out))
  refine ⟨?_⟩
  obtain ⟨w11, hw11⟩ : ∃ y_, y_ = w10.alloc (.cells #[.int .i64 1, .slice A5 ([99] : List Int).length c5, .bool false, .slice none ([] : List Int).length 0] 46 (0, 0)) := ⟨_, rfl⟩
  have hbb : Below w10.heap.size w10 w11 := by rw [hw11]; exact below_alloc (Below.refl _ _) _
  have H32 := Aside0.mk (H31.out.below hbb)
  clear H31
  obtain ⟨gu, hg_⟩ : ∃ g_, g_ = w10.heap.size := ⟨_, rfl⟩
  have hbl : w11.heap[gu]? = some (.cells #[.int .i64 1, .slice A5 ([99] : List Int).length c5, .bool false, .slice none ([] : List Int).length 0] 46 (0, 0)) := by rw [hw11, hg_]; exact heap_alloc_new _ _
  have hsp : Kd.C k46 w11 (some ⟨gu, 0, none⟩) ([(⟨1, ([99] : List Int), false, ([] : List Int)⟩ : S46)] : List S46).length ([(⟨1, ([99] : List Int), false, ([] : List Int)⟩ : S46)] : List S46) := by
    refine C_of_block (cur := (#[.int .i64 1, .slice A5 ([99] : List Int).length c5, .bool false, .slice none ([] : List Int).length 0]).toList) (by simp) hbl (by show 1 * 4 ≤ 4; omega) (fun j p hj => ?_)
    rcases j with _ | j
    · cases hj
      exact k46_mk _ (⟨1, ([99] : List Int), false, ([] : List Int)⟩ : S46) hc5 H32.out.hp.1 (Nat.zero_le _) (⟨rfl, by simp, fun h => absurd h (by simp)⟩ : Kd.C (Kd.int .u8) _ none ([] : List _).length [])
    · cases hj
  (try simp only [List.length_cons, List.length_nil, Nat.reduceAdd, Nat.zero_add] at hw11)
  rw [← hw11, ← hg_]
  have H33 := Aside0.mk (H32.out.add (stable_C k46 _ _) hsp)
  clear H32
  clear hbb hbl hsp hw11 hg_
  go_wp2_with (go_at_call 14; refine (reads_Same.calls (some ⟨gw, 0, none⟩) 1 ([(⟨0, ([99] : List Int), false, ([] : List Int)⟩ : S46)] : List S46) (some ⟨gu, 0, none⟩) 1 ([(⟨1, ([99] : List Int), false, ([] : List Int)⟩ : S46)] : List S46) false w11 H33.out.hp.2.2.2.2.2.2.2.1 (Nat.le_refl _) H33.out.hp.1 (Nat.le_refl _) (by kernel_rfl)).mono ?_; rintro e v34 ⟨rfl, hb⟩; (suffices hsuf : Aside0 _ from hsuf.out))
  refine ⟨?_⟩
  have H35 := Aside0.mk (H33.out.below hb)
  clear H33
  clear hb
  have hcut : Kd.C k34 v34 (some ⟨gp, 6, none⟩) ([(⟨0, 5, false, ([] : List S38), ([] : List S46), false⟩ : S34)] : List S34).length ([(⟨0, 5, false, ([] : List S38), ([] : List S46), false⟩ : S34)] : List S34) := Kd.C_drop (m := 1) (c := 2) H35.out.hp.2.2.2.2.2.2.1 (by decide) (by decide)
  have H36 := Aside0.mk (H35.out.add (stable_C k34 _ _) hcut)
  clear H35
  clear hcut
  go_wp2_with (go_at_call 8; refine (banksmanref13_All.calls 64 Ak ck ([(⟨0, 5, false, ([] : List S38), ([] : List S46), false⟩ : S34)] : List S34) (some ⟨gp, 6, none⟩) 1 ([(⟨0, 5, false, ([] : List S38), ([] : List S46), false⟩ : S34)] : List S34) true v34 H36.out.hp.2.2.2.2.2.1 hck H36.out.hp.1 (Nat.le_refl _) (by kernel_rfl)).mono ?_; rintro e v37 ⟨rfl, hb⟩; (suffices hsuf : Aside0 _ from hsuf.out))
  refine ⟨?_⟩
  have H38 := Aside0.mk (H36.out.below hb)
  clear H36
  clear hb
  go_wp2_with (go_at_call 7; refine (reads_Keep.calls (some ⟨gp, 0, none⟩) 2 ([(⟨0, 3, false, ([] : List S38), ([] : List S46), false⟩ : S34), (⟨0, 5, false, ([] : List S38), ([] : List S46), false⟩ : S34)] : List S34) none 0 ([] : List S29) ([] : List S34) v37 H38.out.hp.2.2.2.2.2.2.2.1 (Nat.le_refl _) (⟨rfl, by simp, fun h => absurd h (by simp)⟩ : Kd.C k29 _ none ([] : List _).length []) (Nat.zero_le _) (by kernel_rfl)).mono ?_; rintro e v39 ⟨v0_, rfl, hV, hb⟩; (suffices hsuf : Aside0 _ from hsuf.out))
  refine ⟨?_⟩
  obtain ⟨An, cn, rfl⟩ := Kd.V_slice hV
  have hcn : ([] : List S34).length ≤ cn := (Kd.V_at hV).2.1
  have H40 := Aside0.mk (H38.out.below hb)
  clear H38
  have H41 := Aside0.mk (H40.out.add (stable_C k34 _ _) (Kd.V_reads' hV).2.2)
  clear H40
  clear hV hb
  go_wp2
  go_ret
  exact ⟨rfl, H41.out.hb⟩

end Go.Proofs.Ytpknchaajgkbnaa.P
