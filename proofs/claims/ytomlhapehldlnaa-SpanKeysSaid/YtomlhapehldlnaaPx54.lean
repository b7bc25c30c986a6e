-- Written by wip/gprint.py, a program of this session over the kit's print; Lean checks it.
import Derived.Test.YtomlhapehldlnaaPx0
import Derived.Test.YtomlhapehldlnaaPx1
import Derived.Test.YtomlhapehldlnaaPx41
import Derived.BigQuiet
namespace Go.Proofs.Ytomlhapehldlnaa.P
open Go.RowKit Go.Proofs.YtomlhapehldlnaaW.PrintWords Go.Proofs.YtomlhapehldlnaaW.PrintLast Go.Proofs.YtomlhapehldlnaaW.PrintMore
attribute [local go_sem] max2_int min2_int max_two min_two max_three min_three max_four min_four   -- for this text's walks alone
set_option linter.unusedVariables false
set_option linter.unusedSimpArgs false

/-GIVEN banksmanlaw10_SpanKeys-/
/-! ### banksmanlaw10_SpanKeys: function 5 -/
def KeysE (w : World) (oA oB : Obj) (W : World) : Prop := Below w.heap.size w W ∧ W.heap[w.heap.size]? = some oA ∧ W.heap[w.heap.size + 1]? = some oB
theorem KeysE.step {w W W1 : World} {oA oB : Obj} (h : KeysE w oA oB W) (hb : Below W.heap.size W W1) : KeysE w oA oB W1 := ⟨below_step h.1 hb, (hb.block _ (blk_lt h.2.1)).trans h.2.1, (hb.block _ (blk_lt h.2.2)).trans h.2.2⟩
theorem KeysE.start (w : World) (oA oB : Obj) : KeysE w oA oB ((w.alloc oA).alloc oB) := ⟨below_alloc (below_alloc (Below.refl _ _) _) _, blk_alloc (heap_alloc_new w oA) oB, by have := heap_alloc_new (w.alloc oA) oB; rwa [World.size_alloc] at this⟩
theorem KeysE.a {w W : World} {cs : Array Value} {t : TypeId} {oB : Obj} (h : KeysE w (.cells cs t (0, 0)) oB W) (i : Nat) : W.cell? ⟨w.heap.size, i, none⟩ = cs[i]? := blk_cell h.2.1 i
theorem KeysE.b {w W : World} {cs : Array Value} {t : TypeId} {oA : Obj} (h : KeysE w oA (.cells cs t (0, 0)) W) (i : Nat) : W.cell? ⟨w.heap.size + 1, i, none⟩ = cs[i]? := blk_cell h.2.2 i
def banksmanlaw10_SpanKeys.f (a0_0 : Int) (l0_1 : List Int) (l0_2 : List Int) (a0_3 : Bool) (a1_0 : Int) (l1_1 : List Int) (l1_2 : List Int) (a1_3 : Bool) (a2 : Int) (l3 : List Int) (l4 : List Int) : Option (Bool) := (banksmanlaw10_awake.f).bind fun up => (banksmanlaw10_short.f a0_0 l0_1 l0_2 a0_3).bind fun s1 => (banksmanlaw10_short.f a1_0 l1_1 l1_2 a1_3).bind fun s2 =>
  if s1 = true ∧ s2 = true ∧ l3.length ≤ 100 ∧ l4.length ≤ 100 then
    (span_In.f a0_0 l0_1 l0_2 a0_3 a2 l3).bind fun i => (span_In.f a1_0 l1_1 l1_2 a1_3 a2 l3).bind fun too => (span_Point.f a2 l3).bind fun q => (span_In.f q.1 q.2.1 q.2.2.1 q.2.2.2 a2 l4).bind fun al =>
    (span_Meets.f a0_0 l0_1 l0_2 a0_3 a1_0 l1_1 l1_2 a1_3).bind fun m1 => (span_Meets.f a1_0 l1_1 l1_2 a1_3 a0_0 l0_1 l0_2 a0_3).bind fun m2 => (span_Covers.f a0_0 l0_1 l0_2 a0_3 a1_0 l1_1 l1_2 a1_3).bind fun c1 =>
    (span_Covers.f a0_0 l0_1 l0_2 a0_3 a0_0 l0_1 l0_2 a0_3).bind fun c2 => (span_Empty.f a0_0 l0_1 l0_2 a0_3).bind fun em =>
      some (up && (!i || !too || m1) && (!c1 || !too || i) && (!em || !i) && (m1 == m2) && c2 && (al == ((strOfNums l3).toList == (strOfNums l4).toList)))
  else some up
set_option maxHeartbeats 8000000 in
set_option maxRecDepth 100000 in
theorem banksmanlaw10_SpanKeys.calls (a0_0 : Int) (A0_1 : Option Addr) (c0_1 : Nat) (l0_1 : List Int) (A0_2 : Option Addr) (c0_2 : Nat) (l0_2 : List Int) (a0_3 : Bool) (a1_0 : Int) (A1_1 : Option Addr) (c1_1 : Nat) (l1_1 : List Int) (A1_2 : Option Addr) (c1_2 : Nat) (l1_2 : List Int) (a1_3 : Bool) (a2 : Int) (A3 : Option Addr) (c3 : Nat) (l3 : List Int) (A4 : Option Addr) (c4 : Nat) (l4 : List Int) (r : Bool) (w : World) (hr0_1 : Kd.C (Kd.int .u8) w A0_1 l0_1.length l0_1) (hc0_1 : l0_1.length ≤ c0_1) (hr0_2 : Kd.C (Kd.int .u8) w A0_2 l0_2.length l0_2) (hc0_2 : l0_2.length ≤ c0_2) (hr1_1 : Kd.C (Kd.int .u8) w A1_1 l1_1.length l1_1) (hc1_1 : l1_1.length ≤ c1_1) (hr1_2 : Kd.C (Kd.int .u8) w A1_2 l1_2.length l1_2) (hc1_2 : l1_2.length ≤ c1_2) (hr3 : Kd.C (Kd.int .u8) w A3 l3.length l3) (hc3 : l3.length ≤ c3) (hr4 : Kd.C (Kd.int .u8) w A4 l4.length l4) (hc4 : l4.length ≤ c4) (h : banksmanlaw10_SpanKeys.f a0_0 l0_1 l0_2 a0_3 a1_0 l1_1 l1_2 a1_3 a2 l3 l4 = some r) (HTr_ : r = true) :
    Calls Try.prog 5 #[.agg #[.int .i64 a0_0, .slice A0_1 l0_1.length c0_1, .slice A0_2 l0_2.length c0_2, .bool a0_3], .agg #[.int .i64 a1_0, .slice A1_1 l1_1.length c1_1, .slice A1_2 l1_2.length c1_2, .bool a1_3], .int .i64 a2, .slice A3 l3.length c3, .slice A4 l4.length c4] w fun e w' => e = .returned (.bool r) ∧ Below w.heap.size w w' := by
  unfold banksmanlaw10_SpanKeys.f at h
  obtain ⟨up, hup, h⟩ := Option.bind_eq_some_iff.mp h
  obtain ⟨s1, hs1, h⟩ := Option.bind_eq_some_iff.mp h
  obtain ⟨s2, hs2, h⟩ := Option.bind_eq_some_iff.mp h
  obtain ⟨oA, hoA⟩ : ∃ o : Obj, o = .cells #[.int .i64 a0_0, .slice A0_1 l0_1.length c0_1, .slice A0_2 l0_2.length c0_2, .bool a0_3] 24 (0, 0) := ⟨_, rfl⟩
  obtain ⟨oB, hoB⟩ : ∃ o : Obj, o = .cells #[.int .i64 a1_0, .slice A1_1 l1_1.length c1_1, .slice A1_2 l1_2.length c1_2, .bool a1_3] 24 (0, 0) := ⟨_, rfl⟩
  have hAW : ∀ W, Calls Try.prog 8 #[] W fun e w' => e = .returned (.bool up) ∧ Below W.heap.size W w' := fun W => banksmanlaw10_awake.calls up W hup
  have hSA : ∀ W, KeysE w oA oB W → Calls Try.prog 9 #[.agg #[.int .i64 a0_0, .slice A0_1 l0_1.length c0_1, .slice A0_2 l0_2.length c0_2, .bool a0_3]] W fun e w' => e = .returned (.bool s1) ∧ Below W.heap.size W w' := fun W hE => banksmanlaw10_short.calls a0_0 A0_1 c0_1 l0_1 A0_2 c0_2 l0_2 a0_3 s1 W (Kd.C_below hr0_1 hE.1) hc0_1 (Kd.C_below hr0_2 hE.1) hc0_2 hs1
  have hSB : ∀ W, KeysE w oA oB W → Calls Try.prog 9 #[.agg #[.int .i64 a1_0, .slice A1_1 l1_1.length c1_1, .slice A1_2 l1_2.length c1_2, .bool a1_3]] W fun e w' => e = .returned (.bool s2) ∧ Below W.heap.size W w' := fun W hE => banksmanlaw10_short.calls a1_0 A1_1 c1_1 l1_1 A1_2 c1_2 l1_2 a1_3 s2 W (Kd.C_below hr1_1 hE.1) hc1_1 (Kd.C_below hr1_2 hE.1) hc1_2 hs2
  have hu := Try.underlying24
  subst hoA hoB
  cases s1 with
  | false =>
    rw [if_neg (by simp)] at h
    obtain rfl := Option.some.inj h
    clear h
    go_enter Try.func5, Try.ntmps5
    go_wp2_with (first | (go_at_call 8; (with_reducible refine (hAW _).mono ?_); rintro e w1 ⟨rfl, hb⟩; have HE1 := Aside0.mk ((KeysE.start w _ _).step hb); have za0 := (HE1.out.a 0).trans (show _ = some _ from rfl); have za1 := (HE1.out.a 1).trans (show _ = some _ from rfl); have za2 := (HE1.out.a 2).trans (show _ = some _ from rfl); have za3 := (HE1.out.a 3).trans (show _ = some _ from rfl); have zb0 := (HE1.out.b 0).trans (show _ = some _ from rfl); have zb1 := (HE1.out.b 1).trans (show _ = some _ from rfl); have zb2 := (HE1.out.b 2).trans (show _ = some _ from rfl); have zb3 := (HE1.out.b 3).trans (show _ = some _ from rfl); clear hb) | (go_at_call 9; (with_reducible refine (hSA _ HE1.out).mono ?_); rintro e w2 ⟨rfl, hb⟩; have HE2 := Aside0.mk (HE1.out.step hb); clear hb za0 za1 za2 za3 zb0 zb1 zb2 zb3; have za0 := (HE2.out.a 0).trans (show _ = some _ from rfl); have za1 := (HE2.out.a 1).trans (show _ = some _ from rfl); have za2 := (HE2.out.a 2).trans (show _ = some _ from rfl); have za3 := (HE2.out.a 3).trans (show _ = some _ from rfl); have zb0 := (HE2.out.b 0).trans (show _ = some _ from rfl); have zb1 := (HE2.out.b 1).trans (show _ = some _ from rfl); have zb2 := (HE2.out.b 2).trans (show _ = some _ from rfl); have zb3 := (HE2.out.b 3).trans (show _ = some _ from rfl)))
    go_ret
    exact ⟨by first | rfl | (simp [errW_none, errW_some] <;> rfl) | (simp [*, errW_none, errW_some] <;> rfl), HE2.out.1⟩
  | true =>
  cases s2 with
  | false =>
    rw [if_neg (by simp)] at h
    obtain rfl := Option.some.inj h
    clear h
    go_enter Try.func5, Try.ntmps5
    go_wp2_with (first | (go_at_call 8; (with_reducible refine (hAW _).mono ?_); rintro e w1 ⟨rfl, hb⟩; have HE1 := Aside0.mk ((KeysE.start w _ _).step hb); have za0 := (HE1.out.a 0).trans (show _ = some _ from rfl); have za1 := (HE1.out.a 1).trans (show _ = some _ from rfl); have za2 := (HE1.out.a 2).trans (show _ = some _ from rfl); have za3 := (HE1.out.a 3).trans (show _ = some _ from rfl); have zb0 := (HE1.out.b 0).trans (show _ = some _ from rfl); have zb1 := (HE1.out.b 1).trans (show _ = some _ from rfl); have zb2 := (HE1.out.b 2).trans (show _ = some _ from rfl); have zb3 := (HE1.out.b 3).trans (show _ = some _ from rfl); clear hb) | (go_at_call 9; (with_reducible refine (hSA _ HE1.out).mono ?_); rintro e w2 ⟨rfl, hb⟩; have HE2 := Aside0.mk (HE1.out.step hb); clear hb za0 za1 za2 za3 zb0 zb1 zb2 zb3; have za0 := (HE2.out.a 0).trans (show _ = some _ from rfl); have za1 := (HE2.out.a 1).trans (show _ = some _ from rfl); have za2 := (HE2.out.a 2).trans (show _ = some _ from rfl); have za3 := (HE2.out.a 3).trans (show _ = some _ from rfl); have zb0 := (HE2.out.b 0).trans (show _ = some _ from rfl); have zb1 := (HE2.out.b 1).trans (show _ = some _ from rfl); have zb2 := (HE2.out.b 2).trans (show _ = some _ from rfl); have zb3 := (HE2.out.b 3).trans (show _ = some _ from rfl)) | (go_at_call 9; (with_reducible refine (hSB _ HE2.out).mono ?_); rintro e w3 ⟨rfl, hb⟩; have HE3 := Aside0.mk (HE2.out.step hb); clear hb za0 za1 za2 za3 zb0 zb1 zb2 zb3; have za0 := (HE3.out.a 0).trans (show _ = some _ from rfl); have za1 := (HE3.out.a 1).trans (show _ = some _ from rfl); have za2 := (HE3.out.a 2).trans (show _ = some _ from rfl); have za3 := (HE3.out.a 3).trans (show _ = some _ from rfl); have zb0 := (HE3.out.b 0).trans (show _ = some _ from rfl); have zb1 := (HE3.out.b 1).trans (show _ = some _ from rfl); have zb2 := (HE3.out.b 2).trans (show _ = some _ from rfl); have zb3 := (HE3.out.b 3).trans (show _ = some _ from rfl)))
    go_ret
    exact ⟨by first | rfl | (simp [errW_none, errW_some] <;> rfl) | (simp [*, errW_none, errW_some] <;> rfl), HE3.out.1⟩
  | true =>
  by_cases hl3 : l3.length ≤ 100
  case neg =>
    rw [if_neg (by rintro ⟨_, _, h3, _⟩; exact hl3 h3)] at h
    obtain rfl := Option.some.inj h
    clear h
    have hl3' : decide ((100 : Int) < (l3.length : Int)) = true := decide_eq_true (by omega)
    have hl3'' : decide (100 < l3.length) = true := decide_eq_true (by omega)
    clear hl3
    go_enter Try.func5, Try.ntmps5
    go_wp2_with (first | (go_at_call 8; (with_reducible refine (hAW _).mono ?_); rintro e w1 ⟨rfl, hb⟩; have HE1 := Aside0.mk ((KeysE.start w _ _).step hb); have za0 := (HE1.out.a 0).trans (show _ = some _ from rfl); have za1 := (HE1.out.a 1).trans (show _ = some _ from rfl); have za2 := (HE1.out.a 2).trans (show _ = some _ from rfl); have za3 := (HE1.out.a 3).trans (show _ = some _ from rfl); have zb0 := (HE1.out.b 0).trans (show _ = some _ from rfl); have zb1 := (HE1.out.b 1).trans (show _ = some _ from rfl); have zb2 := (HE1.out.b 2).trans (show _ = some _ from rfl); have zb3 := (HE1.out.b 3).trans (show _ = some _ from rfl); clear hb) | (go_at_call 9; (with_reducible refine (hSA _ HE1.out).mono ?_); rintro e w2 ⟨rfl, hb⟩; have HE2 := Aside0.mk (HE1.out.step hb); clear hb za0 za1 za2 za3 zb0 zb1 zb2 zb3; have za0 := (HE2.out.a 0).trans (show _ = some _ from rfl); have za1 := (HE2.out.a 1).trans (show _ = some _ from rfl); have za2 := (HE2.out.a 2).trans (show _ = some _ from rfl); have za3 := (HE2.out.a 3).trans (show _ = some _ from rfl); have zb0 := (HE2.out.b 0).trans (show _ = some _ from rfl); have zb1 := (HE2.out.b 1).trans (show _ = some _ from rfl); have zb2 := (HE2.out.b 2).trans (show _ = some _ from rfl); have zb3 := (HE2.out.b 3).trans (show _ = some _ from rfl)) | (go_at_call 9; (with_reducible refine (hSB _ HE2.out).mono ?_); rintro e w3 ⟨rfl, hb⟩; have HE3 := Aside0.mk (HE2.out.step hb); clear hb za0 za1 za2 za3 zb0 zb1 zb2 zb3; have za0 := (HE3.out.a 0).trans (show _ = some _ from rfl); have za1 := (HE3.out.a 1).trans (show _ = some _ from rfl); have za2 := (HE3.out.a 2).trans (show _ = some _ from rfl); have za3 := (HE3.out.a 3).trans (show _ = some _ from rfl); have zb0 := (HE3.out.b 0).trans (show _ = some _ from rfl); have zb1 := (HE3.out.b 1).trans (show _ = some _ from rfl); have zb2 := (HE3.out.b 2).trans (show _ = some _ from rfl); have zb3 := (HE3.out.b 3).trans (show _ = some _ from rfl)))
    go_ret
    exact ⟨by first | rfl | (simp [errW_none, errW_some] <;> rfl) | (simp [*, errW_none, errW_some] <;> rfl), HE3.out.1⟩
  by_cases hl4 : l4.length ≤ 100
  case neg =>
    rw [if_neg (by rintro ⟨_, _, _, h4⟩; exact hl4 h4)] at h
    obtain rfl := Option.some.inj h
    clear h
    have hl3' : decide ((100 : Int) < (l3.length : Int)) = false := decide_eq_false (by omega)
    have hl3'' : decide (100 < l3.length) = false := decide_eq_false (by omega)
    have hl4' : decide ((100 : Int) < (l4.length : Int)) = true := decide_eq_true (by omega)
    have hl4'' : decide (100 < l4.length) = true := decide_eq_true (by omega)
    clear hl3 hl4
    go_enter Try.func5, Try.ntmps5
    go_wp2_with (first | (go_at_call 8; (with_reducible refine (hAW _).mono ?_); rintro e w1 ⟨rfl, hb⟩; have HE1 := Aside0.mk ((KeysE.start w _ _).step hb); have za0 := (HE1.out.a 0).trans (show _ = some _ from rfl); have za1 := (HE1.out.a 1).trans (show _ = some _ from rfl); have za2 := (HE1.out.a 2).trans (show _ = some _ from rfl); have za3 := (HE1.out.a 3).trans (show _ = some _ from rfl); have zb0 := (HE1.out.b 0).trans (show _ = some _ from rfl); have zb1 := (HE1.out.b 1).trans (show _ = some _ from rfl); have zb2 := (HE1.out.b 2).trans (show _ = some _ from rfl); have zb3 := (HE1.out.b 3).trans (show _ = some _ from rfl); clear hb) | (go_at_call 9; (with_reducible refine (hSA _ HE1.out).mono ?_); rintro e w2 ⟨rfl, hb⟩; have HE2 := Aside0.mk (HE1.out.step hb); clear hb za0 za1 za2 za3 zb0 zb1 zb2 zb3; have za0 := (HE2.out.a 0).trans (show _ = some _ from rfl); have za1 := (HE2.out.a 1).trans (show _ = some _ from rfl); have za2 := (HE2.out.a 2).trans (show _ = some _ from rfl); have za3 := (HE2.out.a 3).trans (show _ = some _ from rfl); have zb0 := (HE2.out.b 0).trans (show _ = some _ from rfl); have zb1 := (HE2.out.b 1).trans (show _ = some _ from rfl); have zb2 := (HE2.out.b 2).trans (show _ = some _ from rfl); have zb3 := (HE2.out.b 3).trans (show _ = some _ from rfl)) | (go_at_call 9; (with_reducible refine (hSB _ HE2.out).mono ?_); rintro e w3 ⟨rfl, hb⟩; have HE3 := Aside0.mk (HE2.out.step hb); clear hb za0 za1 za2 za3 zb0 zb1 zb2 zb3; have za0 := (HE3.out.a 0).trans (show _ = some _ from rfl); have za1 := (HE3.out.a 1).trans (show _ = some _ from rfl); have za2 := (HE3.out.a 2).trans (show _ = some _ from rfl); have za3 := (HE3.out.a 3).trans (show _ = some _ from rfl); have zb0 := (HE3.out.b 0).trans (show _ = some _ from rfl); have zb1 := (HE3.out.b 1).trans (show _ = some _ from rfl); have zb2 := (HE3.out.b 2).trans (show _ = some _ from rfl); have zb3 := (HE3.out.b 3).trans (show _ = some _ from rfl)))
    go_ret
    exact ⟨by first | rfl | (simp [errW_none, errW_some] <;> rfl) | (simp [*, errW_none, errW_some] <;> rfl), HE3.out.1⟩
  rw [if_pos ⟨rfl, rfl, hl3, hl4⟩] at h
  obtain ⟨i, hi, h⟩ := Option.bind_eq_some_iff.mp h
  obtain ⟨too, htoo, h⟩ := Option.bind_eq_some_iff.mp h
  obtain ⟨⟨q1, q2, q3, q4⟩, hq, h⟩ := Option.bind_eq_some_iff.mp h
  obtain ⟨al, hal, h⟩ := Option.bind_eq_some_iff.mp h
  obtain ⟨m1, hm1, h⟩ := Option.bind_eq_some_iff.mp h
  obtain ⟨m2, hm2, h⟩ := Option.bind_eq_some_iff.mp h
  obtain ⟨c1, hc1, h⟩ := Option.bind_eq_some_iff.mp h
  obtain ⟨c2, hc2, h⟩ := Option.bind_eq_some_iff.mp h
  obtain ⟨em, hem, h⟩ := Option.bind_eq_some_iff.mp h
  have hIa : ∀ W, KeysE w (.cells #[.int .i64 a0_0, .slice A0_1 l0_1.length c0_1, .slice A0_2 l0_2.length c0_2, .bool a0_3] 24 (0, 0)) (.cells #[.int .i64 a1_0, .slice A1_1 l1_1.length c1_1, .slice A1_2 l1_2.length c1_2, .bool a1_3] 24 (0, 0)) W → Calls Try.prog 18 #[.agg #[.int .i64 a0_0, .slice A0_1 l0_1.length c0_1, .slice A0_2 l0_2.length c0_2, .bool a0_3], .int .i64 a2, .slice A3 l3.length c3] W fun e w' => e = .returned (.bool i) ∧ Below W.heap.size W w' := fun W hE => span_In.calls a0_0 A0_1 c0_1 l0_1 A0_2 c0_2 l0_2 a0_3 a2 A3 c3 l3 i W (Kd.C_below hr0_1 hE.1) hc0_1 (Kd.C_below hr0_2 hE.1) hc0_2 (Kd.C_below hr3 hE.1) hc3 hi
  have hIb : ∀ W, KeysE w (.cells #[.int .i64 a0_0, .slice A0_1 l0_1.length c0_1, .slice A0_2 l0_2.length c0_2, .bool a0_3] 24 (0, 0)) (.cells #[.int .i64 a1_0, .slice A1_1 l1_1.length c1_1, .slice A1_2 l1_2.length c1_2, .bool a1_3] 24 (0, 0)) W → Calls Try.prog 18 #[.agg #[.int .i64 a1_0, .slice A1_1 l1_1.length c1_1, .slice A1_2 l1_2.length c1_2, .bool a1_3], .int .i64 a2, .slice A3 l3.length c3] W fun e w' => e = .returned (.bool too) ∧ Below W.heap.size W w' := fun W hE => span_In.calls a1_0 A1_1 c1_1 l1_1 A1_2 c1_2 l1_2 a1_3 a2 A3 c3 l3 too W (Kd.C_below hr1_1 hE.1) hc1_1 (Kd.C_below hr1_2 hE.1) hc1_2 (Kd.C_below hr3 hE.1) hc3 htoo
  have hMab : ∀ W, KeysE w (.cells #[.int .i64 a0_0, .slice A0_1 l0_1.length c0_1, .slice A0_2 l0_2.length c0_2, .bool a0_3] 24 (0, 0)) (.cells #[.int .i64 a1_0, .slice A1_1 l1_1.length c1_1, .slice A1_2 l1_2.length c1_2, .bool a1_3] 24 (0, 0)) W → Calls Try.prog 20 #[.agg #[.int .i64 a0_0, .slice A0_1 l0_1.length c0_1, .slice A0_2 l0_2.length c0_2, .bool a0_3], .agg #[.int .i64 a1_0, .slice A1_1 l1_1.length c1_1, .slice A1_2 l1_2.length c1_2, .bool a1_3]] W fun e w' => e = .returned (.bool m1) ∧ Below W.heap.size W w' := fun W hE => span_Meets.calls a0_0 A0_1 c0_1 l0_1 A0_2 c0_2 l0_2 a0_3 a1_0 A1_1 c1_1 l1_1 A1_2 c1_2 l1_2 a1_3 m1 W (Kd.C_below hr0_1 hE.1) hc0_1 (Kd.C_below hr0_2 hE.1) hc0_2 (Kd.C_below hr1_1 hE.1) hc1_1 (Kd.C_below hr1_2 hE.1) hc1_2 hm1
  have hMba : ∀ W, KeysE w (.cells #[.int .i64 a0_0, .slice A0_1 l0_1.length c0_1, .slice A0_2 l0_2.length c0_2, .bool a0_3] 24 (0, 0)) (.cells #[.int .i64 a1_0, .slice A1_1 l1_1.length c1_1, .slice A1_2 l1_2.length c1_2, .bool a1_3] 24 (0, 0)) W → Calls Try.prog 20 #[.agg #[.int .i64 a1_0, .slice A1_1 l1_1.length c1_1, .slice A1_2 l1_2.length c1_2, .bool a1_3], .agg #[.int .i64 a0_0, .slice A0_1 l0_1.length c0_1, .slice A0_2 l0_2.length c0_2, .bool a0_3]] W fun e w' => e = .returned (.bool m2) ∧ Below W.heap.size W w' := fun W hE => span_Meets.calls a1_0 A1_1 c1_1 l1_1 A1_2 c1_2 l1_2 a1_3 a0_0 A0_1 c0_1 l0_1 A0_2 c0_2 l0_2 a0_3 m2 W (Kd.C_below hr1_1 hE.1) hc1_1 (Kd.C_below hr1_2 hE.1) hc1_2 (Kd.C_below hr0_1 hE.1) hc0_1 (Kd.C_below hr0_2 hE.1) hc0_2 hm2
  have hCab : ∀ W, KeysE w (.cells #[.int .i64 a0_0, .slice A0_1 l0_1.length c0_1, .slice A0_2 l0_2.length c0_2, .bool a0_3] 24 (0, 0)) (.cells #[.int .i64 a1_0, .slice A1_1 l1_1.length c1_1, .slice A1_2 l1_2.length c1_2, .bool a1_3] 24 (0, 0)) W → Calls Try.prog 22 #[.agg #[.int .i64 a0_0, .slice A0_1 l0_1.length c0_1, .slice A0_2 l0_2.length c0_2, .bool a0_3], .agg #[.int .i64 a1_0, .slice A1_1 l1_1.length c1_1, .slice A1_2 l1_2.length c1_2, .bool a1_3]] W fun e w' => e = .returned (.bool c1) ∧ Below W.heap.size W w' := fun W hE => span_Covers.calls a0_0 A0_1 c0_1 l0_1 A0_2 c0_2 l0_2 a0_3 a1_0 A1_1 c1_1 l1_1 A1_2 c1_2 l1_2 a1_3 c1 W (Kd.C_below hr0_1 hE.1) hc0_1 (Kd.C_below hr0_2 hE.1) hc0_2 (Kd.C_below hr1_1 hE.1) hc1_1 (Kd.C_below hr1_2 hE.1) hc1_2 hc1
  have hCaa : ∀ W, KeysE w (.cells #[.int .i64 a0_0, .slice A0_1 l0_1.length c0_1, .slice A0_2 l0_2.length c0_2, .bool a0_3] 24 (0, 0)) (.cells #[.int .i64 a1_0, .slice A1_1 l1_1.length c1_1, .slice A1_2 l1_2.length c1_2, .bool a1_3] 24 (0, 0)) W → Calls Try.prog 22 #[.agg #[.int .i64 a0_0, .slice A0_1 l0_1.length c0_1, .slice A0_2 l0_2.length c0_2, .bool a0_3], .agg #[.int .i64 a0_0, .slice A0_1 l0_1.length c0_1, .slice A0_2 l0_2.length c0_2, .bool a0_3]] W fun e w' => e = .returned (.bool c2) ∧ Below W.heap.size W w' := fun W hE => span_Covers.calls a0_0 A0_1 c0_1 l0_1 A0_2 c0_2 l0_2 a0_3 a0_0 A0_1 c0_1 l0_1 A0_2 c0_2 l0_2 a0_3 c2 W (Kd.C_below hr0_1 hE.1) hc0_1 (Kd.C_below hr0_2 hE.1) hc0_2 (Kd.C_below hr0_1 hE.1) hc0_1 (Kd.C_below hr0_2 hE.1) hc0_2 hc2
  have hEm : ∀ W, KeysE w (.cells #[.int .i64 a0_0, .slice A0_1 l0_1.length c0_1, .slice A0_2 l0_2.length c0_2, .bool a0_3] 24 (0, 0)) (.cells #[.int .i64 a1_0, .slice A1_1 l1_1.length c1_1, .slice A1_2 l1_2.length c1_2, .bool a1_3] 24 (0, 0)) W → Calls Try.prog 16 #[.agg #[.int .i64 a0_0, .slice A0_1 l0_1.length c0_1, .slice A0_2 l0_2.length c0_2, .bool a0_3]] W fun e w' => e = .returned (.bool em) ∧ Below W.heap.size W w' := fun W hE => span_Empty.calls a0_0 A0_1 c0_1 l0_1 A0_2 c0_2 l0_2 a0_3 em W (Kd.C_below hr0_1 hE.1) hc0_1 (Kd.C_below hr0_2 hE.1) hc0_2 hem
  have hcv : ∀ W, KeysE w (.cells #[.int .i64 a0_0, .slice A0_1 l0_1.length c0_1, .slice A0_2 l0_2.length c0_2, .bool a0_3] 24 (0, 0)) (.cells #[.int .i64 a1_0, .slice A1_1 l1_1.length c1_1, .slice A1_2 l1_2.length c1_2, .bool a1_3] 24 (0, 0)) W → (convert 22 9 (.slice A3 l3.length c3)).run Try.prog W = .ok (.string (strOfNums l3)) W ∧ (convert 22 9 (.slice A4 l4.length c4)).run Try.prog W = .ok (.string (strOfNums l4)) W := fun W hE =>
    ⟨Kd.C_string (P := Try.prog) (A := A3) (c := c3) Try.underlying22 Try.underlying5 Try.underlying9 (Kd.C_below hr3 hE.1), Kd.C_string (P := Try.prog) (A := A4) (c := c4) Try.underlying22 Try.underlying5 Try.underlying9 (Kd.C_below hr4 hE.1)⟩
  have hIn : ∀ W (B : Nat) (v1 v2 : Value), KeysE w (.cells #[.int .i64 a0_0, .slice A0_1 l0_1.length c0_1, .slice A0_2 l0_2.length c0_2, .bool a0_3] 24 (0, 0)) (.cells #[.int .i64 a1_0, .slice A1_1 l1_1.length c1_1, .slice A1_2 l1_2.length c1_2, .bool a1_3] 24 (0, 0)) W → Kd.R (Kd.int .u8) 5 W B (fun k_ => some k_ ≠ (v2 : Value).ownBlock) v1 q2 → Kd.R (Kd.int .u8) 5 W B (fun k_ => some k_ ≠ (v1 : Value).ownBlock) v2 q3 → Calls Try.prog 18 #[.agg #[.int .i64 q1, v1, v2, .bool q4], .int .i64 a2, .slice A4 l4.length c4] W fun e w' => e = .returned (.bool al) ∧ Below W.heap.size W w' := fun W B v1 v2 hE h1 h2 => by
    obtain ⟨B1, d1, rfl⟩ := Kd.R_slice h1
    obtain ⟨B2, d2, rfl⟩ := Kd.R_slice h2
    exact span_In.calls q1 B1 d1 q2 B2 d2 q3 q4 a2 A4 c4 l4 al W (Kd.R_reads' h1).2.2 (Kd.R_reads' h1).2.1 (Kd.R_reads' h2).2.2 (Kd.R_reads' h2).2.1 (Kd.C_below hr4 hE.1) hc4 hal
  have hPt := fun W hE => span_Point.calls a2 A3 c3 l3 q1 q2 q3 q4 W (Kd.C_below (w1 := W) hr3 (show KeysE w (.cells #[.int .i64 a0_0, .slice A0_1 l0_1.length c0_1, .slice A0_2 l0_2.length c0_2, .bool a0_3] 24 (0, 0)) (.cells #[.int .i64 a1_0, .slice A1_1 l1_1.length c1_1, .slice A1_2 l1_2.length c1_2, .bool a1_3] 24 (0, 0)) W from hE).1) hc3 hq
  have hl3' : decide ((100 : Int) < (l3.length : Int)) = false := decide_eq_false (by omega)
  have hl3'' : decide (100 < l3.length) = false := decide_eq_false (by omega)
  have hl4' : decide ((100 : Int) < (l4.length : Int)) = false := decide_eq_false (by omega)
  have hl4'' : decide (100 < l4.length) = false := decide_eq_false (by omega)
  have HH := (Option.some.inj h).trans HTr_
  obtain rfl := HTr_
  simp only [Bool.and_eq_true] at HH
  obtain ⟨⟨⟨⟨⟨⟨rfl, g1⟩, g2⟩, g3⟩, g4⟩, rfl⟩, hal'⟩ := HH
  obtain rfl : m1 = m2 := by simpa using g4
  have G1 := Aside0.mk g1
  have G2 := Aside0.mk g2
  have G3 := Aside0.mk g3
  clear g1 g2 g3 g4
  clear h hl3 hl4 hup hs1 hs2 hi htoo hq hal hm1 hm2 hc1 hc2 hem hr0_1 hr0_2 hr1_1 hr1_2 hr3 hr4
  go_enter Try.func5, Try.ntmps5
  go_wp2_with (first | (go_at_call 8; (with_reducible refine (hAW _).mono ?_); rintro e w1 ⟨rfl, hb⟩; have HE1 := Aside0.mk ((KeysE.start w _ _).step hb); have za0 := (HE1.out.a 0).trans (show _ = some _ from rfl); have za1 := (HE1.out.a 1).trans (show _ = some _ from rfl); have za2 := (HE1.out.a 2).trans (show _ = some _ from rfl); have za3 := (HE1.out.a 3).trans (show _ = some _ from rfl); have zb0 := (HE1.out.b 0).trans (show _ = some _ from rfl); have zb1 := (HE1.out.b 1).trans (show _ = some _ from rfl); have zb2 := (HE1.out.b 2).trans (show _ = some _ from rfl); have zb3 := (HE1.out.b 3).trans (show _ = some _ from rfl); clear hb) | (go_at_call 9; (with_reducible refine (hSA _ HE1.out).mono ?_); rintro e w2 ⟨rfl, hb⟩; have HE2 := Aside0.mk (HE1.out.step hb); clear hb za0 za1 za2 za3 zb0 zb1 zb2 zb3; have za0 := (HE2.out.a 0).trans (show _ = some _ from rfl); have za1 := (HE2.out.a 1).trans (show _ = some _ from rfl); have za2 := (HE2.out.a 2).trans (show _ = some _ from rfl); have za3 := (HE2.out.a 3).trans (show _ = some _ from rfl); have zb0 := (HE2.out.b 0).trans (show _ = some _ from rfl); have zb1 := (HE2.out.b 1).trans (show _ = some _ from rfl); have zb2 := (HE2.out.b 2).trans (show _ = some _ from rfl); have zb3 := (HE2.out.b 3).trans (show _ = some _ from rfl)) | (go_at_call 9; (with_reducible refine (hSB _ HE2.out).mono ?_); rintro e w3 ⟨rfl, hb⟩; have HE3 := Aside0.mk (HE2.out.step hb); clear hb za0 za1 za2 za3 zb0 zb1 zb2 zb3; have za0 := (HE3.out.a 0).trans (show _ = some _ from rfl); have za1 := (HE3.out.a 1).trans (show _ = some _ from rfl); have za2 := (HE3.out.a 2).trans (show _ = some _ from rfl); have za3 := (HE3.out.a 3).trans (show _ = some _ from rfl); have zb0 := (HE3.out.b 0).trans (show _ = some _ from rfl); have zb1 := (HE3.out.b 1).trans (show _ = some _ from rfl); have zb2 := (HE3.out.b 2).trans (show _ = some _ from rfl); have zb3 := (HE3.out.b 3).trans (show _ = some _ from rfl)) | (go_at_call 18; (with_reducible refine (hIa _ HE3.out).mono ?_); rintro e w4 ⟨rfl, hb⟩; have HE4 := Aside0.mk (HE3.out.step hb); clear hb za0 za1 za2 za3 zb0 zb1 zb2 zb3; have za0 := (HE4.out.a 0).trans (show _ = some _ from rfl); have za1 := (HE4.out.a 1).trans (show _ = some _ from rfl); have za2 := (HE4.out.a 2).trans (show _ = some _ from rfl); have za3 := (HE4.out.a 3).trans (show _ = some _ from rfl); have zb0 := (HE4.out.b 0).trans (show _ = some _ from rfl); have zb1 := (HE4.out.b 1).trans (show _ = some _ from rfl); have zb2 := (HE4.out.b 2).trans (show _ = some _ from rfl); have zb3 := (HE4.out.b 3).trans (show _ = some _ from rfl)) | (go_at_call 18; (with_reducible refine (hIb _ HE4.out).mono ?_); rintro e w5 ⟨rfl, hb⟩; have HE5 := Aside0.mk (HE4.out.step hb); clear hb za0 za1 za2 za3 zb0 zb1 zb2 zb3; have za0 := (HE5.out.a 0).trans (show _ = some _ from rfl); have za1 := (HE5.out.a 1).trans (show _ = some _ from rfl); have za2 := (HE5.out.a 2).trans (show _ = some _ from rfl); have za3 := (HE5.out.a 3).trans (show _ = some _ from rfl); have zb0 := (HE5.out.b 0).trans (show _ = some _ from rfl); have zb1 := (HE5.out.b 1).trans (show _ = some _ from rfl); have zb2 := (HE5.out.b 2).trans (show _ = some _ from rfl); have zb3 := (HE5.out.b 3).trans (show _ = some _ from rfl)))
  have HE6 := Aside0.mk (HE5.out.step (below_drew1 (Below.refl _ _)))
  refine start_ (n := 13) (S := fun w' => (convert 22 9 (.slice A3 l3.length c3)).run Try.prog w' = .ok (.string (strOfNums l3)) w' ∧ (convert 22 9 (.slice A4 l4.length c4)).run Try.prog w' = .ok (.string (strOfNums l4)) w') (ds := []) #[false, false, false, false, false, false, false, false, false, false, false, false, false] (by kernel_rfl) rfl rfl (hcv _ HE6.out) (fun hHeld => ?_)
  clear za0 za1 za2 za3 zb0 zb1 zb2 zb3
  generalize w5.drew = w6 at HE6 hHeld ⊢
  refine pure_ (i := 0) (N := some 43) (v := ?_) (a' := ?_) #[true, false, false, false, false, false, false, false, false, false, false, false, false] rfl rfl (by kernel_rfl) (fun _ _ _ h => h) (Or.inl ⟨by rfl, ?_⟩) ?_ ?_
  rotate_left
  · intro w'
    go_simp
    with_reducible rfl
  rotate_left
  · simp only [Act.put, List.setIfInBounds_toArray, List.set_cons_zero, List.set_cons_succ]
    rfl
  refine pure_ (i := 1) (N := some 44) (v := ?_) (a' := ?_) #[true, true, false, false, false, false, false, false, false, false, false, false, false] rfl rfl (by kernel_rfl) (fun _ _ _ h => h) (Or.inl ⟨by rfl, ?_⟩) ?_ ?_
  rotate_left
  · intro w'
    go_simp
    with_reducible rfl
  rotate_left
  · simp only [Act.put, List.setIfInBounds_toArray, List.set_cons_zero, List.set_cons_succ]
    rfl
  refine pure_ (i := 3) (N := some 46) (v := ?_) (a' := ?_) #[true, true, false, true, false, false, false, false, false, false, false, false, false] rfl rfl (by kernel_rfl) (fun _ _ _ h => h) (Or.inl ⟨by rfl, ?_⟩) ?_ ?_
  rotate_left
  · intro w'
    go_simp
    with_reducible rfl
  rotate_left
  · simp only [Act.put, List.setIfInBounds_toArray, List.set_cons_zero, List.set_cons_succ]
    rfl
  refine pure_ (i := 4) (N := some 47) (v := ?_) (a' := ?_) #[true, true, false, true, true, false, false, false, false, false, false, false, false] rfl rfl (by kernel_rfl) (fun _ _ _ h => h) (Or.inl ⟨by rfl, ?_⟩) ?_ ?_
  rotate_left
  · intro w'
    go_simp
    with_reducible rfl
  rotate_left
  · simp only [Act.put, List.setIfInBounds_toArray, List.set_cons_zero, List.set_cons_succ]
    rfl
  refine pure_ (i := 6) (N := some 49) (v := ?_) (a' := ?_) #[true, true, false, true, true, false, true, false, false, false, false, false, false] rfl rfl (by kernel_rfl) (fun _ _ _ h => h) (Or.inl ⟨by rfl, ?_⟩) ?_ ?_
  rotate_left
  · intro w'
    go_simp
    with_reducible rfl
  rotate_left
  · simp only [Act.put, List.setIfInBounds_toArray, List.set_cons_zero, List.set_cons_succ]
    rfl
  refine pure_ (i := 8) (N := some 51) (v := ?_) (a' := ?_) #[true, true, false, true, true, false, true, false, true, false, false, false, false] rfl rfl (by kernel_rfl) (fun _ _ _ h => h) (Or.inl ⟨by rfl, ?_⟩) ?_ ?_
  rotate_left
  · intro w'
    go_simp
    with_reducible rfl
  rotate_left
  · simp only [Act.put, List.setIfInBounds_toArray, List.set_cons_zero, List.set_cons_succ]
    rfl
  refine take_ (i := 7) (N := some 50) (v := ?_) (a' := ?_) #[true, true, false, true, true, false, true, true, true, false, false, false, false] rfl rfl (by kernel_rfl) (fun _ _ _ h => h) (Or.inl ⟨by rfl, ?_⟩) hHeld ?_ ?_
  rotate_left
  · rintro w' ⟨s0, s1⟩
    go_simp
    with_reducible rfl
  rotate_left
  · simp only [Act.put, List.setIfInBounds_toArray, List.set_cons_zero, List.set_cons_succ]
    rfl
  refine take_ (i := 9) (N := some 52) (v := ?_) (a' := ?_) #[true, true, false, true, true, false, true, true, true, true, false, false, false] rfl rfl (by kernel_rfl) (fun _ _ _ h => h) (Or.inl ⟨by rfl, ?_⟩) hHeld ?_ ?_
  rotate_left
  · rintro w' ⟨s0, s1⟩
    go_simp
    with_reducible rfl
  rotate_left
  · simp only [Act.put, List.setIfInBounds_toArray, List.set_cons_zero, List.set_cons_succ]
    rfl
  refine pure_ (i := 10) (N := some 53) (v := ?_) (a' := ?_) #[true, true, false, true, true, false, true, true, true, true, true, false, false] rfl rfl (by kernel_rfl) (fun _ _ _ h => h) (Or.inl ⟨by rfl, ?_⟩) ?_ ?_
  rotate_left
  · intro w'
    go_simp
    with_reducible rfl
  rotate_left
  · simp only [Act.put, List.setIfInBounds_toArray, List.set_cons_zero, List.set_cons_succ]
    rfl
  refine one_ (i := 2) (N := some 45) #[true, true, true, true, true, false, true, true, true, true, true, false, false] rfl rfl (by kernel_rfl) (by decide) (fun K hK => ?_)
  refine goes_ Try.func11 (by kernel_rfl) rfl #[.int .i64 a2, .slice A3 l3.length c3] (by rfl) rfl rfl (by (try simp only [List.map_toArray, List.map_cons, List.map_nil]); first | done | rfl) ?_
  refine (hPt _ HE6.out).mono ?_
  rintro e w7 ⟨v1, v2, rfl, h1, h2, hb⟩
  have HE7 := Aside0.mk (HE6.out.step hb)
  have H1 := Aside0.mk h1
  have H2 := Aside0.mk h2
  clear h1 h2 hb
  refine ⟨_, rfl, ?_⟩
  refine hK.out _ _ (hcv _ HE7.out) (fun hHeld => ?_)
  clear hK K
  refine norm_ (a' := ?_) ?_ ?_
  rotate_left
  · show Act.put _ (some 45) _ = _
    simp only [Act.put, List.setIfInBounds_toArray, List.set_cons_zero, List.set_cons_succ]
    rfl
  refine one_ (i := 5) (N := some 48) #[true, true, true, true, true, true, true, true, true, true, true, false, false] rfl rfl (by kernel_rfl) (by decide) (fun K hK => ?_)
  refine goes_ Try.func18 (by kernel_rfl) rfl #[.agg #[.int .i64 q1, v1, v2, .bool q4], .int .i64 a2, .slice A4 l4.length c4] (by rfl) rfl rfl (by (try simp only [List.map_toArray, List.map_cons, List.map_nil]); first | done | rfl) ?_
  refine (hIn _ _ v1 v2 HE7.out H1.out H2.out).mono ?_
  rintro e w8 ⟨rfl, hb⟩
  have HE8 := Aside0.mk (HE7.out.step hb)
  clear hb
  refine ⟨_, rfl, ?_⟩
  refine hK.out _ _ (hcv _ HE8.out) (fun hHeld => ?_)
  clear hK K
  refine norm_ (a' := ?_) ?_ ?_
  rotate_left
  · show Act.put _ (some 48) _ = _
    simp only [Act.put, List.setIfInBounds_toArray, List.set_cons_zero, List.set_cons_succ]
    rfl
  refine pure_ (i := 11) (N := some 54) (v := ?_) (a' := ?_) #[true, true, true, true, true, true, true, true, true, true, true, true, false] rfl rfl (by kernel_rfl) (fun _ _ _ h => h) (Or.inl ⟨by rfl, ?_⟩) ?_ ?_
  rotate_left
  · intro w'
    go_simp
    with_reducible rfl
  rotate_left
  · simp only [Act.put, List.setIfInBounds_toArray, List.set_cons_zero, List.set_cons_succ]
    rfl
  refine pure_ (i := 12) (N := some 14) (v := ?_) (a' := ?_) #[true, true, true, true, true, true, true, true, true, true, true, true, true] rfl rfl (by kernel_rfl) (fun _ _ _ h => h) (Or.inl ⟨by rfl, ?_⟩) ?_ ?_
  rotate_left
  · intro w'
    go_simp
    with_reducible rfl
  rotate_left
  · simp only [Act.put, List.setIfInBounds_toArray, List.set_cons_zero, List.set_cons_succ]
    rfl
  refine done_ (by kernel_rfl) ?_
  clear hHeld
  have za0 : ∀ q : Past w8, q.W.cell? ⟨w.heap.size, 0, none⟩ = some (.int .i64 a0_0) := fun q => past_cell q HE8.out.2.1 rfl
  have za1 : ∀ q : Past w8, q.W.cell? ⟨w.heap.size, 1, none⟩ = some (.slice A0_1 l0_1.length c0_1) := fun q => past_cell q HE8.out.2.1 rfl
  have za2 : ∀ q : Past w8, q.W.cell? ⟨w.heap.size, 2, none⟩ = some (.slice A0_2 l0_2.length c0_2) := fun q => past_cell q HE8.out.2.1 rfl
  have za3 : ∀ q : Past w8, q.W.cell? ⟨w.heap.size, 3, none⟩ = some (.bool a0_3) := fun q => past_cell q HE8.out.2.1 rfl
  have zb0 : ∀ q : Past w8, q.W.cell? ⟨w.heap.size + 1, 0, none⟩ = some (.int .i64 a1_0) := fun q => past_cell q HE8.out.2.2 rfl
  have zb1 : ∀ q : Past w8, q.W.cell? ⟨w.heap.size + 1, 1, none⟩ = some (.slice A1_1 l1_1.length c1_1) := fun q => past_cell q HE8.out.2.2 rfl
  have zb2 : ∀ q : Past w8, q.W.cell? ⟨w.heap.size + 1, 2, none⟩ = some (.slice A1_2 l1_2.length c1_2) := fun q => past_cell q HE8.out.2.2 rfl
  have zb3 : ∀ q : Past w8, q.W.cell? ⟨w.heap.size + 1, 3, none⟩ = some (.bool a1_3) := fun q => past_cell q HE8.out.2.2 rfl
  have hEq : ∀ q : Past w8, KeysE w (.cells #[.int .i64 a0_0, .slice A0_1 l0_1.length c0_1, .slice A0_2 l0_2.length c0_2, .bool a0_3] 24 (0, 0)) (.cells #[.int .i64 a1_0, .slice A1_1 l1_1.length c1_1, .slice A1_2 l1_2.length c1_2, .bool a1_3] 24 (0, 0)) q.W := fun q => HE8.out.step q.h
  have hfin : ∀ q : Past w8, Below w.heap.size w q.W := fun q => (hEq q).1
  clear hAW hSA hSB hIa hIb hIn hPt hcv H1 H2 HE6 HE7 HE8
  try go_wp2_with (fail)
  cases i <;> cases too <;> cases m1 <;> cases c1 <;> cases em <;> first | exact absurd G1.out (by decide) | exact absurd G2.out (by decide) | exact absurd G3.out (by decide) | skip
  all_goals
    refine wp_region_past (by kernel_rfl) (by kernel_rfl) ?_
    repeat (go_big_quiet_step (first | (with_reducible exact Calls.past_of rfl (hMab _ (hEq _))) | (with_reducible exact Calls.past_of rfl (hMba _ (hEq _))) | (with_reducible exact Calls.past_of rfl (hCab _ (hEq _))) | (with_reducible exact Calls.past_of rfl (hCaa _ (hEq _))) | (with_reducible exact Calls.past_of rfl (hEm _ (hEq _)))))
    refine wpQuiet_nil ?_
    rintro _ ⟨q, rfl⟩
    go_wp2
    go_ret
    exact ⟨by first | rfl | (simp [errW_none, errW_some] <;> rfl) | (simp [*, errW_none, errW_some] <;> rfl), hfin q⟩

/-- The law, plainly. -/
def banksmanlaw10_SpanKeys.Pure : Prop := ∀ (a0_0 : Int) (l0_1 : List Int) (l0_2 : List Int) (a0_3 : Bool) (a1_0 : Int) (l1_1 : List Int) (l1_2 : List Int) (a1_3 : Bool) (a2 : Int) (l3 : List Int) (l4 : List Int), (fun n_ : Int => (Lit.int .i64 n_).wf = true) a0_0 → (fun xs_ : List Int => xs_.length ≤ maxLen ∧ ∀ x ∈ xs_, (fun n_ : Int => (Lit.int .u8 n_).wf = true) x) l0_1 → (fun xs_ : List Int => xs_.length ≤ maxLen ∧ ∀ x ∈ xs_, (fun n_ : Int => (Lit.int .u8 n_).wf = true) x) l0_2 → (fun n_ : Int => (Lit.int .i64 n_).wf = true) a1_0 → (fun xs_ : List Int => xs_.length ≤ maxLen ∧ ∀ x ∈ xs_, (fun n_ : Int => (Lit.int .u8 n_).wf = true) x) l1_1 → (fun xs_ : List Int => xs_.length ≤ maxLen ∧ ∀ x ∈ xs_, (fun n_ : Int => (Lit.int .u8 n_).wf = true) x) l1_2 → (fun n_ : Int => (Lit.int .i64 n_).wf = true) a2 → (fun xs_ : List Int => xs_.length ≤ maxLen ∧ ∀ x ∈ xs_, (fun n_ : Int => (Lit.int .u8 n_).wf = true) x) l3 → (fun xs_ : List Int => xs_.length ≤ maxLen ∧ ∀ x ∈ xs_, (fun n_ : Int => (Lit.int .u8 n_).wf = true) x) l4 → banksmanlaw10_SpanKeys.f a0_0 l0_1 l0_2 a0_3 a1_0 l1_1 l1_2 a1_3 a2 l3 l4 = some true

end Go.Proofs.Ytomlhapehldlnaa.P
