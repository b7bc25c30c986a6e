-- Written by wip/gprint.py, a program of this session over the kit's print; Lean checks it.
import Derived.Test.YtpknchaajgkbnaaPx0
import Derived.Test.YtpknchaajgkbnaaPx1
import Derived.Test.YtpknchaajgkbnaaPx49
import Derived.Test.YtpknchaajgkbnaaPx54
import Derived.Test.YtpknchaajgkbnaaPx59
import Derived.Test.YtpknchaajgkbnaaPx60
import Derived.BigQuiet
import Derived.Shelf.Abstract
namespace Go.Proofs.Ytpknchaajgkbnaa.P
open Go.RowKit Go.Proofs.YtpknchaajgkbnaaW.PrintWords Go.Proofs.YtpknchaajgkbnaaW.PrintLast Go.Proofs.YtpknchaajgkbnaaW.PrintMore
attribute [local go_sem] max2_int min2_int max_two min_two max_three min_three max_four min_four   -- for this text's walks alone
set_option linter.unusedVariables false
set_option linter.unusedSimpArgs false

/-GIVEN banksmanlaw13_ReadsHold-/
/-! ### banksmanlaw13_ReadsHold: function 4 -/
theorem rd_mem_Write (l : List S46) (i : Nat) (h : i < l.length) : rd_T46 l (i : Int) ∈ l := by
  have e : rd_T46 l (i : Int) = l[i] := by unfold rd_T46; simp [List.getD_eq_getElem?_getD, h]
  rw [e]
  exact List.getElem_mem h
def holdOk (e0 : Int) (h1 h2 h3 : Bool) : Prop := ¬ (e0 = 0 ∧ (h1 = true ∨ h2 = true) ∧ h3 = false)
instance (e0 : Int) (h1 h2 h3 : Bool) : Decidable (holdOk e0 h1 h2 h3) := by unfold holdOk; exact inferInstance
def banksmanlaw13_ReadsHold.f (k : Nat) (l0 : List (S38)) (a1_0 : Int) (l1_1 : List Int) (l1_2 : List Int) (a1_3 : Bool) (l2 : List (S46)) : Option (Bool) := (banksmanlaw13_few.f k l0 l2 []).bind fun fw => if fw = false ∨ 100 < l1_1.length ∨ 100 < l1_2.length then some true else (reads_Note.f l0 a1_0 l1_1 l1_2 a1_3).bind fun m => (reads_Hit.f l0 l2).bind fun h1 => (reads_Hit.f [(⟨a1_0, l1_1, l1_2, a1_3⟩ : S38)] l2).bind fun h2 => (reads_Hit.f m.1 l2).bind fun h3 => (reads_Same.f l2 l2).bind fun s => (reads_Hit.f [] l2).bind fun h4 => (reads_Hit.f l0 []).bind fun h5 =>
  if holdOk m.2 h1 h2 h3 ∧ (∀ y ∈ l2, reads_Hit.f [(⟨y.f0, y.f1, y.f1 ++ [0], false⟩ : S38)] l2 = some true ∧ span_Point.f y.f0 y.f1 = some (y.f0, y.f1, y.f1 ++ [0], false)) ∧ s = decide (0 < l2.length) ∧ h4 = false ∧ h5 = false then some true else none
set_option maxHeartbeats 1500000 in
set_option maxRecDepth 100000 in
theorem banksmanlaw13_ReadsHold.calls (k : Nat) (A0 : Option Addr) (c0 : Nat) (l0 : List (S38)) (a1_0 : Int) (A1_1 : Option Addr) (c1_1 : Nat) (l1_1 : List Int) (A1_2 : Option Addr) (c1_2 : Nat) (l1_2 : List Int) (a1_3 : Bool) (A2 : Option Addr) (c2 : Nat) (l2 : List (S46)) (r : Bool) (w : World) (hr0 : Kd.C k38 w A0 l0.length l0) (hc0 : l0.length ≤ c0) (hr1_1 : Kd.C (Kd.int .u8) w A1_1 l1_1.length l1_1) (hc1_1 : l1_1.length ≤ c1_1) (hr1_2 : Kd.C (Kd.int .u8) w A1_2 l1_2.length l1_2) (hc1_2 : l1_2.length ≤ c1_2) (hr2 : Kd.C k46 w A2 l2.length l2) (hc2 : l2.length ≤ c2) (h : banksmanlaw13_ReadsHold.f k l0 a1_0 l1_1 l1_2 a1_3 l2 = some r) (HTr_ : r = true) :
    Calls Try.prog 4 #[.slice A0 l0.length c0, .agg #[.int .i64 a1_0, .slice A1_1 l1_1.length c1_1, .slice A1_2 l1_2.length c1_2, .bool a1_3], .slice A2 l2.length c2] w fun e w' => e = .returned (.bool r) ∧ Below w.heap.size w w' := by
  unfold banksmanlaw13_ReadsHold.f at h
  obtain ⟨fw, hfw, h⟩ := Option.bind_eq_some_iff.mp h
  have hAW : ∀ W, Calls Try.prog 5 #[] W fun e w' => e = .returned (.bool true) ∧ Below W.heap.size W w' := fun W => banksmanlaw13_awake.calls true W rfl
  have H0 := Aside0.mk (AB.start w)
  have H1 := Aside0.mk (H0.out.add (stable_C k38 _ _) hr0)
  clear H0
  have H2 := Aside0.mk (H1.out.add (stable_C k46 _ _) hr2)
  clear H1
  have H3 := Aside0.mk (H2.out.add (stable_C (Kd.int .u8) _ _) hr1_1)
  clear H2
  have H4 := Aside0.mk (H3.out.add (stable_C (Kd.int .u8) _ _) hr1_2)
  clear H3
  clear hr0 hr2 hr1_1 hr1_2
  have husp := Try.underlying38
  have huwr := Try.underlying46
  have HH0 := Aside0.mk h
  clear h
  go_enter Try.func4, Try.ntmps4
  go_wp2_with (go_at_call 5; (suffices hsuf : Aside0 _ from hsuf.out))
  refine ⟨?_⟩
  obtain ⟨w1, hw1⟩ : ∃ y_, y_ = w.alloc (.cells #[.int .i64 a1_0, .slice A1_1 l1_1.length c1_1, .slice A1_2 l1_2.length c1_2, .bool a1_3] 38 (0, 0)) := ⟨_, rfl⟩
  obtain ⟨gx, hg_⟩ : ∃ g_, g_ = w.heap.size := ⟨_, rfl⟩
  have hbl : w1.heap[gx]? = some (.cells #[.int .i64 a1_0, .slice A1_1 l1_1.length c1_1, .slice A1_2 l1_2.length c1_2, .bool a1_3] 38 (0, 0)) := by rw [hw1, hg_]; exact heap_alloc_new _ _
  have hbb : Below w.heap.size w w1 := by rw [hw1]; exact below_alloc (Below.refl _ _) _
  rw [← hw1, ← hg_]
  have H5 := Aside0.mk (H4.out.below hbb)
  clear H4
  have H6 := Aside0.mk (H5.out.add (stable_blk _ _) hbl)
  clear H5
  clear hbl hbb hw1 hg_
  (with_reducible refine (hAW _).mono ?_)
  rintro e v7 ⟨rfl, hb⟩
  have H8 := Aside0.mk (H6.out.below hb)
  clear H6
  clear hb
  go_wp2_with (go_at_call 10; refine (banksmanlaw13_few.calls k A0 c0 l0 A2 c2 l2 none 0 [] fw v7 H8.out.hp.2.2.2.2.1 hc0 H8.out.hp.2.2.2.1 hc2 (⟨rfl, by simp, fun h => absurd h (by simp)⟩ : Kd.C k46 _ none ([] : List _).length []) (Nat.le_refl _) hfw).mono ?_; rintro e v9 ⟨rfl, hb⟩; (suffices hsuf : Aside0 _ from hsuf.out))
  refine ⟨?_⟩
  have H10 := Aside0.mk (H8.out.below hb)
  clear H8
  clear hb
  have z0 := (blk_cell H10.out.hp.1 0).trans rfl
  have z1 := (blk_cell H10.out.hp.1 1).trans rfl
  have z2 := (blk_cell H10.out.hp.1 2).trans rfl
  have z3 := (blk_cell H10.out.hp.1 3).trans rfl
  cases fw with
  | false =>
    have h := HH0.out
    rw [if_pos (.inl rfl)] at h
    obtain rfl := Option.some.inj h
    clear h HH0
    go_wp2
    go_ret
    exact ⟨rfl, H10.out.hb⟩
  | true =>
  by_cases hq1 : 100 < l1_1.length
  · have h := HH0.out
    rw [if_pos (by simp [hq1])] at h
    obtain rfl := Option.some.inj h
    clear h HH0
    have hq1' : decide ((100 : Int) < (l1_1.length : Int)) = true := decide_eq_true (by omega)
    have hq1'' : decide (100 < l1_1.length) = true := decide_eq_true (by omega)
    clear hq1
    go_wp2
    go_ret
    exact ⟨rfl, H10.out.hb⟩
  by_cases hq2 : 100 < l1_2.length
  · have h := HH0.out
    rw [if_pos (by simp [hq1, hq2])] at h
    obtain rfl := Option.some.inj h
    clear h HH0
    have hq1' : decide ((100 : Int) < (l1_1.length : Int)) = false := decide_eq_false (by omega)
    have hq1'' : decide (100 < l1_1.length) = false := decide_eq_false (by omega)
    have hq2' : decide ((100 : Int) < (l1_2.length : Int)) = true := decide_eq_true (by omega)
    have hq2'' : decide (100 < l1_2.length) = true := decide_eq_true (by omega)
    clear hq1
    clear hq2
    go_wp2
    go_ret
    exact ⟨rfl, H10.out.hb⟩
  have h := HH0.out
  clear HH0
  rw [if_neg (by simp [hq1, hq2])] at h
  obtain ⟨⟨m, e0⟩, hm, h⟩ := Option.bind_eq_some_iff.mp h
  obtain ⟨h1, hh1, h⟩ := Option.bind_eq_some_iff.mp h
  obtain ⟨h2, hh2, h⟩ := Option.bind_eq_some_iff.mp h
  obtain ⟨h3, hh3, h⟩ := Option.bind_eq_some_iff.mp h
  obtain ⟨s, hs, h⟩ := Option.bind_eq_some_iff.mp h
  obtain ⟨h4, hh4, h⟩ := Option.bind_eq_some_iff.mp h
  obtain ⟨h5, hh5, h⟩ := Option.bind_eq_some_iff.mp h
  simp only at h hh3
  have hall := Classical.byContradiction fun hn => by rw [if_neg hn] at h; cases h
  rw [if_pos hall] at h
  obtain rfl := Option.some.inj h
  obtain ⟨hne, hpt, hs2, rfl, rfl⟩ := hall
  have HPT := Aside0.mk hpt
  have HHH := Aside0.mk (And.intro hh1 (And.intro hh2 (And.intro hh3 (And.intro hs (And.intro hh4 hh5)))))
  have hq1' : decide ((100 : Int) < (l1_1.length : Int)) = false := decide_eq_false (by omega)
  have hq1'' : decide (100 < l1_1.length) = false := decide_eq_false (by omega)
  have hq2' : decide ((100 : Int) < (l1_2.length : Int)) = false := decide_eq_false (by omega)
  have hq2'' : decide (100 < l1_2.length) = false := decide_eq_false (by omega)
  have HNE := Aside0.mk hne
  have HS2 := Aside0.mk hs2
  clear h hpt hh1 hh2 hh3 hs hh4 hh5 hq1 hq2 hne hs2 hfw
  go_wp2_with (go_at_call 11; refine (reads_Note.calls A0 c0 l0 a1_0 A1_1 c1_1 l1_1 A1_2 c1_2 l1_2 a1_3 m e0 v9 H10.out.hp.2.2.2.2.1 hc0 H10.out.hp.2.2.1 hc1_1 H10.out.hp.2.1 hc1_2 hm).mono ?_; rintro e v11 ⟨v0_, rfl, hV, hb⟩; (suffices hsuf : Aside0 _ from hsuf.out))
  refine ⟨?_⟩
  obtain ⟨Am, cm, rfl⟩ := Kd.V_slice hV
  have hcm : m.length ≤ cm := (Kd.V_at hV).2.1
  have H12 := Aside0.mk (H10.out.below hb)
  clear H10
  have H13 := Aside0.mk (H12.out.add (stable_C k38 _ _) (Kd.V_reads' hV).2.2)
  clear H12
  clear hV hb
  clear hq1' hq1'' hq2' hq2''
  clear z0 z1 z2 z3
  have z0 := (blk_cell H13.out.hp.2.1 0).trans rfl
  have z1 := (blk_cell H13.out.hp.2.1 1).trans rfl
  have z2 := (blk_cell H13.out.hp.2.1 2).trans rfl
  have z3 := (blk_cell H13.out.hp.2.1 3).trans rfl
  go_upto_region 5 with (fail)
  go_cut [53] (fun v53 wc => v53 = .bool false ∧ Aside0 (Below v11.heap.size v11 wc))
  case first =>
    have HQ := Aside0.mk (AB.start v11)
    have H14 := Aside0.mk (HQ.out.add (stable_C k38 _ _) H13.out.hp.2.2.2.2.2.1)
    clear HQ
    have H15 := Aside0.mk (H14.out.add (stable_C k46 _ _) H13.out.hp.2.2.2.2.1)
    clear H14
    have H16 := Aside0.mk (H15.out.add (stable_C (Kd.int .u8) _ _) H13.out.hp.2.2.2.1)
    clear H15
    have H17 := Aside0.mk (H16.out.add (stable_C (Kd.int .u8) _ _) H13.out.hp.2.2.1)
    clear H16
    have H18 := Aside0.mk (H17.out.add (stable_blk _ _) H13.out.hp.2.1)
    clear H17
    have H19 := Aside0.mk (H18.out.add (stable_C k38 _ _) H13.out.hp.1)
    clear H18
    by_cases he0 : e0 = 0
    · subst he0
      cases h1 with
      | true =>
        obtain rfl : h3 = true := by cases h3 with | true => rfl | false => exact absurd ⟨rfl, .inl rfl, rfl⟩ HNE.out
        go_wp2_with (go_at_call 12; refine (reads_Hit.calls A0 c0 l0 A2 c2 l2 true v11 H19.out.hp.2.2.2.2.2.1 hc0 H19.out.hp.2.2.2.2.1 hc2 HHH.out.1).mono ?_; rintro e v20 ⟨rfl, hb⟩; (suffices hsuf : Aside0 _ from hsuf.out))
        refine ⟨?_⟩
        have H21 := Aside0.mk (H19.out.below hb)
        clear H19
        clear hb
        go_wp2_with (go_at_call 12; refine (reads_Hit.calls Am cm m A2 c2 l2 true v20 H21.out.hp.1 hcm H21.out.hp.2.2.2.2.1 hc2 HHH.out.2.2.1).mono ?_; rintro e v22 ⟨rfl, hb⟩; (suffices hsuf : Aside0 _ from hsuf.out))
        refine ⟨?_⟩
        have H23 := Aside0.mk (H21.out.below hb)
        clear H21
        clear hb
        go_wp2_with (fail)
        go_meet
        case rel => exact ⟨rfl, ⟨H23.out.hb⟩⟩
      | false =>
        go_wp2_with (go_at_call 12; refine (reads_Hit.calls A0 c0 l0 A2 c2 l2 false v11 H19.out.hp.2.2.2.2.2.1 hc0 H19.out.hp.2.2.2.2.1 hc2 HHH.out.1).mono ?_; rintro e v24 ⟨rfl, hb⟩; (suffices hsuf : Aside0 _ from hsuf.out))
        refine ⟨?_⟩
        have H25 := Aside0.mk (H19.out.below hb)
        clear H19
        clear hb
        clear z0 z1 z2 z3
        have z0 := (blk_cell H25.out.hp.2.1 0).trans rfl
        have z1 := (blk_cell H25.out.hp.2.1 1).trans rfl
        have z2 := (blk_cell H25.out.hp.2.1 2).trans rfl
        have z3 := (blk_cell H25.out.hp.2.1 3).trans rfl
        go_wp2_with (go_at_call 12; (suffices hsuf : Aside0 _ from hsuf.out))
        refine ⟨?_⟩
        obtain ⟨y1, hy1⟩ : ∃ y_, y_ = v24.alloc (.cells #[.int .i64 a1_0, .slice A1_1 l1_1.length c1_1, .slice A1_2 l1_2.length c1_2, .bool a1_3] 38 (0, 0)) := ⟨_, rfl⟩
        obtain ⟨gy, hg_⟩ : ∃ g_, g_ = v24.heap.size := ⟨_, rfl⟩
        have hbl : y1.heap[gy]? = some (.cells #[.int .i64 a1_0, .slice A1_1 l1_1.length c1_1, .slice A1_2 l1_2.length c1_2, .bool a1_3] 38 (0, 0)) := by rw [hy1, hg_]; exact heap_alloc_new _ _
        have hbb : Below v24.heap.size v24 y1 := by rw [hy1]; exact below_alloc (Below.refl _ _) _
        rw [← hy1, ← hg_]
        have H26 := Aside0.mk (H25.out.below hbb)
        clear H25
        have hsp : Kd.C k38 y1 (some ⟨gy, 0, none⟩) [(⟨a1_0, l1_1, l1_2, a1_3⟩ : S38)].length [(⟨a1_0, l1_1, l1_2, a1_3⟩ : S38)] := by
          refine C_of_block (cur := (#[.int .i64 a1_0, .slice A1_1 l1_1.length c1_1, .slice A1_2 l1_2.length c1_2, .bool a1_3]).toList) (by simp) hbl (by show 1 * 4 ≤ 4; omega) (fun j p hj => ?_)
          rcases j with _ | j
          · cases hj
            exact k38_mk _ (⟨a1_0, l1_1, l1_2, a1_3⟩ : S38) hc1_1 H26.out.hp.2.2.2.1 hc1_2 H26.out.hp.2.2.1
          · cases hj
        have H27 := Aside0.mk (H26.out.add (stable_C k38 _ _) hsp)
        clear H26
        clear hsp hbl hbb hy1 hg_
        refine (reads_Hit.calls (some ⟨gy, 0, none⟩) 1 [(⟨a1_0, l1_1, l1_2, a1_3⟩ : S38)] A2 c2 l2 h2 y1 H27.out.hp.1 (Nat.le_refl _) H27.out.hp.2.2.2.2.2.1 hc2 HHH.out.2.1).mono ?_
        rintro e v28 ⟨rfl, hb⟩
        have H29 := Aside0.mk (H27.out.below hb)
        clear H27
        clear hb
        cases h2 with
        | true =>
          obtain rfl : h3 = true := by cases h3 with | true => rfl | false => exact absurd ⟨rfl, .inr rfl, rfl⟩ HNE.out
          go_wp2_with (go_at_call 12; refine (reads_Hit.calls Am cm m A2 c2 l2 true v28 H29.out.hp.2.1 hcm H29.out.hp.2.2.2.2.2.1 hc2 HHH.out.2.2.1).mono ?_; rintro e v30 ⟨rfl, hb⟩; (suffices hsuf : Aside0 _ from hsuf.out))
          refine ⟨?_⟩
          have H31 := Aside0.mk (H29.out.below hb)
          clear H29
          clear hb
          go_wp2_with (fail)
          go_meet
          case rel => exact ⟨rfl, ⟨H31.out.hb⟩⟩
        | false =>
          go_wp2_with (fail)
          go_meet
          case rel => exact ⟨rfl, ⟨H29.out.hb⟩⟩
    · have he1 : (e0 == 0) = false := by simpa using he0
      have he2 : decide (e0 = 0) = false := decide_eq_false he0
      go_wp2_with (fail)
      go_meet
      case rel => exact ⟨rfl, ⟨H19.out.hb⟩⟩
  case rest =>
    obtain ⟨rfl, HBc⟩ := hcut
    have HR0 := Aside0.mk (H13.out.below HBc.out)
    clear z0 z1 z2 z3 HNE
    as_aux_lemma =>
    go_wp2_with (fail)
    have hm2 : l2.length ≤ 9223372036854775807 := Kd.C_max HR0.out.hp.2.2.2.2.1
    go_loopw [10] (fun s10 wr => ∃ i : Nat, s10 = .int .i64 i ∧ i ≤ l2.length ∧ Aside0 (Below wc.heap.size wc wr)) (fun s10 _ => l2.length - (intOf s10).toNat)
    case atStart => exact ⟨0, rfl, Nat.zero_le _, ⟨Below.refl _ _⟩⟩
    case round =>
      obtain ⟨i, rfl, hi_, HB9⟩ := hrel
      have HX := Aside0.mk (HR0.out.below HB9.out)
      by_cases hlt : i < l2.length
      · have hrd := HPT.out _ (rd_mem_Write l2 i hlt)
        obtain ⟨ad, B1, d1, B3, d3, e, hx0, hx1, hx2, hx3, hl1, hi1, hl3, hi3⟩ := at_T46 HX.out.hp.2.2.2.2.1 i (by omega) (by omega)
        cases e
        rw [Int.toNat_natCast] at hx0 hx1 hx2 hx3
        generalize rd_T46 l2 (i : Int) = y at *
        have hlt1 : (i : Int) < (l2.length : Int) := by omega
        have HRD := Aside0.mk hrd
        have HI1 := Aside0.mk (And.intro hi1 hl1)
        clear hrd hi1 hl1 hi3 hl3 hx2 hx3
        have hcells : ∀ W, Below wr.heap.size wr W → W.cell? (ad.add (i * 4)) = some (.int .i64 y.f0) ∧ W.cell? ⟨(ad.add (i * 4)).block, (ad.add (i * 4)).off + 1, none⟩ = some (.slice B1 y.f1.length d1) := fun W hb => ⟨(hb.cell (World.block_lt_of_cell? wr _ hx0)).trans hx0, (hb.cell (World.block_lt_of_cell? wr _ hx1)).trans hx1⟩
        have HC2 := Aside0.mk HX.out.hp.2.2.2.2.1
        have HCE := Aside0.mk hcells
        clear hx0 hx1 hcells
        go_wp2_with (fail)
        have HD := Aside0.mk (below_drew1 (Below.refl wr.heap.size wr))
        as_aux_lemma =>
        refine start_ (n := 15) (S := fun w' => w'.cell? (ad.add (i * 4)) = some (.int .i64 y.f0) ∧ w'.cell? ⟨(ad.add (i * 4)).block, (ad.add (i * 4)).off + 1, none⟩ = some (.slice B1 y.f1.length d1)) (ds := []) #[false, false, false, false, false, false, false, false, false, false, false, false, false, false, false] (by kernel_rfl) rfl rfl (HCE.out _ HD.out) (fun hHeld => ?_)
        generalize wr.drew = w6 at HD hHeld ⊢
        refine pure_ (i := 0) (N := some 60) (v := ?_) (a' := ?_) #[true, false, false, false, false, false, false, false, false, false, false, false, false, false, false] rfl rfl (by kernel_rfl) (fun _ _ _ h => h) (Or.inl ⟨by rfl, ?_⟩) ?_ ?_
        rotate_left
        · intro w'
          go_simp
          with_reducible rfl
        rotate_left
        · simp only [Act.put, List.setIfInBounds_toArray, List.set_cons_zero, List.set_cons_succ]
          rfl
        refine pure_ (i := 1) (N := some 61) (v := ?_) (a' := ?_) #[true, true, false, false, false, false, false, false, false, false, false, false, false, false, false] rfl rfl (by kernel_rfl) (fun _ _ _ h => h) (Or.inl ⟨by rfl, ?_⟩) ?_ ?_
        rotate_left
        · intro w'
          go_simp
          with_reducible rfl
        rotate_left
        · simp only [Act.put, List.setIfInBounds_toArray, List.set_cons_zero, List.set_cons_succ]
          rfl
        refine pure_ (i := 2) (N := some 62) (v := ?_) (a' := ?_) #[true, true, true, false, false, false, false, false, false, false, false, false, false, false, false] rfl rfl (by kernel_rfl) (fun _ _ _ h => h) (Or.inl ⟨by rfl, ?_⟩) ?_ ?_
        rotate_left
        · intro w'
          go_simp
          with_reducible rfl
        rotate_left
        · simp only [Act.put, List.setIfInBounds_toArray, List.set_cons_zero, List.set_cons_succ]
          rfl
        refine pure_ (i := 3) (N := some 63) (v := ?_) (a' := ?_) #[true, true, true, true, false, false, false, false, false, false, false, false, false, false, false] rfl rfl (by kernel_rfl) (fun _ _ _ h => h) (Or.inl ⟨by rfl, ?_⟩) ?_ ?_
        rotate_left
        · intro w'
          go_simp
          with_reducible rfl
        rotate_left
        · simp only [Act.put, List.setIfInBounds_toArray, List.set_cons_zero, List.set_cons_succ]
          rfl
        refine take_ (i := 4) (N := some 64) (v := ?_) (a' := ?_) #[true, true, true, true, true, false, false, false, false, false, false, false, false, false, false] rfl rfl (by kernel_rfl) (fun _ _ _ h => h) (Or.inl ⟨by rfl, ?_⟩) hHeld ?_ ?_
        rotate_left
        · rintro w' ⟨s0, s1⟩
          go_simp
          with_reducible rfl
        rotate_left
        · simp only [Act.put, List.setIfInBounds_toArray, List.set_cons_zero, List.set_cons_succ]
          rfl
        refine pure_ (i := 5) (N := some 65) (v := ?_) (a' := ?_) #[true, true, true, true, true, true, false, false, false, false, false, false, false, false, false] rfl rfl (by kernel_rfl) (fun _ _ _ h => h) (Or.inl ⟨by rfl, ?_⟩) ?_ ?_
        rotate_left
        · intro w'
          go_simp
          with_reducible rfl
        rotate_left
        · simp only [Act.put, List.setIfInBounds_toArray, List.set_cons_zero, List.set_cons_succ]
          rfl
        refine pure_ (i := 6) (N := some 66) (v := ?_) (a' := ?_) #[true, true, true, true, true, true, true, false, false, false, false, false, false, false, false] rfl rfl (by kernel_rfl) (fun _ _ _ h => h) (Or.inl ⟨by rfl, ?_⟩) ?_ ?_
        rotate_left
        · intro w'
          go_simp
          with_reducible rfl
        rotate_left
        · simp only [Act.put, List.setIfInBounds_toArray, List.set_cons_zero, List.set_cons_succ]
          rfl
        refine pure_ (i := 7) (N := some 67) (v := ?_) (a' := ?_) #[true, true, true, true, true, true, true, true, false, false, false, false, false, false, false] rfl rfl (by kernel_rfl) (fun _ _ _ h => h) (Or.inl ⟨by rfl, ?_⟩) ?_ ?_
        rotate_left
        · intro w'
          go_simp
          with_reducible rfl
        rotate_left
        · simp only [Act.put, List.setIfInBounds_toArray, List.set_cons_zero, List.set_cons_succ]
          rfl
        refine pure_ (i := 8) (N := some 68) (v := ?_) (a' := ?_) #[true, true, true, true, true, true, true, true, true, false, false, false, false, false, false] rfl rfl (by kernel_rfl) (fun _ _ _ h => h) (Or.inl ⟨by rfl, ?_⟩) ?_ ?_
        rotate_left
        · intro w'
          go_simp
          with_reducible rfl
        rotate_left
        · simp only [Act.put, List.setIfInBounds_toArray, List.set_cons_zero, List.set_cons_succ]
          rfl
        refine take_ (i := 9) (N := some 69) (v := ?_) (a' := ?_) #[true, true, true, true, true, true, true, true, true, true, false, false, false, false, false] rfl rfl (by kernel_rfl) (fun _ _ _ h => h) (Or.inl ⟨by rfl, ?_⟩) hHeld ?_ ?_
        rotate_left
        · rintro w' ⟨s0, s1⟩
          go_simp
          with_reducible rfl
        rotate_left
        · simp only [Act.put, List.setIfInBounds_toArray, List.set_cons_zero, List.set_cons_succ]
          rfl
        refine pure_ (i := 12) (N := some 72) (v := ?_) (a' := ?_) #[true, true, true, true, true, true, true, true, true, true, false, false, true, false, false] rfl rfl (by kernel_rfl) (fun _ _ _ h => h) (Or.inl ⟨by rfl, ?_⟩) ?_ ?_
        rotate_left
        · intro w'
          go_simp
          with_reducible rfl
        rotate_left
        · simp only [Act.put, List.setIfInBounds_toArray, List.set_cons_zero, List.set_cons_succ]
          rfl
        as_aux_lemma =>
        refine one_ (i := 10) (N := some 70) #[true, true, true, true, true, true, true, true, true, true, true, false, true, false, false] rfl rfl (by kernel_rfl) (by decide) (fun K hK => ?_)
        refine goes_ Try.func13 (by kernel_rfl) rfl #[.int .i64 y.f0, .slice B1 y.f1.length d1] (by rfl) rfl rfl (by (try simp only [List.map_toArray, List.map_cons, List.map_nil]); first | done | rfl) ?_
        refine (span_Point.calls y.f0 B1 d1 y.f1 y.f0 y.f1 (y.f1 ++ [0]) false w6 (Kd.C_below HI1.out.1 HD.out) HI1.out.2 HRD.out.2).mono ?_
        rintro e w7 ⟨v1_, v2_, rfl, hRa, hRb, hb⟩
        obtain ⟨P1, p1, rfl⟩ := Kd.R_slice hRa
        obtain ⟨P2, p2, rfl⟩ := Kd.R_slice hRb
        have HP := Aside0.mk (And.intro (Kd.R_reads' hRa).2 (Kd.R_reads' hRb).2)
        have HD2 := Aside0.mk (below_step HD.out hb)
        clear hRa hRb hb
        refine ⟨_, rfl, ?_⟩
        refine hK.out _ _ (HCE.out _ HD2.out) (fun hHeld => ?_)
        clear hK K
        refine norm_ (a' := ?_) ?_ ?_
        rotate_left
        · show Act.put _ (some 70) _ = _
          simp only [Act.put, List.setIfInBounds_toArray, List.set_cons_zero, List.set_cons_succ]
          rfl
        as_aux_lemma =>
        refine one_ (i := 11) (N := some 71) #[true, true, true, true, true, true, true, true, true, true, true, true, true, false, false] rfl rfl (by kernel_rfl) (by decide) (fun K hK => ?_)
        refine value_ (v := .slice (some ⟨w7.heap.size, 0, none⟩) 1 1) (w1 := w7.alloc (.cells #[.int .i64 y.f0, .slice P1 y.f1.length p1, .slice P2 (y.f1 ++ [0]).length p2, .bool false] 38 (0, 0))) (by rfl) rfl (by first | (go_simp; done) | (go_simp; rfl)) ?_
        obtain ⟨w8, hw8⟩ : ∃ y_, y_ = w7.alloc (.cells #[.int .i64 y.f0, .slice P1 y.f1.length p1, .slice P2 (y.f1 ++ [0]).length p2, .bool false] 38 (0, 0)) := ⟨_, rfl⟩
        obtain ⟨gp, hg_⟩ : ∃ g_, g_ = w7.heap.size := ⟨_, rfl⟩
        have hbl : w8.heap[gp]? = some (.cells #[.int .i64 y.f0, .slice P1 y.f1.length p1, .slice P2 (y.f1 ++ [0]).length p2, .bool false] 38 (0, 0)) := by rw [hw8, hg_]; exact heap_alloc_new _ _
        have hbb : Below w7.heap.size w7 w8 := by rw [hw8]; exact below_alloc (Below.refl _ _) _
        have hsp : Kd.C k38 w8 (some ⟨gp, 0, none⟩) [(⟨y.f0, y.f1, y.f1 ++ [0], false⟩ : S38)].length [(⟨y.f0, y.f1, y.f1 ++ [0], false⟩ : S38)] := by
          refine C_of_block (cur := (#[.int .i64 y.f0, .slice P1 y.f1.length p1, .slice P2 (y.f1 ++ [0]).length p2, .bool false]).toList) (by simp) hbl (by show 1 * 4 ≤ 4; omega) (fun j p hj => ?_)
          rcases j with _ | j
          · cases hj
            exact k38_mk _ (⟨y.f0, y.f1, y.f1 ++ [0], false⟩ : S38) HP.out.1.1 (Kd.C_below HP.out.1.2 hbb) HP.out.2.1 (Kd.C_below HP.out.2.2 hbb)
          · cases hj
        rw [← hw8, ← hg_]
        have HD3 := Aside0.mk (below_step HD2.out hbb)
        have HSP := Aside0.mk hsp
        clear hbl hbb hsp hw8 hg_
        refine hK.out _ _ (HCE.out _ HD3.out) (fun hHeld => ?_)
        clear hK K
        refine norm_ (a' := ?_) ?_ ?_
        rotate_left
        · show Act.put _ (some 71) _ = _
          simp only [Act.put, List.setIfInBounds_toArray, List.set_cons_zero, List.set_cons_succ]
          rfl
        as_aux_lemma =>
        refine one_ (i := 13) (N := some 73) #[true, true, true, true, true, true, true, true, true, true, true, true, true, true, false] rfl rfl (by kernel_rfl) (by decide) (fun K hK => ?_)
        refine goes_ Try.func12 (by kernel_rfl) rfl #[.slice (some ⟨gp, 0, none⟩) 1 1, .slice (some ad) l2.length c2] (by rfl) rfl rfl (by (try simp only [List.map_toArray, List.map_cons, List.map_nil]); first | done | rfl) ?_
        refine (reads_Hit.calls (some ⟨gp, 0, none⟩) 1 [(⟨y.f0, y.f1, y.f1 ++ [0], false⟩ : S38)] (some ad) c2 l2 true w8 HSP.out (Nat.le_refl _) (Kd.C_below HC2.out HD3.out) hc2 HRD.out.1).mono ?_
        rintro e w9 ⟨rfl, hb⟩
        have HD4 := Aside0.mk (below_step HD3.out hb)
        clear hb
        refine ⟨_, rfl, ?_⟩
        refine hK.out _ _ (HCE.out _ HD4.out) (fun hHeld => ?_)
        clear hK K
        refine norm_ (a' := ?_) ?_ ?_
        rotate_left
        · show Act.put _ (some 73) _ = _
          simp only [Act.put, List.setIfInBounds_toArray, List.set_cons_zero, List.set_cons_succ]
          rfl
        as_aux_lemma =>
        refine pure_ (i := 14) (N := some 74) (v := ?_) (a' := ?_) #[true, true, true, true, true, true, true, true, true, true, true, true, true, true, true] rfl rfl (by kernel_rfl) (fun _ _ _ h => h) (Or.inl ⟨by rfl, ?_⟩) ?_ ?_
        rotate_left
        · intro w'
          go_simp
          with_reducible rfl
        rotate_left
        · simp only [Act.put, List.setIfInBounds_toArray, List.set_cons_zero, List.set_cons_succ]
          rfl
        refine done_ (by kernel_rfl) ?_
        clear hHeld
        have HBF := Aside0.mk (below_step HB9.out HD4.out)
        as_aux_lemma =>
        go_wp2
        go_roundw
        case rel => exact ⟨i + 1, by go_num, by omega, HBF⟩
        case measure => simp [intOf]; omega
      · obtain rfl : i = l2.length := by omega
        have hlt1 : ¬ ((l2.length : Int) < (l2.length : Int)) := by omega
        by_cases hl : 0 < l2.length
        · obtain rfl : s = true := by rw [HS2.out]; simp [hl]
          have hl1 : decide ((0 : Int) < (l2.length : Int)) = true := decide_eq_true (by omega)
          have hl2 : decide (0 < l2.length) = true := decide_eq_true (by omega)
          clear hl
          go_wp2_with (go_at_call 14; refine (reads_Same.calls A2 c2 l2 A2 c2 l2 true wr HX.out.hp.2.2.2.2.1 hc2 HX.out.hp.2.2.2.2.1 hc2 HHH.out.2.2.2.1).mono ?_; rintro e v32 ⟨rfl, hb⟩; (suffices hsuf : Aside0 _ from hsuf.out))
          refine ⟨?_⟩
          have H33 := Aside0.mk (HX.out.below hb)
          clear HX
          clear hb
          go_wp2_with (go_at_call 12; refine (reads_Hit.calls none 0 [] A2 c2 l2 false v32 (⟨rfl, by simp, fun h => absurd h (by simp)⟩ : Kd.C k38 _ none ([] : List _).length []) (Nat.le_refl _) H33.out.hp.2.2.2.2.1 hc2 HHH.out.2.2.2.2.1).mono ?_; rintro e v34 ⟨rfl, hb⟩; (suffices hsuf : Aside0 _ from hsuf.out))
          refine ⟨?_⟩
          have H35 := Aside0.mk (H33.out.below hb)
          clear H33
          clear hb
          go_wp2_with (go_at_call 12; refine (reads_Hit.calls A0 c0 l0 none 0 [] false v34 H35.out.hp.2.2.2.2.2.1 hc0 (⟨rfl, by simp, fun h => absurd h (by simp)⟩ : Kd.C k46 _ none ([] : List _).length []) (Nat.le_refl _) HHH.out.2.2.2.2.2).mono ?_; rintro e v36 ⟨rfl, hb⟩; (suffices hsuf : Aside0 _ from hsuf.out))
          refine ⟨?_⟩
          have H37 := Aside0.mk (H35.out.below hb)
          clear H35
          clear hb
          go_wp2
          go_ret
          exact ⟨rfl, H37.out.hb⟩
        · obtain rfl : s = false := by rw [HS2.out]; simp [hl]
          have hl1 : decide ((0 : Int) < (l2.length : Int)) = false := decide_eq_false (by omega)
          have hl2 : decide (0 < l2.length) = false := decide_eq_false (by omega)
          clear hl
          go_wp2_with (go_at_call 14; refine (reads_Same.calls A2 c2 l2 A2 c2 l2 false wr HX.out.hp.2.2.2.2.1 hc2 HX.out.hp.2.2.2.2.1 hc2 HHH.out.2.2.2.1).mono ?_; rintro e v38 ⟨rfl, hb⟩; (suffices hsuf : Aside0 _ from hsuf.out))
          refine ⟨?_⟩
          have H39 := Aside0.mk (HX.out.below hb)
          clear HX
          clear hb
          go_wp2_with (go_at_call 12; refine (reads_Hit.calls none 0 [] A2 c2 l2 false v38 (⟨rfl, by simp, fun h => absurd h (by simp)⟩ : Kd.C k38 _ none ([] : List _).length []) (Nat.le_refl _) H39.out.hp.2.2.2.2.1 hc2 HHH.out.2.2.2.2.1).mono ?_; rintro e v40 ⟨rfl, hb⟩; (suffices hsuf : Aside0 _ from hsuf.out))
          refine ⟨?_⟩
          have H41 := Aside0.mk (H39.out.below hb)
          clear H39
          clear hb
          go_wp2_with (go_at_call 12; refine (reads_Hit.calls A0 c0 l0 none 0 [] false v40 H41.out.hp.2.2.2.2.2.1 hc0 (⟨rfl, by simp, fun h => absurd h (by simp)⟩ : Kd.C k46 _ none ([] : List _).length []) (Nat.le_refl _) HHH.out.2.2.2.2.2).mono ?_; rintro e v42 ⟨rfl, hb⟩; (suffices hsuf : Aside0 _ from hsuf.out))
          refine ⟨?_⟩
          have H43 := Aside0.mk (H41.out.below hb)
          clear H41
          clear hb
          go_wp2
          go_ret
          exact ⟨rfl, H43.out.hb⟩

/-- The law, plainly. -/
def banksmanlaw13_ReadsHold.Pure : Prop := ∀ (l0 : List (S38)) (a1_0 : Int) (l1_1 : List Int) (l1_2 : List Int) (a1_3 : Bool) (l2 : List (S46)), (fun xs_ : List (S38) => xs_.length ≤ maxLen ∧ ∀ x ∈ xs_, (fun x_ : S38 => (fun n_ : Int => (Lit.int .i64 n_).wf = true) x_.f0 ∧ (fun xs_ : List Int => xs_.length ≤ maxLen ∧ ∀ x ∈ xs_, (fun n_ : Int => (Lit.int .u8 n_).wf = true) x) x_.f1 ∧ (fun xs_ : List Int => xs_.length ≤ maxLen ∧ ∀ x ∈ xs_, (fun n_ : Int => (Lit.int .u8 n_).wf = true) x) x_.f2 ∧ (fun _ : Bool => True) x_.f3) x) l0 → (fun n_ : Int => (Lit.int .i64 n_).wf = true) a1_0 → (fun xs_ : List Int => xs_.length ≤ maxLen ∧ ∀ x ∈ xs_, (fun n_ : Int => (Lit.int .u8 n_).wf = true) x) l1_1 → (fun xs_ : List Int => xs_.length ≤ maxLen ∧ ∀ x ∈ xs_, (fun n_ : Int => (Lit.int .u8 n_).wf = true) x) l1_2 → (fun xs_ : List (S46) => xs_.length ≤ maxLen ∧ ∀ x ∈ xs_, (fun x_ : S46 => (fun n_ : Int => (Lit.int .i64 n_).wf = true) x_.f0 ∧ (fun xs_ : List Int => xs_.length ≤ maxLen ∧ ∀ x ∈ xs_, (fun n_ : Int => (Lit.int .u8 n_).wf = true) x) x_.f1 ∧ (fun _ : Bool => True) x_.f2 ∧ (fun xs_ : List Int => xs_.length ≤ maxLen ∧ ∀ x ∈ xs_, (fun n_ : Int => (Lit.int .u8 n_).wf = true) x) x_.f3) x) l2 → ∃ k, banksmanlaw13_ReadsHold.f k l0 a1_0 l1_1 l1_2 a1_3 l2 = some true

end Go.Proofs.Ytpknchaajgkbnaa.P
