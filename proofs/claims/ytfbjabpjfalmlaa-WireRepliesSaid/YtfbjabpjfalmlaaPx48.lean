import Derived.Test.YtfbjabpjfalmlaaPx0
import Derived.Test.YtfbjabpjfalmlaaPx38
import Derived.Test.YtfbjabpjfalmlaaPx39
import Derived.Test.YtfbjabpjfalmlaaPx1
import Derived.Test.YtfbjabpjfalmlaaPx47
namespace Go.Proofs.Ytfbjabpjfalmlaa.P
open Go.RowKit Go.Proofs.YtfbjabpjfalmlaaW.PrintWords Go.Proofs.YtfbjabpjfalmlaaW.PrintLast Go.Proofs.YtfbjabpjfalmlaaW.PrintMore
attribute [local go_sem] max2_int min2_int max_two min_two max_three min_three max_four min_four
set_option linter.unusedVariables false
set_option linter.unusedSimpArgs false
def banksmanref21_Told.l0 : Nat → List Int → Int → Int → Bool → List Int → List (S47) → Option (List Int × Int)
  | 0, _, _, _, _, _, _ => none
  | k + 1, x5, x7, x432000, x432001, x432002, x432003 => if x7 < (x432003.length : Int) then (if 0 ≤ x7 then ((banksmanref01_Text.f k x5 ((rd_T47 x432003 x7).f0)).bind fun bt451 => ((banksmanref01_Text.f k bt451.1 ((rd_T47 x432003 x7).f1)).bind fun bt456 => (banksmanref21_Told.l0 k bt456.1 (wrap64 (x7 + 1)) x432000 x432001 x432002 x432003))) else (none)) else (some (x5, 0))
def banksmanref21_Told.f (k : Nat) (a0_0 : Int) (a0_1 : Bool) (l0_2 : List Int) (l0_3 : List (S47)) : Option (List Int × Int) := (banksmanref21_Reply.f k a0_0 a0_1 l0_2 l0_3).bind fun t432 => (if t432 = true then ((banksmanref01_Number.f k ([] : List Int) a0_0).bind fun bt433 => ((banksmanref21_flag.f a0_1).bind fun t437 => ((banksmanref01_Number.f k bt433.1 t437).bind fun bt438 => ((banksmanref01_Text.f k bt438.1 l0_2).bind fun bt442 => ((banksmanref01_Number.f k bt442.1 (l0_3.length : Int)).bind fun bt446 => (banksmanref21_Told.l0 k bt446.1 0 a0_0 a0_1 l0_2 l0_3)))))) else (some (([] : List Int), 210)))
theorem banksmanref21_Told.mono_l : ∀ k, (∀ y0 y1 y2 y3 y4 y5, LeO (banksmanref21_Told.l0 k y0 y1 y2 y3 y4 y5) (banksmanref21_Told.l0 (k + 1) y0 y1 y2 y3 y4 y5))
  | 0 => fun _ _ _ _ _ _ r h => by simp [banksmanref21_Told.l0] at h
  | k + 1 => by
    have ih0 := banksmanref21_Told.mono_l k
    · intro y0 y1 y2 y3 y4 y5
      unfold banksmanref21_Told.l0
      repeat' first
      | (with_reducible exact ih0 _ _ _ _ _ _)
      | (with_reducible exact banksmanref01_Number.mono _ _ _)
      | (with_reducible exact banksmanref01_Text.mono _ _ _)
      | (with_reducible exact banksmanref21_Reply.mono _ _ _ _ _)
      | (with_reducible exact LeO.refl _)
      | (with_reducible exact LeO.none _)
      | (with_reducible refine LeO.ite ?_ ?_)
      | (with_reducible refine LeO.bind ?_ (fun _ => ?_))
      | exact ih0 _ _ _ _ _ _
      | exact banksmanref01_Number.mono _ _ _
      | exact banksmanref01_Text.mono _ _ _
      | exact banksmanref21_Reply.mono _ _ _ _ _
      | exact LeO.none _
      | refine LeO.ite ?_ ?_
      | refine LeO.bind ?_ (fun _ => ?_)
theorem banksmanref21_Told.mono : ∀ a0 a1 a2 a3 k, LeO (banksmanref21_Told.f k a0 a1 a2 a3) (banksmanref21_Told.f (k + 1) a0 a1 a2 a3) := by
  intro a0 a1 a2 a3 k
  have ih0 := banksmanref21_Told.mono_l k
  unfold banksmanref21_Told.f
  repeat' first
      | (with_reducible exact ih0 _ _ _ _ _ _)
      | (with_reducible exact banksmanref01_Number.mono _ _ _)
      | (with_reducible exact banksmanref01_Text.mono _ _ _)
      | (with_reducible exact banksmanref21_Reply.mono _ _ _ _ _)
      | (with_reducible exact LeO.refl _)
      | (with_reducible exact LeO.none _)
      | (with_reducible refine LeO.ite ?_ ?_)
      | (with_reducible refine LeO.bind ?_ (fun _ => ?_))
      | exact ih0 _ _ _ _ _ _
      | exact banksmanref01_Number.mono _ _ _
      | exact banksmanref01_Text.mono _ _ _
      | exact banksmanref21_Reply.mono _ _ _ _ _
      | exact LeO.none _
      | refine LeO.ite ?_ ?_
      | refine LeO.bind ?_ (fun _ => ?_)
set_option maxHeartbeats 8000000 in
set_option maxRecDepth 100000 in
theorem banksmanref21_Told.calls (k : Nat) (a0_0 : Int) (a0_1 : Bool) (A0_2 : Option Addr) (c0_2 : Nat) (l0_2 : List Int) (A0_3 : Option Addr) (c0_3 : Nat) (l0_3 : List (S47)) (r1 : List Int) (r2 : Int) (w : World) (hr0_2 : Kd.C (Kd.int .u8) w A0_2 l0_2.length l0_2) (hc0_2 : l0_2.length ≤ c0_2) (hr0_3 : Kd.C k47 w A0_3 l0_3.length l0_3) (hc0_3 : l0_3.length ≤ c0_3) (h : banksmanref21_Told.f k a0_0 a0_1 l0_2 l0_3 = some (r1, r2)) :
    Calls Try.prog 17 #[.agg #[.int .i64 a0_0, .bool a0_1, .slice A0_2 l0_2.length c0_2, .slice A0_3 l0_3.length c0_3]] w fun e w' => ∃ v0_ : Value, e = .returned (.tuple #[v0_, .int .i64 r2]) ∧ Kd.R (Kd.int .u8) 5 w' w.heap.size (fun _ => True) v0_ r1 ∧ Below w.heap.size w w' := by
  have hu36 := Try.underlying36
  have HR0_2 := Aside0.mk hr0_2
  have HC0_2 := Aside0.mk hc0_2
  clear hr0_2 hc0_2
  have HR0_3 := Aside0.mk hr0_3
  have HC0_3 := Aside0.mk hc0_3
  clear hr0_3 hc0_3
  have HB := Aside0.mk (Below.refl w.heap.size w)
  have H : ((banksmanref21_Reply.f k a0_0 a0_1 l0_2 l0_3).bind fun t432 => (if t432 = true then ((banksmanref01_Number.f k ([] : List Int) a0_0).bind fun bt433 => ((banksmanref21_flag.f a0_1).bind fun t437 => ((banksmanref01_Number.f k bt433.1 t437).bind fun bt438 => ((banksmanref01_Text.f k bt438.1 l0_2).bind fun bt442 => ((banksmanref01_Number.f k bt442.1 (l0_3.length : Int)).bind fun bt446 => (banksmanref21_Told.l0 k bt446.1 0 a0_0 a0_1 l0_2 l0_3)))))) else (some (([] : List Int), 210)))) = some (r1, r2) := h
  clear h
  replace H := Option.bind_eq_some_iff.mp H
  obtain ⟨t432, A20, H⟩ := H
  replace H : (if t432 = true then ((banksmanref01_Number.f k ([] : List Int) a0_0).bind fun bt433 => ((banksmanref21_flag.f a0_1).bind fun t437 => ((banksmanref01_Number.f k bt433.1 t437).bind fun bt438 => ((banksmanref01_Text.f k bt438.1 l0_2).bind fun bt442 => ((banksmanref01_Number.f k bt442.1 (l0_3.length : Int)).bind fun bt446 => (banksmanref21_Told.l0 k bt446.1 0 a0_0 a0_1 l0_2 l0_3)))))) else (some (([] : List Int), 210))) = some (r1, r2) := H
  have A2 := Aside0.mk A20
  clear A20
  by_cases c3 : t432 = true
  · subst c3
    have H1 : ((banksmanref01_Number.f k ([] : List Int) a0_0).bind fun bt433 => ((banksmanref21_flag.f a0_1).bind fun t437 => ((banksmanref01_Number.f k bt433.1 t437).bind fun bt438 => ((banksmanref01_Text.f k bt438.1 l0_2).bind fun bt442 => ((banksmanref01_Number.f k bt442.1 (l0_3.length : Int)).bind fun bt446 => (banksmanref21_Told.l0 k bt446.1 0 a0_0 a0_1 l0_2 l0_3)))))) = some (r1, r2) := by rw [if_pos rfl] at H; exact H
    clear H
    have H := H1
    clear H1
    replace H := Option.bind_eq_some_iff.mp H
    obtain ⟨⟨t433, t434⟩, A40, H⟩ := H
    replace H : ((banksmanref21_flag.f a0_1).bind fun t437 => ((banksmanref01_Number.f k t433 t437).bind fun bt438 => ((banksmanref01_Text.f k bt438.1 l0_2).bind fun bt442 => ((banksmanref01_Number.f k bt442.1 (l0_3.length : Int)).bind fun bt446 => (banksmanref21_Told.l0 k bt446.1 0 a0_0 a0_1 l0_2 l0_3))))) = some (r1, r2) := H
    have A4 := Aside0.mk A40
    clear A40
    replace H := Option.bind_eq_some_iff.mp H
    obtain ⟨t437, A50, H⟩ := H
    replace H : ((banksmanref01_Number.f k t433 t437).bind fun bt438 => ((banksmanref01_Text.f k bt438.1 l0_2).bind fun bt442 => ((banksmanref01_Number.f k bt442.1 (l0_3.length : Int)).bind fun bt446 => (banksmanref21_Told.l0 k bt446.1 0 a0_0 a0_1 l0_2 l0_3)))) = some (r1, r2) := H
    have A5 := Aside0.mk A50
    clear A50
    replace H := Option.bind_eq_some_iff.mp H
    obtain ⟨⟨t438, t439⟩, A60, H⟩ := H
    replace H : ((banksmanref01_Text.f k t438 l0_2).bind fun bt442 => ((banksmanref01_Number.f k bt442.1 (l0_3.length : Int)).bind fun bt446 => (banksmanref21_Told.l0 k bt446.1 0 a0_0 a0_1 l0_2 l0_3))) = some (r1, r2) := H
    have A6 := Aside0.mk A60
    clear A60
    replace H := Option.bind_eq_some_iff.mp H
    obtain ⟨⟨t442, t443⟩, A70, H⟩ := H
    replace H : ((banksmanref01_Number.f k t442 (l0_3.length : Int)).bind fun bt446 => (banksmanref21_Told.l0 k bt446.1 0 a0_0 a0_1 l0_2 l0_3)) = some (r1, r2) := H
    have A7 := Aside0.mk A70
    clear A70
    replace H := Option.bind_eq_some_iff.mp H
    obtain ⟨⟨t446, t447⟩, A80, H⟩ := H
    replace H : (banksmanref21_Told.l0 k t446 0 a0_0 a0_1 l0_2 l0_3) = some (r1, r2) := H
    have A8 := Aside0.mk A80
    clear A80
    have H' := Aside0.mk H
    clear H
    go_enter Try.func17, Try.ntmps17
    go_wp2_with (first | ((with_reducible refine gate_dst (N := 1) rfl ?_); refine box_event ?hg (N := 1) ?hd (cs := #[.int .i64 a0_0, .bool a0_1, .slice A0_2 l0_2.length c0_2, .slice A0_3 l0_3.length c0_3]) (t := 36) ?hr ?_; (case hd => rfl); (case hg => rfl); (case hr => first | (go_simp; done) | (go_simp; rfl)); intro gb431 hg w9 hbox hb; have n0_ := Aside0.mk (below_step (by repeat (first | (with_reducible first | exact HB.out | apply below_alloc | apply pw_below_drewN | apply below_drew1) | exact HB.out)) hb); have n1_ := Aside0.mk (hbox); have n2_ := Aside0.mk ((by rw [hg]; exact (below_size (by repeat (first | (with_reducible first | exact HB.out | apply below_alloc | apply pw_below_drewN | apply below_drew1) | exact HB.out))) : w.heap.size ≤ gb431)); have n3_ := Aside0.mk ((by rw [hg]; exact (below_size (by repeat (first | (with_reducible first | exact HB.out | apply below_alloc | apply pw_below_drewN | apply below_drew1) | exact HB.out))) : w.heap.size ≤ gb431)); clear HB; have HB := n0_; have BK431 := n1_; have GW431 := n2_; have GE431 := n3_; clear n0_ n1_ n2_ n3_; clear hb hbox hg; have hcz10_0 : w9.cell? ⟨gb431, 0, none⟩ = some (.int .i64 a0_0) := (blk_cell BK431.out 0).trans rfl; have hcz10_1 : w9.cell? ⟨gb431, 1, none⟩ = some (.bool a0_1) := (blk_cell BK431.out 1).trans rfl; have hcz10_2 : w9.cell? ⟨gb431, 2, none⟩ = some (.slice A0_2 l0_2.length c0_2) := (blk_cell BK431.out 2).trans rfl; have hcz10_3 : w9.cell? ⟨gb431, 3, none⟩ = some (.slice A0_3 l0_3.length c0_3) := (blk_cell BK431.out 3).trans rfl; have hfz10_0 := blk_frozen BK431.out 0; have hfz10_1 := blk_frozen BK431.out 1; have hfz10_2 := blk_frozen BK431.out 2; have hfz10_3 := blk_frozen BK431.out 3) | ((with_reducible refine gate_callee (f := 33) rfl ?_); refine goesL_ (some 9) rfl rfl Try.func33 (by kernel_rfl) rfl #[.agg #[.int .i64 a0_0, .bool a0_1, .slice A0_2 l0_2.length c0_2, .slice A0_3 l0_3.length c0_3]] rfl (by (try simp only [List.map_toArray, List.map_cons, List.map_nil]); first | done | rfl | (simp only [List.length_drop, List.length_take]; rfl)) ?_; (with_reducible refine (banksmanref21_Reply.calls k a0_0 a0_1 _ _ l0_2 _ _ l0_3 true _ ?side1 ?side2 ?side3 ?side4 A2.out).mono ?_); (case side1 => repeat (first | exact (Kd.C_below HR0_2.out HB.out) | (with_reducible refine Kd.C_alloc ?_ _) | (with_reducible refine Kd.C_drewN ?_ _) | (with_reducible refine Kd.C_drew ?_))); (case side2 => exact HC0_2.out); (case side3 => repeat (first | exact (Kd.C_below HR0_3.out HB.out) | (with_reducible refine Kd.C_alloc ?_ _) | (with_reducible refine Kd.C_drewN ?_ _) | (with_reducible refine Kd.C_drew ?_))); (case side4 => exact HC0_3.out); rintro e w11 ⟨rfl, hb⟩; refine ⟨_, rfl, ?_⟩; have n0_ := Aside0.mk (blk_below (g := gb431) (o := .cells #[.int .i64 a0_0, .bool a0_1, .slice A0_2 l0_2.length c0_2, .slice A0_3 l0_3.length c0_3] 36 (0, 0)) (by (with_reducible repeat (first | refine blk_drewN ?_ _ | refine blk_drew ?_ | refine blk_alloc ?_ _)); exact BK431.out) hb); have n1_ := Aside0.mk (below_step (by repeat (first | (with_reducible first | exact HB.out | apply below_alloc | apply pw_below_drewN | apply below_drew1 | refine below_set ?_ GE431.out) | exact HB.out)) hb); clear BK431; clear HB; have BK431 := n0_; have HB := n1_; clear n0_ n1_; (try clear hb); (try clear hb2); (try clear hk); (try clear hi); have hcz12_0 : w11.cell? ⟨gb431, 0, none⟩ = some (.int .i64 a0_0) := (blk_cell BK431.out 0).trans rfl; have hcz12_1 : w11.cell? ⟨gb431, 1, none⟩ = some (.bool a0_1) := (blk_cell BK431.out 1).trans rfl; have hcz12_2 : w11.cell? ⟨gb431, 2, none⟩ = some (.slice A0_2 l0_2.length c0_2) := (blk_cell BK431.out 2).trans rfl; have hcz12_3 : w11.cell? ⟨gb431, 3, none⟩ = some (.slice A0_3 l0_3.length c0_3) := (blk_cell BK431.out 3).trans rfl; have hfz12_0 := blk_frozen BK431.out 0; have hfz12_1 := blk_frozen BK431.out 1; have hfz12_2 := blk_frozen BK431.out 2; have hfz12_3 := blk_frozen BK431.out 3) | ((with_reducible refine gate_callee (f := 24) rfl ?_); refine goesL_ (some 15) rfl rfl Try.func24 (by kernel_rfl) rfl #[.slice none 0 0, .int .i64 a0_0] rfl (by (try simp only [List.map_toArray, List.map_cons, List.map_nil]); first | done | rfl | (simp only [List.length_drop, List.length_take]; rfl)) ?_; (refine (banksmanref01_Number.calls k _ _ ([] : List Int) a0_0 t433 t434 _ ?side1 ?side2 A4.out).mono ?_); (case side1 => exact Kd.C_nil _ _); (case side2 => exact Nat.le_refl _); rintro e w13 ⟨v435, rfl, ho0, hb⟩; refine ⟨_, rfl, ?_⟩; have n0_ := Aside0.mk (Kd.R_lower ho0 (below_size (by repeat (first | (with_reducible first | exact HB.out | apply below_alloc | apply pw_below_drewN | apply below_drew1 | refine below_set ?_ GE431.out) | exact HB.out)))); have n1_ := Aside0.mk (blk_below (g := gb431) (o := .cells #[.int .i64 a0_0, .bool a0_1, .slice A0_2 l0_2.length c0_2, .slice A0_3 l0_3.length c0_3] 36 (0, 0)) (by (with_reducible repeat (first | refine blk_drewN ?_ _ | refine blk_drew ?_ | refine blk_alloc ?_ _)); exact BK431.out) hb); have n2_ := Aside0.mk (below_step (by repeat (first | (with_reducible first | exact HB.out | apply below_alloc | apply pw_below_drewN | apply below_drew1 | refine below_set ?_ GE431.out) | exact HB.out)) hb); clear BK431; clear HB; have HO436 := n0_; have BK431 := n1_; have HB := n2_; clear n0_ n1_ n2_; (try clear hb); (try clear hb2); (try clear hk); (try clear hi); (try clear ho0); have hcz14_0 : w13.cell? ⟨gb431, 0, none⟩ = some (.int .i64 a0_0) := (blk_cell BK431.out 0).trans rfl; have hcz14_1 : w13.cell? ⟨gb431, 1, none⟩ = some (.bool a0_1) := (blk_cell BK431.out 1).trans rfl; have hcz14_2 : w13.cell? ⟨gb431, 2, none⟩ = some (.slice A0_2 l0_2.length c0_2) := (blk_cell BK431.out 2).trans rfl; have hcz14_3 : w13.cell? ⟨gb431, 3, none⟩ = some (.slice A0_3 l0_3.length c0_3) := (blk_cell BK431.out 3).trans rfl; have hfz14_0 := blk_frozen BK431.out 0; have hfz14_1 := blk_frozen BK431.out 1; have hfz14_2 := blk_frozen BK431.out 2; have hfz14_3 := blk_frozen BK431.out 3) | ((with_reducible refine gate_callee (f := 26) rfl ?_); refine goesL_ (some 22) rfl rfl Try.func26 (by kernel_rfl) rfl #[.bool a0_1] rfl (by (try simp only [List.map_toArray, List.map_cons, List.map_nil]); first | done | rfl | (simp only [List.length_drop, List.length_take]; rfl)) ?_; (with_reducible refine (banksmanref21_flag.calls a0_1 t437 _ A5.out).mono ?_); rintro e w' ⟨rfl, ⟨nd, rfl⟩⟩; refine ⟨_, rfl, ?_⟩; obtain ⟨Ao15, co15, eo15⟩ := Kd.R_slice HO436.out; subst eo15) | ((with_reducible refine gate_callee (f := 24) rfl ?_); refine goesL_ (some 23) rfl rfl Try.func24 (by kernel_rfl) rfl #[.slice Ao15 t433.length co15, .int .i64 t437] rfl (by (try simp only [List.map_toArray, List.map_cons, List.map_nil]); first | done | rfl | (simp only [List.length_drop, List.length_take]; rfl)) ?_; (with_reducible refine (banksmanref01_Number.calls k _ _ t433 t437 t438 t439 _ ?side1 ?side2 A6.out).mono ?_); (case side1 => repeat (first | exact (Kd.R_reads' HO436.out).2.2 | (with_reducible refine Kd.C_alloc ?_ _) | (with_reducible refine Kd.C_drewN ?_ _) | (with_reducible refine Kd.C_drew ?_))); (case side2 => exact (Kd.R_reads' HO436.out).2.1); rintro e w16 ⟨v440, rfl, ho0, hb⟩; refine ⟨_, rfl, ?_⟩; have n0_ := Aside0.mk (Kd.R_elder' (by (with_reducible repeat (first | apply Kd.R_alloc | apply Kd.R_drewN | apply Kd.R_drew)); exact HO436.out) (Kd.R_base ho0) hb); have n1_ := Aside0.mk (Kd.R_lower (Kd.R_new' ho0 (Kd.R_lt (by (with_reducible repeat (first | apply Kd.R_alloc | apply Kd.R_drewN | apply Kd.R_drew)); exact HO436.out))) (below_size (by repeat (first | (with_reducible first | exact HB.out | apply below_alloc | apply pw_below_drewN | apply below_drew1 | refine below_set ?_ GE431.out) | exact HB.out)))); have n2_ := Aside0.mk (blk_below (g := gb431) (o := .cells #[.int .i64 a0_0, .bool a0_1, .slice A0_2 l0_2.length c0_2, .slice A0_3 l0_3.length c0_3] 36 (0, 0)) (by (with_reducible repeat (first | refine blk_drewN ?_ _ | refine blk_drew ?_ | refine blk_alloc ?_ _)); exact BK431.out) hb); have n3_ := Aside0.mk (below_step (by repeat (first | (with_reducible first | exact HB.out | apply below_alloc | apply pw_below_drewN | apply below_drew1 | refine below_set ?_ GE431.out) | exact HB.out)) hb); clear HO436; clear BK431; clear HB; have HO436 := n0_; have HO441 := n1_; have BK431 := n2_; have HB := n3_; clear n0_ n1_ n2_ n3_; (try clear hb); (try clear hb2); (try clear hk); (try clear hi); (try clear ho0); have hcz17_0 : w16.cell? ⟨gb431, 0, none⟩ = some (.int .i64 a0_0) := (blk_cell BK431.out 0).trans rfl; have hcz17_1 : w16.cell? ⟨gb431, 1, none⟩ = some (.bool a0_1) := (blk_cell BK431.out 1).trans rfl; have hcz17_2 : w16.cell? ⟨gb431, 2, none⟩ = some (.slice A0_2 l0_2.length c0_2) := (blk_cell BK431.out 2).trans rfl; have hcz17_3 : w16.cell? ⟨gb431, 3, none⟩ = some (.slice A0_3 l0_3.length c0_3) := (blk_cell BK431.out 3).trans rfl; have hfz17_0 := blk_frozen BK431.out 0; have hfz17_1 := blk_frozen BK431.out 1; have hfz17_2 := blk_frozen BK431.out 2; have hfz17_3 := blk_frozen BK431.out 3; obtain ⟨Ao18, co18, eo18⟩ := Kd.R_slice HO441.out; subst eo18) | ((with_reducible refine gate_callee (f := 25) rfl ?_); refine goesL_ (some 30) rfl rfl Try.func25 (by kernel_rfl) rfl #[.slice Ao18 t438.length co18, .slice A0_2 l0_2.length c0_2] rfl (by (try simp only [List.map_toArray, List.map_cons, List.map_nil]); first | done | rfl | (simp only [List.length_drop, List.length_take]; rfl)) ?_; (with_reducible refine (banksmanref01_Text.calls k _ _ t438 _ _ l0_2 t442 t443 _ ?side1 ?side2 ?side3 ?side4 A7.out).mono ?_); (case side1 => repeat (first | exact (Kd.R_reads' HO441.out).2.2 | (with_reducible refine Kd.C_alloc ?_ _) | (with_reducible refine Kd.C_drewN ?_ _) | (with_reducible refine Kd.C_drew ?_))); (case side2 => exact (Kd.R_reads' HO441.out).2.1); (case side3 => repeat (first | exact (Kd.C_below HR0_2.out HB.out) | (with_reducible refine Kd.C_alloc ?_ _) | (with_reducible refine Kd.C_drewN ?_ _) | (with_reducible refine Kd.C_drew ?_))); (case side4 => exact HC0_2.out); rintro e w19 ⟨v444, rfl, ho0, hb⟩; refine ⟨_, rfl, ?_⟩; have n0_ := Aside0.mk (Kd.R_elder' (by (with_reducible repeat (first | apply Kd.R_alloc | apply Kd.R_drewN | apply Kd.R_drew)); exact HO436.out) (Kd.R_base ho0) hb); have n1_ := Aside0.mk (Kd.R_elder' (by (with_reducible repeat (first | apply Kd.R_alloc | apply Kd.R_drewN | apply Kd.R_drew)); exact HO441.out) (Kd.R_base ho0) hb); have n2_ := Aside0.mk (Kd.R_lower (Kd.R_new' (Kd.R_new' ho0 (Kd.R_lt (by (with_reducible repeat (first | apply Kd.R_alloc | apply Kd.R_drewN | apply Kd.R_drew)); exact HO436.out))) (Kd.R_lt (by (with_reducible repeat (first | apply Kd.R_alloc | apply Kd.R_drewN | apply Kd.R_drew)); exact HO441.out))) (below_size (by repeat (first | (with_reducible first | exact HB.out | apply below_alloc | apply pw_below_drewN | apply below_drew1 | refine below_set ?_ GE431.out) | exact HB.out)))); have n3_ := Aside0.mk (blk_below (g := gb431) (o := .cells #[.int .i64 a0_0, .bool a0_1, .slice A0_2 l0_2.length c0_2, .slice A0_3 l0_3.length c0_3] 36 (0, 0)) (by (with_reducible repeat (first | refine blk_drewN ?_ _ | refine blk_drew ?_ | refine blk_alloc ?_ _)); exact BK431.out) hb); have n4_ := Aside0.mk (below_step (by repeat (first | (with_reducible first | exact HB.out | apply below_alloc | apply pw_below_drewN | apply below_drew1 | refine below_set ?_ GE431.out) | exact HB.out)) hb); clear HO436; clear HO441; clear BK431; clear HB; have HO436 := n0_; have HO441 := n1_; have HO445 := n2_; have BK431 := n3_; have HB := n4_; clear n0_ n1_ n2_ n3_ n4_; (try clear hb); (try clear hb2); (try clear hk); (try clear hi); (try clear ho0); have hcz20_0 : w19.cell? ⟨gb431, 0, none⟩ = some (.int .i64 a0_0) := (blk_cell BK431.out 0).trans rfl; have hcz20_1 : w19.cell? ⟨gb431, 1, none⟩ = some (.bool a0_1) := (blk_cell BK431.out 1).trans rfl; have hcz20_2 : w19.cell? ⟨gb431, 2, none⟩ = some (.slice A0_2 l0_2.length c0_2) := (blk_cell BK431.out 2).trans rfl; have hcz20_3 : w19.cell? ⟨gb431, 3, none⟩ = some (.slice A0_3 l0_3.length c0_3) := (blk_cell BK431.out 3).trans rfl; have hfz20_0 := blk_frozen BK431.out 0; have hfz20_1 := blk_frozen BK431.out 1; have hfz20_2 := blk_frozen BK431.out 2; have hfz20_3 := blk_frozen BK431.out 3; obtain ⟨Ao21, co21, eo21⟩ := Kd.R_slice HO445.out; subst eo21) | ((with_reducible refine gate_callee (f := 24) rfl ?_); refine goesL_ (some 38) rfl rfl Try.func24 (by kernel_rfl) rfl #[.slice Ao21 t442.length co21, .int .i64 (l0_3.length : Int)] rfl (by (try simp only [List.map_toArray, List.map_cons, List.map_nil]); first | done | rfl | (simp only [List.length_drop, List.length_take]; rfl)) ?_; (with_reducible refine (banksmanref01_Number.calls k _ _ t442 (l0_3.length : Int) t446 t447 _ ?side1 ?side2 A8.out).mono ?_); (case side1 => repeat (first | exact (Kd.R_reads' HO445.out).2.2 | (with_reducible refine Kd.C_alloc ?_ _) | (with_reducible refine Kd.C_drewN ?_ _) | (with_reducible refine Kd.C_drew ?_))); (case side2 => exact (Kd.R_reads' HO445.out).2.1); rintro e w22 ⟨v448, rfl, ho0, hb⟩; refine ⟨_, rfl, ?_⟩; have n0_ := Aside0.mk (Kd.R_elder' (by (with_reducible repeat (first | apply Kd.R_alloc | apply Kd.R_drewN | apply Kd.R_drew)); exact HO436.out) (Kd.R_base ho0) hb); have n1_ := Aside0.mk (Kd.R_elder' (by (with_reducible repeat (first | apply Kd.R_alloc | apply Kd.R_drewN | apply Kd.R_drew)); exact HO441.out) (Kd.R_base ho0) hb); have n2_ := Aside0.mk (Kd.R_elder' (by (with_reducible repeat (first | apply Kd.R_alloc | apply Kd.R_drewN | apply Kd.R_drew)); exact HO445.out) (Kd.R_base ho0) hb); have n3_ := Aside0.mk (Kd.R_lower (Kd.R_new' (Kd.R_new' (Kd.R_new' ho0 (Kd.R_lt (by (with_reducible repeat (first | apply Kd.R_alloc | apply Kd.R_drewN | apply Kd.R_drew)); exact HO436.out))) (Kd.R_lt (by (with_reducible repeat (first | apply Kd.R_alloc | apply Kd.R_drewN | apply Kd.R_drew)); exact HO441.out))) (Kd.R_lt (by (with_reducible repeat (first | apply Kd.R_alloc | apply Kd.R_drewN | apply Kd.R_drew)); exact HO445.out))) (below_size (by repeat (first | (with_reducible first | exact HB.out | apply below_alloc | apply pw_below_drewN | apply below_drew1 | refine below_set ?_ GE431.out) | exact HB.out)))); have n4_ := Aside0.mk (blk_below (g := gb431) (o := .cells #[.int .i64 a0_0, .bool a0_1, .slice A0_2 l0_2.length c0_2, .slice A0_3 l0_3.length c0_3] 36 (0, 0)) (by (with_reducible repeat (first | refine blk_drewN ?_ _ | refine blk_drew ?_ | refine blk_alloc ?_ _)); exact BK431.out) hb); have n5_ := Aside0.mk (below_step (by repeat (first | (with_reducible first | exact HB.out | apply below_alloc | apply pw_below_drewN | apply below_drew1 | refine below_set ?_ GE431.out) | exact HB.out)) hb); clear HO436; clear HO441; clear HO445; clear BK431; clear HB; have HO436 := n0_; have HO441 := n1_; have HO445 := n2_; have HO449 := n3_; have BK431 := n4_; have HB := n5_; clear n0_ n1_ n2_ n3_ n4_ n5_; (try clear hb); (try clear hb2); (try clear hk); (try clear hi); (try clear ho0)))
    go_loopg [5, 7] k (fun kq v5 v7 w' => ∃ (x5_1 : List Int) (x7_1 : Int), v7 = .int .i64 x7_1 ∧ Aside0 (banksmanref21_Told.l0 kq x5_1 x7_1 a0_0 a0_1 l0_2 l0_3 = some (r1, r2)) ∧ Aside0 (kq ≤ k) ∧ Aside0 (Kd.R (Kd.int .u8) 5 w' w.heap.size (fun _ => True) v5 x5_1) ∧ Aside0 (w'.heap[gb431]? = some (.cells #[.int .i64 a0_0, .bool a0_1, (.slice A0_2 l0_2.length c0_2), (.slice A0_3 l0_3.length c0_3)] 36 (0, 0))) ∧ Aside0 (Below w.heap.size w w'))
    case atStart => exact ⟨(t446), (0), (by first | rfl | (simp; done) | (simp [*]; done)), H', ⟨Nat.le_refl _⟩, ⟨by (with_reducible repeat (first | apply Kd.R_alloc | apply Kd.R_drewN | apply Kd.R_drew)); exact Kd.R_mono HO449.out (fun _ hk => trivial)⟩, ⟨by (with_reducible repeat (first | refine blk_drewN ?_ _ | refine blk_drew ?_ | refine blk_alloc ?_ _)); exact BK431.out⟩, ⟨by repeat (first | (with_reducible first | exact HB.out | apply below_alloc | apply pw_below_drewN | apply below_drew1 | refine below_set ?_ GE431.out) | exact HB.out)⟩⟩
    case round =>
      clear H'
      try clear c1
      try clear c2
      try clear p2
      try clear c3
      try clear c17
      try clear hcz10_0
      try clear hcz10_1
      try clear hcz10_2
      try clear hcz10_3
      try clear hcz12_0
      try clear hcz12_1
      try clear hcz12_2
      try clear hcz12_3
      try clear hcz14_0
      try clear hcz14_1
      try clear hcz14_2
      try clear hcz14_3
      try clear hcz17_0
      try clear hcz17_1
      try clear hcz17_2
      try clear hcz17_3
      try clear hcz20_0
      try clear hcz20_1
      try clear hcz20_2
      try clear hcz20_3
      try clear hfz10_0
      try clear hfz10_1
      try clear hfz10_2
      try clear hfz10_3
      try clear hfz12_0
      try clear hfz12_1
      try clear hfz12_2
      try clear hfz12_3
      try clear hfz14_0
      try clear hfz14_1
      try clear hfz14_2
      try clear hfz14_3
      try clear hfz17_0
      try clear hfz17_1
      try clear hfz17_2
      try clear hfz17_3
      try clear hfz20_0
      try clear hfz20_1
      try clear hfz20_2
      try clear hfz20_3
      obtain ⟨x5_1, x7_1, rfl, HA, HK1, HO_5, BK431, HB⟩ := hrel
      cases gk with
      | zero => exact absurd HA.out (by simp [banksmanref21_Told.l0])
      | succ k1 =>
        have H := HA.out
        clear HA
        simp only [banksmanref21_Told.l0] at H
        by_cases c23 : x7_1 < (l0_3.length : Int)
        · rw [if_pos c23] at H
          have c23b0 : decide (x7_1 < (l0_3.length : Int)) = true := decide_eq_true c23
          clear c23
          by_cases c24 : 0 ≤ x7_1
          · rw [if_pos c24] at H
            have c24b0 : decide (0 ≤ x7_1) = true := decide_eq_true c24
            clear c24
            replace H := Option.bind_eq_some_iff.mp H
            obtain ⟨⟨t451, t452⟩, A250, H⟩ := H
            replace H : ((banksmanref01_Text.f k1 t451 ((rd_T47 l0_3 x7_1).f1)).bind fun bt456 => (banksmanref21_Told.l0 k1 bt456.1 (wrap64 (x7_1 + 1)) a0_0 a0_1 l0_2 l0_3)) = some (r1, r2) := H
            have A25 := Aside0.mk A250
            clear A250
            replace H := Option.bind_eq_some_iff.mp H
            obtain ⟨⟨t456, t457⟩, A260, H⟩ := H
            replace H : (banksmanref21_Told.l0 k1 t456 (wrap64 (x7_1 + 1)) a0_0 a0_1 l0_2 l0_3) = some (r1, r2) := H
            have A26 := Aside0.mk A260
            clear A260
            have H' := Aside0.mk H
            clear H
            have hcz27_0 : wr.cell? ⟨gb431, 0, none⟩ = some (.int .i64 a0_0) := (blk_cell BK431.out 0).trans rfl
            have hcz27_1 : wr.cell? ⟨gb431, 1, none⟩ = some (.bool a0_1) := (blk_cell BK431.out 1).trans rfl
            have hcz27_2 : wr.cell? ⟨gb431, 2, none⟩ = some (.slice A0_2 l0_2.length c0_2) := (blk_cell BK431.out 2).trans rfl
            have hcz27_3 : wr.cell? ⟨gb431, 3, none⟩ = some (.slice A0_3 l0_3.length c0_3) := (blk_cell BK431.out 3).trans rfl
            have hfz27_0 := blk_frozen BK431.out 0
            have hfz27_1 := blk_frozen BK431.out 1
            have hfz27_2 := blk_frozen BK431.out 2
            have hfz27_3 := blk_frozen BK431.out 3
            have p450 : 0 ≤ (x7_1 : Int) := of_decide_eq_true (by first | (with_reducible assumption) | assumption)
            have q450 : x7_1 < (l0_3.length : Int) := of_decide_eq_true (by first | (with_reducible assumption) | assumption)
            obtain ⟨ad450, A450_0, c450_0, A450_1, c450_1, e450, hx450_0, hx450_1, hl450_0, hi450_0, hl450_1, hi450_1⟩ := at_T47 HR0_3.out x7_1 p450 q450
            cases e450
            replace hx450_0 := (HB.out.cell (World.block_lt_of_cell? w _ hx450_0)).trans hx450_0
            replace hx450_1 := (HB.out.cell (World.block_lt_of_cell? w _ hx450_1)).trans hx450_1
            have HR450_0 := Aside0.mk hi450_0
            have HC450_0 := Aside0.mk hl450_0
            clear hi450_0 hl450_0
            have HR450_1 := Aside0.mk hi450_1
            have HC450_1 := Aside0.mk hl450_1
            clear hi450_1 hl450_1
            replace p450 := eq_true p450
            replace q450 := eq_true q450
            obtain ⟨Ao28, co28, eo28⟩ := Kd.R_slice HO_5.out
            subst eo28
            go_wp2_with (first | ((with_reducible refine gate_callee (f := 25) rfl ?_); refine goesL_ (some 56) rfl rfl Try.func25 (by kernel_rfl) rfl #[.slice Ao28 x5_1.length co28, .slice A450_0 ((rd_T47 l0_3 x7_1).f0).length c450_0] rfl (by (try simp only [List.map_toArray, List.map_cons, List.map_nil]); first | done | rfl | (simp only [List.length_drop, List.length_take]; rfl)) ?_; (with_reducible refine (banksmanref01_Text.calls k1 _ _ x5_1 _ _ ((rd_T47 l0_3 x7_1).f0) t451 t452 _ ?side1 ?side2 ?side3 ?side4 A25.out).mono ?_); (case side1 => repeat (first | exact (Kd.R_reads' HO_5.out).2.2 | (with_reducible refine Kd.C_alloc ?_ _) | (with_reducible refine Kd.C_drewN ?_ _) | (with_reducible refine Kd.C_drew ?_))); (case side2 => exact (Kd.R_reads' HO_5.out).2.1); (case side3 => repeat (first | exact (Kd.C_below HR450_0.out HB.out) | (with_reducible refine Kd.C_alloc ?_ _) | (with_reducible refine Kd.C_drewN ?_ _) | (with_reducible refine Kd.C_drew ?_))); (case side4 => exact HC450_0.out); rintro e w29 ⟨v453, rfl, ho0, hb⟩; refine ⟨_, rfl, ?_⟩; have n0_ := Aside0.mk (Kd.R_elder' (by (with_reducible repeat (first | apply Kd.R_alloc | apply Kd.R_drewN | apply Kd.R_drew)); exact HO_5.out) (Kd.R_base ho0) hb); have n1_ := Aside0.mk (Kd.R_lower (Kd.R_new' ho0 (Kd.R_lt (by (with_reducible repeat (first | apply Kd.R_alloc | apply Kd.R_drewN | apply Kd.R_drew)); exact HO_5.out))) (below_size (by repeat (first | (with_reducible first | exact HB.out | apply below_alloc | apply pw_below_drewN | apply below_drew1 | refine below_set ?_ GE431.out) | exact HB.out)))); have n2_ := Aside0.mk (blk_below (g := gb431) (o := .cells #[.int .i64 a0_0, .bool a0_1, .slice A0_2 l0_2.length c0_2, .slice (some ad450) l0_3.length c0_3] 36 (0, 0)) (by (with_reducible repeat (first | refine blk_drewN ?_ _ | refine blk_drew ?_ | refine blk_alloc ?_ _)); exact BK431.out) hb); have n3_ := Aside0.mk (below_step (by repeat (first | (with_reducible first | exact HB.out | apply below_alloc | apply pw_below_drewN | apply below_drew1 | refine below_set ?_ GE431.out) | exact HB.out)) hb); clear HO_5; clear BK431; clear HB; have HO_5 := n0_; have HO454 := n1_; have BK431 := n2_; have HB := n3_; clear n0_ n1_ n2_ n3_; (try clear hb); (try clear hb2); (try clear hk); (try clear hi); (try clear ho0); have hcz30_0 : w29.cell? ⟨gb431, 0, none⟩ = some (.int .i64 a0_0) := (blk_cell BK431.out 0).trans rfl; have hcz30_1 : w29.cell? ⟨gb431, 1, none⟩ = some (.bool a0_1) := (blk_cell BK431.out 1).trans rfl; have hcz30_2 : w29.cell? ⟨gb431, 2, none⟩ = some (.slice A0_2 l0_2.length c0_2) := (blk_cell BK431.out 2).trans rfl; have hcz30_3 : w29.cell? ⟨gb431, 3, none⟩ = some (.slice (some ad450) l0_3.length c0_3) := (blk_cell BK431.out 3).trans rfl; have hfz30_0 := blk_frozen BK431.out 0; have hfz30_1 := blk_frozen BK431.out 1; have hfz30_2 := blk_frozen BK431.out 2; have hfz30_3 := blk_frozen BK431.out 3; have p455 : 0 ≤ (x7_1 : Int) := of_decide_eq_true (by first | (with_reducible assumption) | assumption); have q455 : x7_1 < (l0_3.length : Int) := of_decide_eq_true (by first | (with_reducible assumption) | assumption); obtain ⟨ad455, A455_0, c455_0, A455_1, c455_1, e455, hx455_0, hx455_1, hl455_0, hi455_0, hl455_1, hi455_1⟩ := at_T47 HR0_3.out x7_1 p455 q455; obtain rfl : ad450 = ad455 := (by injection e455); replace hx455_0 := (HB.out.cell (World.block_lt_of_cell? w _ hx455_0)).trans hx455_0; replace hx455_1 := (HB.out.cell (World.block_lt_of_cell? w _ hx455_1)).trans hx455_1; have HR455_0 := Aside0.mk hi455_0; have HC455_0 := Aside0.mk hl455_0; clear hi455_0 hl455_0; have HR455_1 := Aside0.mk hi455_1; have HC455_1 := Aside0.mk hl455_1; clear hi455_1 hl455_1; replace p455 := eq_true p455; replace q455 := eq_true q455; obtain ⟨Ao31, co31, eo31⟩ := Kd.R_slice HO454.out; subst eo31) | ((with_reducible refine gate_callee (f := 25) rfl ?_); refine goesL_ (some 67) rfl rfl Try.func25 (by kernel_rfl) rfl #[.slice Ao31 t451.length co31, .slice A455_1 ((rd_T47 l0_3 x7_1).f1).length c455_1] rfl (by (try simp only [List.map_toArray, List.map_cons, List.map_nil]); first | done | rfl | (simp only [List.length_drop, List.length_take]; rfl)) ?_; (with_reducible refine (banksmanref01_Text.calls k1 _ _ t451 _ _ ((rd_T47 l0_3 x7_1).f1) t456 t457 _ ?side1 ?side2 ?side3 ?side4 A26.out).mono ?_); (case side1 => repeat (first | exact (Kd.R_reads' HO454.out).2.2 | (with_reducible refine Kd.C_alloc ?_ _) | (with_reducible refine Kd.C_drewN ?_ _) | (with_reducible refine Kd.C_drew ?_))); (case side2 => exact (Kd.R_reads' HO454.out).2.1); (case side3 => repeat (first | exact (Kd.C_below HR455_1.out HB.out) | (with_reducible refine Kd.C_alloc ?_ _) | (with_reducible refine Kd.C_drewN ?_ _) | (with_reducible refine Kd.C_drew ?_))); (case side4 => exact HC455_1.out); rintro e w32 ⟨v458, rfl, ho0, hb⟩; refine ⟨_, rfl, ?_⟩; have n0_ := Aside0.mk (Kd.R_elder' (by (with_reducible repeat (first | apply Kd.R_alloc | apply Kd.R_drewN | apply Kd.R_drew)); exact HO_5.out) (Kd.R_base ho0) hb); have n1_ := Aside0.mk (Kd.R_elder' (by (with_reducible repeat (first | apply Kd.R_alloc | apply Kd.R_drewN | apply Kd.R_drew)); exact HO454.out) (Kd.R_base ho0) hb); have n2_ := Aside0.mk (Kd.R_lower (Kd.R_new' (Kd.R_new' ho0 (Kd.R_lt (by (with_reducible repeat (first | apply Kd.R_alloc | apply Kd.R_drewN | apply Kd.R_drew)); exact HO_5.out))) (Kd.R_lt (by (with_reducible repeat (first | apply Kd.R_alloc | apply Kd.R_drewN | apply Kd.R_drew)); exact HO454.out))) (below_size (by repeat (first | (with_reducible first | exact HB.out | apply below_alloc | apply pw_below_drewN | apply below_drew1 | refine below_set ?_ GE431.out) | exact HB.out)))); have n3_ := Aside0.mk (blk_below (g := gb431) (o := .cells #[.int .i64 a0_0, .bool a0_1, .slice A0_2 l0_2.length c0_2, .slice (some ad450) l0_3.length c0_3] 36 (0, 0)) (by (with_reducible repeat (first | refine blk_drewN ?_ _ | refine blk_drew ?_ | refine blk_alloc ?_ _)); exact BK431.out) hb); have n4_ := Aside0.mk (below_step (by repeat (first | (with_reducible first | exact HB.out | apply below_alloc | apply pw_below_drewN | apply below_drew1 | refine below_set ?_ GE431.out) | exact HB.out)) hb); clear HO_5; clear HO454; clear BK431; clear HB; have HO_5 := n0_; have HO454 := n1_; have HO459 := n2_; have BK431 := n3_; have HB := n4_; clear n0_ n1_ n2_ n3_ n4_; (try clear hb); (try clear hb2); (try clear hk); (try clear hi); (try clear ho0)))
            go_roundg k1
            case measure => have := HK1.out; omega
            case rel => exact ⟨(t456), (wrap64 (x7_1 + 1)), (by first | rfl | (simp; done) | (simp [*]; done)), H', ⟨by have := HK1.out; omega⟩, ⟨by (with_reducible repeat (first | apply Kd.R_alloc | apply Kd.R_drewN | apply Kd.R_drew)); exact Kd.R_mono HO459.out (fun _ hk => trivial)⟩, ⟨by (with_reducible repeat (first | refine blk_drewN ?_ _ | refine blk_drew ?_ | refine blk_alloc ?_ _)); exact BK431.out⟩, ⟨by repeat (first | (with_reducible first | exact HB.out | apply below_alloc | apply pw_below_drewN | apply below_drew1 | refine below_set ?_ GE431.out) | exact HB.out)⟩⟩
          · rw [if_neg c24] at H
            exact absurd H (by simp)
        · rw [if_neg c23] at H
          have c23b0 : decide (x7_1 < (l0_3.length : Int)) = false := decide_eq_false c23
          clear c23
          simp only [Option.some.injEq, Prod.mk.injEq] at H
          obtain ⟨rfl, rfl⟩ := H
          have hcz33_0 : wr.cell? ⟨gb431, 0, none⟩ = some (.int .i64 a0_0) := (blk_cell BK431.out 0).trans rfl
          have hcz33_1 : wr.cell? ⟨gb431, 1, none⟩ = some (.bool a0_1) := (blk_cell BK431.out 1).trans rfl
          have hcz33_2 : wr.cell? ⟨gb431, 2, none⟩ = some (.slice A0_2 l0_2.length c0_2) := (blk_cell BK431.out 2).trans rfl
          have hcz33_3 : wr.cell? ⟨gb431, 3, none⟩ = some (.slice A0_3 l0_3.length c0_3) := (blk_cell BK431.out 3).trans rfl
          have hfz33_0 := blk_frozen BK431.out 0
          have hfz33_1 := blk_frozen BK431.out 1
          have hfz33_2 := blk_frozen BK431.out 2
          have hfz33_3 := blk_frozen BK431.out 3
          go_wp2
          go_ret2
          exact ⟨_, by first | rfl | (simp [errW_none, errW_some] <;> rfl) | (simp [*, errW_none, errW_some] <;> rfl), by (with_reducible repeat (first | apply Kd.R_alloc | apply Kd.R_drewN | apply Kd.R_drew)); exact HO_5.out, by repeat (first | (with_reducible first | exact HB.out | apply below_alloc | apply pw_below_drewN | apply below_drew1 | refine below_set ?_ GE431.out) | exact HB.out)⟩
  · replace c3 := Bool.eq_false_iff.mpr c3
    subst c3
    have H1 : (some (([] : List Int), 210)) = some (r1, r2) := by rw [if_neg (show ¬ (false = true) by decide)] at H; exact H
    clear H
    have H := H1
    clear H1
    simp only [Option.some.injEq, Prod.mk.injEq] at H
    obtain ⟨rfl, rfl⟩ := H
    go_enter Try.func17, Try.ntmps17
    go_wp2_with (first | ((with_reducible refine gate_dst (N := 1) rfl ?_); refine box_event ?hg (N := 1) ?hd (cs := #[.int .i64 a0_0, .bool a0_1, .slice A0_2 l0_2.length c0_2, .slice A0_3 l0_3.length c0_3]) (t := 36) ?hr ?_; (case hd => rfl); (case hg => rfl); (case hr => first | (go_simp; done) | (go_simp; rfl)); intro gb431 hg w34 hbox hb; have n0_ := Aside0.mk (below_step (by repeat (first | (with_reducible first | exact HB.out | apply below_alloc | apply pw_below_drewN | apply below_drew1) | exact HB.out)) hb); have n1_ := Aside0.mk (hbox); have n2_ := Aside0.mk ((by rw [hg]; exact (below_size (by repeat (first | (with_reducible first | exact HB.out | apply below_alloc | apply pw_below_drewN | apply below_drew1) | exact HB.out))) : w.heap.size ≤ gb431)); have n3_ := Aside0.mk ((by rw [hg]; exact (below_size (by repeat (first | (with_reducible first | exact HB.out | apply below_alloc | apply pw_below_drewN | apply below_drew1) | exact HB.out))) : w.heap.size ≤ gb431)); clear HB; have HB := n0_; have BK431 := n1_; have GW431 := n2_; have GE431 := n3_; clear n0_ n1_ n2_ n3_; clear hb hbox hg; have hcz35_0 : w34.cell? ⟨gb431, 0, none⟩ = some (.int .i64 a0_0) := (blk_cell BK431.out 0).trans rfl; have hcz35_1 : w34.cell? ⟨gb431, 1, none⟩ = some (.bool a0_1) := (blk_cell BK431.out 1).trans rfl; have hcz35_2 : w34.cell? ⟨gb431, 2, none⟩ = some (.slice A0_2 l0_2.length c0_2) := (blk_cell BK431.out 2).trans rfl; have hcz35_3 : w34.cell? ⟨gb431, 3, none⟩ = some (.slice A0_3 l0_3.length c0_3) := (blk_cell BK431.out 3).trans rfl; have hfz35_0 := blk_frozen BK431.out 0; have hfz35_1 := blk_frozen BK431.out 1; have hfz35_2 := blk_frozen BK431.out 2; have hfz35_3 := blk_frozen BK431.out 3) | ((with_reducible refine gate_callee (f := 33) rfl ?_); refine goesL_ (some 9) rfl rfl Try.func33 (by kernel_rfl) rfl #[.agg #[.int .i64 a0_0, .bool a0_1, .slice A0_2 l0_2.length c0_2, .slice A0_3 l0_3.length c0_3]] rfl (by (try simp only [List.map_toArray, List.map_cons, List.map_nil]); first | done | rfl | (simp only [List.length_drop, List.length_take]; rfl)) ?_; (with_reducible refine (banksmanref21_Reply.calls k a0_0 a0_1 _ _ l0_2 _ _ l0_3 false _ ?side1 ?side2 ?side3 ?side4 A2.out).mono ?_); (case side1 => repeat (first | exact (Kd.C_below HR0_2.out HB.out) | (with_reducible refine Kd.C_alloc ?_ _) | (with_reducible refine Kd.C_drewN ?_ _) | (with_reducible refine Kd.C_drew ?_))); (case side2 => exact HC0_2.out); (case side3 => repeat (first | exact (Kd.C_below HR0_3.out HB.out) | (with_reducible refine Kd.C_alloc ?_ _) | (with_reducible refine Kd.C_drewN ?_ _) | (with_reducible refine Kd.C_drew ?_))); (case side4 => exact HC0_3.out); rintro e w36 ⟨rfl, hb⟩; refine ⟨_, rfl, ?_⟩; have n0_ := Aside0.mk (blk_below (g := gb431) (o := .cells #[.int .i64 a0_0, .bool a0_1, .slice A0_2 l0_2.length c0_2, .slice A0_3 l0_3.length c0_3] 36 (0, 0)) (by (with_reducible repeat (first | refine blk_drewN ?_ _ | refine blk_drew ?_ | refine blk_alloc ?_ _)); exact BK431.out) hb); have n1_ := Aside0.mk (below_step (by repeat (first | (with_reducible first | exact HB.out | apply below_alloc | apply pw_below_drewN | apply below_drew1 | refine below_set ?_ GE431.out) | exact HB.out)) hb); clear BK431; clear HB; have BK431 := n0_; have HB := n1_; clear n0_ n1_; (try clear hb); (try clear hb2); (try clear hk); (try clear hi)))
    go_ret2
    exact ⟨_, by first | rfl | (simp [errW_none, errW_some] <;> rfl) | (simp [*, errW_none, errW_some] <;> rfl), by first | exact Kd.R_nil _ _ _ _ _ | exact Kd.N_nil _ _ _ _ _ | exact Kd.V_nil _ _ _ _ _ | exact Kd.Q_nil _ _ _ _ _ | exact Kd.S_nil _ _ _ _ _, by repeat (first | (with_reducible first | exact HB.out | apply below_alloc | apply pw_below_drewN | apply below_drew1 | refine below_set ?_ GE431.out) | exact HB.out)⟩
end Go.Proofs.Ytfbjabpjfalmlaa.P
