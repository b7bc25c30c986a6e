import Derived.Test.YtfbjabpjfalmlaaPx0
import Derived.Test.YtfbjabpjfalmlaaPx42
import Derived.Test.YtfbjabpjfalmlaaPx43
import Derived.Test.YtfbjabpjfalmlaaPx48
namespace Go.Proofs.Ytfbjabpjfalmlaa.P
open Go.RowKit Go.Proofs.YtfbjabpjfalmlaaW.PrintWords Go.Proofs.YtfbjabpjfalmlaaW.PrintLast Go.Proofs.YtfbjabpjfalmlaaW.PrintMore
attribute [local go_sem] max2_int min2_int max_two min_two max_three min_three max_four min_four
set_option linter.unusedVariables false
set_option linter.unusedSimpArgs false
mutual
def banksmanref21_Tell.j0 : Nat → List Int → Int → Int → List Int → Int → List Int → Bool → Option (Int × Bool × List Int × (List (S47)) × List Int × Int)
  | 0, _, _, _, _, _, _, _ => none
  | k + 1, x0, x5, x8, x11, x14, x15, x68 => if x68 = true then (some (0, false, ([] : List Int), ([] : List (S47)), ([] : List Int), 210)) else (banksmanref21_Tell.l0 k x0 x14 x15 0 x5 (x8 == 1) x11 ([] : List (S47)))
def banksmanref21_Tell.l0 : Nat → List Int → Int → List Int → Int → Int → Bool → List Int → List (S47) → Option (Int × Bool × List Int × (List (S47)) × List Int × Int)
  | 0, _, _, _, _, _, _, _, _ => none
  | k + 1, x0, x14, x15, x18, x484000, x484001, x484002, x484003 => if x18 < x14 then ((banksmanref01_TakeText.f k x15).bind fun bt495 => ((banksmanref01_TakeText.f k bt495.2.1).bind fun bt502 => (if bt495.2.2 = 0 then (if bt502.2.2 = 0 then (if x484003.length < 2932031007402 then (banksmanref21_Tell.l0 k x0 x14 bt502.2.1 (wrap64 (x18 + 1)) x484000 x484001 x484002 (x484003 ++ [(⟨bt495.1, bt502.1⟩ : S47)])) else (none)) else (some (0, false, ([] : List Int), ([] : List (S47)), ([] : List Int), 210))) else (some (0, false, ([] : List Int), ([] : List (S47)), ([] : List Int), 210))))) else ((banksmanref21_Told.f k x484000 x484001 x484002 x484003).bind fun bt484 => (if bt484.2 = 0 then (if (bt484.1.length : Int) > (x0.length : Int) then (some (0, false, ([] : List Int), ([] : List (S47)), ([] : List Int), 210)) else (if 0 ≤ (bt484.1.length : Int) then (if (bt484.1.length : Int) ≤ (x0.length : Int) then (if (strOfNums bt484.1).toList = (strOfNums (x0.take ((bt484.1.length : Int) : Int).toNat)).toList then ((some (([] : List Int) : List Int)).bind fun y489 => (if y489.length + x15.length < 140737488355328 then (some (x484000, x484001, x484002, x484003, (y489 ++ x15), 0)) else (none))) else (some (0, false, ([] : List Int), ([] : List (S47)), ([] : List Int), 210))) else (none)) else (none))) else (some (0, false, ([] : List Int), ([] : List (S47)), ([] : List Int), 210))))
end
def banksmanref21_Tell.f (k : Nat) (l0 : List Int) : Option (Int × Bool × List Int × (List (S47)) × List Int × Int) := (banksmanref01_Take.f k l0).bind fun bt461 => ((banksmanref01_Take.f k bt461.2.1).bind fun bt466 => ((banksmanref01_TakeText.f k bt466.2.1).bind fun bt471 => ((banksmanref01_Take.f k bt471.2.1).bind fun bt478 => (if bt461.2.2 = 0 then (if bt466.2.2 = 0 then (if bt471.2.2 = 0 then (if bt478.2.2 = 0 then (banksmanref21_Tell.j0 k l0 bt461.1 bt466.1 bt471.1 bt478.1 bt478.2.1 (decide (bt478.1 > 80))) else (banksmanref21_Tell.j0 k l0 bt461.1 bt466.1 bt471.1 bt478.1 bt478.2.1 true)) else (banksmanref21_Tell.j0 k l0 bt461.1 bt466.1 bt471.1 bt478.1 bt478.2.1 true)) else (banksmanref21_Tell.j0 k l0 bt461.1 bt466.1 bt471.1 bt478.1 bt478.2.1 true)) else (banksmanref21_Tell.j0 k l0 bt461.1 bt466.1 bt471.1 bt478.1 bt478.2.1 true)))))
theorem banksmanref21_Tell.mono_l : ∀ k, (∀ y0 y1 y2 y3 y4 y5 y6, LeO (banksmanref21_Tell.j0 k y0 y1 y2 y3 y4 y5 y6) (banksmanref21_Tell.j0 (k + 1) y0 y1 y2 y3 y4 y5 y6)) ∧ (∀ y0 y1 y2 y3 y4 y5 y6 y7, LeO (banksmanref21_Tell.l0 k y0 y1 y2 y3 y4 y5 y6 y7) (banksmanref21_Tell.l0 (k + 1) y0 y1 y2 y3 y4 y5 y6 y7))
  | 0 => ⟨fun _ _ _ _ _ _ _ r h => by simp [banksmanref21_Tell.j0] at h, fun _ _ _ _ _ _ _ _ r h => by simp [banksmanref21_Tell.l0] at h⟩
  | k + 1 => by
    obtain ⟨ih0, ih1⟩ := banksmanref21_Tell.mono_l k
    refine ⟨?_, ?_⟩
    · intro y0 y1 y2 y3 y4 y5 y6
      unfold banksmanref21_Tell.j0
      repeat' first
      | (with_reducible exact ih0 _ _ _ _ _ _ _)
      | (with_reducible exact ih1 _ _ _ _ _ _ _ _)
      | (with_reducible exact banksmanref01_Take.mono _ _)
      | (with_reducible exact banksmanref01_TakeText.mono _ _)
      | (with_reducible exact banksmanref21_Told.mono _ _ _ _ _)
      | (with_reducible exact LeO.refl _)
      | (with_reducible exact LeO.none _)
      | (with_reducible refine LeO.ite ?_ ?_)
      | (with_reducible refine LeO.bind ?_ (fun _ => ?_))
      | exact ih0 _ _ _ _ _ _ _
      | exact ih1 _ _ _ _ _ _ _ _
      | exact banksmanref01_Take.mono _ _
      | exact banksmanref01_TakeText.mono _ _
      | exact banksmanref21_Told.mono _ _ _ _ _
      | exact LeO.none _
      | refine LeO.ite ?_ ?_
      | refine LeO.bind ?_ (fun _ => ?_)
    · intro y0 y1 y2 y3 y4 y5 y6 y7
      unfold banksmanref21_Tell.l0
      repeat' first
      | (with_reducible exact ih0 _ _ _ _ _ _ _)
      | (with_reducible exact ih1 _ _ _ _ _ _ _ _)
      | (with_reducible exact banksmanref01_Take.mono _ _)
      | (with_reducible exact banksmanref01_TakeText.mono _ _)
      | (with_reducible exact banksmanref21_Told.mono _ _ _ _ _)
      | (with_reducible exact LeO.refl _)
      | (with_reducible exact LeO.none _)
      | (with_reducible refine LeO.ite ?_ ?_)
      | (with_reducible refine LeO.bind ?_ (fun _ => ?_))
      | exact ih0 _ _ _ _ _ _ _
      | exact ih1 _ _ _ _ _ _ _ _
      | exact banksmanref01_Take.mono _ _
      | exact banksmanref01_TakeText.mono _ _
      | exact banksmanref21_Told.mono _ _ _ _ _
      | exact LeO.none _
      | refine LeO.ite ?_ ?_
      | refine LeO.bind ?_ (fun _ => ?_)
theorem banksmanref21_Tell.mono : ∀ a0 k, LeO (banksmanref21_Tell.f k a0) (banksmanref21_Tell.f (k + 1) a0) := by
  intro a0 k
  obtain ⟨ih0, ih1⟩ := banksmanref21_Tell.mono_l k
  unfold banksmanref21_Tell.f
  repeat' first
      | (with_reducible exact ih0 _ _ _ _ _ _ _)
      | (with_reducible exact ih1 _ _ _ _ _ _ _ _)
      | (with_reducible exact banksmanref01_Take.mono _ _)
      | (with_reducible exact banksmanref01_TakeText.mono _ _)
      | (with_reducible exact banksmanref21_Told.mono _ _ _ _ _)
      | (with_reducible exact LeO.refl _)
      | (with_reducible exact LeO.none _)
      | (with_reducible refine LeO.ite ?_ ?_)
      | (with_reducible refine LeO.bind ?_ (fun _ => ?_))
      | exact ih0 _ _ _ _ _ _ _
      | exact ih1 _ _ _ _ _ _ _ _
      | exact banksmanref01_Take.mono _ _
      | exact banksmanref01_TakeText.mono _ _
      | exact banksmanref21_Told.mono _ _ _ _ _
      | exact LeO.none _
      | refine LeO.ite ?_ ?_
      | refine LeO.bind ?_ (fun _ => ?_)
def banksmanref21_Tell.T18 : Bool × List (List Nat × List Nat) := (true, [([], []), ([0], [0]), ([1], [1]), ([2], [2]), ([3, 2], [2, 3]), ([2], [2]), ([5, 2], [2, 5]), ([4, 6, 2], [2, 4, 6]), ([2, 7], [2, 7]), ([8, 2], [8]), ([9], [9]), ([10, 9], [9, 10]), ([9], [9]), ([9], [9]), ([13, 9], [9, 13]), ([12, 14, 9], [9, 12, 14]), ([15, 9], [9, 15]), ([11, 16, 9], [9, 11, 16]), ([9, 17], [9, 17])])
def banksmanref21_Tell.B18 : List Nat := [0, 1, 3, 7, 15, 7, 39, 127, 255, 511, 1023, 2047, 1023, 1023, 9215, 29695, 62463, 131071, 262143]
theorem banksmanref21_Tell.tab18 : rtab .any (opsOf Try.f19 18) = banksmanref21_Tell.T18 := by kernel_rfl
theorem banksmanref21_Tell.bits18 : waitsOk banksmanref21_Tell.T18.2 banksmanref21_Tell.B18 = true := by kernel_rfl
set_option maxHeartbeats 8000000 in
set_option maxRecDepth 100000 in
theorem banksmanref21_Tell.calls (k : Nat) (A0 : Option Addr) (c0 : Nat) (l0 : List Int) (r1 : Int) (r2 : Bool) (r3 : List Int) (r4 : List (S47)) (r5 : List Int) (r6 : Int) (w : World) (hr0 : Kd.C (Kd.int .u8) w A0 l0.length l0) (hc0 : l0.length ≤ c0) (h : banksmanref21_Tell.f k l0 = some (r1, r2, r3, r4, r5, r6)) :
    Calls Try.prog 19 #[.slice A0 l0.length c0] w fun e w' => ∃ v2_ v3_ v4_ : Value, e = .returned (.tuple #[.agg #[.int .i64 r1, .bool r2, v2_, v3_], v4_, .int .i64 r6]) ∧ Kd.R (Kd.int .u8) 5 w' w.heap.size (fun k_ => some k_ ≠ (v4_ : Value).ownBlock) v2_ r3 ∧ Kd.S k47 47 w' w.heap.size (fun k_ => some k_ ≠ (v2_ : Value).ownBlock ∧ some k_ ≠ (v4_ : Value).ownBlock) v3_ r4 ∧ Kd.R (Kd.int .u8) 5 w' w.heap.size (fun k_ => some k_ ≠ (v2_ : Value).ownBlock) v4_ r5 ∧ Below w.heap.size w w' := by
  have hu36 := Try.underlying36
  have hu47 := Try.underlying47
  have HR0 := Aside0.mk hr0
  have HC0 := Aside0.mk hc0
  clear hr0 hc0
  have HB := Aside0.mk (Below.refl w.heap.size w)
  have H : ((banksmanref01_Take.f k l0).bind fun bt461 => ((banksmanref01_Take.f k bt461.2.1).bind fun bt466 => ((banksmanref01_TakeText.f k bt466.2.1).bind fun bt471 => ((banksmanref01_Take.f k bt471.2.1).bind fun bt478 => (if bt461.2.2 = 0 then (if bt466.2.2 = 0 then (if bt471.2.2 = 0 then (if bt478.2.2 = 0 then (banksmanref21_Tell.j0 k l0 bt461.1 bt466.1 bt471.1 bt478.1 bt478.2.1 (decide (bt478.1 > 80))) else (banksmanref21_Tell.j0 k l0 bt461.1 bt466.1 bt471.1 bt478.1 bt478.2.1 true)) else (banksmanref21_Tell.j0 k l0 bt461.1 bt466.1 bt471.1 bt478.1 bt478.2.1 true)) else (banksmanref21_Tell.j0 k l0 bt461.1 bt466.1 bt471.1 bt478.1 bt478.2.1 true)) else (banksmanref21_Tell.j0 k l0 bt461.1 bt466.1 bt471.1 bt478.1 bt478.2.1 true)))))) = some (r1, r2, r3, r4, r5, r6) := h
  clear h
  replace H := Option.bind_eq_some_iff.mp H
  obtain ⟨⟨t461, t462, t465⟩, A20, H⟩ := H
  replace H : ((banksmanref01_Take.f k t462).bind fun bt466 => ((banksmanref01_TakeText.f k bt466.2.1).bind fun bt471 => ((banksmanref01_Take.f k bt471.2.1).bind fun bt478 => (if t465 = 0 then (if bt466.2.2 = 0 then (if bt471.2.2 = 0 then (if bt478.2.2 = 0 then (banksmanref21_Tell.j0 k l0 t461 bt466.1 bt471.1 bt478.1 bt478.2.1 (decide (bt478.1 > 80))) else (banksmanref21_Tell.j0 k l0 t461 bt466.1 bt471.1 bt478.1 bt478.2.1 true)) else (banksmanref21_Tell.j0 k l0 t461 bt466.1 bt471.1 bt478.1 bt478.2.1 true)) else (banksmanref21_Tell.j0 k l0 t461 bt466.1 bt471.1 bt478.1 bt478.2.1 true)) else (banksmanref21_Tell.j0 k l0 t461 bt466.1 bt471.1 bt478.1 bt478.2.1 true))))) = some (r1, r2, r3, r4, r5, r6) := H
  have A2 := Aside0.mk A20
  clear A20
  replace H := Option.bind_eq_some_iff.mp H
  obtain ⟨⟨t466, t467, t470⟩, A30, H⟩ := H
  replace H : ((banksmanref01_TakeText.f k t467).bind fun bt471 => ((banksmanref01_Take.f k bt471.2.1).bind fun bt478 => (if t465 = 0 then (if t470 = 0 then (if bt471.2.2 = 0 then (if bt478.2.2 = 0 then (banksmanref21_Tell.j0 k l0 t461 t466 bt471.1 bt478.1 bt478.2.1 (decide (bt478.1 > 80))) else (banksmanref21_Tell.j0 k l0 t461 t466 bt471.1 bt478.1 bt478.2.1 true)) else (banksmanref21_Tell.j0 k l0 t461 t466 bt471.1 bt478.1 bt478.2.1 true)) else (banksmanref21_Tell.j0 k l0 t461 t466 bt471.1 bt478.1 bt478.2.1 true)) else (banksmanref21_Tell.j0 k l0 t461 t466 bt471.1 bt478.1 bt478.2.1 true)))) = some (r1, r2, r3, r4, r5, r6) := H
  have A3 := Aside0.mk A30
  clear A30
  replace H := Option.bind_eq_some_iff.mp H
  obtain ⟨⟨t471, t472, t473⟩, A40, H⟩ := H
  replace H : ((banksmanref01_Take.f k t472).bind fun bt478 => (if t465 = 0 then (if t470 = 0 then (if t473 = 0 then (if bt478.2.2 = 0 then (banksmanref21_Tell.j0 k l0 t461 t466 t471 bt478.1 bt478.2.1 (decide (bt478.1 > 80))) else (banksmanref21_Tell.j0 k l0 t461 t466 t471 bt478.1 bt478.2.1 true)) else (banksmanref21_Tell.j0 k l0 t461 t466 t471 bt478.1 bt478.2.1 true)) else (banksmanref21_Tell.j0 k l0 t461 t466 t471 bt478.1 bt478.2.1 true)) else (banksmanref21_Tell.j0 k l0 t461 t466 t471 bt478.1 bt478.2.1 true))) = some (r1, r2, r3, r4, r5, r6) := H
  have A4 := Aside0.mk A40
  clear A40
  replace H := Option.bind_eq_some_iff.mp H
  obtain ⟨⟨t478, t479, t482⟩, A50, H⟩ := H
  replace H : (if t465 = 0 then (if t470 = 0 then (if t473 = 0 then (if t482 = 0 then (banksmanref21_Tell.j0 k l0 t461 t466 t471 t478 t479 (decide (t478 > 80))) else (banksmanref21_Tell.j0 k l0 t461 t466 t471 t478 t479 true)) else (banksmanref21_Tell.j0 k l0 t461 t466 t471 t478 t479 true)) else (banksmanref21_Tell.j0 k l0 t461 t466 t471 t478 t479 true)) else (banksmanref21_Tell.j0 k l0 t461 t466 t471 t478 t479 true)) = some (r1, r2, r3, r4, r5, r6) := H
  have A5 := Aside0.mk A50
  clear A50
  have HC6 := Aside0.mk H
  clear H
  go_enter Try.func19, Try.ntmps19
  go_upto_region 5 with (first | ((with_reducible refine gate_dst (N := 2) rfl ?_); (try (refine gate_guard (by rfl) ?_; dsimp only)); refine box_event ?hg (N := 2) ?hd (cs := #[.int .i64 0, .bool false, .slice none 0 0, .slice none 0 0]) (t := 36) ?hr ?_; (case hd => rfl); (case hg => rfl); (case hr => first | (go_simp; done) | (go_simp; rfl)); intro gb460 hg w7 hbox hb; have n0_ := Aside0.mk (below_step (by repeat (first | (with_reducible first | exact HB.out | apply below_alloc | apply pw_below_drewN | apply below_drew1) | exact HB.out)) hb); have n1_ := Aside0.mk (hbox); have n2_ := Aside0.mk ((by rw [hg]; exact (below_size (by repeat (first | (with_reducible first | exact HB.out | apply below_alloc | apply pw_below_drewN | apply below_drew1) | exact HB.out))) : w.heap.size ≤ gb460)); have n3_ := Aside0.mk ((by rw [hg]; exact (below_size (by repeat (first | (with_reducible first | exact HB.out | apply below_alloc | apply pw_below_drewN | apply below_drew1) | exact HB.out))) : w.heap.size ≤ gb460)); clear HB; have HB := n0_; have BK460 := n1_; have GW460 := n2_; have GE460 := n3_; clear n0_ n1_ n2_ n3_; clear hb hbox hg) | ((with_reducible refine gate_callee (f := 30) rfl ?_); refine goesL_ (some 29) rfl rfl Try.func30 (by kernel_rfl) rfl #[.slice A0 l0.length c0] rfl (by (try simp only [List.map_toArray, List.map_cons, List.map_nil]); first | done | rfl | (simp only [List.length_drop, List.length_take]; rfl)) ?_; (with_reducible refine (banksmanref01_Take.calls k _ _ l0 t461 t462 t465 _ ?side1 ?side2 A2.out).mono ?_); (case side1 => repeat (first | exact (Kd.C_below HR0.out HB.out) | (with_reducible refine Kd.C_alloc ?_ _) | (with_reducible refine Kd.C_drewN ?_ _) | (with_reducible refine Kd.C_drew ?_))); (case side2 => exact HC0.out); rintro e w8 ⟨v463, rfl, ho0, hb⟩; refine ⟨_, rfl, ?_⟩; have n0_ := Aside0.mk (Kd.V_lower (Kd.V_mono (ok' := fun k_ => k_ ≠ gb460) ho0 (fun k_ hk_ => (Kd.freshB (g := gb460) (o := .cells #[.int .i64 0, .bool false, .slice none 0 0, .slice none 0 0] 36 (0, 0)) (by (with_reducible repeat (first | refine blk_drewN ?_ _ | refine blk_drew ?_ | refine blk_alloc ?_ _)); exact BK460.out) k_ hk_))) (below_size (by repeat (first | (with_reducible first | exact HB.out | apply below_alloc | apply pw_below_drewN | apply below_drew1 | refine below_set ?_ GE460.out) | exact HB.out)))); have n1_ := Aside0.mk (blk_below (g := gb460) (o := .cells #[.int .i64 0, .bool false, .slice none 0 0, .slice none 0 0] 36 (0, 0)) (by (with_reducible repeat (first | refine blk_drewN ?_ _ | refine blk_drew ?_ | refine blk_alloc ?_ _)); exact BK460.out) hb); have n2_ := Aside0.mk (below_step (by repeat (first | (with_reducible first | exact HB.out | apply below_alloc | apply pw_below_drewN | apply below_drew1 | refine below_set ?_ GE460.out) | exact HB.out)) hb); clear BK460; clear HB; have HO464 := n0_; have BK460 := n1_; have HB := n2_; clear n0_ n1_ n2_; (try clear hb); (try clear hb2); (try clear hk); (try clear hi); (try clear ho0); obtain ⟨Ao9, co9, eo9⟩ := Kd.V_slice HO464.out; subst eo9) | ((with_reducible refine gate_callee (f := 30) rfl ?_); refine goesL_ (some 35) rfl rfl Try.func30 (by kernel_rfl) rfl #[.slice Ao9 t462.length co9] rfl (by (try simp only [List.map_toArray, List.map_cons, List.map_nil]); first | done | rfl | (simp only [List.length_drop, List.length_take]; rfl)) ?_; (with_reducible refine (banksmanref01_Take.calls k _ _ t462 t466 t467 t470 _ ?side1 ?side2 A3.out).mono ?_); (case side1 => repeat (first | exact (Kd.V_reads' HO464.out).2.2 | (with_reducible refine Kd.C_alloc ?_ _) | (with_reducible refine Kd.C_drewN ?_ _) | (with_reducible refine Kd.C_drew ?_))); (case side2 => exact (Kd.V_reads' HO464.out).2.1); rintro e w10 ⟨v468, rfl, ho0, hb⟩; refine ⟨_, rfl, ?_⟩; have n0_ := Aside0.mk (Kd.V_below (by (with_reducible repeat (first | apply Kd.V_alloc | apply Kd.V_drewN | apply Kd.V_drew)); exact HO464.out) hb); have n1_ := Aside0.mk (Kd.V_lower (Kd.V_mono (ok' := fun k_ => k_ ≠ gb460) ho0 (fun k_ hk_ => (Kd.freshB (g := gb460) (o := .cells #[.int .i64 0, .bool false, .slice none 0 0, .slice none 0 0] 36 (0, 0)) (by (with_reducible repeat (first | refine blk_drewN ?_ _ | refine blk_drew ?_ | refine blk_alloc ?_ _)); exact BK460.out) k_ hk_))) (below_size (by repeat (first | (with_reducible first | exact HB.out | apply below_alloc | apply pw_below_drewN | apply below_drew1 | refine below_set ?_ GE460.out) | exact HB.out)))); have n2_ := Aside0.mk (blk_below (g := gb460) (o := .cells #[.int .i64 0, .bool false, .slice none 0 0, .slice none 0 0] 36 (0, 0)) (by (with_reducible repeat (first | refine blk_drewN ?_ _ | refine blk_drew ?_ | refine blk_alloc ?_ _)); exact BK460.out) hb); have n3_ := Aside0.mk (below_step (by repeat (first | (with_reducible first | exact HB.out | apply below_alloc | apply pw_below_drewN | apply below_drew1 | refine below_set ?_ GE460.out) | exact HB.out)) hb); clear HO464; clear BK460; clear HB; have HO464 := n0_; have HO469 := n1_; have BK460 := n2_; have HB := n3_; clear n0_ n1_ n2_ n3_; (try clear hb); (try clear hb2); (try clear hk); (try clear hi); (try clear ho0); obtain ⟨Ao11, co11, eo11⟩ := Kd.V_slice HO469.out; subst eo11) | ((with_reducible refine gate_callee (f := 31) rfl ?_); refine goesL_ (some 41) rfl rfl Try.func31 (by kernel_rfl) rfl #[.slice Ao11 t467.length co11] rfl (by (try simp only [List.map_toArray, List.map_cons, List.map_nil]); first | done | rfl | (simp only [List.length_drop, List.length_take]; rfl)) ?_; (with_reducible refine (banksmanref01_TakeText.calls k _ _ t467 t471 t472 t473 _ ?side1 ?side2 A4.out).mono ?_); (case side1 => repeat (first | exact (Kd.V_reads' HO469.out).2.2 | (with_reducible refine Kd.C_alloc ?_ _) | (with_reducible refine Kd.C_drewN ?_ _) | (with_reducible refine Kd.C_drew ?_))); (case side2 => exact (Kd.V_reads' HO469.out).2.1); rintro e w12 ⟨v474, v476, rfl, ho0, ho1, hb⟩; refine ⟨_, rfl, ?_⟩; have n0_ := Aside0.mk (Kd.V_mono (Kd.V_told (Kd.V_told (Kd.V_old (by (with_reducible repeat (first | apply Kd.V_alloc | apply Kd.V_drewN | apply Kd.V_drew)); exact HO464.out) hb) (Kd.R_base ho0)) (Kd.R_base ho1)) (fun _ h_ => h_.1)); have n1_ := Aside0.mk (Kd.V_mono (Kd.V_told (Kd.V_told (Kd.V_old (by (with_reducible repeat (first | apply Kd.V_alloc | apply Kd.V_drewN | apply Kd.V_drew)); exact HO469.out) hb) (Kd.R_base ho0)) (Kd.R_base ho1)) (fun _ h_ => h_.1)); have n2_ := Aside0.mk (Kd.R_lower ho0 (below_size (by repeat (first | (with_reducible first | exact HB.out | apply below_alloc | apply pw_below_drewN | apply below_drew1 | refine below_set ?_ GE460.out) | exact HB.out)))); have n3_ := Aside0.mk (Kd.R_lower ho1 (below_size (by repeat (first | (with_reducible first | exact HB.out | apply below_alloc | apply pw_below_drewN | apply below_drew1 | refine below_set ?_ GE460.out) | exact HB.out)))); have n4_ := Aside0.mk (blk_below (g := gb460) (o := .cells #[.int .i64 0, .bool false, .slice none 0 0, .slice none 0 0] 36 (0, 0)) (by (with_reducible repeat (first | refine blk_drewN ?_ _ | refine blk_drew ?_ | refine blk_alloc ?_ _)); exact BK460.out) hb); have n5_ := Aside0.mk (below_step (by repeat (first | (with_reducible first | exact HB.out | apply below_alloc | apply pw_below_drewN | apply below_drew1 | refine below_set ?_ GE460.out) | exact HB.out)) hb); clear HO464; clear HO469; clear BK460; clear HB; have HO464 := n0_; have HO469 := n1_; have HO475 := n2_; have HO477 := n3_; have BK460 := n4_; have HB := n5_; clear n0_ n1_ n2_ n3_ n4_ n5_; (try clear hb); (try clear hb2); (try clear hk); (try clear hi); (try clear ho0); (try clear ho1); obtain ⟨Ao13, co13, eo13⟩ := Kd.R_slice HO477.out; subst eo13) | ((with_reducible refine gate_callee (f := 30) rfl ?_); refine goesL_ (some 47) rfl rfl Try.func30 (by kernel_rfl) rfl #[.slice Ao13 t472.length co13] rfl (by (try simp only [List.map_toArray, List.map_cons, List.map_nil]); first | done | rfl | (simp only [List.length_drop, List.length_take]; rfl)) ?_; (with_reducible refine (banksmanref01_Take.calls k _ _ t472 t478 t479 t482 _ ?side1 ?side2 A5.out).mono ?_); (case side1 => repeat (first | exact (Kd.R_reads' HO477.out).2.2 | (with_reducible refine Kd.C_alloc ?_ _) | (with_reducible refine Kd.C_drewN ?_ _) | (with_reducible refine Kd.C_drew ?_))); (case side2 => exact (Kd.R_reads' HO477.out).2.1); rintro e w14 ⟨v480, rfl, ho0, hb⟩; refine ⟨_, rfl, ?_⟩; have n0_ := Aside0.mk (Kd.V_below (by (with_reducible repeat (first | apply Kd.V_alloc | apply Kd.V_drewN | apply Kd.V_drew)); exact HO464.out) hb); have n1_ := Aside0.mk (Kd.V_below (by (with_reducible repeat (first | apply Kd.V_alloc | apply Kd.V_drewN | apply Kd.V_drew)); exact HO469.out) hb); have n2_ := Aside0.mk (Kd.R_below (by (with_reducible repeat (first | apply Kd.R_alloc | apply Kd.R_drewN | apply Kd.R_drew)); exact HO475.out) hb); have n3_ := Aside0.mk (Kd.R_below (by (with_reducible repeat (first | apply Kd.R_alloc | apply Kd.R_drewN | apply Kd.R_drew)); exact HO477.out) hb); have n4_ := Aside0.mk (Kd.V_lower (Kd.V_mono (ok' := fun k_ => some k_ ≠ (v474 : Value).ownBlock ∧ some k_ ≠ (.slice Ao13 t472.length co13 : Value).ownBlock ∧ k_ ≠ gb460) ho0 (fun k_ hk_ => ⟨(Kd.fresh' (Kd.R_lt (by (with_reducible repeat (first | apply Kd.R_alloc | apply Kd.R_drewN | apply Kd.R_drew)); exact HO475.out)) k_ hk_), (Kd.fresh' (Kd.R_lt (by (with_reducible repeat (first | apply Kd.R_alloc | apply Kd.R_drewN | apply Kd.R_drew)); exact HO477.out)) k_ hk_), (Kd.freshB (g := gb460) (o := .cells #[.int .i64 0, .bool false, .slice none 0 0, .slice none 0 0] 36 (0, 0)) (by (with_reducible repeat (first | refine blk_drewN ?_ _ | refine blk_drew ?_ | refine blk_alloc ?_ _)); exact BK460.out) k_ hk_)⟩)) (below_size (by repeat (first | (with_reducible first | exact HB.out | apply below_alloc | apply pw_below_drewN | apply below_drew1 | refine below_set ?_ GE460.out) | exact HB.out)))); have n5_ := Aside0.mk (blk_below (g := gb460) (o := .cells #[.int .i64 0, .bool false, .slice none 0 0, .slice none 0 0] 36 (0, 0)) (by (with_reducible repeat (first | refine blk_drewN ?_ _ | refine blk_drew ?_ | refine blk_alloc ?_ _)); exact BK460.out) hb); have n6_ := Aside0.mk (below_step (by repeat (first | (with_reducible first | exact HB.out | apply below_alloc | apply pw_below_drewN | apply below_drew1 | refine below_set ?_ GE460.out) | exact HB.out)) hb); clear HO464; clear HO469; clear HO475; clear HO477; clear BK460; clear HB; have HO464 := n0_; have HO469 := n1_; have HO475 := n2_; have HO477 := n3_; have HO481 := n4_; have BK460 := n5_; have HB := n6_; clear n0_ n1_ n2_ n3_ n4_ n5_ n6_; (try clear hb); (try clear hb2); (try clear hk); (try clear hi); (try clear ho0)))
  (try simp only [Act.put, List.setIfInBounds_toArray, List.set_cons_zero, List.set_cons_succ])
  go_cut [68] (fun v68 wc => ∃ (kq : Nat) (x68_5 : Bool), v68 = .bool x68_5 ∧ Aside0 (banksmanref21_Tell.j0 kq l0 t461 t466 t471 t478 t479 x68_5 = some (r1, r2, r3, r4, r5, r6)) ∧ Aside0 (kq ≤ k) ∧ Aside0 (Kd.R (Kd.int .u8) 5 wc w.heap.size (fun _ => True) v474 t471) ∧ Aside0 (Kd.V (Kd.int .u8) 5 wc w.heap.size (fun k_ => some k_ ≠ (v474 : Value).ownBlock ∧ k_ ≠ gb460) v480 t479) ∧ Aside0 (wc.heap[gb460]? = some (.cells #[.int .i64 0, .bool false, (.slice none 0 0), (.slice none 0 0)] 36 (0, 0))) ∧ Aside0 (Below w.heap.size w wc))
  case first =>
    have H := HC6.out
    clear HC6
    by_cases c15 : t465 = 0
    · rw [if_pos c15] at H
      have c15b0 : (t465 == 0) = true := beq_iff_eq.mpr c15
      have c15b1 : (t465 != 0) = false := bne_eq_false_iff_eq.mpr c15
      clear c15
      (first | rw [c15b0] | (simp only [i64_w, i32_w]; rw [c15b0]) | skip)
      by_cases c16 : t470 = 0
      · rw [if_pos c16] at H
        have c16b0 : (t470 == 0) = true := beq_iff_eq.mpr c16
        have c16b1 : (t470 != 0) = false := bne_eq_false_iff_eq.mpr c16
        clear c16
        by_cases c17 : t473 = 0
        · rw [if_pos c17] at H
          have c17b0 : (t473 == 0) = true := beq_iff_eq.mpr c17
          have c17b1 : (t473 != 0) = false := bne_eq_false_iff_eq.mpr c17
          clear c17
          by_cases c18 : t482 = 0
          · rw [if_pos c18] at H
            have c18b0 : (t482 == 0) = true := beq_iff_eq.mpr c18
            have c18b1 : (t482 != 0) = false := bne_eq_false_iff_eq.mpr c18
            clear c18
            have H' := Aside0.mk H
            clear H
            go_wp2
            go_meet
            case rel => exact ⟨_, (decide (t478 > 80)), (by first | rfl | (simp; done) | (simp [*]; done)), H', ⟨by first | omega | exact Nat.le_refl _⟩, ⟨by (with_reducible repeat (first | apply Kd.R_alloc | apply Kd.R_drewN | apply Kd.R_drew)); exact Kd.R_mono HO475.out (fun _ hk => trivial)⟩, ⟨by (with_reducible repeat (first | apply Kd.V_alloc | apply Kd.V_drewN | apply Kd.V_drew)); exact Kd.V_mono HO481.out (fun _ hk => ⟨hk.1, hk.2.2⟩)⟩, ⟨by (with_reducible repeat (first | refine blk_drewN ?_ _ | refine blk_drew ?_ | refine blk_alloc ?_ _)); exact BK460.out⟩, ⟨by repeat (first | (with_reducible first | exact HB.out | apply below_alloc | apply pw_below_drewN | apply below_drew1 | refine below_set ?_ GE460.out) | exact HB.out)⟩⟩
          · rw [if_neg c18] at H
            have c18b0 : (t482 == 0) = false := beq_eq_false_iff_ne.mpr c18
            have c18b1 : (t482 != 0) = true := bne_iff_ne.mpr c18
            have H' := Aside0.mk H
            clear H
            go_wp2
            go_meet
            case rel => exact ⟨_, (true), (by first | rfl | (simp; done) | (simp [*]; done)), H', ⟨by first | omega | exact Nat.le_refl _⟩, ⟨by (with_reducible repeat (first | apply Kd.R_alloc | apply Kd.R_drewN | apply Kd.R_drew)); exact Kd.R_mono HO475.out (fun _ hk => trivial)⟩, ⟨by (with_reducible repeat (first | apply Kd.V_alloc | apply Kd.V_drewN | apply Kd.V_drew)); exact Kd.V_mono HO481.out (fun _ hk => ⟨hk.1, hk.2.2⟩)⟩, ⟨by (with_reducible repeat (first | refine blk_drewN ?_ _ | refine blk_drew ?_ | refine blk_alloc ?_ _)); exact BK460.out⟩, ⟨by repeat (first | (with_reducible first | exact HB.out | apply below_alloc | apply pw_below_drewN | apply below_drew1 | refine below_set ?_ GE460.out) | exact HB.out)⟩⟩
        · rw [if_neg c17] at H
          have c17b0 : (t473 == 0) = false := beq_eq_false_iff_ne.mpr c17
          have c17b1 : (t473 != 0) = true := bne_iff_ne.mpr c17
          have H' := Aside0.mk H
          clear H
          go_wp2
          go_meet
          case rel => exact ⟨_, (true), (by first | rfl | (simp; done) | (simp [*]; done)), H', ⟨by first | omega | exact Nat.le_refl _⟩, ⟨by (with_reducible repeat (first | apply Kd.R_alloc | apply Kd.R_drewN | apply Kd.R_drew)); exact Kd.R_mono HO475.out (fun _ hk => trivial)⟩, ⟨by (with_reducible repeat (first | apply Kd.V_alloc | apply Kd.V_drewN | apply Kd.V_drew)); exact Kd.V_mono HO481.out (fun _ hk => ⟨hk.1, hk.2.2⟩)⟩, ⟨by (with_reducible repeat (first | refine blk_drewN ?_ _ | refine blk_drew ?_ | refine blk_alloc ?_ _)); exact BK460.out⟩, ⟨by repeat (first | (with_reducible first | exact HB.out | apply below_alloc | apply pw_below_drewN | apply below_drew1 | refine below_set ?_ GE460.out) | exact HB.out)⟩⟩
      · rw [if_neg c16] at H
        have c16b0 : (t470 == 0) = false := beq_eq_false_iff_ne.mpr c16
        have c16b1 : (t470 != 0) = true := bne_iff_ne.mpr c16
        have H' := Aside0.mk H
        clear H
        go_wp2
        go_meet
        case rel => exact ⟨_, (true), (by first | rfl | (simp; done) | (simp [*]; done)), H', ⟨by first | omega | exact Nat.le_refl _⟩, ⟨by (with_reducible repeat (first | apply Kd.R_alloc | apply Kd.R_drewN | apply Kd.R_drew)); exact Kd.R_mono HO475.out (fun _ hk => trivial)⟩, ⟨by (with_reducible repeat (first | apply Kd.V_alloc | apply Kd.V_drewN | apply Kd.V_drew)); exact Kd.V_mono HO481.out (fun _ hk => ⟨hk.1, hk.2.2⟩)⟩, ⟨by (with_reducible repeat (first | refine blk_drewN ?_ _ | refine blk_drew ?_ | refine blk_alloc ?_ _)); exact BK460.out⟩, ⟨by repeat (first | (with_reducible first | exact HB.out | apply below_alloc | apply pw_below_drewN | apply below_drew1 | refine below_set ?_ GE460.out) | exact HB.out)⟩⟩
    · rw [if_neg c15] at H
      have c15b0 : (t465 == 0) = false := beq_eq_false_iff_ne.mpr c15
      have c15b1 : (t465 != 0) = true := bne_iff_ne.mpr c15
      (first | rw [c15b0] | (simp only [i64_w, i32_w]; rw [c15b0]) | skip)
      have H' := Aside0.mk H
      clear H
      go_wp2
      go_meet
      case rel => exact ⟨_, (true), (by first | rfl | (simp; done) | (simp [*]; done)), H', ⟨by first | omega | exact Nat.le_refl _⟩, ⟨by (with_reducible repeat (first | apply Kd.R_alloc | apply Kd.R_drewN | apply Kd.R_drew)); exact Kd.R_mono HO475.out (fun _ hk => trivial)⟩, ⟨by (with_reducible repeat (first | apply Kd.V_alloc | apply Kd.V_drewN | apply Kd.V_drew)); exact Kd.V_mono HO481.out (fun _ hk => ⟨hk.1, hk.2.2⟩)⟩, ⟨by (with_reducible repeat (first | refine blk_drewN ?_ _ | refine blk_drew ?_ | refine blk_alloc ?_ _)); exact BK460.out⟩, ⟨by repeat (first | (with_reducible first | exact HB.out | apply below_alloc | apply pw_below_drewN | apply below_drew1 | refine below_set ?_ GE460.out) | exact HB.out)⟩⟩
  case rest =>
    clear HC6
    try clear c1
    try clear p2
    try clear c3
    try clear c15
    try clear c15b0
    try clear c15b1
    try clear c16
    try clear c16b0
    try clear c16b1
    try clear c17
    try clear c17b0
    try clear c17b1
    try clear c18
    try clear c18b0
    try clear c18b1
    obtain ⟨kq, x68_5, rfl, HA, HJ5, HO_11, HO_15, BK460, HB⟩ := hcut
    cases kq with
    | zero => exact absurd HA.out (by simp [banksmanref21_Tell.j0])
    | succ kj5 =>
      have H := HA.out
      clear HA
      simp only [banksmanref21_Tell.j0] at H
      by_cases c19 : x68_5 = true
      · subst c19
        have H1 : (some (0, false, ([] : List Int), ([] : List (S47)), ([] : List Int), 210)) = some (r1, r2, r3, r4, r5, r6) := by rw [if_pos rfl] at H; exact H
        clear H
        have H := H1
        clear H1
        simp only [Option.some.injEq, Prod.mk.injEq] at H
        obtain ⟨rfl, rfl, rfl, rfl, rfl, rfl⟩ := H
        have hcz20_0 : wc.cell? ⟨gb460, 0, none⟩ = some (.int .i64 0) := (blk_cell BK460.out 0).trans rfl
        have hcz20_1 : wc.cell? ⟨gb460, 1, none⟩ = some (.bool false) := (blk_cell BK460.out 1).trans rfl
        have hcz20_2 : wc.cell? ⟨gb460, 2, none⟩ = some (.slice none 0 0) := (blk_cell BK460.out 2).trans rfl
        have hcz20_3 : wc.cell? ⟨gb460, 3, none⟩ = some (.slice none 0 0) := (blk_cell BK460.out 3).trans rfl
        have hfz20_0 := blk_frozen BK460.out 0
        have hfz20_1 := blk_frozen BK460.out 1
        have hfz20_2 := blk_frozen BK460.out 2
        have hfz20_3 := blk_frozen BK460.out 3
        go_wp2
        refine bodyPost_ret (results_ctt rfl _ _ gb460 36 #[.int .i64 0, .bool false, .slice none 0 0, .slice none 0 0] (0, 0) _ rfl (by (with_reducible repeat (first | refine blk_drewN ?_ _ | refine blk_drew ?_ | refine blk_alloc ?_ _)); refine blk_put (cs := #[.int .i64 0, .bool false, .slice none 0 0, .slice none 0 0]) ?_ 3 _ rfl; (with_reducible repeat (first | refine blk_drewN ?_ _ | refine blk_drew ?_ | refine blk_alloc ?_ _)); refine blk_put (cs := #[.int .i64 0, .bool false, .slice none 0 0, .slice none 0 0]) ?_ 2 _ rfl; (with_reducible repeat (first | refine blk_drewN ?_ _ | refine blk_drew ?_ | refine blk_alloc ?_ _)); refine blk_put (cs := #[.int .i64 0, .bool false, .slice none 0 0, .slice none 0 0]) ?_ 1 _ rfl; (with_reducible repeat (first | refine blk_drewN ?_ _ | refine blk_drew ?_ | refine blk_alloc ?_ _)); refine blk_put (cs := #[.int .i64 0, .bool false, .slice none 0 0, .slice none 0 0]) ?_ 0 _ rfl; (with_reducible repeat (first | refine blk_drewN ?_ _ | refine blk_drew ?_ | refine blk_alloc ?_ _)); exact BK460.out) Try.underlying36 rfl (by kernel_rfl)) rfl ?_
        exact ⟨_, _, _, by first | rfl | (simp [errW_none, errW_some] <;> rfl) | (simp [*, errW_none, errW_some] <;> rfl), by first | exact Kd.R_nil _ _ _ _ _ | exact Kd.N_nil _ _ _ _ _ | exact Kd.V_nil _ _ _ _ _ | exact Kd.Q_nil _ _ _ _ _ | exact Kd.S_nil _ _ _ _ _, by first | exact Kd.S_nil _ _ _ _ _ | exact Kd.N_nil _ _ _ _ _ | exact Kd.V_nil _ _ _ _ _ | exact Kd.Q_nil _ _ _ _ _ | exact Kd.R_nil _ _ _ _ _, by first | exact Kd.R_nil _ _ _ _ _ | exact Kd.N_nil _ _ _ _ _ | exact Kd.V_nil _ _ _ _ _ | exact Kd.Q_nil _ _ _ _ _ | exact Kd.S_nil _ _ _ _ _, by repeat (first | (with_reducible first | exact HB.out | apply below_alloc | apply pw_below_drewN | apply below_drew1 | refine below_set ?_ GE460.out) | exact HB.out)⟩
      · replace c19 := Bool.eq_false_iff.mpr c19
        subst c19
        have H1 : (banksmanref21_Tell.l0 kj5 l0 t478 t479 0 t461 (t466 == 1) t471 ([] : List (S47))) = some (r1, r2, r3, r4, r5, r6) := by rw [if_neg (show ¬ (false = true) by decide)] at H; exact H
        clear H
        have H := H1
        clear H1
        have H' := Aside0.mk H
        clear H
        obtain ⟨Ao21, co21, eo21⟩ := Kd.R_slice HO_11.out
        subst eo21
        go_wp2_with (first | ((with_reducible refine gate_dst (N := 17) rfl ?_); (try (refine gate_guard (by rfl) ?_; dsimp only)); refine box_event ?hg (N := 17) ?hd (cs := #[.int .i64 0, .bool false, .slice none 0 0, .slice none 0 0]) (t := 36) ?hr ?_; (case hd => rfl); (case hg => rfl); (case hr => first | (go_simp; done) | (go_simp; rfl)); intro gb483 hg w22 hbox hb; have n0_ := Aside0.mk (Kd.R_below (by (with_reducible repeat (first | apply Kd.R_alloc | apply Kd.R_drewN | apply Kd.R_drew)); exact HO_11.out) hb); have n1_ := Aside0.mk (Kd.V_below (Kd.V_elderB (by (with_reducible repeat (first | apply Kd.V_alloc | apply Kd.V_drewN | apply Kd.V_drew)); exact HO_15.out) gb483 (Nat.le_of_eq hg.symm)) hb); have n2_ := Aside0.mk (blk_below (g := gb460) (o := .cells #[.int .i64 0, .bool false, .slice none 0 0, .slice none 0 0] 36 (0, 0)) (by (with_reducible repeat (first | refine blk_drewN ?_ _ | refine blk_drew ?_ | refine blk_alloc ?_ _)); exact BK460.out) hb); have n3_ := Aside0.mk (below_step (by repeat (first | (with_reducible first | exact HB.out | apply below_alloc | apply pw_below_drewN | apply below_drew1 | refine below_set ?_ GE460.out) | exact HB.out)) hb); have n4_ := Aside0.mk (hbox); have n5_ := Aside0.mk ((by rw [hg]; exact (below_size (by repeat (first | (with_reducible first | exact HB.out | apply below_alloc | apply pw_below_drewN | apply below_drew1 | refine below_set ?_ GE460.out) | exact HB.out))) : w.heap.size ≤ gb483)); have n6_ := Aside0.mk ((by rw [hg]; exact (below_size (by repeat (first | (with_reducible first | exact HB.out | apply below_alloc | apply pw_below_drewN | apply below_drew1 | refine below_set ?_ GE460.out) | exact HB.out))) : w.heap.size ≤ gb483)); have n7_ := Aside0.mk ((by rw [hg]; exact Nat.ne_of_lt (blk_lt (g := gb460) (o := .cells #[.int .i64 0, .bool false, .slice none 0 0, .slice none 0 0] 36 (0, 0)) (by (with_reducible repeat (first | refine blk_drewN ?_ _ | refine blk_drew ?_ | refine blk_alloc ?_ _)); exact BK460.out)) : gb460 ≠ gb483)); have n8_ := Aside0.mk ((by rw [hg]; exact Nat.ne_of_gt (blk_lt (g := gb460) (o := .cells #[.int .i64 0, .bool false, .slice none 0 0, .slice none 0 0] 36 (0, 0)) (by (with_reducible repeat (first | refine blk_drewN ?_ _ | refine blk_drew ?_ | refine blk_alloc ?_ _)); exact BK460.out)) : gb483 ≠ gb460)); clear HO_11; clear HO_15; clear BK460; clear HB; have HO_11 := n0_; have HO_15 := n1_; have BK460 := n2_; have HB := n3_; have BK483 := n4_; have GW483 := n5_; have GE483 := n6_; have NB460_483 := n7_; have NB483_460 := n8_; clear n0_ n1_ n2_ n3_ n4_ n5_ n6_ n7_ n8_; clear hb hbox hg; have hnb23 := NB483_460.out; have hnc23 := NB460_483.out; have hcz24_0 : w22.cell? ⟨gb483, 0, none⟩ = some (.int .i64 0) := (blk_cell BK483.out 0).trans rfl; have hcz24_1 : w22.cell? ⟨gb483, 1, none⟩ = some (.bool false) := (blk_cell BK483.out 1).trans rfl; have hcz24_2 : w22.cell? ⟨gb483, 2, none⟩ = some (.slice none 0 0) := (blk_cell BK483.out 2).trans rfl; have hcz24_3 : w22.cell? ⟨gb483, 3, none⟩ = some (.slice none 0 0) := (blk_cell BK483.out 3).trans rfl; have hfz24_0 := blk_frozen BK483.out 0; have hfz24_1 := blk_frozen BK483.out 1; have hfz24_2 := blk_frozen BK483.out 2; have hfz24_3 := blk_frozen BK483.out 3))
        go_loopg [15, 18] kj5 (fun kq v15 v18 w' => ∃ (x15_2 : List Int) (x18_2 : Int) (x461000_2 : Int) (x461001_2 : Bool) (x484003_2 : List (S47)) (u484003 : Value), v18 = .int .i64 x18_2 ∧ Aside0 (banksmanref21_Tell.l0 kq l0 t478 x15_2 x18_2 t461 (t466 == 1) t471 x484003_2 = some (r1, r2, r3, r4, r5, r6)) ∧ Aside0 (kq ≤ kj5) ∧ Aside0 (Kd.V (Kd.int .u8) 5 w' w.heap.size (fun k_ => some k_ ≠ ((.slice Ao21 t471.length co21) : Value).ownBlock ∧ some k_ ≠ (u484003 : Value).ownBlock ∧ k_ ≠ gb460 ∧ k_ ≠ gb483) v15 x15_2) ∧ Aside0 (Kd.R (Kd.int .u8) 5 w' w.heap.size (fun _ => True) (.slice Ao21 t471.length co21) t471) ∧ Aside0 (Kd.S k47 47 w' w.heap.size (fun k_ => some k_ ≠ ((.slice Ao21 t471.length co21) : Value).ownBlock) u484003 x484003_2) ∧ Aside0 (w'.heap[gb460]? = some (.cells #[.int .i64 x461000_2, .bool x461001_2, (.slice none 0 0), (.slice none 0 0)] 36 (0, 0))) ∧ Aside0 (w'.heap[gb483]? = some (.cells #[.int .i64 t461, .bool (t466 == 1), (.slice Ao21 t471.length co21), u484003] 36 (0, 0))) ∧ Aside0 (Below w.heap.size w w'))
        case atStart => exact ⟨(t479), (0), (0), (false), (([] : List (S47))), (.slice none 0 0), (by first | rfl | (simp; done) | (simp [*]; done)), H', ⟨Nat.le_refl _⟩, ⟨by (with_reducible repeat (first | apply Kd.V_alloc | apply Kd.V_drewN | apply Kd.V_drew)); exact Kd.V_mono (Kd.V_far (p := ⟨gb483, 3, none⟩) (Kd.V_far (p := ⟨gb483, 2, none⟩) (Kd.V_far (p := ⟨gb483, 1, none⟩) (Kd.V_far (p := ⟨gb483, 0, none⟩) (Kd.V_mono HO_15.out (fun k_ hk => (⟨hk, hk.2⟩ : _ ∧ k_ ≠ gb483))) (fun _ hk => hk.2) (.int .i64 t461)) (fun _ hk => hk.2) (.bool (t466 == 1))) (fun _ hk => hk.2) (.slice Ao21 t471.length co21)) (fun _ hk => hk.2) (.slice none 0 0)) (fun _ hk => ⟨hk.1.1.1, ⟨(by simp [Value.ownBlock]), ⟨hk.1.1.2, hk.1.2⟩⟩⟩)⟩, ⟨by (with_reducible repeat (first | apply Kd.R_alloc | apply Kd.R_drewN | apply Kd.R_drew)); exact Kd.R_mono (Kd.R_far (p := ⟨gb483, 3, none⟩) (Kd.R_far (p := ⟨gb483, 2, none⟩) (Kd.R_far (p := ⟨gb483, 1, none⟩) (Kd.R_far (p := ⟨gb483, 0, none⟩) (Kd.R_types HO_11.out BK483.out (by decide)) (fun _ hk => hk.2) (.int .i64 t461)) (fun _ hk => hk.2) (.bool (t466 == 1))) (fun _ hk => hk.2) (.slice Ao21 t471.length co21)) (fun _ hk => hk.2) (.slice none 0 0)) (fun _ hk => trivial)⟩, ⟨by first | exact Kd.S_nil _ _ _ _ _ | exact Kd.N_nil _ _ _ _ _ | exact Kd.V_nil _ _ _ _ _ | exact Kd.Q_nil _ _ _ _ _ | exact Kd.R_nil _ _ _ _ _⟩, ⟨by (with_reducible repeat (first | refine blk_drewN ?_ _ | refine blk_drew ?_ | refine blk_alloc ?_ _)); refine blk_far ?_ NB460_483.out _; (with_reducible repeat (first | refine blk_drewN ?_ _ | refine blk_drew ?_ | refine blk_alloc ?_ _)); refine blk_far ?_ NB460_483.out _; (with_reducible repeat (first | refine blk_drewN ?_ _ | refine blk_drew ?_ | refine blk_alloc ?_ _)); refine blk_far ?_ NB460_483.out _; (with_reducible repeat (first | refine blk_drewN ?_ _ | refine blk_drew ?_ | refine blk_alloc ?_ _)); refine blk_far ?_ NB460_483.out _; (with_reducible repeat (first | refine blk_drewN ?_ _ | refine blk_drew ?_ | refine blk_alloc ?_ _)); exact BK460.out⟩, ⟨by (with_reducible repeat (first | refine blk_drewN ?_ _ | refine blk_drew ?_ | refine blk_alloc ?_ _)); refine blk_put (cs := #[.int .i64 t461, .bool (t466 == 1), .slice Ao21 t471.length co21, .slice none 0 0]) ?_ 3 _ rfl; (with_reducible repeat (first | refine blk_drewN ?_ _ | refine blk_drew ?_ | refine blk_alloc ?_ _)); refine blk_put (cs := #[.int .i64 t461, .bool (t466 == 1), .slice none 0 0, .slice none 0 0]) ?_ 2 _ rfl; (with_reducible repeat (first | refine blk_drewN ?_ _ | refine blk_drew ?_ | refine blk_alloc ?_ _)); refine blk_put (cs := #[.int .i64 t461, .bool false, .slice none 0 0, .slice none 0 0]) ?_ 1 _ rfl; (with_reducible repeat (first | refine blk_drewN ?_ _ | refine blk_drew ?_ | refine blk_alloc ?_ _)); refine blk_put (cs := #[.int .i64 0, .bool false, .slice none 0 0, .slice none 0 0]) ?_ 0 _ rfl; (with_reducible repeat (first | refine blk_drewN ?_ _ | refine blk_drew ?_ | refine blk_alloc ?_ _)); exact BK483.out⟩, ⟨by repeat (first | (with_reducible first | exact HB.out | apply below_alloc | apply pw_below_drewN | apply below_drew1 | refine below_set ?_ GE460.out | refine below_set ?_ GE483.out) | exact HB.out)⟩⟩
        case round =>
          clear H'
          try clear c1
          try clear c2
          try clear p2
          try clear c3
          try clear c15
          try clear c15b0
          try clear c15b1
          try clear c16
          try clear c16b0
          try clear c16b1
          try clear c17
          try clear c17b0
          try clear c17b1
          try clear c18
          try clear c18b0
          try clear c18b1
          try clear c19
          try clear c23
          try clear hcz20_0
          try clear hcz20_1
          try clear hcz20_2
          try clear hcz20_3
          try clear hcz24_0
          try clear hcz24_1
          try clear hcz24_2
          try clear hcz24_3
          try clear hfz20_0
          try clear hfz20_1
          try clear hfz20_2
          try clear hfz20_3
          try clear hfz24_0
          try clear hfz24_1
          try clear hfz24_2
          try clear hfz24_3
          try clear p2
          obtain ⟨x15_2, x18_2, x461000_2, x461001_2, x484003_2, u484003, rfl, HA, HK2, HO_15, HO_484002, HO_484003, BK460, BK483, HB⟩ := hrel
          cases gk with
          | zero => exact absurd HA.out (by simp [banksmanref21_Tell.l0])
          | succ k2 =>
            have H := HA.out
            clear HA
            simp only [banksmanref21_Tell.l0] at H
            by_cases c25 : x18_2 < t478
            · rw [if_pos c25] at H
              have c25b0 : decide (x18_2 < t478) = true := decide_eq_true c25
              clear c25
              replace H := Option.bind_eq_some_iff.mp H
              obtain ⟨⟨t495, t496, t497⟩, A260, H⟩ := H
              replace H : ((banksmanref01_TakeText.f k2 t496).bind fun bt502 => (if t497 = 0 then (if bt502.2.2 = 0 then (if x484003_2.length < 2932031007402 then (banksmanref21_Tell.l0 k2 l0 t478 bt502.2.1 (wrap64 (x18_2 + 1)) t461 (t466 == 1) t471 (x484003_2 ++ [(⟨t495, bt502.1⟩ : S47)])) else (none)) else (some (0, false, ([] : List Int), ([] : List (S47)), ([] : List Int), 210))) else (some (0, false, ([] : List Int), ([] : List (S47)), ([] : List Int), 210)))) = some (r1, r2, r3, r4, r5, r6) := H
              have A26 := Aside0.mk A260
              clear A260
              replace H := Option.bind_eq_some_iff.mp H
              obtain ⟨⟨t502, t503, t504⟩, A270, H⟩ := H
              replace H : (if t497 = 0 then (if t504 = 0 then (if x484003_2.length < 2932031007402 then (banksmanref21_Tell.l0 k2 l0 t478 t503 (wrap64 (x18_2 + 1)) t461 (t466 == 1) t471 (x484003_2 ++ [(⟨t495, t502⟩ : S47)])) else (none)) else (some (0, false, ([] : List Int), ([] : List (S47)), ([] : List Int), 210))) else (some (0, false, ([] : List Int), ([] : List (S47)), ([] : List Int), 210))) = some (r1, r2, r3, r4, r5, r6) := H
              have A27 := Aside0.mk A270
              clear A270
              by_cases c28 : t497 = 0
              · rw [if_pos c28] at H
                have c28b0 : (t497 == 0) = true := beq_iff_eq.mpr c28
                have c28b1 : (t497 != 0) = false := bne_eq_false_iff_eq.mpr c28
                clear c28
                by_cases c29 : t504 = 0
                · rw [if_pos c29] at H
                  have c29b0 : (t504 == 0) = true := beq_iff_eq.mpr c29
                  have c29b1 : (t504 != 0) = false := bne_eq_false_iff_eq.mpr c29
                  clear c29
                  by_cases c30 : x484003_2.length < 2932031007402
                  · rw [if_pos c30] at H
                    have LMc30 := Aside0.mk c30
                    clear c30
                    obtain ⟨y509, hy509⟩ : ∃ y_ : List (S47), y_ = (x484003_2 ++ [(⟨t495, t502⟩ : S47)]) := ⟨_, rfl⟩
                    replace H : (banksmanref21_Tell.l0 k2 l0 t478 t503 (wrap64 (x18_2 + 1)) t461 (t466 == 1) t471 y509) = some (r1, r2, r3, r4, r5, r6) := by first | (rw [hy509]; with_reducible exact H) | (have H2_ := (Option.bind_some _ _).symm.trans H; rw [hy509]; with_reducible exact H2_) | (have H2_ := (Option.bind_some _ _).symm.trans H; with_reducible exact H2_) | with_reducible exact H | (rw [hy509]; exact H) | exact H
                    have Ny509 := Aside0.mk hy509
                    clear hy509
                    have H' := Aside0.mk H
                    clear H
                    obtain ⟨Ao31, co31, eo31⟩ := Kd.V_slice HO_15.out
                    subst eo31
                    go_wp2_with (first | ((with_reducible refine gate_callee (f := 31) rfl ?_); refine goesL_ (some 82) rfl rfl Try.func31 (by kernel_rfl) rfl #[.slice Ao31 x15_2.length co31] rfl (by (try simp only [List.map_toArray, List.map_cons, List.map_nil]); first | done | rfl | (simp only [List.length_drop, List.length_take]; rfl)) ?_; (with_reducible refine (banksmanref01_TakeText.calls k2 _ _ x15_2 t495 t496 t497 _ ?side1 ?side2 A26.out).mono ?_); (case side1 => repeat (first | exact (Kd.V_reads' HO_15.out).2.2 | (with_reducible refine Kd.C_alloc ?_ _) | (with_reducible refine Kd.C_drewN ?_ _) | (with_reducible refine Kd.C_drew ?_))); (case side2 => exact (Kd.V_reads' HO_15.out).2.1); rintro e w32 ⟨v498, v500, rfl, ho0, ho1, hb⟩; refine ⟨_, rfl, ?_⟩; have n0_ := Aside0.mk (Kd.V_mono (Kd.V_told (Kd.V_told (Kd.V_old (by (with_reducible repeat (first | apply Kd.V_alloc | apply Kd.V_drewN | apply Kd.V_drew)); exact HO_15.out) hb) (Kd.R_base ho0)) (Kd.R_base ho1)) (fun _ h_ => h_.1)); have n1_ := Aside0.mk (Kd.R_mono (Kd.R_told (Kd.R_told (Kd.R_old (by (with_reducible repeat (first | apply Kd.R_alloc | apply Kd.R_drewN | apply Kd.R_drew)); exact HO_484002.out) hb) (Kd.R_base ho0)) (Kd.R_base ho1)) (fun _ h_ => h_.1)); have n2_ := Aside0.mk (Kd.S_mono (Kd.S_told (Kd.S_told (Kd.S_old (by (with_reducible repeat (first | apply Kd.S_alloc | apply Kd.S_drewN | apply Kd.S_drew)); exact HO_484003.out) hb) (Kd.R_base ho0)) (Kd.R_base ho1)) (fun _ h_ => h_.1)); have n3_ := Aside0.mk (Kd.R_lower (Kd.R_new' ho0 (Kd.R_lt (by (with_reducible repeat (first | apply Kd.R_alloc | apply Kd.R_drewN | apply Kd.R_drew)); exact HO_484002.out))) (below_size (by repeat (first | (with_reducible first | exact HB.out | apply below_alloc | apply pw_below_drewN | apply below_drew1 | refine below_set ?_ GE460.out | refine below_set ?_ GE483.out) | exact HB.out)))); have n4_ := Aside0.mk (Kd.R_lower (Kd.R_new' ho1 (Kd.R_lt (by (with_reducible repeat (first | apply Kd.R_alloc | apply Kd.R_drewN | apply Kd.R_drew)); exact HO_484002.out))) (below_size (by repeat (first | (with_reducible first | exact HB.out | apply below_alloc | apply pw_below_drewN | apply below_drew1 | refine below_set ?_ GE460.out | refine below_set ?_ GE483.out) | exact HB.out)))); have n5_ := Aside0.mk (blk_below (g := gb460) (o := .cells #[.int .i64 x461000_2, .bool x461001_2, .slice none 0 0, .slice none 0 0] 36 (0, 0)) (by (with_reducible repeat (first | refine blk_drewN ?_ _ | refine blk_drew ?_ | refine blk_alloc ?_ _)); exact BK460.out) hb); have n6_ := Aside0.mk (blk_below (g := gb483) (o := .cells #[.int .i64 t461, .bool (t466 == 1), .slice Ao21 t471.length co21, u484003] 36 (0, 0)) (by (with_reducible repeat (first | refine blk_drewN ?_ _ | refine blk_drew ?_ | refine blk_alloc ?_ _)); exact BK483.out) hb); have n7_ := Aside0.mk (below_step (by repeat (first | (with_reducible first | exact HB.out | apply below_alloc | apply pw_below_drewN | apply below_drew1 | refine below_set ?_ GE460.out | refine below_set ?_ GE483.out) | exact HB.out)) hb); clear HO_15; clear HO_484002; clear HO_484003; clear BK460; clear BK483; clear HB; have HO_15 := n0_; have HO_484002 := n1_; have HO_484003 := n2_; have HO499 := n3_; have HO501 := n4_; have BK460 := n5_; have BK483 := n6_; have HB := n7_; clear n0_ n1_ n2_ n3_ n4_ n5_ n6_ n7_; (try clear hb); (try clear hb2); (try clear hk); (try clear hi); (try clear ho0); (try clear ho1); obtain ⟨Ao33, co33, eo33⟩ := Kd.R_slice HO501.out; subst eo33) | ((with_reducible refine gate_callee (f := 31) rfl ?_); refine goesL_ (some 88) rfl rfl Try.func31 (by kernel_rfl) rfl #[.slice Ao33 t496.length co33] rfl (by (try simp only [List.map_toArray, List.map_cons, List.map_nil]); first | done | rfl | (simp only [List.length_drop, List.length_take]; rfl)) ?_; (with_reducible refine (banksmanref01_TakeText.calls k2 _ _ t496 t502 t503 t504 _ ?side1 ?side2 A27.out).mono ?_); (case side1 => repeat (first | exact (Kd.R_reads' HO501.out).2.2 | (with_reducible refine Kd.C_alloc ?_ _) | (with_reducible refine Kd.C_drewN ?_ _) | (with_reducible refine Kd.C_drew ?_))); (case side2 => exact (Kd.R_reads' HO501.out).2.1); rintro e w34 ⟨v505, v507, rfl, ho0, ho1, hb⟩; refine ⟨_, rfl, ?_⟩; have n0_ := Aside0.mk (Kd.V_mono (Kd.V_told (Kd.V_told (Kd.V_old (by (with_reducible repeat (first | apply Kd.V_alloc | apply Kd.V_drewN | apply Kd.V_drew)); exact HO_15.out) hb) (Kd.R_base ho0)) (Kd.R_base ho1)) (fun _ h_ => h_.1)); have n1_ := Aside0.mk (Kd.R_mono (Kd.R_told (Kd.R_told (Kd.R_old (by (with_reducible repeat (first | apply Kd.R_alloc | apply Kd.R_drewN | apply Kd.R_drew)); exact HO_484002.out) hb) (Kd.R_base ho0)) (Kd.R_base ho1)) (fun _ h_ => h_.1)); have n2_ := Aside0.mk (Kd.S_mono (Kd.S_told (Kd.S_told (Kd.S_old (by (with_reducible repeat (first | apply Kd.S_alloc | apply Kd.S_drewN | apply Kd.S_drew)); exact HO_484003.out) hb) (Kd.R_base ho0)) (Kd.R_base ho1)) (fun _ h_ => h_.1)); have n3_ := Aside0.mk (Kd.R_mono (Kd.R_told (Kd.R_told (Kd.R_old (by (with_reducible repeat (first | apply Kd.R_alloc | apply Kd.R_drewN | apply Kd.R_drew)); exact HO499.out) hb) (Kd.R_base ho0)) (Kd.R_base ho1)) (fun _ h_ => h_.1)); have n4_ := Aside0.mk (Kd.R_mono (Kd.R_told (Kd.R_told (Kd.R_old (by (with_reducible repeat (first | apply Kd.R_alloc | apply Kd.R_drewN | apply Kd.R_drew)); exact HO501.out) hb) (Kd.R_base ho0)) (Kd.R_base ho1)) (fun _ h_ => h_.1)); have n5_ := Aside0.mk (Kd.R_lower (Kd.R_new' (Kd.R_new' (Kd.R_new' ho0 (Kd.R_lt (by (with_reducible repeat (first | apply Kd.R_alloc | apply Kd.R_drewN | apply Kd.R_drew)); exact HO_484002.out))) (Kd.R_lt (by (with_reducible repeat (first | apply Kd.R_alloc | apply Kd.R_drewN | apply Kd.R_drew)); exact HO499.out))) (Kd.R_lt (by (with_reducible repeat (first | apply Kd.R_alloc | apply Kd.R_drewN | apply Kd.R_drew)); exact HO501.out))) (below_size (by repeat (first | (with_reducible first | exact HB.out | apply below_alloc | apply pw_below_drewN | apply below_drew1 | refine below_set ?_ GE460.out | refine below_set ?_ GE483.out) | exact HB.out)))); have n6_ := Aside0.mk (Kd.R_lower (Kd.R_new' (Kd.R_new' (Kd.R_new' ho1 (Kd.R_lt (by (with_reducible repeat (first | apply Kd.R_alloc | apply Kd.R_drewN | apply Kd.R_drew)); exact HO_484002.out))) (Kd.R_lt (by (with_reducible repeat (first | apply Kd.R_alloc | apply Kd.R_drewN | apply Kd.R_drew)); exact HO499.out))) (Kd.R_lt (by (with_reducible repeat (first | apply Kd.R_alloc | apply Kd.R_drewN | apply Kd.R_drew)); exact HO501.out))) (below_size (by repeat (first | (with_reducible first | exact HB.out | apply below_alloc | apply pw_below_drewN | apply below_drew1 | refine below_set ?_ GE460.out | refine below_set ?_ GE483.out) | exact HB.out)))); have n7_ := Aside0.mk (blk_below (g := gb460) (o := .cells #[.int .i64 x461000_2, .bool x461001_2, .slice none 0 0, .slice none 0 0] 36 (0, 0)) (by (with_reducible repeat (first | refine blk_drewN ?_ _ | refine blk_drew ?_ | refine blk_alloc ?_ _)); exact BK460.out) hb); have n8_ := Aside0.mk (blk_below (g := gb483) (o := .cells #[.int .i64 t461, .bool (t466 == 1), .slice Ao21 t471.length co21, u484003] 36 (0, 0)) (by (with_reducible repeat (first | refine blk_drewN ?_ _ | refine blk_drew ?_ | refine blk_alloc ?_ _)); exact BK483.out) hb); have n9_ := Aside0.mk (below_step (by repeat (first | (with_reducible first | exact HB.out | apply below_alloc | apply pw_below_drewN | apply below_drew1 | refine below_set ?_ GE460.out | refine below_set ?_ GE483.out) | exact HB.out)) hb); clear HO_15; clear HO_484002; clear HO_484003; clear HO499; clear HO501; clear BK460; clear BK483; clear HB; have HO_15 := n0_; have HO_484002 := n1_; have HO_484003 := n2_; have HO499 := n3_; have HO501 := n4_; have HO506 := n5_; have HO508 := n6_; have BK460 := n7_; have BK483 := n8_; have HB := n9_; clear n0_ n1_ n2_ n3_ n4_ n5_ n6_ n7_ n8_ n9_; (try clear hb); (try clear hb2); (try clear hk); (try clear hi); (try clear ho0); (try clear ho1); have hnb35 := NB483_460.out; have hnc35 := NB460_483.out; have hcz36_0 : w34.cell? ⟨gb483, 0, none⟩ = some (.int .i64 t461) := (blk_cell BK483.out 0).trans rfl; have hcz36_1 : w34.cell? ⟨gb483, 1, none⟩ = some (.bool (t466 == 1)) := (blk_cell BK483.out 1).trans rfl; have hcz36_2 : w34.cell? ⟨gb483, 2, none⟩ = some (.slice Ao21 t471.length co21) := (blk_cell BK483.out 2).trans rfl; have hcz36_3 : w34.cell? ⟨gb483, 3, none⟩ = some (u484003) := (blk_cell BK483.out 3).trans rfl; have hfz36_0 := blk_frozen BK483.out 0; have hfz36_1 := blk_frozen BK483.out 1; have hfz36_2 := blk_frozen BK483.out 2; have hfz36_3 := blk_frozen BK483.out 3; obtain ⟨Ao37, co37, eo37⟩ := Kd.R_slice HO506.out; subst eo37; obtain ⟨Ao38, co38, eo38⟩ := Kd.R_slice HO499.out; subst eo38) | ((with_reducible refine gate_builtin (b := .append) (xs := #[.tmp 101, .tmp 105]) rfl ?_); (try (refine gate_guard (by rfl) ?_; dsimp only)); at_builtin; refine Kd.S_append k47 (w0 := w) w.heap.size rfl (.tmp 101) (.tmp 105) 34 47 (.agg #[(.slice none 0 0), (.slice none 0 0)]) 48 rfl Try.underlying34 info47 rfl (by decide) (by omega) u484003 x484003_2 (⟨t495, t502⟩ : S47) [.slice Ao38 t495.length co38, .slice Ao37 t502.length co37] (fun k_ => some k_ ≠ (.slice Ao21 t471.length co21 : Value).ownBlock ∧ some k_ ≠ (.slice Ao33 t496.length co33 : Value).ownBlock ∧ some k_ ≠ (v507 : Value).ownBlock) (fun k_ => some k_ = (.slice Ao38 t495.length co38 : Value).ownBlock ∨ some k_ = (.slice Ao37 t502.length co37 : Value).ownBlock) rfl rfl ?aP (fun k_ hk_ => hk_.elim (fun h_ => ((Kd.R_mono (ok' := fun k_ => ((fun k_ => some k_ ≠ (.slice Ao21 t471.length co21 : Value).ownBlock ∧ some k_ ≠ (.slice Ao33 t496.length co33 : Value).ownBlock ∧ some k_ ≠ (v507 : Value).ownBlock)) k_ ∧ some k_ ≠ (u484003 : Value).ownBlock) (Kd.R_apart' (HO499.out) (Kd.S_typed HO_484003.out) (by decide)) (fun k_ hk => ⟨⟨hk.1.1.1.2, ⟨hk.1.1.1.1, hk.1.2⟩⟩, hk.2⟩))).1 k_ h_.symm) (fun h_ => ((Kd.R_mono (ok' := fun k_ => ((fun k_ => some k_ ≠ (.slice Ao21 t471.length co21 : Value).ownBlock ∧ some k_ ≠ (.slice Ao33 t496.length co33 : Value).ownBlock ∧ some k_ ≠ (v507 : Value).ownBlock)) k_ ∧ some k_ ≠ (u484003 : Value).ownBlock) (Kd.R_apart' (HO506.out) (Kd.S_typed HO_484003.out) (by decide)) (fun k_ hk => ⟨⟨hk.1.1.1.2, ⟨hk.1.2, hk.1.1.1.1⟩⟩, hk.2⟩))).1 k_ h_.symm)) ?aF ?aO ?aB ?aS ?aL ?_; (case aP => exact k47_mkM _ _ _ (⟨t495, t502⟩ : S47) (Kd.R_mono (Kd.R_tight rfl (Kd.R_mono (ok' := fun k_ => ((fun k_ => some k_ ≠ (.slice Ao21 t471.length co21 : Value).ownBlock ∧ some k_ ≠ (.slice Ao33 t496.length co33 : Value).ownBlock ∧ some k_ ≠ (v507 : Value).ownBlock)) k_ ∧ some k_ ≠ (u484003 : Value).ownBlock) (Kd.R_apart' (HO499.out) (Kd.S_typed HO_484003.out) (by decide)) (fun k_ hk => ⟨⟨hk.1.1.1.2, ⟨hk.1.1.1.1, hk.1.2⟩⟩, hk.2⟩))) (fun _ h_ => Or.inl h_)) (Kd.R_mono (Kd.R_tight rfl (Kd.R_mono (ok' := fun k_ => ((fun k_ => some k_ ≠ (.slice Ao21 t471.length co21 : Value).ownBlock ∧ some k_ ≠ (.slice Ao33 t496.length co33 : Value).ownBlock ∧ some k_ ≠ (v507 : Value).ownBlock)) k_ ∧ some k_ ≠ (u484003 : Value).ownBlock) (Kd.R_apart' (HO506.out) (Kd.S_typed HO_484003.out) (by decide)) (fun k_ hk => ⟨⟨hk.1.1.1.2, ⟨hk.1.2, hk.1.1.1.1⟩⟩, hk.2⟩))) (fun _ h_ => Or.inr (h_)))); (case aB => exact (by repeat (first | (with_reducible first | exact HB.out | apply below_alloc | apply pw_below_drewN | apply below_drew1 | refine below_set ?_ GE460.out | refine below_set ?_ GE483.out) | exact HB.out))); (case aF => exact (fun k_ hk => ⟨Kd.fresh' (Kd.R_lt (by (with_reducible repeat (first | apply Kd.R_alloc | apply Kd.R_drewN | apply Kd.R_drew)); exact HO_484002.out)) k_ hk, Kd.fresh' (Kd.R_lt (by (with_reducible repeat (first | apply Kd.R_alloc | apply Kd.R_drewN | apply Kd.R_drew)); exact HO501.out)) k_ hk, Kd.fresh' (Kd.R_lt (by (with_reducible repeat (first | apply Kd.R_alloc | apply Kd.R_drewN | apply Kd.R_drew)); exact HO508.out)) k_ hk⟩)); (case aO => exact (by (with_reducible repeat (first | apply Kd.S_alloc | apply Kd.S_drewN | apply Kd.S_drew)); exact Kd.S_mono HO_484003.out (fun k_ hk => ⟨⟨hk.1.1.1.1, ⟨hk.1.1.2, hk.2⟩⟩, fun e_ => e_.elim (fun h_ => hk.1.1.1.2 h_) (fun h_ => hk.1.2 h_)⟩))); (case aS => exact (below_size (by repeat (first | (with_reducible first | exact HB.out | apply below_alloc | apply pw_below_drewN | apply below_drew1 | refine below_set ?_ GE460.out | refine below_set ?_ GE483.out) | exact HB.out)))); (case aL => have := LMc30.out; omega); intro v510 w39 ho hb hg hat; rw [← Ny509.out] at ho; have n0_ := Aside0.mk (Kd.V_afterv (ok := (fun k_ => some k_ ≠ (.slice Ao21 t471.length co21 : Value).ownBlock ∧ some k_ ≠ (.slice Ao38 t495.length co38 : Value).ownBlock ∧ some k_ ≠ (.slice Ao33 t496.length co33 : Value).ownBlock ∧ some k_ ≠ (.slice Ao37 t502.length co37 : Value).ownBlock ∧ some k_ ≠ (v507 : Value).ownBlock ∧ k_ ≠ gb460 ∧ k_ ≠ gb483)) (by (with_reducible repeat (first | apply Kd.V_alloc | apply Kd.V_drewN | apply Kd.V_drew)); exact Kd.V_mono HO_15.out (fun _ hk => ⟨⟨hk.1.1.1.1.1, ⟨hk.1.1.1.2, ⟨hk.1.1.2, ⟨hk.1.2, ⟨hk.2, ⟨hk.1.1.1.1.2.2.1, hk.1.1.1.1.2.2.2⟩⟩⟩⟩⟩⟩, hk.1.1.1.1.2.1⟩)) hg hat); have n1_ := Aside0.mk (Kd.R_over' (by (with_reducible repeat (first | apply Kd.R_alloc | apply Kd.R_drewN | apply Kd.R_drew)); exact HO_484002.out) (Kd.S_typed (by (with_reducible repeat (first | apply Kd.S_alloc | apply Kd.S_drewN | apply Kd.S_drew)); exact HO_484003.out)) (by decide) hg); have n2_ := Aside0.mk (blk_grown (g := gb460) (o := .cells #[.int .i64 x461000_2, .bool x461001_2, .slice none 0 0, .slice none 0 0] 36 (0, 0)) (by (with_reducible repeat (first | refine blk_drewN ?_ _ | refine blk_drew ?_ | refine blk_alloc ?_ _)); exact BK460.out) hg (Kd.S_ne HO_484003.out BK460.out (by decide))); have n3_ := Aside0.mk (blk_grown (g := gb483) (o := .cells #[.int .i64 t461, .bool (t466 == 1), .slice Ao21 t471.length co21, u484003] 36 (0, 0)) (by (with_reducible repeat (first | refine blk_drewN ?_ _ | refine blk_drew ?_ | refine blk_alloc ?_ _)); exact BK483.out) hg (Kd.S_ne HO_484003.out BK483.out (by decide))); have n4_ := Aside0.mk (Kd.R_over' (by (with_reducible repeat (first | apply Kd.R_alloc | apply Kd.R_drewN | apply Kd.R_drew)); exact HO501.out) (Kd.S_typed (by (with_reducible repeat (first | apply Kd.S_alloc | apply Kd.S_drewN | apply Kd.S_drew)); exact HO_484003.out)) (by decide) hg); have n5_ := Aside0.mk (Kd.R_over' (by (with_reducible repeat (first | apply Kd.R_alloc | apply Kd.R_drewN | apply Kd.R_drew)); exact HO508.out) (Kd.S_typed (by (with_reducible repeat (first | apply Kd.S_alloc | apply Kd.S_drewN | apply Kd.S_drew)); exact HO_484003.out)) (by decide) hg); have n6_ := Aside0.mk (hb); have n7_ := Aside0.mk (ho); clear HO_15; clear HO_484002; clear BK460; clear BK483; clear HO501; clear HO508; clear HB; clear HO_484003; clear HO499; clear HO506; have HO_15 := n0_; have HO_484002 := n1_; have BK460 := n2_; have BK483 := n3_; have HO501 := n4_; have HO508 := n5_; have HB := n6_; have HO511 := n7_; clear n0_ n1_ n2_ n3_ n4_ n5_ n6_ n7_; clear ho hb hg hat; obtain ⟨Ao40, co40, eo40⟩ := Kd.S_slice HO511.out; subst eo40; have hcz41_0 : w39.cell? ⟨gb483, 0, none⟩ = some (.int .i64 t461) := (blk_cell BK483.out 0).trans rfl; have hcz41_1 : w39.cell? ⟨gb483, 1, none⟩ = some (.bool (t466 == 1)) := (blk_cell BK483.out 1).trans rfl; have hcz41_2 : w39.cell? ⟨gb483, 2, none⟩ = some (.slice Ao21 t471.length co21) := (blk_cell BK483.out 2).trans rfl; have hcz41_3 : w39.cell? ⟨gb483, 3, none⟩ = some (u484003) := (blk_cell BK483.out 3).trans rfl; have hfz41_0 := blk_frozen BK483.out 0; have hfz41_1 := blk_frozen BK483.out 1; have hfz41_2 := blk_frozen BK483.out 2; have hfz41_3 := blk_frozen BK483.out 3))
                    go_roundg k2
                    case measure => have := HJ5.out; have := HK2.out; omega
                    case rel => exact ⟨(t503), (wrap64 (x18_2 + 1)), (x461000_2), (x461001_2), (y509), (.slice Ao40 y509.length co40), (by first | rfl | (simp; done) | (simp [*]; done)), H', ⟨by have := HJ5.out; have := HK2.out; omega⟩, ⟨Kd.R_V (by (with_reducible repeat (first | apply Kd.R_alloc | apply Kd.R_drewN | apply Kd.R_drew)); exact Kd.R_mono (Kd.R_far (p := ⟨gb483, 3, none⟩) (Kd.R_types (Kd.R_types (Kd.R_types (Kd.R_apart' HO508.out (Kd.S_typed HO511.out) (by decide)) BK460.out (by decide)) BK483.out (by decide)) BK483.out (by decide)) (fun _ hk => hk.2) (.slice Ao40 y509.length co40)) (fun _ hk => ⟨hk.1.1.1.1.1.1.2, ⟨hk.1.1.1.2, ⟨hk.1.1.2, hk.1.2⟩⟩⟩))⟩, ⟨by (with_reducible repeat (first | apply Kd.R_alloc | apply Kd.R_drewN | apply Kd.R_drew)); exact Kd.R_mono (Kd.R_far (p := ⟨gb483, 3, none⟩) (Kd.R_types HO_484002.out BK483.out (by decide)) (fun _ hk => hk.2) (.slice Ao40 y509.length co40)) (fun _ hk => trivial)⟩, ⟨by (with_reducible repeat (first | apply Kd.S_alloc | apply Kd.S_drewN | apply Kd.S_drew)); exact Kd.S_mono (Kd.S_far (p := ⟨gb483, 3, none⟩) (Kd.S_types HO511.out BK483.out (by decide)) (fun _ hk => hk.2) (.slice Ao40 y509.length co40)) (fun _ hk => hk.1.1)⟩, ⟨by (with_reducible repeat (first | refine blk_drewN ?_ _ | refine blk_drew ?_ | refine blk_alloc ?_ _)); refine blk_far ?_ NB460_483.out _; (with_reducible repeat (first | refine blk_drewN ?_ _ | refine blk_drew ?_ | refine blk_alloc ?_ _)); exact BK460.out⟩, ⟨by (with_reducible repeat (first | refine blk_drewN ?_ _ | refine blk_drew ?_ | refine blk_alloc ?_ _)); refine blk_put (cs := #[.int .i64 t461, .bool (t466 == 1), .slice Ao21 t471.length co21, u484003]) ?_ 3 _ rfl; (with_reducible repeat (first | refine blk_drewN ?_ _ | refine blk_drew ?_ | refine blk_alloc ?_ _)); exact BK483.out⟩, ⟨by repeat (first | (with_reducible first | exact HB.out | apply below_alloc | apply pw_below_drewN | apply below_drew1 | refine below_set ?_ GE460.out | refine below_set ?_ GE483.out) | exact HB.out)⟩⟩
                  · rw [if_neg c30] at H
                    exact absurd H (by simp)
                · rw [if_neg c29] at H
                  have c29b0 : (t504 == 0) = false := beq_eq_false_iff_ne.mpr c29
                  have c29b1 : (t504 != 0) = true := bne_iff_ne.mpr c29
                  simp only [Option.some.injEq, Prod.mk.injEq] at H
                  obtain ⟨rfl, rfl, rfl, rfl, rfl, rfl⟩ := H
                  obtain ⟨Ao42, co42, eo42⟩ := Kd.V_slice HO_15.out
                  subst eo42
                  go_wp2_with (first | ((with_reducible refine gate_callee (f := 31) rfl ?_); refine goesL_ (some 82) rfl rfl Try.func31 (by kernel_rfl) rfl #[.slice Ao42 x15_2.length co42] rfl (by (try simp only [List.map_toArray, List.map_cons, List.map_nil]); first | done | rfl | (simp only [List.length_drop, List.length_take]; rfl)) ?_; (with_reducible refine (banksmanref01_TakeText.calls k2 _ _ x15_2 t495 t496 t497 _ ?side1 ?side2 A26.out).mono ?_); (case side1 => repeat (first | exact (Kd.V_reads' HO_15.out).2.2 | (with_reducible refine Kd.C_alloc ?_ _) | (with_reducible refine Kd.C_drewN ?_ _) | (with_reducible refine Kd.C_drew ?_))); (case side2 => exact (Kd.V_reads' HO_15.out).2.1); rintro e w43 ⟨v498, v500, rfl, ho0, ho1, hb⟩; refine ⟨_, rfl, ?_⟩; have n0_ := Aside0.mk (Kd.V_mono (Kd.V_told (Kd.V_told (Kd.V_old (by (with_reducible repeat (first | apply Kd.V_alloc | apply Kd.V_drewN | apply Kd.V_drew)); exact HO_15.out) hb) (Kd.R_base ho0)) (Kd.R_base ho1)) (fun _ h_ => h_.1)); have n1_ := Aside0.mk (Kd.R_mono (Kd.R_told (Kd.R_told (Kd.R_old (by (with_reducible repeat (first | apply Kd.R_alloc | apply Kd.R_drewN | apply Kd.R_drew)); exact HO_484002.out) hb) (Kd.R_base ho0)) (Kd.R_base ho1)) (fun _ h_ => h_.1)); have n2_ := Aside0.mk (Kd.S_mono (Kd.S_told (Kd.S_told (Kd.S_old (by (with_reducible repeat (first | apply Kd.S_alloc | apply Kd.S_drewN | apply Kd.S_drew)); exact HO_484003.out) hb) (Kd.R_base ho0)) (Kd.R_base ho1)) (fun _ h_ => h_.1)); have n3_ := Aside0.mk (Kd.R_lower (Kd.R_new' ho0 (Kd.R_lt (by (with_reducible repeat (first | apply Kd.R_alloc | apply Kd.R_drewN | apply Kd.R_drew)); exact HO_484002.out))) (below_size (by repeat (first | (with_reducible first | exact HB.out | apply below_alloc | apply pw_below_drewN | apply below_drew1 | refine below_set ?_ GE460.out | refine below_set ?_ GE483.out) | exact HB.out)))); have n4_ := Aside0.mk (Kd.R_lower (Kd.R_new' ho1 (Kd.R_lt (by (with_reducible repeat (first | apply Kd.R_alloc | apply Kd.R_drewN | apply Kd.R_drew)); exact HO_484002.out))) (below_size (by repeat (first | (with_reducible first | exact HB.out | apply below_alloc | apply pw_below_drewN | apply below_drew1 | refine below_set ?_ GE460.out | refine below_set ?_ GE483.out) | exact HB.out)))); have n5_ := Aside0.mk (blk_below (g := gb460) (o := .cells #[.int .i64 x461000_2, .bool x461001_2, .slice none 0 0, .slice none 0 0] 36 (0, 0)) (by (with_reducible repeat (first | refine blk_drewN ?_ _ | refine blk_drew ?_ | refine blk_alloc ?_ _)); exact BK460.out) hb); have n6_ := Aside0.mk (blk_below (g := gb483) (o := .cells #[.int .i64 t461, .bool (t466 == 1), .slice Ao21 t471.length co21, u484003] 36 (0, 0)) (by (with_reducible repeat (first | refine blk_drewN ?_ _ | refine blk_drew ?_ | refine blk_alloc ?_ _)); exact BK483.out) hb); have n7_ := Aside0.mk (below_step (by repeat (first | (with_reducible first | exact HB.out | apply below_alloc | apply pw_below_drewN | apply below_drew1 | refine below_set ?_ GE460.out | refine below_set ?_ GE483.out) | exact HB.out)) hb); clear HO_15; clear HO_484002; clear HO_484003; clear BK460; clear BK483; clear HB; have HO_15 := n0_; have HO_484002 := n1_; have HO_484003 := n2_; have HO499 := n3_; have HO501 := n4_; have BK460 := n5_; have BK483 := n6_; have HB := n7_; clear n0_ n1_ n2_ n3_ n4_ n5_ n6_ n7_; (try clear hb); (try clear hb2); (try clear hk); (try clear hi); (try clear ho0); (try clear ho1); obtain ⟨Ao44, co44, eo44⟩ := Kd.R_slice HO501.out; subst eo44) | ((with_reducible refine gate_callee (f := 31) rfl ?_); refine goesL_ (some 88) rfl rfl Try.func31 (by kernel_rfl) rfl #[.slice Ao44 t496.length co44] rfl (by (try simp only [List.map_toArray, List.map_cons, List.map_nil]); first | done | rfl | (simp only [List.length_drop, List.length_take]; rfl)) ?_; (with_reducible refine (banksmanref01_TakeText.calls k2 _ _ t496 t502 t503 t504 _ ?side1 ?side2 A27.out).mono ?_); (case side1 => repeat (first | exact (Kd.R_reads' HO501.out).2.2 | (with_reducible refine Kd.C_alloc ?_ _) | (with_reducible refine Kd.C_drewN ?_ _) | (with_reducible refine Kd.C_drew ?_))); (case side2 => exact (Kd.R_reads' HO501.out).2.1); rintro e w45 ⟨v505, v507, rfl, ho0, ho1, hb⟩; refine ⟨_, rfl, ?_⟩; have n0_ := Aside0.mk (Kd.V_mono (Kd.V_told (Kd.V_told (Kd.V_old (by (with_reducible repeat (first | apply Kd.V_alloc | apply Kd.V_drewN | apply Kd.V_drew)); exact HO_15.out) hb) (Kd.R_base ho0)) (Kd.R_base ho1)) (fun _ h_ => h_.1)); have n1_ := Aside0.mk (Kd.R_mono (Kd.R_told (Kd.R_told (Kd.R_old (by (with_reducible repeat (first | apply Kd.R_alloc | apply Kd.R_drewN | apply Kd.R_drew)); exact HO_484002.out) hb) (Kd.R_base ho0)) (Kd.R_base ho1)) (fun _ h_ => h_.1)); have n2_ := Aside0.mk (Kd.S_mono (Kd.S_told (Kd.S_told (Kd.S_old (by (with_reducible repeat (first | apply Kd.S_alloc | apply Kd.S_drewN | apply Kd.S_drew)); exact HO_484003.out) hb) (Kd.R_base ho0)) (Kd.R_base ho1)) (fun _ h_ => h_.1)); have n3_ := Aside0.mk (Kd.R_mono (Kd.R_told (Kd.R_told (Kd.R_old (by (with_reducible repeat (first | apply Kd.R_alloc | apply Kd.R_drewN | apply Kd.R_drew)); exact HO499.out) hb) (Kd.R_base ho0)) (Kd.R_base ho1)) (fun _ h_ => h_.1)); have n4_ := Aside0.mk (Kd.R_mono (Kd.R_told (Kd.R_told (Kd.R_old (by (with_reducible repeat (first | apply Kd.R_alloc | apply Kd.R_drewN | apply Kd.R_drew)); exact HO501.out) hb) (Kd.R_base ho0)) (Kd.R_base ho1)) (fun _ h_ => h_.1)); have n5_ := Aside0.mk (Kd.R_lower (Kd.R_new' (Kd.R_new' (Kd.R_new' ho0 (Kd.R_lt (by (with_reducible repeat (first | apply Kd.R_alloc | apply Kd.R_drewN | apply Kd.R_drew)); exact HO_484002.out))) (Kd.R_lt (by (with_reducible repeat (first | apply Kd.R_alloc | apply Kd.R_drewN | apply Kd.R_drew)); exact HO499.out))) (Kd.R_lt (by (with_reducible repeat (first | apply Kd.R_alloc | apply Kd.R_drewN | apply Kd.R_drew)); exact HO501.out))) (below_size (by repeat (first | (with_reducible first | exact HB.out | apply below_alloc | apply pw_below_drewN | apply below_drew1 | refine below_set ?_ GE460.out | refine below_set ?_ GE483.out) | exact HB.out)))); have n6_ := Aside0.mk (Kd.R_lower (Kd.R_new' (Kd.R_new' (Kd.R_new' ho1 (Kd.R_lt (by (with_reducible repeat (first | apply Kd.R_alloc | apply Kd.R_drewN | apply Kd.R_drew)); exact HO_484002.out))) (Kd.R_lt (by (with_reducible repeat (first | apply Kd.R_alloc | apply Kd.R_drewN | apply Kd.R_drew)); exact HO499.out))) (Kd.R_lt (by (with_reducible repeat (first | apply Kd.R_alloc | apply Kd.R_drewN | apply Kd.R_drew)); exact HO501.out))) (below_size (by repeat (first | (with_reducible first | exact HB.out | apply below_alloc | apply pw_below_drewN | apply below_drew1 | refine below_set ?_ GE460.out | refine below_set ?_ GE483.out) | exact HB.out)))); have n7_ := Aside0.mk (blk_below (g := gb460) (o := .cells #[.int .i64 x461000_2, .bool x461001_2, .slice none 0 0, .slice none 0 0] 36 (0, 0)) (by (with_reducible repeat (first | refine blk_drewN ?_ _ | refine blk_drew ?_ | refine blk_alloc ?_ _)); exact BK460.out) hb); have n8_ := Aside0.mk (blk_below (g := gb483) (o := .cells #[.int .i64 t461, .bool (t466 == 1), .slice Ao21 t471.length co21, u484003] 36 (0, 0)) (by (with_reducible repeat (first | refine blk_drewN ?_ _ | refine blk_drew ?_ | refine blk_alloc ?_ _)); exact BK483.out) hb); have n9_ := Aside0.mk (below_step (by repeat (first | (with_reducible first | exact HB.out | apply below_alloc | apply pw_below_drewN | apply below_drew1 | refine below_set ?_ GE460.out | refine below_set ?_ GE483.out) | exact HB.out)) hb); clear HO_15; clear HO_484002; clear HO_484003; clear HO499; clear HO501; clear BK460; clear BK483; clear HB; have HO_15 := n0_; have HO_484002 := n1_; have HO_484003 := n2_; have HO499 := n3_; have HO501 := n4_; have HO506 := n5_; have HO508 := n6_; have BK460 := n7_; have BK483 := n8_; have HB := n9_; clear n0_ n1_ n2_ n3_ n4_ n5_ n6_ n7_ n8_ n9_; (try clear hb); (try clear hb2); (try clear hk); (try clear hi); (try clear ho0); (try clear ho1); have hnb46 := NB460_483.out; have hnc46 := NB483_460.out; have hcz47_0 : w45.cell? ⟨gb460, 0, none⟩ = some (.int .i64 x461000_2) := (blk_cell BK460.out 0).trans rfl; have hcz47_1 : w45.cell? ⟨gb460, 1, none⟩ = some (.bool x461001_2) := (blk_cell BK460.out 1).trans rfl; have hcz47_2 : w45.cell? ⟨gb460, 2, none⟩ = some (.slice none 0 0) := (blk_cell BK460.out 2).trans rfl; have hcz47_3 : w45.cell? ⟨gb460, 3, none⟩ = some (.slice none 0 0) := (blk_cell BK460.out 3).trans rfl; have hfz47_0 := blk_frozen BK460.out 0; have hfz47_1 := blk_frozen BK460.out 1; have hfz47_2 := blk_frozen BK460.out 2; have hfz47_3 := blk_frozen BK460.out 3))
                  refine bodyPost_ret (results_ctt rfl _ _ gb460 36 #[.int .i64 0, .bool false, .slice none 0 0, .slice none 0 0] (0, 0) _ rfl (by (with_reducible repeat (first | refine blk_drewN ?_ _ | refine blk_drew ?_ | refine blk_alloc ?_ _)); refine blk_put (cs := #[.int .i64 0, .bool false, .slice none 0 0, .slice none 0 0]) ?_ 3 _ rfl; (with_reducible repeat (first | refine blk_drewN ?_ _ | refine blk_drew ?_ | refine blk_alloc ?_ _)); refine blk_put (cs := #[.int .i64 0, .bool false, .slice none 0 0, .slice none 0 0]) ?_ 2 _ rfl; (with_reducible repeat (first | refine blk_drewN ?_ _ | refine blk_drew ?_ | refine blk_alloc ?_ _)); refine blk_put (cs := #[.int .i64 0, .bool x461001_2, .slice none 0 0, .slice none 0 0]) ?_ 1 _ rfl; (with_reducible repeat (first | refine blk_drewN ?_ _ | refine blk_drew ?_ | refine blk_alloc ?_ _)); refine blk_put (cs := #[.int .i64 x461000_2, .bool x461001_2, .slice none 0 0, .slice none 0 0]) ?_ 0 _ rfl; (with_reducible repeat (first | refine blk_drewN ?_ _ | refine blk_drew ?_ | refine blk_alloc ?_ _)); exact BK460.out) Try.underlying36 rfl (by kernel_rfl)) rfl ?_
                  exact ⟨_, _, _, by first | rfl | (simp [errW_none, errW_some] <;> rfl) | (simp [*, errW_none, errW_some] <;> rfl), by first | exact Kd.R_nil _ _ _ _ _ | exact Kd.N_nil _ _ _ _ _ | exact Kd.V_nil _ _ _ _ _ | exact Kd.Q_nil _ _ _ _ _ | exact Kd.S_nil _ _ _ _ _, by first | exact Kd.S_nil _ _ _ _ _ | exact Kd.N_nil _ _ _ _ _ | exact Kd.V_nil _ _ _ _ _ | exact Kd.Q_nil _ _ _ _ _ | exact Kd.R_nil _ _ _ _ _, by first | exact Kd.R_nil _ _ _ _ _ | exact Kd.N_nil _ _ _ _ _ | exact Kd.V_nil _ _ _ _ _ | exact Kd.Q_nil _ _ _ _ _ | exact Kd.S_nil _ _ _ _ _, by repeat (first | (with_reducible first | exact HB.out | apply below_alloc | apply pw_below_drewN | apply below_drew1 | refine below_set ?_ GE460.out | refine below_set ?_ GE483.out) | exact HB.out)⟩
              · rw [if_neg c28] at H
                have c28b0 : (t497 == 0) = false := beq_eq_false_iff_ne.mpr c28
                have c28b1 : (t497 != 0) = true := bne_iff_ne.mpr c28
                simp only [Option.some.injEq, Prod.mk.injEq] at H
                obtain ⟨rfl, rfl, rfl, rfl, rfl, rfl⟩ := H
                obtain ⟨Ao48, co48, eo48⟩ := Kd.V_slice HO_15.out
                subst eo48
                go_wp2_with (first | ((with_reducible refine gate_callee (f := 31) rfl ?_); refine goesL_ (some 82) rfl rfl Try.func31 (by kernel_rfl) rfl #[.slice Ao48 x15_2.length co48] rfl (by (try simp only [List.map_toArray, List.map_cons, List.map_nil]); first | done | rfl | (simp only [List.length_drop, List.length_take]; rfl)) ?_; (with_reducible refine (banksmanref01_TakeText.calls k2 _ _ x15_2 t495 t496 t497 _ ?side1 ?side2 A26.out).mono ?_); (case side1 => repeat (first | exact (Kd.V_reads' HO_15.out).2.2 | (with_reducible refine Kd.C_alloc ?_ _) | (with_reducible refine Kd.C_drewN ?_ _) | (with_reducible refine Kd.C_drew ?_))); (case side2 => exact (Kd.V_reads' HO_15.out).2.1); rintro e w49 ⟨v498, v500, rfl, ho0, ho1, hb⟩; refine ⟨_, rfl, ?_⟩; have n0_ := Aside0.mk (Kd.V_mono (Kd.V_told (Kd.V_told (Kd.V_old (by (with_reducible repeat (first | apply Kd.V_alloc | apply Kd.V_drewN | apply Kd.V_drew)); exact HO_15.out) hb) (Kd.R_base ho0)) (Kd.R_base ho1)) (fun _ h_ => h_.1)); have n1_ := Aside0.mk (Kd.R_mono (Kd.R_told (Kd.R_told (Kd.R_old (by (with_reducible repeat (first | apply Kd.R_alloc | apply Kd.R_drewN | apply Kd.R_drew)); exact HO_484002.out) hb) (Kd.R_base ho0)) (Kd.R_base ho1)) (fun _ h_ => h_.1)); have n2_ := Aside0.mk (Kd.S_mono (Kd.S_told (Kd.S_told (Kd.S_old (by (with_reducible repeat (first | apply Kd.S_alloc | apply Kd.S_drewN | apply Kd.S_drew)); exact HO_484003.out) hb) (Kd.R_base ho0)) (Kd.R_base ho1)) (fun _ h_ => h_.1)); have n3_ := Aside0.mk (Kd.R_lower (Kd.R_new' ho0 (Kd.R_lt (by (with_reducible repeat (first | apply Kd.R_alloc | apply Kd.R_drewN | apply Kd.R_drew)); exact HO_484002.out))) (below_size (by repeat (first | (with_reducible first | exact HB.out | apply below_alloc | apply pw_below_drewN | apply below_drew1 | refine below_set ?_ GE460.out | refine below_set ?_ GE483.out) | exact HB.out)))); have n4_ := Aside0.mk (Kd.R_lower (Kd.R_new' ho1 (Kd.R_lt (by (with_reducible repeat (first | apply Kd.R_alloc | apply Kd.R_drewN | apply Kd.R_drew)); exact HO_484002.out))) (below_size (by repeat (first | (with_reducible first | exact HB.out | apply below_alloc | apply pw_below_drewN | apply below_drew1 | refine below_set ?_ GE460.out | refine below_set ?_ GE483.out) | exact HB.out)))); have n5_ := Aside0.mk (blk_below (g := gb460) (o := .cells #[.int .i64 x461000_2, .bool x461001_2, .slice none 0 0, .slice none 0 0] 36 (0, 0)) (by (with_reducible repeat (first | refine blk_drewN ?_ _ | refine blk_drew ?_ | refine blk_alloc ?_ _)); exact BK460.out) hb); have n6_ := Aside0.mk (blk_below (g := gb483) (o := .cells #[.int .i64 t461, .bool (t466 == 1), .slice Ao21 t471.length co21, u484003] 36 (0, 0)) (by (with_reducible repeat (first | refine blk_drewN ?_ _ | refine blk_drew ?_ | refine blk_alloc ?_ _)); exact BK483.out) hb); have n7_ := Aside0.mk (below_step (by repeat (first | (with_reducible first | exact HB.out | apply below_alloc | apply pw_below_drewN | apply below_drew1 | refine below_set ?_ GE460.out | refine below_set ?_ GE483.out) | exact HB.out)) hb); clear HO_15; clear HO_484002; clear HO_484003; clear BK460; clear BK483; clear HB; have HO_15 := n0_; have HO_484002 := n1_; have HO_484003 := n2_; have HO499 := n3_; have HO501 := n4_; have BK460 := n5_; have BK483 := n6_; have HB := n7_; clear n0_ n1_ n2_ n3_ n4_ n5_ n6_ n7_; (try clear hb); (try clear hb2); (try clear hk); (try clear hi); (try clear ho0); (try clear ho1); obtain ⟨Ao50, co50, eo50⟩ := Kd.R_slice HO501.out; subst eo50) | ((with_reducible refine gate_callee (f := 31) rfl ?_); refine goesL_ (some 88) rfl rfl Try.func31 (by kernel_rfl) rfl #[.slice Ao50 t496.length co50] rfl (by (try simp only [List.map_toArray, List.map_cons, List.map_nil]); first | done | rfl | (simp only [List.length_drop, List.length_take]; rfl)) ?_; (with_reducible refine (banksmanref01_TakeText.calls k2 _ _ t496 t502 t503 t504 _ ?side1 ?side2 A27.out).mono ?_); (case side1 => repeat (first | exact (Kd.R_reads' HO501.out).2.2 | (with_reducible refine Kd.C_alloc ?_ _) | (with_reducible refine Kd.C_drewN ?_ _) | (with_reducible refine Kd.C_drew ?_))); (case side2 => exact (Kd.R_reads' HO501.out).2.1); rintro e w51 ⟨v505, v507, rfl, ho0, ho1, hb⟩; refine ⟨_, rfl, ?_⟩; have n0_ := Aside0.mk (Kd.V_mono (Kd.V_told (Kd.V_told (Kd.V_old (by (with_reducible repeat (first | apply Kd.V_alloc | apply Kd.V_drewN | apply Kd.V_drew)); exact HO_15.out) hb) (Kd.R_base ho0)) (Kd.R_base ho1)) (fun _ h_ => h_.1)); have n1_ := Aside0.mk (Kd.R_mono (Kd.R_told (Kd.R_told (Kd.R_old (by (with_reducible repeat (first | apply Kd.R_alloc | apply Kd.R_drewN | apply Kd.R_drew)); exact HO_484002.out) hb) (Kd.R_base ho0)) (Kd.R_base ho1)) (fun _ h_ => h_.1)); have n2_ := Aside0.mk (Kd.S_mono (Kd.S_told (Kd.S_told (Kd.S_old (by (with_reducible repeat (first | apply Kd.S_alloc | apply Kd.S_drewN | apply Kd.S_drew)); exact HO_484003.out) hb) (Kd.R_base ho0)) (Kd.R_base ho1)) (fun _ h_ => h_.1)); have n3_ := Aside0.mk (Kd.R_mono (Kd.R_told (Kd.R_told (Kd.R_old (by (with_reducible repeat (first | apply Kd.R_alloc | apply Kd.R_drewN | apply Kd.R_drew)); exact HO499.out) hb) (Kd.R_base ho0)) (Kd.R_base ho1)) (fun _ h_ => h_.1)); have n4_ := Aside0.mk (Kd.R_mono (Kd.R_told (Kd.R_told (Kd.R_old (by (with_reducible repeat (first | apply Kd.R_alloc | apply Kd.R_drewN | apply Kd.R_drew)); exact HO501.out) hb) (Kd.R_base ho0)) (Kd.R_base ho1)) (fun _ h_ => h_.1)); have n5_ := Aside0.mk (Kd.R_lower (Kd.R_new' (Kd.R_new' (Kd.R_new' ho0 (Kd.R_lt (by (with_reducible repeat (first | apply Kd.R_alloc | apply Kd.R_drewN | apply Kd.R_drew)); exact HO_484002.out))) (Kd.R_lt (by (with_reducible repeat (first | apply Kd.R_alloc | apply Kd.R_drewN | apply Kd.R_drew)); exact HO499.out))) (Kd.R_lt (by (with_reducible repeat (first | apply Kd.R_alloc | apply Kd.R_drewN | apply Kd.R_drew)); exact HO501.out))) (below_size (by repeat (first | (with_reducible first | exact HB.out | apply below_alloc | apply pw_below_drewN | apply below_drew1 | refine below_set ?_ GE460.out | refine below_set ?_ GE483.out) | exact HB.out)))); have n6_ := Aside0.mk (Kd.R_lower (Kd.R_new' (Kd.R_new' (Kd.R_new' ho1 (Kd.R_lt (by (with_reducible repeat (first | apply Kd.R_alloc | apply Kd.R_drewN | apply Kd.R_drew)); exact HO_484002.out))) (Kd.R_lt (by (with_reducible repeat (first | apply Kd.R_alloc | apply Kd.R_drewN | apply Kd.R_drew)); exact HO499.out))) (Kd.R_lt (by (with_reducible repeat (first | apply Kd.R_alloc | apply Kd.R_drewN | apply Kd.R_drew)); exact HO501.out))) (below_size (by repeat (first | (with_reducible first | exact HB.out | apply below_alloc | apply pw_below_drewN | apply below_drew1 | refine below_set ?_ GE460.out | refine below_set ?_ GE483.out) | exact HB.out)))); have n7_ := Aside0.mk (blk_below (g := gb460) (o := .cells #[.int .i64 x461000_2, .bool x461001_2, .slice none 0 0, .slice none 0 0] 36 (0, 0)) (by (with_reducible repeat (first | refine blk_drewN ?_ _ | refine blk_drew ?_ | refine blk_alloc ?_ _)); exact BK460.out) hb); have n8_ := Aside0.mk (blk_below (g := gb483) (o := .cells #[.int .i64 t461, .bool (t466 == 1), .slice Ao21 t471.length co21, u484003] 36 (0, 0)) (by (with_reducible repeat (first | refine blk_drewN ?_ _ | refine blk_drew ?_ | refine blk_alloc ?_ _)); exact BK483.out) hb); have n9_ := Aside0.mk (below_step (by repeat (first | (with_reducible first | exact HB.out | apply below_alloc | apply pw_below_drewN | apply below_drew1 | refine below_set ?_ GE460.out | refine below_set ?_ GE483.out) | exact HB.out)) hb); clear HO_15; clear HO_484002; clear HO_484003; clear HO499; clear HO501; clear BK460; clear BK483; clear HB; have HO_15 := n0_; have HO_484002 := n1_; have HO_484003 := n2_; have HO499 := n3_; have HO501 := n4_; have HO506 := n5_; have HO508 := n6_; have BK460 := n7_; have BK483 := n8_; have HB := n9_; clear n0_ n1_ n2_ n3_ n4_ n5_ n6_ n7_ n8_ n9_; (try clear hb); (try clear hb2); (try clear hk); (try clear hi); (try clear ho0); (try clear ho1); have hnb52 := NB460_483.out; have hnc52 := NB483_460.out; have hcz53_0 : w51.cell? ⟨gb460, 0, none⟩ = some (.int .i64 x461000_2) := (blk_cell BK460.out 0).trans rfl; have hcz53_1 : w51.cell? ⟨gb460, 1, none⟩ = some (.bool x461001_2) := (blk_cell BK460.out 1).trans rfl; have hcz53_2 : w51.cell? ⟨gb460, 2, none⟩ = some (.slice none 0 0) := (blk_cell BK460.out 2).trans rfl; have hcz53_3 : w51.cell? ⟨gb460, 3, none⟩ = some (.slice none 0 0) := (blk_cell BK460.out 3).trans rfl; have hfz53_0 := blk_frozen BK460.out 0; have hfz53_1 := blk_frozen BK460.out 1; have hfz53_2 := blk_frozen BK460.out 2; have hfz53_3 := blk_frozen BK460.out 3))
                refine bodyPost_ret (results_ctt rfl _ _ gb460 36 #[.int .i64 0, .bool false, .slice none 0 0, .slice none 0 0] (0, 0) _ rfl (by (with_reducible repeat (first | refine blk_drewN ?_ _ | refine blk_drew ?_ | refine blk_alloc ?_ _)); refine blk_put (cs := #[.int .i64 0, .bool false, .slice none 0 0, .slice none 0 0]) ?_ 3 _ rfl; (with_reducible repeat (first | refine blk_drewN ?_ _ | refine blk_drew ?_ | refine blk_alloc ?_ _)); refine blk_put (cs := #[.int .i64 0, .bool false, .slice none 0 0, .slice none 0 0]) ?_ 2 _ rfl; (with_reducible repeat (first | refine blk_drewN ?_ _ | refine blk_drew ?_ | refine blk_alloc ?_ _)); refine blk_put (cs := #[.int .i64 0, .bool x461001_2, .slice none 0 0, .slice none 0 0]) ?_ 1 _ rfl; (with_reducible repeat (first | refine blk_drewN ?_ _ | refine blk_drew ?_ | refine blk_alloc ?_ _)); refine blk_put (cs := #[.int .i64 x461000_2, .bool x461001_2, .slice none 0 0, .slice none 0 0]) ?_ 0 _ rfl; (with_reducible repeat (first | refine blk_drewN ?_ _ | refine blk_drew ?_ | refine blk_alloc ?_ _)); exact BK460.out) Try.underlying36 rfl (by kernel_rfl)) rfl ?_
                exact ⟨_, _, _, by first | rfl | (simp [errW_none, errW_some] <;> rfl) | (simp [*, errW_none, errW_some] <;> rfl), by first | exact Kd.R_nil _ _ _ _ _ | exact Kd.N_nil _ _ _ _ _ | exact Kd.V_nil _ _ _ _ _ | exact Kd.Q_nil _ _ _ _ _ | exact Kd.S_nil _ _ _ _ _, by first | exact Kd.S_nil _ _ _ _ _ | exact Kd.N_nil _ _ _ _ _ | exact Kd.V_nil _ _ _ _ _ | exact Kd.Q_nil _ _ _ _ _ | exact Kd.R_nil _ _ _ _ _, by first | exact Kd.R_nil _ _ _ _ _ | exact Kd.N_nil _ _ _ _ _ | exact Kd.V_nil _ _ _ _ _ | exact Kd.Q_nil _ _ _ _ _ | exact Kd.S_nil _ _ _ _ _, by repeat (first | (with_reducible first | exact HB.out | apply below_alloc | apply pw_below_drewN | apply below_drew1 | refine below_set ?_ GE460.out | refine below_set ?_ GE483.out) | exact HB.out)⟩
            · rw [if_neg c25] at H
              have c25b0 : decide (x18_2 < t478) = false := decide_eq_false c25
              clear c25
              replace H := Option.bind_eq_some_iff.mp H
              obtain ⟨⟨t484, t487⟩, A540, H⟩ := H
              replace H : (if t487 = 0 then (if (t484.length : Int) > (l0.length : Int) then (some (0, false, ([] : List Int), ([] : List (S47)), ([] : List Int), 210)) else (if 0 ≤ (t484.length : Int) then (if (t484.length : Int) ≤ (l0.length : Int) then (if (strOfNums t484).toList = (strOfNums (l0.take ((t484.length : Int) : Int).toNat)).toList then ((some (([] : List Int) : List Int)).bind fun y489 => (if y489.length + x15_2.length < 140737488355328 then (some (t461, (t466 == 1), t471, x484003_2, (y489 ++ x15_2), 0)) else (none))) else (some (0, false, ([] : List Int), ([] : List (S47)), ([] : List Int), 210))) else (none)) else (none))) else (some (0, false, ([] : List Int), ([] : List (S47)), ([] : List Int), 210))) = some (r1, r2, r3, r4, r5, r6) := H
              have A54 := Aside0.mk A540
              clear A540
              by_cases c55 : t487 = 0
              · rw [if_pos c55] at H
                have c55b0 : (t487 == 0) = true := beq_iff_eq.mpr c55
                have c55b1 : (t487 != 0) = false := bne_eq_false_iff_eq.mpr c55
                clear c55
                by_cases c56 : (t484.length : Int) > (l0.length : Int)
                · rw [if_pos c56] at H
                  have c56b0 : decide ((l0.length : Int) < (t484.length : Int)) = true := decide_eq_true c56
                  have c56b1 : decide (l0.length < t484.length) = true := decide_eq_true (Int.ofNat_lt.mp c56)
                  clear c56
                  simp only [Option.some.injEq, Prod.mk.injEq] at H
                  obtain ⟨rfl, rfl, rfl, rfl, rfl, rfl⟩ := H
                  have hnb57 := NB483_460.out
                  have hnc57 := NB460_483.out
                  have hcz58_0 : wr.cell? ⟨gb483, 0, none⟩ = some (.int .i64 t461) := (blk_cell BK483.out 0).trans rfl
                  have hcz58_1 : wr.cell? ⟨gb483, 1, none⟩ = some (.bool (t466 == 1)) := (blk_cell BK483.out 1).trans rfl
                  have hcz58_2 : wr.cell? ⟨gb483, 2, none⟩ = some (.slice Ao21 t471.length co21) := (blk_cell BK483.out 2).trans rfl
                  have hcz58_3 : wr.cell? ⟨gb483, 3, none⟩ = some (u484003) := (blk_cell BK483.out 3).trans rfl
                  have hfz58_0 := blk_frozen BK483.out 0
                  have hfz58_1 := blk_frozen BK483.out 1
                  have hfz58_2 := blk_frozen BK483.out 2
                  have hfz58_3 := blk_frozen BK483.out 3
                  obtain ⟨Ao59, co59, eo59⟩ := Kd.S_slice HO_484003.out
                  subst eo59
                  try go_wp2_with (first | ((with_reducible refine gate_callee (f := 17) rfl ?_); refine goesL_ (some 110) rfl rfl Try.func17 (by kernel_rfl) rfl #[.agg #[.int .i64 t461, .bool (t466 == 1), .slice Ao21 t471.length co21, .slice Ao59 x484003_2.length co59]] rfl (by (try simp only [List.map_toArray, List.map_cons, List.map_nil]); first | done | rfl | (simp only [List.length_drop, List.length_take]; rfl)) ?_; (with_reducible refine (banksmanref21_Told.calls k2 t461 (t466 == 1) _ _ t471 _ _ x484003_2 t484 t487 _ ?side1 ?side2 ?side3 ?side4 A54.out).mono ?_); (case side1 => repeat (first | exact (Kd.R_reads' HO_484002.out).2.2 | (with_reducible refine Kd.C_alloc ?_ _) | (with_reducible refine Kd.C_drewN ?_ _) | (with_reducible refine Kd.C_drew ?_))); (case side2 => exact (Kd.R_reads' HO_484002.out).2.1); (case side3 => repeat (first | exact (Kd.S_reads' HO_484003.out).2.2 | (with_reducible refine Kd.C_alloc ?_ _) | (with_reducible refine Kd.C_drewN ?_ _) | (with_reducible refine Kd.C_drew ?_))); (case side4 => exact (Kd.S_reads' HO_484003.out).2.1); rintro e w60 ⟨v485, rfl, ho0, hb⟩; refine ⟨_, rfl, ?_⟩; have n0_ := Aside0.mk (Kd.V_elder' (by (with_reducible repeat (first | apply Kd.V_alloc | apply Kd.V_drewN | apply Kd.V_drew)); exact HO_15.out) (Kd.R_base ho0) hb); have n1_ := Aside0.mk (Kd.R_elder' (by (with_reducible repeat (first | apply Kd.R_alloc | apply Kd.R_drewN | apply Kd.R_drew)); exact HO_484002.out) (Kd.R_base ho0) hb); have n2_ := Aside0.mk (Kd.S_elder' (by (with_reducible repeat (first | apply Kd.S_alloc | apply Kd.S_drewN | apply Kd.S_drew)); exact HO_484003.out) (Kd.R_base ho0) hb); have n3_ := Aside0.mk (Kd.R_lower (Kd.R_new' ho0 (Kd.R_lt (by (with_reducible repeat (first | apply Kd.R_alloc | apply Kd.R_drewN | apply Kd.R_drew)); exact HO_484002.out))) (below_size (by repeat (first | (with_reducible first | exact HB.out | apply below_alloc | apply pw_below_drewN | apply below_drew1 | refine below_set ?_ GE460.out | refine below_set ?_ GE483.out) | exact HB.out)))); have n4_ := Aside0.mk (blk_below (g := gb460) (o := .cells #[.int .i64 x461000_2, .bool x461001_2, .slice none 0 0, .slice none 0 0] 36 (0, 0)) (by (with_reducible repeat (first | refine blk_drewN ?_ _ | refine blk_drew ?_ | refine blk_alloc ?_ _)); exact BK460.out) hb); have n5_ := Aside0.mk (blk_below (g := gb483) (o := .cells #[.int .i64 t461, .bool (t466 == 1), .slice Ao21 t471.length co21, .slice Ao59 x484003_2.length co59] 36 (0, 0)) (by (with_reducible repeat (first | refine blk_drewN ?_ _ | refine blk_drew ?_ | refine blk_alloc ?_ _)); exact BK483.out) hb); have n6_ := Aside0.mk (below_step (by repeat (first | (with_reducible first | exact HB.out | apply below_alloc | apply pw_below_drewN | apply below_drew1 | refine below_set ?_ GE460.out | refine below_set ?_ GE483.out) | exact HB.out)) hb); clear HO_15; clear HO_484002; clear HO_484003; clear BK460; clear BK483; clear HB; have HO_15 := n0_; have HO_484002 := n1_; have HO_484003 := n2_; have HO486 := n3_; have BK460 := n4_; have BK483 := n5_; have HB := n6_; clear n0_ n1_ n2_ n3_ n4_ n5_ n6_; (try clear hb); (try clear hb2); (try clear hk); (try clear hi); (try clear ho0)))
                  have n0_ := Aside0.mk (Kd.V_drew HO_15.out)
                  have n1_ := Aside0.mk (Kd.R_drew HO_484002.out)
                  have n2_ := Aside0.mk (Kd.S_drew HO_484003.out)
                  have n3_ := Aside0.mk (Kd.R_drew HO486.out)
                  have n4_ := Aside0.mk (blk_drew BK460.out)
                  have n5_ := Aside0.mk (blk_drew BK483.out)
                  have n6_ := Aside0.mk (below_drew1 HB.out)
                  clear HO_15
                  clear HO_484002
                  clear HO_484003
                  clear HO486
                  clear BK460
                  clear BK483
                  clear HB
                  have HO_15 := n0_
                  have HO_484002 := n1_
                  have HO_484003 := n2_
                  have HO486 := n3_
                  have BK460 := n4_
                  have BK483 := n5_
                  have HB := n6_
                  clear n0_ n1_ n2_ n3_ n4_ n5_ n6_
                  obtain ⟨Ao62, co62, eo62⟩ := Kd.R_slice HO486.out
                  (first | subst eo62 | (injection eo62 with f1_ f2_ f3_; have f4_ := f1_.symm; have f5_ := f3_.symm; clear f1_ f2_ f3_; subst f4_; subst f5_))
                  refine start_ (n := 19) (S := fun w' => True) (ds := []) #[false, false, false, false, false, false, false, false, false, false, false, false, false, false, false, false, false, false, false] (by kernel_rfl) rfl rfl trivial (fun hHeld => ?_); refine with_tabW banksmanref21_Tell.tab18 banksmanref21_Tell.bits18 (fun HT_ HW_ => ?_)
                  generalize w60.drew = w61 at HO_15 HO_484002 HO_484003 HO486 BK460 BK483 HB hHeld ⊢
                  refine pure_ (i := 0) (N := some 113) (v := ?_) (a' := ?_) #[true, false, false, false, false, false, false, false, false, false, false, false, false, false, false, false, false, false, false] rfl rfl (any_of HT_.out (by kernel_rfl)) (fun _ _ _ h => h) (Or.inl ⟨by rfl, ?_⟩) ?_ ?_
                  rotate_left
                  · intro w'
                    go_simp
                    with_reducible rfl
                  rotate_left
                  · simp only [Act.put, List.setIfInBounds_toArray, List.set_cons_zero, List.set_cons_succ, i64_w, i32_w]
                    rfl
                  refine pure_ (i := 1) (N := some 114) (v := ?_) (a' := ?_) #[true, true, false, false, false, false, false, false, false, false, false, false, false, false, false, false, false, false, false] rfl rfl (any_of HT_.out (by kernel_rfl)) (fun _ _ _ h => h) (Or.inl ⟨by rfl, ?_⟩) ?_ ?_
                  rotate_left
                  · intro w'
                    go_simp
                    with_reducible rfl
                  rotate_left
                  · simp only [Act.put, List.setIfInBounds_toArray, List.set_cons_zero, List.set_cons_succ, i64_w, i32_w]
                    rfl
                  refine pure_ (i := 2) (N := some 115) (v := ?_) (a' := ?_) #[true, true, true, false, false, false, false, false, false, false, false, false, false, false, false, false, false, false, false] rfl rfl (any_of HT_.out (by kernel_rfl)) (fun _ _ _ h => h) (Or.inl ⟨by rfl, ?_⟩) ?_ ?_
                  rotate_left
                  · intro w'
                    go_simp
                    with_reducible rfl
                  rotate_left
                  · simp only [Act.put, List.setIfInBounds_toArray, List.set_cons_zero, List.set_cons_succ, i64_w, i32_w]
                    rfl
                  refine pure_ (i := 3) (N := some 116) (v := ?_) (a' := ?_) #[true, true, true, true, false, false, false, false, false, false, false, false, false, false, false, false, false, false, false] rfl rfl (any_of HT_.out (by kernel_rfl)) (fun _ _ _ h => h) (Or.inl ⟨by rfl, ?_⟩) ?_ ?_
                  rotate_left
                  · intro w'
                    go_simp
                    with_reducible rfl
                  rotate_left
                  · simp only [Act.put, List.setIfInBounds_toArray, List.set_cons_zero, List.set_cons_succ, i64_w, i32_w]
                    rfl
                  refine pure_ (i := 4) (N := some 117) (v := ?_) (a' := ?_) #[true, true, true, true, true, false, false, false, false, false, false, false, false, false, false, false, false, false, false] rfl rfl (any_of HT_.out (by kernel_rfl)) (fun _ _ _ h => h) (Or.inl ⟨by rfl, ?_⟩) ?_ ?_
                  rotate_left
                  · intro w'
                    go_simp
                    with_reducible rfl
                  rotate_left
                  · simp only [Act.put, List.setIfInBounds_toArray, List.set_cons_zero, List.set_cons_succ, i64_w, i32_w]
                    rfl
                  refine pure_ (i := 5) (N := some 118) (v := ?_) (a' := ?_) #[true, true, true, true, true, true, false, false, false, false, false, false, false, false, false, false, false, false, false] rfl rfl (any_of HT_.out (by kernel_rfl)) (fun _ _ _ h => h) (Or.inl ⟨by rfl, ?_⟩) ?_ ?_
                  rotate_left
                  · intro w'
                    go_simp
                    with_reducible rfl
                  rotate_left
                  · simp only [Act.put, List.setIfInBounds_toArray, List.set_cons_zero, List.set_cons_succ, i64_w, i32_w]
                    rfl
                  refine pure_ (i := 6) (N := some 119) (v := ?_) (a' := ?_) #[true, true, true, true, true, true, true, false, false, false, false, false, false, false, false, false, false, false, false] rfl rfl (any_of HT_.out (by kernel_rfl)) (fun _ _ _ h => h) (Or.inl ⟨by rfl, ?_⟩) ?_ ?_
                  rotate_left
                  · intro w'
                    go_simp
                    with_reducible rfl
                  rotate_left
                  · simp only [Act.put, List.setIfInBounds_toArray, List.set_cons_zero, List.set_cons_succ, i64_w, i32_w]
                    rfl
                  refine pure_ (i := 7) (N := some 120) (v := ?_) (a' := ?_) #[true, true, true, true, true, true, true, true, false, false, false, false, false, false, false, false, false, false, false] rfl rfl (any_of HT_.out (by kernel_rfl)) (fun _ _ _ h => h) (Or.inl ⟨by rfl, ?_⟩) ?_ ?_
                  rotate_left
                  · intro w'
                    go_simp
                    with_reducible rfl
                  rotate_left
                  · simp only [Act.put, List.setIfInBounds_toArray, List.set_cons_zero, List.set_cons_succ, i64_w, i32_w]
                    rfl
                  refine pure_ (i := 8) (N := some 121) (v := ?_) (a' := ?_) #[true, true, true, true, true, true, true, true, true, false, false, false, false, false, false, false, false, false, false] rfl rfl (any_of HT_.out (by kernel_rfl)) (fun _ _ _ h => h) (Or.inl ⟨by rfl, ?_⟩) ?_ ?_
                  rotate_left
                  · intro w'
                    go_simp
                    with_reducible rfl
                  rotate_left
                  · simp only [Act.put, List.setIfInBounds_toArray, List.set_cons_zero, List.set_cons_succ, i64_w, i32_w]
                    rfl
                  refine pure_ (i := 9) (N := some 122) (v := ?_) (a' := ?_) #[true, true, true, true, true, true, true, true, true, true, false, false, false, false, false, false, false, false, false] rfl rfl (any_of HT_.out (by kernel_rfl)) (fun _ _ _ h => h) (Or.inl ⟨by rfl, ?_⟩) ?_ ?_
                  rotate_left
                  · intro w'
                    go_simp
                    with_reducible rfl
                  rotate_left
                  · simp only [Act.put, List.setIfInBounds_toArray, List.set_cons_zero, List.set_cons_succ, i64_w, i32_w]
                    rfl
                  refine pure_ (i := 10) (N := some 123) (v := undef) (a' := ?_) #[true, true, true, true, true, true, true, true, true, true, true, false, false, false, false, false, false, false, false] rfl rfl (any_of HT_.out (by kernel_rfl)) (fun _ _ _ h => h) (Or.inr ⟨by rfl, rfl⟩) ?_ ?_
                  rotate_left
                  · simp only [Act.put, List.setIfInBounds_toArray, List.set_cons_zero, List.set_cons_succ, i64_w, i32_w]
                    rfl
                  refine pure_ (i := 11) (N := some 124) (v := undef) (a' := ?_) #[true, true, true, true, true, true, true, true, true, true, true, true, false, false, false, false, false, false, false] rfl rfl (any_of HT_.out (by kernel_rfl)) (fun _ _ _ h => h) (Or.inr ⟨by rfl, rfl⟩) ?_ ?_
                  rotate_left
                  · simp only [Act.put, List.setIfInBounds_toArray, List.set_cons_zero, List.set_cons_succ, i64_w, i32_w]
                    rfl
                  refine pure_ (i := 12) (N := some 125) (v := undef) (a' := ?_) #[true, true, true, true, true, true, true, true, true, true, true, true, true, false, false, false, false, false, false] rfl rfl (any_of HT_.out (by kernel_rfl)) (fun _ _ _ h => h) (Or.inr ⟨by rfl, rfl⟩) ?_ ?_
                  rotate_left
                  · simp only [Act.put, List.setIfInBounds_toArray, List.set_cons_zero, List.set_cons_succ, i64_w, i32_w]
                    rfl
                  refine pure_ (i := 13) (N := some 126) (v := undef) (a' := ?_) #[true, true, true, true, true, true, true, true, true, true, true, true, true, true, false, false, false, false, false] rfl rfl (any_of HT_.out (by kernel_rfl)) (fun _ _ _ h => h) (Or.inr ⟨by rfl, rfl⟩) ?_ ?_
                  rotate_left
                  · simp only [Act.put, List.setIfInBounds_toArray, List.set_cons_zero, List.set_cons_succ, i64_w, i32_w]
                    rfl
                  refine pure_ (i := 14) (N := some 127) (v := undef) (a' := ?_) #[true, true, true, true, true, true, true, true, true, true, true, true, true, true, true, false, false, false, false] rfl rfl (any_of HT_.out (by kernel_rfl)) (fun _ _ _ h => h) (Or.inr ⟨by rfl, rfl⟩) ?_ ?_
                  rotate_left
                  · simp only [Act.put, List.setIfInBounds_toArray, List.set_cons_zero, List.set_cons_succ, i64_w, i32_w]
                    rfl
                  refine pure_ (i := 15) (N := some 128) (v := undef) (a' := ?_) #[true, true, true, true, true, true, true, true, true, true, true, true, true, true, true, true, false, false, false] rfl rfl (any_of HT_.out (by kernel_rfl)) (fun _ _ _ h => h) (Or.inr ⟨by rfl, rfl⟩) ?_ ?_
                  rotate_left
                  · simp only [Act.put, List.setIfInBounds_toArray, List.set_cons_zero, List.set_cons_succ, i64_w, i32_w]
                    rfl
                  refine pure_ (i := 16) (N := some 129) (v := undef) (a' := ?_) #[true, true, true, true, true, true, true, true, true, true, true, true, true, true, true, true, true, false, false] rfl rfl (any_of HT_.out (by kernel_rfl)) (fun _ _ _ h => h) (Or.inr ⟨by rfl, rfl⟩) ?_ ?_
                  rotate_left
                  · simp only [Act.put, List.setIfInBounds_toArray, List.set_cons_zero, List.set_cons_succ, i64_w, i32_w]
                    rfl
                  refine pure_ (i := 17) (N := some 130) (v := undef) (a' := ?_) #[true, true, true, true, true, true, true, true, true, true, true, true, true, true, true, true, true, true, false] rfl rfl (any_of HT_.out (by kernel_rfl)) (fun _ _ _ h => h) (Or.inr ⟨by rfl, rfl⟩) ?_ ?_
                  rotate_left
                  · simp only [Act.put, List.setIfInBounds_toArray, List.set_cons_zero, List.set_cons_succ, i64_w, i32_w]
                    rfl
                  refine pure_ (i := 18) (N := some 131) (v := ?_) (a' := ?_) #[true, true, true, true, true, true, true, true, true, true, true, true, true, true, true, true, true, true, true] rfl rfl (any_of HT_.out (by kernel_rfl)) (fun _ _ _ h => h) (Or.inl ⟨by rfl, ?_⟩) ?_ ?_
                  rotate_left
                  · intro w'
                    go_simp
                    with_reducible rfl
                  rotate_left
                  · simp only [Act.put, List.setIfInBounds_toArray, List.set_cons_zero, List.set_cons_succ, i64_w, i32_w]
                    rfl
                  refine done_ (done_of HT_.out (by kernel_rfl)) ?_
                  have hcz63_0 : w61.cell? ⟨gb460, 0, none⟩ = some (.int .i64 x461000_2) := (blk_cell BK460.out 0).trans rfl
                  have hcz63_1 : w61.cell? ⟨gb460, 1, none⟩ = some (.bool x461001_2) := (blk_cell BK460.out 1).trans rfl
                  have hcz63_2 : w61.cell? ⟨gb460, 2, none⟩ = some (.slice none 0 0) := (blk_cell BK460.out 2).trans rfl
                  have hcz63_3 : w61.cell? ⟨gb460, 3, none⟩ = some (.slice none 0 0) := (blk_cell BK460.out 3).trans rfl
                  have hfz63_0 := blk_frozen BK460.out 0
                  have hfz63_1 := blk_frozen BK460.out 1
                  have hfz63_2 := blk_frozen BK460.out 2
                  have hfz63_3 := blk_frozen BK460.out 3
                  try go_wp2
                  refine bodyPost_ret (results_ctt rfl _ _ gb460 36 #[.int .i64 0, .bool false, .slice none 0 0, .slice none 0 0] (0, 0) _ rfl (by (with_reducible repeat (first | refine blk_drewN ?_ _ | refine blk_drew ?_ | refine blk_alloc ?_ _)); refine blk_put (cs := #[.int .i64 0, .bool false, .slice none 0 0, .slice none 0 0]) ?_ 3 _ rfl; (with_reducible repeat (first | refine blk_drewN ?_ _ | refine blk_drew ?_ | refine blk_alloc ?_ _)); refine blk_put (cs := #[.int .i64 0, .bool false, .slice none 0 0, .slice none 0 0]) ?_ 2 _ rfl; (with_reducible repeat (first | refine blk_drewN ?_ _ | refine blk_drew ?_ | refine blk_alloc ?_ _)); refine blk_put (cs := #[.int .i64 0, .bool x461001_2, .slice none 0 0, .slice none 0 0]) ?_ 1 _ rfl; (with_reducible repeat (first | refine blk_drewN ?_ _ | refine blk_drew ?_ | refine blk_alloc ?_ _)); refine blk_put (cs := #[.int .i64 x461000_2, .bool x461001_2, .slice none 0 0, .slice none 0 0]) ?_ 0 _ rfl; (with_reducible repeat (first | refine blk_drewN ?_ _ | refine blk_drew ?_ | refine blk_alloc ?_ _)); exact BK460.out) Try.underlying36 rfl (by kernel_rfl)) rfl ?_
                  exact ⟨_, _, _, by first | rfl | (simp [errW_none, errW_some] <;> rfl) | (simp [*, errW_none, errW_some] <;> rfl), by first | exact Kd.R_nil _ _ _ _ _ | exact Kd.N_nil _ _ _ _ _ | exact Kd.V_nil _ _ _ _ _ | exact Kd.Q_nil _ _ _ _ _ | exact Kd.S_nil _ _ _ _ _, by first | exact Kd.S_nil _ _ _ _ _ | exact Kd.N_nil _ _ _ _ _ | exact Kd.V_nil _ _ _ _ _ | exact Kd.Q_nil _ _ _ _ _ | exact Kd.R_nil _ _ _ _ _, by first | exact Kd.R_nil _ _ _ _ _ | exact Kd.N_nil _ _ _ _ _ | exact Kd.V_nil _ _ _ _ _ | exact Kd.Q_nil _ _ _ _ _ | exact Kd.S_nil _ _ _ _ _, by repeat (first | (with_reducible first | exact HB.out | apply below_alloc | apply pw_below_drewN | apply below_drew1 | refine below_set ?_ GE460.out | refine below_set ?_ GE483.out) | exact HB.out)⟩
                · rw [if_neg c56] at H
                  have c56b0 : decide ((l0.length : Int) < (t484.length : Int)) = false := decide_eq_false c56
                  have c56b1 : decide (l0.length < t484.length) = false := decide_eq_false (fun h => c56 (Int.ofNat_lt.mpr h))
                  clear c56
                  by_cases c64 : 0 ≤ (t484.length : Int)
                  · rw [if_pos c64] at H
                    have c64b0 := eq_true c64
                    have c64b1 : decide (0 ≤ (t484.length : Int)) = true := decide_eq_true c64
                    clear c64
                    by_cases c65 : (t484.length : Int) ≤ (l0.length : Int)
                    · rw [if_pos c65] at H
                      have c65b0 := eq_true c65
                      have c65b1 : decide ((t484.length : Int) ≤ (l0.length : Int)) = true := decide_eq_true c65
                      clear c65
                      by_cases c66 : (strOfNums t484).toList = (strOfNums (l0.take ((t484.length : Int) : Int).toNat)).toList
                      · rw [if_pos c66] at H
                        have c66b0 : ((strOfNums t484).toList == (strOfNums (l0.take ((t484.length : Int) : Int).toNat)).toList) = true := beq_iff_eq.mpr c66
                        have c66b0n := c66b0
                        (try simp only [Int.toNat_natCast] at c66b0n)
                        have c66b1 : ((strOfNums t484).toList != (strOfNums (l0.take ((t484.length : Int) : Int).toNat)).toList) = false := bne_eq_false_iff_eq.mpr c66
                        have c66b1n := c66b1
                        (try simp only [Int.toNat_natCast] at c66b1n)
                        clear c66
                        obtain ⟨y489, hy489⟩ : ∃ y_ : List Int, y_ = (([] : List Int)) := ⟨_, rfl⟩
                        replace H : (if y489.length + x15_2.length < 140737488355328 then (some (t461, (t466 == 1), t471, x484003_2, (y489 ++ x15_2), 0)) else (none)) = some (r1, r2, r3, r4, r5, r6) := by first | (rw [hy489]; with_reducible exact H) | (have H2_ := (Option.bind_some _ _).symm.trans H; rw [hy489]; with_reducible exact H2_) | (have H2_ := (Option.bind_some _ _).symm.trans H; with_reducible exact H2_) | with_reducible exact H | (rw [hy489]; exact H) | exact H
                        have Ny489 := Aside0.mk hy489
                        clear hy489
                        by_cases c67 : y489.length + x15_2.length < 140737488355328
                        · rw [if_pos c67] at H
                          have LMc67 := Aside0.mk c67
                          clear c67
                          obtain ⟨y492, hy492⟩ : ∃ y_ : List Int, y_ = (y489 ++ x15_2) := ⟨_, rfl⟩
                          replace H : (some (t461, (t466 == 1), t471, x484003_2, y492, 0)) = some (r1, r2, r3, r4, r5, r6) := by first | (rw [hy492]; with_reducible exact H) | (have H2_ := (Option.bind_some _ _).symm.trans H; rw [hy492]; with_reducible exact H2_) | (have H2_ := (Option.bind_some _ _).symm.trans H; with_reducible exact H2_) | with_reducible exact H | (rw [hy492]; exact H) | exact H
                          have Ny492 := Aside0.mk hy492
                          clear hy492
                          simp only [Option.some.injEq, Prod.mk.injEq] at H
                          obtain ⟨rfl, rfl, rfl, rfl, rfl, rfl⟩ := H
                          have hnb68 := NB483_460.out
                          have hnc68 := NB460_483.out
                          have hcz69_0 : wr.cell? ⟨gb483, 0, none⟩ = some (.int .i64 t461) := (blk_cell BK483.out 0).trans rfl
                          have hcz69_1 : wr.cell? ⟨gb483, 1, none⟩ = some (.bool (t466 == 1)) := (blk_cell BK483.out 1).trans rfl
                          have hcz69_2 : wr.cell? ⟨gb483, 2, none⟩ = some (.slice Ao21 t471.length co21) := (blk_cell BK483.out 2).trans rfl
                          have hcz69_3 : wr.cell? ⟨gb483, 3, none⟩ = some (u484003) := (blk_cell BK483.out 3).trans rfl
                          have hfz69_0 := blk_frozen BK483.out 0
                          have hfz69_1 := blk_frozen BK483.out 1
                          have hfz69_2 := blk_frozen BK483.out 2
                          have hfz69_3 := blk_frozen BK483.out 3
                          obtain ⟨Ao70, co70, eo70⟩ := Kd.S_slice HO_484003.out
                          subst eo70
                          try go_wp2_with (first | ((with_reducible refine gate_callee (f := 17) rfl ?_); refine goesL_ (some 110) rfl rfl Try.func17 (by kernel_rfl) rfl #[.agg #[.int .i64 t461, .bool (t466 == 1), .slice Ao21 t471.length co21, .slice Ao70 x484003_2.length co70]] rfl (by (try simp only [List.map_toArray, List.map_cons, List.map_nil]); first | done | rfl | (simp only [List.length_drop, List.length_take]; rfl)) ?_; (with_reducible refine (banksmanref21_Told.calls k2 t461 (t466 == 1) _ _ t471 _ _ x484003_2 t484 t487 _ ?side1 ?side2 ?side3 ?side4 A54.out).mono ?_); (case side1 => repeat (first | exact (Kd.R_reads' HO_484002.out).2.2 | (with_reducible refine Kd.C_alloc ?_ _) | (with_reducible refine Kd.C_drewN ?_ _) | (with_reducible refine Kd.C_drew ?_))); (case side2 => exact (Kd.R_reads' HO_484002.out).2.1); (case side3 => repeat (first | exact (Kd.S_reads' HO_484003.out).2.2 | (with_reducible refine Kd.C_alloc ?_ _) | (with_reducible refine Kd.C_drewN ?_ _) | (with_reducible refine Kd.C_drew ?_))); (case side4 => exact (Kd.S_reads' HO_484003.out).2.1); rintro e w71 ⟨v485, rfl, ho0, hb⟩; refine ⟨_, rfl, ?_⟩; have n0_ := Aside0.mk (Kd.V_elder' (by (with_reducible repeat (first | apply Kd.V_alloc | apply Kd.V_drewN | apply Kd.V_drew)); exact HO_15.out) (Kd.R_base ho0) hb); have n1_ := Aside0.mk (Kd.R_elder' (by (with_reducible repeat (first | apply Kd.R_alloc | apply Kd.R_drewN | apply Kd.R_drew)); exact HO_484002.out) (Kd.R_base ho0) hb); have n2_ := Aside0.mk (Kd.S_elder' (by (with_reducible repeat (first | apply Kd.S_alloc | apply Kd.S_drewN | apply Kd.S_drew)); exact HO_484003.out) (Kd.R_base ho0) hb); have n3_ := Aside0.mk (Kd.R_lower (Kd.R_new' ho0 (Kd.R_lt (by (with_reducible repeat (first | apply Kd.R_alloc | apply Kd.R_drewN | apply Kd.R_drew)); exact HO_484002.out))) (below_size (by repeat (first | (with_reducible first | exact HB.out | apply below_alloc | apply pw_below_drewN | apply below_drew1 | refine below_set ?_ GE460.out | refine below_set ?_ GE483.out) | exact HB.out)))); have n4_ := Aside0.mk (blk_below (g := gb460) (o := .cells #[.int .i64 x461000_2, .bool x461001_2, .slice none 0 0, .slice none 0 0] 36 (0, 0)) (by (with_reducible repeat (first | refine blk_drewN ?_ _ | refine blk_drew ?_ | refine blk_alloc ?_ _)); exact BK460.out) hb); have n5_ := Aside0.mk (blk_below (g := gb483) (o := .cells #[.int .i64 t461, .bool (t466 == 1), .slice Ao21 t471.length co21, .slice Ao70 x484003_2.length co70] 36 (0, 0)) (by (with_reducible repeat (first | refine blk_drewN ?_ _ | refine blk_drew ?_ | refine blk_alloc ?_ _)); exact BK483.out) hb); have n6_ := Aside0.mk (below_step (by repeat (first | (with_reducible first | exact HB.out | apply below_alloc | apply pw_below_drewN | apply below_drew1 | refine below_set ?_ GE460.out | refine below_set ?_ GE483.out) | exact HB.out)) hb); clear HO_15; clear HO_484002; clear HO_484003; clear BK460; clear BK483; clear HB; have HO_15 := n0_; have HO_484002 := n1_; have HO_484003 := n2_; have HO486 := n3_; have BK460 := n4_; have BK483 := n5_; have HB := n6_; clear n0_ n1_ n2_ n3_ n4_ n5_ n6_; (try clear hb); (try clear hb2); (try clear hk); (try clear hi); (try clear ho0)))
                          have n0_ := Aside0.mk (Kd.V_drew HO_15.out)
                          have n1_ := Aside0.mk (Kd.R_drew HO_484002.out)
                          have n2_ := Aside0.mk (Kd.S_drew HO_484003.out)
                          have n3_ := Aside0.mk (Kd.R_drew HO486.out)
                          have n4_ := Aside0.mk (blk_drew BK460.out)
                          have n5_ := Aside0.mk (blk_drew BK483.out)
                          have n6_ := Aside0.mk (below_drew1 HB.out)
                          clear HO_15
                          clear HO_484002
                          clear HO_484003
                          clear HO486
                          clear BK460
                          clear BK483
                          clear HB
                          have HO_15 := n0_
                          have HO_484002 := n1_
                          have HO_484003 := n2_
                          have HO486 := n3_
                          have BK460 := n4_
                          have BK483 := n5_
                          have HB := n6_
                          clear n0_ n1_ n2_ n3_ n4_ n5_ n6_
                          obtain ⟨Ao73, co73, eo73⟩ := Kd.R_slice HO486.out
                          (first | subst eo73 | (injection eo73 with f1_ f2_ f3_; have f4_ := f1_.symm; have f5_ := f3_.symm; clear f1_ f2_ f3_; subst f4_; subst f5_))
                          have hcv74 := own_string (P := Try.prog) Try.underlying22 Try.underlying5 Try.underlying9 (Kd.own_of_R HO486.out); have hcv74q := fun n_ => own_string (P := Try.prog) Try.underlying22 Try.underlying5 Try.underlying9 (Kd.own_of_R (Kd.R_drewN HO486.out n_))
                          obtain ⟨i075, hi075, _, hsz75, _⟩ := info_parts info5
                          obtain ⟨hcut75, hA75, hC75⟩ := print_take_of (P := Try.prog) (Value.int .u8) 0 22 5 .i64 Try.underlying22 hi075 hsz75 A0 c0 l0 (t484.length : Int) (of_decide_eq_true (by first | (with_reducible assumption) | assumption)) (of_decide_eq_true (by first | (with_reducible assumption) | assumption)) HC0.out
                          have HR488 := Aside0.mk (Kd.C_of_reads (h1 := fun _ => rfl) (hA75 _ (Kd.reads_of_C HR0.out)))
                          have HC488 := Aside0.mk hC75
                          clear hA75 hC75 hi075 hsz75
                          have hcv76 := Kd.C_string (P := Try.prog) (A := A0) (c := c0) Try.underlying22 Try.underlying5 Try.underlying9 (Kd.C_below HR488.out HB.out); have hcv76q := fun n_ => Kd.C_string (P := Try.prog) (A := A0) (c := c0) Try.underlying22 Try.underlying5 Try.underlying9 (Kd.C_drewN (Kd.C_below HR488.out HB.out) n_); have hcv76r := hcv76q; (try rw [List.length_take, Nat.min_eq_left (by have h1_ := (show 0 ≤ ((t484.length : Int) : Int) from of_decide_eq_true (by first | (with_reducible assumption) | assumption)); have h2_ := (show ((t484.length : Int) : Int) ≤ (l0.length : Int) from of_decide_eq_true (by first | (with_reducible assumption) | assumption)); omega)] at hcv76r); have hcv76s := hcv76q; (try rw [show (l0.take ((t484.length : Int)).toNat).length = min t484.length l0.length from by rw [List.length_take, Int.toNat_natCast]] at hcv76s)
                          refine start_ (n := 19) (S := fun w' => (convert 22 9 (.slice Ao73 t484.length co73)).run Try.prog w' = .ok (.string (strOfNums t484)) w' ∧ (convert 22 9 (.slice A0 (min t484.length l0.length) c0)).run Try.prog w' = .ok (.string (strOfNums (l0.take ((t484.length : Int) : Int).toNat))) w') (ds := []) #[false, false, false, false, false, false, false, false, false, false, false, false, false, false, false, false, false, false, false] (by kernel_rfl) rfl rfl ⟨(own_string (P := Try.prog) Try.underlying22 Try.underlying5 Try.underlying9 (Kd.own_of_R HO486.out)), (by have z_ := Kd.C_string (P := Try.prog) (A := A0) (c := c0) Try.underlying22 Try.underlying5 Try.underlying9 (Kd.C_below HR488.out HB.out); rw [show (l0.take ((t484.length : Int) : Int).toNat).length = (min t484.length l0.length) from by simp only [List.length_take, Int.toNat_natCast]] at z_; exact z_)⟩ (fun hHeld => ?_); refine with_tabW banksmanref21_Tell.tab18 banksmanref21_Tell.bits18 (fun HT_ HW_ => ?_)
                          generalize w71.drew = w72 at HO_15 HO_484002 HO_484003 HO486 BK460 BK483 HB HR488 hHeld ⊢
                          refine pure_ (i := 0) (N := some 113) (v := ?_) (a' := ?_) #[true, false, false, false, false, false, false, false, false, false, false, false, false, false, false, false, false, false, false] rfl rfl (any_of HT_.out (by kernel_rfl)) (fun _ _ _ h => h) (Or.inl ⟨by rfl, ?_⟩) ?_ ?_
                          rotate_left
                          · intro w'
                            go_simp
                            with_reducible rfl
                          rotate_left
                          · simp only [Act.put, List.setIfInBounds_toArray, List.set_cons_zero, List.set_cons_succ, i64_w, i32_w]
                            rfl
                          refine pure_ (i := 1) (N := some 114) (v := ?_) (a' := ?_) #[true, true, false, false, false, false, false, false, false, false, false, false, false, false, false, false, false, false, false] rfl rfl (any_of HT_.out (by kernel_rfl)) (fun _ _ _ h => h) (Or.inl ⟨by rfl, ?_⟩) ?_ ?_
                          rotate_left
                          · intro w'
                            go_simp
                            with_reducible rfl
                          rotate_left
                          · simp only [Act.put, List.setIfInBounds_toArray, List.set_cons_zero, List.set_cons_succ, i64_w, i32_w]
                            rfl
                          refine pure_ (i := 2) (N := some 115) (v := ?_) (a' := ?_) #[true, true, true, false, false, false, false, false, false, false, false, false, false, false, false, false, false, false, false] rfl rfl (any_of HT_.out (by kernel_rfl)) (fun _ _ _ h => h) (Or.inl ⟨by rfl, ?_⟩) ?_ ?_
                          rotate_left
                          · intro w'
                            go_simp
                            with_reducible rfl
                          rotate_left
                          · simp only [Act.put, List.setIfInBounds_toArray, List.set_cons_zero, List.set_cons_succ, i64_w, i32_w]
                            rfl
                          refine pure_ (i := 3) (N := some 116) (v := ?_) (a' := ?_) #[true, true, true, true, false, false, false, false, false, false, false, false, false, false, false, false, false, false, false] rfl rfl (any_of HT_.out (by kernel_rfl)) (fun _ _ _ h => h) (Or.inl ⟨by rfl, ?_⟩) ?_ ?_
                          rotate_left
                          · intro w'
                            go_simp
                            with_reducible rfl
                          rotate_left
                          · simp only [Act.put, List.setIfInBounds_toArray, List.set_cons_zero, List.set_cons_succ, i64_w, i32_w]
                            rfl
                          refine pure_ (i := 4) (N := some 117) (v := ?_) (a' := ?_) #[true, true, true, true, true, false, false, false, false, false, false, false, false, false, false, false, false, false, false] rfl rfl (any_of HT_.out (by kernel_rfl)) (fun _ _ _ h => h) (Or.inl ⟨by rfl, ?_⟩) ?_ ?_
                          rotate_left
                          · intro w'
                            go_simp
                            with_reducible rfl
                          rotate_left
                          · simp only [Act.put, List.setIfInBounds_toArray, List.set_cons_zero, List.set_cons_succ, i64_w, i32_w]
                            rfl
                          refine pure_ (i := 5) (N := some 118) (v := ?_) (a' := ?_) #[true, true, true, true, true, true, false, false, false, false, false, false, false, false, false, false, false, false, false] rfl rfl (any_of HT_.out (by kernel_rfl)) (fun _ _ _ h => h) (Or.inl ⟨by rfl, ?_⟩) ?_ ?_
                          rotate_left
                          · intro w'
                            go_simp
                            with_reducible rfl
                          rotate_left
                          · simp only [Act.put, List.setIfInBounds_toArray, List.set_cons_zero, List.set_cons_succ, i64_w, i32_w]
                            rfl
                          refine pure_ (i := 6) (N := some 119) (v := ?_) (a' := ?_) #[true, true, true, true, true, true, true, false, false, false, false, false, false, false, false, false, false, false, false] rfl rfl (any_of HT_.out (by kernel_rfl)) (fun _ _ _ h => h) (Or.inl ⟨by rfl, ?_⟩) ?_ ?_
                          rotate_left
                          · intro w'
                            go_simp
                            with_reducible rfl
                          rotate_left
                          · simp only [Act.put, List.setIfInBounds_toArray, List.set_cons_zero, List.set_cons_succ, i64_w, i32_w]
                            rfl
                          refine pure_ (i := 7) (N := some 120) (v := ?_) (a' := ?_) #[true, true, true, true, true, true, true, true, false, false, false, false, false, false, false, false, false, false, false] rfl rfl (any_of HT_.out (by kernel_rfl)) (fun _ _ _ h => h) (Or.inl ⟨by rfl, ?_⟩) ?_ ?_
                          rotate_left
                          · intro w'
                            go_simp
                            with_reducible rfl
                          rotate_left
                          · simp only [Act.put, List.setIfInBounds_toArray, List.set_cons_zero, List.set_cons_succ, i64_w, i32_w]
                            rfl
                          refine pure_ (i := 8) (N := some 121) (v := ?_) (a' := ?_) #[true, true, true, true, true, true, true, true, true, false, false, false, false, false, false, false, false, false, false] rfl rfl (any_of HT_.out (by kernel_rfl)) (fun _ _ _ h => h) (Or.inl ⟨by rfl, ?_⟩) ?_ ?_
                          rotate_left
                          · intro w'
                            go_simp
                            with_reducible rfl
                          rotate_left
                          · simp only [Act.put, List.setIfInBounds_toArray, List.set_cons_zero, List.set_cons_succ, i64_w, i32_w]
                            rfl
                          refine pure_ (i := 9) (N := some 122) (v := ?_) (a' := ?_) #[true, true, true, true, true, true, true, true, true, true, false, false, false, false, false, false, false, false, false] rfl rfl (any_of HT_.out (by kernel_rfl)) (fun _ _ _ h => h) (Or.inl ⟨by rfl, ?_⟩) ?_ ?_
                          rotate_left
                          · intro w'
                            go_simp
                            with_reducible rfl
                          rotate_left
                          · simp only [Act.put, List.setIfInBounds_toArray, List.set_cons_zero, List.set_cons_succ, i64_w, i32_w]
                            rfl
                          refine pure_ (i := 10) (N := some 123) (v := ?_) (a' := ?_) #[true, true, true, true, true, true, true, true, true, true, true, false, false, false, false, false, false, false, false] rfl rfl (any_of HT_.out (by kernel_rfl)) (fun _ _ _ h => h) (Or.inl ⟨by rfl, ?_⟩) ?_ ?_
                          rotate_left
                          · intro w'
                            go_simp
                            with_reducible rfl
                          rotate_left
                          · simp only [Act.put, List.setIfInBounds_toArray, List.set_cons_zero, List.set_cons_succ, i64_w, i32_w]
                            rfl
                          refine take_ (i := 11) (N := some 124) (v := ?_) (a' := ?_) #[true, true, true, true, true, true, true, true, true, true, true, true, false, false, false, false, false, false, false] rfl rfl (take_ofW HT_.out HW_.out (by kernel_rfl)) (fun _ _ _ h => h) (Or.inl ⟨by rfl, ?_⟩) hHeld ?_ ?_
                          rotate_left
                          · rintro w' ⟨s0, s1⟩
                            go_simp
                            with_reducible rfl
                          rotate_left
                          · simp only [Act.put, List.setIfInBounds_toArray, List.set_cons_zero, List.set_cons_succ, i64_w, i32_w]
                            rfl
                          refine pure_ (i := 12) (N := some 125) (v := ?_) (a' := ?_) #[true, true, true, true, true, true, true, true, true, true, true, true, true, false, false, false, false, false, false] rfl rfl (any_of HT_.out (by kernel_rfl)) (fun _ _ _ h => h) (Or.inl ⟨by rfl, ?_⟩) ?_ ?_
                          rotate_left
                          · intro w'
                            go_simp
                            with_reducible rfl
                          rotate_left
                          · simp only [Act.put, List.setIfInBounds_toArray, List.set_cons_zero, List.set_cons_succ, i64_w, i32_w]
                            rfl
                          refine pure_ (i := 13) (N := some 126) (v := ?_) (a' := ?_) #[true, true, true, true, true, true, true, true, true, true, true, true, true, true, false, false, false, false, false] rfl rfl (any_of HT_.out (by kernel_rfl)) (fun _ _ _ h => h) (Or.inl ⟨by rfl, ?_⟩) ?_ ?_
                          rotate_left
                          · intro w'
                            go_simp
                            with_reducible rfl
                          rotate_left
                          · simp only [Act.put, List.setIfInBounds_toArray, List.set_cons_zero, List.set_cons_succ, i64_w, i32_w]
                            rfl
                          refine pure_ (i := 14) (N := some 127) (v := ?_) (a' := ?_) #[true, true, true, true, true, true, true, true, true, true, true, true, true, true, true, false, false, false, false] rfl rfl (any_of HT_.out (by kernel_rfl)) (fun _ _ _ h => h) (Or.inl ⟨by rfl, ?_⟩) ?_ ?_
                          rotate_left
                          · intro w'
                            go_simp
                            with_reducible rfl
                          rotate_left
                          · simp only [Act.put, List.setIfInBounds_toArray, List.set_cons_zero, List.set_cons_succ, i64_w, i32_w]
                            rfl
                          refine pure_ (i := 15) (N := some 128) (v := ?_) (a' := ?_) #[true, true, true, true, true, true, true, true, true, true, true, true, true, true, true, true, false, false, false] rfl rfl (any_of HT_.out (by kernel_rfl)) (fun _ _ _ h => h) (Or.inl ⟨by rfl, ?_⟩) ?_ ?_
                          rotate_left
                          · intro w'
                            go_simp
                            with_reducible rfl
                          rotate_left
                          · simp only [Act.put, List.setIfInBounds_toArray, List.set_cons_zero, List.set_cons_succ, i64_w, i32_w]
                            rfl
                          refine take_ (i := 16) (N := some 129) (v := ?_) (a' := ?_) #[true, true, true, true, true, true, true, true, true, true, true, true, true, true, true, true, true, false, false] rfl rfl (take_ofW HT_.out HW_.out (by kernel_rfl)) (fun _ _ _ h => h) (Or.inl ⟨by rfl, ?_⟩) hHeld ?_ ?_
                          rotate_left
                          · rintro w' ⟨s0, s1⟩
                            go_simp
                            with_reducible rfl
                          rotate_left
                          · simp only [Act.put, List.setIfInBounds_toArray, List.set_cons_zero, List.set_cons_succ, i64_w, i32_w]
                            rfl
                          refine pure_ (i := 17) (N := some 130) (v := ?_) (a' := ?_) #[true, true, true, true, true, true, true, true, true, true, true, true, true, true, true, true, true, true, false] rfl rfl (any_of HT_.out (by kernel_rfl)) (fun _ _ _ h => h) (Or.inl ⟨by rfl, ?_⟩) ?_ ?_
                          rotate_left
                          · intro w'
                            go_simp
                            with_reducible rfl
                          rotate_left
                          · simp only [Act.put, List.setIfInBounds_toArray, List.set_cons_zero, List.set_cons_succ, i64_w, i32_w]
                            rfl
                          refine pure_ (i := 18) (N := some 131) (v := ?_) (a' := ?_) #[true, true, true, true, true, true, true, true, true, true, true, true, true, true, true, true, true, true, true] rfl rfl (any_of HT_.out (by kernel_rfl)) (fun _ _ _ h => h) (Or.inl ⟨by rfl, ?_⟩) ?_ ?_
                          rotate_left
                          · intro w'
                            go_simp
                            with_reducible rfl
                          rotate_left
                          · simp only [Act.put, List.setIfInBounds_toArray, List.set_cons_zero, List.set_cons_succ, i64_w, i32_w]
                            rfl
                          refine done_ (done_of HT_.out (by kernel_rfl)) ?_
                          try go_wp2
                          have n0_ := Aside0.mk (Kd.V_drew HO_15.out)
                          have n1_ := Aside0.mk (Kd.R_drew HO_484002.out)
                          have n2_ := Aside0.mk (Kd.S_drew HO_484003.out)
                          have n3_ := Aside0.mk (Kd.R_drew HO486.out)
                          have n4_ := Aside0.mk (blk_drew BK460.out)
                          have n5_ := Aside0.mk (blk_drew BK483.out)
                          have n6_ := Aside0.mk (below_drew1 HB.out)
                          clear HO_15
                          clear HO_484002
                          clear HO_484003
                          clear HO486
                          clear BK460
                          clear BK483
                          clear HB
                          have HO_15 := n0_
                          have HO_484002 := n1_
                          have HO_484003 := n2_
                          have HO486 := n3_
                          have BK460 := n4_
                          have BK483 := n5_
                          have HB := n6_
                          clear n0_ n1_ n2_ n3_ n4_ n5_ n6_
                          refine start_ (n := 7) (S := fun w' => w'.cell? ⟨gb483, 0, none⟩ = some (.int .i64 t461) ∧ w'.cell? ⟨gb483, 1, none⟩ = some (.bool (t466 == 1)) ∧ w'.cell? ⟨gb483, 2, none⟩ = some (.slice Ao21 t471.length co21) ∧ w'.cell? ⟨gb483, 3, none⟩ = some (.slice Ao70 x484003_2.length co70)) (ds := []) #[false, false, false, false, false, false, false] (by kernel_rfl) rfl rfl ⟨(blk_cell BK483.out 0).trans rfl, (blk_cell BK483.out 1).trans rfl, (blk_cell BK483.out 2).trans rfl, (blk_cell BK483.out 3).trans rfl⟩ (fun hHeld => ?_)
                          generalize w72.drew = w77 at HO_15 HO_484002 HO_484003 HO486 BK460 BK483 HB hHeld ⊢
                          refine pure_ (i := 2) (N := some 135) (v := ?_) (a' := ?_) #[false, false, true, false, false, false, false] rfl rfl (by kernel_rfl) (fun _ _ _ h => h) (Or.inl ⟨by rfl, ?_⟩) ?_ ?_
                          rotate_left
                          · intro w'
                            go_simp
                            with_reducible rfl
                          rotate_left
                          · simp only [Act.put, List.setIfInBounds_toArray, List.set_cons_zero, List.set_cons_succ, i64_w, i32_w]
                            rfl
                          refine take_ (i := 0) (N := some 133) (v := ?_) (a' := ?_) #[true, false, true, false, false, false, false] rfl rfl (by kernel_rfl) (fun _ _ _ h => h) (Or.inl ⟨by rfl, ?_⟩) hHeld ?_ ?_
                          rotate_left
                          · rintro w' ⟨s0, s1, s2, s3⟩
                            go_simp
                            with_reducible rfl
                          rotate_left
                          · simp only [Act.put, List.setIfInBounds_toArray, List.set_cons_zero, List.set_cons_succ, i64_w, i32_w]
                            rfl
                          refine one_ (i := 1) (N := some 134) #[true, true, true, false, false, false, false] rfl rfl (by kernel_rfl) (by decide) (fun K hK => ?_)
                          refine Kd.R_lit_step (Kd.int .u8) _ 5 ?hg (N := 134) ?hd (xs := ([] : List Int)) (inner := []) (ok := fun _ => True) (okp := fun _ => True) ?hr ?hp (fun _ hk => hk) trivial (Below.refl _ _) (Nat.le_refl _) (by simp) ?_; (case hd => rfl); (case hg => rfl); (case hr => first | (go_simp; done) | (go_simp; rfl)); (case hp => exact (Reps.none _ _))
                          intro v490 w78 ho79 hb hg_ hnew_
                          clear hg_ hnew_
                          (first | rw [← Ny489.out] at ho79 | (simp only [Int.reduceToNat] at ho79; rw [← Ny489.out] at ho79))
                          have n0_ := Aside0.mk (Kd.V_elder' (by (with_reducible repeat (first | apply Kd.V_alloc | apply Kd.V_drewN | apply Kd.V_drew)); exact HO_15.out) (Kd.R_base ho79) hb)
                          have n1_ := Aside0.mk (Kd.R_elder' (by (with_reducible repeat (first | apply Kd.R_alloc | apply Kd.R_drewN | apply Kd.R_drew)); exact HO_484002.out) (Kd.R_base ho79) hb)
                          have n2_ := Aside0.mk (Kd.S_elder' (by (with_reducible repeat (first | apply Kd.S_alloc | apply Kd.S_drewN | apply Kd.S_drew)); exact HO_484003.out) (Kd.R_base ho79) hb)
                          have n3_ := Aside0.mk (Kd.R_elder' (by (with_reducible repeat (first | apply Kd.R_alloc | apply Kd.R_drewN | apply Kd.R_drew)); exact HO486.out) (Kd.R_base ho79) hb)
                          have n4_ := Aside0.mk (Kd.R_lower (Kd.R_new' (Kd.R_new' ho79 (Kd.R_lt (by (with_reducible repeat (first | apply Kd.R_alloc | apply Kd.R_drewN | apply Kd.R_drew)); exact HO_484002.out))) (Kd.R_lt (by (with_reducible repeat (first | apply Kd.R_alloc | apply Kd.R_drewN | apply Kd.R_drew)); exact HO486.out))) (below_size (by repeat (first | (with_reducible first | exact HB.out | apply below_alloc | apply pw_below_drewN | apply below_drew1 | refine below_set ?_ GE460.out | refine below_set ?_ GE483.out) | exact HB.out))))
                          have n5_ := Aside0.mk (blk_below (g := gb460) (o := .cells #[.int .i64 x461000_2, .bool x461001_2, .slice none 0 0, .slice none 0 0] 36 (0, 0)) (by (with_reducible repeat (first | refine blk_drewN ?_ _ | refine blk_drew ?_ | refine blk_alloc ?_ _)); exact BK460.out) hb)
                          have n6_ := Aside0.mk (blk_below (g := gb483) (o := .cells #[.int .i64 t461, .bool (t466 == 1), .slice Ao21 t471.length co21, .slice Ao70 x484003_2.length co70] 36 (0, 0)) (by (with_reducible repeat (first | refine blk_drewN ?_ _ | refine blk_drew ?_ | refine blk_alloc ?_ _)); exact BK483.out) hb)
                          have n7_ := Aside0.mk (below_step (by repeat (first | (with_reducible first | exact HB.out | apply below_alloc | apply pw_below_drewN | apply below_drew1 | refine below_set ?_ GE460.out | refine below_set ?_ GE483.out) | exact HB.out)) hb)
                          clear HO_15
                          clear HO_484002
                          clear HO_484003
                          clear HO486
                          clear BK460
                          clear BK483
                          clear HB
                          have HO_15 := n0_
                          have HO_484002 := n1_
                          have HO_484003 := n2_
                          have HO486 := n3_
                          have HO491 := n4_
                          have BK460 := n5_
                          have BK483 := n6_
                          have HB := n7_
                          clear n0_ n1_ n2_ n3_ n4_ n5_ n6_ n7_
                          clear hb ho79
                          obtain ⟨Ao81, co81, eo81⟩ := Kd.V_slice HO_15.out
                          (first | subst eo81 | (injection eo81 with f1_ f2_ f3_; have f4_ := f1_.symm; have f5_ := f3_.symm; clear f1_ f2_ f3_; subst f4_; subst f5_))
                          refine hK.out _ _ ⟨(blk_cell BK483.out 0).trans rfl, (blk_cell BK483.out 1).trans rfl, (blk_cell BK483.out 2).trans rfl, (blk_cell BK483.out 3).trans rfl⟩ (fun hHeld => ?_)
                          clear hK K
                          refine norm_ (a' := ?_) ?_ ?_
                          rotate_left
                          · show Act.put _ (some 134) _ = _
                            simp only [Act.put, List.setIfInBounds_toArray, List.set_cons_zero, List.set_cons_succ, i64_w, i32_w]
                            rfl
                          refine one_ (i := 3) (N := some 136) #[true, true, true, true, false, false, false] rfl rfl (by kernel_rfl) (by decide) (fun K hK => ?_)
                          refine Kd.R_append_rows_step (Kd.int .u8) (w0 := w) w.heap.size (by rfl) (.tmp 134) (.tmp 135) 22 5 (.int .u8 0) 1 rfl Try.underlying22 info5 rfl (by decide) (by omega) v490 y489 x15_2 _ _ _ (fun k_ => some k_ ≠ (.slice Ao21 t471.length co21 : Value).ownBlock ∧ some k_ ≠ (.slice Ao73 t484.length co73 : Value).ownBlock) (fun _ => False) rfl rfl ?aO ?aR (fun _ _ h => h) (fun _ h => h.elim) ?aF ?aB ?aS ?aL ?_
                          (case aR => repeat (first | exact (Kd.V_reads' HO_15.out).2.2 | (with_reducible refine Kd.C_alloc ?_ _) | (with_reducible refine Kd.C_drewN ?_ _) | (with_reducible refine Kd.C_drew ?_)))
                          (case aB => exact (by repeat (first | (with_reducible first | exact HB.out | apply below_alloc | apply pw_below_drewN | apply below_drew1 | refine below_set ?_ GE460.out | refine below_set ?_ GE483.out) | exact HB.out)))
                          (case aF => exact (fun k_ hk => ⟨Kd.fresh' (Kd.R_lt (by (with_reducible repeat (first | apply Kd.R_alloc | apply Kd.R_drewN | apply Kd.R_drew)); exact HO_484002.out)) k_ hk, Kd.fresh' (Kd.R_lt (by (with_reducible repeat (first | apply Kd.R_alloc | apply Kd.R_drewN | apply Kd.R_drew)); exact HO486.out)) k_ hk⟩))
                          (case aO => exact (by (with_reducible repeat (first | apply Kd.R_alloc | apply Kd.R_drewN | apply Kd.R_drew)); exact Kd.R_mono HO491.out (fun _ hk => ⟨hk.1.2, hk.2⟩)))
                          (case aS => exact (below_size (by repeat (first | (with_reducible first | exact HB.out | apply below_alloc | apply pw_below_drewN | apply below_drew1 | refine below_set ?_ GE460.out | refine below_set ?_ GE483.out) | exact HB.out))))
                          (case aL => have := LMc67.out; omega)
                          intro v493 w80 ho hb hg hat
                          rw [← Ny492.out] at ho
                          have n0_ := Aside0.mk (Kd.V_afterv (ok := (fun k_ => some k_ ≠ (.slice Ao21 t471.length co21 : Value).ownBlock ∧ some k_ ≠ (.slice Ao70 x484003_2.length co70 : Value).ownBlock ∧ some k_ ≠ (.slice Ao73 t484.length co73 : Value).ownBlock ∧ k_ ≠ gb460 ∧ k_ ≠ gb483)) (by (with_reducible repeat (first | apply Kd.V_alloc | apply Kd.V_drewN | apply Kd.V_drew)); exact Kd.V_mono HO_15.out (fun _ hk => ⟨⟨hk.1.1.1, ⟨hk.1.1.2.1, ⟨hk.1.2, ⟨hk.1.1.2.2.1, hk.1.1.2.2.2⟩⟩⟩⟩, hk.2⟩)) hg hat)
                          have n1_ := Aside0.mk (Kd.R_after (ok := (fun k_ => some k_ ≠ (.slice Ao73 t484.length co73 : Value).ownBlock)) (by (with_reducible repeat (first | apply Kd.R_alloc | apply Kd.R_drewN | apply Kd.R_drew)); exact Kd.R_mono HO_484002.out (fun _ hk => ⟨hk.1.2, hk.2⟩)) hg hat)
                          have n2_ := Aside0.mk (Kd.S_after (ok := (fun k_ => some k_ ≠ (.slice Ao21 t471.length co21 : Value).ownBlock ∧ some k_ ≠ (.slice Ao73 t484.length co73 : Value).ownBlock)) (by (with_reducible repeat (first | apply Kd.S_alloc | apply Kd.S_drewN | apply Kd.S_drew)); exact HO_484003.out) hg hat)
                          have n3_ := Aside0.mk (blk_grown (g := gb460) (o := .cells #[.int .i64 x461000_2, .bool x461001_2, .slice none 0 0, .slice none 0 0] 36 (0, 0)) (by (with_reducible repeat (first | refine blk_drewN ?_ _ | refine blk_drew ?_ | refine blk_alloc ?_ _)); exact BK460.out) hg (Kd.R_ne HO491.out BK460.out (by decide)))
                          have n4_ := Aside0.mk (blk_grown (g := gb483) (o := .cells #[.int .i64 t461, .bool (t466 == 1), .slice Ao21 t471.length co21, .slice Ao70 x484003_2.length co70] 36 (0, 0)) (by (with_reducible repeat (first | refine blk_drewN ?_ _ | refine blk_drew ?_ | refine blk_alloc ?_ _)); exact BK483.out) hg (Kd.R_ne HO491.out BK483.out (by decide)))
                          have n5_ := Aside0.mk (Kd.R_after (ok := (fun k_ => some k_ ≠ (.slice Ao21 t471.length co21 : Value).ownBlock)) (by (with_reducible repeat (first | apply Kd.R_alloc | apply Kd.R_drewN | apply Kd.R_drew)); exact Kd.R_mono HO486.out (fun _ hk => ⟨hk.1.2, hk.2⟩)) hg hat)
                          have n6_ := Aside0.mk (hb)
                          have n7_ := Aside0.mk (ho)
                          clear HO_15
                          clear HO_484002
                          clear HO_484003
                          clear BK460
                          clear BK483
                          clear HO486
                          clear HB
                          clear HO491
                          have HO_15 := n0_
                          have HO_484002 := n1_
                          have HO_484003 := n2_
                          have BK460 := n3_
                          have BK483 := n4_
                          have HO486 := n5_
                          have HB := n6_
                          have HO494 := n7_
                          clear n0_ n1_ n2_ n3_ n4_ n5_ n6_ n7_
                          clear ho hb hg hat
                          refine hK.out _ _ ⟨(blk_cell BK483.out 0).trans rfl, (blk_cell BK483.out 1).trans rfl, (blk_cell BK483.out 2).trans rfl, (blk_cell BK483.out 3).trans rfl⟩ (fun hHeld => ?_)
                          clear hK K
                          refine norm_ (a' := ?_) ?_ ?_
                          rotate_left
                          · show Act.put _ (some 136) _ = _
                            simp only [Act.put, List.setIfInBounds_toArray, List.set_cons_zero, List.set_cons_succ, i64_w, i32_w]
                            rfl
                          refine one_ (i := 4) (N := none) #[true, true, true, true, true, false, false] rfl rfl (by kernel_rfl) (by decide) (fun K hK => ?_)
                          have hs82 : w80.cell? ⟨gb460, 0, none⟩ = some (.int .i64 x461000_2) := (blk_cell BK460.out 0).trans rfl
                          have hfs82 := blk_frozen BK460.out 0
                          have hns82_1 := NB483_460.out
                          have hms82_1 := NB460_483.out
                          have hs83 : w80.cell? ⟨gb460, 1, none⟩ = some (.bool x461001_2) := (blk_cell BK460.out 1).trans rfl
                          have hfs83 := blk_frozen BK460.out 1
                          have hns83_1 := NB483_460.out
                          have hms83_1 := NB460_483.out
                          have hs84 : w80.cell? ⟨gb460, 2, none⟩ = some (.slice none 0 0) := (blk_cell BK460.out 2).trans rfl
                          have hfs84 := blk_frozen BK460.out 2
                          have hns84_1 := NB483_460.out
                          have hms84_1 := NB460_483.out
                          have hs85 : w80.cell? ⟨gb460, 3, none⟩ = some (.slice none 0 0) := (blk_cell BK460.out 3).trans rfl
                          have hfs85 := blk_frozen BK460.out 3
                          have hns85_1 := NB483_460.out
                          have hms85_1 := NB460_483.out
                          refine skip_ (w1 := ?_) (by rfl) rfl ?_ ?_
                          rotate_left
                          · go_simp
                            rfl
                          refine hK.out _ _ ⟨((cell_far (p := ⟨gb460, _, none⟩) NB483_460.out _).trans (((cell_far (p := ⟨gb460, _, none⟩) NB483_460.out _).trans (((cell_far (p := ⟨gb460, _, none⟩) NB483_460.out _).trans (((cell_far (p := ⟨gb460, _, none⟩) NB483_460.out _).trans (hHeld.1)))))))), ((cell_far (p := ⟨gb460, _, none⟩) NB483_460.out _).trans (((cell_far (p := ⟨gb460, _, none⟩) NB483_460.out _).trans (((cell_far (p := ⟨gb460, _, none⟩) NB483_460.out _).trans (((cell_far (p := ⟨gb460, _, none⟩) NB483_460.out _).trans (hHeld.2.1)))))))), ((cell_far (p := ⟨gb460, _, none⟩) NB483_460.out _).trans (((cell_far (p := ⟨gb460, _, none⟩) NB483_460.out _).trans (((cell_far (p := ⟨gb460, _, none⟩) NB483_460.out _).trans (((cell_far (p := ⟨gb460, _, none⟩) NB483_460.out _).trans (hHeld.2.2.1)))))))), ((cell_far (p := ⟨gb460, _, none⟩) NB483_460.out _).trans (((cell_far (p := ⟨gb460, _, none⟩) NB483_460.out _).trans (((cell_far (p := ⟨gb460, _, none⟩) NB483_460.out _).trans (((cell_far (p := ⟨gb460, _, none⟩) NB483_460.out _).trans (hHeld.2.2.2))))))))⟩ (fun hHeld => ?_)
                          clear hK K
                          refine pure_ (i := 5) (N := some 3) (v := ?_) (a' := ?_) #[true, true, true, true, true, true, false] rfl rfl (by kernel_rfl) (fun _ _ _ h => h) (Or.inl ⟨by rfl, ?_⟩) ?_ ?_
                          rotate_left
                          · intro w'
                            go_simp
                            with_reducible rfl
                          rotate_left
                          · simp only [Act.put, List.setIfInBounds_toArray, List.set_cons_zero, List.set_cons_succ, i64_w, i32_w]
                            rfl
                          refine pure_ (i := 6) (N := some 4) (v := ?_) (a' := ?_) #[true, true, true, true, true, true, true] rfl rfl (by kernel_rfl) (fun _ _ _ h => h) (Or.inl ⟨by rfl, ?_⟩) ?_ ?_
                          rotate_left
                          · intro w'
                            go_simp
                            with_reducible rfl
                          rotate_left
                          · simp only [Act.put, List.setIfInBounds_toArray, List.set_cons_zero, List.set_cons_succ, i64_w, i32_w]
                            rfl
                          refine done_ (by kernel_rfl) ?_
                          try go_wp2
                          refine bodyPost_ret (results_ctt rfl _ _ gb460 36 #[.int .i64 t461, .bool (t466 == 1), .slice Ao21 t471.length co21, .slice Ao70 x484003_2.length co70] (0, 0) _ rfl (by (with_reducible repeat (first | refine blk_drewN ?_ _ | refine blk_drew ?_ | refine blk_alloc ?_ _)); refine blk_put (cs := #[.int .i64 t461, .bool (t466 == 1), .slice Ao21 t471.length co21, .slice none 0 0]) ?_ 3 _ rfl; (with_reducible repeat (first | refine blk_drewN ?_ _ | refine blk_drew ?_ | refine blk_alloc ?_ _)); refine blk_put (cs := #[.int .i64 t461, .bool (t466 == 1), .slice none 0 0, .slice none 0 0]) ?_ 2 _ rfl; (with_reducible repeat (first | refine blk_drewN ?_ _ | refine blk_drew ?_ | refine blk_alloc ?_ _)); refine blk_put (cs := #[.int .i64 t461, .bool x461001_2, .slice none 0 0, .slice none 0 0]) ?_ 1 _ rfl; (with_reducible repeat (first | refine blk_drewN ?_ _ | refine blk_drew ?_ | refine blk_alloc ?_ _)); refine blk_put (cs := #[.int .i64 x461000_2, .bool x461001_2, .slice none 0 0, .slice none 0 0]) ?_ 0 _ rfl; (with_reducible repeat (first | refine blk_drewN ?_ _ | refine blk_drew ?_ | refine blk_alloc ?_ _)); exact BK460.out) Try.underlying36 rfl (by kernel_rfl)) rfl ?_
                          exact ⟨_, _, _, by first | rfl | (simp [errW_none, errW_some] <;> rfl) | (simp [*, errW_none, errW_some] <;> rfl), by (with_reducible repeat (first | apply Kd.R_alloc | apply Kd.R_drewN | apply Kd.R_drew)); exact Kd.R_mono (Kd.R_far (p := ⟨gb460, 3, none⟩) (Kd.R_far (p := ⟨gb460, 2, none⟩) (Kd.R_far (p := ⟨gb460, 1, none⟩) (Kd.R_far (p := ⟨gb460, 0, none⟩) (Kd.R_types HO_484002.out BK460.out (by decide)) (fun _ hk => hk.2) (.int .i64 t461)) (fun _ hk => hk.2) (.bool (t466 == 1))) (fun _ hk => hk.2) (.slice Ao21 t471.length co21)) (fun _ hk => hk.2) (.slice Ao70 x484003_2.length co70)) (fun _ hk => hk.1.2), by (with_reducible repeat (first | apply Kd.S_alloc | apply Kd.S_drewN | apply Kd.S_drew)); exact Kd.S_mono (Kd.S_far (p := ⟨gb460, 3, none⟩) (Kd.S_far (p := ⟨gb460, 2, none⟩) (Kd.S_far (p := ⟨gb460, 1, none⟩) (Kd.S_far (p := ⟨gb460, 0, none⟩) (Kd.S_types HO_484003.out BK460.out (by decide)) (fun _ hk => hk.2) (.int .i64 t461)) (fun _ hk => hk.2) (.bool (t466 == 1))) (fun _ hk => hk.2) (.slice Ao21 t471.length co21)) (fun _ hk => hk.2) (.slice Ao70 x484003_2.length co70)) (fun _ hk => ⟨hk.1.1.1, hk.1.2⟩), by (with_reducible repeat (first | apply Kd.R_alloc | apply Kd.R_drewN | apply Kd.R_drew)); exact Kd.R_mono (Kd.R_far (p := ⟨gb460, 3, none⟩) (Kd.R_far (p := ⟨gb460, 2, none⟩) (Kd.R_far (p := ⟨gb460, 1, none⟩) (Kd.R_far (p := ⟨gb460, 0, none⟩) (Kd.R_types HO494.out BK460.out (by decide)) (fun _ hk => hk.2) (.int .i64 t461)) (fun _ hk => hk.2) (.bool (t466 == 1))) (fun _ hk => hk.2) (.slice Ao21 t471.length co21)) (fun _ hk => hk.2) (.slice Ao70 x484003_2.length co70)) (fun _ hk => hk.1.1), by repeat (first | (with_reducible first | exact HB.out | apply below_alloc | apply pw_below_drewN | apply below_drew1 | refine below_set ?_ GE460.out | refine below_set ?_ GE483.out) | exact HB.out)⟩
                        · rw [if_neg c67] at H
                          exact absurd H (by simp)
                      · rw [if_neg c66] at H
                        have c66b0 : ((strOfNums t484).toList == (strOfNums (l0.take ((t484.length : Int) : Int).toNat)).toList) = false := beq_eq_false_iff_ne.mpr c66
                        have c66b0n := c66b0
                        (try simp only [Int.toNat_natCast] at c66b0n)
                        have c66b1 : ((strOfNums t484).toList != (strOfNums (l0.take ((t484.length : Int) : Int).toNat)).toList) = true := bne_iff_ne.mpr c66
                        have c66b1n := c66b1
                        (try simp only [Int.toNat_natCast] at c66b1n)
                        simp only [Option.some.injEq, Prod.mk.injEq] at H
                        obtain ⟨rfl, rfl, rfl, rfl, rfl, rfl⟩ := H
                        have hnb86 := NB483_460.out
                        have hnc86 := NB460_483.out
                        have hcz87_0 : wr.cell? ⟨gb483, 0, none⟩ = some (.int .i64 t461) := (blk_cell BK483.out 0).trans rfl
                        have hcz87_1 : wr.cell? ⟨gb483, 1, none⟩ = some (.bool (t466 == 1)) := (blk_cell BK483.out 1).trans rfl
                        have hcz87_2 : wr.cell? ⟨gb483, 2, none⟩ = some (.slice Ao21 t471.length co21) := (blk_cell BK483.out 2).trans rfl
                        have hcz87_3 : wr.cell? ⟨gb483, 3, none⟩ = some (u484003) := (blk_cell BK483.out 3).trans rfl
                        have hfz87_0 := blk_frozen BK483.out 0
                        have hfz87_1 := blk_frozen BK483.out 1
                        have hfz87_2 := blk_frozen BK483.out 2
                        have hfz87_3 := blk_frozen BK483.out 3
                        obtain ⟨Ao88, co88, eo88⟩ := Kd.S_slice HO_484003.out
                        subst eo88
                        try go_wp2_with (first | ((with_reducible refine gate_callee (f := 17) rfl ?_); refine goesL_ (some 110) rfl rfl Try.func17 (by kernel_rfl) rfl #[.agg #[.int .i64 t461, .bool (t466 == 1), .slice Ao21 t471.length co21, .slice Ao88 x484003_2.length co88]] rfl (by (try simp only [List.map_toArray, List.map_cons, List.map_nil]); first | done | rfl | (simp only [List.length_drop, List.length_take]; rfl)) ?_; (with_reducible refine (banksmanref21_Told.calls k2 t461 (t466 == 1) _ _ t471 _ _ x484003_2 t484 t487 _ ?side1 ?side2 ?side3 ?side4 A54.out).mono ?_); (case side1 => repeat (first | exact (Kd.R_reads' HO_484002.out).2.2 | (with_reducible refine Kd.C_alloc ?_ _) | (with_reducible refine Kd.C_drewN ?_ _) | (with_reducible refine Kd.C_drew ?_))); (case side2 => exact (Kd.R_reads' HO_484002.out).2.1); (case side3 => repeat (first | exact (Kd.S_reads' HO_484003.out).2.2 | (with_reducible refine Kd.C_alloc ?_ _) | (with_reducible refine Kd.C_drewN ?_ _) | (with_reducible refine Kd.C_drew ?_))); (case side4 => exact (Kd.S_reads' HO_484003.out).2.1); rintro e w89 ⟨v485, rfl, ho0, hb⟩; refine ⟨_, rfl, ?_⟩; have n0_ := Aside0.mk (Kd.V_elder' (by (with_reducible repeat (first | apply Kd.V_alloc | apply Kd.V_drewN | apply Kd.V_drew)); exact HO_15.out) (Kd.R_base ho0) hb); have n1_ := Aside0.mk (Kd.R_elder' (by (with_reducible repeat (first | apply Kd.R_alloc | apply Kd.R_drewN | apply Kd.R_drew)); exact HO_484002.out) (Kd.R_base ho0) hb); have n2_ := Aside0.mk (Kd.S_elder' (by (with_reducible repeat (first | apply Kd.S_alloc | apply Kd.S_drewN | apply Kd.S_drew)); exact HO_484003.out) (Kd.R_base ho0) hb); have n3_ := Aside0.mk (Kd.R_lower (Kd.R_new' ho0 (Kd.R_lt (by (with_reducible repeat (first | apply Kd.R_alloc | apply Kd.R_drewN | apply Kd.R_drew)); exact HO_484002.out))) (below_size (by repeat (first | (with_reducible first | exact HB.out | apply below_alloc | apply pw_below_drewN | apply below_drew1 | refine below_set ?_ GE460.out | refine below_set ?_ GE483.out) | exact HB.out)))); have n4_ := Aside0.mk (blk_below (g := gb460) (o := .cells #[.int .i64 x461000_2, .bool x461001_2, .slice none 0 0, .slice none 0 0] 36 (0, 0)) (by (with_reducible repeat (first | refine blk_drewN ?_ _ | refine blk_drew ?_ | refine blk_alloc ?_ _)); exact BK460.out) hb); have n5_ := Aside0.mk (blk_below (g := gb483) (o := .cells #[.int .i64 t461, .bool (t466 == 1), .slice Ao21 t471.length co21, .slice Ao88 x484003_2.length co88] 36 (0, 0)) (by (with_reducible repeat (first | refine blk_drewN ?_ _ | refine blk_drew ?_ | refine blk_alloc ?_ _)); exact BK483.out) hb); have n6_ := Aside0.mk (below_step (by repeat (first | (with_reducible first | exact HB.out | apply below_alloc | apply pw_below_drewN | apply below_drew1 | refine below_set ?_ GE460.out | refine below_set ?_ GE483.out) | exact HB.out)) hb); clear HO_15; clear HO_484002; clear HO_484003; clear BK460; clear BK483; clear HB; have HO_15 := n0_; have HO_484002 := n1_; have HO_484003 := n2_; have HO486 := n3_; have BK460 := n4_; have BK483 := n5_; have HB := n6_; clear n0_ n1_ n2_ n3_ n4_ n5_ n6_; (try clear hb); (try clear hb2); (try clear hk); (try clear hi); (try clear ho0)))
                        have n0_ := Aside0.mk (Kd.V_drew HO_15.out)
                        have n1_ := Aside0.mk (Kd.R_drew HO_484002.out)
                        have n2_ := Aside0.mk (Kd.S_drew HO_484003.out)
                        have n3_ := Aside0.mk (Kd.R_drew HO486.out)
                        have n4_ := Aside0.mk (blk_drew BK460.out)
                        have n5_ := Aside0.mk (blk_drew BK483.out)
                        have n6_ := Aside0.mk (below_drew1 HB.out)
                        clear HO_15
                        clear HO_484002
                        clear HO_484003
                        clear HO486
                        clear BK460
                        clear BK483
                        clear HB
                        have HO_15 := n0_
                        have HO_484002 := n1_
                        have HO_484003 := n2_
                        have HO486 := n3_
                        have BK460 := n4_
                        have BK483 := n5_
                        have HB := n6_
                        clear n0_ n1_ n2_ n3_ n4_ n5_ n6_
                        obtain ⟨Ao91, co91, eo91⟩ := Kd.R_slice HO486.out
                        (first | subst eo91 | (injection eo91 with f1_ f2_ f3_; have f4_ := f1_.symm; have f5_ := f3_.symm; clear f1_ f2_ f3_; subst f4_; subst f5_))
                        have hcv92 := own_string (P := Try.prog) Try.underlying22 Try.underlying5 Try.underlying9 (Kd.own_of_R HO486.out); have hcv92q := fun n_ => own_string (P := Try.prog) Try.underlying22 Try.underlying5 Try.underlying9 (Kd.own_of_R (Kd.R_drewN HO486.out n_))
                        obtain ⟨i093, hi093, _, hsz93, _⟩ := info_parts info5
                        obtain ⟨hcut93, hA93, hC93⟩ := print_take_of (P := Try.prog) (Value.int .u8) 0 22 5 .i64 Try.underlying22 hi093 hsz93 A0 c0 l0 (t484.length : Int) (of_decide_eq_true (by first | (with_reducible assumption) | assumption)) (of_decide_eq_true (by first | (with_reducible assumption) | assumption)) HC0.out
                        have HR488 := Aside0.mk (Kd.C_of_reads (h1 := fun _ => rfl) (hA93 _ (Kd.reads_of_C HR0.out)))
                        have HC488 := Aside0.mk hC93
                        clear hA93 hC93 hi093 hsz93
                        have hcv94 := Kd.C_string (P := Try.prog) (A := A0) (c := c0) Try.underlying22 Try.underlying5 Try.underlying9 (Kd.C_below HR488.out HB.out); have hcv94q := fun n_ => Kd.C_string (P := Try.prog) (A := A0) (c := c0) Try.underlying22 Try.underlying5 Try.underlying9 (Kd.C_drewN (Kd.C_below HR488.out HB.out) n_); have hcv94r := hcv94q; (try rw [List.length_take, Nat.min_eq_left (by have h1_ := (show 0 ≤ ((t484.length : Int) : Int) from of_decide_eq_true (by first | (with_reducible assumption) | assumption)); have h2_ := (show ((t484.length : Int) : Int) ≤ (l0.length : Int) from of_decide_eq_true (by first | (with_reducible assumption) | assumption)); omega)] at hcv94r); have hcv94s := hcv94q; (try rw [show (l0.take ((t484.length : Int)).toNat).length = min t484.length l0.length from by rw [List.length_take, Int.toNat_natCast]] at hcv94s)
                        refine start_ (n := 19) (S := fun w' => (convert 22 9 (.slice Ao91 t484.length co91)).run Try.prog w' = .ok (.string (strOfNums t484)) w' ∧ (convert 22 9 (.slice A0 (min t484.length l0.length) c0)).run Try.prog w' = .ok (.string (strOfNums (l0.take ((t484.length : Int) : Int).toNat))) w') (ds := []) #[false, false, false, false, false, false, false, false, false, false, false, false, false, false, false, false, false, false, false] (by kernel_rfl) rfl rfl ⟨(own_string (P := Try.prog) Try.underlying22 Try.underlying5 Try.underlying9 (Kd.own_of_R HO486.out)), (by have z_ := Kd.C_string (P := Try.prog) (A := A0) (c := c0) Try.underlying22 Try.underlying5 Try.underlying9 (Kd.C_below HR488.out HB.out); rw [show (l0.take ((t484.length : Int) : Int).toNat).length = (min t484.length l0.length) from by simp only [List.length_take, Int.toNat_natCast]] at z_; exact z_)⟩ (fun hHeld => ?_); refine with_tabW banksmanref21_Tell.tab18 banksmanref21_Tell.bits18 (fun HT_ HW_ => ?_)
                        generalize w89.drew = w90 at HO_15 HO_484002 HO_484003 HO486 BK460 BK483 HB HR488 hHeld ⊢
                        refine pure_ (i := 0) (N := some 113) (v := ?_) (a' := ?_) #[true, false, false, false, false, false, false, false, false, false, false, false, false, false, false, false, false, false, false] rfl rfl (any_of HT_.out (by kernel_rfl)) (fun _ _ _ h => h) (Or.inl ⟨by rfl, ?_⟩) ?_ ?_
                        rotate_left
                        · intro w'
                          go_simp
                          with_reducible rfl
                        rotate_left
                        · simp only [Act.put, List.setIfInBounds_toArray, List.set_cons_zero, List.set_cons_succ, i64_w, i32_w]
                          rfl
                        refine pure_ (i := 1) (N := some 114) (v := ?_) (a' := ?_) #[true, true, false, false, false, false, false, false, false, false, false, false, false, false, false, false, false, false, false] rfl rfl (any_of HT_.out (by kernel_rfl)) (fun _ _ _ h => h) (Or.inl ⟨by rfl, ?_⟩) ?_ ?_
                        rotate_left
                        · intro w'
                          go_simp
                          with_reducible rfl
                        rotate_left
                        · simp only [Act.put, List.setIfInBounds_toArray, List.set_cons_zero, List.set_cons_succ, i64_w, i32_w]
                          rfl
                        refine pure_ (i := 2) (N := some 115) (v := ?_) (a' := ?_) #[true, true, true, false, false, false, false, false, false, false, false, false, false, false, false, false, false, false, false] rfl rfl (any_of HT_.out (by kernel_rfl)) (fun _ _ _ h => h) (Or.inl ⟨by rfl, ?_⟩) ?_ ?_
                        rotate_left
                        · intro w'
                          go_simp
                          with_reducible rfl
                        rotate_left
                        · simp only [Act.put, List.setIfInBounds_toArray, List.set_cons_zero, List.set_cons_succ, i64_w, i32_w]
                          rfl
                        refine pure_ (i := 3) (N := some 116) (v := ?_) (a' := ?_) #[true, true, true, true, false, false, false, false, false, false, false, false, false, false, false, false, false, false, false] rfl rfl (any_of HT_.out (by kernel_rfl)) (fun _ _ _ h => h) (Or.inl ⟨by rfl, ?_⟩) ?_ ?_
                        rotate_left
                        · intro w'
                          go_simp
                          with_reducible rfl
                        rotate_left
                        · simp only [Act.put, List.setIfInBounds_toArray, List.set_cons_zero, List.set_cons_succ, i64_w, i32_w]
                          rfl
                        refine pure_ (i := 4) (N := some 117) (v := ?_) (a' := ?_) #[true, true, true, true, true, false, false, false, false, false, false, false, false, false, false, false, false, false, false] rfl rfl (any_of HT_.out (by kernel_rfl)) (fun _ _ _ h => h) (Or.inl ⟨by rfl, ?_⟩) ?_ ?_
                        rotate_left
                        · intro w'
                          go_simp
                          with_reducible rfl
                        rotate_left
                        · simp only [Act.put, List.setIfInBounds_toArray, List.set_cons_zero, List.set_cons_succ, i64_w, i32_w]
                          rfl
                        refine pure_ (i := 5) (N := some 118) (v := ?_) (a' := ?_) #[true, true, true, true, true, true, false, false, false, false, false, false, false, false, false, false, false, false, false] rfl rfl (any_of HT_.out (by kernel_rfl)) (fun _ _ _ h => h) (Or.inl ⟨by rfl, ?_⟩) ?_ ?_
                        rotate_left
                        · intro w'
                          go_simp
                          with_reducible rfl
                        rotate_left
                        · simp only [Act.put, List.setIfInBounds_toArray, List.set_cons_zero, List.set_cons_succ, i64_w, i32_w]
                          rfl
                        refine pure_ (i := 6) (N := some 119) (v := ?_) (a' := ?_) #[true, true, true, true, true, true, true, false, false, false, false, false, false, false, false, false, false, false, false] rfl rfl (any_of HT_.out (by kernel_rfl)) (fun _ _ _ h => h) (Or.inl ⟨by rfl, ?_⟩) ?_ ?_
                        rotate_left
                        · intro w'
                          go_simp
                          with_reducible rfl
                        rotate_left
                        · simp only [Act.put, List.setIfInBounds_toArray, List.set_cons_zero, List.set_cons_succ, i64_w, i32_w]
                          rfl
                        refine pure_ (i := 7) (N := some 120) (v := ?_) (a' := ?_) #[true, true, true, true, true, true, true, true, false, false, false, false, false, false, false, false, false, false, false] rfl rfl (any_of HT_.out (by kernel_rfl)) (fun _ _ _ h => h) (Or.inl ⟨by rfl, ?_⟩) ?_ ?_
                        rotate_left
                        · intro w'
                          go_simp
                          with_reducible rfl
                        rotate_left
                        · simp only [Act.put, List.setIfInBounds_toArray, List.set_cons_zero, List.set_cons_succ, i64_w, i32_w]
                          rfl
                        refine pure_ (i := 8) (N := some 121) (v := ?_) (a' := ?_) #[true, true, true, true, true, true, true, true, true, false, false, false, false, false, false, false, false, false, false] rfl rfl (any_of HT_.out (by kernel_rfl)) (fun _ _ _ h => h) (Or.inl ⟨by rfl, ?_⟩) ?_ ?_
                        rotate_left
                        · intro w'
                          go_simp
                          with_reducible rfl
                        rotate_left
                        · simp only [Act.put, List.setIfInBounds_toArray, List.set_cons_zero, List.set_cons_succ, i64_w, i32_w]
                          rfl
                        refine pure_ (i := 9) (N := some 122) (v := ?_) (a' := ?_) #[true, true, true, true, true, true, true, true, true, true, false, false, false, false, false, false, false, false, false] rfl rfl (any_of HT_.out (by kernel_rfl)) (fun _ _ _ h => h) (Or.inl ⟨by rfl, ?_⟩) ?_ ?_
                        rotate_left
                        · intro w'
                          go_simp
                          with_reducible rfl
                        rotate_left
                        · simp only [Act.put, List.setIfInBounds_toArray, List.set_cons_zero, List.set_cons_succ, i64_w, i32_w]
                          rfl
                        refine pure_ (i := 10) (N := some 123) (v := ?_) (a' := ?_) #[true, true, true, true, true, true, true, true, true, true, true, false, false, false, false, false, false, false, false] rfl rfl (any_of HT_.out (by kernel_rfl)) (fun _ _ _ h => h) (Or.inl ⟨by rfl, ?_⟩) ?_ ?_
                        rotate_left
                        · intro w'
                          go_simp
                          with_reducible rfl
                        rotate_left
                        · simp only [Act.put, List.setIfInBounds_toArray, List.set_cons_zero, List.set_cons_succ, i64_w, i32_w]
                          rfl
                        refine take_ (i := 11) (N := some 124) (v := ?_) (a' := ?_) #[true, true, true, true, true, true, true, true, true, true, true, true, false, false, false, false, false, false, false] rfl rfl (take_ofW HT_.out HW_.out (by kernel_rfl)) (fun _ _ _ h => h) (Or.inl ⟨by rfl, ?_⟩) hHeld ?_ ?_
                        rotate_left
                        · rintro w' ⟨s0, s1⟩
                          go_simp
                          with_reducible rfl
                        rotate_left
                        · simp only [Act.put, List.setIfInBounds_toArray, List.set_cons_zero, List.set_cons_succ, i64_w, i32_w]
                          rfl
                        refine pure_ (i := 12) (N := some 125) (v := ?_) (a' := ?_) #[true, true, true, true, true, true, true, true, true, true, true, true, true, false, false, false, false, false, false] rfl rfl (any_of HT_.out (by kernel_rfl)) (fun _ _ _ h => h) (Or.inl ⟨by rfl, ?_⟩) ?_ ?_
                        rotate_left
                        · intro w'
                          go_simp
                          with_reducible rfl
                        rotate_left
                        · simp only [Act.put, List.setIfInBounds_toArray, List.set_cons_zero, List.set_cons_succ, i64_w, i32_w]
                          rfl
                        refine pure_ (i := 13) (N := some 126) (v := ?_) (a' := ?_) #[true, true, true, true, true, true, true, true, true, true, true, true, true, true, false, false, false, false, false] rfl rfl (any_of HT_.out (by kernel_rfl)) (fun _ _ _ h => h) (Or.inl ⟨by rfl, ?_⟩) ?_ ?_
                        rotate_left
                        · intro w'
                          go_simp
                          with_reducible rfl
                        rotate_left
                        · simp only [Act.put, List.setIfInBounds_toArray, List.set_cons_zero, List.set_cons_succ, i64_w, i32_w]
                          rfl
                        refine pure_ (i := 14) (N := some 127) (v := ?_) (a' := ?_) #[true, true, true, true, true, true, true, true, true, true, true, true, true, true, true, false, false, false, false] rfl rfl (any_of HT_.out (by kernel_rfl)) (fun _ _ _ h => h) (Or.inl ⟨by rfl, ?_⟩) ?_ ?_
                        rotate_left
                        · intro w'
                          go_simp
                          with_reducible rfl
                        rotate_left
                        · simp only [Act.put, List.setIfInBounds_toArray, List.set_cons_zero, List.set_cons_succ, i64_w, i32_w]
                          rfl
                        refine pure_ (i := 15) (N := some 128) (v := ?_) (a' := ?_) #[true, true, true, true, true, true, true, true, true, true, true, true, true, true, true, true, false, false, false] rfl rfl (any_of HT_.out (by kernel_rfl)) (fun _ _ _ h => h) (Or.inl ⟨by rfl, ?_⟩) ?_ ?_
                        rotate_left
                        · intro w'
                          go_simp
                          with_reducible rfl
                        rotate_left
                        · simp only [Act.put, List.setIfInBounds_toArray, List.set_cons_zero, List.set_cons_succ, i64_w, i32_w]
                          rfl
                        refine take_ (i := 16) (N := some 129) (v := ?_) (a' := ?_) #[true, true, true, true, true, true, true, true, true, true, true, true, true, true, true, true, true, false, false] rfl rfl (take_ofW HT_.out HW_.out (by kernel_rfl)) (fun _ _ _ h => h) (Or.inl ⟨by rfl, ?_⟩) hHeld ?_ ?_
                        rotate_left
                        · rintro w' ⟨s0, s1⟩
                          go_simp
                          with_reducible rfl
                        rotate_left
                        · simp only [Act.put, List.setIfInBounds_toArray, List.set_cons_zero, List.set_cons_succ, i64_w, i32_w]
                          rfl
                        refine pure_ (i := 17) (N := some 130) (v := ?_) (a' := ?_) #[true, true, true, true, true, true, true, true, true, true, true, true, true, true, true, true, true, true, false] rfl rfl (any_of HT_.out (by kernel_rfl)) (fun _ _ _ h => h) (Or.inl ⟨by rfl, ?_⟩) ?_ ?_
                        rotate_left
                        · intro w'
                          go_simp
                          with_reducible rfl
                        rotate_left
                        · simp only [Act.put, List.setIfInBounds_toArray, List.set_cons_zero, List.set_cons_succ, i64_w, i32_w]
                          rfl
                        refine pure_ (i := 18) (N := some 131) (v := ?_) (a' := ?_) #[true, true, true, true, true, true, true, true, true, true, true, true, true, true, true, true, true, true, true] rfl rfl (any_of HT_.out (by kernel_rfl)) (fun _ _ _ h => h) (Or.inl ⟨by rfl, ?_⟩) ?_ ?_
                        rotate_left
                        · intro w'
                          go_simp
                          with_reducible rfl
                        rotate_left
                        · simp only [Act.put, List.setIfInBounds_toArray, List.set_cons_zero, List.set_cons_succ, i64_w, i32_w]
                          rfl
                        refine done_ (done_of HT_.out (by kernel_rfl)) ?_
                        have hcz95_0 : w90.cell? ⟨gb460, 0, none⟩ = some (.int .i64 x461000_2) := (blk_cell BK460.out 0).trans rfl
                        have hcz95_1 : w90.cell? ⟨gb460, 1, none⟩ = some (.bool x461001_2) := (blk_cell BK460.out 1).trans rfl
                        have hcz95_2 : w90.cell? ⟨gb460, 2, none⟩ = some (.slice none 0 0) := (blk_cell BK460.out 2).trans rfl
                        have hcz95_3 : w90.cell? ⟨gb460, 3, none⟩ = some (.slice none 0 0) := (blk_cell BK460.out 3).trans rfl
                        have hfz95_0 := blk_frozen BK460.out 0
                        have hfz95_1 := blk_frozen BK460.out 1
                        have hfz95_2 := blk_frozen BK460.out 2
                        have hfz95_3 := blk_frozen BK460.out 3
                        try go_wp2
                        refine bodyPost_ret (results_ctt rfl _ _ gb460 36 #[.int .i64 0, .bool false, .slice none 0 0, .slice none 0 0] (0, 0) _ rfl (by (with_reducible repeat (first | refine blk_drewN ?_ _ | refine blk_drew ?_ | refine blk_alloc ?_ _)); refine blk_put (cs := #[.int .i64 0, .bool false, .slice none 0 0, .slice none 0 0]) ?_ 3 _ rfl; (with_reducible repeat (first | refine blk_drewN ?_ _ | refine blk_drew ?_ | refine blk_alloc ?_ _)); refine blk_put (cs := #[.int .i64 0, .bool false, .slice none 0 0, .slice none 0 0]) ?_ 2 _ rfl; (with_reducible repeat (first | refine blk_drewN ?_ _ | refine blk_drew ?_ | refine blk_alloc ?_ _)); refine blk_put (cs := #[.int .i64 0, .bool x461001_2, .slice none 0 0, .slice none 0 0]) ?_ 1 _ rfl; (with_reducible repeat (first | refine blk_drewN ?_ _ | refine blk_drew ?_ | refine blk_alloc ?_ _)); refine blk_put (cs := #[.int .i64 x461000_2, .bool x461001_2, .slice none 0 0, .slice none 0 0]) ?_ 0 _ rfl; (with_reducible repeat (first | refine blk_drewN ?_ _ | refine blk_drew ?_ | refine blk_alloc ?_ _)); exact BK460.out) Try.underlying36 rfl (by kernel_rfl)) rfl ?_
                        exact ⟨_, _, _, by first | rfl | (simp [errW_none, errW_some] <;> rfl) | (simp [*, errW_none, errW_some] <;> rfl), by first | exact Kd.R_nil _ _ _ _ _ | exact Kd.N_nil _ _ _ _ _ | exact Kd.V_nil _ _ _ _ _ | exact Kd.Q_nil _ _ _ _ _ | exact Kd.S_nil _ _ _ _ _, by first | exact Kd.S_nil _ _ _ _ _ | exact Kd.N_nil _ _ _ _ _ | exact Kd.V_nil _ _ _ _ _ | exact Kd.Q_nil _ _ _ _ _ | exact Kd.R_nil _ _ _ _ _, by first | exact Kd.R_nil _ _ _ _ _ | exact Kd.N_nil _ _ _ _ _ | exact Kd.V_nil _ _ _ _ _ | exact Kd.Q_nil _ _ _ _ _ | exact Kd.S_nil _ _ _ _ _, by repeat (first | (with_reducible first | exact HB.out | apply below_alloc | apply pw_below_drewN | apply below_drew1 | refine below_set ?_ GE460.out | refine below_set ?_ GE483.out) | exact HB.out)⟩
                    · rw [if_neg c65] at H
                      exact absurd H (by simp)
                  · rw [if_neg c64] at H
                    exact absurd H (by simp)
              · rw [if_neg c55] at H
                have c55b0 : (t487 == 0) = false := beq_eq_false_iff_ne.mpr c55
                have c55b1 : (t487 != 0) = true := bne_iff_ne.mpr c55
                simp only [Option.some.injEq, Prod.mk.injEq] at H
                obtain ⟨rfl, rfl, rfl, rfl, rfl, rfl⟩ := H
                have hnb96 := NB483_460.out
                have hnc96 := NB460_483.out
                have hcz97_0 : wr.cell? ⟨gb483, 0, none⟩ = some (.int .i64 t461) := (blk_cell BK483.out 0).trans rfl
                have hcz97_1 : wr.cell? ⟨gb483, 1, none⟩ = some (.bool (t466 == 1)) := (blk_cell BK483.out 1).trans rfl
                have hcz97_2 : wr.cell? ⟨gb483, 2, none⟩ = some (.slice Ao21 t471.length co21) := (blk_cell BK483.out 2).trans rfl
                have hcz97_3 : wr.cell? ⟨gb483, 3, none⟩ = some (u484003) := (blk_cell BK483.out 3).trans rfl
                have hfz97_0 := blk_frozen BK483.out 0
                have hfz97_1 := blk_frozen BK483.out 1
                have hfz97_2 := blk_frozen BK483.out 2
                have hfz97_3 := blk_frozen BK483.out 3
                obtain ⟨Ao98, co98, eo98⟩ := Kd.S_slice HO_484003.out
                subst eo98
                try go_wp2_with (first | ((with_reducible refine gate_callee (f := 17) rfl ?_); refine goesL_ (some 110) rfl rfl Try.func17 (by kernel_rfl) rfl #[.agg #[.int .i64 t461, .bool (t466 == 1), .slice Ao21 t471.length co21, .slice Ao98 x484003_2.length co98]] rfl (by (try simp only [List.map_toArray, List.map_cons, List.map_nil]); first | done | rfl | (simp only [List.length_drop, List.length_take]; rfl)) ?_; (with_reducible refine (banksmanref21_Told.calls k2 t461 (t466 == 1) _ _ t471 _ _ x484003_2 t484 t487 _ ?side1 ?side2 ?side3 ?side4 A54.out).mono ?_); (case side1 => repeat (first | exact (Kd.R_reads' HO_484002.out).2.2 | (with_reducible refine Kd.C_alloc ?_ _) | (with_reducible refine Kd.C_drewN ?_ _) | (with_reducible refine Kd.C_drew ?_))); (case side2 => exact (Kd.R_reads' HO_484002.out).2.1); (case side3 => repeat (first | exact (Kd.S_reads' HO_484003.out).2.2 | (with_reducible refine Kd.C_alloc ?_ _) | (with_reducible refine Kd.C_drewN ?_ _) | (with_reducible refine Kd.C_drew ?_))); (case side4 => exact (Kd.S_reads' HO_484003.out).2.1); rintro e w99 ⟨v485, rfl, ho0, hb⟩; refine ⟨_, rfl, ?_⟩; have n0_ := Aside0.mk (Kd.V_elder' (by (with_reducible repeat (first | apply Kd.V_alloc | apply Kd.V_drewN | apply Kd.V_drew)); exact HO_15.out) (Kd.R_base ho0) hb); have n1_ := Aside0.mk (Kd.R_elder' (by (with_reducible repeat (first | apply Kd.R_alloc | apply Kd.R_drewN | apply Kd.R_drew)); exact HO_484002.out) (Kd.R_base ho0) hb); have n2_ := Aside0.mk (Kd.S_elder' (by (with_reducible repeat (first | apply Kd.S_alloc | apply Kd.S_drewN | apply Kd.S_drew)); exact HO_484003.out) (Kd.R_base ho0) hb); have n3_ := Aside0.mk (Kd.R_lower (Kd.R_new' ho0 (Kd.R_lt (by (with_reducible repeat (first | apply Kd.R_alloc | apply Kd.R_drewN | apply Kd.R_drew)); exact HO_484002.out))) (below_size (by repeat (first | (with_reducible first | exact HB.out | apply below_alloc | apply pw_below_drewN | apply below_drew1 | refine below_set ?_ GE460.out | refine below_set ?_ GE483.out) | exact HB.out)))); have n4_ := Aside0.mk (blk_below (g := gb460) (o := .cells #[.int .i64 x461000_2, .bool x461001_2, .slice none 0 0, .slice none 0 0] 36 (0, 0)) (by (with_reducible repeat (first | refine blk_drewN ?_ _ | refine blk_drew ?_ | refine blk_alloc ?_ _)); exact BK460.out) hb); have n5_ := Aside0.mk (blk_below (g := gb483) (o := .cells #[.int .i64 t461, .bool (t466 == 1), .slice Ao21 t471.length co21, .slice Ao98 x484003_2.length co98] 36 (0, 0)) (by (with_reducible repeat (first | refine blk_drewN ?_ _ | refine blk_drew ?_ | refine blk_alloc ?_ _)); exact BK483.out) hb); have n6_ := Aside0.mk (below_step (by repeat (first | (with_reducible first | exact HB.out | apply below_alloc | apply pw_below_drewN | apply below_drew1 | refine below_set ?_ GE460.out | refine below_set ?_ GE483.out) | exact HB.out)) hb); clear HO_15; clear HO_484002; clear HO_484003; clear BK460; clear BK483; clear HB; have HO_15 := n0_; have HO_484002 := n1_; have HO_484003 := n2_; have HO486 := n3_; have BK460 := n4_; have BK483 := n5_; have HB := n6_; clear n0_ n1_ n2_ n3_ n4_ n5_ n6_; (try clear hb); (try clear hb2); (try clear hk); (try clear hi); (try clear ho0)))
                have n0_ := Aside0.mk (Kd.V_drew HO_15.out)
                have n1_ := Aside0.mk (Kd.R_drew HO_484002.out)
                have n2_ := Aside0.mk (Kd.S_drew HO_484003.out)
                have n3_ := Aside0.mk (Kd.R_drew HO486.out)
                have n4_ := Aside0.mk (blk_drew BK460.out)
                have n5_ := Aside0.mk (blk_drew BK483.out)
                have n6_ := Aside0.mk (below_drew1 HB.out)
                clear HO_15
                clear HO_484002
                clear HO_484003
                clear HO486
                clear BK460
                clear BK483
                clear HB
                have HO_15 := n0_
                have HO_484002 := n1_
                have HO_484003 := n2_
                have HO486 := n3_
                have BK460 := n4_
                have BK483 := n5_
                have HB := n6_
                clear n0_ n1_ n2_ n3_ n4_ n5_ n6_
                refine start_ (n := 19) (S := fun w' => True) (ds := []) #[false, false, false, false, false, false, false, false, false, false, false, false, false, false, false, false, false, false, false] (by kernel_rfl) rfl rfl trivial (fun hHeld => ?_); refine with_tabW banksmanref21_Tell.tab18 banksmanref21_Tell.bits18 (fun HT_ HW_ => ?_)
                generalize w99.drew = w100 at HO_15 HO_484002 HO_484003 HO486 BK460 BK483 HB hHeld ⊢
                refine pure_ (i := 0) (N := some 113) (v := ?_) (a' := ?_) #[true, false, false, false, false, false, false, false, false, false, false, false, false, false, false, false, false, false, false] rfl rfl (any_of HT_.out (by kernel_rfl)) (fun _ _ _ h => h) (Or.inl ⟨by rfl, ?_⟩) ?_ ?_
                rotate_left
                · intro w'
                  go_simp
                  with_reducible rfl
                rotate_left
                · simp only [Act.put, List.setIfInBounds_toArray, List.set_cons_zero, List.set_cons_succ, i64_w, i32_w]
                  rfl
                refine pure_ (i := 1) (N := some 114) (v := ?_) (a' := ?_) #[true, true, false, false, false, false, false, false, false, false, false, false, false, false, false, false, false, false, false] rfl rfl (any_of HT_.out (by kernel_rfl)) (fun _ _ _ h => h) (Or.inl ⟨by rfl, ?_⟩) ?_ ?_
                rotate_left
                · intro w'
                  go_simp
                  with_reducible rfl
                rotate_left
                · simp only [Act.put, List.setIfInBounds_toArray, List.set_cons_zero, List.set_cons_succ, i64_w, i32_w]
                  rfl
                refine pure_ (i := 2) (N := some 115) (v := ?_) (a' := ?_) #[true, true, true, false, false, false, false, false, false, false, false, false, false, false, false, false, false, false, false] rfl rfl (any_of HT_.out (by kernel_rfl)) (fun _ _ _ h => h) (Or.inl ⟨by rfl, ?_⟩) ?_ ?_
                rotate_left
                · intro w'
                  go_simp
                  with_reducible rfl
                rotate_left
                · simp only [Act.put, List.setIfInBounds_toArray, List.set_cons_zero, List.set_cons_succ, i64_w, i32_w]
                  rfl
                refine pure_ (i := 3) (N := some 116) (v := undef) (a' := ?_) #[true, true, true, true, false, false, false, false, false, false, false, false, false, false, false, false, false, false, false] rfl rfl (any_of HT_.out (by kernel_rfl)) (fun _ _ _ h => h) (Or.inr ⟨by rfl, rfl⟩) ?_ ?_
                rotate_left
                · simp only [Act.put, List.setIfInBounds_toArray, List.set_cons_zero, List.set_cons_succ, i64_w, i32_w]
                  rfl
                refine pure_ (i := 4) (N := some 117) (v := undef) (a' := ?_) #[true, true, true, true, true, false, false, false, false, false, false, false, false, false, false, false, false, false, false] rfl rfl (any_of HT_.out (by kernel_rfl)) (fun _ _ _ h => h) (Or.inr ⟨by rfl, rfl⟩) ?_ ?_
                rotate_left
                · simp only [Act.put, List.setIfInBounds_toArray, List.set_cons_zero, List.set_cons_succ, i64_w, i32_w]
                  rfl
                refine pure_ (i := 5) (N := some 118) (v := undef) (a' := ?_) #[true, true, true, true, true, true, false, false, false, false, false, false, false, false, false, false, false, false, false] rfl rfl (any_of HT_.out (by kernel_rfl)) (fun _ _ _ h => h) (Or.inr ⟨by rfl, rfl⟩) ?_ ?_
                rotate_left
                · simp only [Act.put, List.setIfInBounds_toArray, List.set_cons_zero, List.set_cons_succ, i64_w, i32_w]
                  rfl
                refine pure_ (i := 6) (N := some 119) (v := undef) (a' := ?_) #[true, true, true, true, true, true, true, false, false, false, false, false, false, false, false, false, false, false, false] rfl rfl (any_of HT_.out (by kernel_rfl)) (fun _ _ _ h => h) (Or.inr ⟨by rfl, rfl⟩) ?_ ?_
                rotate_left
                · simp only [Act.put, List.setIfInBounds_toArray, List.set_cons_zero, List.set_cons_succ, i64_w, i32_w]
                  rfl
                refine pure_ (i := 7) (N := some 120) (v := undef) (a' := ?_) #[true, true, true, true, true, true, true, true, false, false, false, false, false, false, false, false, false, false, false] rfl rfl (any_of HT_.out (by kernel_rfl)) (fun _ _ _ h => h) (Or.inr ⟨by rfl, rfl⟩) ?_ ?_
                rotate_left
                · simp only [Act.put, List.setIfInBounds_toArray, List.set_cons_zero, List.set_cons_succ, i64_w, i32_w]
                  rfl
                refine pure_ (i := 8) (N := some 121) (v := ?_) (a' := ?_) #[true, true, true, true, true, true, true, true, true, false, false, false, false, false, false, false, false, false, false] rfl rfl (any_of HT_.out (by kernel_rfl)) (fun _ _ _ h => h) (Or.inl ⟨by rfl, ?_⟩) ?_ ?_
                rotate_left
                · intro w'
                  go_simp
                  with_reducible rfl
                rotate_left
                · simp only [Act.put, List.setIfInBounds_toArray, List.set_cons_zero, List.set_cons_succ, i64_w, i32_w]
                  rfl
                refine pure_ (i := 9) (N := some 122) (v := ?_) (a' := ?_) #[true, true, true, true, true, true, true, true, true, true, false, false, false, false, false, false, false, false, false] rfl rfl (any_of HT_.out (by kernel_rfl)) (fun _ _ _ h => h) (Or.inl ⟨by rfl, ?_⟩) ?_ ?_
                rotate_left
                · intro w'
                  go_simp
                  with_reducible rfl
                rotate_left
                · simp only [Act.put, List.setIfInBounds_toArray, List.set_cons_zero, List.set_cons_succ, i64_w, i32_w]
                  rfl
                refine pure_ (i := 10) (N := some 123) (v := undef) (a' := ?_) #[true, true, true, true, true, true, true, true, true, true, true, false, false, false, false, false, false, false, false] rfl rfl (any_of HT_.out (by kernel_rfl)) (fun _ _ _ h => h) (Or.inr ⟨by rfl, rfl⟩) ?_ ?_
                rotate_left
                · simp only [Act.put, List.setIfInBounds_toArray, List.set_cons_zero, List.set_cons_succ, i64_w, i32_w]
                  rfl
                refine pure_ (i := 11) (N := some 124) (v := undef) (a' := ?_) #[true, true, true, true, true, true, true, true, true, true, true, true, false, false, false, false, false, false, false] rfl rfl (any_of HT_.out (by kernel_rfl)) (fun _ _ _ h => h) (Or.inr ⟨by rfl, rfl⟩) ?_ ?_
                rotate_left
                · simp only [Act.put, List.setIfInBounds_toArray, List.set_cons_zero, List.set_cons_succ, i64_w, i32_w]
                  rfl
                refine pure_ (i := 12) (N := some 125) (v := undef) (a' := ?_) #[true, true, true, true, true, true, true, true, true, true, true, true, true, false, false, false, false, false, false] rfl rfl (any_of HT_.out (by kernel_rfl)) (fun _ _ _ h => h) (Or.inr ⟨by rfl, rfl⟩) ?_ ?_
                rotate_left
                · simp only [Act.put, List.setIfInBounds_toArray, List.set_cons_zero, List.set_cons_succ, i64_w, i32_w]
                  rfl
                refine pure_ (i := 13) (N := some 126) (v := undef) (a' := ?_) #[true, true, true, true, true, true, true, true, true, true, true, true, true, true, false, false, false, false, false] rfl rfl (any_of HT_.out (by kernel_rfl)) (fun _ _ _ h => h) (Or.inr ⟨by rfl, rfl⟩) ?_ ?_
                rotate_left
                · simp only [Act.put, List.setIfInBounds_toArray, List.set_cons_zero, List.set_cons_succ, i64_w, i32_w]
                  rfl
                refine pure_ (i := 14) (N := some 127) (v := undef) (a' := ?_) #[true, true, true, true, true, true, true, true, true, true, true, true, true, true, true, false, false, false, false] rfl rfl (any_of HT_.out (by kernel_rfl)) (fun _ _ _ h => h) (Or.inr ⟨by rfl, rfl⟩) ?_ ?_
                rotate_left
                · simp only [Act.put, List.setIfInBounds_toArray, List.set_cons_zero, List.set_cons_succ, i64_w, i32_w]
                  rfl
                refine pure_ (i := 15) (N := some 128) (v := undef) (a' := ?_) #[true, true, true, true, true, true, true, true, true, true, true, true, true, true, true, true, false, false, false] rfl rfl (any_of HT_.out (by kernel_rfl)) (fun _ _ _ h => h) (Or.inr ⟨by rfl, rfl⟩) ?_ ?_
                rotate_left
                · simp only [Act.put, List.setIfInBounds_toArray, List.set_cons_zero, List.set_cons_succ, i64_w, i32_w]
                  rfl
                refine pure_ (i := 16) (N := some 129) (v := undef) (a' := ?_) #[true, true, true, true, true, true, true, true, true, true, true, true, true, true, true, true, true, false, false] rfl rfl (any_of HT_.out (by kernel_rfl)) (fun _ _ _ h => h) (Or.inr ⟨by rfl, rfl⟩) ?_ ?_
                rotate_left
                · simp only [Act.put, List.setIfInBounds_toArray, List.set_cons_zero, List.set_cons_succ, i64_w, i32_w]
                  rfl
                refine pure_ (i := 17) (N := some 130) (v := undef) (a' := ?_) #[true, true, true, true, true, true, true, true, true, true, true, true, true, true, true, true, true, true, false] rfl rfl (any_of HT_.out (by kernel_rfl)) (fun _ _ _ h => h) (Or.inr ⟨by rfl, rfl⟩) ?_ ?_
                rotate_left
                · simp only [Act.put, List.setIfInBounds_toArray, List.set_cons_zero, List.set_cons_succ, i64_w, i32_w]
                  rfl
                refine pure_ (i := 18) (N := some 131) (v := ?_) (a' := ?_) #[true, true, true, true, true, true, true, true, true, true, true, true, true, true, true, true, true, true, true] rfl rfl (any_of HT_.out (by kernel_rfl)) (fun _ _ _ h => h) (Or.inl ⟨by rfl, ?_⟩) ?_ ?_
                rotate_left
                · intro w'
                  go_simp
                  with_reducible rfl
                rotate_left
                · simp only [Act.put, List.setIfInBounds_toArray, List.set_cons_zero, List.set_cons_succ, i64_w, i32_w]
                  rfl
                refine done_ (done_of HT_.out (by kernel_rfl)) ?_
                have hcz101_0 : w100.cell? ⟨gb460, 0, none⟩ = some (.int .i64 x461000_2) := (blk_cell BK460.out 0).trans rfl
                have hcz101_1 : w100.cell? ⟨gb460, 1, none⟩ = some (.bool x461001_2) := (blk_cell BK460.out 1).trans rfl
                have hcz101_2 : w100.cell? ⟨gb460, 2, none⟩ = some (.slice none 0 0) := (blk_cell BK460.out 2).trans rfl
                have hcz101_3 : w100.cell? ⟨gb460, 3, none⟩ = some (.slice none 0 0) := (blk_cell BK460.out 3).trans rfl
                have hfz101_0 := blk_frozen BK460.out 0
                have hfz101_1 := blk_frozen BK460.out 1
                have hfz101_2 := blk_frozen BK460.out 2
                have hfz101_3 := blk_frozen BK460.out 3
                try go_wp2
                refine bodyPost_ret (results_ctt rfl _ _ gb460 36 #[.int .i64 0, .bool false, .slice none 0 0, .slice none 0 0] (0, 0) _ rfl (by (with_reducible repeat (first | refine blk_drewN ?_ _ | refine blk_drew ?_ | refine blk_alloc ?_ _)); refine blk_put (cs := #[.int .i64 0, .bool false, .slice none 0 0, .slice none 0 0]) ?_ 3 _ rfl; (with_reducible repeat (first | refine blk_drewN ?_ _ | refine blk_drew ?_ | refine blk_alloc ?_ _)); refine blk_put (cs := #[.int .i64 0, .bool false, .slice none 0 0, .slice none 0 0]) ?_ 2 _ rfl; (with_reducible repeat (first | refine blk_drewN ?_ _ | refine blk_drew ?_ | refine blk_alloc ?_ _)); refine blk_put (cs := #[.int .i64 0, .bool x461001_2, .slice none 0 0, .slice none 0 0]) ?_ 1 _ rfl; (with_reducible repeat (first | refine blk_drewN ?_ _ | refine blk_drew ?_ | refine blk_alloc ?_ _)); refine blk_put (cs := #[.int .i64 x461000_2, .bool x461001_2, .slice none 0 0, .slice none 0 0]) ?_ 0 _ rfl; (with_reducible repeat (first | refine blk_drewN ?_ _ | refine blk_drew ?_ | refine blk_alloc ?_ _)); exact BK460.out) Try.underlying36 rfl (by kernel_rfl)) rfl ?_
                exact ⟨_, _, _, by first | rfl | (simp [errW_none, errW_some] <;> rfl) | (simp [*, errW_none, errW_some] <;> rfl), by first | exact Kd.R_nil _ _ _ _ _ | exact Kd.N_nil _ _ _ _ _ | exact Kd.V_nil _ _ _ _ _ | exact Kd.Q_nil _ _ _ _ _ | exact Kd.S_nil _ _ _ _ _, by first | exact Kd.S_nil _ _ _ _ _ | exact Kd.N_nil _ _ _ _ _ | exact Kd.V_nil _ _ _ _ _ | exact Kd.Q_nil _ _ _ _ _ | exact Kd.R_nil _ _ _ _ _, by first | exact Kd.R_nil _ _ _ _ _ | exact Kd.N_nil _ _ _ _ _ | exact Kd.V_nil _ _ _ _ _ | exact Kd.Q_nil _ _ _ _ _ | exact Kd.S_nil _ _ _ _ _, by repeat (first | (with_reducible first | exact HB.out | apply below_alloc | apply pw_below_drewN | apply below_drew1 | refine below_set ?_ GE460.out | refine below_set ?_ GE483.out) | exact HB.out)⟩
end Go.Proofs.Ytfbjabpjfalmlaa.P
