-- Written by wip/gprint.py, a program of this session over the kit's print; Lean checks it.
import Derived.Test.YtbenenpkbdldmaaPx0
import Derived.Test.YtbenenpkbdldmaaPx9
import Derived.Test.YtbenenpkbdldmaaPx19
import Derived.Test.YtbenenpkbdldmaaPx21
import Derived.Test.YtbenenpkbdldmaaPx26
import Derived.Test.YtbenenpkbdldmaaPx27
import Derived.Test.YtbenenpkbdldmaaPx28
import Derived.Test.YtbenenpkbdldmaaPx29
import Derived.Test.YtbenenpkbdldmaaPx30
import Derived.Test.YtbenenpkbdldmaaPx31
namespace Go.Proofs.Ytbenenpkbdldmaa.P
open Go.RowKit Go.Proofs.YtbenenpkbdldmaaW.PrintWords Go.Proofs.YtbenenpkbdldmaaW.PrintLast Go.Proofs.YtbenenpkbdldmaaW.PrintMore
attribute [local go_sem] max2_int min2_int max_two min_two max_three min_three max_four min_four   -- for this text's walks alone
set_option linter.unusedVariables false
set_option linter.unusedSimpArgs false

/-! ### banksmanlaw04_WalGoes: function 5 -/
mutual
def banksmanlaw04_WalGoes.l0 : Nat → List (List Int) → List Int → List Int → Bool → List (List Int) → Int → Int → List Int → Int → Option (Bool)
  | 0, _, _, _, _, _, _, _, _, _ => none
  | k + 1, x0, x1, x2, x7, x9, x10, x11, x344000, x344001 => if x11 < (x0.length : Int) then (if x11 < (x1.length : Int) then (banksmanlaw04_WalGoes.j1 k x0 x1 x2 x7 x9 x10 x11 (decide (x11 < 30)) x344000 x344001) else (banksmanlaw04_WalGoes.j1 k x0 x1 x2 x7 x9 x10 x11 false x344000 x344001)) else (banksmanlaw04_WalGoes.j1 k x0 x1 x2 x7 x9 x10 x11 false x344000 x344001)
def banksmanlaw04_WalGoes.j1 : Nat → List (List Int) → List Int → List Int → Bool → List (List Int) → Int → Int → Bool → List Int → Int → Option (Bool)
  | 0, _, _, _, _, _, _, _, _, _, _ => none
  | k + 1, x0, x1, x2, x7, x9, x10, x11, x30, x344000, x344001 => if x30 = true then (if 0 ≤ x11 then (if x11 < (x0.length : Int) then (if ((rd_L1 x0 x11).length : Int) > 100 then (some x7) else (if x11 < (x1.length : Int) then (if (Int.tmod (rd x1 x11) 4) < 2 then ((wal_Append.f x344000 x344001 (([rd_L1 x0 x11] : List (List Int)))).bind fun bt350 => (if bt350.2.2 = 0 then (if x9.length < 5864062014805 then (banksmanlaw04_WalGoes.j2 k x0 x1 x2 x7 (x9 ++ [rd_L1 x0 x11]) x10 x11 bt350.1 bt350.2.1) else (none)) else (some false))) else (if (Int.tmod (rd x1 x11) 4) = 2 then ((wal_Sync.f x344000 x344001).bind fun bt361 => (banksmanlaw04_WalGoes.j2 k x0 x1 x2 x7 x9 (x9.length : Int) x11 bt361.1 bt361.2)) else (if x11 < (x2.length : Int) then ((wal_Crash.f x344000 x344001 (wrap64 (rd x2 x11))).bind fun bt366 => ((wal_Trim.f bt366.1 bt366.2).bind fun bt370 => ((wal_Texts.f bt370.1 bt370.2).bind fun t374 => (if (t374.length : Int) < x10 then (some false) else (if (t374.length : Int) > (x9.length : Int) then (some false) else (if 0 ≤ (t374.length : Int) then (if (t374.length : Int) ≤ (x9.length : Int) then (banksmanlaw04_WalGoes.j2 k x0 x1 x2 x7 (x9.take ((t374.length : Int) : Int).toNat) (t374.length : Int) x11 bt370.1 bt370.2) else (none)) else (none))))))) else (banksmanlaw04_WalGoes.j2 k x0 x1 x2 x7 x9 x10 x11 x344000 x344001)))) else (none))) else (none)) else (none)) else (some x7)
def banksmanlaw04_WalGoes.j2 : Nat → List (List Int) → List Int → List Int → Bool → List (List Int) → Int → Int → List Int → Int → Option (Bool)
  | 0, _, _, _, _, _, _, _, _, _ => none
  | k + 1, x0, x1, x2, x7, x9, x10, x11, x344000, x344001 => (wal_Texts.f x344000 x344001).bind fun t380 => ((banksmanref03_Same.f k t380 x9).bind fun t383 => (if t383 = true then ((wal_Check.f x344000 x344001).bind fun t384 => (if t384 = true then (banksmanlaw04_WalGoes.l0 k x0 x1 x2 x7 x9 x10 (wrap64 (x11 + 1)) x344000 x344001) else (some false))) else (some false)))
end
def banksmanlaw04_WalGoes.f (k : Nat) (l0 : List (List Int)) (l1 : List Int) (l2 : List Int) : Option (Bool) := (banksmanlaw04_awake.f).bind fun t342 => (banksmanlaw04_WalGoes.l0 k l0 l1 l2 t342 ([] : List (List Int)) 0 0 ([] : List Int) 0)
theorem banksmanlaw04_WalGoes.mono_l : ∀ k, (∀ y0 y1 y2 y3 y4 y5 y6 y7 y8, LeO (banksmanlaw04_WalGoes.l0 k y0 y1 y2 y3 y4 y5 y6 y7 y8) (banksmanlaw04_WalGoes.l0 (k + 1) y0 y1 y2 y3 y4 y5 y6 y7 y8)) ∧ (∀ y0 y1 y2 y3 y4 y5 y6 y7 y8 y9, LeO (banksmanlaw04_WalGoes.j1 k y0 y1 y2 y3 y4 y5 y6 y7 y8 y9) (banksmanlaw04_WalGoes.j1 (k + 1) y0 y1 y2 y3 y4 y5 y6 y7 y8 y9)) ∧ (∀ y0 y1 y2 y3 y4 y5 y6 y7 y8, LeO (banksmanlaw04_WalGoes.j2 k y0 y1 y2 y3 y4 y5 y6 y7 y8) (banksmanlaw04_WalGoes.j2 (k + 1) y0 y1 y2 y3 y4 y5 y6 y7 y8))
  | 0 => ⟨fun _ _ _ _ _ _ _ _ _ r h => by simp [banksmanlaw04_WalGoes.l0] at h, fun _ _ _ _ _ _ _ _ _ _ r h => by simp [banksmanlaw04_WalGoes.j1] at h, fun _ _ _ _ _ _ _ _ _ r h => by simp [banksmanlaw04_WalGoes.j2] at h⟩
  | k + 1 => by
    obtain ⟨ih0, ih1, ih2⟩ := banksmanlaw04_WalGoes.mono_l k
    refine ⟨?_, ?_, ?_⟩
    · intro y0 y1 y2 y3 y4 y5 y6 y7 y8
      unfold banksmanlaw04_WalGoes.l0
      repeat' first
      | (with_reducible exact ih0 _ _ _ _ _ _ _ _ _)
      | (with_reducible exact ih1 _ _ _ _ _ _ _ _ _ _)
      | (with_reducible exact ih2 _ _ _ _ _ _ _ _ _)
      | (with_reducible exact banksmanref03_Same.mono _ _ _)
      | (with_reducible exact LeO.refl _)
      | (with_reducible exact LeO.none _)
      | (with_reducible refine LeO.ite ?_ ?_)
      | (with_reducible refine LeO.bind ?_ (fun _ => ?_))
      | exact ih0 _ _ _ _ _ _ _ _ _
      | exact ih1 _ _ _ _ _ _ _ _ _ _
      | exact ih2 _ _ _ _ _ _ _ _ _
      | exact banksmanref03_Same.mono _ _ _
      | exact LeO.none _
      | refine LeO.ite ?_ ?_
      | refine LeO.bind ?_ (fun _ => ?_)
    · intro y0 y1 y2 y3 y4 y5 y6 y7 y8 y9
      unfold banksmanlaw04_WalGoes.j1
      repeat' first
      | (with_reducible exact ih0 _ _ _ _ _ _ _ _ _)
      | (with_reducible exact ih1 _ _ _ _ _ _ _ _ _ _)
      | (with_reducible exact ih2 _ _ _ _ _ _ _ _ _)
      | (with_reducible exact banksmanref03_Same.mono _ _ _)
      | (with_reducible exact LeO.refl _)
      | (with_reducible exact LeO.none _)
      | (with_reducible refine LeO.ite ?_ ?_)
      | (with_reducible refine LeO.bind ?_ (fun _ => ?_))
      | exact ih0 _ _ _ _ _ _ _ _ _
      | exact ih1 _ _ _ _ _ _ _ _ _ _
      | exact ih2 _ _ _ _ _ _ _ _ _
      | exact banksmanref03_Same.mono _ _ _
      | exact LeO.none _
      | refine LeO.ite ?_ ?_
      | refine LeO.bind ?_ (fun _ => ?_)
    · intro y0 y1 y2 y3 y4 y5 y6 y7 y8
      unfold banksmanlaw04_WalGoes.j2
      repeat' first
      | (with_reducible exact ih0 _ _ _ _ _ _ _ _ _)
      | (with_reducible exact ih1 _ _ _ _ _ _ _ _ _ _)
      | (with_reducible exact ih2 _ _ _ _ _ _ _ _ _)
      | (with_reducible exact banksmanref03_Same.mono _ _ _)
      | (with_reducible exact LeO.refl _)
      | (with_reducible exact LeO.none _)
      | (with_reducible refine LeO.ite ?_ ?_)
      | (with_reducible refine LeO.bind ?_ (fun _ => ?_))
      | exact ih0 _ _ _ _ _ _ _ _ _
      | exact ih1 _ _ _ _ _ _ _ _ _ _
      | exact ih2 _ _ _ _ _ _ _ _ _
      | exact banksmanref03_Same.mono _ _ _
      | exact LeO.none _
      | refine LeO.ite ?_ ?_
      | refine LeO.bind ?_ (fun _ => ?_)
theorem banksmanlaw04_WalGoes.mono : ∀ a0 a1 a2 k, LeO (banksmanlaw04_WalGoes.f k a0 a1 a2) (banksmanlaw04_WalGoes.f (k + 1) a0 a1 a2) := by
  intro a0 a1 a2 k
  obtain ⟨ih0, ih1, ih2⟩ := banksmanlaw04_WalGoes.mono_l k
  unfold banksmanlaw04_WalGoes.f
  repeat' first
      | (with_reducible exact ih0 _ _ _ _ _ _ _ _ _)
      | (with_reducible exact ih1 _ _ _ _ _ _ _ _ _ _)
      | (with_reducible exact ih2 _ _ _ _ _ _ _ _ _)
      | (with_reducible exact banksmanref03_Same.mono _ _ _)
      | (with_reducible exact LeO.refl _)
      | (with_reducible exact LeO.none _)
      | (with_reducible refine LeO.ite ?_ ?_)
      | (with_reducible refine LeO.bind ?_ (fun _ => ?_))
      | exact ih0 _ _ _ _ _ _ _ _ _
      | exact ih1 _ _ _ _ _ _ _ _ _ _
      | exact ih2 _ _ _ _ _ _ _ _ _
      | exact banksmanref03_Same.mono _ _ _
      | exact LeO.none _
      | refine LeO.ite ?_ ?_
      | refine LeO.bind ?_ (fun _ => ?_)
def banksmanlaw04_WalGoes.T11 : Bool × List (List Nat × List Nat) := (true, [([], []), ([], []), ([], []), ([1, 2], [1, 2]), ([3], [3]), ([4], [4]), ([0, 5], [0, 5]), ([6], [6]), ([7], [7]), ([7], [7]), ([], []), ([10, 8, 6, 0, 1, 2, 3, 4, 5, 6, 7, 8, 10], [8, 10]), ([9, 11, 0, 1, 2, 3, 4, 5, 6, 7, 8, 9, 10, 11], [9])])
def banksmanlaw04_WalGoes.B11 : List Nat := [0, 0, 0, 6, 14, 30, 63, 127, 255, 255, 0, 1535, 4095]
theorem banksmanlaw04_WalGoes.tab11 : rtab .any (opsOf Try.f5 11) = banksmanlaw04_WalGoes.T11 := by kernel_rfl
theorem banksmanlaw04_WalGoes.bits11 : waitsOk banksmanlaw04_WalGoes.T11.2 banksmanlaw04_WalGoes.B11 = true := by kernel_rfl
def banksmanlaw04_WalGoes.T20 : Bool × List (List Nat × List Nat) := (true, [([], []), ([], []), ([], []), ([1, 2], [1, 2]), ([3], [3]), ([4], [4]), ([0, 5], [0, 5]), ([6, 6], [6]), ([7, 7, 0, 1, 2, 3, 4, 5, 6, 7], [7])])
def banksmanlaw04_WalGoes.B20 : List Nat := [0, 0, 0, 6, 14, 30, 63, 127, 255]
theorem banksmanlaw04_WalGoes.tab20 : rtab .any (opsOf Try.f5 20) = banksmanlaw04_WalGoes.T20 := by kernel_rfl
theorem banksmanlaw04_WalGoes.bits20 : waitsOk banksmanlaw04_WalGoes.T20.2 banksmanlaw04_WalGoes.B20 = true := by kernel_rfl
set_option maxHeartbeats 8000000 in
set_option maxRecDepth 100000 in
theorem banksmanlaw04_WalGoes.calls (k : Nat) (P0_ : Nat → Prop) (A0 : Option Addr) (c0 : Nat) (l0 : List (List Int)) (A1 : Option Addr) (c1 : Nat) (l1 : List Int) (A2 : Option Addr) (c2 : Nat) (l2 : List Int) (r : Bool) (w : World) (hs0 : Kd.V (Kd.slice 5 (Kd.int .u8)) 23 w w.heap.size (fun k_ => P0_ k_) (.slice A0 l0.length c0) l0) (hr1 : Kd.C (Kd.int .u8) w A1 l1.length l1) (hc1 : l1.length ≤ c1) (hr2 : Kd.C (Kd.int .u16) w A2 l2.length l2) (hc2 : l2.length ≤ c2) (h : banksmanlaw04_WalGoes.f k l0 l1 l2 = some r) (HTr_ : r = true) :
    Calls Try.prog 5 #[.slice A0 l0.length c0, .slice A1 l1.length c1, .slice A2 l2.length c2] w fun e w' => e = .returned (.bool r) ∧ Below w.heap.size w w' := by
  have hu26 := Try.underlying26
  have HO0 := Aside0.mk (show Kd.V (Kd.slice 5 (Kd.int .u8)) 23 w w.heap.size (fun k_ => (P0_ k_ ∨ w.heap.size ≤ k_)) (.slice A0 l0.length c0) l0 from Kd.V_mono hs0 (fun k_ hk => .inl hk))
  have HR1 := Aside0.mk hr1
  have HC1 := Aside0.mk hc1
  clear hr1 hc1
  have HR2 := Aside0.mk hr2
  have HC2 := Aside0.mk hc2
  clear hr2 hc2
  have HB := Aside0.mk (Below.refl w.heap.size w)
  have H : ((banksmanlaw04_awake.f).bind fun t342 => (banksmanlaw04_WalGoes.l0 k l0 l1 l2 t342 ([] : List (List Int)) 0 0 ([] : List Int) 0)) = some r := h
  clear h
  replace H := Option.bind_eq_some_iff.mp H
  obtain ⟨t342, A40, H⟩ := H
  replace H : (banksmanlaw04_WalGoes.l0 k l0 l1 l2 t342 ([] : List (List Int)) 0 0 ([] : List Int) 0) = some r := H
  have A4 := Aside0.mk A40
  clear A40
  have H' := Aside0.mk H
  clear H
  go_enter Try.func5, Try.ntmps5
  go_wp2_with (first | ((with_reducible refine gate_callee (f := 8) rfl ?_); refine goesL_ (some 16) rfl rfl Try.func8 (by kernel_rfl) rfl #[] rfl (by (try simp only [List.map_toArray, List.map_cons, List.map_nil]); first | done | rfl | (simp only [List.length_drop, List.length_take]; rfl)) ?_; (with_reducible refine (banksmanlaw04_awake.calls  t342 _ A4.out).mono ?_); rintro e w5 ⟨rfl, hb⟩; refine ⟨_, rfl, ?_⟩; have n0_ := Aside0.mk (Kd.V_below (by (with_reducible repeat (first | apply Kd.V_alloc | apply Kd.V_drewN | apply Kd.V_drew)); exact HO0.out) hb); have n1_ := Aside0.mk (below_step (by repeat (first | (with_reducible first | exact HB.out | apply below_alloc | apply pw_below_drewN | apply below_drew1) | exact HB.out)) hb); clear HO0; clear HB; have HO0 := n0_; have HB := n1_; clear n0_ n1_; (try clear hb); (try clear hb2); (try clear hk); (try clear hi)) | ((with_reducible refine gate_dst (N := 8) rfl ?_); (try (refine gate_guard (by rfl) ?_; dsimp only)); refine box_event ?hg (N := 8) ?hd (cs := #[.slice none 0 0, .int .i64 0]) (t := 26) ?hr ?_; (case hd => rfl); (case hg => rfl); (case hr => first | (go_simp; done) | (go_simp; rfl)); intro gb343 hg w6 hbox hb; have n0_ := Aside0.mk (Kd.V_below (Kd.V_elderB (by (with_reducible repeat (first | apply Kd.V_alloc | apply Kd.V_drewN | apply Kd.V_drew)); exact HO0.out) gb343 (Nat.le_of_eq hg.symm)) hb); have n1_ := Aside0.mk (below_step (by repeat (first | (with_reducible first | exact HB.out | apply below_alloc | apply pw_below_drewN | apply below_drew1) | exact HB.out)) hb); have n2_ := Aside0.mk (hbox); have n3_ := Aside0.mk ((by rw [hg]; exact (below_size (by repeat (first | (with_reducible first | exact HB.out | apply below_alloc | apply pw_below_drewN | apply below_drew1) | exact HB.out))) : w.heap.size ≤ gb343)); have n4_ := Aside0.mk ((by rw [hg]; exact (below_size (by repeat (first | (with_reducible first | exact HB.out | apply below_alloc | apply pw_below_drewN | apply below_drew1) | exact HB.out))) : w.heap.size ≤ gb343)); clear HO0; clear HB; have HO0 := n0_; have HB := n1_; have BK343 := n2_; have GW343 := n3_; have GE343 := n4_; clear n0_ n1_ n2_ n3_ n4_; clear hb hbox hg))
  go_loopg [9, 10, 11] k (fun kq v9 v10 v11 w' => ∃ (x9_1 : List (List Int)) (x10_1 : Int) (x11_1 : Int) (x344000_1 : List Int) (x344001_1 : Int) (u344000 : Value), v10 = .int .i64 x10_1 ∧ v11 = .int .i64 x11_1 ∧ Aside0 (banksmanlaw04_WalGoes.l0 kq l0 l1 l2 t342 x9_1 x10_1 x11_1 x344000_1 x344001_1 = some r) ∧ Aside0 (kq ≤ k) ∧ Aside0 (Kd.V (Kd.slice 5 (Kd.int .u8)) 23 w' w.heap.size (fun k_ => (P0_ k_ ∨ w.heap.size ≤ k_) ∧ some k_ ≠ (v9 : Value).ownBlock ∧ k_ ≠ gb343) (.slice A0 l0.length c0) l0) ∧ Aside0 (Kd.N (Kd.slice 5 (Kd.int .u8)) 23 w' w.heap.size (fun k_ => (P0_ k_ ∨ w.heap.size ≤ k_) ∧ k_ ≠ gb343) v9 x9_1) ∧ Aside0 (Kd.V (Kd.int .u8) 5 w' w.heap.size (fun k_ => (P0_ k_ ∨ w.heap.size ≤ k_) ∧ some k_ ≠ (v9 : Value).ownBlock ∧ k_ ≠ gb343) u344000 x344000_1) ∧ Aside0 (w'.heap[gb343]? = some (.cells #[u344000, .int .i64 x344001_1] 26 (0, 0))) ∧ Aside0 (Below w.heap.size w w'))
  case atStart => exact ⟨(([] : List (List Int))), (0), (0), (([] : List Int)), (0), (.slice none 0 0), (by first | rfl | (simp; done) | (simp [*]; done)), (by first | rfl | (simp; done) | (simp [*]; done)), H', ⟨Nat.le_refl _⟩, ⟨by (with_reducible repeat (first | apply Kd.V_alloc | apply Kd.V_drewN | apply Kd.V_drew)); exact Kd.V_mono HO0.out (fun _ hk => ⟨hk.1, ⟨(by simp [Value.ownBlock]), hk.2⟩⟩)⟩, ⟨by first | exact Kd.S_nil _ _ _ _ _ | exact Kd.N_nil _ _ _ _ _ | exact Kd.V_nil _ _ _ _ _ | exact Kd.Q_nil _ _ _ _ _ | exact Kd.R_nil _ _ _ _ _⟩, ⟨by first | exact Kd.V_nil _ _ _ _ _ | exact Kd.V_mono (Kd.R_V (by first | exact Kd.R_nil _ _ _ _ _ | exact Kd.N_nil _ _ _ _ _ | exact Kd.V_nil _ _ _ _ _ | exact Kd.Q_nil _ _ _ _ _ | exact Kd.S_nil _ _ _ _ _)) (fun k_ hk => by first | exact ⟨(.inr (hk.1)), hk.2⟩ | exact (.inr (hk)))⟩, ⟨by (with_reducible repeat (first | refine blk_drewN ?_ _ | refine blk_drew ?_ | refine blk_alloc ?_ _)); exact BK343.out⟩, ⟨by repeat (first | (with_reducible first | exact HB.out | apply below_alloc | apply pw_below_drewN | apply below_drew1 | refine below_set ?_ GE343.out) | exact HB.out)⟩⟩
  case round =>
    clear H'
    try clear c1
    try clear c2
    try clear p2
    try clear c5
    obtain ⟨x9_1, x10_1, x11_1, x344000_1, x344001_1, u344000, rfl, rfl, HA, HK1, HO_0, HO_9, HO_344000, BK343, HB⟩ := hrel
    cases gk with
    | zero => exact absurd HA.out (by simp [banksmanlaw04_WalGoes.l0])
    | succ k1 =>
      have H := HA.out
      clear HA
      simp only [banksmanlaw04_WalGoes.l0] at H
      have HC7 := Aside0.mk H
      clear H
      go_upto_region 6 with (fail)
      go_cut [30] (fun v30 wc => ∃ (kq : Nat) (x30_6 : Bool), v30 = .bool x30_6 ∧ Aside0 (banksmanlaw04_WalGoes.j1 kq l0 l1 l2 t342 x9_1 x10_1 x11_1 x30_6 x344000_1 x344001_1 = some r) ∧ Aside0 (kq ≤ k1) ∧ Aside0 (Kd.V (Kd.slice 5 (Kd.int .u8)) 23 wc w.heap.size (fun k_ => (P0_ k_ ∨ w.heap.size ≤ k_) ∧ some k_ ≠ (u9 : Value).ownBlock ∧ k_ ≠ gb343) (.slice A0 l0.length c0) l0) ∧ Aside0 (Kd.N (Kd.slice 5 (Kd.int .u8)) 23 wc w.heap.size (fun k_ => (P0_ k_ ∨ w.heap.size ≤ k_) ∧ k_ ≠ gb343) u9 x9_1) ∧ Aside0 (Kd.V (Kd.int .u8) 5 wc w.heap.size (fun k_ => (P0_ k_ ∨ w.heap.size ≤ k_) ∧ some k_ ≠ (u9 : Value).ownBlock ∧ k_ ≠ gb343) u344000 x344000_1) ∧ Aside0 (wc.heap[gb343]? = some (.cells #[u344000, .int .i64 x344001_1] 26 (0, 0))) ∧ Aside0 (Below w.heap.size w wc))
      case first =>
        have H := HC7.out
        clear HC7
        by_cases c8 : x11_1 < (l0.length : Int)
        · rw [if_pos c8] at H
          have c8b0 : decide (x11_1 < (l0.length : Int)) = true := decide_eq_true c8
          clear c8
          (first | rw [c8b0] | (simp only [i64_w, i32_w]; rw [c8b0]) | skip)
          by_cases c9 : x11_1 < (l1.length : Int)
          · rw [if_pos c9] at H
            have c9b0 : decide (x11_1 < (l1.length : Int)) = true := decide_eq_true c9
            clear c9
            have H' := Aside0.mk H
            clear H
            go_wp2
            go_meet
            case rel => exact ⟨_, (decide (x11_1 < 30)), (by first | rfl | (simp; done) | (simp [*]; done)), H', ⟨by have := HK1.out; first | omega | exact Nat.le_refl _⟩, ⟨by (with_reducible repeat (first | apply Kd.V_alloc | apply Kd.V_drewN | apply Kd.V_drew)); exact HO_0.out⟩, ⟨by (with_reducible repeat (first | apply Kd.N_alloc | apply Kd.N_drewN | apply Kd.N_drew)); exact HO_9.out⟩, ⟨by (with_reducible repeat (first | apply Kd.V_alloc | apply Kd.V_drewN | apply Kd.V_drew)); exact HO_344000.out⟩, ⟨by (with_reducible repeat (first | refine blk_drewN ?_ _ | refine blk_drew ?_ | refine blk_alloc ?_ _)); exact BK343.out⟩, ⟨by repeat (first | (with_reducible first | exact HB.out | apply below_alloc | apply pw_below_drewN | apply below_drew1 | refine below_set ?_ GE343.out) | exact HB.out)⟩⟩
          · rw [if_neg c9] at H
            have c9b0 : decide (x11_1 < (l1.length : Int)) = false := decide_eq_false c9
            clear c9
            have H' := Aside0.mk H
            clear H
            go_wp2
            go_meet
            case rel => exact ⟨_, (false), (by first | rfl | (simp; done) | (simp [*]; done)), H', ⟨by have := HK1.out; first | omega | exact Nat.le_refl _⟩, ⟨by (with_reducible repeat (first | apply Kd.V_alloc | apply Kd.V_drewN | apply Kd.V_drew)); exact HO_0.out⟩, ⟨by (with_reducible repeat (first | apply Kd.N_alloc | apply Kd.N_drewN | apply Kd.N_drew)); exact HO_9.out⟩, ⟨by (with_reducible repeat (first | apply Kd.V_alloc | apply Kd.V_drewN | apply Kd.V_drew)); exact HO_344000.out⟩, ⟨by (with_reducible repeat (first | refine blk_drewN ?_ _ | refine blk_drew ?_ | refine blk_alloc ?_ _)); exact BK343.out⟩, ⟨by repeat (first | (with_reducible first | exact HB.out | apply below_alloc | apply pw_below_drewN | apply below_drew1 | refine below_set ?_ GE343.out) | exact HB.out)⟩⟩
        · rw [if_neg c8] at H
          have c8b0 : decide (x11_1 < (l0.length : Int)) = false := decide_eq_false c8
          clear c8
          (first | rw [c8b0] | (simp only [i64_w, i32_w]; rw [c8b0]) | skip)
          have H' := Aside0.mk H
          clear H
          go_wp2
          go_meet
          case rel => exact ⟨_, (false), (by first | rfl | (simp; done) | (simp [*]; done)), H', ⟨by have := HK1.out; first | omega | exact Nat.le_refl _⟩, ⟨by (with_reducible repeat (first | apply Kd.V_alloc | apply Kd.V_drewN | apply Kd.V_drew)); exact HO_0.out⟩, ⟨by (with_reducible repeat (first | apply Kd.N_alloc | apply Kd.N_drewN | apply Kd.N_drew)); exact HO_9.out⟩, ⟨by (with_reducible repeat (first | apply Kd.V_alloc | apply Kd.V_drewN | apply Kd.V_drew)); exact HO_344000.out⟩, ⟨by (with_reducible repeat (first | refine blk_drewN ?_ _ | refine blk_drew ?_ | refine blk_alloc ?_ _)); exact BK343.out⟩, ⟨by repeat (first | (with_reducible first | exact HB.out | apply below_alloc | apply pw_below_drewN | apply below_drew1 | refine below_set ?_ GE343.out) | exact HB.out)⟩⟩
      case rest =>
        clear HC7
        try clear c1
        try clear c2
        try clear p2
        try clear c5
        try clear c8
        try clear c8b0
        try clear c9
        try clear c9b0
        try clear p2
        obtain ⟨kq, x30_6, rfl, HA, HJ6, HO_0, HO_9, HO_344000, BK343, HB⟩ := hcut
        cases kq with
        | zero => exact absurd HA.out (by simp [banksmanlaw04_WalGoes.j1])
        | succ kj6 =>
          have H := HA.out
          clear HA
          simp only [banksmanlaw04_WalGoes.j1] at H
          by_cases c10 : x30_6 = true
          · subst c10
            have H1 : (if 0 ≤ x11_1 then (if x11_1 < (l0.length : Int) then (if ((rd_L1 l0 x11_1).length : Int) > 100 then (some t342) else (if x11_1 < (l1.length : Int) then (if (Int.tmod (rd l1 x11_1) 4) < 2 then ((wal_Append.f x344000_1 x344001_1 (([rd_L1 l0 x11_1] : List (List Int)))).bind fun bt350 => (if bt350.2.2 = 0 then (if x9_1.length < 5864062014805 then (banksmanlaw04_WalGoes.j2 kj6 l0 l1 l2 t342 (x9_1 ++ [rd_L1 l0 x11_1]) x10_1 x11_1 bt350.1 bt350.2.1) else (none)) else (some false))) else (if (Int.tmod (rd l1 x11_1) 4) = 2 then ((wal_Sync.f x344000_1 x344001_1).bind fun bt361 => (banksmanlaw04_WalGoes.j2 kj6 l0 l1 l2 t342 x9_1 (x9_1.length : Int) x11_1 bt361.1 bt361.2)) else (if x11_1 < (l2.length : Int) then ((wal_Crash.f x344000_1 x344001_1 (wrap64 (rd l2 x11_1))).bind fun bt366 => ((wal_Trim.f bt366.1 bt366.2).bind fun bt370 => ((wal_Texts.f bt370.1 bt370.2).bind fun t374 => (if (t374.length : Int) < x10_1 then (some false) else (if (t374.length : Int) > (x9_1.length : Int) then (some false) else (if 0 ≤ (t374.length : Int) then (if (t374.length : Int) ≤ (x9_1.length : Int) then (banksmanlaw04_WalGoes.j2 kj6 l0 l1 l2 t342 (x9_1.take ((t374.length : Int) : Int).toNat) (t374.length : Int) x11_1 bt370.1 bt370.2) else (none)) else (none))))))) else (banksmanlaw04_WalGoes.j2 kj6 l0 l1 l2 t342 x9_1 x10_1 x11_1 x344000_1 x344001_1)))) else (none))) else (none)) else (none)) = some r := by rw [if_pos rfl] at H; exact H
            clear H
            have H := H1
            clear H1
            by_cases c11 : 0 ≤ x11_1
            · rw [if_pos c11] at H
              have c11b0 : decide (0 ≤ x11_1) = true := decide_eq_true c11
              clear c11
              by_cases c12 : x11_1 < (l0.length : Int)
              · rw [if_pos c12] at H
                have c12b0 : decide (x11_1 < (l0.length : Int)) = true := decide_eq_true c12
                clear c12
                by_cases c13 : ((rd_L1 l0 x11_1).length : Int) > 100
                · rw [if_pos c13] at H
                  have c13b0 : decide (100 < ((rd_L1 l0 x11_1).length : Int)) = true := decide_eq_true c13
                  have c13b1 : decide (100 < (rd_L1 l0 x11_1).length) = true := decide_eq_true (by omega)
                  clear c13
                  obtain rfl := Option.some.inj H
                  have p344 : 0 ≤ (x11_1 : Int) := of_decide_eq_true (by first | (with_reducible assumption) | assumption)
                  have q344 : x11_1 < (l0.length : Int) := of_decide_eq_true (by first | (with_reducible assumption) | assumption)
                  obtain ⟨ad344, A344_0, c344_0, e344, hx344_0, hl344_0, hi344_0⟩ := at_L1 (Kd.V_reads' HO_0.out).2.2 x11_1 p344 q344
                  cases e344
                  obtain ⟨ce344, hce344, hMe344, hcc344⟩ := Kd.V_get HO_0.out [] x11_1 p344 (by first | exact q344 | exact of_decide_eq_true (by first | (with_reducible assumption) | assumption) | (have e_ := (Kd.V_reads' HO_0.out).1; omega))
                  obtain ⟨ua344_0, uc344_0, rfl, ul344_0, ge344_0⟩ := Kd.FK_slice_open hMe344
                  have hv344_0 := hcc344 0 _ rfl
                  rw [Nat.add_zero, show ((Kd.slice 5 (Kd.int .u8))).sz = 1 from rfl, Nat.mul_one] at hv344_0
                  replace hv344_0 := Option.some.inj (hv344_0.symm.trans hx344_0)
                  injection hv344_0 with hva_ hvn_ hvc_
                  rw [hva_] at ge344_0
                  rw [hvc_] at ul344_0
                  have HL344_0 := Aside0.mk (show Kd.V (Kd.int .u8) 5 _ w.heap.size _ _ (rd_L1 l0 x11_1) from Kd.V_mk ul344_0 ge344_0)
                  clear hva_ hvn_ hvc_ ge344_0 ul344_0
                  clear hcc344 hce344
                  have HR344_0 := Aside0.mk hi344_0
                  have HC344_0 := Aside0.mk hl344_0
                  clear hi344_0 hl344_0
                  replace p344 := eq_true p344
                  replace q344 := eq_true q344
                  go_wp2
                  go_ret
                  exact ⟨by first | rfl | (simp [errW_none, errW_some] <;> rfl) | (simp [*, errW_none, errW_some] <;> rfl), by repeat (first | (with_reducible first | exact HB.out | apply below_alloc | apply pw_below_drewN | apply below_drew1 | refine below_set ?_ GE343.out) | exact HB.out)⟩
                · rw [if_neg c13] at H
                  have c13b0 : decide (100 < ((rd_L1 l0 x11_1).length : Int)) = false := decide_eq_false c13
                  have c13b1 : decide (100 < (rd_L1 l0 x11_1).length) = false := decide_eq_false (by omega)
                  clear c13
                  by_cases c14 : x11_1 < (l1.length : Int)
                  · rw [if_pos c14] at H
                    have c14b0 : decide (x11_1 < (l1.length : Int)) = true := decide_eq_true c14
                    clear c14
                    have HC15 := Aside0.mk H
                    clear H
                    have p344 : 0 ≤ (x11_1 : Int) := of_decide_eq_true (by first | (with_reducible assumption) | assumption)
                    have q344 : x11_1 < (l0.length : Int) := of_decide_eq_true (by first | (with_reducible assumption) | assumption)
                    obtain ⟨ad344, A344_0, c344_0, e344, hx344_0, hl344_0, hi344_0⟩ := at_L1 (Kd.V_reads' HO_0.out).2.2 x11_1 p344 q344
                    cases e344
                    obtain ⟨ce344, hce344, hMe344, hcc344⟩ := Kd.V_get HO_0.out [] x11_1 p344 (by first | exact q344 | exact of_decide_eq_true (by first | (with_reducible assumption) | assumption) | (have e_ := (Kd.V_reads' HO_0.out).1; omega))
                    obtain ⟨ua344_0, uc344_0, rfl, ul344_0, ge344_0⟩ := Kd.FK_slice_open hMe344
                    have hv344_0 := hcc344 0 _ rfl
                    rw [Nat.add_zero, show ((Kd.slice 5 (Kd.int .u8))).sz = 1 from rfl, Nat.mul_one] at hv344_0
                    replace hv344_0 := Option.some.inj (hv344_0.symm.trans hx344_0)
                    injection hv344_0 with hva_ hvn_ hvc_
                    rw [hva_] at ge344_0
                    rw [hvc_] at ul344_0
                    have HL344_0 := Aside0.mk (show Kd.V (Kd.int .u8) 5 _ w.heap.size _ _ (rd_L1 l0 x11_1) from Kd.V_mk ul344_0 ge344_0)
                    clear hva_ hvn_ hvc_ ge344_0 ul344_0
                    clear hcc344 hce344
                    have HR344_0 := Aside0.mk hi344_0
                    have HC344_0 := Aside0.mk hl344_0
                    clear hi344_0 hl344_0
                    replace p344 := eq_true p344
                    replace q344 := eq_true q344
                    have p345 : 0 ≤ (x11_1 : Int) := of_decide_eq_true (by first | (with_reducible assumption) | assumption)
                    have q345 : x11_1 < (l1.length : Int) := of_decide_eq_true (by first | (with_reducible assumption) | assumption)
                    obtain ⟨ad345, e345, hx345_0⟩ := Kd.at_int HR1.out x11_1 p345 q345
                    cases e345
                    replace hx345_0 := (HB.out.cell (World.block_lt_of_cell? w _ hx345_0)).trans hx345_0
                    replace p345 := eq_true p345
                    replace q345 := eq_true q345
                    go_upto_if 45 with (fail)
                    go_cut [9, 10] (fun v9 v10 wc => ∃ (kq : Nat) (x9_14 : List (List Int)) (x10_14 : Int) (x344000_14 : List Int) (x344001_14 : Int) (u344000 : Value), v10 = .int .i64 x10_14 ∧ Aside0 (banksmanlaw04_WalGoes.j2 kq l0 l1 l2 t342 x9_14 x10_14 x11_1 x344000_14 x344001_14 = some r) ∧ Aside0 (kq ≤ kj6) ∧ Aside0 (Kd.V (Kd.slice 5 (Kd.int .u8)) 23 wc w.heap.size (fun k_ => (P0_ k_ ∨ w.heap.size ≤ k_) ∧ some k_ ≠ (v9 : Value).ownBlock ∧ k_ ≠ gb343) (.slice (some ad344) l0.length c0) l0) ∧ Aside0 (Kd.N (Kd.slice 5 (Kd.int .u8)) 23 wc w.heap.size (fun k_ => (P0_ k_ ∨ w.heap.size ≤ k_) ∧ k_ ≠ gb343) v9 x9_14) ∧ Aside0 (Kd.V (Kd.int .u8) 5 wc w.heap.size (fun k_ => (P0_ k_ ∨ w.heap.size ≤ k_) ∧ some k_ ≠ (v9 : Value).ownBlock ∧ k_ ≠ gb343) u344000 x344000_14) ∧ Aside0 (wc.heap[gb343]? = some (.cells #[u344000, .int .i64 x344001_14] 26 (0, 0))) ∧ Aside0 (Below w.heap.size w wc))
                    case first =>
                      have H := HC15.out
                      clear HC15
                      by_cases c16 : (Int.tmod (rd l1 x11_1) 4) < 2
                      · rw [if_pos c16] at H
                        have c16b0 : decide ((Int.tmod (rd l1 x11_1) 4) < 2) = true := decide_eq_true c16
                        clear c16
                        (first | rw [c16b0] | (simp only [i64_w, i32_w]; rw [c16b0]) | skip)
                        obtain ⟨y347, hy347⟩ : ∃ y_ : List (List Int), y_ = (([rd_L1 l0 x11_1] : List (List Int))) := ⟨_, rfl⟩
                        replace H : ((wal_Append.f x344000_1 x344001_1 y347).bind fun bt350 => (if bt350.2.2 = 0 then (if x9_1.length < 5864062014805 then (banksmanlaw04_WalGoes.j2 kj6 l0 l1 l2 t342 (x9_1 ++ [rd_L1 l0 x11_1]) x10_1 x11_1 bt350.1 bt350.2.1) else (none)) else (some false))) = some r := by first | (rw [hy347]; with_reducible exact H) | (have H2_ := (Option.bind_some _ _).symm.trans H; rw [hy347]; with_reducible exact H2_) | (have H2_ := (Option.bind_some _ _).symm.trans H; with_reducible exact H2_) | with_reducible exact H | (rw [hy347]; exact H) | exact H
                        have Ny347 := Aside0.mk hy347
                        clear hy347
                        replace H := Option.bind_eq_some_iff.mp H
                        obtain ⟨⟨t350, t353, t354⟩, A170, H⟩ := H
                        replace H : (if t354 = 0 then (if x9_1.length < 5864062014805 then (banksmanlaw04_WalGoes.j2 kj6 l0 l1 l2 t342 (x9_1 ++ [rd_L1 l0 x11_1]) x10_1 x11_1 t350 t353) else (none)) else (some false)) = some r := H
                        have A17 := Aside0.mk A170
                        clear A170
                        by_cases c18 : t354 = 0
                        · rw [if_pos c18] at H
                          have c18b0 : (t354 == 0) = true := beq_iff_eq.mpr c18
                          have c18b1 : (t354 != 0) = false := bne_eq_false_iff_eq.mpr c18
                          clear c18
                          by_cases c19 : x9_1.length < 5864062014805
                          · rw [if_pos c19] at H
                            have LMc19 := Aside0.mk c19
                            clear c19
                            obtain ⟨y357, hy357⟩ : ∃ y_ : List (List Int), y_ = (x9_1 ++ [rd_L1 l0 x11_1]) := ⟨_, rfl⟩
                            replace H : (banksmanlaw04_WalGoes.j2 kj6 l0 l1 l2 t342 y357 x10_1 x11_1 t350 t353) = some r := by first | (rw [hy357]; with_reducible exact H) | (have H2_ := (Option.bind_some _ _).symm.trans H; rw [hy357]; with_reducible exact H2_) | (have H2_ := (Option.bind_some _ _).symm.trans H; with_reducible exact H2_) | with_reducible exact H | (rw [hy357]; exact H) | exact H
                            have Ny357 := Aside0.mk hy357
                            clear hy357
                            have H' := Aside0.mk H
                            clear H
                            obtain ⟨Ao20, co20, eo20⟩ := Kd.V_slice HO_344000.out
                            subst eo20
                            try go_wp2
                            have n0_ := Aside0.mk (Kd.V_drew HO_0.out)
                            have n1_ := Aside0.mk (Kd.N_drew HO_9.out)
                            have n2_ := Aside0.mk (Kd.V_drew HO_344000.out)
                            have n3_ := Aside0.mk (Kd.V_drew HL344_0.out)
                            have n4_ := Aside0.mk (blk_drew BK343.out)
                            have n5_ := Aside0.mk (Kd.C_drew HR344_0.out)
                            have n6_ := Aside0.mk (below_drew1 HB.out)
                            clear HO_0
                            clear HO_9
                            clear HO_344000
                            clear HL344_0
                            clear BK343
                            clear HR344_0
                            clear HB
                            have HO_0 := n0_
                            have HO_9 := n1_
                            have HO_344000 := n2_
                            have HL344_0 := n3_
                            have BK343 := n4_
                            have HR344_0 := n5_
                            have HB := n6_
                            clear n0_ n1_ n2_ n3_ n4_ n5_ n6_
                            have p346 : 0 ≤ (x11_1 : Int) := of_decide_eq_true (by first | (with_reducible assumption) | assumption)
                            have q346 : x11_1 < (l0.length : Int) := of_decide_eq_true (by first | (with_reducible assumption) | assumption)
                            obtain ⟨ad346, A346_0, c346_0, e346, hx346_0, hl346_0, hi346_0⟩ := at_L1 (Kd.V_reads' HO_0.out).2.2 x11_1 p346 q346
                            obtain rfl : ad344 = ad346 := (by injection e346)
                            obtain ⟨ce346, hce346, hMe346, hcc346⟩ := Kd.V_get HO_0.out [] x11_1 p346 (by first | exact q346 | exact of_decide_eq_true (by first | (with_reducible assumption) | assumption) | (have e_ := (Kd.V_reads' HO_0.out).1; omega))
                            obtain ⟨ua346_0, uc346_0, rfl, ul346_0, ge346_0⟩ := Kd.FK_slice_open hMe346
                            have hv346_0 := hcc346 0 _ rfl
                            rw [Nat.add_zero, show ((Kd.slice 5 (Kd.int .u8))).sz = 1 from rfl, Nat.mul_one] at hv346_0
                            replace hv346_0 := Option.some.inj (hv346_0.symm.trans hx346_0)
                            injection hv346_0 with hva_ hvn_ hvc_
                            rw [hva_] at ge346_0
                            rw [hvc_] at ul346_0
                            have HL346_0 := Aside0.mk (show Kd.V (Kd.int .u8) 5 _ w.heap.size _ _ (rd_L1 l0 x11_1) from Kd.V_mk ul346_0 ge346_0)
                            clear hva_ hvn_ hvc_ ge346_0 ul346_0
                            clear hcc346 hce346
                            have HR346_0 := Aside0.mk hi346_0
                            have HC346_0 := Aside0.mk hl346_0
                            clear hi346_0 hl346_0
                            replace p346 := eq_true p346
                            replace q346 := eq_true q346
                            refine start_ (n := 13) (S := fun w' => w'.cell? ⟨gb343, 0, none⟩ = some (.slice Ao20 x344000_1.length co20) ∧ w'.cell? ⟨gb343, 1, none⟩ = some (.int .i64 x344001_1) ∧ w'.cell? (ad344.add (x11_1).toNat) = some (.slice A346_0 (rd_L1 l0 x11_1).length c346_0)) (ds := []) #[false, false, false, false, false, false, false, false, false, false, false, false, false] (by kernel_rfl) rfl rfl ⟨(blk_cell BK343.out 0).trans rfl, (blk_cell BK343.out 1).trans rfl, hx346_0⟩ (fun hHeld => ?_); refine with_tabW banksmanlaw04_WalGoes.tab11 banksmanlaw04_WalGoes.bits11 (fun HT_ HW_ => ?_)
                            generalize wc.drew = w21 at HO_0 HO_9 HO_344000 HL344_0 BK343 HR344_0 HB HL346_0 HR346_0 hx346_0 hHeld ⊢
                            refine pure_ (i := 1) (N := some 48) (v := ?_) (a' := ?_) #[false, true, false, false, false, false, false, false, false, false, false, false, false] rfl rfl (any_of HT_.out (by kernel_rfl)) (fun _ _ _ h => h) (Or.inl ⟨by rfl, ?_⟩) ?_ ?_
                            rotate_left
                            · intro w'
                              go_simp
                              with_reducible rfl
                            rotate_left
                            · simp only [Act.put, List.setIfInBounds_toArray, List.set_cons_zero, List.set_cons_succ, i64_w, i32_w]
                              rfl
                            refine pure_ (i := 2) (N := some 49) (v := ?_) (a' := ?_) #[false, true, true, false, false, false, false, false, false, false, false, false, false] rfl rfl (any_of HT_.out (by kernel_rfl)) (fun _ _ _ h => h) (Or.inl ⟨by rfl, ?_⟩) ?_ ?_
                            rotate_left
                            · intro w'
                              go_simp
                              with_reducible rfl
                            rotate_left
                            · simp only [Act.put, List.setIfInBounds_toArray, List.set_cons_zero, List.set_cons_succ, i64_w, i32_w]
                              rfl
                            refine pure_ (i := 3) (N := some 50) (v := ?_) (a' := ?_) #[false, true, true, true, false, false, false, false, false, false, false, false, false] rfl rfl (any_of HT_.out (by kernel_rfl)) (fun _ _ _ h => h) (Or.inl ⟨by rfl, ?_⟩) ?_ ?_
                            rotate_left
                            · intro w'
                              go_simp
                              with_reducible rfl
                            rotate_left
                            · simp only [Act.put, List.setIfInBounds_toArray, List.set_cons_zero, List.set_cons_succ, i64_w, i32_w]
                              rfl
                            refine take_ (i := 0) (N := some 47) (v := ?_) (a' := ?_) #[true, true, true, true, false, false, false, false, false, false, false, false, false] rfl rfl (take_ofW HT_.out HW_.out (by kernel_rfl)) (fun _ _ _ h => h) (Or.inl ⟨by rfl, ?_⟩) hHeld ?_ ?_
                            rotate_left
                            · rintro w' ⟨s0, s1, s2⟩
                              go_simp
                              with_reducible rfl
                            rotate_left
                            · simp only [Act.put, List.setIfInBounds_toArray, List.set_cons_zero, List.set_cons_succ, i64_w, i32_w]
                              rfl
                            refine take_ (i := 4) (N := some 51) (v := ?_) (a' := ?_) #[true, true, true, true, true, false, false, false, false, false, false, false, false] rfl rfl (take_ofW HT_.out HW_.out (by kernel_rfl)) (fun _ _ _ h => h) (Or.inl ⟨by rfl, ?_⟩) hHeld ?_ ?_
                            rotate_left
                            · rintro w' ⟨s0, s1, s2⟩
                              go_simp
                              with_reducible rfl
                            rotate_left
                            · simp only [Act.put, List.setIfInBounds_toArray, List.set_cons_zero, List.set_cons_succ, i64_w, i32_w]
                              rfl
                            refine join_ (σ := Value × Value × Nat) 2 #[true, true, true, true, true, true, true, true, true, true, true, false, false] (fun s_ => [(52, s_.1), (53, .tuple #[.agg #[s_.2.1, .int .i64 t353], .int .i64 t354]), (12, .pointer (some ⟨s_.2.2, 0, none⟩)), (46, .tuple #[.agg #[s_.2.1, .int .i64 t353], .int .i64 t354]), (54, .agg #[s_.2.1, .int .i64 t353]), (55, .int .i64 t354)]) (fun s_ w' => (w'.cell? ⟨gb343, 0, none⟩ = some (.slice Ao20 x344000_1.length co20) ∧ w'.cell? ⟨gb343, 1, none⟩ = some (.int .i64 x344001_1) ∧ w'.cell? (ad344.add (x11_1).toNat) = some (.slice A346_0 (rd_L1 l0 x11_1).length c346_0)) ∧ (Kd.V (Kd.int .u8) 5 w' w.heap.size (fun k_ => (P0_ k_ ∨ w.heap.size ≤ k_) ∧ some k_ ≠ (s_.1 : Value).ownBlock ∧ some k_ ≠ (u9 : Value).ownBlock ∧ k_ ≠ gb343 ∧ k_ ≠ s_.2.2) (.slice A344_0 (rd_L1 l0 x11_1).length c344_0) (rd_L1 l0 x11_1)) ∧ (Kd.V (Kd.int .u8) 5 w' w.heap.size (fun k_ => (P0_ k_ ∨ w.heap.size ≤ k_) ∧ some k_ ≠ (s_.1 : Value).ownBlock ∧ some k_ ≠ (u9 : Value).ownBlock ∧ k_ ≠ gb343 ∧ k_ ≠ s_.2.2) (.slice A346_0 (rd_L1 l0 x11_1).length c346_0) (rd_L1 l0 x11_1)) ∧ (Kd.N (Kd.slice 5 (Kd.int .u8)) 23 w' w.heap.size (fun k_ => (P0_ k_ ∨ w.heap.size ≤ k_) ∧ some k_ ≠ (u9 : Value).ownBlock ∧ k_ ≠ gb343 ∧ k_ ≠ s_.2.2) s_.1 y347) ∧ (Kd.V (Kd.int .u8) 5 w' w.heap.size (fun k_ => (P0_ k_ ∨ w.heap.size ≤ k_) ∧ some k_ ≠ (s_.1 : Value).ownBlock ∧ some k_ ≠ (u9 : Value).ownBlock ∧ k_ ≠ gb343 ∧ k_ ≠ s_.2.2) s_.2.1 t350) ∧ (Kd.V (Kd.slice 5 (Kd.int .u8)) 23 w' w.heap.size (fun k_ => (P0_ k_ ∨ w.heap.size ≤ k_) ∧ some k_ ≠ (s_.1 : Value).ownBlock ∧ some k_ ≠ (u9 : Value).ownBlock ∧ k_ ≠ gb343 ∧ k_ ≠ s_.2.2) (.slice (some ad344) l0.length c0) l0) ∧ (Kd.V (Kd.int .u8) 5 w' w.heap.size (fun k_ => (P0_ k_ ∨ w.heap.size ≤ k_) ∧ some k_ ≠ (s_.1 : Value).ownBlock ∧ some k_ ≠ (u9 : Value).ownBlock ∧ k_ ≠ gb343 ∧ k_ ≠ s_.2.2) (.slice Ao20 x344000_1.length co20) x344000_1) ∧ (Kd.N (Kd.slice 5 (Kd.int .u8)) 23 w' w.heap.size (fun k_ => (P0_ k_ ∨ w.heap.size ≤ k_) ∧ some k_ ≠ (s_.1 : Value).ownBlock ∧ k_ ≠ gb343 ∧ k_ ≠ s_.2.2) u9 x9_1) ∧ (w'.heap[gb343]? = some (.cells #[.slice Ao20 x344000_1.length co20, .int .i64 x344001_1] 26 (0, 0))) ∧ (w'.heap[s_.2.2]? = some (.cells #[.slice none 0 0, .int .i64 0] 26 (0, 0))) ∧ (w.heap.size ≤ s_.2.2) ∧ (w.heap.size ≤ s_.2.2) ∧ (gb343 ≠ s_.2.2) ∧ (s_.2.2 ≠ gb343) ∧ (Below w.heap.size w w')) ?_ ?_
                            rotate_left
                            · intro hCont
                              refine two_ (i := 5) (j := 10) (Ni := some 52) (Nj := some 12) #[true, true, true, true, true, true, false, false, false, false, false, false, false] #[true, true, true, true, true, false, false, false, false, false, true, false, false] rfl rfl rfl rfl (two_of HT_.out (by kernel_rfl)) (by decide) (by decide) (fun K hK => ?_) (fun K hK => ?_)
                              · skip
                                refine Kd.N_lit_step (Kd.slice 5 (Kd.int .u8)) _ 23 ?hg (N' := 52) ?hd (xs := ([rd_L1 l0 x11_1] : List (List Int))) (inner := [.slice A346_0 (rd_L1 l0 x11_1).length c346_0]) (ok := (fun k_ => (P0_ k_ ∨ w.heap.size ≤ k_) ∧ some k_ ≠ (u9 : Value).ownBlock ∧ k_ ≠ gb343)) (okp := (fun k_ => (P0_ k_ ∨ w.heap.size ≤ k_) ∧ some k_ ≠ (u9 : Value).ownBlock ∧ k_ ≠ gb343)) ?hr ?hp (fun _ hk => hk) ((show ∀ k_, w21.heap.size ≤ k_ → (fun k_ => (P0_ k_ ∨ w.heap.size ≤ k_) ∧ some k_ ≠ (u9 : Value).ownBlock ∧ k_ ≠ gb343) k_ from fun k_ hk => ⟨(.inr (Nat.le_trans (below_size (by repeat (first | (with_reducible first | exact HB.out | apply below_alloc | apply pw_below_drewN | apply below_drew1 | refine below_set ?_ GE343.out) | exact HB.out))) hk)), Kd.fresh' (Kd.N_lt (by (with_reducible repeat (first | apply Kd.N_alloc | apply Kd.N_drewN | apply Kd.N_drew)); exact HO_9.out)) k_ hk, Kd.freshB (g := gb343) (o := .cells #[.slice Ao20 x344000_1.length co20, .int .i64 x344001_1] 26 (0, 0)) (by (with_reducible repeat (first | refine blk_drewN ?_ _ | refine blk_drew ?_ | refine blk_alloc ?_ _)); exact BK343.out) k_ hk⟩) _ (Nat.le_refl _)) (Below.refl _ _) (Nat.le_refl _) (by simp) ?_; (case hd => rfl); (case hg => rfl); (case hr => first | (go_simp; done) | (go_simp; rfl)); (case hp => exact (Reps.one (show Kd.FK (Kd.slice 5 (Kd.int .u8)) _ _ (rd_L1 l0 x11_1) [.slice A346_0 (rd_L1 l0 x11_1).length c346_0] from (Kd.FK_slice_mk (Kd.V_reads' (Kd.V_mono (ok' := (fun k_ => (P0_ k_ ∨ w.heap.size ≤ k_) ∧ some k_ ≠ (u9 : Value).ownBlock ∧ k_ ≠ gb343)) (HL346_0.out) (fun k_ hk => ⟨hk.1, ⟨hk.2.1, hk.2.2⟩⟩))).2.1 (Kd.V_F (Kd.V_mono (ok' := (fun k_ => (P0_ k_ ∨ w.heap.size ≤ k_) ∧ some k_ ≠ (u9 : Value).ownBlock ∧ k_ ≠ gb343)) (HL346_0.out) (fun k_ hk => ⟨hk.1, ⟨hk.2.1, hk.2.2⟩⟩))))) (Reps.none _ _)))
                                intro v348 w22 ho23 hb hg_ hnew_
                                have HS2_ := (hb.cell (World.block_lt_of_cell? _ _ (hHeld.2.2))).trans (hHeld.2.2)
                                clear hg_ hnew_
                                (first | rw [← Ny347.out] at ho23 | (simp only [Int.reduceToNat] at ho23; rw [← Ny347.out] at ho23))
                                have n0_ := Aside0.mk (Kd.V_elder' (by (with_reducible repeat (first | apply Kd.V_alloc | apply Kd.V_drewN | apply Kd.V_drew)); exact HO_0.out) (Kd.N_base ho23) hb)
                                have n1_ := Aside0.mk (Kd.N_elder' (by (with_reducible repeat (first | apply Kd.N_alloc | apply Kd.N_drewN | apply Kd.N_drew)); exact HO_9.out) (Kd.N_base ho23) hb)
                                have n2_ := Aside0.mk (Kd.V_elder' (by (with_reducible repeat (first | apply Kd.V_alloc | apply Kd.V_drewN | apply Kd.V_drew)); exact HO_344000.out) (Kd.N_base ho23) hb)
                                have n3_ := Aside0.mk (Kd.V_elder' (by (with_reducible repeat (first | apply Kd.V_alloc | apply Kd.V_drewN | apply Kd.V_drew)); exact HL344_0.out) (Kd.N_base ho23) hb)
                                have n4_ := Aside0.mk (Kd.V_elder' (by (with_reducible repeat (first | apply Kd.V_alloc | apply Kd.V_drewN | apply Kd.V_drew)); exact HL346_0.out) (Kd.N_base ho23) hb)
                                have n5_ := Aside0.mk (Kd.N_lower ho23 (below_size (by repeat (first | (with_reducible first | exact HB.out | apply below_alloc | apply pw_below_drewN | apply below_drew1 | refine below_set ?_ GE343.out) | exact HB.out))))
                                have n6_ := Aside0.mk (blk_below (g := gb343) (o := .cells #[.slice Ao20 x344000_1.length co20, .int .i64 x344001_1] 26 (0, 0)) (by (with_reducible repeat (first | refine blk_drewN ?_ _ | refine blk_drew ?_ | refine blk_alloc ?_ _)); exact BK343.out) hb)
                                have n7_ := Aside0.mk (Kd.C_below (by repeat (first | (with_reducible exact HR344_0.out) | (with_reducible refine Kd.C_alloc ?_ _) | (with_reducible refine Kd.C_drewN ?_ _) | (with_reducible refine Kd.C_drew ?_) | exact HR344_0.out)) hb)
                                have n8_ := Aside0.mk (Kd.C_below (by repeat (first | (with_reducible exact HR346_0.out) | (with_reducible refine Kd.C_alloc ?_ _) | (with_reducible refine Kd.C_drewN ?_ _) | (with_reducible refine Kd.C_drew ?_) | exact HR346_0.out)) hb)
                                have n9_ := Aside0.mk (below_step (by repeat (first | (with_reducible first | exact HB.out | apply below_alloc | apply pw_below_drewN | apply below_drew1 | refine below_set ?_ GE343.out) | exact HB.out)) hb)
                                clear HO_0
                                clear HO_9
                                clear HO_344000
                                clear HL344_0
                                clear HL346_0
                                clear BK343
                                clear HR344_0
                                clear HR346_0
                                clear HB
                                have HO_0 := n0_
                                have HO_9 := n1_
                                have HO_344000 := n2_
                                have HL344_0 := n3_
                                have HL346_0 := n4_
                                have HO349 := n5_
                                have BK343 := n6_
                                have HR344_0 := n7_
                                have HR346_0 := n8_
                                have HB := n9_
                                clear n0_ n1_ n2_ n3_ n4_ n5_ n6_ n7_ n8_ n9_
                                clear hb ho23
                                obtain ⟨Ao24, co24, eo24⟩ := Kd.N_slice HO349.out
                                (first | subst eo24 | (injection eo24 with f1_ f2_ f3_; have f4_ := f1_.symm; have f5_ := f3_.symm; clear f1_ f2_ f3_; subst f4_; subst f5_))
                                refine hK.out _ _ ⟨(blk_cell BK343.out 0).trans rfl, (blk_cell BK343.out 1).trans rfl, HS2_⟩ (fun hHeld => ?_)
                                clear hK K
                                refine norm_ (a' := ?_) ?_ ?_
                                rotate_left
                                · show Act.put _ (some 52) _ = _
                                  simp only [Act.put, List.setIfInBounds_toArray, List.set_cons_zero, List.set_cons_succ, i64_w, i32_w]
                                  rfl
                                refine two_ (i := 6) (j := 10) (Ni := some 53) (Nj := some 12) #[true, true, true, true, true, true, true, false, false, false, false, false, false] #[true, true, true, true, true, true, false, false, false, false, true, false, false] rfl rfl rfl rfl (two_of HT_.out (by kernel_rfl)) (by decide) (by decide) (fun K hK => ?_) (fun K hK => ?_)
                                · skip
                                  refine goes_ Try.func10 (by kernel_rfl) rfl #[.agg #[.slice Ao20 x344000_1.length co20, .int .i64 x344001_1], .slice Ao24 y347.length co24] (by rfl) rfl rfl (by (try simp only [List.map_toArray, List.map_cons, List.map_nil]); first | done | rfl | (simp only [List.length_drop, List.length_take]; rfl)) ?_
                                  with_reducible refine (wal_Append.calls _ _ x344000_1 x344001_1 _ _ y347 t350 t353 t354 _ ?side1 ?side2 ?side3 ?side4 A17.out).mono ?_
                                  (case side1 => repeat (first | exact (Kd.V_reads' HO_344000.out).2.2 | (with_reducible refine Kd.C_alloc ?_ _) | (with_reducible refine Kd.C_drewN ?_ _) | (with_reducible refine Kd.C_drew ?_)))
                                  (case side2 => exact (Kd.V_reads' HO_344000.out).2.1)
                                  (case side3 => repeat (first | exact (Kd.N_reads' HO349.out).2.2 | (with_reducible refine Kd.C_alloc ?_ _) | (with_reducible refine Kd.C_drewN ?_ _) | (with_reducible refine Kd.C_drew ?_)))
                                  (case side4 => exact (Kd.N_reads' HO349.out).2.1)
                                  rintro e w25 ⟨v351, rfl, ho0, hb⟩
                                  have HS2_ := (hb.cell (World.block_lt_of_cell? _ _ (hHeld.2.2))).trans (hHeld.2.2)
                                  refine ⟨_, rfl, ?_⟩
                                  have n0_ := Aside0.mk (Kd.V_below (by (with_reducible repeat (first | apply Kd.V_alloc | apply Kd.V_drewN | apply Kd.V_drew)); exact HO_0.out) hb)
                                  have n1_ := Aside0.mk (Kd.N_below (by (with_reducible repeat (first | apply Kd.N_alloc | apply Kd.N_drewN | apply Kd.N_drew)); exact HO_9.out) hb)
                                  have n2_ := Aside0.mk (Kd.V_below (by (with_reducible repeat (first | apply Kd.V_alloc | apply Kd.V_drewN | apply Kd.V_drew)); exact HO_344000.out) hb)
                                  have n3_ := Aside0.mk (Kd.V_below (by (with_reducible repeat (first | apply Kd.V_alloc | apply Kd.V_drewN | apply Kd.V_drew)); exact HL344_0.out) hb)
                                  have n4_ := Aside0.mk (Kd.V_below (by (with_reducible repeat (first | apply Kd.V_alloc | apply Kd.V_drewN | apply Kd.V_drew)); exact HL346_0.out) hb)
                                  have n5_ := Aside0.mk (Kd.N_below (by (with_reducible repeat (first | apply Kd.N_alloc | apply Kd.N_drewN | apply Kd.N_drew)); exact HO349.out) hb)
                                  have n6_ := Aside0.mk (Kd.V_lower (Kd.V_mono (ok' := fun k_ => (P0_ k_ ∨ w.heap.size ≤ k_) ∧ some k_ ≠ (u9 : Value).ownBlock ∧ some k_ ≠ (.slice Ao24 y347.length co24 : Value).ownBlock ∧ k_ ≠ gb343) ho0 (fun k_ hk_ => ⟨(.inr (Nat.le_trans (below_size (by repeat (first | (with_reducible first | exact HB.out | apply below_alloc | apply pw_below_drewN | apply below_drew1 | refine below_set ?_ GE343.out) | exact HB.out))) hk_)), (Kd.fresh' (Kd.N_lt (by (with_reducible repeat (first | apply Kd.N_alloc | apply Kd.N_drewN | apply Kd.N_drew)); exact HO_9.out)) k_ hk_), (Kd.fresh' (Kd.N_lt (by (with_reducible repeat (first | apply Kd.N_alloc | apply Kd.N_drewN | apply Kd.N_drew)); exact HO349.out)) k_ hk_), (Kd.freshB (g := gb343) (o := .cells #[.slice Ao20 x344000_1.length co20, .int .i64 x344001_1] 26 (0, 0)) (by (with_reducible repeat (first | refine blk_drewN ?_ _ | refine blk_drew ?_ | refine blk_alloc ?_ _)); exact BK343.out) k_ hk_)⟩)) (below_size (by repeat (first | (with_reducible first | exact HB.out | apply below_alloc | apply pw_below_drewN | apply below_drew1 | refine below_set ?_ GE343.out) | exact HB.out))))
                                  have n7_ := Aside0.mk (blk_below (g := gb343) (o := .cells #[.slice Ao20 x344000_1.length co20, .int .i64 x344001_1] 26 (0, 0)) (by (with_reducible repeat (first | refine blk_drewN ?_ _ | refine blk_drew ?_ | refine blk_alloc ?_ _)); exact BK343.out) hb)
                                  have n8_ := Aside0.mk (Kd.C_below (by repeat (first | (with_reducible exact HR344_0.out) | (with_reducible refine Kd.C_alloc ?_ _) | (with_reducible refine Kd.C_drewN ?_ _) | (with_reducible refine Kd.C_drew ?_) | exact HR344_0.out)) hb)
                                  have n9_ := Aside0.mk (Kd.C_below (by repeat (first | (with_reducible exact HR346_0.out) | (with_reducible refine Kd.C_alloc ?_ _) | (with_reducible refine Kd.C_drewN ?_ _) | (with_reducible refine Kd.C_drew ?_) | exact HR346_0.out)) hb)
                                  have n10_ := Aside0.mk (below_step (by repeat (first | (with_reducible first | exact HB.out | apply below_alloc | apply pw_below_drewN | apply below_drew1 | refine below_set ?_ GE343.out) | exact HB.out)) hb)
                                  clear HO_0
                                  clear HO_9
                                  clear HO_344000
                                  clear HL344_0
                                  clear HL346_0
                                  clear HO349
                                  clear BK343
                                  clear HR344_0
                                  clear HR346_0
                                  clear HB
                                  have HO_0 := n0_
                                  have HO_9 := n1_
                                  have HO_344000 := n2_
                                  have HL344_0 := n3_
                                  have HL346_0 := n4_
                                  have HO349 := n5_
                                  have HO352 := n6_
                                  have BK343 := n7_
                                  have HR344_0 := n8_
                                  have HR346_0 := n9_
                                  have HB := n10_
                                  clear n0_ n1_ n2_ n3_ n4_ n5_ n6_ n7_ n8_ n9_ n10_
                                  (try clear hb)
                                  (try clear hb2)
                                  (try clear hk)
                                  (try clear hi)
                                  (try clear ho0)
                                  refine hK.out _ _ ⟨(blk_cell BK343.out 0).trans rfl, (blk_cell BK343.out 1).trans rfl, HS2_⟩ (fun hHeld => ?_)
                                  clear hK K
                                  refine norm_ (a' := ?_) ?_ ?_
                                  rotate_left
                                  · show Act.put _ (some 53) _ = _
                                    simp only [Act.put, List.setIfInBounds_toArray, List.set_cons_zero, List.set_cons_succ, i64_w, i32_w]
                                    rfl
                                  refine pure_ (i := 7) (N := some 46) (v := ?_) (a' := ?_) #[true, true, true, true, true, true, true, true, false, false, false, false, false] rfl rfl (any_of HT_.out (by kernel_rfl)) (fun _ _ _ h => h) (Or.inl ⟨by rfl, ?_⟩) ?_ ?_
                                  rotate_left
                                  · intro w'
                                    go_simp
                                    with_reducible rfl
                                  rotate_left
                                  · simp only [Act.put, List.setIfInBounds_toArray, List.set_cons_zero, List.set_cons_succ, i64_w, i32_w]
                                    rfl
                                  refine pure_ (i := 8) (N := some 54) (v := ?_) (a' := ?_) #[true, true, true, true, true, true, true, true, true, false, false, false, false] rfl rfl (any_of HT_.out (by kernel_rfl)) (fun _ _ _ h => h) (Or.inl ⟨by rfl, ?_⟩) ?_ ?_
                                  rotate_left
                                  · intro w'
                                    go_simp
                                    with_reducible rfl
                                  rotate_left
                                  · simp only [Act.put, List.setIfInBounds_toArray, List.set_cons_zero, List.set_cons_succ, i64_w, i32_w]
                                    rfl
                                  refine pure_ (i := 9) (N := some 55) (v := ?_) (a' := ?_) #[true, true, true, true, true, true, true, true, true, true, false, false, false] rfl rfl (any_of HT_.out (by kernel_rfl)) (fun _ _ _ h => h) (Or.inl ⟨by rfl, ?_⟩) ?_ ?_
                                  rotate_left
                                  · intro w'
                                    go_simp
                                    with_reducible rfl
                                  rotate_left
                                  · simp only [Act.put, List.setIfInBounds_toArray, List.set_cons_zero, List.set_cons_succ, i64_w, i32_w]
                                    rfl
                                  refine one_ (i := 10) (N := some 12) #[true, true, true, true, true, true, true, true, true, true, true, false, false] rfl rfl (one_of HT_.out (by kernel_rfl)) (by decide) (fun K hK => ?_)
                                  refine box_step ?hg (N := 12) ?hd (cs := #[.slice none 0 0, .int .i64 0]) (t := 26) ?hr ?_; (case hd => rfl); (case hg => rfl); (case hr => first | (go_simp; done) | (go_simp; rfl))
                                  intro gb355 hg w26 hbox hb
                                  have HS2_ := (hb.cell (World.block_lt_of_cell? _ _ (hHeld.2.2))).trans (hHeld.2.2)
                                  have n0_ := Aside0.mk (Kd.V_below (Kd.V_elderB (by (with_reducible repeat (first | apply Kd.V_alloc | apply Kd.V_drewN | apply Kd.V_drew)); exact HO_0.out) gb355 (Nat.le_of_eq hg.symm)) hb)
                                  have n1_ := Aside0.mk (Kd.N_below (Kd.N_elderB (by (with_reducible repeat (first | apply Kd.N_alloc | apply Kd.N_drewN | apply Kd.N_drew)); exact HO_9.out) gb355 (Nat.le_of_eq hg.symm)) hb)
                                  have n2_ := Aside0.mk (Kd.V_below (Kd.V_elderB (by (with_reducible repeat (first | apply Kd.V_alloc | apply Kd.V_drewN | apply Kd.V_drew)); exact HO_344000.out) gb355 (Nat.le_of_eq hg.symm)) hb)
                                  have n3_ := Aside0.mk (Kd.V_below (Kd.V_elderB (by (with_reducible repeat (first | apply Kd.V_alloc | apply Kd.V_drewN | apply Kd.V_drew)); exact HL344_0.out) gb355 (Nat.le_of_eq hg.symm)) hb)
                                  have n4_ := Aside0.mk (Kd.V_below (Kd.V_elderB (by (with_reducible repeat (first | apply Kd.V_alloc | apply Kd.V_drewN | apply Kd.V_drew)); exact HL346_0.out) gb355 (Nat.le_of_eq hg.symm)) hb)
                                  have n5_ := Aside0.mk (Kd.N_below (Kd.N_elderB (by (with_reducible repeat (first | apply Kd.N_alloc | apply Kd.N_drewN | apply Kd.N_drew)); exact HO349.out) gb355 (Nat.le_of_eq hg.symm)) hb)
                                  have n6_ := Aside0.mk (Kd.V_below (Kd.V_elderB (by (with_reducible repeat (first | apply Kd.V_alloc | apply Kd.V_drewN | apply Kd.V_drew)); exact HO352.out) gb355 (Nat.le_of_eq hg.symm)) hb)
                                  have n7_ := Aside0.mk (blk_below (g := gb343) (o := .cells #[.slice Ao20 x344000_1.length co20, .int .i64 x344001_1] 26 (0, 0)) (by (with_reducible repeat (first | refine blk_drewN ?_ _ | refine blk_drew ?_ | refine blk_alloc ?_ _)); exact BK343.out) hb)
                                  have n8_ := Aside0.mk (Kd.C_below (by repeat (first | (with_reducible exact HR344_0.out) | (with_reducible refine Kd.C_alloc ?_ _) | (with_reducible refine Kd.C_drewN ?_ _) | (with_reducible refine Kd.C_drew ?_) | exact HR344_0.out)) hb)
                                  have n9_ := Aside0.mk (Kd.C_below (by repeat (first | (with_reducible exact HR346_0.out) | (with_reducible refine Kd.C_alloc ?_ _) | (with_reducible refine Kd.C_drewN ?_ _) | (with_reducible refine Kd.C_drew ?_) | exact HR346_0.out)) hb)
                                  have n10_ := Aside0.mk (below_step (by repeat (first | (with_reducible first | exact HB.out | apply below_alloc | apply pw_below_drewN | apply below_drew1 | refine below_set ?_ GE343.out) | exact HB.out)) hb)
                                  have n11_ := Aside0.mk (hbox)
                                  have n12_ := Aside0.mk ((by rw [hg]; exact (below_size (by repeat (first | (with_reducible first | exact HB.out | apply below_alloc | apply pw_below_drewN | apply below_drew1 | refine below_set ?_ GE343.out) | exact HB.out))) : w.heap.size ≤ gb355))
                                  have n13_ := Aside0.mk ((by rw [hg]; exact (below_size (by repeat (first | (with_reducible first | exact HB.out | apply below_alloc | apply pw_below_drewN | apply below_drew1 | refine below_set ?_ GE343.out) | exact HB.out))) : w.heap.size ≤ gb355))
                                  have n14_ := Aside0.mk ((by rw [hg]; exact Nat.ne_of_lt (blk_lt (g := gb343) (o := .cells #[.slice Ao20 x344000_1.length co20, .int .i64 x344001_1] 26 (0, 0)) (by (with_reducible repeat (first | refine blk_drewN ?_ _ | refine blk_drew ?_ | refine blk_alloc ?_ _)); exact BK343.out)) : gb343 ≠ gb355))
                                  have n15_ := Aside0.mk ((by rw [hg]; exact Nat.ne_of_gt (blk_lt (g := gb343) (o := .cells #[.slice Ao20 x344000_1.length co20, .int .i64 x344001_1] 26 (0, 0)) (by (with_reducible repeat (first | refine blk_drewN ?_ _ | refine blk_drew ?_ | refine blk_alloc ?_ _)); exact BK343.out)) : gb355 ≠ gb343))
                                  clear HO_0
                                  clear HO_9
                                  clear HO_344000
                                  clear HL344_0
                                  clear HL346_0
                                  clear HO349
                                  clear HO352
                                  clear BK343
                                  clear HR344_0
                                  clear HR346_0
                                  clear HB
                                  have HO_0 := n0_
                                  have HO_9 := n1_
                                  have HO_344000 := n2_
                                  have HL344_0 := n3_
                                  have HL346_0 := n4_
                                  have HO349 := n5_
                                  have HO352 := n6_
                                  have BK343 := n7_
                                  have HR344_0 := n8_
                                  have HR346_0 := n9_
                                  have HB := n10_
                                  have BK355 := n11_
                                  have GW355 := n12_
                                  have GE355 := n13_
                                  have NB343_355 := n14_
                                  have NB355_343 := n15_
                                  clear n0_ n1_ n2_ n3_ n4_ n5_ n6_ n7_ n8_ n9_ n10_ n11_ n12_ n13_ n14_ n15_
                                  clear hb hbox hg
                                  refine hK.out _ _ ⟨(blk_cell BK343.out 0).trans rfl, (blk_cell BK343.out 1).trans rfl, HS2_⟩ (fun hHeld => ?_)
                                  clear hK K
                                  refine norm_ (a' := ?_) ?_ ?_
                                  rotate_left
                                  · show Act.put _ (some 12) _ = _
                                    simp only [Act.put, List.setIfInBounds_toArray, List.set_cons_zero, List.set_cons_succ, i64_w, i32_w]
                                    rfl
                                  exact norm_ (by simp only [putAll, Act.put, List.setIfInBounds_toArray, List.set_cons_zero, List.set_cons_succ]) (hCont (.slice Ao24 y347.length co24, v351, gb355) _ ⟨hHeld, (by (with_reducible repeat (first | apply Kd.V_alloc | apply Kd.V_drewN | apply Kd.V_drew)); exact Kd.V_mono HL344_0.out (fun _ hk => ⟨hk.1.1.1, ⟨hk.1.2, ⟨hk.1.1.2.1, ⟨hk.1.1.2.2, hk.2⟩⟩⟩⟩)), (by (with_reducible repeat (first | apply Kd.V_alloc | apply Kd.V_drewN | apply Kd.V_drew)); exact Kd.V_mono HL346_0.out (fun _ hk => ⟨hk.1.1.1, ⟨hk.1.2, ⟨hk.1.1.2.1, ⟨hk.1.1.2.2, hk.2⟩⟩⟩⟩)), (by (with_reducible repeat (first | apply Kd.N_alloc | apply Kd.N_drewN | apply Kd.N_drew)); exact Kd.N_mono HO349.out (fun _ hk => ⟨hk.1.1, ⟨hk.1.2.1, ⟨hk.1.2.2, hk.2⟩⟩⟩)), (by (with_reducible repeat (first | apply Kd.V_alloc | apply Kd.V_drewN | apply Kd.V_drew)); exact Kd.V_mono HO352.out (fun _ hk => ⟨hk.1.1, ⟨hk.1.2.2.1, ⟨hk.1.2.1, ⟨hk.1.2.2.2, hk.2⟩⟩⟩⟩)), (by (with_reducible repeat (first | apply Kd.V_alloc | apply Kd.V_drewN | apply Kd.V_drew)); exact Kd.V_mono HO_0.out (fun _ hk => ⟨hk.1.1.1, ⟨hk.1.2, ⟨hk.1.1.2.1, ⟨hk.1.1.2.2, hk.2⟩⟩⟩⟩)), (by (with_reducible repeat (first | apply Kd.V_alloc | apply Kd.V_drewN | apply Kd.V_drew)); exact Kd.V_mono HO_344000.out (fun _ hk => ⟨hk.1.1.1, ⟨hk.1.2, ⟨hk.1.1.2.1, ⟨hk.1.1.2.2, hk.2⟩⟩⟩⟩)), (by (with_reducible repeat (first | apply Kd.N_alloc | apply Kd.N_drewN | apply Kd.N_drew)); exact Kd.N_mono HO_9.out (fun _ hk => ⟨hk.1.1.1, ⟨hk.1.2, ⟨hk.1.1.2, hk.2⟩⟩⟩)), (by (with_reducible repeat (first | refine blk_drewN ?_ _ | refine blk_drew ?_ | refine blk_alloc ?_ _)); exact BK343.out), (by (with_reducible repeat (first | refine blk_drewN ?_ _ | refine blk_drew ?_ | refine blk_alloc ?_ _)); exact BK355.out), GW355.out, GE355.out, NB343_355.out, NB355_343.out, (by repeat (first | (with_reducible first | exact HB.out | apply below_alloc | apply pw_below_drewN | apply below_drew1 | refine below_set ?_ GE343.out | refine below_set ?_ GE355.out) | exact HB.out))⟩)
                                · skip
                                  refine box_step ?hg (N := 12) ?hd (cs := #[.slice none 0 0, .int .i64 0]) (t := 26) ?hr ?_; (case hd => rfl); (case hg => rfl); (case hr => first | (go_simp; done) | (go_simp; rfl))
                                  intro gb355 hg w24 hbox hb
                                  have HS2_ := (hb.cell (World.block_lt_of_cell? _ _ (hHeld.2.2))).trans (hHeld.2.2)
                                  have n0_ := Aside0.mk (Kd.V_below (Kd.V_elderB (by (with_reducible repeat (first | apply Kd.V_alloc | apply Kd.V_drewN | apply Kd.V_drew)); exact HO_0.out) gb355 (Nat.le_of_eq hg.symm)) hb)
                                  have n1_ := Aside0.mk (Kd.N_below (Kd.N_elderB (by (with_reducible repeat (first | apply Kd.N_alloc | apply Kd.N_drewN | apply Kd.N_drew)); exact HO_9.out) gb355 (Nat.le_of_eq hg.symm)) hb)
                                  have n2_ := Aside0.mk (Kd.V_below (Kd.V_elderB (by (with_reducible repeat (first | apply Kd.V_alloc | apply Kd.V_drewN | apply Kd.V_drew)); exact HO_344000.out) gb355 (Nat.le_of_eq hg.symm)) hb)
                                  have n3_ := Aside0.mk (Kd.V_below (Kd.V_elderB (by (with_reducible repeat (first | apply Kd.V_alloc | apply Kd.V_drewN | apply Kd.V_drew)); exact HL344_0.out) gb355 (Nat.le_of_eq hg.symm)) hb)
                                  have n4_ := Aside0.mk (Kd.V_below (Kd.V_elderB (by (with_reducible repeat (first | apply Kd.V_alloc | apply Kd.V_drewN | apply Kd.V_drew)); exact HL346_0.out) gb355 (Nat.le_of_eq hg.symm)) hb)
                                  have n5_ := Aside0.mk (Kd.N_below (Kd.N_elderB (by (with_reducible repeat (first | apply Kd.N_alloc | apply Kd.N_drewN | apply Kd.N_drew)); exact HO349.out) gb355 (Nat.le_of_eq hg.symm)) hb)
                                  have n6_ := Aside0.mk (blk_below (g := gb343) (o := .cells #[.slice Ao20 x344000_1.length co20, .int .i64 x344001_1] 26 (0, 0)) (by (with_reducible repeat (first | refine blk_drewN ?_ _ | refine blk_drew ?_ | refine blk_alloc ?_ _)); exact BK343.out) hb)
                                  have n7_ := Aside0.mk (Kd.C_below (by repeat (first | (with_reducible exact HR344_0.out) | (with_reducible refine Kd.C_alloc ?_ _) | (with_reducible refine Kd.C_drewN ?_ _) | (with_reducible refine Kd.C_drew ?_) | exact HR344_0.out)) hb)
                                  have n8_ := Aside0.mk (Kd.C_below (by repeat (first | (with_reducible exact HR346_0.out) | (with_reducible refine Kd.C_alloc ?_ _) | (with_reducible refine Kd.C_drewN ?_ _) | (with_reducible refine Kd.C_drew ?_) | exact HR346_0.out)) hb)
                                  have n9_ := Aside0.mk (below_step (by repeat (first | (with_reducible first | exact HB.out | apply below_alloc | apply pw_below_drewN | apply below_drew1 | refine below_set ?_ GE343.out) | exact HB.out)) hb)
                                  have n10_ := Aside0.mk (hbox)
                                  have n11_ := Aside0.mk ((by rw [hg]; exact (below_size (by repeat (first | (with_reducible first | exact HB.out | apply below_alloc | apply pw_below_drewN | apply below_drew1 | refine below_set ?_ GE343.out) | exact HB.out))) : w.heap.size ≤ gb355))
                                  have n12_ := Aside0.mk ((by rw [hg]; exact (below_size (by repeat (first | (with_reducible first | exact HB.out | apply below_alloc | apply pw_below_drewN | apply below_drew1 | refine below_set ?_ GE343.out) | exact HB.out))) : w.heap.size ≤ gb355))
                                  have n13_ := Aside0.mk ((by rw [hg]; exact Nat.ne_of_lt (blk_lt (g := gb343) (o := .cells #[.slice Ao20 x344000_1.length co20, .int .i64 x344001_1] 26 (0, 0)) (by (with_reducible repeat (first | refine blk_drewN ?_ _ | refine blk_drew ?_ | refine blk_alloc ?_ _)); exact BK343.out)) : gb343 ≠ gb355))
                                  have n14_ := Aside0.mk ((by rw [hg]; exact Nat.ne_of_gt (blk_lt (g := gb343) (o := .cells #[.slice Ao20 x344000_1.length co20, .int .i64 x344001_1] 26 (0, 0)) (by (with_reducible repeat (first | refine blk_drewN ?_ _ | refine blk_drew ?_ | refine blk_alloc ?_ _)); exact BK343.out)) : gb355 ≠ gb343))
                                  clear HO_0
                                  clear HO_9
                                  clear HO_344000
                                  clear HL344_0
                                  clear HL346_0
                                  clear HO349
                                  clear BK343
                                  clear HR344_0
                                  clear HR346_0
                                  clear HB
                                  have HO_0 := n0_
                                  have HO_9 := n1_
                                  have HO_344000 := n2_
                                  have HL344_0 := n3_
                                  have HL346_0 := n4_
                                  have HO349 := n5_
                                  have BK343 := n6_
                                  have HR344_0 := n7_
                                  have HR346_0 := n8_
                                  have HB := n9_
                                  have BK355 := n10_
                                  have GW355 := n11_
                                  have GE355 := n12_
                                  have NB343_355 := n13_
                                  have NB355_343 := n14_
                                  clear n0_ n1_ n2_ n3_ n4_ n5_ n6_ n7_ n8_ n9_ n10_ n11_ n12_ n13_ n14_
                                  clear hb hbox hg
                                  obtain ⟨Ao25, co25, eo25⟩ := Kd.N_slice HO349.out
                                  (first | subst eo25 | (injection eo25 with f1_ f2_ f3_; have f4_ := f1_.symm; have f5_ := f3_.symm; clear f1_ f2_ f3_; subst f4_; subst f5_))
                                  refine hK.out _ _ ⟨(blk_cell BK343.out 0).trans rfl, (blk_cell BK343.out 1).trans rfl, HS2_⟩ (fun hHeld => ?_)
                                  clear hK K
                                  refine norm_ (a' := ?_) ?_ ?_
                                  rotate_left
                                  · show Act.put _ (some 12) _ = _
                                    simp only [Act.put, List.setIfInBounds_toArray, List.set_cons_zero, List.set_cons_succ, i64_w, i32_w]
                                    rfl
                                  refine one_ (i := 6) (N := some 53) #[true, true, true, true, true, true, true, false, false, false, true, false, false] rfl rfl (one_of HT_.out (by kernel_rfl)) (by decide) (fun K hK => ?_)
                                  refine goes_ Try.func10 (by kernel_rfl) rfl #[.agg #[.slice Ao20 x344000_1.length co20, .int .i64 x344001_1], .slice Ao25 y347.length co25] (by rfl) rfl rfl (by (try simp only [List.map_toArray, List.map_cons, List.map_nil]); first | done | rfl | (simp only [List.length_drop, List.length_take]; rfl)) ?_
                                  with_reducible refine (wal_Append.calls _ _ x344000_1 x344001_1 _ _ y347 t350 t353 t354 _ ?side1 ?side2 ?side3 ?side4 A17.out).mono ?_
                                  (case side1 => repeat (first | exact (Kd.V_reads' HO_344000.out).2.2 | (with_reducible refine Kd.C_alloc ?_ _) | (with_reducible refine Kd.C_drewN ?_ _) | (with_reducible refine Kd.C_drew ?_)))
                                  (case side2 => exact (Kd.V_reads' HO_344000.out).2.1)
                                  (case side3 => repeat (first | exact (Kd.N_reads' HO349.out).2.2 | (with_reducible refine Kd.C_alloc ?_ _) | (with_reducible refine Kd.C_drewN ?_ _) | (with_reducible refine Kd.C_drew ?_)))
                                  (case side4 => exact (Kd.N_reads' HO349.out).2.1)
                                  rintro e w26 ⟨v351, rfl, ho0, hb⟩
                                  have HS2_ := (hb.cell (World.block_lt_of_cell? _ _ (hHeld.2.2))).trans (hHeld.2.2)
                                  refine ⟨_, rfl, ?_⟩
                                  have n0_ := Aside0.mk (Kd.V_below (by (with_reducible repeat (first | apply Kd.V_alloc | apply Kd.V_drewN | apply Kd.V_drew)); exact HO_0.out) hb)
                                  have n1_ := Aside0.mk (Kd.N_below (by (with_reducible repeat (first | apply Kd.N_alloc | apply Kd.N_drewN | apply Kd.N_drew)); exact HO_9.out) hb)
                                  have n2_ := Aside0.mk (Kd.V_below (by (with_reducible repeat (first | apply Kd.V_alloc | apply Kd.V_drewN | apply Kd.V_drew)); exact HO_344000.out) hb)
                                  have n3_ := Aside0.mk (Kd.V_below (by (with_reducible repeat (first | apply Kd.V_alloc | apply Kd.V_drewN | apply Kd.V_drew)); exact HL344_0.out) hb)
                                  have n4_ := Aside0.mk (Kd.V_below (by (with_reducible repeat (first | apply Kd.V_alloc | apply Kd.V_drewN | apply Kd.V_drew)); exact HL346_0.out) hb)
                                  have n5_ := Aside0.mk (Kd.N_below (by (with_reducible repeat (first | apply Kd.N_alloc | apply Kd.N_drewN | apply Kd.N_drew)); exact HO349.out) hb)
                                  have n6_ := Aside0.mk (Kd.V_lower (Kd.V_mono (ok' := fun k_ => (P0_ k_ ∨ w.heap.size ≤ k_) ∧ some k_ ≠ (u9 : Value).ownBlock ∧ some k_ ≠ (.slice Ao25 y347.length co25 : Value).ownBlock ∧ k_ ≠ gb343 ∧ k_ ≠ gb355) ho0 (fun k_ hk_ => ⟨(.inr (Nat.le_trans (below_size (by repeat (first | (with_reducible first | exact HB.out | apply below_alloc | apply pw_below_drewN | apply below_drew1 | refine below_set ?_ GE343.out | refine below_set ?_ GE355.out) | exact HB.out))) hk_)), (Kd.fresh' (Kd.N_lt (by (with_reducible repeat (first | apply Kd.N_alloc | apply Kd.N_drewN | apply Kd.N_drew)); exact HO_9.out)) k_ hk_), (Kd.fresh' (Kd.N_lt (by (with_reducible repeat (first | apply Kd.N_alloc | apply Kd.N_drewN | apply Kd.N_drew)); exact HO349.out)) k_ hk_), (Kd.freshB (g := gb343) (o := .cells #[.slice Ao20 x344000_1.length co20, .int .i64 x344001_1] 26 (0, 0)) (by (with_reducible repeat (first | refine blk_drewN ?_ _ | refine blk_drew ?_ | refine blk_alloc ?_ _)); exact BK343.out) k_ hk_), (Kd.freshB (g := gb355) (o := .cells #[.slice none 0 0, .int .i64 0] 26 (0, 0)) (by (with_reducible repeat (first | refine blk_drewN ?_ _ | refine blk_drew ?_ | refine blk_alloc ?_ _)); exact BK355.out) k_ hk_)⟩)) (below_size (by repeat (first | (with_reducible first | exact HB.out | apply below_alloc | apply pw_below_drewN | apply below_drew1 | refine below_set ?_ GE343.out | refine below_set ?_ GE355.out) | exact HB.out))))
                                  have n7_ := Aside0.mk (blk_below (g := gb343) (o := .cells #[.slice Ao20 x344000_1.length co20, .int .i64 x344001_1] 26 (0, 0)) (by (with_reducible repeat (first | refine blk_drewN ?_ _ | refine blk_drew ?_ | refine blk_alloc ?_ _)); exact BK343.out) hb)
                                  have n8_ := Aside0.mk (Kd.C_below (by repeat (first | (with_reducible exact HR344_0.out) | (with_reducible refine Kd.C_alloc ?_ _) | (with_reducible refine Kd.C_drewN ?_ _) | (with_reducible refine Kd.C_drew ?_) | exact HR344_0.out)) hb)
                                  have n9_ := Aside0.mk (Kd.C_below (by repeat (first | (with_reducible exact HR346_0.out) | (with_reducible refine Kd.C_alloc ?_ _) | (with_reducible refine Kd.C_drewN ?_ _) | (with_reducible refine Kd.C_drew ?_) | exact HR346_0.out)) hb)
                                  have n10_ := Aside0.mk (blk_below (g := gb355) (o := .cells #[.slice none 0 0, .int .i64 0] 26 (0, 0)) (by (with_reducible repeat (first | refine blk_drewN ?_ _ | refine blk_drew ?_ | refine blk_alloc ?_ _)); exact BK355.out) hb)
                                  have n11_ := Aside0.mk (below_step (by repeat (first | (with_reducible first | exact HB.out | apply below_alloc | apply pw_below_drewN | apply below_drew1 | refine below_set ?_ GE343.out | refine below_set ?_ GE355.out) | exact HB.out)) hb)
                                  clear HO_0
                                  clear HO_9
                                  clear HO_344000
                                  clear HL344_0
                                  clear HL346_0
                                  clear HO349
                                  clear BK343
                                  clear HR344_0
                                  clear HR346_0
                                  clear BK355
                                  clear HB
                                  have HO_0 := n0_
                                  have HO_9 := n1_
                                  have HO_344000 := n2_
                                  have HL344_0 := n3_
                                  have HL346_0 := n4_
                                  have HO349 := n5_
                                  have HO352 := n6_
                                  have BK343 := n7_
                                  have HR344_0 := n8_
                                  have HR346_0 := n9_
                                  have BK355 := n10_
                                  have HB := n11_
                                  clear n0_ n1_ n2_ n3_ n4_ n5_ n6_ n7_ n8_ n9_ n10_ n11_
                                  (try clear hb)
                                  (try clear hb2)
                                  (try clear hk)
                                  (try clear hi)
                                  (try clear ho0)
                                  refine hK.out _ _ ⟨(blk_cell BK343.out 0).trans rfl, (blk_cell BK343.out 1).trans rfl, HS2_⟩ (fun hHeld => ?_)
                                  clear hK K
                                  refine norm_ (a' := ?_) ?_ ?_
                                  rotate_left
                                  · show Act.put _ (some 53) _ = _
                                    simp only [Act.put, List.setIfInBounds_toArray, List.set_cons_zero, List.set_cons_succ, i64_w, i32_w]
                                    rfl
                                  refine pure_ (i := 7) (N := some 46) (v := ?_) (a' := ?_) #[true, true, true, true, true, true, true, true, false, false, true, false, false] rfl rfl (any_of HT_.out (by kernel_rfl)) (fun _ _ _ h => h) (Or.inl ⟨by rfl, ?_⟩) ?_ ?_
                                  rotate_left
                                  · intro w'
                                    go_simp
                                    with_reducible rfl
                                  rotate_left
                                  · simp only [Act.put, List.setIfInBounds_toArray, List.set_cons_zero, List.set_cons_succ, i64_w, i32_w]
                                    rfl
                                  refine pure_ (i := 8) (N := some 54) (v := ?_) (a' := ?_) #[true, true, true, true, true, true, true, true, true, false, true, false, false] rfl rfl (any_of HT_.out (by kernel_rfl)) (fun _ _ _ h => h) (Or.inl ⟨by rfl, ?_⟩) ?_ ?_
                                  rotate_left
                                  · intro w'
                                    go_simp
                                    with_reducible rfl
                                  rotate_left
                                  · simp only [Act.put, List.setIfInBounds_toArray, List.set_cons_zero, List.set_cons_succ, i64_w, i32_w]
                                    rfl
                                  refine pure_ (i := 9) (N := some 55) (v := ?_) (a' := ?_) #[true, true, true, true, true, true, true, true, true, true, true, false, false] rfl rfl (any_of HT_.out (by kernel_rfl)) (fun _ _ _ h => h) (Or.inl ⟨by rfl, ?_⟩) ?_ ?_
                                  rotate_left
                                  · intro w'
                                    go_simp
                                    with_reducible rfl
                                  rotate_left
                                  · simp only [Act.put, List.setIfInBounds_toArray, List.set_cons_zero, List.set_cons_succ, i64_w, i32_w]
                                    rfl
                                  exact norm_ (by simp only [putAll, Act.put, List.setIfInBounds_toArray, List.set_cons_zero, List.set_cons_succ]) (hCont (.slice Ao25 y347.length co25, v351, gb355) _ ⟨hHeld, (by (with_reducible repeat (first | apply Kd.V_alloc | apply Kd.V_drewN | apply Kd.V_drew)); exact Kd.V_mono HL344_0.out (fun _ hk => ⟨hk.1.1.1, ⟨hk.1.2, ⟨hk.1.1.2.1, ⟨hk.1.1.2.2, hk.2⟩⟩⟩⟩)), (by (with_reducible repeat (first | apply Kd.V_alloc | apply Kd.V_drewN | apply Kd.V_drew)); exact Kd.V_mono HL346_0.out (fun _ hk => ⟨hk.1.1.1, ⟨hk.1.2, ⟨hk.1.1.2.1, ⟨hk.1.1.2.2, hk.2⟩⟩⟩⟩)), (by (with_reducible repeat (first | apply Kd.N_alloc | apply Kd.N_drewN | apply Kd.N_drew)); exact Kd.N_mono HO349.out (fun _ hk => ⟨hk.1.1, ⟨hk.1.2.1, ⟨hk.1.2.2, hk.2⟩⟩⟩)), (by (with_reducible repeat (first | apply Kd.V_alloc | apply Kd.V_drewN | apply Kd.V_drew)); exact Kd.V_mono HO352.out (fun _ hk => ⟨hk.1, ⟨hk.2.2.1, ⟨hk.2.1, ⟨hk.2.2.2.1, hk.2.2.2.2⟩⟩⟩⟩)), (by (with_reducible repeat (first | apply Kd.V_alloc | apply Kd.V_drewN | apply Kd.V_drew)); exact Kd.V_mono HO_0.out (fun _ hk => ⟨hk.1.1.1, ⟨hk.1.2, ⟨hk.1.1.2.1, ⟨hk.1.1.2.2, hk.2⟩⟩⟩⟩)), (by (with_reducible repeat (first | apply Kd.V_alloc | apply Kd.V_drewN | apply Kd.V_drew)); exact Kd.V_mono HO_344000.out (fun _ hk => ⟨hk.1.1.1, ⟨hk.1.2, ⟨hk.1.1.2.1, ⟨hk.1.1.2.2, hk.2⟩⟩⟩⟩)), (by (with_reducible repeat (first | apply Kd.N_alloc | apply Kd.N_drewN | apply Kd.N_drew)); exact Kd.N_mono HO_9.out (fun _ hk => ⟨hk.1.1.1, ⟨hk.1.2, ⟨hk.1.1.2, hk.2⟩⟩⟩)), (by (with_reducible repeat (first | refine blk_drewN ?_ _ | refine blk_drew ?_ | refine blk_alloc ?_ _)); exact BK343.out), (by (with_reducible repeat (first | refine blk_drewN ?_ _ | refine blk_drew ?_ | refine blk_alloc ?_ _)); exact BK355.out), GW355.out, GE355.out, NB343_355.out, NB355_343.out, (by repeat (first | (with_reducible first | exact HB.out | apply below_alloc | apply pw_below_drewN | apply below_drew1 | refine below_set ?_ GE343.out | refine below_set ?_ GE355.out) | exact HB.out))⟩)
                              · skip
                                refine box_step ?hg (N := 12) ?hd (cs := #[.slice none 0 0, .int .i64 0]) (t := 26) ?hr ?_; (case hd => rfl); (case hg => rfl); (case hr => first | (go_simp; done) | (go_simp; rfl))
                                intro gb355 hg w22 hbox hb
                                have HS2_ := (hb.cell (World.block_lt_of_cell? _ _ (hHeld.2.2))).trans (hHeld.2.2)
                                have n0_ := Aside0.mk (Kd.V_below (Kd.V_elderB (by (with_reducible repeat (first | apply Kd.V_alloc | apply Kd.V_drewN | apply Kd.V_drew)); exact HO_0.out) gb355 (Nat.le_of_eq hg.symm)) hb)
                                have n1_ := Aside0.mk (Kd.N_below (Kd.N_elderB (by (with_reducible repeat (first | apply Kd.N_alloc | apply Kd.N_drewN | apply Kd.N_drew)); exact HO_9.out) gb355 (Nat.le_of_eq hg.symm)) hb)
                                have n2_ := Aside0.mk (Kd.V_below (Kd.V_elderB (by (with_reducible repeat (first | apply Kd.V_alloc | apply Kd.V_drewN | apply Kd.V_drew)); exact HO_344000.out) gb355 (Nat.le_of_eq hg.symm)) hb)
                                have n3_ := Aside0.mk (Kd.V_below (Kd.V_elderB (by (with_reducible repeat (first | apply Kd.V_alloc | apply Kd.V_drewN | apply Kd.V_drew)); exact HL344_0.out) gb355 (Nat.le_of_eq hg.symm)) hb)
                                have n4_ := Aside0.mk (Kd.V_below (Kd.V_elderB (by (with_reducible repeat (first | apply Kd.V_alloc | apply Kd.V_drewN | apply Kd.V_drew)); exact HL346_0.out) gb355 (Nat.le_of_eq hg.symm)) hb)
                                have n5_ := Aside0.mk (blk_below (g := gb343) (o := .cells #[.slice Ao20 x344000_1.length co20, .int .i64 x344001_1] 26 (0, 0)) (by (with_reducible repeat (first | refine blk_drewN ?_ _ | refine blk_drew ?_ | refine blk_alloc ?_ _)); exact BK343.out) hb)
                                have n6_ := Aside0.mk (Kd.C_below (by repeat (first | (with_reducible exact HR344_0.out) | (with_reducible refine Kd.C_alloc ?_ _) | (with_reducible refine Kd.C_drewN ?_ _) | (with_reducible refine Kd.C_drew ?_) | exact HR344_0.out)) hb)
                                have n7_ := Aside0.mk (Kd.C_below (by repeat (first | (with_reducible exact HR346_0.out) | (with_reducible refine Kd.C_alloc ?_ _) | (with_reducible refine Kd.C_drewN ?_ _) | (with_reducible refine Kd.C_drew ?_) | exact HR346_0.out)) hb)
                                have n8_ := Aside0.mk (below_step (by repeat (first | (with_reducible first | exact HB.out | apply below_alloc | apply pw_below_drewN | apply below_drew1 | refine below_set ?_ GE343.out) | exact HB.out)) hb)
                                have n9_ := Aside0.mk (hbox)
                                have n10_ := Aside0.mk ((by rw [hg]; exact (below_size (by repeat (first | (with_reducible first | exact HB.out | apply below_alloc | apply pw_below_drewN | apply below_drew1 | refine below_set ?_ GE343.out) | exact HB.out))) : w.heap.size ≤ gb355))
                                have n11_ := Aside0.mk ((by rw [hg]; exact (below_size (by repeat (first | (with_reducible first | exact HB.out | apply below_alloc | apply pw_below_drewN | apply below_drew1 | refine below_set ?_ GE343.out) | exact HB.out))) : w.heap.size ≤ gb355))
                                have n12_ := Aside0.mk ((by rw [hg]; exact Nat.ne_of_lt (blk_lt (g := gb343) (o := .cells #[.slice Ao20 x344000_1.length co20, .int .i64 x344001_1] 26 (0, 0)) (by (with_reducible repeat (first | refine blk_drewN ?_ _ | refine blk_drew ?_ | refine blk_alloc ?_ _)); exact BK343.out)) : gb343 ≠ gb355))
                                have n13_ := Aside0.mk ((by rw [hg]; exact Nat.ne_of_gt (blk_lt (g := gb343) (o := .cells #[.slice Ao20 x344000_1.length co20, .int .i64 x344001_1] 26 (0, 0)) (by (with_reducible repeat (first | refine blk_drewN ?_ _ | refine blk_drew ?_ | refine blk_alloc ?_ _)); exact BK343.out)) : gb355 ≠ gb343))
                                clear HO_0
                                clear HO_9
                                clear HO_344000
                                clear HL344_0
                                clear HL346_0
                                clear BK343
                                clear HR344_0
                                clear HR346_0
                                clear HB
                                have HO_0 := n0_
                                have HO_9 := n1_
                                have HO_344000 := n2_
                                have HL344_0 := n3_
                                have HL346_0 := n4_
                                have BK343 := n5_
                                have HR344_0 := n6_
                                have HR346_0 := n7_
                                have HB := n8_
                                have BK355 := n9_
                                have GW355 := n10_
                                have GE355 := n11_
                                have NB343_355 := n12_
                                have NB355_343 := n13_
                                clear n0_ n1_ n2_ n3_ n4_ n5_ n6_ n7_ n8_ n9_ n10_ n11_ n12_ n13_
                                clear hb hbox hg
                                refine hK.out _ _ ⟨(blk_cell BK343.out 0).trans rfl, (blk_cell BK343.out 1).trans rfl, HS2_⟩ (fun hHeld => ?_)
                                clear hK K
                                refine norm_ (a' := ?_) ?_ ?_
                                rotate_left
                                · show Act.put _ (some 12) _ = _
                                  simp only [Act.put, List.setIfInBounds_toArray, List.set_cons_zero, List.set_cons_succ, i64_w, i32_w]
                                  rfl
                                refine one_ (i := 5) (N := some 52) #[true, true, true, true, true, true, false, false, false, false, true, false, false] rfl rfl (one_of HT_.out (by kernel_rfl)) (by decide) (fun K hK => ?_)
                                refine Kd.N_lit_step (Kd.slice 5 (Kd.int .u8)) _ 23 ?hg (N' := 52) ?hd (xs := ([rd_L1 l0 x11_1] : List (List Int))) (inner := [.slice A346_0 (rd_L1 l0 x11_1).length c346_0]) (ok := (fun k_ => (P0_ k_ ∨ w.heap.size ≤ k_) ∧ some k_ ≠ (u9 : Value).ownBlock ∧ k_ ≠ gb343 ∧ k_ ≠ gb355)) (okp := (fun k_ => (P0_ k_ ∨ w.heap.size ≤ k_) ∧ some k_ ≠ (u9 : Value).ownBlock ∧ k_ ≠ gb343 ∧ k_ ≠ gb355)) ?hr ?hp (fun _ hk => hk) ((show ∀ k_, w22.heap.size ≤ k_ → (fun k_ => (P0_ k_ ∨ w.heap.size ≤ k_) ∧ some k_ ≠ (u9 : Value).ownBlock ∧ k_ ≠ gb343 ∧ k_ ≠ gb355) k_ from fun k_ hk => ⟨(.inr (Nat.le_trans (below_size (by repeat (first | (with_reducible first | exact HB.out | apply below_alloc | apply pw_below_drewN | apply below_drew1 | refine below_set ?_ GE343.out | refine below_set ?_ GE355.out) | exact HB.out))) hk)), Kd.fresh' (Kd.N_lt (by (with_reducible repeat (first | apply Kd.N_alloc | apply Kd.N_drewN | apply Kd.N_drew)); exact HO_9.out)) k_ hk, Kd.freshB (g := gb343) (o := .cells #[.slice Ao20 x344000_1.length co20, .int .i64 x344001_1] 26 (0, 0)) (by (with_reducible repeat (first | refine blk_drewN ?_ _ | refine blk_drew ?_ | refine blk_alloc ?_ _)); exact BK343.out) k_ hk, Kd.freshB (g := gb355) (o := .cells #[.slice none 0 0, .int .i64 0] 26 (0, 0)) (by (with_reducible repeat (first | refine blk_drewN ?_ _ | refine blk_drew ?_ | refine blk_alloc ?_ _)); exact BK355.out) k_ hk⟩) _ (Nat.le_refl _)) (Below.refl _ _) (Nat.le_refl _) (by simp) ?_; (case hd => rfl); (case hg => rfl); (case hr => first | (go_simp; done) | (go_simp; rfl)); (case hp => exact (Reps.one (show Kd.FK (Kd.slice 5 (Kd.int .u8)) _ _ (rd_L1 l0 x11_1) [.slice A346_0 (rd_L1 l0 x11_1).length c346_0] from (Kd.FK_slice_mk (Kd.V_reads' (Kd.V_mono (ok' := (fun k_ => (P0_ k_ ∨ w.heap.size ≤ k_) ∧ some k_ ≠ (u9 : Value).ownBlock ∧ k_ ≠ gb343 ∧ k_ ≠ gb355)) (HL346_0.out) (fun k_ hk => ⟨hk.1.1, ⟨hk.1.2.1, ⟨hk.1.2.2, hk.2⟩⟩⟩))).2.1 (Kd.V_F (Kd.V_mono (ok' := (fun k_ => (P0_ k_ ∨ w.heap.size ≤ k_) ∧ some k_ ≠ (u9 : Value).ownBlock ∧ k_ ≠ gb343 ∧ k_ ≠ gb355)) (HL346_0.out) (fun k_ hk => ⟨hk.1.1, ⟨hk.1.2.1, ⟨hk.1.2.2, hk.2⟩⟩⟩))))) (Reps.none _ _)))
                                intro v348 w23 ho24 hb hg_ hnew_
                                have HS2_ := (hb.cell (World.block_lt_of_cell? _ _ (hHeld.2.2))).trans (hHeld.2.2)
                                clear hg_ hnew_
                                (first | rw [← Ny347.out] at ho24 | (simp only [Int.reduceToNat] at ho24; rw [← Ny347.out] at ho24))
                                have n0_ := Aside0.mk (Kd.V_elder' (by (with_reducible repeat (first | apply Kd.V_alloc | apply Kd.V_drewN | apply Kd.V_drew)); exact HO_0.out) (Kd.N_base ho24) hb)
                                have n1_ := Aside0.mk (Kd.N_elder' (by (with_reducible repeat (first | apply Kd.N_alloc | apply Kd.N_drewN | apply Kd.N_drew)); exact HO_9.out) (Kd.N_base ho24) hb)
                                have n2_ := Aside0.mk (Kd.V_elder' (by (with_reducible repeat (first | apply Kd.V_alloc | apply Kd.V_drewN | apply Kd.V_drew)); exact HO_344000.out) (Kd.N_base ho24) hb)
                                have n3_ := Aside0.mk (Kd.V_elder' (by (with_reducible repeat (first | apply Kd.V_alloc | apply Kd.V_drewN | apply Kd.V_drew)); exact HL344_0.out) (Kd.N_base ho24) hb)
                                have n4_ := Aside0.mk (Kd.V_elder' (by (with_reducible repeat (first | apply Kd.V_alloc | apply Kd.V_drewN | apply Kd.V_drew)); exact HL346_0.out) (Kd.N_base ho24) hb)
                                have n5_ := Aside0.mk (Kd.N_lower ho24 (below_size (by repeat (first | (with_reducible first | exact HB.out | apply below_alloc | apply pw_below_drewN | apply below_drew1 | refine below_set ?_ GE343.out | refine below_set ?_ GE355.out) | exact HB.out))))
                                have n6_ := Aside0.mk (blk_below (g := gb343) (o := .cells #[.slice Ao20 x344000_1.length co20, .int .i64 x344001_1] 26 (0, 0)) (by (with_reducible repeat (first | refine blk_drewN ?_ _ | refine blk_drew ?_ | refine blk_alloc ?_ _)); exact BK343.out) hb)
                                have n7_ := Aside0.mk (Kd.C_below (by repeat (first | (with_reducible exact HR344_0.out) | (with_reducible refine Kd.C_alloc ?_ _) | (with_reducible refine Kd.C_drewN ?_ _) | (with_reducible refine Kd.C_drew ?_) | exact HR344_0.out)) hb)
                                have n8_ := Aside0.mk (Kd.C_below (by repeat (first | (with_reducible exact HR346_0.out) | (with_reducible refine Kd.C_alloc ?_ _) | (with_reducible refine Kd.C_drewN ?_ _) | (with_reducible refine Kd.C_drew ?_) | exact HR346_0.out)) hb)
                                have n9_ := Aside0.mk (blk_below (g := gb355) (o := .cells #[.slice none 0 0, .int .i64 0] 26 (0, 0)) (by (with_reducible repeat (first | refine blk_drewN ?_ _ | refine blk_drew ?_ | refine blk_alloc ?_ _)); exact BK355.out) hb)
                                have n10_ := Aside0.mk (below_step (by repeat (first | (with_reducible first | exact HB.out | apply below_alloc | apply pw_below_drewN | apply below_drew1 | refine below_set ?_ GE343.out | refine below_set ?_ GE355.out) | exact HB.out)) hb)
                                clear HO_0
                                clear HO_9
                                clear HO_344000
                                clear HL344_0
                                clear HL346_0
                                clear BK343
                                clear HR344_0
                                clear HR346_0
                                clear BK355
                                clear HB
                                have HO_0 := n0_
                                have HO_9 := n1_
                                have HO_344000 := n2_
                                have HL344_0 := n3_
                                have HL346_0 := n4_
                                have HO349 := n5_
                                have BK343 := n6_
                                have HR344_0 := n7_
                                have HR346_0 := n8_
                                have BK355 := n9_
                                have HB := n10_
                                clear n0_ n1_ n2_ n3_ n4_ n5_ n6_ n7_ n8_ n9_ n10_
                                clear hb ho24
                                obtain ⟨Ao25, co25, eo25⟩ := Kd.N_slice HO349.out
                                (first | subst eo25 | (injection eo25 with f1_ f2_ f3_; have f4_ := f1_.symm; have f5_ := f3_.symm; clear f1_ f2_ f3_; subst f4_; subst f5_))
                                refine hK.out _ _ ⟨(blk_cell BK343.out 0).trans rfl, (blk_cell BK343.out 1).trans rfl, HS2_⟩ (fun hHeld => ?_)
                                clear hK K
                                refine norm_ (a' := ?_) ?_ ?_
                                rotate_left
                                · show Act.put _ (some 52) _ = _
                                  simp only [Act.put, List.setIfInBounds_toArray, List.set_cons_zero, List.set_cons_succ, i64_w, i32_w]
                                  rfl
                                refine one_ (i := 6) (N := some 53) #[true, true, true, true, true, true, true, false, false, false, true, false, false] rfl rfl (one_of HT_.out (by kernel_rfl)) (by decide) (fun K hK => ?_)
                                refine goes_ Try.func10 (by kernel_rfl) rfl #[.agg #[.slice Ao20 x344000_1.length co20, .int .i64 x344001_1], .slice Ao25 y347.length co25] (by rfl) rfl rfl (by (try simp only [List.map_toArray, List.map_cons, List.map_nil]); first | done | rfl | (simp only [List.length_drop, List.length_take]; rfl)) ?_
                                with_reducible refine (wal_Append.calls _ _ x344000_1 x344001_1 _ _ y347 t350 t353 t354 _ ?side1 ?side2 ?side3 ?side4 A17.out).mono ?_
                                (case side1 => repeat (first | exact (Kd.V_reads' HO_344000.out).2.2 | (with_reducible refine Kd.C_alloc ?_ _) | (with_reducible refine Kd.C_drewN ?_ _) | (with_reducible refine Kd.C_drew ?_)))
                                (case side2 => exact (Kd.V_reads' HO_344000.out).2.1)
                                (case side3 => repeat (first | exact (Kd.N_reads' HO349.out).2.2 | (with_reducible refine Kd.C_alloc ?_ _) | (with_reducible refine Kd.C_drewN ?_ _) | (with_reducible refine Kd.C_drew ?_)))
                                (case side4 => exact (Kd.N_reads' HO349.out).2.1)
                                rintro e w26 ⟨v351, rfl, ho0, hb⟩
                                have HS2_ := (hb.cell (World.block_lt_of_cell? _ _ (hHeld.2.2))).trans (hHeld.2.2)
                                refine ⟨_, rfl, ?_⟩
                                have n0_ := Aside0.mk (Kd.V_below (by (with_reducible repeat (first | apply Kd.V_alloc | apply Kd.V_drewN | apply Kd.V_drew)); exact HO_0.out) hb)
                                have n1_ := Aside0.mk (Kd.N_below (by (with_reducible repeat (first | apply Kd.N_alloc | apply Kd.N_drewN | apply Kd.N_drew)); exact HO_9.out) hb)
                                have n2_ := Aside0.mk (Kd.V_below (by (with_reducible repeat (first | apply Kd.V_alloc | apply Kd.V_drewN | apply Kd.V_drew)); exact HO_344000.out) hb)
                                have n3_ := Aside0.mk (Kd.V_below (by (with_reducible repeat (first | apply Kd.V_alloc | apply Kd.V_drewN | apply Kd.V_drew)); exact HL344_0.out) hb)
                                have n4_ := Aside0.mk (Kd.V_below (by (with_reducible repeat (first | apply Kd.V_alloc | apply Kd.V_drewN | apply Kd.V_drew)); exact HL346_0.out) hb)
                                have n5_ := Aside0.mk (Kd.N_below (by (with_reducible repeat (first | apply Kd.N_alloc | apply Kd.N_drewN | apply Kd.N_drew)); exact HO349.out) hb)
                                have n6_ := Aside0.mk (Kd.V_lower (Kd.V_mono (ok' := fun k_ => (P0_ k_ ∨ w.heap.size ≤ k_) ∧ some k_ ≠ (u9 : Value).ownBlock ∧ some k_ ≠ (.slice Ao25 y347.length co25 : Value).ownBlock ∧ k_ ≠ gb343 ∧ k_ ≠ gb355) ho0 (fun k_ hk_ => ⟨(.inr (Nat.le_trans (below_size (by repeat (first | (with_reducible first | exact HB.out | apply below_alloc | apply pw_below_drewN | apply below_drew1 | refine below_set ?_ GE343.out | refine below_set ?_ GE355.out) | exact HB.out))) hk_)), (Kd.fresh' (Kd.N_lt (by (with_reducible repeat (first | apply Kd.N_alloc | apply Kd.N_drewN | apply Kd.N_drew)); exact HO_9.out)) k_ hk_), (Kd.fresh' (Kd.N_lt (by (with_reducible repeat (first | apply Kd.N_alloc | apply Kd.N_drewN | apply Kd.N_drew)); exact HO349.out)) k_ hk_), (Kd.freshB (g := gb343) (o := .cells #[.slice Ao20 x344000_1.length co20, .int .i64 x344001_1] 26 (0, 0)) (by (with_reducible repeat (first | refine blk_drewN ?_ _ | refine blk_drew ?_ | refine blk_alloc ?_ _)); exact BK343.out) k_ hk_), (Kd.freshB (g := gb355) (o := .cells #[.slice none 0 0, .int .i64 0] 26 (0, 0)) (by (with_reducible repeat (first | refine blk_drewN ?_ _ | refine blk_drew ?_ | refine blk_alloc ?_ _)); exact BK355.out) k_ hk_)⟩)) (below_size (by repeat (first | (with_reducible first | exact HB.out | apply below_alloc | apply pw_below_drewN | apply below_drew1 | refine below_set ?_ GE343.out | refine below_set ?_ GE355.out) | exact HB.out))))
                                have n7_ := Aside0.mk (blk_below (g := gb343) (o := .cells #[.slice Ao20 x344000_1.length co20, .int .i64 x344001_1] 26 (0, 0)) (by (with_reducible repeat (first | refine blk_drewN ?_ _ | refine blk_drew ?_ | refine blk_alloc ?_ _)); exact BK343.out) hb)
                                have n8_ := Aside0.mk (Kd.C_below (by repeat (first | (with_reducible exact HR344_0.out) | (with_reducible refine Kd.C_alloc ?_ _) | (with_reducible refine Kd.C_drewN ?_ _) | (with_reducible refine Kd.C_drew ?_) | exact HR344_0.out)) hb)
                                have n9_ := Aside0.mk (Kd.C_below (by repeat (first | (with_reducible exact HR346_0.out) | (with_reducible refine Kd.C_alloc ?_ _) | (with_reducible refine Kd.C_drewN ?_ _) | (with_reducible refine Kd.C_drew ?_) | exact HR346_0.out)) hb)
                                have n10_ := Aside0.mk (blk_below (g := gb355) (o := .cells #[.slice none 0 0, .int .i64 0] 26 (0, 0)) (by (with_reducible repeat (first | refine blk_drewN ?_ _ | refine blk_drew ?_ | refine blk_alloc ?_ _)); exact BK355.out) hb)
                                have n11_ := Aside0.mk (below_step (by repeat (first | (with_reducible first | exact HB.out | apply below_alloc | apply pw_below_drewN | apply below_drew1 | refine below_set ?_ GE343.out | refine below_set ?_ GE355.out) | exact HB.out)) hb)
                                clear HO_0
                                clear HO_9
                                clear HO_344000
                                clear HL344_0
                                clear HL346_0
                                clear HO349
                                clear BK343
                                clear HR344_0
                                clear HR346_0
                                clear BK355
                                clear HB
                                have HO_0 := n0_
                                have HO_9 := n1_
                                have HO_344000 := n2_
                                have HL344_0 := n3_
                                have HL346_0 := n4_
                                have HO349 := n5_
                                have HO352 := n6_
                                have BK343 := n7_
                                have HR344_0 := n8_
                                have HR346_0 := n9_
                                have BK355 := n10_
                                have HB := n11_
                                clear n0_ n1_ n2_ n3_ n4_ n5_ n6_ n7_ n8_ n9_ n10_ n11_
                                (try clear hb)
                                (try clear hb2)
                                (try clear hk)
                                (try clear hi)
                                (try clear ho0)
                                refine hK.out _ _ ⟨(blk_cell BK343.out 0).trans rfl, (blk_cell BK343.out 1).trans rfl, HS2_⟩ (fun hHeld => ?_)
                                clear hK K
                                refine norm_ (a' := ?_) ?_ ?_
                                rotate_left
                                · show Act.put _ (some 53) _ = _
                                  simp only [Act.put, List.setIfInBounds_toArray, List.set_cons_zero, List.set_cons_succ, i64_w, i32_w]
                                  rfl
                                refine pure_ (i := 7) (N := some 46) (v := ?_) (a' := ?_) #[true, true, true, true, true, true, true, true, false, false, true, false, false] rfl rfl (any_of HT_.out (by kernel_rfl)) (fun _ _ _ h => h) (Or.inl ⟨by rfl, ?_⟩) ?_ ?_
                                rotate_left
                                · intro w'
                                  go_simp
                                  with_reducible rfl
                                rotate_left
                                · simp only [Act.put, List.setIfInBounds_toArray, List.set_cons_zero, List.set_cons_succ, i64_w, i32_w]
                                  rfl
                                refine pure_ (i := 8) (N := some 54) (v := ?_) (a' := ?_) #[true, true, true, true, true, true, true, true, true, false, true, false, false] rfl rfl (any_of HT_.out (by kernel_rfl)) (fun _ _ _ h => h) (Or.inl ⟨by rfl, ?_⟩) ?_ ?_
                                rotate_left
                                · intro w'
                                  go_simp
                                  with_reducible rfl
                                rotate_left
                                · simp only [Act.put, List.setIfInBounds_toArray, List.set_cons_zero, List.set_cons_succ, i64_w, i32_w]
                                  rfl
                                refine pure_ (i := 9) (N := some 55) (v := ?_) (a' := ?_) #[true, true, true, true, true, true, true, true, true, true, true, false, false] rfl rfl (any_of HT_.out (by kernel_rfl)) (fun _ _ _ h => h) (Or.inl ⟨by rfl, ?_⟩) ?_ ?_
                                rotate_left
                                · intro w'
                                  go_simp
                                  with_reducible rfl
                                rotate_left
                                · simp only [Act.put, List.setIfInBounds_toArray, List.set_cons_zero, List.set_cons_succ, i64_w, i32_w]
                                  rfl
                                exact norm_ (by simp only [putAll, Act.put, List.setIfInBounds_toArray, List.set_cons_zero, List.set_cons_succ]) (hCont (.slice Ao25 y347.length co25, v351, gb355) _ ⟨hHeld, (by (with_reducible repeat (first | apply Kd.V_alloc | apply Kd.V_drewN | apply Kd.V_drew)); exact Kd.V_mono HL344_0.out (fun _ hk => ⟨hk.1.1.1, ⟨hk.2, ⟨hk.1.1.2.1, ⟨hk.1.1.2.2, hk.1.2⟩⟩⟩⟩)), (by (with_reducible repeat (first | apply Kd.V_alloc | apply Kd.V_drewN | apply Kd.V_drew)); exact Kd.V_mono HL346_0.out (fun _ hk => ⟨hk.1.1.1, ⟨hk.2, ⟨hk.1.1.2.1, ⟨hk.1.1.2.2, hk.1.2⟩⟩⟩⟩)), (by (with_reducible repeat (first | apply Kd.N_alloc | apply Kd.N_drewN | apply Kd.N_drew)); exact HO349.out), (by (with_reducible repeat (first | apply Kd.V_alloc | apply Kd.V_drewN | apply Kd.V_drew)); exact Kd.V_mono HO352.out (fun _ hk => ⟨hk.1, ⟨hk.2.2.1, ⟨hk.2.1, ⟨hk.2.2.2.1, hk.2.2.2.2⟩⟩⟩⟩)), (by (with_reducible repeat (first | apply Kd.V_alloc | apply Kd.V_drewN | apply Kd.V_drew)); exact Kd.V_mono HO_0.out (fun _ hk => ⟨hk.1.1.1, ⟨hk.2, ⟨hk.1.1.2.1, ⟨hk.1.1.2.2, hk.1.2⟩⟩⟩⟩)), (by (with_reducible repeat (first | apply Kd.V_alloc | apply Kd.V_drewN | apply Kd.V_drew)); exact Kd.V_mono HO_344000.out (fun _ hk => ⟨hk.1.1.1, ⟨hk.2, ⟨hk.1.1.2.1, ⟨hk.1.1.2.2, hk.1.2⟩⟩⟩⟩)), (by (with_reducible repeat (first | apply Kd.N_alloc | apply Kd.N_drewN | apply Kd.N_drew)); exact Kd.N_mono HO_9.out (fun _ hk => ⟨hk.1.1.1, ⟨hk.2, ⟨hk.1.1.2, hk.1.2⟩⟩⟩)), (by (with_reducible repeat (first | refine blk_drewN ?_ _ | refine blk_drew ?_ | refine blk_alloc ?_ _)); exact BK343.out), (by (with_reducible repeat (first | refine blk_drewN ?_ _ | refine blk_drew ?_ | refine blk_alloc ?_ _)); exact BK355.out), GW355.out, GE355.out, NB343_355.out, NB355_343.out, (by repeat (first | (with_reducible first | exact HB.out | apply below_alloc | apply pw_below_drewN | apply below_drew1 | refine below_set ?_ GE343.out | refine below_set ?_ GE355.out) | exact HB.out))⟩)
                            rintro ⟨v348, v351, gb355⟩ w27 ⟨hS_, h0_, h1_, h2_, h3_, h4_, h5_, h6_, h7_, h8_, h9_, h10_, h11_, h12_, h13_⟩
                            have n0_ : Aside0 (Kd.V (Kd.int .u8) 5 w27 w.heap.size (fun k_ => (P0_ k_ ∨ w.heap.size ≤ k_) ∧ some k_ ≠ (v348 : Value).ownBlock ∧ some k_ ≠ (u9 : Value).ownBlock ∧ k_ ≠ gb343 ∧ k_ ≠ gb355) (.slice A344_0 (rd_L1 l0 x11_1).length c344_0) (rd_L1 l0 x11_1)) := ⟨h0_⟩
                            have n1_ : Aside0 (Kd.V (Kd.int .u8) 5 w27 w.heap.size (fun k_ => (P0_ k_ ∨ w.heap.size ≤ k_) ∧ some k_ ≠ (v348 : Value).ownBlock ∧ some k_ ≠ (u9 : Value).ownBlock ∧ k_ ≠ gb343 ∧ k_ ≠ gb355) (.slice A346_0 (rd_L1 l0 x11_1).length c346_0) (rd_L1 l0 x11_1)) := ⟨h1_⟩
                            have n2_ : Aside0 (Kd.N (Kd.slice 5 (Kd.int .u8)) 23 w27 w.heap.size (fun k_ => (P0_ k_ ∨ w.heap.size ≤ k_) ∧ some k_ ≠ (u9 : Value).ownBlock ∧ k_ ≠ gb343 ∧ k_ ≠ gb355) v348 y347) := ⟨h2_⟩
                            have n3_ : Aside0 (Kd.V (Kd.int .u8) 5 w27 w.heap.size (fun k_ => (P0_ k_ ∨ w.heap.size ≤ k_) ∧ some k_ ≠ (v348 : Value).ownBlock ∧ some k_ ≠ (u9 : Value).ownBlock ∧ k_ ≠ gb343 ∧ k_ ≠ gb355) v351 t350) := ⟨h3_⟩
                            have n4_ : Aside0 (Kd.V (Kd.slice 5 (Kd.int .u8)) 23 w27 w.heap.size (fun k_ => (P0_ k_ ∨ w.heap.size ≤ k_) ∧ some k_ ≠ (v348 : Value).ownBlock ∧ some k_ ≠ (u9 : Value).ownBlock ∧ k_ ≠ gb343 ∧ k_ ≠ gb355) (.slice (some ad344) l0.length c0) l0) := ⟨h4_⟩
                            have n5_ : Aside0 (Kd.V (Kd.int .u8) 5 w27 w.heap.size (fun k_ => (P0_ k_ ∨ w.heap.size ≤ k_) ∧ some k_ ≠ (v348 : Value).ownBlock ∧ some k_ ≠ (u9 : Value).ownBlock ∧ k_ ≠ gb343 ∧ k_ ≠ gb355) (.slice Ao20 x344000_1.length co20) x344000_1) := ⟨h5_⟩
                            have n6_ : Aside0 (Kd.N (Kd.slice 5 (Kd.int .u8)) 23 w27 w.heap.size (fun k_ => (P0_ k_ ∨ w.heap.size ≤ k_) ∧ some k_ ≠ (v348 : Value).ownBlock ∧ k_ ≠ gb343 ∧ k_ ≠ gb355) u9 x9_1) := ⟨h6_⟩
                            have n7_ : Aside0 (w27.heap[gb343]? = some (.cells #[.slice Ao20 x344000_1.length co20, .int .i64 x344001_1] 26 (0, 0))) := ⟨h7_⟩
                            have n8_ : Aside0 (w27.heap[gb355]? = some (.cells #[.slice none 0 0, .int .i64 0] 26 (0, 0))) := ⟨h8_⟩
                            have n9_ : Aside0 (w.heap.size ≤ gb355) := ⟨h9_⟩
                            have n10_ : Aside0 (w.heap.size ≤ gb355) := ⟨h10_⟩
                            have n11_ : Aside0 (gb343 ≠ gb355) := ⟨h11_⟩
                            have n12_ : Aside0 (gb355 ≠ gb343) := ⟨h12_⟩
                            have n13_ : Aside0 (Below w.heap.size w w27) := ⟨h13_⟩
                            clear HO_0
                            clear HO_9
                            clear HO_344000
                            clear HL344_0
                            clear BK343
                            clear HR344_0
                            clear HB
                            clear h0_ h1_ h2_ h3_ h4_ h5_ h6_ h7_ h8_ h9_ h10_ h11_ h12_ h13_
                            have HL344_0 := n0_
                            have HL346_0 := n1_
                            have HO349 := n2_
                            have HO352 := n3_
                            have HO_0 := n4_
                            have HO_344000 := n5_
                            have HO_9 := n6_
                            have BK343 := n7_
                            have BK355 := n8_
                            have GW355 := n9_
                            have GE355 := n10_
                            have NB343_355 := n11_
                            have NB355_343 := n12_
                            have HB := n13_
                            clear n0_ n1_ n2_ n3_ n4_ n5_ n6_ n7_ n8_ n9_ n10_ n11_ n12_ n13_
                            have hHeld : w27.cell? ⟨gb343, 0, none⟩ = some (.slice Ao20 x344000_1.length co20) ∧ w27.cell? ⟨gb343, 1, none⟩ = some (.int .i64 x344001_1) ∧ w27.cell? (ad344.add (x11_1).toNat) = some (.slice A346_0 (rd_L1 l0 x11_1).length c346_0) := hS_
                            obtain ⟨Ao28, co28, eo28⟩ := Kd.V_slice HO352.out
                            (first | subst eo28 | (injection eo28 with f1_ f2_ f3_; have f4_ := f1_.symm; have f5_ := f3_.symm; clear f1_ f2_ f3_; subst f4_; subst f5_))
                            refine norm_ (a' := ?_) ?_ ?_
                            rotate_left
                            · simp only [putAll, Act.put, List.setIfInBounds_toArray, List.set_cons_zero, List.set_cons_succ]
                              rfl
                            refine one_ (i := 11) (N := none) #[true, true, true, true, true, true, true, true, true, true, true, true, false] rfl rfl (one_of HT_.out (by kernel_rfl)) (by decide) (fun K hK => ?_)
                            have hs29 : w27.cell? ⟨gb355, 0, none⟩ = some (.slice none 0 0) := (blk_cell BK355.out 0).trans rfl
                            have hfs29 := blk_frozen BK355.out 0
                            have hns29_0 := NB343_355.out
                            have hms29_0 := NB355_343.out
                            have hs30 : w27.cell? ⟨gb355, 1, none⟩ = some (.int .i64 0) := (blk_cell BK355.out 1).trans rfl
                            have hfs30 := blk_frozen BK355.out 1
                            have hns30_0 := NB343_355.out
                            have hms30_0 := NB355_343.out
                            refine skip_ (w1 := ?_) (by rfl) rfl ?_ ?_
                            rotate_left
                            · go_simp
                              rfl
                            refine hK.out _ _ ⟨((cell_far (p := ⟨gb355, _, none⟩) NB343_355.out _).trans (((cell_far (p := ⟨gb355, _, none⟩) NB343_355.out _).trans (hHeld.1)))), ((cell_far (p := ⟨gb355, _, none⟩) NB343_355.out _).trans (((cell_far (p := ⟨gb355, _, none⟩) NB343_355.out _).trans (hHeld.2.1)))), ((cell_far (p := ⟨gb355, _, none⟩) (by first | exact V_off HO_0.out (by have p_ := of_eq_true p346; have q_ := of_eq_true q346; omega) (by first | exact Nat.zero_lt_one | decide) (fun _ hk => hk.2.2.2.2) | (rw [add_block]; exact V_off HO_0.out (by have p_ := of_eq_true p346; have q_ := of_eq_true q346; omega) (by first | exact Nat.zero_lt_one | decide) (fun _ hk => hk.2.2.2.2)) | (show (Addr.add _ _).block ≠ _; rw [add_block]; exact V_off HO_0.out (by have p_ := of_eq_true p346; have q_ := of_eq_true q346; omega) (by first | exact Nat.zero_lt_one | decide) (fun _ hk => hk.2.2.2.2)) | (dsimp only; exact V_off HO_0.out (by have p_ := of_eq_true p346; have q_ := of_eq_true q346; omega) (by first | exact Nat.zero_lt_one | decide) (fun _ hk => hk.2.2.2.2))) _).trans (((cell_far (p := ⟨gb355, _, none⟩) (by first | exact V_off HO_0.out (by have p_ := of_eq_true p346; have q_ := of_eq_true q346; omega) (by first | exact Nat.zero_lt_one | decide) (fun _ hk => hk.2.2.2.2) | (rw [add_block]; exact V_off HO_0.out (by have p_ := of_eq_true p346; have q_ := of_eq_true q346; omega) (by first | exact Nat.zero_lt_one | decide) (fun _ hk => hk.2.2.2.2)) | (show (Addr.add _ _).block ≠ _; rw [add_block]; exact V_off HO_0.out (by have p_ := of_eq_true p346; have q_ := of_eq_true q346; omega) (by first | exact Nat.zero_lt_one | decide) (fun _ hk => hk.2.2.2.2)) | (dsimp only; exact V_off HO_0.out (by have p_ := of_eq_true p346; have q_ := of_eq_true q346; omega) (by first | exact Nat.zero_lt_one | decide) (fun _ hk => hk.2.2.2.2))) _).trans (hHeld.2.2))))⟩ (fun hHeld => ?_)
                            clear hK K
                            refine pure_ (i := 12) (N := some 13) (v := ?_) (a' := ?_) #[true, true, true, true, true, true, true, true, true, true, true, true, true] rfl rfl (any_of HT_.out (by kernel_rfl)) (fun _ _ _ h => h) (Or.inl ⟨by rfl, ?_⟩) ?_ ?_
                            rotate_left
                            · intro w'
                              go_simp
                              with_reducible rfl
                            rotate_left
                            · simp only [Act.put, List.setIfInBounds_toArray, List.set_cons_zero, List.set_cons_succ, i64_w, i32_w]
                              rfl
                            refine done_ (done_of HT_.out (by kernel_rfl)) ?_
                            have n0_ : Aside0 (Kd.V (Kd.slice 5 (Kd.int .u8)) 23 ((w27.setCell ⟨gb355, 0, none⟩ (.slice Ao28 t350.length co28)).setCell ⟨gb355, 1, none⟩ (.int .i64 t353)) w.heap.size (fun k_ => (P0_ k_ ∨ w.heap.size ≤ k_) ∧ some k_ ≠ (u9 : Value).ownBlock ∧ some k_ ≠ (v348 : Value).ownBlock ∧ k_ ≠ gb343 ∧ k_ ≠ gb355) (.slice (some ad344) l0.length c0) l0) := ⟨by (with_reducible repeat (first | apply Kd.V_alloc | apply Kd.V_drewN | apply Kd.V_drew)); exact Kd.V_mono (Kd.V_far (p := ⟨gb355, 1, none⟩) (Kd.V_far (p := ⟨gb355, 0, none⟩) (Kd.V_mono HO_0.out (fun k_ hk => (⟨hk, hk.2.2.2.2⟩ : _ ∧ k_ ≠ gb355))) (fun _ hk => hk.2) (.slice Ao28 t350.length co28)) (fun _ hk => hk.2) (.int .i64 t353)) (fun _ hk => ⟨hk.1.1, ⟨hk.1.2.2.1, ⟨hk.1.2.1, ⟨hk.1.2.2.2.1, hk.1.2.2.2.2⟩⟩⟩⟩)⟩
                            have n1_ : Aside0 (Kd.N (Kd.slice 5 (Kd.int .u8)) 23 ((w27.setCell ⟨gb355, 0, none⟩ (.slice Ao28 t350.length co28)).setCell ⟨gb355, 1, none⟩ (.int .i64 t353)) w.heap.size (fun k_ => (P0_ k_ ∨ w.heap.size ≤ k_) ∧ some k_ ≠ (v348 : Value).ownBlock ∧ k_ ≠ gb343 ∧ k_ ≠ gb355) u9 x9_1) := ⟨by (with_reducible repeat (first | apply Kd.N_alloc | apply Kd.N_drewN | apply Kd.N_drew)); exact Kd.N_mono (Kd.N_far (p := ⟨gb355, 1, none⟩) (Kd.N_far (p := ⟨gb355, 0, none⟩) (Kd.N_mono HO_9.out (fun k_ hk => (⟨hk, hk.2.2.2⟩ : _ ∧ k_ ≠ gb355))) (fun _ hk => hk.2) (.slice Ao28 t350.length co28)) (fun _ hk => hk.2) (.int .i64 t353)) (fun _ hk => ⟨hk.1.1, ⟨hk.1.2.1, ⟨hk.1.2.2.1, hk.1.2.2.2⟩⟩⟩)⟩
                            have n2_ : Aside0 (Kd.V (Kd.int .u8) 5 ((w27.setCell ⟨gb355, 0, none⟩ (.slice Ao28 t350.length co28)).setCell ⟨gb355, 1, none⟩ (.int .i64 t353)) w.heap.size (fun k_ => (P0_ k_ ∨ w.heap.size ≤ k_) ∧ some k_ ≠ (u9 : Value).ownBlock ∧ some k_ ≠ (v348 : Value).ownBlock ∧ k_ ≠ gb343 ∧ k_ ≠ gb355) (.slice Ao20 x344000_1.length co20) x344000_1) := ⟨by (with_reducible repeat (first | apply Kd.V_alloc | apply Kd.V_drewN | apply Kd.V_drew)); exact Kd.V_mono (Kd.V_far (p := ⟨gb355, 1, none⟩) (Kd.V_far (p := ⟨gb355, 0, none⟩) (Kd.V_mono HO_344000.out (fun k_ hk => (⟨hk, hk.2.2.2.2⟩ : _ ∧ k_ ≠ gb355))) (fun _ hk => hk.2) (.slice Ao28 t350.length co28)) (fun _ hk => hk.2) (.int .i64 t353)) (fun _ hk => ⟨hk.1.1, ⟨hk.1.2.2.1, ⟨hk.1.2.1, ⟨hk.1.2.2.2.1, hk.1.2.2.2.2⟩⟩⟩⟩)⟩
                            have n3_ : Aside0 (Kd.V (Kd.int .u8) 5 ((w27.setCell ⟨gb355, 0, none⟩ (.slice Ao28 t350.length co28)).setCell ⟨gb355, 1, none⟩ (.int .i64 t353)) w.heap.size (fun k_ => (P0_ k_ ∨ w.heap.size ≤ k_) ∧ some k_ ≠ (u9 : Value).ownBlock ∧ some k_ ≠ (v348 : Value).ownBlock ∧ k_ ≠ gb343 ∧ k_ ≠ gb355) (.slice A344_0 (rd_L1 l0 x11_1).length c344_0) (rd_L1 l0 x11_1)) := ⟨by (with_reducible repeat (first | apply Kd.V_alloc | apply Kd.V_drewN | apply Kd.V_drew)); exact Kd.V_mono (Kd.V_far (p := ⟨gb355, 1, none⟩) (Kd.V_far (p := ⟨gb355, 0, none⟩) (Kd.V_mono HL344_0.out (fun k_ hk => (⟨hk, hk.2.2.2.2⟩ : _ ∧ k_ ≠ gb355))) (fun _ hk => hk.2) (.slice Ao28 t350.length co28)) (fun _ hk => hk.2) (.int .i64 t353)) (fun _ hk => ⟨hk.1.1, ⟨hk.1.2.2.1, ⟨hk.1.2.1, ⟨hk.1.2.2.2.1, hk.1.2.2.2.2⟩⟩⟩⟩)⟩
                            have n4_ : Aside0 (Kd.V (Kd.int .u8) 5 ((w27.setCell ⟨gb355, 0, none⟩ (.slice Ao28 t350.length co28)).setCell ⟨gb355, 1, none⟩ (.int .i64 t353)) w.heap.size (fun k_ => (P0_ k_ ∨ w.heap.size ≤ k_) ∧ some k_ ≠ (u9 : Value).ownBlock ∧ some k_ ≠ (v348 : Value).ownBlock ∧ k_ ≠ gb343 ∧ k_ ≠ gb355) (.slice A346_0 (rd_L1 l0 x11_1).length c346_0) (rd_L1 l0 x11_1)) := ⟨by (with_reducible repeat (first | apply Kd.V_alloc | apply Kd.V_drewN | apply Kd.V_drew)); exact Kd.V_mono (Kd.V_far (p := ⟨gb355, 1, none⟩) (Kd.V_far (p := ⟨gb355, 0, none⟩) (Kd.V_mono HL346_0.out (fun k_ hk => (⟨hk, hk.2.2.2.2⟩ : _ ∧ k_ ≠ gb355))) (fun _ hk => hk.2) (.slice Ao28 t350.length co28)) (fun _ hk => hk.2) (.int .i64 t353)) (fun _ hk => ⟨hk.1.1, ⟨hk.1.2.2.1, ⟨hk.1.2.1, ⟨hk.1.2.2.2.1, hk.1.2.2.2.2⟩⟩⟩⟩)⟩
                            have n5_ : Aside0 (Kd.N (Kd.slice 5 (Kd.int .u8)) 23 ((w27.setCell ⟨gb355, 0, none⟩ (.slice Ao28 t350.length co28)).setCell ⟨gb355, 1, none⟩ (.int .i64 t353)) w.heap.size (fun k_ => (P0_ k_ ∨ w.heap.size ≤ k_) ∧ some k_ ≠ (u9 : Value).ownBlock ∧ k_ ≠ gb343 ∧ k_ ≠ gb355) v348 y347) := ⟨by (with_reducible repeat (first | apply Kd.N_alloc | apply Kd.N_drewN | apply Kd.N_drew)); exact Kd.N_mono (Kd.N_far (p := ⟨gb355, 1, none⟩) (Kd.N_far (p := ⟨gb355, 0, none⟩) (Kd.N_mono HO349.out (fun k_ hk => (⟨hk, hk.2.2.2⟩ : _ ∧ k_ ≠ gb355))) (fun _ hk => hk.2) (.slice Ao28 t350.length co28)) (fun _ hk => hk.2) (.int .i64 t353)) (fun _ hk => ⟨hk.1.1, ⟨hk.1.2.1, ⟨hk.1.2.2.1, hk.1.2.2.2⟩⟩⟩)⟩
                            have n6_ : Aside0 (Kd.V (Kd.int .u8) 5 ((w27.setCell ⟨gb355, 0, none⟩ (.slice Ao28 t350.length co28)).setCell ⟨gb355, 1, none⟩ (.int .i64 t353)) w.heap.size (fun k_ => (P0_ k_ ∨ w.heap.size ≤ k_) ∧ some k_ ≠ (u9 : Value).ownBlock ∧ some k_ ≠ (v348 : Value).ownBlock ∧ k_ ≠ gb343 ∧ k_ ≠ gb355) (.slice Ao28 t350.length co28) t350) := ⟨by (with_reducible repeat (first | apply Kd.V_alloc | apply Kd.V_drewN | apply Kd.V_drew)); exact Kd.V_mono (Kd.V_far (p := ⟨gb355, 1, none⟩) (Kd.V_far (p := ⟨gb355, 0, none⟩) (Kd.V_mono HO352.out (fun k_ hk => (⟨hk, hk.2.2.2.2⟩ : _ ∧ k_ ≠ gb355))) (fun _ hk => hk.2) (.slice Ao28 t350.length co28)) (fun _ hk => hk.2) (.int .i64 t353)) (fun _ hk => ⟨hk.1.1, ⟨hk.1.2.2.1, ⟨hk.1.2.1, ⟨hk.1.2.2.2.1, hk.1.2.2.2.2⟩⟩⟩⟩)⟩
                            have n7_ : Aside0 (((w27.setCell ⟨gb355, 0, none⟩ (.slice Ao28 t350.length co28)).setCell ⟨gb355, 1, none⟩ (.int .i64 t353)).heap[gb343]? = some (.cells #[.slice Ao20 x344000_1.length co20, .int .i64 x344001_1] 26 (0, 0))) := ⟨by (with_reducible repeat (first | refine blk_drewN ?_ _ | refine blk_drew ?_ | refine blk_alloc ?_ _)); refine blk_far ?_ NB343_355.out _; (with_reducible repeat (first | refine blk_drewN ?_ _ | refine blk_drew ?_ | refine blk_alloc ?_ _)); refine blk_far ?_ NB343_355.out _; (with_reducible repeat (first | refine blk_drewN ?_ _ | refine blk_drew ?_ | refine blk_alloc ?_ _)); exact BK343.out⟩
                            have n8_ : Aside0 (((w27.setCell ⟨gb355, 0, none⟩ (.slice Ao28 t350.length co28)).setCell ⟨gb355, 1, none⟩ (.int .i64 t353)).heap[gb355]? = some (.cells #[.slice Ao28 t350.length co28, .int .i64 t353] 26 (0, 0))) := ⟨by (with_reducible repeat (first | refine blk_drewN ?_ _ | refine blk_drew ?_ | refine blk_alloc ?_ _)); refine blk_put (cs := #[.slice Ao28 t350.length co28, .int .i64 0]) ?_ 1 _ rfl; (with_reducible repeat (first | refine blk_drewN ?_ _ | refine blk_drew ?_ | refine blk_alloc ?_ _)); refine blk_put (cs := #[.slice none 0 0, .int .i64 0]) ?_ 0 _ rfl; (with_reducible repeat (first | refine blk_drewN ?_ _ | refine blk_drew ?_ | refine blk_alloc ?_ _)); exact BK355.out⟩
                            have n9_ : Aside0 (Below w.heap.size w ((w27.setCell ⟨gb355, 0, none⟩ (.slice Ao28 t350.length co28)).setCell ⟨gb355, 1, none⟩ (.int .i64 t353))) := ⟨by repeat (first | (with_reducible first | exact HB.out | apply below_alloc | apply pw_below_drewN | apply below_drew1 | refine below_set ?_ GE343.out | refine below_set ?_ GE355.out) | exact HB.out)⟩
                            (try clear HO_0)
                            (try clear HO_9)
                            (try clear HO_344000)
                            (try clear HL344_0)
                            (try clear HL346_0)
                            (try clear HO349)
                            (try clear HO352)
                            (try clear BK343)
                            (try clear BK355)
                            (try clear HB)
                            generalize ((w27.setCell ⟨gb355, 0, none⟩ (.slice Ao28 t350.length co28)).setCell ⟨gb355, 1, none⟩ (.int .i64 t353)) = w31 at n0_ n1_ n2_ n3_ n4_ n5_ n6_ n7_ n8_ n9_ ⊢
                            have HO_0 := n0_
                            have HO_9 := n1_
                            have HO_344000 := n2_
                            have HL344_0 := n3_
                            have HL346_0 := n4_
                            have HO349 := n5_
                            have HO352 := n6_
                            have BK343 := n7_
                            have BK355 := n8_
                            have HB := n9_
                            clear n0_ n1_ n2_ n3_ n4_ n5_ n6_ n7_ n8_ n9_
                            have hnb32 := NB355_343.out
                            have hnc32 := NB343_355.out
                            have hcz33_0 : w31.cell? ⟨gb355, 0, none⟩ = some (.slice Ao28 t350.length co28) := (blk_cell BK355.out 0).trans rfl
                            have hcz33_1 : w31.cell? ⟨gb355, 1, none⟩ = some (.int .i64 t353) := (blk_cell BK355.out 1).trans rfl
                            have hfz33_0 := blk_frozen BK355.out 0
                            have hfz33_1 := blk_frozen BK355.out 1
                            have hcz34_0 : w31.cell? ⟨gb343, 0, none⟩ = some (.slice Ao20 x344000_1.length co20) := (blk_cell BK343.out 0).trans rfl
                            have hcz34_1 : w31.cell? ⟨gb343, 1, none⟩ = some (.int .i64 x344001_1) := (blk_cell BK343.out 1).trans rfl
                            have hfz34_0 := blk_frozen BK343.out 0
                            have hfz34_1 := blk_frozen BK343.out 1
                            try go_wp2_with (first | ((with_reducible refine gate_store (t := 26) (p := 8) rfl ?_); refine store_event (t := 26) (p := 8) (v := ?vo_w35) (w1 := ((w31.setCell ⟨gb343, 0, none⟩ (.slice Ao28 t350.length co28)).setCell ⟨gb343, 1, none⟩ (.int .i64 t353))) ?hg ?ho ?hn ?hr ?_; (case ho => rfl); (case hg => rfl); (case hn => rfl); (case hr => first | (go_simp; done) | (go_simp; rfl)); intro w35 hw; have n0_ : Aside0 (Kd.V (Kd.slice 5 (Kd.int .u8)) 23 w35 w.heap.size (fun k_ => (P0_ k_ ∨ w.heap.size ≤ k_) ∧ some k_ ≠ (u9 : Value).ownBlock ∧ some k_ ≠ (v348 : Value).ownBlock ∧ k_ ≠ gb343 ∧ k_ ≠ gb355) (.slice (some ad344) l0.length c0) l0) := ⟨(by rw [hw]; exact (by (with_reducible repeat (first | apply Kd.V_alloc | apply Kd.V_drewN | apply Kd.V_drew)); exact Kd.V_mono (Kd.V_far (p := ⟨gb343, 1, none⟩) (Kd.V_far (p := ⟨gb343, 0, none⟩) (Kd.V_mono HO_0.out (fun k_ hk => (⟨hk, hk.2.2.2.1⟩ : _ ∧ k_ ≠ gb343))) (fun _ hk => hk.2) (.slice Ao28 t350.length co28)) (fun _ hk => hk.2) (.int .i64 t353)) (fun _ hk => ⟨hk.1.1, ⟨hk.1.2.1, ⟨hk.1.2.2.1, ⟨hk.1.2.2.2.1, hk.1.2.2.2.2⟩⟩⟩⟩)))⟩; have n1_ : Aside0 (Kd.N (Kd.slice 5 (Kd.int .u8)) 23 w35 w.heap.size (fun k_ => (P0_ k_ ∨ w.heap.size ≤ k_) ∧ some k_ ≠ (v348 : Value).ownBlock ∧ k_ ≠ gb343 ∧ k_ ≠ gb355) u9 x9_1) := ⟨(by rw [hw]; exact (by (with_reducible repeat (first | apply Kd.N_alloc | apply Kd.N_drewN | apply Kd.N_drew)); exact Kd.N_mono (Kd.N_far (p := ⟨gb343, 1, none⟩) (Kd.N_far (p := ⟨gb343, 0, none⟩) (Kd.N_mono HO_9.out (fun k_ hk => (⟨hk, hk.2.2.1⟩ : _ ∧ k_ ≠ gb343))) (fun _ hk => hk.2) (.slice Ao28 t350.length co28)) (fun _ hk => hk.2) (.int .i64 t353)) (fun _ hk => ⟨hk.1.1, ⟨hk.1.2.1, ⟨hk.1.2.2.1, hk.1.2.2.2⟩⟩⟩)))⟩; have n2_ : Aside0 (Kd.V (Kd.int .u8) 5 w35 w.heap.size (fun k_ => (P0_ k_ ∨ w.heap.size ≤ k_) ∧ some k_ ≠ (u9 : Value).ownBlock ∧ some k_ ≠ (v348 : Value).ownBlock ∧ k_ ≠ gb343 ∧ k_ ≠ gb355) (.slice Ao20 x344000_1.length co20) x344000_1) := ⟨(by rw [hw]; exact (by (with_reducible repeat (first | apply Kd.V_alloc | apply Kd.V_drewN | apply Kd.V_drew)); exact Kd.V_mono (Kd.V_far (p := ⟨gb343, 1, none⟩) (Kd.V_far (p := ⟨gb343, 0, none⟩) (Kd.V_mono HO_344000.out (fun k_ hk => (⟨hk, hk.2.2.2.1⟩ : _ ∧ k_ ≠ gb343))) (fun _ hk => hk.2) (.slice Ao28 t350.length co28)) (fun _ hk => hk.2) (.int .i64 t353)) (fun _ hk => ⟨hk.1.1, ⟨hk.1.2.1, ⟨hk.1.2.2.1, ⟨hk.1.2.2.2.1, hk.1.2.2.2.2⟩⟩⟩⟩)))⟩; have n3_ : Aside0 (Kd.V (Kd.int .u8) 5 w35 w.heap.size (fun k_ => (P0_ k_ ∨ w.heap.size ≤ k_) ∧ some k_ ≠ (u9 : Value).ownBlock ∧ some k_ ≠ (v348 : Value).ownBlock ∧ k_ ≠ gb343 ∧ k_ ≠ gb355) (.slice A344_0 (rd_L1 l0 x11_1).length c344_0) (rd_L1 l0 x11_1)) := ⟨(by rw [hw]; exact (by (with_reducible repeat (first | apply Kd.V_alloc | apply Kd.V_drewN | apply Kd.V_drew)); exact Kd.V_mono (Kd.V_far (p := ⟨gb343, 1, none⟩) (Kd.V_far (p := ⟨gb343, 0, none⟩) (Kd.V_mono HL344_0.out (fun k_ hk => (⟨hk, hk.2.2.2.1⟩ : _ ∧ k_ ≠ gb343))) (fun _ hk => hk.2) (.slice Ao28 t350.length co28)) (fun _ hk => hk.2) (.int .i64 t353)) (fun _ hk => ⟨hk.1.1, ⟨hk.1.2.1, ⟨hk.1.2.2.1, ⟨hk.1.2.2.2.1, hk.1.2.2.2.2⟩⟩⟩⟩)))⟩; have n4_ : Aside0 (Kd.V (Kd.int .u8) 5 w35 w.heap.size (fun k_ => (P0_ k_ ∨ w.heap.size ≤ k_) ∧ some k_ ≠ (u9 : Value).ownBlock ∧ some k_ ≠ (v348 : Value).ownBlock ∧ k_ ≠ gb343 ∧ k_ ≠ gb355) (.slice A346_0 (rd_L1 l0 x11_1).length c346_0) (rd_L1 l0 x11_1)) := ⟨(by rw [hw]; exact (by (with_reducible repeat (first | apply Kd.V_alloc | apply Kd.V_drewN | apply Kd.V_drew)); exact Kd.V_mono (Kd.V_far (p := ⟨gb343, 1, none⟩) (Kd.V_far (p := ⟨gb343, 0, none⟩) (Kd.V_mono HL346_0.out (fun k_ hk => (⟨hk, hk.2.2.2.1⟩ : _ ∧ k_ ≠ gb343))) (fun _ hk => hk.2) (.slice Ao28 t350.length co28)) (fun _ hk => hk.2) (.int .i64 t353)) (fun _ hk => ⟨hk.1.1, ⟨hk.1.2.1, ⟨hk.1.2.2.1, ⟨hk.1.2.2.2.1, hk.1.2.2.2.2⟩⟩⟩⟩)))⟩; have n5_ : Aside0 (Kd.N (Kd.slice 5 (Kd.int .u8)) 23 w35 w.heap.size (fun k_ => (P0_ k_ ∨ w.heap.size ≤ k_) ∧ some k_ ≠ (u9 : Value).ownBlock ∧ k_ ≠ gb343 ∧ k_ ≠ gb355) v348 y347) := ⟨(by rw [hw]; exact (by (with_reducible repeat (first | apply Kd.N_alloc | apply Kd.N_drewN | apply Kd.N_drew)); exact Kd.N_mono (Kd.N_far (p := ⟨gb343, 1, none⟩) (Kd.N_far (p := ⟨gb343, 0, none⟩) (Kd.N_mono HO349.out (fun k_ hk => (⟨hk, hk.2.2.1⟩ : _ ∧ k_ ≠ gb343))) (fun _ hk => hk.2) (.slice Ao28 t350.length co28)) (fun _ hk => hk.2) (.int .i64 t353)) (fun _ hk => ⟨hk.1.1, ⟨hk.1.2.1, ⟨hk.1.2.2.1, hk.1.2.2.2⟩⟩⟩)))⟩; have n6_ : Aside0 (Kd.V (Kd.int .u8) 5 w35 w.heap.size (fun k_ => (P0_ k_ ∨ w.heap.size ≤ k_) ∧ some k_ ≠ (u9 : Value).ownBlock ∧ some k_ ≠ (v348 : Value).ownBlock ∧ k_ ≠ gb343 ∧ k_ ≠ gb355) (.slice Ao28 t350.length co28) t350) := ⟨(by rw [hw]; exact (by (with_reducible repeat (first | apply Kd.V_alloc | apply Kd.V_drewN | apply Kd.V_drew)); exact Kd.V_mono (Kd.V_far (p := ⟨gb343, 1, none⟩) (Kd.V_far (p := ⟨gb343, 0, none⟩) (Kd.V_mono HO352.out (fun k_ hk => (⟨hk, hk.2.2.2.1⟩ : _ ∧ k_ ≠ gb343))) (fun _ hk => hk.2) (.slice Ao28 t350.length co28)) (fun _ hk => hk.2) (.int .i64 t353)) (fun _ hk => ⟨hk.1.1, ⟨hk.1.2.1, ⟨hk.1.2.2.1, ⟨hk.1.2.2.2.1, hk.1.2.2.2.2⟩⟩⟩⟩)))⟩; have n7_ : Aside0 (w35.heap[gb343]? = some (.cells #[.slice Ao28 t350.length co28, .int .i64 t353] 26 (0, 0))) := ⟨(by rw [hw]; exact (by (with_reducible repeat (first | refine blk_drewN ?_ _ | refine blk_drew ?_ | refine blk_alloc ?_ _)); refine blk_put (cs := #[.slice Ao28 t350.length co28, .int .i64 x344001_1]) ?_ 1 _ rfl; (with_reducible repeat (first | refine blk_drewN ?_ _ | refine blk_drew ?_ | refine blk_alloc ?_ _)); refine blk_put (cs := #[.slice Ao20 x344000_1.length co20, .int .i64 x344001_1]) ?_ 0 _ rfl; (with_reducible repeat (first | refine blk_drewN ?_ _ | refine blk_drew ?_ | refine blk_alloc ?_ _)); exact BK343.out))⟩; have n8_ : Aside0 (w35.heap[gb355]? = some (.cells #[.slice Ao28 t350.length co28, .int .i64 t353] 26 (0, 0))) := ⟨(by rw [hw]; exact (by (with_reducible repeat (first | refine blk_drewN ?_ _ | refine blk_drew ?_ | refine blk_alloc ?_ _)); refine blk_far ?_ NB355_343.out _; (with_reducible repeat (first | refine blk_drewN ?_ _ | refine blk_drew ?_ | refine blk_alloc ?_ _)); refine blk_far ?_ NB355_343.out _; (with_reducible repeat (first | refine blk_drewN ?_ _ | refine blk_drew ?_ | refine blk_alloc ?_ _)); exact BK355.out))⟩; have n9_ : Aside0 (Below w.heap.size w w35) := ⟨(by rw [hw]; exact (by repeat (first | (with_reducible first | exact HB.out | apply below_alloc | apply pw_below_drewN | apply below_drew1 | refine below_set ?_ GE343.out | refine below_set ?_ GE355.out) | exact HB.out)))⟩; clear hw; clear HO_0; clear HO_9; clear HO_344000; clear HL344_0; clear HL346_0; clear HO349; clear HO352; clear BK343; clear BK355; clear HB; have HO_0 := n0_; have HO_9 := n1_; have HO_344000 := n2_; have HL344_0 := n3_; have HL346_0 := n4_; have HO349 := n5_; have HO352 := n6_; have BK343 := n7_; have BK355 := n8_; have HB := n9_; clear n0_ n1_ n2_ n3_ n4_ n5_ n6_ n7_ n8_ n9_; have p356 : 0 ≤ (x11_1 : Int) := of_decide_eq_true (by first | (with_reducible assumption) | assumption); have q356 : x11_1 < (l0.length : Int) := of_decide_eq_true (by first | (with_reducible assumption) | assumption); obtain ⟨ad356, A356_0, c356_0, e356, hx356_0, hl356_0, hi356_0⟩ := at_L1 (Kd.V_reads' HO_0.out).2.2 x11_1 p356 q356; obtain rfl : ad344 = ad356 := (by injection e356); obtain ⟨ce356, hce356, hMe356, hcc356⟩ := Kd.V_get HO_0.out [] x11_1 p356 (by first | exact q356 | exact of_decide_eq_true (by first | (with_reducible assumption) | assumption) | (have e_ := (Kd.V_reads' HO_0.out).1; omega)); obtain ⟨ua356_0, uc356_0, rfl, ul356_0, ge356_0⟩ := Kd.FK_slice_open hMe356; have hv356_0 := hcc356 0 _ rfl; rw [Nat.add_zero, show ((Kd.slice 5 (Kd.int .u8))).sz = 1 from rfl, Nat.mul_one] at hv356_0; replace hv356_0 := Option.some.inj (hv356_0.symm.trans hx356_0); injection hv356_0 with hva_ hvn_ hvc_; rw [hva_] at ge356_0; rw [hvc_] at ul356_0; have HL356_0 := Aside0.mk (show Kd.V (Kd.int .u8) 5 _ w.heap.size _ _ (rd_L1 l0 x11_1) from Kd.V_mk ul356_0 ge356_0); clear hva_ hvn_ hvc_ ge356_0 ul356_0; clear hcc356 hce356; have HR356_0 := Aside0.mk hi356_0; have HC356_0 := Aside0.mk hl356_0; clear hi356_0 hl356_0; replace p356 := eq_true p356; replace q356 := eq_true q356) | ((with_reducible refine gate_builtin (b := .append) (xs := #[.tmp 59, .tmp 64]) rfl ?_); (try (refine gate_guard (by rfl) ?_; dsimp only)); at_builtin; refine Kd.N_append (Kd.slice 5 (Kd.int .u8)) (w0 := w) w.heap.size rfl (.tmp 59) (.tmp 64) 22 23 (.slice none 0 0) 24 rfl Try.underlying22 info23 rfl (by decide) (by omega) u9 x9_1 (rd_L1 l0 x11_1) [.slice A356_0 (rd_L1 l0 x11_1).length c356_0] (fun k_ => (P0_ k_ ∨ w.heap.size ≤ k_) ∧ some k_ ≠ (v348 : Value).ownBlock ∧ k_ ≠ gb343 ∧ k_ ≠ gb355) (fun k_ => ((fun k_ => (P0_ k_ ∨ w.heap.size ≤ k_) ∧ some k_ ≠ (v348 : Value).ownBlock ∧ k_ ≠ gb343 ∧ k_ ≠ gb355)) k_ ∧ some k_ ≠ (u9 : Value).ownBlock) rfl rfl ?aP (fun _ hk => hk) ?aF ?aO ?aB ?aS ?aL ?_; (case aP => exact (Kd.FK_slice_mk (Kd.V_reads' (Kd.V_mono (ok' := (fun k_ => ((fun k_ => (P0_ k_ ∨ w.heap.size ≤ k_) ∧ some k_ ≠ (v348 : Value).ownBlock ∧ k_ ≠ gb343 ∧ k_ ≠ gb355)) k_ ∧ some k_ ≠ (u9 : Value).ownBlock)) (HL356_0.out) (fun k_ hk => ⟨⟨hk.1, ⟨hk.2.2.1, ⟨hk.2.2.2.1, hk.2.2.2.2⟩⟩⟩, hk.2.1⟩))).2.1 (Kd.V_F (Kd.V_mono (ok' := (fun k_ => ((fun k_ => (P0_ k_ ∨ w.heap.size ≤ k_) ∧ some k_ ≠ (v348 : Value).ownBlock ∧ k_ ≠ gb343 ∧ k_ ≠ gb355)) k_ ∧ some k_ ≠ (u9 : Value).ownBlock)) (HL356_0.out) (fun k_ hk => ⟨⟨hk.1, ⟨hk.2.2.1, ⟨hk.2.2.2.1, hk.2.2.2.2⟩⟩⟩, hk.2.1⟩))))); (case aB => exact (by repeat (first | (with_reducible first | exact HB.out | apply below_alloc | apply pw_below_drewN | apply below_drew1 | refine below_set ?_ GE343.out | refine below_set ?_ GE355.out) | exact HB.out))); (case aF => exact (fun k_ hk => ⟨(.inr (Nat.le_trans (below_size (by repeat (first | (with_reducible first | exact HB.out | apply below_alloc | apply pw_below_drewN | apply below_drew1 | refine below_set ?_ GE343.out | refine below_set ?_ GE355.out) | exact HB.out))) hk)), Kd.fresh' (Kd.N_lt (by (with_reducible repeat (first | apply Kd.N_alloc | apply Kd.N_drewN | apply Kd.N_drew)); exact HO349.out)) k_ hk, Kd.freshB (g := gb343) (o := .cells #[.slice Ao28 t350.length co28, .int .i64 t353] 26 (0, 0)) (by (with_reducible repeat (first | refine blk_drewN ?_ _ | refine blk_drew ?_ | refine blk_alloc ?_ _)); exact BK343.out) k_ hk, Kd.freshB (g := gb355) (o := .cells #[.slice Ao28 t350.length co28, .int .i64 t353] 26 (0, 0)) (by (with_reducible repeat (first | refine blk_drewN ?_ _ | refine blk_drew ?_ | refine blk_alloc ?_ _)); exact BK355.out) k_ hk⟩)); (case aO => exact (by (with_reducible repeat (first | apply Kd.N_alloc | apply Kd.N_drewN | apply Kd.N_drew)); exact HO_9.out)); (case aS => exact (below_size (by repeat (first | (with_reducible first | exact HB.out | apply below_alloc | apply pw_below_drewN | apply below_drew1 | refine below_set ?_ GE343.out | refine below_set ?_ GE355.out) | exact HB.out)))); (case aL => have := LMc19.out; omega); intro v358 w36 ho hb hg hat; rw [← Ny357.out] at ho; have n0_ := Aside0.mk (Kd.V_afterv (ok := (fun k_ => (P0_ k_ ∨ w.heap.size ≤ k_) ∧ some k_ ≠ (v348 : Value).ownBlock ∧ k_ ≠ gb343 ∧ k_ ≠ gb355)) (by (with_reducible repeat (first | apply Kd.V_alloc | apply Kd.V_drewN | apply Kd.V_drew)); exact Kd.V_mono HO_0.out (fun _ hk => ⟨⟨hk.1, ⟨hk.2.2.1, ⟨hk.2.2.2.1, hk.2.2.2.2⟩⟩⟩, hk.2.1⟩)) hg hat); have n1_ := Aside0.mk (Kd.V_afterv (ok := (fun k_ => (P0_ k_ ∨ w.heap.size ≤ k_) ∧ some k_ ≠ (v348 : Value).ownBlock ∧ k_ ≠ gb343 ∧ k_ ≠ gb355)) (by (with_reducible repeat (first | apply Kd.V_alloc | apply Kd.V_drewN | apply Kd.V_drew)); exact Kd.V_mono HO_344000.out (fun _ hk => ⟨⟨hk.1, ⟨hk.2.2.1, ⟨hk.2.2.2.1, hk.2.2.2.2⟩⟩⟩, hk.2.1⟩)) hg hat); have n2_ := Aside0.mk (blk_grown (g := gb343) (o := .cells #[.slice Ao28 t350.length co28, .int .i64 t353] 26 (0, 0)) (by (with_reducible repeat (first | refine blk_drewN ?_ _ | refine blk_drew ?_ | refine blk_alloc ?_ _)); exact BK343.out) hg (Kd.N_ne HO_9.out BK343.out (by decide))); have n3_ := Aside0.mk (Kd.V_afterv (ok := (fun k_ => (P0_ k_ ∨ w.heap.size ≤ k_) ∧ some k_ ≠ (v348 : Value).ownBlock ∧ k_ ≠ gb343 ∧ k_ ≠ gb355)) (by (with_reducible repeat (first | apply Kd.V_alloc | apply Kd.V_drewN | apply Kd.V_drew)); exact Kd.V_mono HL344_0.out (fun _ hk => ⟨⟨hk.1, ⟨hk.2.2.1, ⟨hk.2.2.2.1, hk.2.2.2.2⟩⟩⟩, hk.2.1⟩)) hg hat); have n4_ := Aside0.mk (Kd.V_afterv (ok := (fun k_ => (P0_ k_ ∨ w.heap.size ≤ k_) ∧ some k_ ≠ (v348 : Value).ownBlock ∧ k_ ≠ gb343 ∧ k_ ≠ gb355)) (by (with_reducible repeat (first | apply Kd.V_alloc | apply Kd.V_drewN | apply Kd.V_drew)); exact Kd.V_mono HL346_0.out (fun _ hk => ⟨⟨hk.1, ⟨hk.2.2.1, ⟨hk.2.2.2.1, hk.2.2.2.2⟩⟩⟩, hk.2.1⟩)) hg hat); have n5_ := Aside0.mk (Kd.N_afterv (ok := (fun k_ => (P0_ k_ ∨ w.heap.size ≤ k_) ∧ k_ ≠ gb343 ∧ k_ ≠ gb355)) (by (with_reducible repeat (first | apply Kd.N_alloc | apply Kd.N_drewN | apply Kd.N_drew)); exact Kd.N_mono HO349.out (fun _ hk => ⟨⟨hk.1, ⟨hk.2.2.1, hk.2.2.2⟩⟩, hk.2.1⟩)) hg hat); have n6_ := Aside0.mk (Kd.V_afterv (ok := (fun k_ => (P0_ k_ ∨ w.heap.size ≤ k_) ∧ some k_ ≠ (v348 : Value).ownBlock ∧ k_ ≠ gb343 ∧ k_ ≠ gb355)) (by (with_reducible repeat (first | apply Kd.V_alloc | apply Kd.V_drewN | apply Kd.V_drew)); exact Kd.V_mono HO352.out (fun _ hk => ⟨⟨hk.1, ⟨hk.2.2.1, ⟨hk.2.2.2.1, hk.2.2.2.2⟩⟩⟩, hk.2.1⟩)) hg hat); have n7_ := Aside0.mk (blk_grown (g := gb355) (o := .cells #[.slice Ao28 t350.length co28, .int .i64 t353] 26 (0, 0)) (by (with_reducible repeat (first | refine blk_drewN ?_ _ | refine blk_drew ?_ | refine blk_alloc ?_ _)); exact BK355.out) hg (Kd.N_ne HO_9.out BK355.out (by decide))); have n8_ := Aside0.mk (Kd.V_afterv (ok := (fun k_ => (P0_ k_ ∨ w.heap.size ≤ k_) ∧ some k_ ≠ (v348 : Value).ownBlock ∧ k_ ≠ gb343 ∧ k_ ≠ gb355)) (by (with_reducible repeat (first | apply Kd.V_alloc | apply Kd.V_drewN | apply Kd.V_drew)); exact Kd.V_mono HL356_0.out (fun _ hk => ⟨⟨hk.1, ⟨hk.2.2.1, ⟨hk.2.2.2.1, hk.2.2.2.2⟩⟩⟩, hk.2.1⟩)) hg hat); have n9_ := Aside0.mk (hb); have n10_ := Aside0.mk (ho); clear HO_0; clear HO_344000; clear BK343; clear HL344_0; clear HL346_0; clear HO349; clear HO352; clear BK355; clear HL356_0; clear HB; clear HO_9; have HO_0 := n0_; have HO_344000 := n1_; have BK343 := n2_; have HL344_0 := n3_; have HL346_0 := n4_; have HO349 := n5_; have HO352 := n6_; have BK355 := n7_; have HL356_0 := n8_; have HB := n9_; have HO359 := n10_; clear n0_ n1_ n2_ n3_ n4_ n5_ n6_ n7_ n8_ n9_ n10_; clear ho hb hg hat))
                            go_meet
                            case rel => exact ⟨_, (y357), (x10_1), (t350), (t353), (.slice Ao28 t350.length co28), (by first | rfl | (simp; done) | (simp [*]; done)), H', ⟨by have := HK1.out; have := HJ6.out; first | omega | exact Nat.le_refl _⟩, ⟨by (with_reducible repeat (first | apply Kd.V_alloc | apply Kd.V_drewN | apply Kd.V_drew)); exact Kd.V_mono HO_0.out (fun _ hk => by first | exact ⟨hk.1.1, ⟨hk.2, hk.1.2.2.1⟩⟩ | (simp only [own_lenA] at hk ⊢; exact ⟨hk.1.1, ⟨hk.2, hk.1.2.2.1⟩⟩))⟩, ⟨by (with_reducible repeat (first | apply Kd.N_alloc | apply Kd.N_drewN | apply Kd.N_drew)); exact Kd.N_mono HO359.out (fun _ hk => by first | exact ⟨hk.1, hk.2.2.1⟩ | (simp only [own_lenA] at hk ⊢; exact ⟨hk.1, hk.2.2.1⟩))⟩, ⟨by (with_reducible repeat (first | apply Kd.V_alloc | apply Kd.V_drewN | apply Kd.V_drew)); exact Kd.V_mono HO352.out (fun _ hk => by first | exact ⟨hk.1.1, ⟨hk.2, hk.1.2.2.1⟩⟩ | (simp only [own_lenA] at hk ⊢; exact ⟨hk.1.1, ⟨hk.2, hk.1.2.2.1⟩⟩))⟩, ⟨by (with_reducible repeat (first | refine blk_drewN ?_ _ | refine blk_drew ?_ | refine blk_alloc ?_ _)); exact BK343.out⟩, ⟨by repeat (first | (with_reducible first | exact HB.out | apply below_alloc | apply pw_below_drewN | apply below_drew1 | refine below_set ?_ GE343.out | refine below_set ?_ GE355.out) | exact HB.out)⟩⟩
                          · rw [if_neg c19] at H
                            exact absurd H (by simp)
                        · rw [if_neg c18] at H
                          rw [HTr_] at H
                          exact absurd (Option.some.inj H) (by decide)
                      · rw [if_neg c16] at H
                        have c16b0 : decide ((Int.tmod (rd l1 x11_1) 4) < 2) = false := decide_eq_false c16
                        clear c16
                        (first | rw [c16b0] | (simp only [i64_w, i32_w]; rw [c16b0]) | skip)
                        by_cases c48 : (Int.tmod (rd l1 x11_1) 4) = 2
                        · rw [if_pos c48] at H
                          have c48b0 : ((Int.tmod (rd l1 x11_1) 4) == 2) = true := beq_iff_eq.mpr c48
                          have c48b1 : ((Int.tmod (rd l1 x11_1) 4) != 2) = false := bne_eq_false_iff_eq.mpr c48
                          clear c48
                          replace H := Option.bind_eq_some_iff.mp H
                          obtain ⟨⟨t361, t364⟩, A490, H⟩ := H
                          replace H : (banksmanlaw04_WalGoes.j2 kj6 l0 l1 l2 t342 x9_1 (x9_1.length : Int) x11_1 t361 t364) = some r := H
                          have A49 := Aside0.mk A490
                          clear A490
                          have H' := Aside0.mk H
                          clear H
                          have p360 : 0 ≤ (x11_1 : Int) := of_decide_eq_true (by first | (with_reducible assumption) | assumption)
                          have q360 : x11_1 < (l1.length : Int) := of_decide_eq_true (by first | (with_reducible assumption) | assumption)
                          obtain ⟨ad360, e360, hx360_0⟩ := Kd.at_int HR1.out x11_1 p360 q360
                          obtain rfl : ad345 = ad360 := (by injection e360)
                          replace hx360_0 := (HB.out.cell (World.block_lt_of_cell? w _ hx360_0)).trans hx360_0
                          replace p360 := eq_true p360
                          replace q360 := eq_true q360
                          have hcz50_0 : wc.cell? ⟨gb343, 0, none⟩ = some (u344000) := (blk_cell BK343.out 0).trans rfl
                          have hcz50_1 : wc.cell? ⟨gb343, 1, none⟩ = some (.int .i64 x344001_1) := (blk_cell BK343.out 1).trans rfl
                          have hfz50_0 := blk_frozen BK343.out 0
                          have hfz50_1 := blk_frozen BK343.out 1
                          obtain ⟨Ao51, co51, eo51⟩ := Kd.V_slice HO_344000.out
                          subst eo51
                          go_wp2_with (first | ((with_reducible refine gate_callee (f := 9) rfl ?_); refine goesL_ (some 73) rfl rfl Try.func9 (by kernel_rfl) rfl #[.agg #[.slice Ao51 x344000_1.length co51, .int .i64 x344001_1]] rfl (by (try simp only [List.map_toArray, List.map_cons, List.map_nil]); first | done | rfl | (simp only [List.length_drop, List.length_take]; rfl)) ?_; (with_reducible refine (wal_Sync.calls _ _ x344000_1 x344001_1 t361 t364 _ ?side1 ?side2 A49.out).mono ?_); (case side1 => repeat (first | exact (Kd.V_reads' HO_344000.out).2.2 | (with_reducible refine Kd.C_alloc ?_ _) | (with_reducible refine Kd.C_drewN ?_ _) | (with_reducible refine Kd.C_drew ?_))); (case side2 => exact (Kd.V_reads' HO_344000.out).2.1); rintro e w52 ⟨v362, rfl, ho0, hb⟩; refine ⟨_, rfl, ?_⟩; have n0_ := Aside0.mk (Kd.V_below (by (with_reducible repeat (first | apply Kd.V_alloc | apply Kd.V_drewN | apply Kd.V_drew)); exact HO_0.out) hb); have n1_ := Aside0.mk (Kd.N_below (by (with_reducible repeat (first | apply Kd.N_alloc | apply Kd.N_drewN | apply Kd.N_drew)); exact HO_9.out) hb); have n2_ := Aside0.mk (Kd.V_below (by (with_reducible repeat (first | apply Kd.V_alloc | apply Kd.V_drewN | apply Kd.V_drew)); exact HO_344000.out) hb); have n3_ := Aside0.mk (Kd.V_below (by (with_reducible repeat (first | apply Kd.V_alloc | apply Kd.V_drewN | apply Kd.V_drew)); exact HL344_0.out) hb); have n4_ := Aside0.mk (Kd.V_lower (Kd.V_mono (ok' := fun k_ => (P0_ k_ ∨ w.heap.size ≤ k_) ∧ some k_ ≠ (u9 : Value).ownBlock ∧ k_ ≠ gb343) ho0 (fun k_ hk_ => ⟨(.inr (Nat.le_trans (below_size (by repeat (first | (with_reducible first | exact HB.out | apply below_alloc | apply pw_below_drewN | apply below_drew1 | refine below_set ?_ GE343.out) | exact HB.out))) hk_)), (Kd.fresh' (Kd.N_lt (by (with_reducible repeat (first | apply Kd.N_alloc | apply Kd.N_drewN | apply Kd.N_drew)); exact HO_9.out)) k_ hk_), (Kd.freshB (g := gb343) (o := .cells #[.slice Ao51 x344000_1.length co51, .int .i64 x344001_1] 26 (0, 0)) (by (with_reducible repeat (first | refine blk_drewN ?_ _ | refine blk_drew ?_ | refine blk_alloc ?_ _)); exact BK343.out) k_ hk_)⟩)) (below_size (by repeat (first | (with_reducible first | exact HB.out | apply below_alloc | apply pw_below_drewN | apply below_drew1 | refine below_set ?_ GE343.out) | exact HB.out)))); have n5_ := Aside0.mk (blk_below (g := gb343) (o := .cells #[.slice Ao51 x344000_1.length co51, .int .i64 x344001_1] 26 (0, 0)) (by (with_reducible repeat (first | refine blk_drewN ?_ _ | refine blk_drew ?_ | refine blk_alloc ?_ _)); exact BK343.out) hb); have n6_ := Aside0.mk (Kd.C_below (by repeat (first | (with_reducible exact HR344_0.out) | (with_reducible refine Kd.C_alloc ?_ _) | (with_reducible refine Kd.C_drewN ?_ _) | (with_reducible refine Kd.C_drew ?_) | exact HR344_0.out)) hb); have n7_ := Aside0.mk (below_step (by repeat (first | (with_reducible first | exact HB.out | apply below_alloc | apply pw_below_drewN | apply below_drew1 | refine below_set ?_ GE343.out) | exact HB.out)) hb); clear HO_0; clear HO_9; clear HO_344000; clear HL344_0; clear BK343; clear HR344_0; clear HB; have HO_0 := n0_; have HO_9 := n1_; have HO_344000 := n2_; have HL344_0 := n3_; have HO363 := n4_; have BK343 := n5_; have HR344_0 := n6_; have HB := n7_; clear n0_ n1_ n2_ n3_ n4_ n5_ n6_ n7_; (try clear hb); (try clear hb2); (try clear hk); (try clear hi); (try clear ho0); obtain ⟨Ao53, co53, eo53⟩ := Kd.V_slice HO363.out; subst eo53; have hcz54_0 : w52.cell? ⟨gb343, 0, none⟩ = some (.slice Ao51 x344000_1.length co51) := (blk_cell BK343.out 0).trans rfl; have hcz54_1 : w52.cell? ⟨gb343, 1, none⟩ = some (.int .i64 x344001_1) := (blk_cell BK343.out 1).trans rfl; have hfz54_0 := blk_frozen BK343.out 0; have hfz54_1 := blk_frozen BK343.out 1; obtain ⟨Ao55, co55, eo55⟩ := Kd.N_slice HO_9.out; subst eo55))
                          go_meet
                          case rel => exact ⟨_, (x9_1), ((x9_1.length : Int)), (t361), (t364), (.slice Ao53 t361.length co53), (by first | rfl | (simp; done) | (simp [*]; done)), H', ⟨by have := HK1.out; have := HJ6.out; first | omega | exact Nat.le_refl _⟩, ⟨by (with_reducible repeat (first | apply Kd.V_alloc | apply Kd.V_drewN | apply Kd.V_drew)); exact Kd.V_mono (Kd.V_far (p := ⟨gb343, 1, none⟩) (Kd.V_far (p := ⟨gb343, 0, none⟩) (Kd.V_mono HO_0.out (fun k_ hk => (⟨hk, hk.2.2⟩ : _ ∧ k_ ≠ gb343))) (fun _ hk => hk.2) (.slice Ao53 t361.length co53)) (fun _ hk => hk.2) (.int .i64 t364)) (fun _ hk => by first | exact ⟨hk.1.1, ⟨hk.1.2.1, hk.1.2.2⟩⟩ | (simp only [own_lenA] at hk ⊢; exact ⟨hk.1.1, ⟨hk.1.2.1, hk.1.2.2⟩⟩))⟩, ⟨by (with_reducible repeat (first | apply Kd.N_alloc | apply Kd.N_drewN | apply Kd.N_drew)); exact Kd.N_mono (Kd.N_far (p := ⟨gb343, 1, none⟩) (Kd.N_far (p := ⟨gb343, 0, none⟩) (Kd.N_mono HO_9.out (fun k_ hk => (⟨hk, hk.2⟩ : _ ∧ k_ ≠ gb343))) (fun _ hk => hk.2) (.slice Ao53 t361.length co53)) (fun _ hk => hk.2) (.int .i64 t364)) (fun _ hk => by first | exact ⟨hk.1.1, hk.1.2⟩ | (simp only [own_lenA] at hk ⊢; exact ⟨hk.1.1, hk.1.2⟩))⟩, ⟨by (with_reducible repeat (first | apply Kd.V_alloc | apply Kd.V_drewN | apply Kd.V_drew)); exact Kd.V_mono (Kd.V_far (p := ⟨gb343, 1, none⟩) (Kd.V_far (p := ⟨gb343, 0, none⟩) (Kd.V_mono HO363.out (fun k_ hk => (⟨hk, hk.2.2⟩ : _ ∧ k_ ≠ gb343))) (fun _ hk => hk.2) (.slice Ao53 t361.length co53)) (fun _ hk => hk.2) (.int .i64 t364)) (fun _ hk => by first | exact ⟨hk.1.1, ⟨hk.1.2.1, hk.1.2.2⟩⟩ | (simp only [own_lenA] at hk ⊢; exact ⟨hk.1.1, ⟨hk.1.2.1, hk.1.2.2⟩⟩))⟩, ⟨by (with_reducible repeat (first | refine blk_drewN ?_ _ | refine blk_drew ?_ | refine blk_alloc ?_ _)); refine blk_put (cs := #[.slice Ao53 t361.length co53, .int .i64 x344001_1]) ?_ 1 _ rfl; (with_reducible repeat (first | refine blk_drewN ?_ _ | refine blk_drew ?_ | refine blk_alloc ?_ _)); refine blk_put (cs := #[.slice Ao51 x344000_1.length co51, .int .i64 x344001_1]) ?_ 0 _ rfl; (with_reducible repeat (first | refine blk_drewN ?_ _ | refine blk_drew ?_ | refine blk_alloc ?_ _)); exact BK343.out⟩, ⟨by repeat (first | (with_reducible first | exact HB.out | apply below_alloc | apply pw_below_drewN | apply below_drew1 | refine below_set ?_ GE343.out) | exact HB.out)⟩⟩
                        · rw [if_neg c48] at H
                          have c48b0 : ((Int.tmod (rd l1 x11_1) 4) == 2) = false := beq_eq_false_iff_ne.mpr c48
                          have c48b1 : ((Int.tmod (rd l1 x11_1) 4) != 2) = true := bne_iff_ne.mpr c48
                          by_cases c56 : x11_1 < (l2.length : Int)
                          · rw [if_pos c56] at H
                            have c56b0 : decide (x11_1 < (l2.length : Int)) = true := decide_eq_true c56
                            clear c56
                            replace H := Option.bind_eq_some_iff.mp H
                            obtain ⟨⟨t366, t369⟩, A570, H⟩ := H
                            replace H : ((wal_Trim.f t366 t369).bind fun bt370 => ((wal_Texts.f bt370.1 bt370.2).bind fun t374 => (if (t374.length : Int) < x10_1 then (some false) else (if (t374.length : Int) > (x9_1.length : Int) then (some false) else (if 0 ≤ (t374.length : Int) then (if (t374.length : Int) ≤ (x9_1.length : Int) then (banksmanlaw04_WalGoes.j2 kj6 l0 l1 l2 t342 (x9_1.take ((t374.length : Int) : Int).toNat) (t374.length : Int) x11_1 bt370.1 bt370.2) else (none)) else (none)))))) = some r := H
                            have A57 := Aside0.mk A570
                            clear A570
                            replace H := Option.bind_eq_some_iff.mp H
                            obtain ⟨⟨t370, t373⟩, A580, H⟩ := H
                            replace H : ((wal_Texts.f t370 t373).bind fun t374 => (if (t374.length : Int) < x10_1 then (some false) else (if (t374.length : Int) > (x9_1.length : Int) then (some false) else (if 0 ≤ (t374.length : Int) then (if (t374.length : Int) ≤ (x9_1.length : Int) then (banksmanlaw04_WalGoes.j2 kj6 l0 l1 l2 t342 (x9_1.take ((t374.length : Int) : Int).toNat) (t374.length : Int) x11_1 t370 t373) else (none)) else (none))))) = some r := H
                            have A58 := Aside0.mk A580
                            clear A580
                            replace H := Option.bind_eq_some_iff.mp H
                            obtain ⟨t374, A590, H⟩ := H
                            replace H : (if (t374.length : Int) < x10_1 then (some false) else (if (t374.length : Int) > (x9_1.length : Int) then (some false) else (if 0 ≤ (t374.length : Int) then (if (t374.length : Int) ≤ (x9_1.length : Int) then (banksmanlaw04_WalGoes.j2 kj6 l0 l1 l2 t342 (x9_1.take ((t374.length : Int) : Int).toNat) (t374.length : Int) x11_1 t370 t373) else (none)) else (none)))) = some r := H
                            have A59 := Aside0.mk A590
                            clear A590
                            by_cases c60 : (t374.length : Int) < x10_1
                            · rw [if_pos c60] at H
                              rw [HTr_] at H
                              exact absurd (Option.some.inj H) (by decide)
                            · rw [if_neg c60] at H
                              have c60b0 : decide ((t374.length : Int) < x10_1) = false := decide_eq_false c60
                              clear c60
                              by_cases c72 : (t374.length : Int) > (x9_1.length : Int)
                              · rw [if_pos c72] at H
                                rw [HTr_] at H
                                exact absurd (Option.some.inj H) (by decide)
                              · rw [if_neg c72] at H
                                have c72b0 : decide ((x9_1.length : Int) < (t374.length : Int)) = false := decide_eq_false c72
                                have c72b1 : decide (x9_1.length < t374.length) = false := decide_eq_false (fun h => c72 (Int.ofNat_lt.mpr h))
                                clear c72
                                by_cases c85 : 0 ≤ (t374.length : Int)
                                · rw [if_pos c85] at H
                                  have c85b0 := eq_true c85
                                  have c85b1 : decide (0 ≤ (t374.length : Int)) = true := decide_eq_true c85
                                  clear c85
                                  by_cases c86 : (t374.length : Int) ≤ (x9_1.length : Int)
                                  · rw [if_pos c86] at H
                                    have c86b0 := eq_true c86
                                    have c86b1 : decide ((t374.length : Int) ≤ (x9_1.length : Int)) = true := decide_eq_true c86
                                    clear c86
                                    obtain ⟨y377, hy377⟩ : ∃ y_ : List (List Int), y_ = (x9_1.take ((t374.length : Int) : Int).toNat) := ⟨_, rfl⟩
                                    replace H : (banksmanlaw04_WalGoes.j2 kj6 l0 l1 l2 t342 y377 (t374.length : Int) x11_1 t370 t373) = some r := by first | (rw [hy377]; with_reducible exact H) | (have H2_ := (Option.bind_some _ _).symm.trans H; rw [hy377]; with_reducible exact H2_) | (have H2_ := (Option.bind_some _ _).symm.trans H; with_reducible exact H2_) | with_reducible exact H | (rw [hy377]; exact H) | exact H
                                    have Ny377 := Aside0.mk hy377
                                    clear hy377
                                    have H' := Aside0.mk H
                                    clear H
                                    have p360 : 0 ≤ (x11_1 : Int) := of_decide_eq_true (by first | (with_reducible assumption) | assumption)
                                    have q360 : x11_1 < (l1.length : Int) := of_decide_eq_true (by first | (with_reducible assumption) | assumption)
                                    obtain ⟨ad360, e360, hx360_0⟩ := Kd.at_int HR1.out x11_1 p360 q360
                                    obtain rfl : ad345 = ad360 := (by injection e360)
                                    replace hx360_0 := (HB.out.cell (World.block_lt_of_cell? w _ hx360_0)).trans hx360_0
                                    replace p360 := eq_true p360
                                    replace q360 := eq_true q360
                                    try go_wp2
                                    have n0_ := Aside0.mk (Kd.V_drew HO_0.out)
                                    have n1_ := Aside0.mk (Kd.N_drew HO_9.out)
                                    have n2_ := Aside0.mk (Kd.V_drew HO_344000.out)
                                    have n3_ := Aside0.mk (Kd.V_drew HL344_0.out)
                                    have n4_ := Aside0.mk (blk_drew BK343.out)
                                    have n5_ := Aside0.mk (Kd.C_drew HR344_0.out)
                                    have n6_ := Aside0.mk (below_drew1 HB.out)
                                    clear HO_0
                                    clear HO_9
                                    clear HO_344000
                                    clear HL344_0
                                    clear BK343
                                    clear HR344_0
                                    clear HB
                                    have HO_0 := n0_
                                    have HO_9 := n1_
                                    have HO_344000 := n2_
                                    have HL344_0 := n3_
                                    have BK343 := n4_
                                    have HR344_0 := n5_
                                    have HB := n6_
                                    clear n0_ n1_ n2_ n3_ n4_ n5_ n6_
                                    have p365 : 0 ≤ (x11_1 : Int) := of_decide_eq_true (by first | (with_reducible assumption) | assumption)
                                    have q365 : x11_1 < (l2.length : Int) := of_decide_eq_true (by first | (with_reducible assumption) | assumption)
                                    obtain ⟨ad365, e365, hx365_0⟩ := Kd.at_int HR2.out x11_1 p365 q365
                                    have hw365_0 := hx365_0
                                    cases e365
                                    replace hx365_0 := (HB.out.cell (World.block_lt_of_cell? w _ hx365_0)).trans hx365_0
                                    replace p365 := eq_true p365
                                    replace q365 := eq_true q365
                                    obtain ⟨Ao88, co88, eo88⟩ := Kd.V_slice HO_344000.out
                                    (first | subst eo88 | (injection eo88 with f1_ f2_ f3_; have f4_ := f1_.symm; have f5_ := f3_.symm; clear f1_ f2_ f3_; subst f4_; subst f5_))
                                    refine start_ (n := 9) (S := fun w' => w'.cell? ⟨gb343, 0, none⟩ = some (.slice Ao88 x344000_1.length co88) ∧ w'.cell? ⟨gb343, 1, none⟩ = some (.int .i64 x344001_1) ∧ w'.cell? (ad365.add (x11_1).toNat) = some (.int .u16 (rd l2 x11_1))) (ds := [8]) #[false, false, false, false, false, false, false, false, false] (by kernel_rfl) rfl rfl ⟨(blk_cell BK343.out 0).trans rfl, (blk_cell BK343.out 1).trans rfl, ((HB.out.cell (World.block_lt_of_cell? w _ hw365_0)).trans hw365_0)⟩ (fun hHeld => ?_); refine with_tabW banksmanlaw04_WalGoes.tab20 banksmanlaw04_WalGoes.bits20 (fun HT_ HW_ => ?_)
                                    generalize wc.drew = w87 at HO_0 HO_9 HO_344000 HL344_0 BK343 HR344_0 HB hx365_0 hHeld ⊢
                                    refine pure_ (i := 1) (N := some 81) (v := ?_) (a' := ?_) #[false, true, false, false, false, false, false, false, false] rfl rfl (any_of HT_.out (by kernel_rfl)) (fun _ _ _ h => h) (Or.inl ⟨by rfl, ?_⟩) ?_ ?_
                                    rotate_left
                                    · intro w'
                                      go_simp
                                      with_reducible rfl
                                    rotate_left
                                    · simp only [Act.put, List.setIfInBounds_toArray, List.set_cons_zero, List.set_cons_succ, i64_w, i32_w]
                                      rfl
                                    refine pure_ (i := 2) (N := some 82) (v := ?_) (a' := ?_) #[false, true, true, false, false, false, false, false, false] rfl rfl (any_of HT_.out (by kernel_rfl)) (fun _ _ _ h => h) (Or.inl ⟨by rfl, ?_⟩) ?_ ?_
                                    rotate_left
                                    · intro w'
                                      go_simp
                                      with_reducible rfl
                                    rotate_left
                                    · simp only [Act.put, List.setIfInBounds_toArray, List.set_cons_zero, List.set_cons_succ, i64_w, i32_w]
                                      rfl
                                    refine pure_ (i := 3) (N := some 83) (v := ?_) (a' := ?_) #[false, true, true, true, false, false, false, false, false] rfl rfl (any_of HT_.out (by kernel_rfl)) (fun _ _ _ h => h) (Or.inl ⟨by rfl, ?_⟩) ?_ ?_
                                    rotate_left
                                    · intro w'
                                      go_simp
                                      with_reducible rfl
                                    rotate_left
                                    · simp only [Act.put, List.setIfInBounds_toArray, List.set_cons_zero, List.set_cons_succ, i64_w, i32_w]
                                      rfl
                                    refine take_ (i := 0) (N := some 80) (v := ?_) (a' := ?_) #[true, true, true, true, false, false, false, false, false] rfl rfl (take_ofW HT_.out HW_.out (by kernel_rfl)) (fun _ _ _ h => h) (Or.inl ⟨by rfl, ?_⟩) hHeld ?_ ?_
                                    rotate_left
                                    · rintro w' ⟨s0, s1, s2⟩
                                      go_simp
                                      with_reducible rfl
                                    rotate_left
                                    · simp only [Act.put, List.setIfInBounds_toArray, List.set_cons_zero, List.set_cons_succ, i64_w, i32_w]
                                      rfl
                                    refine take_ (i := 4) (N := some 84) (v := ?_) (a' := ?_) #[true, true, true, true, true, false, false, false, false] rfl rfl (take_ofW HT_.out HW_.out (by kernel_rfl)) (fun _ _ _ h => h) (Or.inl ⟨by rfl, ?_⟩) hHeld ?_ ?_
                                    rotate_left
                                    · rintro w' ⟨s0, s1, s2⟩
                                      go_simp
                                      with_reducible rfl
                                    rotate_left
                                    · simp only [Act.put, List.setIfInBounds_toArray, List.set_cons_zero, List.set_cons_succ, i64_w, i32_w]
                                      rfl
                                    refine pure_ (i := 5) (N := some 85) (v := ?_) (a' := ?_) #[true, true, true, true, true, true, false, false, false] rfl rfl (any_of HT_.out (by kernel_rfl)) (fun _ _ _ h => h) (Or.inl ⟨by rfl, ?_⟩) ?_ ?_
                                    rotate_left
                                    · intro w'
                                      go_simp
                                      with_reducible rfl
                                    rotate_left
                                    · simp only [Act.put, List.setIfInBounds_toArray, List.set_cons_zero, List.set_cons_succ, i64_w, i32_w]
                                      rfl
                                    refine one_ (i := 6) (N := some 86) #[true, true, true, true, true, true, true, false, false] rfl rfl (one_of HT_.out (by kernel_rfl)) (by decide) (fun K hK => ?_)
                                    refine goes_ Try.func12 (by kernel_rfl) rfl #[.agg #[.slice Ao88 x344000_1.length co88, .int .i64 x344001_1], .int .i64 (wrap64 (rd l2 x11_1))] (by rfl) rfl rfl (by (try simp only [List.map_toArray, List.map_cons, List.map_nil]); first | done | rfl | (simp only [List.length_drop, List.length_take]; rfl)) ?_
                                    with_reducible refine (wal_Crash.calls _ _ x344000_1 x344001_1 (wrap64 (rd l2 x11_1)) t366 t369 _ ?side1 ?side2 A57.out).mono ?_
                                    (case side1 => repeat (first | exact (Kd.V_reads' HO_344000.out).2.2 | (with_reducible refine Kd.C_alloc ?_ _) | (with_reducible refine Kd.C_drewN ?_ _) | (with_reducible refine Kd.C_drew ?_)))
                                    (case side2 => exact (Kd.V_reads' HO_344000.out).2.1)
                                    rintro e w89 ⟨v367, rfl, ho0, hb⟩
                                    refine ⟨_, rfl, ?_⟩
                                    have n0_ := Aside0.mk (Kd.V_below (by (with_reducible repeat (first | apply Kd.V_alloc | apply Kd.V_drewN | apply Kd.V_drew)); exact HO_0.out) hb)
                                    have n1_ := Aside0.mk (Kd.N_below (by (with_reducible repeat (first | apply Kd.N_alloc | apply Kd.N_drewN | apply Kd.N_drew)); exact HO_9.out) hb)
                                    have n2_ := Aside0.mk (Kd.V_below (by (with_reducible repeat (first | apply Kd.V_alloc | apply Kd.V_drewN | apply Kd.V_drew)); exact HO_344000.out) hb)
                                    have n3_ := Aside0.mk (Kd.V_below (by (with_reducible repeat (first | apply Kd.V_alloc | apply Kd.V_drewN | apply Kd.V_drew)); exact HL344_0.out) hb)
                                    have n4_ := Aside0.mk (Kd.V_lower (Kd.V_mono (ok' := fun k_ => (P0_ k_ ∨ w.heap.size ≤ k_) ∧ some k_ ≠ (u9 : Value).ownBlock ∧ k_ ≠ gb343) ho0 (fun k_ hk_ => ⟨(.inr (Nat.le_trans (below_size (by repeat (first | (with_reducible first | exact HB.out | apply below_alloc | apply pw_below_drewN | apply below_drew1 | refine below_set ?_ GE343.out) | exact HB.out))) hk_)), (Kd.fresh' (Kd.N_lt (by (with_reducible repeat (first | apply Kd.N_alloc | apply Kd.N_drewN | apply Kd.N_drew)); exact HO_9.out)) k_ hk_), (Kd.freshB (g := gb343) (o := .cells #[.slice Ao88 x344000_1.length co88, .int .i64 x344001_1] 26 (0, 0)) (by (with_reducible repeat (first | refine blk_drewN ?_ _ | refine blk_drew ?_ | refine blk_alloc ?_ _)); exact BK343.out) k_ hk_)⟩)) (below_size (by repeat (first | (with_reducible first | exact HB.out | apply below_alloc | apply pw_below_drewN | apply below_drew1 | refine below_set ?_ GE343.out) | exact HB.out))))
                                    have n5_ := Aside0.mk (blk_below (g := gb343) (o := .cells #[.slice Ao88 x344000_1.length co88, .int .i64 x344001_1] 26 (0, 0)) (by (with_reducible repeat (first | refine blk_drewN ?_ _ | refine blk_drew ?_ | refine blk_alloc ?_ _)); exact BK343.out) hb)
                                    have n6_ := Aside0.mk (Kd.C_below (by repeat (first | (with_reducible exact HR344_0.out) | (with_reducible refine Kd.C_alloc ?_ _) | (with_reducible refine Kd.C_drewN ?_ _) | (with_reducible refine Kd.C_drew ?_) | exact HR344_0.out)) hb)
                                    have n7_ := Aside0.mk (below_step (by repeat (first | (with_reducible first | exact HB.out | apply below_alloc | apply pw_below_drewN | apply below_drew1 | refine below_set ?_ GE343.out) | exact HB.out)) hb)
                                    clear HO_0
                                    clear HO_9
                                    clear HO_344000
                                    clear HL344_0
                                    clear BK343
                                    clear HR344_0
                                    clear HB
                                    have HO_0 := n0_
                                    have HO_9 := n1_
                                    have HO_344000 := n2_
                                    have HL344_0 := n3_
                                    have HO368 := n4_
                                    have BK343 := n5_
                                    have HR344_0 := n6_
                                    have HB := n7_
                                    clear n0_ n1_ n2_ n3_ n4_ n5_ n6_ n7_
                                    (try clear hb)
                                    (try clear hb2)
                                    (try clear hk)
                                    (try clear hi)
                                    (try clear ho0)
                                    obtain ⟨Ao90, co90, eo90⟩ := Kd.V_slice HO368.out
                                    (first | subst eo90 | (injection eo90 with f1_ f2_ f3_; have f4_ := f1_.symm; have f5_ := f3_.symm; clear f1_ f2_ f3_; subst f4_; subst f5_))
                                    refine hK.out _ _ ⟨(blk_cell BK343.out 0).trans rfl, (blk_cell BK343.out 1).trans rfl, ((HB.out.cell (World.block_lt_of_cell? w _ hw365_0)).trans hw365_0)⟩ (fun hHeld => ?_)
                                    clear hK K
                                    refine norm_ (a' := ?_) ?_ ?_
                                    rotate_left
                                    · show Act.put _ (some 86) _ = _
                                      simp only [Act.put, List.setIfInBounds_toArray, List.set_cons_zero, List.set_cons_succ, i64_w, i32_w]
                                      rfl
                                    refine one_ (i := 7) (N := some 87) #[true, true, true, true, true, true, true, true, false] rfl rfl (one_of HT_.out (by kernel_rfl)) (by decide) (fun K hK => ?_)
                                    refine goes_ Try.func11 (by kernel_rfl) rfl #[.agg #[.slice Ao90 t366.length co90, .int .i64 t369]] (by rfl) rfl rfl (by (try simp only [List.map_toArray, List.map_cons, List.map_nil]); first | done | rfl | (simp only [List.length_drop, List.length_take]; rfl)) ?_
                                    with_reducible refine (wal_Trim.calls _ _ t366 t369 t370 t373 _ ?side1 ?side2 A58.out).mono ?_
                                    (case side1 => repeat (first | exact (Kd.V_reads' HO368.out).2.2 | (with_reducible refine Kd.C_alloc ?_ _) | (with_reducible refine Kd.C_drewN ?_ _) | (with_reducible refine Kd.C_drew ?_)))
                                    (case side2 => exact (Kd.V_reads' HO368.out).2.1)
                                    rintro e w91 ⟨v371, rfl, ho0, hb⟩
                                    refine ⟨_, rfl, ?_⟩
                                    have n0_ := Aside0.mk (Kd.V_below (by (with_reducible repeat (first | apply Kd.V_alloc | apply Kd.V_drewN | apply Kd.V_drew)); exact HO_0.out) hb)
                                    have n1_ := Aside0.mk (Kd.N_below (by (with_reducible repeat (first | apply Kd.N_alloc | apply Kd.N_drewN | apply Kd.N_drew)); exact HO_9.out) hb)
                                    have n2_ := Aside0.mk (Kd.V_below (by (with_reducible repeat (first | apply Kd.V_alloc | apply Kd.V_drewN | apply Kd.V_drew)); exact HO_344000.out) hb)
                                    have n3_ := Aside0.mk (Kd.V_below (by (with_reducible repeat (first | apply Kd.V_alloc | apply Kd.V_drewN | apply Kd.V_drew)); exact HL344_0.out) hb)
                                    have n4_ := Aside0.mk (Kd.V_below (by (with_reducible repeat (first | apply Kd.V_alloc | apply Kd.V_drewN | apply Kd.V_drew)); exact HO368.out) hb)
                                    have n5_ := Aside0.mk (Kd.V_lower (Kd.V_mono (ok' := fun k_ => (P0_ k_ ∨ w.heap.size ≤ k_) ∧ some k_ ≠ (u9 : Value).ownBlock ∧ k_ ≠ gb343) ho0 (fun k_ hk_ => ⟨(.inr (Nat.le_trans (below_size (by repeat (first | (with_reducible first | exact HB.out | apply below_alloc | apply pw_below_drewN | apply below_drew1 | refine below_set ?_ GE343.out) | exact HB.out))) hk_)), (Kd.fresh' (Kd.N_lt (by (with_reducible repeat (first | apply Kd.N_alloc | apply Kd.N_drewN | apply Kd.N_drew)); exact HO_9.out)) k_ hk_), (Kd.freshB (g := gb343) (o := .cells #[.slice Ao88 x344000_1.length co88, .int .i64 x344001_1] 26 (0, 0)) (by (with_reducible repeat (first | refine blk_drewN ?_ _ | refine blk_drew ?_ | refine blk_alloc ?_ _)); exact BK343.out) k_ hk_)⟩)) (below_size (by repeat (first | (with_reducible first | exact HB.out | apply below_alloc | apply pw_below_drewN | apply below_drew1 | refine below_set ?_ GE343.out) | exact HB.out))))
                                    have n6_ := Aside0.mk (blk_below (g := gb343) (o := .cells #[.slice Ao88 x344000_1.length co88, .int .i64 x344001_1] 26 (0, 0)) (by (with_reducible repeat (first | refine blk_drewN ?_ _ | refine blk_drew ?_ | refine blk_alloc ?_ _)); exact BK343.out) hb)
                                    have n7_ := Aside0.mk (Kd.C_below (by repeat (first | (with_reducible exact HR344_0.out) | (with_reducible refine Kd.C_alloc ?_ _) | (with_reducible refine Kd.C_drewN ?_ _) | (with_reducible refine Kd.C_drew ?_) | exact HR344_0.out)) hb)
                                    have n8_ := Aside0.mk (below_step (by repeat (first | (with_reducible first | exact HB.out | apply below_alloc | apply pw_below_drewN | apply below_drew1 | refine below_set ?_ GE343.out) | exact HB.out)) hb)
                                    clear HO_0
                                    clear HO_9
                                    clear HO_344000
                                    clear HL344_0
                                    clear HO368
                                    clear BK343
                                    clear HR344_0
                                    clear HB
                                    have HO_0 := n0_
                                    have HO_9 := n1_
                                    have HO_344000 := n2_
                                    have HL344_0 := n3_
                                    have HO368 := n4_
                                    have HO372 := n5_
                                    have BK343 := n6_
                                    have HR344_0 := n7_
                                    have HB := n8_
                                    clear n0_ n1_ n2_ n3_ n4_ n5_ n6_ n7_ n8_
                                    (try clear hb)
                                    (try clear hb2)
                                    (try clear hk)
                                    (try clear hi)
                                    (try clear ho0)
                                    obtain ⟨Ao92, co92, eo92⟩ := Kd.V_slice HO372.out
                                    (first | subst eo92 | (injection eo92 with f1_ f2_ f3_; have f4_ := f1_.symm; have f5_ := f3_.symm; clear f1_ f2_ f3_; subst f4_; subst f5_))
                                    refine hK.out _ _ ⟨(blk_cell BK343.out 0).trans rfl, (blk_cell BK343.out 1).trans rfl, ((HB.out.cell (World.block_lt_of_cell? w _ hw365_0)).trans hw365_0)⟩ (fun hHeld => ?_)
                                    clear hK K
                                    refine norm_ (a' := ?_) ?_ ?_
                                    rotate_left
                                    · show Act.put _ (some 87) _ = _
                                      simp only [Act.put, List.setIfInBounds_toArray, List.set_cons_zero, List.set_cons_succ, i64_w, i32_w]
                                      rfl
                                    refine last_ (i := 8) (N := none) #[true, true, true, true, true, true, true, true, true] rfl rfl (one_of HT_.out (by kernel_rfl)) (by decide) (fun K hK => ?_)
                                    have hs93 : w91.cell? ⟨gb343, 0, none⟩ = some (.slice Ao88 x344000_1.length co88) := (blk_cell BK343.out 0).trans rfl
                                    have hfs93 := blk_frozen BK343.out 0
                                    have hs94 : w91.cell? ⟨gb343, 1, none⟩ = some (.int .i64 x344001_1) := (blk_cell BK343.out 1).trans rfl
                                    have hfs94 := blk_frozen BK343.out 1
                                    refine skip_ (w1 := ?_) (by rfl) rfl ?_ ?_
                                    rotate_left
                                    · go_simp
                                      rfl
                                    refine hK.out _ _ ?_
                                    clear hK K
                                    refine done_ (done_of HT_.out (by kernel_rfl)) ?_
                                    have hcz95_0 : w91.cell? ⟨gb343, 0, none⟩ = some (.slice Ao88 x344000_1.length co88) := (blk_cell BK343.out 0).trans rfl
                                    have hcz95_1 : w91.cell? ⟨gb343, 1, none⟩ = some (.int .i64 x344001_1) := (blk_cell BK343.out 1).trans rfl
                                    have hfz95_0 := blk_frozen BK343.out 0
                                    have hfz95_1 := blk_frozen BK343.out 1
                                    try go_wp2_with (first | ((with_reducible refine gate_callee (f := 13) rfl ?_); refine goesL_ (some 89) rfl rfl Try.func13 (by kernel_rfl) rfl #[.agg #[.slice Ao92 t370.length co92, .int .i64 t373]] rfl (by (try simp only [List.map_toArray, List.map_cons, List.map_nil]); first | done | rfl | (simp only [List.length_drop, List.length_take]; rfl)) ?_; (with_reducible refine (wal_Texts.calls _ _ t370 t373 t374 _ ?side1 ?side2 A59.out).mono ?_); (case side1 => refine (Kd.V_reads' (e := 5) (base := w.heap.size) (ok := fun k_ => ((P0_ k_ ∨ w.heap.size ≤ k_) ∧ (some k_ ≠ (u9 : Value).ownBlock ∧ k_ ≠ gb343))) (n := t370.length) (c := co92) ?_).2.2; exact (by (with_reducible repeat (first | apply Kd.V_alloc | apply Kd.V_drewN | apply Kd.V_drew)); exact (Kd.V_mono (Kd.V_far (p := ⟨gb343, 1, none⟩) (Kd.V_far (p := ⟨gb343, 0, none⟩) (Kd.V_mono HO372.out (fun k_ hk => (⟨hk, hk.2.2⟩ : _ ∧ k_ ≠ gb343))) (fun _ hk => hk.2) (.slice Ao92 t370.length co92)) (fun _ hk => hk.2) (.int .i64 t373)) (fun _ h_ => h_.1)))); (case side2 => exact (Kd.V_reads' HO372.out).2.1); rintro e w96 ⟨v375, rfl, ho0, hb⟩; refine ⟨_, rfl, ?_⟩; have n0_ := Aside0.mk (Kd.V_elder' (by (with_reducible repeat (first | apply Kd.V_alloc | apply Kd.V_drewN | apply Kd.V_drew)); exact (Kd.V_mono (Kd.V_far (p := ⟨gb343, 1, none⟩) (Kd.V_far (p := ⟨gb343, 0, none⟩) (Kd.V_mono HO_0.out (fun k_ hk => (⟨hk, hk.2.2⟩ : _ ∧ k_ ≠ gb343))) (fun _ hk => hk.2) (.slice Ao92 t370.length co92)) (fun _ hk => hk.2) (.int .i64 t373)) (fun _ h_ => h_.1))) (Kd.N_base ho0) hb); have n1_ := Aside0.mk (Kd.N_elder' (by (with_reducible repeat (first | apply Kd.N_alloc | apply Kd.N_drewN | apply Kd.N_drew)); exact (Kd.N_mono (Kd.N_far (p := ⟨gb343, 1, none⟩) (Kd.N_far (p := ⟨gb343, 0, none⟩) (Kd.N_mono HO_9.out (fun k_ hk => (⟨hk, hk.2⟩ : _ ∧ k_ ≠ gb343))) (fun _ hk => hk.2) (.slice Ao92 t370.length co92)) (fun _ hk => hk.2) (.int .i64 t373)) (fun _ h_ => h_.1))) (Kd.N_base ho0) hb); have n2_ := Aside0.mk (Kd.V_elder' (by (with_reducible repeat (first | apply Kd.V_alloc | apply Kd.V_drewN | apply Kd.V_drew)); exact (Kd.V_mono (Kd.V_far (p := ⟨gb343, 1, none⟩) (Kd.V_far (p := ⟨gb343, 0, none⟩) (Kd.V_mono HO_344000.out (fun k_ hk => (⟨hk, hk.2.2⟩ : _ ∧ k_ ≠ gb343))) (fun _ hk => hk.2) (.slice Ao92 t370.length co92)) (fun _ hk => hk.2) (.int .i64 t373)) (fun _ h_ => h_.1))) (Kd.N_base ho0) hb); have n3_ := Aside0.mk (Kd.V_elder' (by (with_reducible repeat (first | apply Kd.V_alloc | apply Kd.V_drewN | apply Kd.V_drew)); exact (Kd.V_mono (Kd.V_far (p := ⟨gb343, 1, none⟩) (Kd.V_far (p := ⟨gb343, 0, none⟩) (Kd.V_mono HL344_0.out (fun k_ hk => (⟨hk, hk.2.2⟩ : _ ∧ k_ ≠ gb343))) (fun _ hk => hk.2) (.slice Ao92 t370.length co92)) (fun _ hk => hk.2) (.int .i64 t373)) (fun _ h_ => h_.1))) (Kd.N_base ho0) hb); have n4_ := Aside0.mk (Kd.V_elder' (by (with_reducible repeat (first | apply Kd.V_alloc | apply Kd.V_drewN | apply Kd.V_drew)); exact (Kd.V_mono (Kd.V_far (p := ⟨gb343, 1, none⟩) (Kd.V_far (p := ⟨gb343, 0, none⟩) (Kd.V_mono HO368.out (fun k_ hk => (⟨hk, hk.2.2⟩ : _ ∧ k_ ≠ gb343))) (fun _ hk => hk.2) (.slice Ao92 t370.length co92)) (fun _ hk => hk.2) (.int .i64 t373)) (fun _ h_ => h_.1))) (Kd.N_base ho0) hb); have n5_ := Aside0.mk (Kd.V_elder' (by (with_reducible repeat (first | apply Kd.V_alloc | apply Kd.V_drewN | apply Kd.V_drew)); exact (Kd.V_mono (Kd.V_far (p := ⟨gb343, 1, none⟩) (Kd.V_far (p := ⟨gb343, 0, none⟩) (Kd.V_mono HO372.out (fun k_ hk => (⟨hk, hk.2.2⟩ : _ ∧ k_ ≠ gb343))) (fun _ hk => hk.2) (.slice Ao92 t370.length co92)) (fun _ hk => hk.2) (.int .i64 t373)) (fun _ h_ => h_.1))) (Kd.N_base ho0) hb); have n6_ := Aside0.mk (Kd.N_lower (Kd.N_mono (ok' := fun k_ => (P0_ k_ ∨ w.heap.size ≤ k_) ∧ some k_ ≠ (u9 : Value).ownBlock ∧ k_ ≠ gb343) ho0 (fun k_ hk_ => ⟨(.inr (Nat.le_trans (below_size (by repeat (first | (with_reducible first | exact HB.out | apply below_alloc | apply pw_below_drewN | apply below_drew1 | refine below_set ?_ GE343.out) | exact HB.out))) hk_)), (Kd.fresh' (Kd.N_lt (by (with_reducible repeat (first | apply Kd.N_alloc | apply Kd.N_drewN | apply Kd.N_drew)); exact (Kd.N_mono (Kd.N_far (p := ⟨gb343, 1, none⟩) (Kd.N_far (p := ⟨gb343, 0, none⟩) (Kd.N_mono HO_9.out (fun k_ hk => (⟨hk, hk.2⟩ : _ ∧ k_ ≠ gb343))) (fun _ hk => hk.2) (.slice Ao92 t370.length co92)) (fun _ hk => hk.2) (.int .i64 t373)) (fun _ h_ => h_.1)))) k_ hk_), (Kd.freshB (g := gb343) (o := .cells #[.slice Ao92 t370.length co92, .int .i64 t373] 26 (0, 0)) (by (with_reducible repeat (first | refine blk_drewN ?_ _ | refine blk_drew ?_ | refine blk_alloc ?_ _)); refine blk_put (cs := #[.slice Ao92 t370.length co92, .int .i64 x344001_1]) ?_ 1 _ rfl; (with_reducible repeat (first | refine blk_drewN ?_ _ | refine blk_drew ?_ | refine blk_alloc ?_ _)); refine blk_put (cs := #[.slice Ao88 x344000_1.length co88, .int .i64 x344001_1]) ?_ 0 _ rfl; (with_reducible repeat (first | refine blk_drewN ?_ _ | refine blk_drew ?_ | refine blk_alloc ?_ _)); exact BK343.out) k_ hk_)⟩)) (below_size (by repeat (first | (with_reducible first | exact HB.out | apply below_alloc | apply pw_below_drewN | apply below_drew1 | refine below_set ?_ GE343.out) | exact HB.out)))); have n7_ := Aside0.mk (blk_below (g := gb343) (o := .cells #[.slice Ao92 t370.length co92, .int .i64 t373] 26 (0, 0)) (by (with_reducible repeat (first | refine blk_drewN ?_ _ | refine blk_drew ?_ | refine blk_alloc ?_ _)); refine blk_put (cs := #[.slice Ao92 t370.length co92, .int .i64 x344001_1]) ?_ 1 _ rfl; (with_reducible repeat (first | refine blk_drewN ?_ _ | refine blk_drew ?_ | refine blk_alloc ?_ _)); refine blk_put (cs := #[.slice Ao88 x344000_1.length co88, .int .i64 x344001_1]) ?_ 0 _ rfl; (with_reducible repeat (first | refine blk_drewN ?_ _ | refine blk_drew ?_ | refine blk_alloc ?_ _)); exact BK343.out) hb); have n8_ := Aside0.mk (Kd.C_below ((Kd.V_reads' (by (with_reducible repeat (first | apply Kd.V_alloc | apply Kd.V_drewN | apply Kd.V_drew)); exact (Kd.V_mono (Kd.V_far (p := ⟨gb343, 1, none⟩) (Kd.V_far (p := ⟨gb343, 0, none⟩) (Kd.V_mono HL344_0.out (fun k_ hk => (⟨hk, hk.2.2⟩ : _ ∧ k_ ≠ gb343))) (fun _ hk => hk.2) (.slice Ao92 t370.length co92)) (fun _ hk => hk.2) (.int .i64 t373)) (fun _ h_ => h_.1)))).2.2) hb); have n9_ := Aside0.mk (below_step (by repeat (first | (with_reducible first | exact HB.out | apply below_alloc | apply pw_below_drewN | apply below_drew1 | refine below_set ?_ GE343.out) | exact HB.out)) hb); clear HO_0; clear HO_9; clear HO_344000; clear HL344_0; clear HO368; clear HO372; clear BK343; clear HR344_0; clear HB; have HO_0 := n0_; have HO_9 := n1_; have HO_344000 := n2_; have HL344_0 := n3_; have HO368 := n4_; have HO372 := n5_; have HO376 := n6_; have BK343 := n7_; have HR344_0 := n8_; have HB := n9_; clear n0_ n1_ n2_ n3_ n4_ n5_ n6_ n7_ n8_ n9_; (try clear hb); (try clear hb2); (try clear hk); (try clear hi); (try clear ho0); obtain ⟨Ao97, co97, eo97⟩ := Kd.N_slice HO376.out; subst eo97; obtain ⟨Ao98, co98, eo98⟩ := Kd.N_slice HO_9.out; subst eo98; have q99 : ((t374.length : Int) : Int) ≤ ((x9_1.length : Int) : Int) := of_decide_eq_true (by first | (with_reducible assumption) | assumption); obtain ⟨i099, hi099, _, hsz99, _⟩ := info_parts info23; have hcut99 := cut_to (P := Try.prog) 22 23 .i64 Try.underlying22 hi099 Ao98 x9_1.length co98 (t374.length : Int) (of_decide_eq_true (by first | (with_reducible assumption) | assumption)) q99 (Kd.N_reads' HO_9.out).2.1; have hr99 := Kd.N_take (m := ((t374.length : Int) : Int).toNat) HO_9.out (by omega); have hy99 : y377.length = ((t374.length : Int) : Int).toNat := (by rw [Ny377.out, List.length_take]; omega); rw [← Ny377.out] at hr99; rw [← hy99] at hr99 hcut99; clear hy99 hi099 hsz99 HO_9; have HO379 := Aside0.mk hr99; clear hr99; replace q99 := eq_true q99))
                                    go_meet
                                    case rel => exact ⟨_, (y377), ((t374.length : Int)), (t370), (t373), (.slice Ao92 t370.length co92), (by first | rfl | (simp; done) | (simp [*]; done)), H', ⟨by have := HK1.out; have := HJ6.out; first | omega | exact Nat.le_refl _⟩, ⟨by (with_reducible repeat (first | apply Kd.V_alloc | apply Kd.V_drewN | apply Kd.V_drew)); exact Kd.V_mono HO_0.out (fun _ hk => by first | exact ⟨hk.1.1, ⟨hk.1.2.1, hk.1.2.2⟩⟩ | (simp only [own_lenA] at hk ⊢; exact ⟨hk.1.1, ⟨hk.1.2.1, hk.1.2.2⟩⟩))⟩, ⟨by (with_reducible repeat (first | apply Kd.N_alloc | apply Kd.N_drewN | apply Kd.N_drew)); exact Kd.N_mono HO379.out (fun _ hk => by first | exact ⟨hk.1.1, hk.1.2⟩ | (simp only [own_lenA] at hk ⊢; exact ⟨hk.1.1, hk.1.2⟩))⟩, ⟨by (with_reducible repeat (first | apply Kd.V_alloc | apply Kd.V_drewN | apply Kd.V_drew)); exact Kd.V_mono HO372.out (fun _ hk => by first | exact ⟨hk.1.1, ⟨hk.1.2.1, hk.1.2.2⟩⟩ | (simp only [own_lenA] at hk ⊢; exact ⟨hk.1.1, ⟨hk.1.2.1, hk.1.2.2⟩⟩))⟩, ⟨by (with_reducible repeat (first | refine blk_drewN ?_ _ | refine blk_drew ?_ | refine blk_alloc ?_ _)); exact BK343.out⟩, ⟨by repeat (first | (with_reducible first | exact HB.out | apply below_alloc | apply pw_below_drewN | apply below_drew1 | refine below_set ?_ GE343.out) | exact HB.out)⟩⟩
                                  · rw [if_neg c86] at H
                                    exact absurd H (by simp)
                                · rw [if_neg c85] at H
                                  exact absurd H (by simp)
                          · rw [if_neg c56] at H
                            have c56b0 : decide (x11_1 < (l2.length : Int)) = false := decide_eq_false c56
                            clear c56
                            have H' := Aside0.mk H
                            clear H
                            have p360 : 0 ≤ (x11_1 : Int) := of_decide_eq_true (by first | (with_reducible assumption) | assumption)
                            have q360 : x11_1 < (l1.length : Int) := of_decide_eq_true (by first | (with_reducible assumption) | assumption)
                            obtain ⟨ad360, e360, hx360_0⟩ := Kd.at_int HR1.out x11_1 p360 q360
                            obtain rfl : ad345 = ad360 := (by injection e360)
                            replace hx360_0 := (HB.out.cell (World.block_lt_of_cell? w _ hx360_0)).trans hx360_0
                            replace p360 := eq_true p360
                            replace q360 := eq_true q360
                            go_wp2
                            go_meet
                            case rel => exact ⟨_, (x9_1), (x10_1), (x344000_1), (x344001_1), (u344000), (by first | rfl | (simp; done) | (simp [*]; done)), H', ⟨by have := HK1.out; have := HJ6.out; first | omega | exact Nat.le_refl _⟩, ⟨by (with_reducible repeat (first | apply Kd.V_alloc | apply Kd.V_drewN | apply Kd.V_drew)); exact HO_0.out⟩, ⟨by (with_reducible repeat (first | apply Kd.N_alloc | apply Kd.N_drewN | apply Kd.N_drew)); exact HO_9.out⟩, ⟨by (with_reducible repeat (first | apply Kd.V_alloc | apply Kd.V_drewN | apply Kd.V_drew)); exact HO_344000.out⟩, ⟨by (with_reducible repeat (first | refine blk_drewN ?_ _ | refine blk_drew ?_ | refine blk_alloc ?_ _)); exact BK343.out⟩, ⟨by repeat (first | (with_reducible first | exact HB.out | apply below_alloc | apply pw_below_drewN | apply below_drew1 | refine below_set ?_ GE343.out) | exact HB.out)⟩⟩
                    case rest =>
                      clear HC15
                      try clear c1
                      try clear p2
                      try clear p3
                      try clear q3
                      try clear hx3
                      try clear c5
                      try clear c6
                      try clear p6
                      try clear c7
                      try clear c8
                      try clear q9
                      try clear c11
                      try clear c12
                      try clear c13
                      try clear p36
                      try clear q36
                      try clear hx36
                      try clear c56
                      try clear c56b0
                      try clear c60
                      try clear c60b0
                      try clear p64
                      try clear c72
                      try clear c72b0
                      try clear c72b1
                      try clear c85
                      try clear c85b0
                      try clear c85b1
                      try clear c86
                      try clear c86b0
                      try clear c86b1
                      try clear q99
                      try clear hcz69_0
                      try clear hcz69_1
                      try clear hcz81_0
                      try clear hcz81_1
                      try clear hcz95_0
                      try clear hcz95_1
                      try clear hfz69_0
                      try clear hfz69_1
                      try clear hfz81_0
                      try clear hfz81_1
                      try clear hfz95_0
                      try clear hfz95_1
                      try clear hx360_0
                      try clear hx365_0
                      try clear p360
                      try clear p365
                      try clear q360
                      try clear q365
                      try clear q99
                      obtain ⟨kq, x9_14, x10_14, x344000_14, x344001_14, u344000, rfl, HA, HJ14, HO_0, HO_9, HO_344000, BK343, HB⟩ := hcut
                      cases kq with
                      | zero => exact absurd HA.out (by simp [banksmanlaw04_WalGoes.j2])
                      | succ kj14 =>
                        have H := HA.out
                        clear HA
                        simp only [banksmanlaw04_WalGoes.j2] at H
                        replace H := Option.bind_eq_some_iff.mp H
                        obtain ⟨t380, A1000, H⟩ := H
                        replace H : ((banksmanref03_Same.f kj14 t380 x9_14).bind fun t383 => (if t383 = true then ((wal_Check.f x344000_14 x344001_14).bind fun t384 => (if t384 = true then (banksmanlaw04_WalGoes.l0 kj14 l0 l1 l2 t342 x9_14 x10_14 (wrap64 (x11_1 + 1)) x344000_14 x344001_14) else (some false))) else (some false))) = some r := H
                        have A100 := Aside0.mk A1000
                        clear A1000
                        replace H := Option.bind_eq_some_iff.mp H
                        obtain ⟨t383, A1010, H⟩ := H
                        replace H : (if t383 = true then ((wal_Check.f x344000_14 x344001_14).bind fun t384 => (if t384 = true then (banksmanlaw04_WalGoes.l0 kj14 l0 l1 l2 t342 x9_14 x10_14 (wrap64 (x11_1 + 1)) x344000_14 x344001_14) else (some false))) else (some false)) = some r := H
                        have A101 := Aside0.mk A1010
                        clear A1010
                        by_cases c102 : t383 = true
                        · subst c102
                          have H1 : ((wal_Check.f x344000_14 x344001_14).bind fun t384 => (if t384 = true then (banksmanlaw04_WalGoes.l0 kj14 l0 l1 l2 t342 x9_14 x10_14 (wrap64 (x11_1 + 1)) x344000_14 x344001_14) else (some false))) = some r := by rw [if_pos rfl] at H; exact H
                          clear H
                          have H := H1
                          clear H1
                          replace H := Option.bind_eq_some_iff.mp H
                          obtain ⟨t384, A1030, H⟩ := H
                          replace H : (if t384 = true then (banksmanlaw04_WalGoes.l0 kj14 l0 l1 l2 t342 x9_14 x10_14 (wrap64 (x11_1 + 1)) x344000_14 x344001_14) else (some false)) = some r := H
                          have A103 := Aside0.mk A1030
                          clear A1030
                          by_cases c104 : t384 = true
                          · subst c104
                            have H1 : (banksmanlaw04_WalGoes.l0 kj14 l0 l1 l2 t342 x9_14 x10_14 (wrap64 (x11_1 + 1)) x344000_14 x344001_14) = some r := by rw [if_pos rfl] at H; exact H
                            clear H
                            have H := H1
                            clear H1
                            have H' := Aside0.mk H
                            clear H
                            have hcz105_0 : wc.cell? ⟨gb343, 0, none⟩ = some (u344000) := (blk_cell BK343.out 0).trans rfl
                            have hcz105_1 : wc.cell? ⟨gb343, 1, none⟩ = some (.int .i64 x344001_14) := (blk_cell BK343.out 1).trans rfl
                            have hfz105_0 := blk_frozen BK343.out 0
                            have hfz105_1 := blk_frozen BK343.out 1
                            obtain ⟨Ao106, co106, eo106⟩ := Kd.V_slice HO_344000.out
                            subst eo106
                            go_wp2_with (first | ((with_reducible refine gate_callee (f := 13) rfl ?_); refine goesL_ (some 108) rfl rfl Try.func13 (by kernel_rfl) rfl #[.agg #[.slice Ao106 x344000_14.length co106, .int .i64 x344001_14]] rfl (by (try simp only [List.map_toArray, List.map_cons, List.map_nil]); first | done | rfl | (simp only [List.length_drop, List.length_take]; rfl)) ?_; (with_reducible refine (wal_Texts.calls _ _ x344000_14 x344001_14 t380 _ ?side1 ?side2 A100.out).mono ?_); (case side1 => repeat (first | exact (Kd.V_reads' HO_344000.out).2.2 | (with_reducible refine Kd.C_alloc ?_ _) | (with_reducible refine Kd.C_drewN ?_ _) | (with_reducible refine Kd.C_drew ?_))); (case side2 => exact (Kd.V_reads' HO_344000.out).2.1); rintro e w107 ⟨v381, rfl, ho0, hb⟩; refine ⟨_, rfl, ?_⟩; have n0_ := Aside0.mk (Kd.V_elder' (by (with_reducible repeat (first | apply Kd.V_alloc | apply Kd.V_drewN | apply Kd.V_drew)); exact HO_0.out) (Kd.N_base ho0) hb); have n1_ := Aside0.mk (Kd.N_elder' (by (with_reducible repeat (first | apply Kd.N_alloc | apply Kd.N_drewN | apply Kd.N_drew)); exact HO_9.out) (Kd.N_base ho0) hb); have n2_ := Aside0.mk (Kd.V_elder' (by (with_reducible repeat (first | apply Kd.V_alloc | apply Kd.V_drewN | apply Kd.V_drew)); exact HO_344000.out) (Kd.N_base ho0) hb); have n3_ := Aside0.mk (Kd.N_lower (Kd.N_mono (ok' := fun k_ => (P0_ k_ ∨ w.heap.size ≤ k_) ∧ some k_ ≠ (u9 : Value).ownBlock ∧ k_ ≠ gb343) ho0 (fun k_ hk_ => ⟨(.inr (Nat.le_trans (below_size (by repeat (first | (with_reducible first | exact HB.out | apply below_alloc | apply pw_below_drewN | apply below_drew1 | refine below_set ?_ GE343.out) | exact HB.out))) hk_)), (Kd.fresh' (Kd.N_lt (by (with_reducible repeat (first | apply Kd.N_alloc | apply Kd.N_drewN | apply Kd.N_drew)); exact HO_9.out)) k_ hk_), (Kd.freshB (g := gb343) (o := .cells #[.slice Ao106 x344000_14.length co106, .int .i64 x344001_14] 26 (0, 0)) (by (with_reducible repeat (first | refine blk_drewN ?_ _ | refine blk_drew ?_ | refine blk_alloc ?_ _)); exact BK343.out) k_ hk_)⟩)) (below_size (by repeat (first | (with_reducible first | exact HB.out | apply below_alloc | apply pw_below_drewN | apply below_drew1 | refine below_set ?_ GE343.out) | exact HB.out)))); have n4_ := Aside0.mk (blk_below (g := gb343) (o := .cells #[.slice Ao106 x344000_14.length co106, .int .i64 x344001_14] 26 (0, 0)) (by (with_reducible repeat (first | refine blk_drewN ?_ _ | refine blk_drew ?_ | refine blk_alloc ?_ _)); exact BK343.out) hb); have n5_ := Aside0.mk (below_step (by repeat (first | (with_reducible first | exact HB.out | apply below_alloc | apply pw_below_drewN | apply below_drew1 | refine below_set ?_ GE343.out) | exact HB.out)) hb); clear HO_0; clear HO_9; clear HO_344000; clear BK343; clear HB; have HO_0 := n0_; have HO_9 := n1_; have HO_344000 := n2_; have HO382 := n3_; have BK343 := n4_; have HB := n5_; clear n0_ n1_ n2_ n3_ n4_ n5_; (try clear hb); (try clear hb2); (try clear hk); (try clear hi); (try clear ho0); obtain ⟨Ao108, co108, eo108⟩ := Kd.N_slice HO382.out; subst eo108; obtain ⟨Ao109, co109, eo109⟩ := Kd.N_slice HO_9.out; subst eo109) | ((with_reducible refine gate_callee (f := 14) rfl ?_); refine goesL_ (some 110) rfl rfl Try.func14 (by kernel_rfl) rfl #[.slice Ao108 t380.length co108, .slice Ao109 x9_14.length co109] rfl (by (try simp only [List.map_toArray, List.map_cons, List.map_nil]); first | done | rfl | (simp only [List.length_drop, List.length_take]; rfl)) ?_; (with_reducible refine (banksmanref03_Same.calls kj14 _ _ t380 _ _ x9_14 true _ ?side1 ?side2 ?side3 ?side4 A101.out).mono ?_); (case side1 => repeat (first | exact (Kd.N_reads' HO382.out).2.2 | (with_reducible refine Kd.C_alloc ?_ _) | (with_reducible refine Kd.C_drewN ?_ _) | (with_reducible refine Kd.C_drew ?_))); (case side2 => exact (Kd.N_reads' HO382.out).2.1); (case side3 => repeat (first | exact (Kd.N_reads' HO_9.out).2.2 | (with_reducible refine Kd.C_alloc ?_ _) | (with_reducible refine Kd.C_drewN ?_ _) | (with_reducible refine Kd.C_drew ?_))); (case side4 => exact (Kd.N_reads' HO_9.out).2.1); rintro e w' ⟨rfl, ⟨nd, rfl⟩⟩; refine ⟨_, rfl, ?_⟩; have hcz110_0 : w107.cell? ⟨gb343, 0, none⟩ = some (.slice Ao106 x344000_14.length co106) := (blk_cell BK343.out 0).trans rfl; have hcz110_1 : w107.cell? ⟨gb343, 1, none⟩ = some (.int .i64 x344001_14) := (blk_cell BK343.out 1).trans rfl; have hfz110_0 := blk_frozen BK343.out 0; have hfz110_1 := blk_frozen BK343.out 1) | (go_at_call 18; (with_reducible refine (wal_Check.calls _ _ x344000_14 x344001_14 true _ ?side1 ?side2 A103.out).mono ?_); (case side1 => repeat (first | exact (Kd.V_reads' HO_344000.out).2.2 | (with_reducible refine Kd.C_alloc ?_ _) | (with_reducible refine Kd.C_drewN ?_ _) | (with_reducible refine Kd.C_drew ?_))); (case side2 => exact (Kd.V_reads' HO_344000.out).2.1); rintro e w111 ⟨rfl, hb⟩; have n0_ := Aside0.mk (Kd.V_below (by (with_reducible repeat (first | apply Kd.V_alloc | apply Kd.V_drewN | apply Kd.V_drew)); exact HO_0.out) hb); have n1_ := Aside0.mk (Kd.N_below (by (with_reducible repeat (first | apply Kd.N_alloc | apply Kd.N_drewN | apply Kd.N_drew)); exact HO_9.out) hb); have n2_ := Aside0.mk (Kd.V_below (by (with_reducible repeat (first | apply Kd.V_alloc | apply Kd.V_drewN | apply Kd.V_drew)); exact HO_344000.out) hb); have n3_ := Aside0.mk (Kd.N_below (by (with_reducible repeat (first | apply Kd.N_alloc | apply Kd.N_drewN | apply Kd.N_drew)); exact HO382.out) hb); have n4_ := Aside0.mk (blk_below (g := gb343) (o := .cells #[.slice Ao106 x344000_14.length co106, .int .i64 x344001_14] 26 (0, 0)) (by (with_reducible repeat (first | refine blk_drewN ?_ _ | refine blk_drew ?_ | refine blk_alloc ?_ _)); exact BK343.out) hb); have n5_ := Aside0.mk (below_step (by repeat (first | (with_reducible first | exact HB.out | apply below_alloc | apply pw_below_drewN | apply below_drew1 | refine below_set ?_ GE343.out) | exact HB.out)) hb); clear HO_0; clear HO_9; clear HO_344000; clear HO382; clear BK343; clear HB; have HO_0 := n0_; have HO_9 := n1_; have HO_344000 := n2_; have HO382 := n3_; have BK343 := n4_; have HB := n5_; clear n0_ n1_ n2_ n3_ n4_ n5_; (try clear hb); (try clear hb2); (try clear hk); (try clear hi)))
                            go_roundg kj14
                            case measure => have := HK1.out; have := HJ6.out; have := HJ14.out; omega
                            case rel => exact ⟨(x9_14), (x10_14), (wrap64 (x11_1 + 1)), (x344000_14), (x344001_14), (.slice Ao106 x344000_14.length co106), (by first | rfl | (simp; done) | (simp [*]; done)), (by first | rfl | (simp; done) | (simp [*]; done)), H', ⟨by have := HK1.out; have := HJ6.out; have := HJ14.out; omega⟩, ⟨by (with_reducible repeat (first | apply Kd.V_alloc | apply Kd.V_drewN | apply Kd.V_drew)); exact Kd.V_mono HO_0.out (fun _ hk => by first | exact ⟨hk.1.1, ⟨hk.1.2.1, hk.1.2.2⟩⟩ | (simp only [own_lenA] at hk ⊢; exact ⟨hk.1.1, ⟨hk.1.2.1, hk.1.2.2⟩⟩))⟩, ⟨by (with_reducible repeat (first | apply Kd.N_alloc | apply Kd.N_drewN | apply Kd.N_drew)); exact Kd.N_mono HO_9.out (fun _ hk => by first | exact ⟨hk.1.1, hk.1.2⟩ | (simp only [own_lenA] at hk ⊢; exact ⟨hk.1.1, hk.1.2⟩))⟩, ⟨by (with_reducible repeat (first | apply Kd.V_alloc | apply Kd.V_drewN | apply Kd.V_drew)); exact Kd.V_mono HO_344000.out (fun _ hk => by first | exact ⟨hk.1.1, ⟨hk.1.2.1, hk.1.2.2⟩⟩ | (simp only [own_lenA] at hk ⊢; exact ⟨hk.1.1, ⟨hk.1.2.1, hk.1.2.2⟩⟩))⟩, ⟨by (with_reducible repeat (first | refine blk_drewN ?_ _ | refine blk_drew ?_ | refine blk_alloc ?_ _)); exact BK343.out⟩, ⟨by repeat (first | (with_reducible first | exact HB.out | apply below_alloc | apply pw_below_drewN | apply below_drew1 | refine below_set ?_ GE343.out) | exact HB.out)⟩⟩
                          · replace c104 := Bool.eq_false_iff.mpr c104
                            subst c104
                            have H1 : (some false) = some r := by rw [if_neg (show ¬ (false = true) by decide)] at H; exact H
                            rw [HTr_] at H1
                            exact absurd (Option.some.inj H1) (by decide)
                        · replace c102 := Bool.eq_false_iff.mpr c102
                          subst c102
                          have H1 : (some false) = some r := by rw [if_neg (show ¬ (false = true) by decide)] at H; exact H
                          rw [HTr_] at H1
                          exact absurd (Option.some.inj H1) (by decide)
                  · rw [if_neg c14] at H
                    exact absurd H (by simp)
              · rw [if_neg c12] at H
                exact absurd H (by simp)
            · rw [if_neg c11] at H
              exact absurd H (by simp)
          · replace c10 := Bool.eq_false_iff.mpr c10
            subst c10
            have H1 : (some t342) = some r := by rw [if_neg (show ¬ (false = true) by decide)] at H; exact H
            clear H
            have H := H1
            clear H1
            obtain rfl := Option.some.inj H
            go_wp2
            go_ret
            exact ⟨by first | rfl | (simp [errW_none, errW_some] <;> rfl) | (simp [*, errW_none, errW_some] <;> rfl), by repeat (first | (with_reducible first | exact HB.out | apply below_alloc | apply pw_below_drewN | apply below_drew1 | refine below_set ?_ GE343.out) | exact HB.out)⟩

/-- The law, plainly. -/
def banksmanlaw04_WalGoes.Pure : Prop := ∀ (l0 : List (List Int)) (l1 : List Int) (l2 : List Int), (fun xs_ : List (List Int) => xs_.length ≤ maxLen ∧ ∀ x ∈ xs_, (fun xs_ : List Int => xs_.length ≤ maxLen ∧ ∀ x ∈ xs_, (fun n_ : Int => (Lit.int .u8 n_).wf = true) x) x) l0 → (fun xs_ : List Int => xs_.length ≤ maxLen ∧ ∀ x ∈ xs_, (fun n_ : Int => (Lit.int .u8 n_).wf = true) x) l1 → (fun xs_ : List Int => xs_.length ≤ maxLen ∧ ∀ x ∈ xs_, (fun n_ : Int => (Lit.int .u16 n_).wf = true) x) l2 → ∃ k, banksmanlaw04_WalGoes.f k l0 l1 l2 = some true

end Go.Proofs.Ytbenenpkbdldmaa.P
