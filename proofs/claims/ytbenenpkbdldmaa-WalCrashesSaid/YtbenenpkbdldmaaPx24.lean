-- Written by wip/gprint.py, a program of this session over the kit's print; Lean checks it.
import Derived.Test.YtbenenpkbdldmaaPx0
import Derived.Test.YtbenenpkbdldmaaPx5
import Derived.Test.YtbenenpkbdldmaaPx10
import Derived.Test.YtbenenpkbdldmaaPx14
import Derived.LoopIn
import Derived.LoopNIn
import Derived.Maps.AppendAt
import Derived.OwnWalkIn
import Derived.RangeFuncBound
import Derived.RangeFuncBox
import Derived.RangeFuncCalls
import Derived.RangeFuncLeaves
import Derived.RangeFuncNested
import Derived.Shelf.Abstract
import Derived.TacticsInMore
namespace Go.Proofs.Ytbenenpkbdldmaa.P
open Go.RowKit Go.Proofs.YtbenenpkbdldmaaW.PrintWords Go.Proofs.YtbenenpkbdldmaaW.PrintLast Go.Proofs.YtbenenpkbdldmaaW.PrintMore
attribute [local go_sem] max2_int min2_int max_two min_two max_three min_three max_four min_four   -- for this text's walks alone
set_option linter.unusedVariables false
set_option linter.unusedSimpArgs false

/-GIVEN octet_Number-/
/-! ### octet_Number: function 33 -/
section
attribute [local go_sem] Oper.semAt_some
theorem or128 {m : Int} (h : 0 ≤ m) : bits .or .u8 (m % 256) 128 = m % 128 + 128 := by
  have H : ∀ a : Fin 256, bits .or .u8 ((a.val : Nat) : Int) 128 = ((a.val % 128 + 128 : Nat) : Int) := by decide +kernel
  obtain ⟨a, ha⟩ : ∃ a : Fin 256, ((a.val : Nat) : Int) = m % 256 := ⟨⟨(m % 256).toNat, by omega⟩, by show (((m % 256).toNat : Nat) : Int) = m % 256; omega⟩
  rw [← ha, H a]
  omega
def OctI (n0 B : Nat) (w : World) (l0 : List Int) (tS tB tI : TypeId) (pre : List Int) (m : Int) (W : World) : Prop :=
  (∃ (v : Value) (ys : List Int), ys = l0 ++ pre ∧ Boxed W B tS v ∧ W.ownsRow n0 tB 1 v ys.length (ys.map (Value.int .u8))) ∧ Boxed W (B + 1) tI (.int .i64 m) ∧ Below n0 w W
theorem OctI.mk {n0 B : Nat} {w : World} {l0 : List Int} {tS tB tI : TypeId} {pre : List Int} {m : Int} {W : World} (v : Value) (ys : List Int) (h1 : ys = l0 ++ pre) (h2 : Boxed W B tS v) (h3 : W.ownsRow n0 tB 1 v ys.length (ys.map (Value.int .u8))) (h4 : Boxed W (B + 1) tI (.int .i64 m)) (h5 : Below n0 w W) : OctI n0 B w l0 tS tB tI pre m W := ⟨⟨v, ys, h1, h2, h3⟩, h4, h5⟩
def octBytes : Nat → Int → List Int
  | 0, _ => []
  | k + 1, m => if 128 ≤ m then (m % 128 + 128) :: octBytes k (m / 128) else [m]
theorem octBytes_len (k : Nat) (m : Int) : (octBytes k m).length ≤ k := by
  induction k generalizing m with
  | zero => simp [octBytes]
  | succ k ih => unfold octBytes; split <;> simp; have := ih (m / 128); omega
set_option maxHeartbeats 1000000 in
set_option maxRecDepth 100000 in
theorem octet_of1_in (F : Fence) (n : Nat) (hF : F.fn 41) (hro : F.round = none) (hn : 1 ≤ n) (l gn : Nat) (J : List Int → Int → World → Prop)
    (hJc : ∀ pre m W, J pre m W → Boxed W gn 3 (.int .i64 m)) (hJs : ∀ pre m m' W, J pre m W → J pre m' (W.setCell ⟨gn, 0, none⟩ (.int .i64 m')))
    (hY : ∀ pre m x W, J pre m W → pre.length < 5 → YieldAt F (n - 1) Try.prog l #[.int .u8 x] W fun e W' => e = .returned (.bool true) ∧ J (pre ++ [x]) m W')
    (m0 : Int) (hm0 : 0 ≤ m0) (hm1 : m0 ≤ 2147483647) (W : World) (h0 : J [] m0 W) :
    CallsIn F n Try.prog 41 #[.func (.yield l) #[] #[], .pointer (some ⟨gn, 0, none⟩)] W fun e W' => (∃ v, e = .returned v) ∧ ∃ xs m, xs = octBytes 5 m0 ∧ J xs m W' := by
  refine callsIn_of_wp Try.func41 rfl hF ?_ hro
  simp only [Try.ntmps41, List.size_toArray, List.length_cons, List.length_nil, Nat.reduceAdd, Nat.reduceSub, Array.replicate_succ, Array.replicate_zero, List.push_toArray, List.append_toArray, List.nil_append, List.cons_append]
  gi_wp2
  gi_loopw [] (fun wr => ∃ (pre : List Int) (m : Int) (k : Nat), J pre m wr ∧ 0 ≤ m ∧ m < 128 ^ (k + 1) ∧ k < 5 ∧ octBytes 5 m0 = pre ++ octBytes (k + 1) m)
    (fun wr => match wr.cell? ⟨gn, 0, none⟩ with | some (.int _ m) => m.toNat | _ => 0)
  case atStart =>
    exact ⟨[], m0, 4, h0, hm0, by omega, by omega, rfl⟩
  case round =>
    obtain ⟨pre, m, k, hJ, hm, hmk, hk, hb⟩ := hrel
    have hc := (hJc _ _ _ hJ).cell
    have hf := (hJc _ _ _ hJ).frozen
    have hpl : pre.length < 5 := by
      have h5 := octBytes_len 5 m0
      have hne : 0 < (octBytes (k + 1) m).length := by rw [octBytes]; split <;> simp
      rw [hb, List.length_append] at h5; omega
    by_cases h128 : 128 ≤ m
    · obtain ⟨fn, tmps, assign, body, hy, hR⟩ := hY pre m (bits .or .u8 (m % 256) 128) wr hJ hpl
      gi_wp2
      refine hR.mono ?_
      rintro e W3 ⟨rfl, hJ3⟩
      have hc3 := (hJc _ _ _ hJ3).cell
      have hf3 := (hJc _ _ _ hJ3).frozen
      gi_wp2
      go_roundw
      case rel =>
        refine ⟨_, m / 128, k - 1, hJs _ _ _ _ hJ3, by omega, ?_, by omega, ?_⟩
        · cases k with
          | zero => simp at hmk; omega
          | succ k =>
            rw [Nat.add_sub_cancel]
            have e : (128 : Int) ^ (k + 1 + 1) = 128 ^ (k + 1) * 128 := Int.pow_succ _ _
            omega
        · cases k with
          | zero => simp at hmk; omega
          | succ k => rw [hb, Nat.add_sub_cancel, List.append_assoc, or128 hm]; conv => lhs; rw [octBytes, if_pos h128]
                      rfl
      case measure =>
        have e3 := ((hJc _ _ _ hJ3).set (.int .i64 (m / 128))).cell
        simp only [e3, hc]
        omega
    · obtain ⟨fn, tmps, assign, body, hy, hR⟩ := hY pre m m wr hJ hpl
      gi_wp2
      refine hR.mono ?_
      rintro e W3 ⟨rfl, hJ3⟩
      gi_wp2
      go_end0
      exact ⟨⟨_, rfl⟩, _, m, by rw [hb, octBytes, if_neg (show ¬ 128 ≤ m by omega)], hJ3⟩
set_option maxHeartbeats 1000000 in
theorem octet_of_in (F : Fence) (n : Nat) (hF : F.fn 37) (hro : F.round = none) (m : Int) (w : World) :
    CallsIn F n Try.prog 37 #[.int .i64 m] w fun e w' => e = .returned (.func (.func 41) #[] #[.pointer (some ⟨w.heap.size, 0, none⟩)]) ∧ w' = w.alloc (.cells #[.int .i64 m] 3) := by
  refine callsIn_of_wp Try.func37 rfl hF ?_ hro
  simp only [Try.ntmps37, List.size_toArray, List.length_cons, List.length_nil, Nat.reduceAdd, Nat.reduceSub, Array.replicate_succ, Array.replicate_zero, List.push_toArray, List.append_toArray, List.nil_append, List.cons_append]
  gi_wp2
  go_ret
  exact ⟨rfl, rfl⟩
def octet_Number.f (l0 : List Int) (a1 : Int) : Option (List Int × Int) := if a1 < 0 then some ([], 10) else if a1 > 2147483647 then some ([], 10) else if l0.length < 140737488355000 then some (l0 ++ octBytes 5 a1, 0) else none
set_option maxHeartbeats 2000000 in
set_option maxRecDepth 100000 in
theorem octet_Number.calls (A0 : Option Addr) (c0 : Nat) (l0 : List Int) (a1 : Int) (r1 : List Int) (r2 : Int) (w : World) (hr0 : Kd.C (Kd.int .u8) w A0 l0.length l0) (hc0 : l0.length ≤ c0) (h : octet_Number.f l0 a1 = some (r1, r2)) :
    Calls Try.prog 33 #[.slice A0 l0.length c0, .int .i64 a1] w fun e w' => ∃ v0_ : Value, e = .returned (.tuple #[v0_, .int .i64 r2]) ∧ Kd.R (Kd.int .u8) 5 w' w.heap.size (fun _ => True) v0_ r1 ∧ Below w.heap.size w w' := by
  unfold octet_Number.f at h
  by_cases h1 : a1 < 0
  · rw [if_pos h1] at h
    obtain ⟨rfl, rfl⟩ := Prod.mk.inj (Option.some.inj h)
    have HB := Aside0.mk (Below.refl w.heap.size w)
    clear hr0 hc0 h
    go_enter Try.func33, Try.ntmps33
    go_wp2
    go_ret2
    exact ⟨_, rfl, Kd.R_nil _ _ _ _ _, Below.refl _ _⟩
  rw [if_neg h1] at h
  by_cases h2 : a1 > 2147483647
  · rw [if_pos h2] at h
    obtain ⟨rfl, rfl⟩ := Prod.mk.inj (Option.some.inj h)
    clear hr0 hc0 h
    go_enter Try.func33, Try.ntmps33
    go_wp2
    go_ret2
    exact ⟨_, rfl, Kd.R_nil _ _ _ _ _, Below.refl _ _⟩
  rw [if_neg h2] at h
  by_cases h3 : l0.length < 140737488355000
  · rw [if_pos h3] at h
    obtain ⟨rfl, rfl⟩ := Prod.mk.inj (Option.some.inj h)
    clear h
    have hcl : bytes_Clone.f l0 = some l0 := by unfold bytes_Clone.f; rw [if_pos (by omega)]
    have kclone := callsIn_wide (n := 5).2 (bytes_Clone.calls A0 c0 l0 l0 w hr0 hc0 hcl)
    refine (callsIn_wide (n := 6)).1 ?_
    refine callsIn_of_wp_marks Try.func33 rfl trivial ?_ rfl
    simp only [Try.ntmps33, List.size_toArray, List.length_cons, List.length_nil, Nat.reduceAdd, Nat.reduceSub, Array.replicate_succ, Array.replicate_zero, List.push_toArray, List.append_toArray, List.nil_append, List.cons_append]
    gi_wp2_with (first | (refine ⟨trivial, ?_⟩; gi_at_call 29; refine kclone.mono ?_; rintro e w1 ⟨v1, rfl, ho1, hb1⟩; obtain ⟨Ao, co, eo⟩ := Kd.R_slice ho1; subst eo) | (refine ⟨trivial, ?_⟩; gi_at_call 37; refine (octet_of_in Fence.wide 5 trivial rfl _ _).mono ?_; rintro e w2 ⟨rfl, rfl⟩))
    have hrow0 : w1.ownsRow w.heap.size 5 1 (.slice Ao l0.length co) l0.length (l0.map (Value.int .u8)) := Kd.own_of_R ho1
    have hs1 := hb1.size
    have bO := Boxed.new w1 23 (.slice Ao l0.length co)
    have bN := Boxed.new (w1.alloc (.cells #[.slice Ao l0.length co] 23)) 3 (.int .i64 a1)
    rw [World.size_alloc] at bN
    obtain ⟨i0, hi, hz0, hz1, hz2⟩ := info_parts info5
    refine range_cells (F := Fence.wide) (n := 6) rfl (by decide) (gf := 41) (lb := #[.pointer (some ⟨w1.heap.size + 1, 0, none⟩)]) rfl trivial (enters_of Try.func41 (by kernel_rfl) rfl)
      (fun x : Int => #[.int .u8 x]) (fun _ => rfl) (fun xs => xs = octBytes 5 a1) 5
      (OctI w.heap.size w1.heap.size w l0 23 5 3)
      ?hIb a1 ?h0
      (fun x => { tmps := #[.slice A0 l0.length c0, .int .i64 a1, undef, undef, .slice none 0 0, .int .i64 0, .pointer (some ⟨w1.heap.size, 0, none⟩), .int .u8 x, .int .i64 a1, .bool false, .bool false, .int .i64 a1, .bool false, .bool false, .slice A0 l0.length c0, .slice Ao l0.length co, .int .i64 a1, .func (.func 41) #[] #[.pointer (some ⟨w1.heap.size + 1, 0, none⟩)], .int .u8 x, undef, undef, undef, undef, undef], defers := [] }) ?assign ?body ?hit ?done
    case hIb =>
      rintro pre m W l o o' hl ho hc ⟨⟨v, ys, hys, hv, hrow⟩, hN, hB⟩
      simp only [World.size_alloc] at hl
      refine OctI.mk v ys hys (hv.kept (grownBy_putObj' W l o') (fun e => by cases e; omega)) (ownsRow_putObj hrow o' ho hc) (hN.kept (grownBy_putObj' W l o') (fun e => by cases e; omega)) ?_
      exact hB.trans ((Below.refl _ W).grown (grownBy_putObj' W l o') hB.size (fun k e => by cases e; omega))
    case h0 =>
      intro r
      refine OctI.mk _ l0 (List.append_nil _).symm (((bO.alloc _).alloc _).alloc _) ((((hrow0.alloc _).alloc _).alloc _).alloc _) ((bN.alloc _).alloc _) ?_
      exact (((hb1.alloc hs1 _).alloc (by simp; omega) _).alloc (by simp; omega) _).alloc (by simp; omega) _
    case assign =>
      intro l x W K hK
      gi_wp2
      exact hK
    case body =>
      rintro l pre m x W ⟨⟨v, ys, hys, hv, hrow⟩, hN, hB⟩ hpl
      have hc := hv.cell
      have hlen : ys.length < 140737488355010 := by rw [hys, List.length_append]; omega
      have HY := Aside0.mk hys
      clear hys
      gi_wp2_with (gi_at_builtin; refine wpListIn_append_own _ rfl _ _ 23 rfl w.heap.size 5 i0 (.int .u8 0) 1 1 Try.underlying23 hi hz0 hz1 hz2 rfl (by decide) _ _ _ rfl (hrow.alloc _) ⟨W.heap.size, 0, none⟩ 1 1 [.int .u8 x] rfl rfl (cell_one_new _ _ _) (by simp [Value.oneCell']) (by simp only [maxLen]; omega) (by omega) (by have := hB.size; simp; omega) ?_; intro v' w5 hown' hgrow _; obtain ⟨g', cap', rfl⟩ := ownsRow_succ hown'; obtain ⟨hv1, hv2, hr2, hk2, hb2⟩ := hv.appended (by decide) hrow hB.size hs1 hown' hgrow; have hc1 := hv1.cell; have hf1 := hv1.frozen)
      refine OctI.mk _ (ys ++ [x]) (by rw [HY.out, List.append_assoc]) hv2 (by simpa using hr2) ?_ (hB.trans hb2)
      have hN1 : Boxed w5 (w1.heap.size + 1) 3 (.int .i64 m) := (hN.alloc _).kept hgrow ((hN.alloc (.cells #[.int .u8 x] 5)).not_row (by decide) (hrow.alloc _))
      exact hN1.other (by omega) _
    case hit =>
      intro l J W hJI hJ2 hY h0
      refine octet_of1_in Fence.wide 5 trivial rfl (by decide) l (w1.heap.size + 1) J (fun pre m W h => (hJI pre m W h).2.1) ?_ hY a1 (by omega) (by omega) W h0
      intro pre m m' W h
      obtain ⟨⟨v, ys, hys, hv, hrow⟩, hN, hB⟩ := hJI pre m W h
      refine hJ2 _ _ _ _ _ _ h (KeepsOthers.setCell _ _ _) (OctI.mk v ys hys (hv.kept (grownBy_setCell' W _ _) (fun e => by simp at e)) (hrow.kept (grownBy_setCell' W _ _) (.inr (hN.not_row (by decide) hrow).symm)) (hN.set _) (hB.setCell (p := ⟨w1.heap.size + 1, 0, none⟩) (by show w.heap.size ≤ w1.heap.size + 1; omega) _))
    case done =>
      rintro D xs m W hD rfl ⟨⟨v, ys, hys, hv, hrow⟩, hN, hB⟩ hK
      have hc := hv.cell
      obtain ⟨A5, c5, rfl⟩ : ∃ A c, v = .slice A ys.length c := Kd.R_slice (d := Kd.int .u8) (Kd.R_of_own (ok := fun _ => True) hrow (fun _ _ => trivial))
      have HY := Aside0.mk hys
      clear hys
      gi_wp2
      have hys := HY.out
      refine ⟨by simp, .inl ⟨_, _, rfl, run_takeDeferred hK, ?_⟩⟩
      simp only [World.size_alloc] at hD
      refine ⟨_, results_tmp2 rfl _ _ _, _, rfl, by rw [← hys]; exact Kd.R_of_own (ownsRow_putObj hrow _ hK rfl) (fun _ _ => trivial), hB.trans ((Below.refl _ W).grown (grownBy_putObj' W D _) hB.size (fun k e => by cases e; omega))⟩
  · rw [if_neg h3] at h; cases h
end

end Go.Proofs.Ytbenenpkbdldmaa.P
