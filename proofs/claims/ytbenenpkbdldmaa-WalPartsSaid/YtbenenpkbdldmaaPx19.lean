-- Written by wip/gprint.py, a program of this session over the kit's print; Lean checks it.
import Derived.Test.YtbenenpkbdldmaaPx0
import Derived.Test.YtbenenpkbdldmaaPx7
import Derived.Test.YtbenenpkbdldmaaPx17
import Derived.LoopIn
import Derived.LoopNIn
import Derived.Maps.AppendAt
import Derived.Maps.OwnIn
import Derived.OwnWalkIn
import Derived.RangeFuncBound
import Derived.RangeFuncBox
import Derived.RangeFuncCalls
import Derived.RangeFuncLeaves
import Derived.RangeFuncNested
import Derived.RegionIn
import Derived.Shelf.Abstract
import Derived.TacticsInMore
namespace Go.Proofs.Ytbenenpkbdldmaa.P
open Go.RowKit Go.Proofs.YtbenenpkbdldmaaW.PrintWords Go.Proofs.YtbenenpkbdldmaaW.PrintLast Go.Proofs.YtbenenpkbdldmaaW.PrintMore
attribute [local go_sem] max2_int min2_int max_two min_two max_three min_three max_four min_four   -- for this text's walks alone
set_option linter.unusedVariables false
set_option linter.unusedSimpArgs false

/-GIVEN frame_All-/
/-! ### frame_All: function 26 -/
section
attribute [local go_sem] Oper.semAt_some
/-- The texts that bytes hold from a place on, and where each one's frame ends. -/
def frame_go : Nat → List Int → Int → Option (List (Int × List Int))
  | 0, _, _ => none
  | k + 1, l, at_ => (frame_Read.f (l.drop at_.toNat)).bind fun p => if p.2.2 = 0 then (if 0 < p.2.1 ∧ at_ + p.2.1 ≤ (l.length : Int) then (frame_go k l (at_ + p.2.1)).map fun r => (at_ + p.2.1, p.1) :: r else none) else some []
def lastEnd (l : List (Int × List Int)) : Int := (l.getLast?.map (·.1)).getD 0
theorem lastEnd_app (l : List (Int × List Int)) (x : Int × List Int) : lastEnd (l ++ [x]) = x.1 := by simp [lastEnd]
abbrev Handed3 := Int × Value × List Int
def plain3 (x : Handed3) : Int × List Int := (x.1, x.2.2)
def FrG (s : Nat) (n : Nat) (x : Handed3) (W : World) : Prop := 0 ≤ x.1 ∧ x.1 ≤ (n : Int) ∧ ∀ v, Boxed W (s + 1) 22 v → Kd.V (Kd.int .u8) 5 W s (fun k => s + 6 ≤ k ∧ some k ≠ v.ownBlock) x.2.1 x.2.2
def FrI (s : Nat) (w : World) (b : Value) (pre : List Handed3) (W : World) : Prop :=
  (∃ v, Boxed W (s + 1) 22 v ∧ Kd.N (Kd.slice 5 (Kd.int .u8)) 23 W s (fun k => s + 6 ≤ k) v (pre.map fun x => x.2.2)) ∧ Boxed W (s + 2) 3 (.int .i64 (lastEnd (pre.map plain3))) ∧ Boxed W s 23 b ∧ Boxed W (s + 3) 23 b ∧ Below s w W ∧ s + 6 ≤ W.heap.size
theorem FrI.below {s : Nat} {w : World} {b : Value} {pre : List Handed3} {W W' : World} (h : FrI s w b pre W) (hb : Below W.heap.size W W') : FrI s w b pre W' := by
  obtain ⟨⟨v, h1, h2⟩, h3, h4, h5, h6, h7⟩ := h
  have kp : ∀ {B : Nat} {t : TypeId} {u : Value}, Boxed W B t u → Boxed W' B t u := fun h => (hb.block _ h.lt).trans h
  exact ⟨⟨v, kp h1, Kd.N_below h2 hb⟩, kp h3, kp h4, kp h5, h6.trans (hb.mono (by omega)), Nat.le_trans h7 hb.size⟩
theorem FrI.put {s : Nat} {w : World} {b : Value} {pre : List Handed3} {W : World} {l : Nat} (o' : Obj) (hl : l = s + 4 ∨ l = s + 5) (h : FrI s w b pre W) : FrI s w b pre (W.putObj l o') := by
  obtain ⟨⟨v, h1, h2⟩, h3, h4, h5, h6, h7⟩ := h
  have kp : ∀ {B : Nat} {t : TypeId} {u : Value}, B < s + 4 → Boxed W B t u → Boxed (W.putObj l o') B t u := fun hB h => h.kept (grownBy_putObj' W l o') (fun e => by cases e; omega)
  refine ⟨⟨v, kp (by omega) h1, Kd.N_step h2 (fun k hk _ => World.putObj_heap_other (by omega))⟩, kp (by omega) h3, kp (by omega) h4, kp (by omega) h5, h6.trans ((Below.refl _ W).grown (grownBy_putObj' W l o') (by omega) (fun k e => by cases e; omega)), ?_⟩
  have := (grownBy_putObj' W l o').size
  omega
theorem FrG.put {s n : Nat} {x : Handed3} {W : World} {l : Nat} (o' : Obj) (hl : l = s + 4 ∨ l = s + 5) (h : FrG s n x W) : FrG s n x (W.putObj l o') := by
  refine ⟨h.1, h.2.1, fun v hv => ?_⟩
  have hv' : Boxed W (s + 1) 22 v := by
    have e : (W.putObj l o').heap[s + 1]? = W.heap[s + 1]? := World.putObj_heap_other (by omega)
    exact e.symm.trans hv
  exact Kd.V_step (h.2.2 v hv') (fun k hk _ => World.putObj_heap_other (by omega))
theorem FrG.of_new {s n : Nat} {w : World} {b : Value} {pre : List Handed3} {W W' : World} {u : Value} {t : List Int} {e : Int} (hI : FrI s w b pre W) (hb : Below W.heap.size W W') (hV : Kd.V (Kd.int .u8) 5 W' W.heap.size (fun k => W.heap.size ≤ k) u t) (h0 : 0 ≤ e) (h1 : e ≤ (n : Int)) : FrG s n (e, u, t) W' := by
  refine ⟨h0, h1, fun v hv => ?_⟩
  obtain ⟨⟨v', h1', h2⟩, h3, h4, h5, h6, h7⟩ := hI
  have e1 : v' = v := by
    have h8 : Boxed W' (s + 1) 22 v' := (hb.block _ h1'.lt).trans h1'
    have h9 : some (Obj.cells #[v'] 22 (0, 0)) = some (Obj.cells #[v] 22 (0, 0)) := h8.symm.trans hv
    simpa using h9
  subst e1
  exact Kd.V_lower (base' := s) (Kd.V_mono hV (fun k hk => ⟨by omega, fun e => by have := Kd.N_lt h2 k e.symm; omega⟩)) (by omega)
set_option maxHeartbeats 1000000 in
set_option maxRecDepth 100000 in
theorem frame_texts_in (F : Fence) (n : Nat) (hF : F.fn 32) (hro : F.round = none) (A0 : Option Addr) (n0 c0 : Nat) (w : World) :
    CallsIn F n Try.prog 32 #[.slice A0 n0 c0] w fun e w' => e = .returned (.func (.func 35) #[] #[.pointer (some ⟨w.heap.size, 0, none⟩)]) ∧ w' = w.alloc (.cells #[.slice A0 n0 c0] 23) := by
  refine callsIn_of_wp Try.func32 rfl hF ?_ hro
  simp only [Try.ntmps32, List.size_toArray, List.length_cons, List.length_nil, Nat.reduceAdd, Nat.reduceSub, Array.replicate_succ, Array.replicate_zero, List.push_toArray, List.append_toArray, List.nil_append, List.cons_append]
  gi_wp2
  go_ret
  exact ⟨rfl, rfl⟩
set_option maxHeartbeats 2000000 in
set_option maxRecDepth 100000 in
theorem frame_texts1_in (l gn s : Nat) (A0 : Option Addr) (c0 : Nat) (l0 : List Int) (w0 : World) (hr0 : Kd.C (Kd.int .u8) w0 A0 l0.length l0) (hc0 : l0.length ≤ c0) (hlen : l0.length < 1000000) (J : List Handed3 → World → Prop)
    (hJg : ∀ pre W, J pre W → Boxed W gn 23 (.slice A0 l0.length c0) ∧ Below w0.heap.size w0 W)
    (hJb : ∀ pre W W' u t e, J pre W → Below W.heap.size W W' → J pre W' ∧ (Kd.V (Kd.int .u8) 5 W' W.heap.size (fun k => W.heap.size ≤ k) u t → 0 ≤ e → e ≤ (l0.length : Int) → FrG s l0.length (e, u, t) W'))
    (hY : ∀ pre x W, J pre W → FrG s l0.length x W → pre.length < l0.length + 1 → YieldAt Fence.wide 4 Try.prog l #[.int .i64 x.1, x.2.1] W fun e W' => e = .returned (.bool true) ∧ J (pre ++ [x]) W')
    (all : List (Int × List Int)) (hall : frame_go (l0.length + 1) l0 0 = some all) (W : World) (h0 : J [] W) :
    CallsIn Fence.wide 5 Try.prog 35 #[.func (.yield l) #[] #[], .pointer (some ⟨gn, 0, none⟩)] W fun e W' => (∃ v, e = .returned v) ∧ ∃ xs, xs.map plain3 = all ∧ J xs W' := by
  refine callsIn_of_wp Try.func35 rfl trivial ?_ rfl
  simp only [Try.ntmps35, List.size_toArray, List.length_cons, List.length_nil, Nat.reduceAdd, Nat.reduceSub, Array.replicate_succ, Array.replicate_zero, List.push_toArray, List.append_toArray, List.nil_append, List.cons_append]
  gi_wp2
  gi_loopw [3] (fun v3 wr => ∃ (at_ : Int) (pre : List Handed3) (k : Nat) (rest : List (Int × List Int)), v3 = .int .i64 at_ ∧ J pre wr ∧ 0 ≤ at_ ∧ at_ ≤ (l0.length : Int) ∧ (pre.length : Int) ≤ at_ ∧ frame_go k l0 at_ = some rest ∧ all = pre.map plain3 ++ rest)
    (fun v3 wr => match v3 with | .int _ q => (l0.length - q).toNat | _ => 0)
  case atStart =>
    exact ⟨0, [], _, all, rfl, h0, by omega, by omega, by simp, hall, rfl⟩
  case round =>
    obtain ⟨at_, pre, k, rest, rfl, hJ, ha0, ha1, hpl, hgo, hE⟩ := hrel
    obtain ⟨m, rfl⟩ := Int.eq_ofNat_of_zero_le ha0
    have hc := (hJg _ _ hJ).1.cell
    have hf := (hJg _ _ hJ).1.frozen
    cases k with
    | zero => cases hgo
    | succ k =>
    rw [frame_go] at hgo
    obtain ⟨⟨t, n, e⟩, hT, hgo⟩ := Option.bind_eq_some_iff.mp hgo
    simp only [Int.toNat_natCast] at hgo hT
    have hm : m ≤ l0.length := by omega
    obtain ⟨y, hy⟩ : ∃ y, y = l0.drop m := ⟨_, rfl⟩
    have hyl : y.length = l0.length - m := by rw [hy, List.length_drop]
    rw [← hy] at hT
    have hr := Kd.C_drop (m := m) (c := c0) (Kd.C_below hr0 (hJg _ _ hJ).2) hm hc0
    rw [← hy] at hr
    obtain ⟨i0, hi0, _, hsz, _⟩ := info_parts info5
    have hcut := cut_from (P := Try.prog) 23 5 .i64 Try.underlying23 hi0 1 hsz A0 l0.length c0 (m : Int) (by omega) (by omega)
    obtain ⟨A2, hA2⟩ : ∃ A2, A2 = (if c0 = m then A0 else A0.map (·.add (m * 1))) := ⟨_, rfl⟩
    obtain ⟨c2, hc2⟩ : ∃ c2, c2 = c0 - m := ⟨_, rfl⟩
    rw [Int.toNat_natCast, ← hA2, ← hc2, ← hyl] at hcut
    have HCY := Aside0.mk (show y.length ≤ c2 by omega)
    have HRY := Aside0.mk (show Kd.C (Kd.int .u8) wr A2 y.length y by rw [hA2]; exact hr)
    have HT := Aside0.mk hT
    have HYL := Aside0.mk hyl
    have HE := Aside0.mk hE
    clear hyl hT hA2 hc2 hr hi0 hsz hy hE
    by_cases he : e = 0
    · subst he
      rw [if_pos rfl] at hgo
      by_cases hn : 0 < n ∧ (m : Int) + n ≤ (l0.length : Int)
      · rw [if_pos hn] at hgo
        obtain ⟨rest', hgo', hrr⟩ := Option.map_eq_some_iff.mp hgo
        have HGO := Aside0.mk hgo'
        have HRR := Aside0.mk hrr
        clear hgo hgo' hrr
        have hwr : IntKind.i64.wrap ((m : Int) + n) = (m : Int) + n := by simp [IntKind.wrap, IntKind.bits, IntKind.signed]; omega
        gi_wp2_with (refine ⟨trivial, ?_⟩; gi_at_call 36; refine (callsIn_wide.2 (frame_Read.calls A2 c2 y t n 0 _ HRY.out HCY.out HT.out)).mono ?_; rintro e1 w1 ⟨v1, rfl, hV, hB⟩; have hJ1 := hJb pre wr w1 v1 t ((m : Int) + n) hJ hB; obtain ⟨fn, tmps, assign, body, hy, hR⟩ := hY pre ((m : Int) + n, v1, t) w1 hJ1.1 (hJ1.2 hV (by omega) (by omega)) (by omega))
        refine hR.mono ?_
        rintro e3 W3 ⟨rfl, hJ3⟩
        gi_wp2
        go_roundw
        case rel =>
          exact ⟨(m : Int) + n, pre ++ [((m : Int) + n, v1, t)], k, rest', rfl, hJ3, by omega, by omega, by simp; omega, HGO.out, by rw [HE.out, ← HRR.out]; simp [plain3]⟩
        case measure =>
          show (l0.length - ((m : Int) + n)).toNat < (l0.length - (m : Int)).toNat
          omega
      · rw [if_neg hn] at hgo; cases hgo
    · rw [if_neg he] at hgo
      obtain rfl := Option.some.inj hgo
      have he1 : (e == 0) = false := beq_eq_false_iff_ne.mpr he
      have he2 : (e != 0) = true := bne_iff_ne.mpr he
      gi_wp2_with (refine ⟨trivial, ?_⟩; gi_at_call 36; refine (callsIn_wide.2 (frame_Read.calls A2 c2 y t n e _ HRY.out HCY.out HT.out)).mono ?_; rintro e1 w1 ⟨v1, rfl, hV, hB⟩; have hJ1 := hJb pre wr w1 v1 t 0 hJ hB)
      refine ⟨fun _ hf_ => (by cases hf_), ?_⟩
      gi_wp2
      refine bodyPost_ret (results_none rfl _ _ _) rfl ?_
      exact ⟨⟨_, rfl⟩, pre, by rw [HE.out, List.append_nil], hJ1.1⟩
def frame_All.f (l0 : List Int) : Option ((List (List Int)) × Int) := if l0.length < 1000000 then (frame_go (l0.length + 1) l0 0).map fun r => (r.map (·.2), lastEnd r) else none
set_option maxHeartbeats 2000000 in
set_option maxRecDepth 100000 in
theorem frame_All.calls (A0 : Option Addr) (c0 : Nat) (l0 : List Int) (r1 : List (List Int)) (r2 : Int) (w : World) (hr0 : Kd.C (Kd.int .u8) w A0 l0.length l0) (hc0 : l0.length ≤ c0) (h : frame_All.f l0 = some (r1, r2)) :
    Calls Try.prog 26 #[.slice A0 l0.length c0] w fun e w' => ∃ v0_ : Value, e = .returned (.tuple #[v0_, .int .i64 r2]) ∧ Kd.N (Kd.slice 5 (Kd.int .u8)) 23 w' w.heap.size (fun k_ => (w.heap.size ≤ k_)) v0_ r1 ∧ Below w.heap.size w w' := by
  unfold frame_All.f at h
  by_cases hl : l0.length < 1000000
  · rw [if_pos hl] at h
    obtain ⟨all, hall, hres⟩ := Option.map_eq_some_iff.mp h
    obtain ⟨rfl, rfl⟩ := Prod.mk.inj hres
    clear h hres
    refine (callsIn_wide (n := 6)).1 ?_
    refine callsIn_of_wp_marks Try.func26 rfl trivial ?_ rfl
    simp only [Try.ntmps26, List.size_toArray, List.length_cons, List.length_nil, Nat.reduceAdd, Nat.reduceSub, Array.replicate_succ, Array.replicate_zero, List.push_toArray, List.append_toArray, List.nil_append, List.cons_append]
    gi_wp2
    refine wpIn_scope_straight ?_
    gi_wp2
    refine wpIn_label ?_
    gi_wp2_with (refine ⟨trivial, ?_⟩; gi_at_call 32; refine (frame_texts_in Fence.wide 5 trivial rfl A0 l0.length c0 _).mono ?_; rintro e w2 ⟨rfl, rfl⟩)
    have b0 := Boxed.new w 23 (.slice A0 l0.length c0)
    have b1 := Boxed.new (w.alloc (.cells #[.slice A0 l0.length c0] 23)) 22 (.slice none 0 0)
    have b2 := Boxed.new ((w.alloc (.cells #[.slice A0 l0.length c0] 23)).alloc (.cells #[.slice none 0 0] 22)) 3 (.int .i64 0)
    have b3 := Boxed.new (((w.alloc (.cells #[.slice A0 l0.length c0] 23)).alloc (.cells #[.slice none 0 0] 22)).alloc (.cells #[.int .i64 0] 3)) 23 (.slice A0 l0.length c0)
    simp only [World.size_alloc] at b1 b2 b3
    obtain ⟨i0, hi, hz0, hz1, hz2⟩ := info_parts info23
    refine range_handed (F := Fence.wide) (n := 6) rfl (by decide) (gf := 35) (lb := #[.pointer (some ⟨w.heap.size + 3, 0, none⟩)]) ?hg trivial (enters_of Try.func35 (by kernel_rfl) rfl)
      (fun x : Handed3 => #[.int .i64 x.1, x.2.1]) (fun _ => rfl) (fun xs => xs.map plain3 = all) (l0.length + 1)
      (FrI w.heap.size w (.slice A0 l0.length c0)) (FrG w.heap.size l0.length)
      ?hIb ?hGb ?h0
      (fun x => { tmps := #[.slice A0 l0.length c0, .pointer (some ⟨w.heap.size, 0, none⟩), .pointer (some ⟨w.heap.size + 1, 0, none⟩), .pointer (some ⟨w.heap.size + 1 + 1, 0, none⟩), .int .i64 x.1, x.2.1, .slice A0 l0.length c0, .func (.func 35) #[] #[.pointer (some ⟨w.heap.size + 3, 0, none⟩)], .int .i64 x.1, x.2.1, undef, undef, undef, undef, undef, undef, undef, undef, undef, undef, undef], defers := [] }) ?assign ?body ?hit ?done
    case hg => simp [Act.eval]
    case hIb =>
      intro pre W l o' hl2 h
      simp only [World.size_alloc] at hl2
      exact h.put o' (by omega)
    case hGb =>
      intro x W l o' hl2 h
      simp only [World.size_alloc] at hl2
      exact h.put o' (by omega)
    case h0 =>
      intro r
      refine ⟨⟨_, ((((b1.alloc _).alloc _).alloc _).alloc _), Kd.N_nil _ _ _ _ _⟩, ((((b2.alloc _).alloc _).alloc _)), ((((((b0.alloc _).alloc _).alloc _).alloc _).alloc _)), ((b3.alloc _).alloc _), ?_, by simp only [World.size_alloc]; omega⟩
      exact ((((((Below.refl _ w).alloc (by omega) _).alloc (by simp only [World.size_alloc]; omega) _).alloc (by simp only [World.size_alloc]; omega) _).alloc (by simp only [World.size_alloc]; omega) _).alloc (by simp only [World.size_alloc]; omega) _).alloc (by simp only [World.size_alloc]; omega) _
    case assign =>
      intro l x W K hK
      gi_wp2
      exact hK
    case body =>
      rintro l pre ⟨xe, xv, xt⟩ W ⟨⟨v, hv, hN⟩, hE, hB0, hB3, hB, hs6⟩ ⟨g0, g1, hG⟩ hpl
      have hVx := hG v hv
      simp only at g0 g1 hVx
      obtain ⟨A1, c1, rfl⟩ := Kd.V_slice hVx
      obtain ⟨_, hVl, hVF⟩ := Kd.V_at hVx
      have HFK := Aside0.mk (Kd.FK_slice_mk (e := 5) hVl hVF)
      obtain ⟨inner, hrow, hpush⟩ := N_push (d := Kd.slice 5 (Kd.int .u8)) rfl hN (fun k hk => by omega)
      rw [List.length_map] at hrow hpush
      have HPU := Aside0.mk hpush
      have hc := hv.cell
      have hf := hv.frozen
      have hcb := hB0.cell
      have hfb := hB0.frozen
      have hown0 := fun k hk => hN.1 k hk
      have hgt : decide ((l0.length : Int) < xe) = false := decide_eq_false (by omega)
      clear hG hVx hVF hVl hpush
      gi_wp2_with (gi_at_builtin; refine wpListIn_append_own_at _ rfl _ _ 22 rfl w.heap.size 23 i0 (.slice none 0 0) 1 24 Try.underlying22 hi hz0 hz1 hz2 rfl (by decide) _ _ _ rfl (hrow.alloc _) ⟨W.heap.size, 0, none⟩ 1 1 [.slice A1 xt.length c1] rfl rfl (cell_one_new _ _ _) (by simp [Value.oneCell']) (by simp only [maxLen]; omega) (by omega) (by have := hB.size; simp; omega) ?_; intro v' w5 hown' hgrow _ hat; obtain ⟨g', cap', rfl⟩ := ownsRow_succ hown'; obtain ⟨hv1, hv2, hr2, hk2, hb2⟩ := hv.appended (by decide) hrow hB.size (by omega) hown' hgrow; have hc1 := hv1.cell; have hf1 := hv1.frozen; have hE5 := ((hE.alloc _).kept hgrow (fun e => by have := hown0 _ e.symm; omega)).other (B' := w.heap.size + 1) (by omega) (.slice (some ⟨g', 0, none⟩) (pre.length + 1) cap'); have hc5 : (w5.setCell ⟨w.heap.size + 1, 0, none⟩ (.slice (some ⟨g', 0, none⟩) (pre.length + 1) cap')).cell? ⟨w.heap.size + 1 + 1, 0, none⟩ = _ := hE5.cell; have hf5 : (w5.setCell ⟨w.heap.size + 1, 0, none⟩ (.slice (some ⟨g', 0, none⟩) (pre.length + 1) cap')).frozen? ⟨w.heap.size + 1 + 1, 0, none⟩ = false := hE5.frozen)
      have hkN : ∀ {B : Nat} {ty : TypeId} {u : Value}, B < w.heap.size + 6 → B ≠ w.heap.size + 1 → B ≠ w.heap.size + 1 + 1 → Boxed W B ty u → Boxed ((w5.setCell ⟨w.heap.size + 1, 0, none⟩ (.slice (some ⟨g', 0, none⟩) (pre.length + 1) cap')).setCell ⟨w.heap.size + 1 + 1, 0, none⟩ (.int .i64 xe)) B ty u :=
        fun hB h1 h2 h => (((h.alloc _).kept hgrow (fun e => by have := hown0 _ e.symm; omega)).other h1 _).other h2 _
      have hNN := HPU.out _ xt _ _ _ w5 HFK.out (fun k hk => hk) hown' hgrow hat
      refine ⟨hk2.trans (KeepsOthers.setCell _ _ _), ⟨_, hv2.other (by omega) _, ?_⟩, ?_, hkN (by omega) (by omega) (by omega) hB0, hkN (by omega) (by omega) (by omega) hB3, (hB.trans hb2).setCell (p := ⟨w.heap.size + 1 + 1, 0, none⟩) (by show w.heap.size ≤ w.heap.size + 1 + 1; omega) _, ?_⟩
      · rw [List.map_append]
        exact Kd.N_far (Kd.N_far hNN (p := ⟨w.heap.size + 1, 0, none⟩) (fun k hk => by show k ≠ w.heap.size + 1; omega) _) (p := ⟨w.heap.size + 1 + 1, 0, none⟩) (fun k hk => by show k ≠ w.heap.size + 1 + 1; omega) _
      · have hl2 : lastEnd ((pre ++ [(xe, Value.slice A1 xt.length c1, xt)]).map plain3) = xe := by rw [List.map_append]; exact lastEnd_app _ _
        rw [hl2]
        exact hE5.set _
      · have h1 := (hk2.trans (KeepsOthers.setCell _ ⟨w.heap.size + 1 + 1, 0, none⟩ (.int .i64 xe))).size
        omega
    case hit =>
      intro l J W hJI hJ2 hY h0
      refine frame_texts1_in l (w.heap.size + 3) w.heap.size A0 c0 l0 w hr0 hc0 hl J (fun pre W h => ⟨(hJI pre W h).2.2.2.1, (hJI pre W h).2.2.2.2.1⟩) ?_ hY all hall W h0
      intro pre W W' u t e h hb
      refine ⟨hJ2 _ _ _ _ h ?_ ((hJI pre W h).below hb), fun hV e0 e1 => FrG.of_new (hJI pre W h) hb hV e0 e1⟩
      exact ⟨hb.size, fun k o hk _ => (hb.block k (Array.getElem?_eq_some_iff.1 hk).1).trans hk⟩
    case done =>
      rintro D xs W hD rfl ⟨⟨v, hv, hN⟩, hE, hB0, hB3, hB, hs6⟩ hK
      have hc := hv.cell
      have hf := hv.frozen
      have hc2 : W.cell? ⟨w.heap.size + 1 + 1, 0, none⟩ = _ := hE.cell
      have hf2 : W.frozen? ⟨w.heap.size + 1 + 1, 0, none⟩ = false := hE.frozen
      obtain ⟨Av, cv, rfl⟩ := Kd.N_slice hN
      gi_wp2
      gi_region
      have hD2 : D = w.heap.size + 4 := by rw [hD]; simp only [World.size_alloc]
      have k2 : ∀ k, k ≠ w.heap.size + 1 → k ≠ w.heap.size + 1 + 1 → (((W.setCell ⟨w.heap.size + 1, 0, none⟩ (.slice Av (xs.map fun x => x.2.2).length cv)).setCell ⟨w.heap.size + 1 + 1, 0, none⟩ (.int .i64 (lastEnd (xs.map plain3)))).drew).heap[k]? = W.heap[k]? := by
        intro k n1 n2
        exact (Below.heap_setCell _ _ _ _ n2).trans (Below.heap_setCell _ _ _ _ n1)
      rw [List.length_map] at k2
      have hK2 := (k2 D (by omega) (by omega)).trans hK
      have hv2 := (hv.set (.slice Av (xs.map fun x => x.2.2).length cv)).other (B' := w.heap.size + 1 + 1) (by omega) (.int .i64 (lastEnd (xs.map plain3)))
      have hE2 := (hE.other (B' := w.heap.size + 1) (by omega) (.slice Av (xs.map fun x => x.2.2).length cv)).set (.int .i64 (lastEnd (xs.map plain3)))
      rw [List.length_map] at hv2 hE2
      have hB2 := ((hB.setCell (p := ⟨w.heap.size + 1, 0, none⟩) (by show w.heap.size ≤ w.heap.size + 1; omega) (.slice Av xs.length cv)).setCell (p := ⟨w.heap.size + 1 + 1, 0, none⟩) (by show w.heap.size ≤ w.heap.size + 1 + 1; omega) (.int .i64 (lastEnd (xs.map plain3))))
      have hN2 := Kd.N_drew (Kd.N_far (Kd.N_far hN (p := ⟨w.heap.size + 1, 0, none⟩) (fun k hk => by show k ≠ w.heap.size + 1; omega) (.slice Av xs.length cv)) (p := ⟨w.heap.size + 1 + 1, 0, none⟩) (fun k hk => by show k ≠ w.heap.size + 1 + 1; omega) (.int .i64 (lastEnd (xs.map plain3))))
      replace hv2 := show Boxed ((W.setCell ⟨w.heap.size + 1, 0, none⟩ (.slice Av xs.length cv)).setCell ⟨w.heap.size + 1 + 1, 0, none⟩ (.int .i64 (lastEnd (xs.map plain3)))).drew _ _ _ from hv2
      replace hE2 := show Boxed ((W.setCell ⟨w.heap.size + 1, 0, none⟩ (.slice Av xs.length cv)).setCell ⟨w.heap.size + 1 + 1, 0, none⟩ (.int .i64 (lastEnd (xs.map plain3)))).drew _ _ _ from hE2
      replace hB2 := below_drew hB2
      clear hc hf hc2 hf2 k2 hv hE hN hB hB0 hB3 hK
      gi_wp2
      refine ⟨by simp, .inl ⟨_, _, rfl, run_takeDeferred hK2, ?_⟩⟩
      have kp := fun (W0 : World) (B : Nat) (ty : TypeId) (u : Value) (hne : B ≠ D) (h : Boxed W0 B ty u) (o' : Obj) => h.kept (grownBy_putObj' _ D o') (fun e => by cases e; exact hne rfl)
      refine ⟨_, results_cell2 rfl _ _ (w.heap.size + 1) (w.heap.size + 1 + 1) _ _ _ _ rfl (kp _ _ _ _ (by omega) hv2 _) Try.underlying22 rfl (kp _ _ _ _ (by omega) hE2 _) Try.underlying3, _, rfl, ?_, hB2.trans ((Below.refl _ _).grown (grownBy_putObj' _ D _) hB2.size (fun k e => by cases e; omega))⟩
      have hms : (xs.map plain3).map (fun x => x.2) = xs.map fun x => x.2.2 := by rw [List.map_map]; rfl
      rw [hms]
      rw [List.length_map] at hN2
      have hN3 := fun (o' : Obj) => Kd.N_step (ok := fun k => w.heap.size + 6 ≤ k) (w1 := World.putObj _ D o') hN2 (fun k hk _ => World.putObj_heap_other (show k ≠ D by omega))
      exact Kd.N_mono (hN3 _) (fun k hk => by omega)
  · rw [if_neg hl] at h; cases h
end

end Go.Proofs.Ytbenenpkbdldmaa.P
