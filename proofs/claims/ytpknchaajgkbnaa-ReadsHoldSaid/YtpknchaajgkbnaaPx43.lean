-- Written by wip/gprint.py, a program of this session over the kit's print; Lean checks it.
import Derived.Test.YtpknchaajgkbnaaPx0
import Derived.Test.YtpknchaajgkbnaaPx1
import Derived.LoopIn
import Derived.LoopNIn
import Derived.Maps.AppendAt
import Derived.Maps.OwnIn
import Derived.OwnWalkIn
import Derived.RangeFuncBound
import Derived.RangeFuncBox
import Derived.RangeFuncCalls
import Derived.RangeFuncLeaves
import Derived.RangeFuncNested
import Derived.RegionIn
import Derived.Shelf.Abstract
import Derived.TacticsInMore
namespace Go.Proofs.Ytpknchaajgkbnaa.P
open Go.RowKit Go.Proofs.YtpknchaajgkbnaaW.PrintWords Go.Proofs.YtpknchaajgkbnaaW.PrintLast Go.Proofs.YtpknchaajgkbnaaW.PrintMore
attribute [local go_sem] max2_int min2_int max_two min_two max_three min_three max_four min_four   -- for this text's walks alone
set_option linter.unusedVariables false
set_option linter.unusedSimpArgs false

/-GIVEN reads_Keep-/
/-! ### reads_Keep: function 7 -/
section
attribute [local go_sem] Oper.semAt_some
def metB (l1 : List S29) (p : S34) : Bool := l1.any fun v => decide (v.f0 < p.f1)
abbrev HandedP := S34 × (Option Addr × Nat) × (Option Addr × Nat)
def encP (x : HandedP) : Array Value := #[.agg #[.int .i64 x.1.f0, .int .i64 x.1.f1, .bool x.1.f2, .slice x.2.1.1 x.1.f3.length x.2.1.2, .slice x.2.2.1 x.1.f4.length x.2.2.2, .bool x.1.f5]]
def HandP (w0 : World) (l0 : List S34) (x : HandedP) : Prop := x.1 ∈ l0 ∧ x.1.f3.length ≤ x.2.1.2 ∧ Kd.C k38 w0 x.2.1.1 x.1.f3.length x.1.f3 ∧ x.1.f4.length ≤ x.2.2.2 ∧ Kd.C k46 w0 x.2.2.1 x.1.f4.length x.1.f4
set_option maxHeartbeats 1000000 in
set_option maxRecDepth 100000 in
theorem met_in (F : Fence) (n : Nat) (hF : F.fn 17) (hro : F.round = none) (A0 : Option Addr) (n0 c0 : Nat) (A1 : Option Addr) (n1 c1 : Nat) (w : World) :
    CallsIn F n Try.prog 17 #[.slice A0 n0 c0, .slice A1 n1 c1] w fun e w' => e = .returned (.func (.func 32) #[] #[.pointer (some ⟨w.heap.size, 0, none⟩), .pointer (some ⟨w.heap.size + 1, 0, none⟩)]) ∧ w' = (w.alloc (.cells #[.slice A0 n0 c0] 22)).alloc (.cells #[.slice A1 n1 c1] 23) := by
  have hmf : ∀ (fn : Fn) (first cap : Array Value) (w : World), (Instr.makeFunc fn first cap).run Try.prog w = .ok (.func fn first cap) w := fun _ _ _ _ => rfl
  refine callsIn_of_wp Try.func17 rfl hF ?_ hro
  simp only [Try.ntmps17, List.size_toArray, List.length_cons, List.length_nil, Nat.reduceAdd, Nat.reduceSub, Array.replicate_succ, Array.replicate_zero, List.push_toArray, List.append_toArray, List.nil_append, List.cons_append]
  gi_wp2
  go_ret
  exact ⟨rfl, rfl⟩
set_option maxHeartbeats 1000000 in
set_option maxRecDepth 100000 in
theorem met_one (g : Nat) (p : S34) (v3 v4 : Value) (W : World) (v : S29) (A1 : Option Addr) (c1 : Nat)
    (hg : W.heap[g]? = some (.cells #[.int .i64 p.f0, .int .i64 p.f1, .bool p.f2, v3, v4, .bool p.f5] 34 (0, 0))) :
    Calls Try.prog 34 #[.agg #[.int .i64 v.f0, .slice A1 v.f1.length c1], .pointer (some ⟨g, 0, none⟩)] W fun e w' => e = .returned (.bool (decide (v.f0 < p.f1))) ∧ Below W.heap.size W w' := by
  have e1 : ∀ o, (W.alloc o).cell? ⟨g, 1, none⟩ = some (.int .i64 p.f1) := fun o => (World.cell?_alloc_lt W o _ (blk_lt hg)).trans ((blk_cell hg 1).trans rfl)
  have hu2 := Try.underlying29
  clear hg
  go_enter Try.func34, Try.ntmps34
  go_wp2
  go_ret
  exact ⟨rfl, below_alloc (Below.refl W.heap.size W) _⟩
set_option maxHeartbeats 2000000 in
set_option maxRecDepth 100000 in
theorem met1_in (lp g1 g2 : Nat) (A0 : Option Addr) (c0 : Nat) (l0 : List S34) (A1 : Option Addr) (c1 : Nat) (l1 : List S29) (w0 : World) (hr0 : Kd.C k34 w0 A0 l0.length l0) (hr1 : Kd.C k29 w0 A1 l1.length l1) (J : List HandedP → World → Prop)
    (hJg : ∀ pre W, J pre W → Boxed W g1 22 (.slice A0 l0.length c0) ∧ Boxed W g2 23 (.slice A1 l1.length c1) ∧ Below w0.heap.size w0 W)
    (hJb : ∀ pre W W', J pre W → Below W.heap.size W W' → J pre W')
    (hY : ∀ pre x W, J pre W → HandP w0 l0 x → pre.length < l0.length + 1 → YieldAt Fence.wide 4 Try.prog lp (encP x) W fun e W' => e = .returned (.bool true) ∧ J (pre ++ [x]) W')
    (W : World) (h0 : J [] W) :
    CallsIn Fence.wide 5 Try.prog 32 #[.func (.yield lp) #[] #[], .pointer (some ⟨g1, 0, none⟩), .pointer (some ⟨g2, 0, none⟩)] W fun e W' => (∃ v, e = .returned v) ∧ ∃ xs, xs.map (fun x => x.1) = l0.filter (metB l1) ∧ J xs W' := by
  have hm : l0.length ≤ 9223372036854775807 := Kd.C_max hr0
  have hmf : ∀ (fn : Fn) (first cap : Array Value) (w : World), (Instr.makeFunc fn first cap).run Try.prog w = .ok (.func fn first cap) w := fun _ _ _ _ => rfl
  have hu2 := Try.underlying34
  have hb1 := (hJg _ _ h0).1.cell
  refine callsIn_of_wp Try.func32 rfl trivial ?_ rfl
  simp only [Try.ntmps32, List.size_toArray, List.length_cons, List.length_nil, Nat.reduceAdd, Nat.reduceSub, Array.replicate_succ, Array.replicate_zero, List.push_toArray, List.append_toArray, List.nil_append, List.cons_append]
  gi_wp2
  gi_loopw [8] (fun v8 wr => ∃ (k : Nat) (pre : List HandedP), v8 = .int .i64 k ∧ k ≤ l0.length ∧ J pre wr ∧ pre.map (fun x => x.1) = (l0.take k).filter (metB l1) ∧ pre.length ≤ k)
    (fun v8 wr => l0.length - (intOf v8).toNat)
  case atStart => exact ⟨0, [], rfl, Nat.zero_le _, h0, by simp, by simp⟩
  case round =>
    obtain ⟨k, pre, rfl, hk, hJ, hE, hpl⟩ := hrel
    have HE := Aside0.mk hE
    clear hE
    have hc2 := (hJg _ _ hJ).2.1.cell
    have hf2 := (hJg _ _ hJ).2.1.frozen
    have HB := Aside0.mk (hJg _ _ hJ).2.2
    by_cases hlt : k < l0.length
    · obtain ⟨ad, A3, c3, A4, c4, e, hx0, hx1, hx2, hx3, hx4, hx5, hl3, hi3, hl4, hi4⟩ := at_T34 hr0 k (by omega) (by omega)
      cases e
      rw [Int.toNat_natCast] at hx0 hx1 hx2 hx3 hx4 hx5
      have hup : ∀ {q : Addr} {u : Value}, w0.cell? q = some u → wr.cell? q = some u := fun {q u} h => (HB.out.cell (World.block_lt_of_cell? w0 _ h)).trans h
      replace hx0 := hup hx0
      replace hx1 := hup hx1
      replace hx2 := hup hx2
      replace hx3 := hup hx3
      replace hx4 := hup hx4
      replace hx5 := hup hx5
      have hv0 : rd_T34 l0 (k : Int) = l0[k] := by unfold rd_T34; simp [List.getD_eq_getElem?_getD, hlt]
      have hmem : rd_T34 l0 (k : Int) ∈ l0 := by rw [hv0]; exact List.getElem_mem hlt
      have htk : (l0.take (k + 1)).filter (metB l1) = (l0.take k).filter (metB l1) ++ (if metB l1 (rd_T34 l0 (k : Int)) = true then [rd_T34 l0 (k : Int)] else []) := by
        rw [List.take_succ_eq_append_getElem hlt, List.filter_append, ← hv0]
        congr 1
        simp only [List.filter_cons, List.filter_nil]
      clear hv0 hup
      generalize rd_T34 l0 (k : Int) = p at *
      have HMEM := Aside0.mk hmem
      have HTK := Aside0.mk htk
      have HI3 := Aside0.mk hi3
      have HI4 := Aside0.mk hi4
      have HHAS := fun (o : Obj) (hg : (wr.alloc o).heap[wr.heap.size]? = some (.cells #[.int .i64 p.f0, .int .i64 p.f1, .bool p.f2, .slice A3 p.f3.length c3, .slice A4 p.f4.length c4, .bool p.f5] 34 (0, 0))) => Aside0.mk (has_Live 34 #[.pointer (some ⟨wr.heap.size, 0, none⟩)] (fun v => decide (v.f0 < p.f1)) A1 c1 l1 (wr.alloc o) (Kd.C_alloc (Kd.C_below hr1 HB.out) _) (enters_of Try.func34 (by kernel_rfl) rfl)
        (fun W1 v B1 d1 _ hb j1 q1 => met_one wr.heap.size p _ _ W1 v B1 d1 ((hb.block _ (by simp)).trans hg)))
      clear hmem htk hi3 hi4
      have HMB := Aside0.mk (show metB l1 p = l1.any (fun v => decide (v.f0 < p.f1)) from rfl)
      generalize hmb : (l1.any fun v => decide (v.f0 < p.f1)) = b at *
      have hJ1 := hJb pre wr (wr.alloc (.cells #[.int .i64 p.f0, .int .i64 p.f1, .bool p.f2, .slice A3 p.f3.length c3, .slice A4 p.f4.length c4, .bool p.f5] 34)) hJ (below_alloc (Below.refl _ _) _)
      have hc2' : ∀ o, (wr.alloc o).cell? ⟨g2, 0, none⟩ = some (.slice A1 l1.length c1) := fun o => (World.cell?_alloc_lt wr o _ (hJg _ _ hJ).2.1.lt).trans hc2
      have hxx := hY pre (p, (A3, c3), (A4, c4))
      simp only [encP] at hxx
      have HY := Aside0.mk hxx
      clear hxx
      cases b with
      | true =>
        gi_wp2_with (refine ⟨trivial, ?_⟩; gi_at_call 33; refine (callsIn_wide.2 (HHAS _ (heap_alloc_new _ _)).out).mono ?_; rintro e1 w1 ⟨rfl, hbw⟩; have hq := (hbw.block _ (by simp)).trans (heap_alloc_new wr _); have hd0 := (blk_cell hq 0).trans rfl; have hd1 := (blk_cell hq 1).trans rfl; have hd2 := (blk_cell hq 2).trans rfl; have hd3 := (blk_cell hq 3).trans rfl; have hd4 := (blk_cell hq 4).trans rfl; have hd5 := (blk_cell hq 5).trans rfl; have hJ2 := hJb _ _ _ hJ1 hbw; obtain ⟨fn, tmps, assign, body, hy, hR⟩ := HY.out w1 hJ2 ⟨HMEM.out, hl3, HI3.out, hl4, HI4.out⟩ (by omega))
        refine hR.mono ?_
        rintro e3 W3 ⟨rfl, hJ3⟩
        gi_wp2
        go_roundw
        case rel => exact ⟨k + 1, pre ++ [(p, (A3, c3), (A4, c4))], by go_num, by omega, hJ3, by rw [HTK.out, HMB.out, if_pos rfl, List.map_append, HE.out]; rfl, by simp; omega⟩
        case measure => simp [intOf]; omega
      | false =>
        gi_wp2_with (refine ⟨trivial, ?_⟩; gi_at_call 33; refine (callsIn_wide.2 (HHAS _ (heap_alloc_new _ _)).out).mono ?_; rintro e1 w1 ⟨rfl, hbw⟩; have hJ2 := hJb _ _ _ hJ1 hbw)
        refine ⟨fun _ hf_ => (by cases hf_), ?_⟩
        gi_wp2
        go_roundw
        case rel => exact ⟨k + 1, pre, by go_num, by omega, hJ2, by rw [HTK.out, HMB.out, if_neg (by decide), List.append_nil, HE.out], by omega⟩
        case measure => simp [intOf]; omega
    · obtain rfl : k = l0.length := by omega
      gi_wp2
      trace_state
      refine bodyPost_end (results_none rfl _ _ _) rfl ?_
      exact ⟨⟨_, rfl⟩, pre, by rw [HE.out, List.take_length], hJ⟩
def okWr (x : S46) : Bool := decide (x.f1.length < 140737488355328) && decide (x.f3.length < 140737488355328)
def okPa (p : S34) : Bool := (decide (p.f3.length < 2199023255552) && p.f3.all okSp) && (decide (p.f4.length < 2199023255552) && p.f4.all okWr)
def KpI (s : Nat) (w : World) (b1 b2 : Value) (pre : List HandedP) (W : World) : Prop :=
  (∃ v, Boxed W s 22 v ∧ Kd.N k34 34 W s (fun k => s + 5 ≤ k) v (pre.map fun x => x.1)) ∧ Boxed W (s + 1) 22 b1 ∧ Boxed W (s + 2) 23 b2 ∧ Below s w W ∧ s + 5 ≤ W.heap.size
theorem KpI.below {s : Nat} {w : World} {b1 b2 : Value} {pre : List HandedP} {W W' : World} (h : KpI s w b1 b2 pre W) (hb : Below W.heap.size W W') : KpI s w b1 b2 pre W' := by
  obtain ⟨⟨v, h1, h2⟩, h3, h4, h6, h7⟩ := h
  have kp : ∀ {B : Nat} {t : TypeId} {u : Value}, Boxed W B t u → Boxed W' B t u := fun h => (hb.block _ h.lt).trans h
  exact ⟨⟨v, kp h1, Kd.N_below h2 hb⟩, kp h3, kp h4, h6.trans (hb.mono (by omega)), Nat.le_trans h7 hb.size⟩
theorem KpI.put {s : Nat} {w : World} {b1 b2 : Value} {pre : List HandedP} {W : World} {l : Nat} (o' : Obj) (hl : l = s + 3 ∨ l = s + 4) (h : KpI s w b1 b2 pre W) : KpI s w b1 b2 pre (W.putObj l o') := by
  obtain ⟨⟨v, h1, h2⟩, h3, h4, h6, h7⟩ := h
  have kp : ∀ {B : Nat} {t : TypeId} {u : Value}, B < s + 3 → Boxed W B t u → Boxed (W.putObj l o') B t u := fun hB h => h.kept (grownBy_putObj' W l o') (fun e => by cases e; omega)
  refine ⟨⟨v, kp (by omega) h1, Kd.N_step h2 (fun k hk _ => World.putObj_heap_other (by omega))⟩, kp (by omega) h3, kp (by omega) h4, h6.trans ((Below.refl _ W).grown (grownBy_putObj' W l o') (by omega) (fun k e => by cases e; omega)), ?_⟩
  have := (grownBy_putObj' W l o').size
  omega
theorem keepsOthers_of_below {W W' : World} (hb : Below W.heap.size W W') : KeepsOthers W W' := ⟨hb.size, fun k o hk _ => (hb.block k (Array.getElem?_eq_some_iff.1 hk).1).trans hk⟩
/-- One result that is a variable of the heap, a row. -/
theorem results_cell1 {P : Program} {fn : Func} {p : Tmp} {ty e : TypeId} (h : fn.results = #[.cell p ty]) (tmps : Array Value) (w : World) (g : Nat) (t : TypeId) (v : Value)
    (hp : tmps.getD p undef = .pointer (some ⟨g, 0, none⟩)) (hg : Boxed w g t v) (hu : P.underlying ty = some (.slice e)) :
    (results fn tmps).run P w = .ok v w := by
  have h1 : tmps[p]?.getD undef = .pointer (some ⟨g, 0, none⟩) := by simpa using hp
  have c1 := hg.cell
  simp [results, h, h1, asAddr, loadVar, isAgg, run_underlying hu, go_sem, c1]
def reads_Keep.f (l0 : List (S34)) (l1 : List (S29)) : Option ((List (S34))) := if (decide (l0.length < 1000000000000) && l0.all okPa) = true then some (l0.filter (metB l1)) else none
set_option maxHeartbeats 4000000 in
set_option maxRecDepth 100000 in
theorem reads_Keep.calls (A0 : Option Addr) (c0 : Nat) (l0 : List (S34)) (A1 : Option Addr) (c1 : Nat) (l1 : List (S29)) (r : List (S34)) (w : World) (hr0 : Kd.C k34 w A0 l0.length l0) (hc0 : l0.length ≤ c0) (hr1 : Kd.C k29 w A1 l1.length l1) (hc1 : l1.length ≤ c1) (h : reads_Keep.f l0 l1 = some r) :
    Calls Try.prog 7 #[.slice A0 l0.length c0, .slice A1 l1.length c1] w fun e w' => ∃ v0_ : Value, e = .returned (v0_) ∧ Kd.V k34 34 w' w.heap.size (fun k_ => (w.heap.size ≤ k_)) v0_ r ∧ Below w.heap.size w w' := by
  unfold reads_Keep.f at h
  have hok : (decide (l0.length < 1000000000000) && l0.all okPa) = true := Classical.byContradiction fun hn => by rw [if_neg hn] at h; cases h
  rw [if_pos hok] at h
  obtain rfl := Option.some.inj h
  clear h
  simp only [Bool.and_eq_true, decide_eq_true_eq, List.all_eq_true] at hok
  obtain ⟨hln, hsm⟩ := hok
  have HSM := Aside0.mk hsm
  clear hsm
  refine (callsIn_wide (n := 6)).1 ?_
  refine callsIn_of_wp_marks Try.func7 rfl trivial ?_ rfl
  simp only [Try.ntmps7, List.size_toArray, List.length_cons, List.length_nil, Nat.reduceAdd, Nat.reduceSub, Array.replicate_succ, Array.replicate_zero, List.push_toArray, List.append_toArray, List.nil_append, List.cons_append]
  gi_wp2_with (refine ⟨trivial, ?_⟩; gi_at_call 17; refine (met_in Fence.wide 5 trivial rfl A0 l0.length c0 A1 l1.length c1 _).mono ?_; rintro e w2 ⟨rfl, rfl⟩)
  have b0 := Boxed.new w 22 (.slice none 0 0)
  have b1 := Boxed.new (w.alloc (.cells #[.slice none 0 0] 22)) 22 (.slice A0 l0.length c0)
  have b2 := Boxed.new ((w.alloc (.cells #[.slice none 0 0] 22)).alloc (.cells #[.slice A0 l0.length c0] 22)) 23 (.slice A1 l1.length c1)
  simp only [World.size_alloc] at b1 b2
  obtain ⟨i0, hi, hz0, hz1, hz2⟩ := info_parts info34
  refine range_boxed (F := Fence.wide) (n := 6) rfl (by decide) (gf := 32) (lb := #[.pointer (some ⟨w.heap.size + 1, 0, none⟩), .pointer (some ⟨w.heap.size + 1 + 1, 0, none⟩)]) ?hg trivial (enters_of Try.func32 (by kernel_rfl) rfl)
    encP (fun _ => rfl) (fun xs => xs.map (fun x => x.1) = l0.filter (metB l1)) (l0.length + 1)
    (KpI w.heap.size w (.slice A0 l0.length c0) (.slice A1 l1.length c1)) (fun x _ => HandP w l0 x)
    ?hIb ?hGb ?h0
    (fun x g => { tmps := #[.slice A0 l0.length c0, .slice A1 l1.length c1, undef, undef, .pointer (some ⟨w.heap.size, 0, none⟩), .pointer (some ⟨g, 0, none⟩), undef, undef, undef, undef, .slice A0 l0.length c0, .slice A1 l1.length c1, .func (.func 32) #[] #[.pointer (some ⟨w.heap.size + 1, 0, none⟩), .pointer (some ⟨w.heap.size + 1 + 1, 0, none⟩)], .agg #[.int .i64 x.1.f0, .int .i64 x.1.f1, .bool x.1.f2, .slice x.2.1.1 x.1.f3.length x.2.1.2, .slice x.2.2.1 x.1.f4.length x.2.2.2, .bool x.1.f5], undef, undef, undef, undef, undef, undef, undef, undef, undef, undef, undef, undef, undef, undef, undef, undef, undef, undef, undef, undef, undef, undef, undef, undef, undef, undef, undef, undef, undef, undef, undef, undef, undef, undef, undef, undef, undef, undef, undef, undef, undef, undef, undef, undef, undef, undef, undef, undef, undef, undef, undef, undef, undef, undef, undef, undef, undef, undef, undef, undef, undef, undef, undef], defers := [] })
    (fun x => .cells #[.int .i64 x.1.f0, .int .i64 x.1.f1, .bool x.1.f2, .slice x.2.1.1 x.1.f3.length x.2.1.2, .slice x.2.2.1 x.1.f4.length x.2.2.2, .bool x.1.f5] 34 (0, 0)) ?assign ?body ?hit ?done
  case hg => simp [Act.eval]
  case hIb =>
    intro pre W l o' hl2 h
    simp only [World.size_alloc] at hl2
    exact h.put o' (by omega)
  case hGb => exact fun _ _ _ _ _ h => h
  case h0 =>
    intro r
    refine ⟨⟨_, (((b0.alloc _).alloc _).alloc _).alloc _, Kd.N_nil _ _ _ _ _⟩, ((b1.alloc _).alloc _).alloc _, (b2.alloc _).alloc _, ?_, by simp only [World.size_alloc]; omega⟩
    exact (((((Below.refl _ w).alloc (by omega) _).alloc (by simp only [World.size_alloc]; omega) _).alloc (by simp only [World.size_alloc]; omega) _).alloc (by simp only [World.size_alloc]; omega) _).alloc (by simp only [World.size_alloc]; omega) _
  case assign =>
    intro l x W K hK
    simp only [encP]
    gi_wp2
    exact hK
  case hit =>
    intro l J W hJI hJ2 hY h0
    refine met1_in l (w.heap.size + 1) (w.heap.size + 1 + 1) A0 c0 l0 A1 c1 l1 w hr0 hr1 J (fun pre W h => ⟨(hJI pre W h).2.1, (hJI pre W h).2.2.1, (hJI pre W h).2.2.2.1⟩) ?_ hY W h0
    intro pre W W' h hb
    exact hJ2 _ _ _ _ h (keepsOthers_of_below hb) ((hJI pre W h).below hb)
  case body =>
    rintro l pre ⟨x, ⟨A3, c3⟩, ⟨A4, c4⟩⟩ W hI ⟨hmem, hl3, hi3, hl4, hi4⟩ hpl
    simp only at hmem hl3 hi3 hl4 hi4 hI hpl ⊢
    have hokp := HSM.out x hmem
    unfold okPa at hokp
    simp only [Bool.and_eq_true, decide_eq_true_eq, List.all_eq_true] at hokp
    obtain ⟨⟨hn3, hs3⟩, hn4, hs4⟩ := hokp
    have HS3 := Aside0.mk hs3
    have HS4 := Aside0.mk hs4
    have HI := Aside0.mk hI
    have HBW := Aside0.mk hI.2.2.2.1
    have hsW : w.heap.size + 5 ≤ W.heap.size := hI.2.2.2.2
    have hm3 : x.f3.length ≤ 9223372036854775807 := by omega
    have hm4 : x.f4.length ≤ 9223372036854775807 := by omega
    have HV3 := Aside0.mk (show Kd.V k38 38 w w.heap.size (fun k_ => k_ < w.heap.size) (.slice A3 x.f3.length c3) x.f3 from Kd.V_mk hl3 (Kd.C_F (by repeat (first | exact Kd.heap_int _ | exact Kd.heap_bool | exact Kd.heap_string | apply Kd.heap_slice | apply Kd.heap_iso | apply Kd.heap_pair)) hi3))
    have HV4 := Aside0.mk (show Kd.V k46 46 w w.heap.size (fun k_ => k_ < w.heap.size) (.slice A4 x.f4.length c4) x.f4 from Kd.V_mk hl4 (Kd.C_F (by repeat (first | exact Kd.heap_int _ | exact Kd.heap_bool | exact Kd.heap_string | apply Kd.heap_slice | apply Kd.heap_iso | apply Kd.heap_pair)) hi4))
    have HC3 := Aside0.mk (show slices_Clone_Span.f x.f3 = some x.f3 by unfold slices_Clone_Span.f; rw [if_pos hn3])
    have HC4 := Aside0.mk (show slices_Clone_Write.f x.f4 = some x.f4 by unfold slices_Clone_Write.f; rw [if_pos hn4])
    clear hs3 hs4 hI hi3 hi4 hl3 hl4
    obtain ⟨gp, hgpe⟩ : ∃ gp, gp = W.heap.size := ⟨_, rfl⟩
    obtain ⟨Wx, hWx⟩ : ∃ Wx, Wx = W.alloc (.cells #[.int .i64 x.f0, .int .i64 x.f1, .bool x.f2, .slice A3 x.f3.length c3, .slice A4 x.f4.length c4, .bool x.f5] 34 (0, 0)) := ⟨_, rfl⟩
    have hG0 : Wx.heap[gp]? = some (.cells #[.int .i64 x.f0, .int .i64 x.f1, .bool x.f2, .slice A3 x.f3.length c3, .slice A4 x.f4.length c4, .bool x.f5] 34 (0, 0)) := by rw [hWx, hgpe]; exact heap_alloc_new W _
    have HBx := Aside0.mk (show Below W.heap.size W Wx by rw [hWx]; exact below_alloc (Below.refl _ _) _)
    have hszx : gp < Wx.heap.size := blk_lt hG0
    have HGPE := Aside0.mk hgpe
    have hsg : w.heap.size + 5 ≤ gp := by omega
    rw [← hWx, ← hgpe]
    clear hWx hgpe
    gi_wp2_with fail
    have HG0 := Aside0.mk hG0
    have hq3 : Wx.cell? ⟨gp, 3, none⟩ = some (.slice A3 x.f3.length c3) := blk_cell hG0 3
    have hq4 : Wx.cell? ⟨gp, 4, none⟩ = some (.slice A4 x.f4.length c4) := blk_cell hG0 4
    clear hG0
    refine startIn_ (n := 10) (S := fun w' => w'.cell? ⟨gp, 3, none⟩ = some (.slice A3 x.f3.length c3) ∧ w'.cell? ⟨gp, 4, none⟩ = some (.slice A4 x.f4.length c4)) (ds := [7, 9]) #[false, false, false, false, false, false, false, false, false, false] (by kernel_rfl) (by rintro ⟨a_, w_, h_⟩; exact nomatch h_.1) (by kernel_rfl) rfl rfl ⟨hq3, hq4⟩ (fun hHeld => ?_)
    clear hq3 hq4
    have HG1 := Aside0.mk (show Wx.drew.heap[gp]? = some (.cells #[.int .i64 x.f0, .int .i64 x.f1, .bool x.f2, .slice A3 x.f3.length c3, .slice A4 x.f4.length c4, .bool x.f5] 34 (0, 0)) from HG0.out)
    have HB1 := Aside0.mk (below_drew1 HBx.out)
    have hsz1 : gp < Wx.drew.heap.size := hszx
    clear HG0 HBx hszx
    generalize Wx.drew = wa at HG1 HB1 hsz1 hHeld ⊢
    refine pure_ (i := 0) (N := some 14) (v := ?_) (a' := ?_) #[true, false, false, false, false, false, false, false, false, false] rfl rfl (by kernel_rfl) (fun _ _ _ h => h) (Or.inl ⟨by rfl, ?_⟩) ?_ ?_
    rotate_left
    · intro w'
      go_simp
      with_reducible rfl
    rotate_left
    · simp only [Act.put, List.setIfInBounds_toArray, List.set_cons_zero, List.set_cons_succ, i64_w, i32_w]
      rfl
    refine take_ (i := 1) (N := some 15) (v := ?_) (a' := ?_) #[true, true, false, false, false, false, false, false, false, false] rfl rfl (by kernel_rfl) (fun _ _ _ h => h) (Or.inl ⟨by rfl, ?_⟩) hHeld ?_ ?_
    rotate_left
    · rintro w' ⟨s0, s1⟩
      go_simp
      with_reducible rfl
    rotate_left
    · simp only [Act.put, List.setIfInBounds_toArray, List.set_cons_zero, List.set_cons_succ, i64_w, i32_w]
      rfl
    refine pure_ (i := 3) (N := some 17) (v := ?_) (a' := ?_) #[true, true, false, true, false, false, false, false, false, false] rfl rfl (by kernel_rfl) (fun _ _ _ h => h) (Or.inl ⟨by rfl, ?_⟩) ?_ ?_
    rotate_left
    · intro w'
      go_simp
      with_reducible rfl
    rotate_left
    · simp only [Act.put, List.setIfInBounds_toArray, List.set_cons_zero, List.set_cons_succ, i64_w, i32_w]
      rfl
    refine take_ (i := 4) (N := some 18) (v := ?_) (a' := ?_) #[true, true, false, true, true, false, false, false, false, false] rfl rfl (by kernel_rfl) (fun _ _ _ h => h) (Or.inl ⟨by rfl, ?_⟩) hHeld ?_ ?_
    rotate_left
    · rintro w' ⟨s0, s1⟩
      go_simp
      with_reducible rfl
    rotate_left
    · simp only [Act.put, List.setIfInBounds_toArray, List.set_cons_zero, List.set_cons_succ, i64_w, i32_w]
      rfl
    refine one_ (i := 2) (N := some 16) #[true, true, true, true, true, false, false, false, false, false] rfl rfl (by kernel_rfl) (by decide) (fun K hK => ?_)
    refine goes_ Try.func18 (by kernel_rfl) rfl #[.slice A3 x.f3.length c3] (by rfl) rfl rfl (by (try simp only [List.map_toArray, List.map_cons, List.map_nil]); first | done | rfl) ?_
    refine (slices_Clone_Span.calls (fun k_ => k_ < w.heap.size) A3 c3 x.f3 x.f3 wa (Kd.V_below (Kd.V_below HV3.out HBW.out) (HB1.out)) HC3.out).mono ?_
    rintro e wb ⟨v, rfl, hN3, hb3⟩
    have HG2 := Aside0.mk ((hb3.block _ hsz1).trans HG1.out)
    refine ⟨_, rfl, ?_⟩
    refine hK.out _ _ ⟨(blk_cell HG2.out 3).trans rfl, (blk_cell HG2.out 4).trans rfl⟩ (fun hHeld => ?_)
    clear hK K
    refine norm_ (a' := ?_) ?_ ?_
    rotate_left
    · show Act.put _ (some 16) _ = _
      simp only [Act.put, List.setIfInBounds_toArray, List.set_cons_zero, List.set_cons_succ, i64_w, i32_w]
      rfl
    obtain ⟨Ar, cr, rfl, hcr, hrow3⟩ := N_block hN3
    have HB2 := Aside0.mk (below_step HB1.out hb3)
    have HROW3 := Aside0.mk hrow3
    have hsz2 : wa.heap.size ≤ wb.heap.size := hb3.size
    have hbr : ∀ B, wb.heap[B]? ≠ none → B < wb.heap.size := fun B h => Classical.byContradiction fun hn => h (by simp; omega)
    clear hN3 hb3 hrow3
    refine pure_ (i := 6) (N := some 20) (v := ?_) (a' := ?_) #[true, true, true, true, true, false, true, false, false, false] rfl rfl (by kernel_rfl) (fun _ _ _ h => h) (Or.inl ⟨by rfl, ?_⟩) ?_ ?_
    rotate_left
    · intro w'
      go_simp
      with_reducible rfl
    rotate_left
    · simp only [Act.put, List.setIfInBounds_toArray, List.set_cons_zero, List.set_cons_succ, i64_w, i32_w]
      rfl
    refine one_ (i := 5) (N := some 19) #[true, true, true, true, true, true, true, false, false, false] rfl rfl (by kernel_rfl) (by decide) (fun K hK => ?_)
    refine goes_ Try.func19 (by kernel_rfl) rfl #[.slice A4 x.f4.length c4] (by rfl) rfl rfl (by (try simp only [List.map_toArray, List.map_cons, List.map_nil]); first | done | rfl) ?_
    refine (slices_Clone_Write.calls (fun k_ => k_ < w.heap.size) A4 c4 x.f4 x.f4 wb (Kd.V_below (Kd.V_below HV4.out HBW.out) (HB2.out)) HC4.out).mono ?_
    rintro e wc ⟨v, rfl, hN4, hb4⟩
    have HG3 := Aside0.mk ((hb4.block _ (Nat.lt_of_lt_of_le hsz1 hsz2)).trans HG2.out)
    refine ⟨_, rfl, ?_⟩
    refine hK.out _ _ ⟨(blk_cell HG3.out 3).trans rfl, (blk_cell HG3.out 4).trans rfl⟩ (fun hHeld => ?_)
    clear hK K
    refine norm_ (a' := ?_) ?_ ?_
    rotate_left
    · show Act.put _ (some 19) _ = _
      simp only [Act.put, List.setIfInBounds_toArray, List.set_cons_zero, List.set_cons_succ, i64_w, i32_w]
      rfl
    obtain ⟨Aw, cw, rfl, hcw, hrow4⟩ := N_block hN4
    have HB3 := Aside0.mk (below_step HB2.out hb4)
    have HB34 := Aside0.mk hb4
    have HROW4 := Aside0.mk hrow4
    have hsz3 : wb.heap.size ≤ wc.heap.size := hb4.size
    have hfz3 := blk_frozen HG3.out 3
    have hk3 := (blk_cell HG3.out 3).trans rfl
    have hk4 := (blk_cell HG3.out 4).trans rfl
    clear hN4 hb4 hrow4
    refine last_ (i := 7) (N := none) #[true, true, true, true, true, true, true, true, false, false] rfl rfl (by kernel_rfl) (by decide) (fun K hK => ?_)
    refine skip_ (w1 := ?_) (by rfl) rfl ?_ ?_
    rotate_left
    · go_simp
      rfl
    refine hK.out _ _ ?_
    clear hK K
    have HG4 := Aside0.mk (blk_set HG3.out 3 (.slice Ar x.f3.length cr))
    have hfz4 := blk_frozen HG4.out 4
    refine pure_ (i := 8) (N := some 21) (v := ?_) (a' := ?_) #[true, true, true, true, true, true, true, true, true, false] rfl rfl (by kernel_rfl) (fun _ _ _ h => h) (Or.inl ⟨by rfl, ?_⟩) ?_ ?_
    rotate_left
    · intro w'
      go_simp
      with_reducible rfl
    rotate_left
    · simp only [Act.put, List.setIfInBounds_toArray, List.set_cons_zero, List.set_cons_succ, i64_w, i32_w]
      rfl
    refine last_ (i := 9) (N := none) #[true, true, true, true, true, true, true, true, true, true] rfl rfl (by kernel_rfl) (by decide) (fun K hK => ?_)
    refine skip_ (w1 := ?_) (by rfl) rfl ?_ ?_
    rotate_left
    · go_simp
      rfl
    refine hK.out _ _ ?_
    clear hK K
    refine done_ (by kernel_rfl) ?_
    have hG5 : ((wc.setCell ⟨gp, 3, none⟩ (.slice Ar x.f3.length cr)).setCell ⟨gp, 4, none⟩ (.slice Aw x.f4.length cw)).heap[gp]? = some (.cells #[.int .i64 x.f0, .int .i64 x.f1, .bool x.f2, .slice Ar x.f3.length cr, .slice Aw x.f4.length cw, .bool x.f5] 34 (0, 0)) := blk_set HG4.out 4 (.slice Aw x.f4.length cw)
    obtain ⟨B1, hB1, hB1b, hB1c, hS1⟩ := RowSt.of_block (by omega) HROW3.out
    obtain ⟨B2, hB2, hB2b, hB2c, hS2⟩ := RowSt.of_block (by omega) HROW4.out
    have HB5 := Aside0.mk (show Below W.heap.size W ((wc.setCell ⟨gp, 3, none⟩ (.slice Ar x.f3.length cr)).setCell ⟨gp, 4, none⟩ (.slice Aw x.f4.length cw)) from (HB3.out.setCell (p := ⟨gp, 3, none⟩) (by have := HGPE.out; show W.heap.size ≤ gp; omega) _).setCell (p := ⟨gp, 4, none⟩) (by have := HGPE.out; show W.heap.size ≤ gp; omega) _)
    have hoth : ∀ q, q ≠ gp → ((wc.setCell ⟨gp, 3, none⟩ (.slice Ar x.f3.length cr)).setCell ⟨gp, 4, none⟩ (.slice Aw x.f4.length cw)).heap[q]? = wc.heap[q]? := fun q hq => (Below.heap_setCell _ _ _ _ hq).trans (Below.heap_setCell _ _ _ _ hq)
    have hsz5 : ((wc.setCell ⟨gp, 3, none⟩ (.slice Ar x.f3.length cr)).setCell ⟨gp, 4, none⟩ (.slice Aw x.f4.length cw)).heap.size = wc.heap.size := by simp [World.setCell]
    have HS1 := Aside0.mk (show RowSt k38 38 ((wc.setCell ⟨gp, 3, none⟩ (.slice Ar x.f3.length cr)).setCell ⟨gp, 4, none⟩ (.slice Aw x.f4.length cw)) Ar x.f3 0 B1 (fun q => gp < q ∧ q ≠ B1 ∧ q ≠ B2) (fun q => (q < w.heap.size ∨ wa.heap.size ≤ q) ∧ q ≠ B1) from ((hS1 _).below HB34.out).step (by omega) (fun hn _ => hoth _ (by have := hB1 hn; omega)) (fun q hq => absurd hq (Nat.not_lt_zero _)) (fun q _ hq _ => hoth q (by have := hq.1; omega)))
    have HS2 := Aside0.mk (show RowSt k46 46 ((wc.setCell ⟨gp, 3, none⟩ (.slice Ar x.f3.length cr)).setCell ⟨gp, 4, none⟩ (.slice Aw x.f4.length cw)) Aw x.f4 0 B2 (fun q => gp < q ∧ q ≠ B2) (fun q => (q < w.heap.size ∨ wb.heap.size ≤ q) ∧ q ≠ B2) from (hS2 _).step (by omega) (fun hn _ => hoth _ (by have := hB2 hn; omega)) (fun q hq => absurd hq (Nat.not_lt_zero _)) (fun q _ hq _ => hoth q (by have := hq.1; omega)))
    have HG5 := Aside0.mk hG5
    generalize ((wc.setCell ⟨gp, 3, none⟩ (.slice Ar x.f3.length cr)).setCell ⟨gp, 4, none⟩ (.slice Aw x.f4.length cw)) = wd at HG5 HB5 HS1 HS2 hsz5 ⊢
    clear hG5 hoth hS1 hS2 HROW3 HROW4 HG4 HG3 HG2 HG1 hfz3 hfz4 hk3 hk4 HB34
    have hc3 : wd.cell? ⟨gp, 3, none⟩ = some (.slice Ar x.f3.length cr) := (blk_cell HG5.out 3).trans rfl
    gi_wp2_with fail
    gi_loopw [25] (fun v_ wr => ∃ k : Nat, k ≤ x.f3.length ∧ v_ = .int .i64 k ∧ Aside0 (wr.heap[gp]? = some (.cells #[.int .i64 x.f0, .int .i64 x.f1, .bool x.f2, .slice Ar x.f3.length cr, .slice Aw x.f4.length cw, .bool x.f5] 34 (0, 0))) ∧ Aside0 (Below W.heap.size W wr) ∧ Aside0 (RowSt k38 38 wr Ar x.f3 k B1 (fun q => gp < q ∧ q ≠ B1 ∧ q ≠ B2) (fun q => (q < w.heap.size ∨ wa.heap.size ≤ q) ∧ q ≠ B1)) ∧ Aside0 (RowSt k46 46 wr Aw x.f4 0 B2 (fun q => gp < q ∧ q ≠ B2) (fun q => (q < w.heap.size ∨ wb.heap.size ≤ q) ∧ q ≠ B2)) ∧ Aside0 (wc.heap.size ≤ wr.heap.size)) (fun v_ _ => x.f3.length - (intOf v_).toNat)
    case atStart => exact ⟨0, Nat.zero_le _, rfl, HG5, HB5, HS1, HS2, ⟨by omega⟩⟩
    case round =>
      obtain ⟨k, hk, rfl, HG, HBr, HRr, HO, HZ⟩ := hrel
      have hz : wc.heap.size ≤ wr.heap.size := HZ.out
      by_cases hlt : k < x.f3.length
      · obtain ⟨hAr, hBl, cur, hcur, hcl, hE⟩ := HRr.out (by omega)
        subst hAr
        have hBB := hB1 (by omega)
        obtain ⟨p, hp⟩ : ∃ p, x.f3[k]? = some p := ⟨_, List.getElem?_eq_getElem hlt⟩
        obtain ⟨Aa, ca, Ab, cb, hch, hla, hFa, hlb, hFb⟩ := k38_openF ((hE k p hp).2 (Nat.le_refl _))
        have hch' : (cur.drop (k * 4)).take 4 = [.int .i64 p.f0, .slice Aa p.f1.length ca, .slice Ab p.f2.length cb, .bool p.f3] := hch
        have hcl' : x.f3.length * 4 ≤ cur.length := hcl
        have hx0 : wr.cell? ⟨B1, k * 4, none⟩ = some (.int .i64 p.f0) := by
          rw [blk_cell hcur]; have := chunk_at (cur := cur) (k := k) (show 0 < 4 by decide); rw [hch'] at this; simpa using this
        have hx1 : wr.cell? ⟨B1, k * 4 + 1, none⟩ = some (.slice Aa p.f1.length ca) := by
          rw [blk_cell hcur]; have := chunk_at (cur := cur) (k := k) (show 1 < 4 by decide); rw [hch'] at this; simpa using this
        have hx2 : wr.cell? ⟨B1, k * 4 + 2, none⟩ = some (.slice Ab p.f2.length cb) := by
          rw [blk_cell hcur]; have := chunk_at (cur := cur) (k := k) (show 2 < 4 by decide); rw [hch'] at this; simpa using this
        have hx3 : wr.cell? ⟨B1, k * 4 + 3, none⟩ = some (.bool p.f3) := by
          rw [blk_cell hcur]; have := chunk_at (cur := cur) (k := k) (show 3 < 4 by decide); rw [hch'] at this; simpa using this
        have hsmall := HS3.out p (List.mem_of_getElem? hp)
        unfold okSp at hsmall
        simp only [Bool.and_eq_true, decide_eq_true_eq] at hsmall
        have HCa := Aside0.mk (show bytes_Clone.f p.f1 = some p.f1 by unfold bytes_Clone.f; rw [if_pos hsmall.1])
        have HCb := Aside0.mk (show bytes_Clone.f p.f2 = some p.f2 by unfold bytes_Clone.f; rw [if_pos hsmall.2])
        have HP := Aside0.mk hp
        have HCH := Aside0.mk hch'
        have HE := Aside0.mk hE
        have HCUR := Aside0.mk hcur
        have HCL := Aside0.mk hcl'
        have HRa := Aside0.mk (Kd.F_now hFa)
        have HRb := Aside0.mk (Kd.F_now hFb)
        have HLa := Aside0.mk hla
        have HLb := Aside0.mk hlb
        have hgl : gp < wr.heap.size := by omega
        clear hp hch hch' hE hcl hcl' hFa hFb hla hlb hsmall
        gi_wp2_with fail
        obtain ⟨gx, hgx⟩ : ∃ gx, gx = wr.heap.size := ⟨_, rfl⟩
        obtain ⟨Wy, hWy⟩ : ∃ Wy, Wy = wr.alloc (.cells #[.int .i64 p.f0, .slice Aa p.f1.length ca, .slice Ab p.f2.length cb, .bool p.f3] 38 (0, 0)) := ⟨_, rfl⟩
        have HBy := Aside0.mk (show Below wr.heap.size wr Wy by rw [hWy]; exact below_alloc (Below.refl _ _) _)
        have hX : Wy.heap[gx]? = some (.cells #[.int .i64 p.f0, .slice Aa p.f1.length ca, .slice Ab p.f2.length cb, .bool p.f3] 38 (0, 0)) := by rw [hWy, hgx]; exact heap_alloc_new wr _
        have HGY := Aside0.mk ((HBy.out.block _ hgl).trans HG.out)
        have HCY := Aside0.mk ((HBy.out.block _ hBl).trans HCUR.out)
        have hszy : gx < Wy.heap.size := blk_lt hX
        have HGX := Aside0.mk hgx
        have hgxl : wr.heap.size ≤ gx := by omega
        rw [← hWy, ← hgx]
        clear hWy hgx hx0 hx1 hx2 hx3 hcur
        have HX := Aside0.mk hX
        have hq0 : Wy.cell? ⟨gp, 3, none⟩ = some (.slice (some ⟨B1, 0, none⟩) x.f3.length cr) := (blk_cell HGY.out 3).trans rfl
        have hq1 : Wy.cell? ⟨gx, 1, none⟩ = some (.slice Aa p.f1.length ca) := (blk_cell hX 1).trans rfl
        have hq2 : Wy.cell? ⟨gx, 2, none⟩ = some (.slice Ab p.f2.length cb) := (blk_cell hX 2).trans rfl
        clear hX
        have hp1 : (0 ≤ (k : Int)) = True := eq_true (by omega)
        have hp2 : ((k : Int) < (x.f3.length : Int)) = True := eq_true (by omega)
        refine startIn_ (n := 18) (S := fun w' => w'.cell? ⟨gp, 3, none⟩ = some (.slice (some ⟨B1, 0, none⟩) x.f3.length cr) ∧ w'.cell? ⟨gx, 1, none⟩ = some (.slice Aa p.f1.length ca) ∧ w'.cell? ⟨gx, 2, none⟩ = some (.slice Ab p.f2.length cb)) (ds := [17]) #[false, false, false, false, false, false, false, false, false, false, false, false, false, false, false, false, false, false] (by kernel_rfl) (by rintro ⟨a_, w_, h_⟩; exact nomatch h_.1) (by kernel_rfl) rfl rfl ⟨hq0, hq1, hq2⟩ (fun hHeld => ?_)
        clear hq0 hq1 hq2
        have HGa := Aside0.mk (show Wy.drew.heap[gp]? = some (.cells #[.int .i64 x.f0, .int .i64 x.f1, .bool x.f2, .slice (some ⟨B1, 0, none⟩) x.f3.length cr, .slice Aw x.f4.length cw, .bool x.f5] 34 (0, 0)) from HGY.out)
        have HCa0 := Aside0.mk (show Wy.drew.heap[B1]? = some (.cells cur.toArray 38 (0, 0)) from HCY.out)
        have HXa := Aside0.mk (show Wy.drew.heap[gx]? = some (.cells #[.int .i64 p.f0, .slice Aa p.f1.length ca, .slice Ab p.f2.length cb, .bool p.f3] 38 (0, 0)) from HX.out)
        have HBa := Aside0.mk (below_drew1 HBy.out)
        have hsza : gx < Wy.drew.heap.size := hszy
        clear HGY HCY HX HBy hszy
        generalize Wy.drew = ya at HGa HCa0 HXa HBa hsza hHeld ⊢
        refine pure_ (i := 0) (N := some 30) (v := ?_) (a' := ?_) #[true, false, false, false, false, false, false, false, false, false, false, false, false, false, false, false, false, false] rfl rfl (by kernel_rfl) (fun _ _ _ h => h) (Or.inl ⟨by rfl, ?_⟩) ?_ ?_
        rotate_left
        · intro w'
          go_simp
          with_reducible rfl
        rotate_left
        · simp only [Act.put, List.setIfInBounds_toArray, List.set_cons_zero, List.set_cons_succ, i64_w, i32_w]
          rfl
        refine take_ (i := 1) (N := some 31) (v := ?_) (a' := ?_) #[true, true, false, false, false, false, false, false, false, false, false, false, false, false, false, false, false, false] rfl rfl (by kernel_rfl) (fun _ _ _ h => h) (Or.inl ⟨by rfl, ?_⟩) hHeld ?_ ?_
        rotate_left
        · rintro w' ⟨s0, s1, s2⟩
          go_simp
          with_reducible rfl
        rotate_left
        · simp only [Act.put, List.setIfInBounds_toArray, List.set_cons_zero, List.set_cons_succ, i64_w, i32_w]
          rfl
        refine pure_ (i := 2) (N := some 32) (v := ?_) (a' := ?_) #[true, true, true, false, false, false, false, false, false, false, false, false, false, false, false, false, false, false] rfl rfl (by kernel_rfl) (fun _ _ _ h => h) (Or.inl ⟨by rfl, ?_⟩) ?_ ?_
        rotate_left
        · intro w'
          go_simp
          with_reducible rfl
        rotate_left
        · simp only [Act.put, List.setIfInBounds_toArray, List.set_cons_zero, List.set_cons_succ, i64_w, i32_w]
          rfl
        refine pure_ (i := 3) (N := some 33) (v := ?_) (a' := ?_) #[true, true, true, true, false, false, false, false, false, false, false, false, false, false, false, false, false, false] rfl rfl (by kernel_rfl) (fun _ _ _ h => h) (Or.inl ⟨by rfl, ?_⟩) ?_ ?_
        rotate_left
        · intro w'
          go_simp
          with_reducible rfl
        rotate_left
        · simp only [Act.put, List.setIfInBounds_toArray, List.set_cons_zero, List.set_cons_succ, i64_w, i32_w]
          rfl
        refine take_ (i := 4) (N := some 34) (v := ?_) (a' := ?_) #[true, true, true, true, true, false, false, false, false, false, false, false, false, false, false, false, false, false] rfl rfl (by kernel_rfl) (fun _ _ _ h => h) (Or.inl ⟨by rfl, ?_⟩) hHeld ?_ ?_
        rotate_left
        · rintro w' ⟨s0, s1, s2⟩
          go_simp
          with_reducible rfl
        rotate_left
        · simp only [Act.put, List.setIfInBounds_toArray, List.set_cons_zero, List.set_cons_succ, i64_w, i32_w]
          rfl
        refine pure_ (i := 5) (N := some 35) (v := ?_) (a' := ?_) #[true, true, true, true, true, true, false, false, false, false, false, false, false, false, false, false, false, false] rfl rfl (by kernel_rfl) (fun _ _ _ h => h) (Or.inl ⟨by rfl, ?_⟩) ?_ ?_
        rotate_left
        · intro w'
          go_simp
          with_reducible rfl
        rotate_left
        · simp only [Act.put, List.setIfInBounds_toArray, List.set_cons_zero, List.set_cons_succ, i64_w, i32_w]
          rfl
        refine pure_ (i := 6) (N := some 36) (v := ?_) (a' := ?_) #[true, true, true, true, true, true, true, false, false, false, false, false, false, false, false, false, false, false] rfl rfl (by kernel_rfl) (fun _ _ _ h => h) (Or.inl ⟨by rfl, ?_⟩) ?_ ?_
        rotate_left
        · intro w'
          go_simp
          with_reducible rfl
        rotate_left
        · simp only [Act.put, List.setIfInBounds_toArray, List.set_cons_zero, List.set_cons_succ, i64_w, i32_w]
          rfl
        refine take_ (i := 7) (N := some 37) (v := ?_) (a' := ?_) #[true, true, true, true, true, true, true, true, false, false, false, false, false, false, false, false, false, false] rfl rfl (by kernel_rfl) (fun _ _ _ h => h) (Or.inl ⟨by rfl, ?_⟩) hHeld ?_ ?_
        rotate_left
        · rintro w' ⟨s0, s1, s2⟩
          go_simp
          with_reducible rfl
        rotate_left
        · simp only [Act.put, List.setIfInBounds_toArray, List.set_cons_zero, List.set_cons_succ, i64_w, i32_w]
          rfl
        refine pure_ (i := 9) (N := some 39) (v := ?_) (a' := ?_) #[true, true, true, true, true, true, true, true, false, true, false, false, false, false, false, false, false, false] rfl rfl (by kernel_rfl) (fun _ _ _ h => h) (Or.inl ⟨by rfl, ?_⟩) ?_ ?_
        rotate_left
        · intro w'
          go_simp
          with_reducible rfl
        rotate_left
        · simp only [Act.put, List.setIfInBounds_toArray, List.set_cons_zero, List.set_cons_succ, i64_w, i32_w]
          rfl
        refine take_ (i := 10) (N := some 40) (v := ?_) (a' := ?_) #[true, true, true, true, true, true, true, true, false, true, true, false, false, false, false, false, false, false] rfl rfl (by kernel_rfl) (fun _ _ _ h => h) (Or.inl ⟨by rfl, ?_⟩) hHeld ?_ ?_
        rotate_left
        · rintro w' ⟨s0, s1, s2⟩
          go_simp
          with_reducible rfl
        rotate_left
        · simp only [Act.put, List.setIfInBounds_toArray, List.set_cons_zero, List.set_cons_succ, i64_w, i32_w]
          rfl
        refine one_ (i := 8) (N := some 38) #[true, true, true, true, true, true, true, true, true, true, true, false, false, false, false, false, false, false] rfl rfl (by kernel_rfl) (by decide) (fun K hK => ?_)
        refine goes_ Try.func20 (by kernel_rfl) rfl #[.slice Aa p.f1.length ca] (by rfl) rfl rfl (by (try simp only [List.map_toArray, List.map_cons, List.map_nil]); first | done | rfl) ?_
        refine (bytes_Clone.calls Aa ca p.f1 p.f1 ya (Kd.C_below HRa.out HBa.out) HLa.out HCa.out).mono ?_
        rintro e yb ⟨v, rfl, hva, hba⟩
        have HGb := Aside0.mk ((hba.block _ (by omega)).trans HGa.out)
        have HCb0 := Aside0.mk ((hba.block _ (by omega)).trans HCa0.out)
        have HXb := Aside0.mk ((hba.block _ (by omega)).trans HXa.out)
        refine ⟨_, rfl, ?_⟩
        refine hK.out _ _ ⟨(blk_cell HGb.out 3).trans rfl, (blk_cell HXb.out 1).trans rfl, (blk_cell HXb.out 2).trans rfl⟩ (fun hHeld => ?_)
        clear hK K
        refine norm_ (a' := ?_) ?_ ?_
        rotate_left
        · show Act.put _ (some 38) _ = _
          simp only [Act.put, List.setIfInBounds_toArray, List.set_cons_zero, List.set_cons_succ, i64_w, i32_w]
          rfl
        obtain ⟨Ac, cc, rfl⟩ := Kd.R_slice hva
        have HVa := Aside0.mk hva
        have HBb := Aside0.mk (below_step HBa.out hba)
        have hszb : ya.heap.size ≤ yb.heap.size := hba.size
        clear hva hba
        refine one_ (i := 11) (N := some 41) #[true, true, true, true, true, true, true, true, true, true, true, true, false, false, false, false, false, false] rfl rfl (by kernel_rfl) (by decide) (fun K hK => ?_)
        refine goes_ Try.func20 (by kernel_rfl) rfl #[.slice Ab p.f2.length cb] (by rfl) rfl rfl (by (try simp only [List.map_toArray, List.map_cons, List.map_nil]); first | done | rfl) ?_
        refine (bytes_Clone.calls Ab cb p.f2 p.f2 yb (Kd.C_below HRb.out HBb.out) HLb.out HCb.out).mono ?_
        rintro e yc ⟨v, rfl, hvb, hbb⟩
        have HGc := Aside0.mk ((hbb.block _ (by omega)).trans HGb.out)
        have HCc0 := Aside0.mk ((hbb.block _ (by omega)).trans HCb0.out)
        have HXc := Aside0.mk ((hbb.block _ (by omega)).trans HXb.out)
        refine ⟨_, rfl, ?_⟩
        refine hK.out _ _ ⟨(blk_cell HGc.out 3).trans rfl, (blk_cell HXc.out 1).trans rfl, (blk_cell HXc.out 2).trans rfl⟩ (fun hHeld => ?_)
        clear hK K
        refine norm_ (a' := ?_) ?_ ?_
        rotate_left
        · show Act.put _ (some 41) _ = _
          simp only [Act.put, List.setIfInBounds_toArray, List.set_cons_zero, List.set_cons_succ, i64_w, i32_w]
          rfl
        obtain ⟨Ae, ce, rfl⟩ := Kd.R_slice hvb
        have HVb := Aside0.mk hvb
        have HBc := Aside0.mk (below_step HBb.out hbb)
        have HVa2 := Aside0.mk (Kd.R_below HVa.out hbb)
        have hszc : yb.heap.size ≤ yc.heap.size := hbb.size
        clear hvb hbb
        have hlen4 : k * 4 + 4 ≤ cur.length := by have := HCL.out; omega
        have hga : yc.cell? ⟨B1, k * 4 + 1, none⟩ = some (.slice Aa p.f1.length ca) := by
          rw [blk_cell HCc0.out]; have := chunk_at (cur := cur) (k := k) (show 1 < 4 by decide); rw [HCH.out] at this; simpa using this
        have hgb : yc.cell? ⟨B1, k * 4 + 2, none⟩ = some (.slice Ab p.f2.length cb) := by
          rw [blk_cell HCc0.out]; have := chunk_at (cur := cur) (k := k) (show 2 < 4 by decide); rw [HCH.out] at this; simpa using this
        have hfa := blk_frozen HCc0.out (k * 4 + 1)
        have hfb := blk_frozen HCc0.out (k * 4 + 2)
        have hne1 : gp ≠ B1 := by omega
        have hne2 : gx ≠ B1 := by omega
        refine pure_ (i := 12) (N := some 42) (v := ?_) (a' := ?_) #[true, true, true, true, true, true, true, true, true, true, true, true, true, false, false, false, false, false] rfl rfl (by kernel_rfl) (fun _ _ _ h => h) (Or.inl ⟨by rfl, ?_⟩) ?_ ?_
        rotate_left
        · intro w'
          go_simp
          with_reducible rfl
        rotate_left
        · simp only [Act.put, List.setIfInBounds_toArray, List.set_cons_zero, List.set_cons_succ, i64_w, i32_w]
          rfl
        refine pure_ (i := 13) (N := some 43) (v := ?_) (a' := ?_) #[true, true, true, true, true, true, true, true, true, true, true, true, true, true, false, false, false, false] rfl rfl (by kernel_rfl) (fun _ _ _ h => h) (Or.inl ⟨by rfl, ?_⟩) ?_ ?_
        rotate_left
        · intro w'
          go_simp
          with_reducible rfl
        rotate_left
        · simp only [Act.put, List.setIfInBounds_toArray, List.set_cons_zero, List.set_cons_succ, i64_w, i32_w]
          rfl
        refine one_ (i := 14) (N := none) #[true, true, true, true, true, true, true, true, true, true, true, true, true, true, true, false, false, false] rfl rfl (by kernel_rfl) (by decide) (fun K hK => ?_)
        refine skip_ (w1 := ?_) (by rfl) rfl ?_ ?_
        rotate_left
        · go_simp
          rfl
        refine hK.out _ _ ⟨(blk_cell (blk_far HGc.out (p := ⟨B1, k * 4 + 1, none⟩) hne1 _) 3).trans rfl, (blk_cell (blk_far HXc.out (p := ⟨B1, k * 4 + 1, none⟩) hne2 _) 1).trans rfl, (blk_cell (blk_far HXc.out (p := ⟨B1, k * 4 + 1, none⟩) hne2 _) 2).trans rfl⟩ (fun hHeld => ?_)
        clear hK K
        have HCd := Aside0.mk (blk_set HCc0.out (k * 4 + 1) (.slice Ac p.f1.length cc))
        have hfb2 := blk_frozen HCd.out (k * 4 + 2)
        have hgb2 : (yc.setCell ⟨B1, k * 4 + 1, none⟩ (.slice Ac p.f1.length cc)).cell? ⟨B1, k * 4 + 2, none⟩ = some (.slice Ab p.f2.length cb) := by
          rw [blk_cell HCd.out, Array.getElem?_setIfInBounds_ne (by omega), ← blk_cell HCc0.out]; exact hgb
        refine pure_ (i := 15) (N := some 44) (v := ?_) (a' := ?_) #[true, true, true, true, true, true, true, true, true, true, true, true, true, true, true, true, false, false] rfl rfl (by kernel_rfl) (fun _ _ _ h => h) (Or.inl ⟨by rfl, ?_⟩) ?_ ?_
        rotate_left
        · intro w'
          go_simp
          with_reducible rfl
        rotate_left
        · simp only [Act.put, List.setIfInBounds_toArray, List.set_cons_zero, List.set_cons_succ, i64_w, i32_w]
          rfl
        refine pure_ (i := 16) (N := some 45) (v := ?_) (a' := ?_) #[true, true, true, true, true, true, true, true, true, true, true, true, true, true, true, true, true, false] rfl rfl (by kernel_rfl) (fun _ _ _ h => h) (Or.inl ⟨by rfl, ?_⟩) ?_ ?_
        rotate_left
        · intro w'
          go_simp
          with_reducible rfl
        rotate_left
        · simp only [Act.put, List.setIfInBounds_toArray, List.set_cons_zero, List.set_cons_succ, i64_w, i32_w]
          rfl
        refine last_ (i := 17) (N := none) #[true, true, true, true, true, true, true, true, true, true, true, true, true, true, true, true, true, true] rfl rfl (by kernel_rfl) (by decide) (fun K hK => ?_)
        refine skip_ (w1 := ?_) (by rfl) rfl ?_ ?_
        rotate_left
        · go_simp
          rfl
        refine hK.out _ _ ?_
        clear hK K
        refine done_ (by kernel_rfl) ?_
        have HCe := Aside0.mk (blk_set HCd.out (k * 4 + 2) (.slice Ae p.f2.length ce))
        have HGe := Aside0.mk (blk_far (blk_far HGc.out (p := ⟨B1, k * 4 + 1, none⟩) hne1 (.slice Ac p.f1.length cc)) (p := ⟨B1, k * 4 + 2, none⟩) hne1 (.slice Ae p.f2.length ce))
        have hoth : ∀ q, q ≠ B1 → ((yc.setCell ⟨B1, k * 4 + 1, none⟩ (.slice Ac p.f1.length cc)).setCell ⟨B1, k * 4 + 2, none⟩ (.slice Ae p.f2.length ce)).heap[q]? = yc.heap[q]? := fun q hq => (Below.heap_setCell _ _ _ _ hq).trans (Below.heap_setCell _ _ _ _ hq)
        have hszz : ((yc.setCell ⟨B1, k * 4 + 1, none⟩ (.slice Ac p.f1.length cc)).setCell ⟨B1, k * 4 + 2, none⟩ (.slice Ae p.f2.length ce)).heap.size = yc.heap.size := by simp [World.setCell]
        have hszr : wr.heap.size ≤ yc.heap.size := by omega
        have hgpe := HGPE.out
        have HBz := Aside0.mk (show Below W.heap.size W ((yc.setCell ⟨B1, k * 4 + 1, none⟩ (.slice Ac p.f1.length cc)).setCell ⟨B1, k * 4 + 2, none⟩ (.slice Ae p.f2.length ce)) from ((below_step HBr.out HBc.out).setCell (p := ⟨B1, k * 4 + 1, none⟩) (by show W.heap.size ≤ B1; omega) _).setCell (p := ⟨B1, k * 4 + 2, none⟩) (by show W.heap.size ≤ B1; omega) _)
        have hoth2 : ∀ q, q ≠ B1 → q < wr.heap.size → ((yc.setCell ⟨B1, k * 4 + 1, none⟩ (.slice Ac p.f1.length cc)).setCell ⟨B1, k * 4 + 2, none⟩ (.slice Ae p.f2.length ce)).heap[q]? = wr.heap[q]? := fun q hq hl => (hoth q hq).trans (HBc.out.block q hl)
        have HFa := Aside0.mk (Kd.F_step (W1 := ((yc.setCell ⟨B1, k * 4 + 1, none⟩ (.slice Ac p.f1.length cc)).setCell ⟨B1, k * 4 + 2, none⟩ (.slice Ae p.f2.length ce))) (Kd.R_F (Kd.R_mono (ok' := fun q => ya.heap.size ≤ q) (Kd.R_bound HVa2.out) (fun q hq => hq.2.1))) (fun q hq _ => hoth q (by omega)))
        have HFb := Aside0.mk (Kd.F_step (W1 := ((yc.setCell ⟨B1, k * 4 + 1, none⟩ (.slice Ac p.f1.length cc)).setCell ⟨B1, k * 4 + 2, none⟩ (.slice Ae p.f2.length ce))) (Kd.R_F (Kd.R_mono (ok' := fun q => yb.heap.size ≤ q) (Kd.R_bound HVb.out) (fun q hq => hq.2.1))) (fun q hq _ => hoth q (by omega)))
        have HLa2 := Aside0.mk (Kd.R_reads' HVa.out).2.1
        have HLb2 := Aside0.mk (Kd.R_reads' HVb.out).2.1
        have HNEW := Aside0.mk (show RowSt k38 38 ((yc.setCell ⟨B1, k * 4 + 1, none⟩ (.slice Ac p.f1.length cc)).setCell ⟨B1, k * 4 + 2, none⟩ (.slice Ae p.f2.length ce)) (some ⟨B1, 0, none⟩) x.f3 (k + 1) B1 (fun q => gp < q ∧ q ≠ B1 ∧ q ≠ B2) (fun q => (q < w.heap.size ∨ wa.heap.size ≤ q) ∧ q ≠ B1) from fun _ => by
          refine ⟨rfl, by omega, (cur.set (k * 4 + 1) (.slice Ac p.f1.length cc)).set (k * 4 + 2) (.slice Ae p.f2.length ce), ?_, ?_, fun j q hj => ?_⟩
          · have := HCe.out; simpa using this
          · show x.f3.length * 4 ≤ _; rw [List.length_set, List.length_set]; exact HCL.out
          · have hold := HE.out j q hj
            have hck : ((((cur.set (k * 4 + 1) (.slice Ac p.f1.length cc)).set (k * 4 + 2) (.slice Ae p.f2.length ce)).drop (j * 4)).take 4) = if j = k then [.int .i64 p.f0, .slice Ac p.f1.length cc, .slice Ae p.f2.length ce, .bool p.f3] else (cur.drop (j * 4)).take 4 := by
              rw [chunk_set _ 4 k j 2 _ (by decide), chunk_set cur 4 k j 1 _ (by decide)]
              by_cases e : j = k
              · subst e; rw [if_pos rfl, if_pos rfl, if_pos rfl, HCH.out]; rfl
              · rw [if_neg e, if_neg e, if_neg e]
            refine ⟨fun hjk => ?_, fun hjk => ?_⟩
            · show Kd.FK _ _ _ _ ((((cur.set (k * 4 + 1) (.slice Ac p.f1.length cc)).set (k * 4 + 2) (.slice Ae p.f2.length ce)).drop (j * 4)).take 4)
              rw [hck]
              by_cases e : j = k
              · subst e
                have hqp : q = p := Option.some.inj (hj.symm.trans HP.out)
                subst hqp
                rw [if_pos rfl]
                exact k38_mkF _ _ _ HLa2.out (Kd.F_mono HFa.out (fun z hz => by omega)) HLb2.out (Kd.F_mono HFb.out (fun z hz => by omega))
              · rw [if_neg e]
                exact Kd.FK_step (hold.1 (by omega)) (fun z hz hl => hoth2 z (by omega) hl)
            · show Kd.FK _ _ _ _ ((((cur.set (k * 4 + 1) (.slice Ac p.f1.length cc)).set (k * 4 + 2) (.slice Ae p.f2.length ce)).drop (j * 4)).take 4)
              rw [hck, if_neg (by omega)]
              exact Kd.FK_step (hold.2 (by omega)) (fun z hz hl => hoth2 z (by have := hz.2; omega) hl))
        have HOT := Aside0.mk (show RowSt k46 46 ((yc.setCell ⟨B1, k * 4 + 1, none⟩ (.slice Ac p.f1.length cc)).setCell ⟨B1, k * 4 + 2, none⟩ (.slice Ae p.f2.length ce)) Aw x.f4 0 B2 (fun q => gp < q ∧ q ≠ B2) (fun q => (q < w.heap.size ∨ wb.heap.size ≤ q) ∧ q ≠ B2) from HO.out.step (by omega) (fun hn hl => hoth2 B2 (by have := hB2 hn; omega) hl) (fun q hq => absurd hq (Nat.not_lt_zero _)) (fun q hn hq hl => hoth2 q (by have := hB2 hn; omega) hl))
        have HZ2 := Aside0.mk (show wc.heap.size ≤ ((yc.setCell ⟨B1, k * 4 + 1, none⟩ (.slice Ac p.f1.length cc)).setCell ⟨B1, k * 4 + 2, none⟩ (.slice Ae p.f2.length ce)).heap.size by omega)
        have hmeas := meas_stepK x.f3.length k hlt
        gi_wp2
        go_roundw
        case rel => exact ⟨k + 1, hlt, by go_num, HGe, HBz, HNEW, HOT, HZ2⟩
        case measure => exact hmeas
      · obtain rfl : k = x.f3.length := by omega
        have HF3 := Aside0.mk (show Kd.F k38 wr (fun q => gp < q ∧ q ≠ B2) Ar x.f3.length x.f3 from F_of_block hm3 (fun hn => by
          obtain ⟨hA, hBl, cur, h1, h2, h3⟩ := HRr.out hn
          have hb1 := hB1 hn
          exact ⟨B1, cur, hA, h1, ⟨by omega, by omega⟩, h2, fun j q hj => Kd.FK_mono ((h3 j q hj).1 (List.getElem?_eq_some_iff.1 hj).1) (fun z hz => ⟨hz.1, hz.2.2⟩)⟩))
        obtain ⟨wf, rfl⟩ : ∃ wf : World, wf = wr := ⟨_, rfl⟩
        have HGf := HG
        have HBf := HBr
        have HS2f := HO
        have hc4 : wf.cell? ⟨gp, 4, none⟩ = some (.slice Aw x.f4.length cw) := (blk_cell HGf.out 4).trans rfl
        clear HG HBr HO HRr hk hc3
        gi_wp2_with fail
        gi_loopw [50] (fun v_ wr => ∃ k : Nat, k ≤ x.f4.length ∧ v_ = .int .i64 k ∧ Aside0 (wr.heap[gp]? = some (.cells #[.int .i64 x.f0, .int .i64 x.f1, .bool x.f2, .slice Ar x.f3.length cr, .slice Aw x.f4.length cw, .bool x.f5] 34 (0, 0))) ∧ Aside0 (Below W.heap.size W wr) ∧ Aside0 (RowSt k46 46 wr Aw x.f4 k B2 (fun q => gp < q ∧ q ≠ B2) (fun q => (q < w.heap.size ∨ wb.heap.size ≤ q) ∧ q ≠ B2)) ∧ Aside0 (Kd.F k38 wr (fun q => gp < q ∧ q ≠ B2) Ar x.f3.length x.f3) ∧ Aside0 (wc.heap.size ≤ wr.heap.size)) (fun v_ _ => x.f4.length - (intOf v_).toNat)
        case atStart => exact ⟨0, Nat.zero_le _, rfl, HGf, HBf, HS2f, HF3, ⟨by omega⟩⟩
        case round =>
          obtain ⟨k, hk, rfl, HG, HBr, HRr, HO, HZ⟩ := hrel
          have hz : wc.heap.size ≤ wr.heap.size := HZ.out
          by_cases hlt : k < x.f4.length
          · obtain ⟨hAr, hBl, cur, hcur, hcl, hE⟩ := HRr.out (by omega)
            subst hAr
            have hBB := hB2 (by omega)
            obtain ⟨p, hp⟩ : ∃ p, x.f4[k]? = some p := ⟨_, List.getElem?_eq_getElem hlt⟩
            obtain ⟨Aa, ca, Ab, cb, hch, hla, hFa, hlb, hFb⟩ := k46_openF ((hE k p hp).2 (Nat.le_refl _))
            have hch' : (cur.drop (k * 4)).take 4 = [.int .i64 p.f0, .slice Aa p.f1.length ca, .bool p.f2, .slice Ab p.f3.length cb] := hch
            have hcl' : x.f4.length * 4 ≤ cur.length := hcl
            have hx0 : wr.cell? ⟨B2, k * 4, none⟩ = some (.int .i64 p.f0) := by
              rw [blk_cell hcur]; have := chunk_at (cur := cur) (k := k) (show 0 < 4 by decide); rw [hch'] at this; simpa using this
            have hx1 : wr.cell? ⟨B2, k * 4 + 1, none⟩ = some (.slice Aa p.f1.length ca) := by
              rw [blk_cell hcur]; have := chunk_at (cur := cur) (k := k) (show 1 < 4 by decide); rw [hch'] at this; simpa using this
            have hx2 : wr.cell? ⟨B2, k * 4 + 2, none⟩ = some (.bool p.f2) := by
              rw [blk_cell hcur]; have := chunk_at (cur := cur) (k := k) (show 2 < 4 by decide); rw [hch'] at this; simpa using this
            have hx3 : wr.cell? ⟨B2, k * 4 + 3, none⟩ = some (.slice Ab p.f3.length cb) := by
              rw [blk_cell hcur]; have := chunk_at (cur := cur) (k := k) (show 3 < 4 by decide); rw [hch'] at this; simpa using this
            have hsmall := HS4.out p (List.mem_of_getElem? hp)
            unfold okWr at hsmall
            simp only [Bool.and_eq_true, decide_eq_true_eq] at hsmall
            have HCa := Aside0.mk (show bytes_Clone.f p.f1 = some p.f1 by unfold bytes_Clone.f; rw [if_pos hsmall.1])
            have HCb := Aside0.mk (show bytes_Clone.f p.f3 = some p.f3 by unfold bytes_Clone.f; rw [if_pos hsmall.2])
            have HP := Aside0.mk hp
            have HCH := Aside0.mk hch'
            have HE := Aside0.mk hE
            have HCUR := Aside0.mk hcur
            have HCL := Aside0.mk hcl'
            have HRa := Aside0.mk (Kd.F_now hFa)
            have HRb := Aside0.mk (Kd.F_now hFb)
            have HLa := Aside0.mk hla
            have HLb := Aside0.mk hlb
            have hgl : gp < wr.heap.size := by omega
            clear hp hch hch' hE hcl hcl' hFa hFb hla hlb hsmall
            gi_wp2_with fail
            obtain ⟨gx, hgx⟩ : ∃ gx, gx = wr.heap.size := ⟨_, rfl⟩
            obtain ⟨Wy, hWy⟩ : ∃ Wy, Wy = wr.alloc (.cells #[.int .i64 p.f0, .slice Aa p.f1.length ca, .bool p.f2, .slice Ab p.f3.length cb] 46 (0, 0)) := ⟨_, rfl⟩
            have HBy := Aside0.mk (show Below wr.heap.size wr Wy by rw [hWy]; exact below_alloc (Below.refl _ _) _)
            have hX : Wy.heap[gx]? = some (.cells #[.int .i64 p.f0, .slice Aa p.f1.length ca, .bool p.f2, .slice Ab p.f3.length cb] 46 (0, 0)) := by rw [hWy, hgx]; exact heap_alloc_new wr _
            have HGY := Aside0.mk ((HBy.out.block _ hgl).trans HG.out)
            have HCY := Aside0.mk ((HBy.out.block _ hBl).trans HCUR.out)
            have hszy : gx < Wy.heap.size := blk_lt hX
            have HGX := Aside0.mk hgx
            have hgxl : wr.heap.size ≤ gx := by omega
            rw [← hWy, ← hgx]
            clear hWy hgx hx0 hx1 hx2 hx3 hcur
            have HX := Aside0.mk hX
            have hq0 : Wy.cell? ⟨gp, 4, none⟩ = some (.slice (some ⟨B2, 0, none⟩) x.f4.length cw) := (blk_cell HGY.out 4).trans rfl
            have hq1 : Wy.cell? ⟨gx, 1, none⟩ = some (.slice Aa p.f1.length ca) := (blk_cell hX 1).trans rfl
            have hq2 : Wy.cell? ⟨gx, 3, none⟩ = some (.slice Ab p.f3.length cb) := (blk_cell hX 3).trans rfl
            clear hX
            have hp1 : (0 ≤ (k : Int)) = True := eq_true (by omega)
            have hp2 : ((k : Int) < (x.f4.length : Int)) = True := eq_true (by omega)
            refine startIn_ (n := 18) (S := fun w' => w'.cell? ⟨gp, 4, none⟩ = some (.slice (some ⟨B2, 0, none⟩) x.f4.length cw) ∧ w'.cell? ⟨gx, 1, none⟩ = some (.slice Aa p.f1.length ca) ∧ w'.cell? ⟨gx, 3, none⟩ = some (.slice Ab p.f3.length cb)) (ds := [17]) #[false, false, false, false, false, false, false, false, false, false, false, false, false, false, false, false, false, false] (by kernel_rfl) (by rintro ⟨a_, w_, h_⟩; exact nomatch h_.1) (by kernel_rfl) rfl rfl ⟨hq0, hq1, hq2⟩ (fun hHeld => ?_)
            clear hq0 hq1 hq2
            have HGa := Aside0.mk (show Wy.drew.heap[gp]? = some (.cells #[.int .i64 x.f0, .int .i64 x.f1, .bool x.f2, .slice Ar x.f3.length cr, .slice (some ⟨B2, 0, none⟩) x.f4.length cw, .bool x.f5] 34 (0, 0)) from HGY.out)
            have HCa0 := Aside0.mk (show Wy.drew.heap[B2]? = some (.cells cur.toArray 46 (0, 0)) from HCY.out)
            have HXa := Aside0.mk (show Wy.drew.heap[gx]? = some (.cells #[.int .i64 p.f0, .slice Aa p.f1.length ca, .bool p.f2, .slice Ab p.f3.length cb] 46 (0, 0)) from HX.out)
            have HBa := Aside0.mk (below_drew1 HBy.out)
            have hsza : gx < Wy.drew.heap.size := hszy
            clear HGY HCY HX HBy hszy
            generalize Wy.drew = ya at HGa HCa0 HXa HBa hsza hHeld ⊢
            refine pure_ (i := 0) (N := some 55) (v := ?_) (a' := ?_) #[true, false, false, false, false, false, false, false, false, false, false, false, false, false, false, false, false, false] rfl rfl (by kernel_rfl) (fun _ _ _ h => h) (Or.inl ⟨by rfl, ?_⟩) ?_ ?_
            rotate_left
            · intro w'
              go_simp
              with_reducible rfl
            rotate_left
            · simp only [Act.put, List.setIfInBounds_toArray, List.set_cons_zero, List.set_cons_succ, i64_w, i32_w]
              rfl
            refine take_ (i := 1) (N := some 56) (v := ?_) (a' := ?_) #[true, true, false, false, false, false, false, false, false, false, false, false, false, false, false, false, false, false] rfl rfl (by kernel_rfl) (fun _ _ _ h => h) (Or.inl ⟨by rfl, ?_⟩) hHeld ?_ ?_
            rotate_left
            · rintro w' ⟨s0, s1, s2⟩
              go_simp
              with_reducible rfl
            rotate_left
            · simp only [Act.put, List.setIfInBounds_toArray, List.set_cons_zero, List.set_cons_succ, i64_w, i32_w]
              rfl
            refine pure_ (i := 2) (N := some 57) (v := ?_) (a' := ?_) #[true, true, true, false, false, false, false, false, false, false, false, false, false, false, false, false, false, false] rfl rfl (by kernel_rfl) (fun _ _ _ h => h) (Or.inl ⟨by rfl, ?_⟩) ?_ ?_
            rotate_left
            · intro w'
              go_simp
              with_reducible rfl
            rotate_left
            · simp only [Act.put, List.setIfInBounds_toArray, List.set_cons_zero, List.set_cons_succ, i64_w, i32_w]
              rfl
            refine pure_ (i := 3) (N := some 58) (v := ?_) (a' := ?_) #[true, true, true, true, false, false, false, false, false, false, false, false, false, false, false, false, false, false] rfl rfl (by kernel_rfl) (fun _ _ _ h => h) (Or.inl ⟨by rfl, ?_⟩) ?_ ?_
            rotate_left
            · intro w'
              go_simp
              with_reducible rfl
            rotate_left
            · simp only [Act.put, List.setIfInBounds_toArray, List.set_cons_zero, List.set_cons_succ, i64_w, i32_w]
              rfl
            refine take_ (i := 4) (N := some 59) (v := ?_) (a' := ?_) #[true, true, true, true, true, false, false, false, false, false, false, false, false, false, false, false, false, false] rfl rfl (by kernel_rfl) (fun _ _ _ h => h) (Or.inl ⟨by rfl, ?_⟩) hHeld ?_ ?_
            rotate_left
            · rintro w' ⟨s0, s1, s2⟩
              go_simp
              with_reducible rfl
            rotate_left
            · simp only [Act.put, List.setIfInBounds_toArray, List.set_cons_zero, List.set_cons_succ, i64_w, i32_w]
              rfl
            refine pure_ (i := 5) (N := some 60) (v := ?_) (a' := ?_) #[true, true, true, true, true, true, false, false, false, false, false, false, false, false, false, false, false, false] rfl rfl (by kernel_rfl) (fun _ _ _ h => h) (Or.inl ⟨by rfl, ?_⟩) ?_ ?_
            rotate_left
            · intro w'
              go_simp
              with_reducible rfl
            rotate_left
            · simp only [Act.put, List.setIfInBounds_toArray, List.set_cons_zero, List.set_cons_succ, i64_w, i32_w]
              rfl
            refine pure_ (i := 6) (N := some 61) (v := ?_) (a' := ?_) #[true, true, true, true, true, true, true, false, false, false, false, false, false, false, false, false, false, false] rfl rfl (by kernel_rfl) (fun _ _ _ h => h) (Or.inl ⟨by rfl, ?_⟩) ?_ ?_
            rotate_left
            · intro w'
              go_simp
              with_reducible rfl
            rotate_left
            · simp only [Act.put, List.setIfInBounds_toArray, List.set_cons_zero, List.set_cons_succ, i64_w, i32_w]
              rfl
            refine take_ (i := 7) (N := some 62) (v := ?_) (a' := ?_) #[true, true, true, true, true, true, true, true, false, false, false, false, false, false, false, false, false, false] rfl rfl (by kernel_rfl) (fun _ _ _ h => h) (Or.inl ⟨by rfl, ?_⟩) hHeld ?_ ?_
            rotate_left
            · rintro w' ⟨s0, s1, s2⟩
              go_simp
              with_reducible rfl
            rotate_left
            · simp only [Act.put, List.setIfInBounds_toArray, List.set_cons_zero, List.set_cons_succ, i64_w, i32_w]
              rfl
            refine pure_ (i := 9) (N := some 64) (v := ?_) (a' := ?_) #[true, true, true, true, true, true, true, true, false, true, false, false, false, false, false, false, false, false] rfl rfl (by kernel_rfl) (fun _ _ _ h => h) (Or.inl ⟨by rfl, ?_⟩) ?_ ?_
            rotate_left
            · intro w'
              go_simp
              with_reducible rfl
            rotate_left
            · simp only [Act.put, List.setIfInBounds_toArray, List.set_cons_zero, List.set_cons_succ, i64_w, i32_w]
              rfl
            refine take_ (i := 10) (N := some 65) (v := ?_) (a' := ?_) #[true, true, true, true, true, true, true, true, false, true, true, false, false, false, false, false, false, false] rfl rfl (by kernel_rfl) (fun _ _ _ h => h) (Or.inl ⟨by rfl, ?_⟩) hHeld ?_ ?_
            rotate_left
            · rintro w' ⟨s0, s1, s2⟩
              go_simp
              with_reducible rfl
            rotate_left
            · simp only [Act.put, List.setIfInBounds_toArray, List.set_cons_zero, List.set_cons_succ, i64_w, i32_w]
              rfl
            refine one_ (i := 8) (N := some 63) #[true, true, true, true, true, true, true, true, true, true, true, false, false, false, false, false, false, false] rfl rfl (by kernel_rfl) (by decide) (fun K hK => ?_)
            refine goes_ Try.func20 (by kernel_rfl) rfl #[.slice Aa p.f1.length ca] (by rfl) rfl rfl (by (try simp only [List.map_toArray, List.map_cons, List.map_nil]); first | done | rfl) ?_
            refine (bytes_Clone.calls Aa ca p.f1 p.f1 ya (Kd.C_below HRa.out HBa.out) HLa.out HCa.out).mono ?_
            rintro e yb ⟨v, rfl, hva, hba⟩
            have HGb := Aside0.mk ((hba.block _ (by omega)).trans HGa.out)
            have HCb0 := Aside0.mk ((hba.block _ (by omega)).trans HCa0.out)
            have HXb := Aside0.mk ((hba.block _ (by omega)).trans HXa.out)
            refine ⟨_, rfl, ?_⟩
            refine hK.out _ _ ⟨(blk_cell HGb.out 4).trans rfl, (blk_cell HXb.out 1).trans rfl, (blk_cell HXb.out 3).trans rfl⟩ (fun hHeld => ?_)
            clear hK K
            refine norm_ (a' := ?_) ?_ ?_
            rotate_left
            · show Act.put _ (some 63) _ = _
              simp only [Act.put, List.setIfInBounds_toArray, List.set_cons_zero, List.set_cons_succ, i64_w, i32_w]
              rfl
            obtain ⟨Ac, cc, rfl⟩ := Kd.R_slice hva
            have HVa := Aside0.mk hva
            have HBb := Aside0.mk (below_step HBa.out hba)
            have hszb : ya.heap.size ≤ yb.heap.size := hba.size
            clear hva hba
            refine one_ (i := 11) (N := some 66) #[true, true, true, true, true, true, true, true, true, true, true, true, false, false, false, false, false, false] rfl rfl (by kernel_rfl) (by decide) (fun K hK => ?_)
            refine goes_ Try.func20 (by kernel_rfl) rfl #[.slice Ab p.f3.length cb] (by rfl) rfl rfl (by (try simp only [List.map_toArray, List.map_cons, List.map_nil]); first | done | rfl) ?_
            refine (bytes_Clone.calls Ab cb p.f3 p.f3 yb (Kd.C_below HRb.out HBb.out) HLb.out HCb.out).mono ?_
            rintro e yc ⟨v, rfl, hvb, hbb⟩
            have HGc := Aside0.mk ((hbb.block _ (by omega)).trans HGb.out)
            have HCc0 := Aside0.mk ((hbb.block _ (by omega)).trans HCb0.out)
            have HXc := Aside0.mk ((hbb.block _ (by omega)).trans HXb.out)
            refine ⟨_, rfl, ?_⟩
            refine hK.out _ _ ⟨(blk_cell HGc.out 4).trans rfl, (blk_cell HXc.out 1).trans rfl, (blk_cell HXc.out 3).trans rfl⟩ (fun hHeld => ?_)
            clear hK K
            refine norm_ (a' := ?_) ?_ ?_
            rotate_left
            · show Act.put _ (some 66) _ = _
              simp only [Act.put, List.setIfInBounds_toArray, List.set_cons_zero, List.set_cons_succ, i64_w, i32_w]
              rfl
            obtain ⟨Ae, ce, rfl⟩ := Kd.R_slice hvb
            have HVb := Aside0.mk hvb
            have HBc := Aside0.mk (below_step HBb.out hbb)
            have HVa2 := Aside0.mk (Kd.R_below HVa.out hbb)
            have hszc : yb.heap.size ≤ yc.heap.size := hbb.size
            clear hvb hbb
            have hlen4 : k * 4 + 4 ≤ cur.length := by have := HCL.out; omega
            have hga : yc.cell? ⟨B2, k * 4 + 1, none⟩ = some (.slice Aa p.f1.length ca) := by
              rw [blk_cell HCc0.out]; have := chunk_at (cur := cur) (k := k) (show 1 < 4 by decide); rw [HCH.out] at this; simpa using this
            have hgb : yc.cell? ⟨B2, k * 4 + 3, none⟩ = some (.slice Ab p.f3.length cb) := by
              rw [blk_cell HCc0.out]; have := chunk_at (cur := cur) (k := k) (show 3 < 4 by decide); rw [HCH.out] at this; simpa using this
            have hfa := blk_frozen HCc0.out (k * 4 + 1)
            have hfb := blk_frozen HCc0.out (k * 4 + 3)
            have hne1 : gp ≠ B2 := by omega
            have hne2 : gx ≠ B2 := by omega
            refine pure_ (i := 12) (N := some 67) (v := ?_) (a' := ?_) #[true, true, true, true, true, true, true, true, true, true, true, true, true, false, false, false, false, false] rfl rfl (by kernel_rfl) (fun _ _ _ h => h) (Or.inl ⟨by rfl, ?_⟩) ?_ ?_
            rotate_left
            · intro w'
              go_simp
              with_reducible rfl
            rotate_left
            · simp only [Act.put, List.setIfInBounds_toArray, List.set_cons_zero, List.set_cons_succ, i64_w, i32_w]
              rfl
            refine pure_ (i := 13) (N := some 68) (v := ?_) (a' := ?_) #[true, true, true, true, true, true, true, true, true, true, true, true, true, true, false, false, false, false] rfl rfl (by kernel_rfl) (fun _ _ _ h => h) (Or.inl ⟨by rfl, ?_⟩) ?_ ?_
            rotate_left
            · intro w'
              go_simp
              with_reducible rfl
            rotate_left
            · simp only [Act.put, List.setIfInBounds_toArray, List.set_cons_zero, List.set_cons_succ, i64_w, i32_w]
              rfl
            refine one_ (i := 14) (N := none) #[true, true, true, true, true, true, true, true, true, true, true, true, true, true, true, false, false, false] rfl rfl (by kernel_rfl) (by decide) (fun K hK => ?_)
            refine skip_ (w1 := ?_) (by rfl) rfl ?_ ?_
            rotate_left
            · go_simp
              rfl
            refine hK.out _ _ ⟨(blk_cell (blk_far HGc.out (p := ⟨B2, k * 4 + 1, none⟩) hne1 _) 4).trans rfl, (blk_cell (blk_far HXc.out (p := ⟨B2, k * 4 + 1, none⟩) hne2 _) 1).trans rfl, (blk_cell (blk_far HXc.out (p := ⟨B2, k * 4 + 1, none⟩) hne2 _) 3).trans rfl⟩ (fun hHeld => ?_)
            clear hK K
            have HCd := Aside0.mk (blk_set HCc0.out (k * 4 + 1) (.slice Ac p.f1.length cc))
            have hfb2 := blk_frozen HCd.out (k * 4 + 3)
            have hgb2 : (yc.setCell ⟨B2, k * 4 + 1, none⟩ (.slice Ac p.f1.length cc)).cell? ⟨B2, k * 4 + 3, none⟩ = some (.slice Ab p.f3.length cb) := by
              rw [blk_cell HCd.out, Array.getElem?_setIfInBounds_ne (by omega), ← blk_cell HCc0.out]; exact hgb
            refine pure_ (i := 15) (N := some 69) (v := ?_) (a' := ?_) #[true, true, true, true, true, true, true, true, true, true, true, true, true, true, true, true, false, false] rfl rfl (by kernel_rfl) (fun _ _ _ h => h) (Or.inl ⟨by rfl, ?_⟩) ?_ ?_
            rotate_left
            · intro w'
              go_simp
              with_reducible rfl
            rotate_left
            · simp only [Act.put, List.setIfInBounds_toArray, List.set_cons_zero, List.set_cons_succ, i64_w, i32_w]
              rfl
            refine pure_ (i := 16) (N := some 70) (v := ?_) (a' := ?_) #[true, true, true, true, true, true, true, true, true, true, true, true, true, true, true, true, true, false] rfl rfl (by kernel_rfl) (fun _ _ _ h => h) (Or.inl ⟨by rfl, ?_⟩) ?_ ?_
            rotate_left
            · intro w'
              go_simp
              with_reducible rfl
            rotate_left
            · simp only [Act.put, List.setIfInBounds_toArray, List.set_cons_zero, List.set_cons_succ, i64_w, i32_w]
              rfl
            refine last_ (i := 17) (N := none) #[true, true, true, true, true, true, true, true, true, true, true, true, true, true, true, true, true, true] rfl rfl (by kernel_rfl) (by decide) (fun K hK => ?_)
            refine skip_ (w1 := ?_) (by rfl) rfl ?_ ?_
            rotate_left
            · go_simp
              rfl
            refine hK.out _ _ ?_
            clear hK K
            refine done_ (by kernel_rfl) ?_
            have HCe := Aside0.mk (blk_set HCd.out (k * 4 + 3) (.slice Ae p.f3.length ce))
            have HGe := Aside0.mk (blk_far (blk_far HGc.out (p := ⟨B2, k * 4 + 1, none⟩) hne1 (.slice Ac p.f1.length cc)) (p := ⟨B2, k * 4 + 3, none⟩) hne1 (.slice Ae p.f3.length ce))
            have hoth : ∀ q, q ≠ B2 → ((yc.setCell ⟨B2, k * 4 + 1, none⟩ (.slice Ac p.f1.length cc)).setCell ⟨B2, k * 4 + 3, none⟩ (.slice Ae p.f3.length ce)).heap[q]? = yc.heap[q]? := fun q hq => (Below.heap_setCell _ _ _ _ hq).trans (Below.heap_setCell _ _ _ _ hq)
            have hszz : ((yc.setCell ⟨B2, k * 4 + 1, none⟩ (.slice Ac p.f1.length cc)).setCell ⟨B2, k * 4 + 3, none⟩ (.slice Ae p.f3.length ce)).heap.size = yc.heap.size := by simp [World.setCell]
            have hszr : wr.heap.size ≤ yc.heap.size := by omega
            have hgpe := HGPE.out
            have HBz := Aside0.mk (show Below W.heap.size W ((yc.setCell ⟨B2, k * 4 + 1, none⟩ (.slice Ac p.f1.length cc)).setCell ⟨B2, k * 4 + 3, none⟩ (.slice Ae p.f3.length ce)) from ((below_step HBr.out HBc.out).setCell (p := ⟨B2, k * 4 + 1, none⟩) (by show W.heap.size ≤ B2; omega) _).setCell (p := ⟨B2, k * 4 + 3, none⟩) (by show W.heap.size ≤ B2; omega) _)
            have hoth2 : ∀ q, q ≠ B2 → q < wr.heap.size → ((yc.setCell ⟨B2, k * 4 + 1, none⟩ (.slice Ac p.f1.length cc)).setCell ⟨B2, k * 4 + 3, none⟩ (.slice Ae p.f3.length ce)).heap[q]? = wr.heap[q]? := fun q hq hl => (hoth q hq).trans (HBc.out.block q hl)
            have HFa := Aside0.mk (Kd.F_step (W1 := ((yc.setCell ⟨B2, k * 4 + 1, none⟩ (.slice Ac p.f1.length cc)).setCell ⟨B2, k * 4 + 3, none⟩ (.slice Ae p.f3.length ce))) (Kd.R_F (Kd.R_mono (ok' := fun q => ya.heap.size ≤ q) (Kd.R_bound HVa2.out) (fun q hq => hq.2.1))) (fun q hq _ => hoth q (by omega)))
            have HFb := Aside0.mk (Kd.F_step (W1 := ((yc.setCell ⟨B2, k * 4 + 1, none⟩ (.slice Ac p.f1.length cc)).setCell ⟨B2, k * 4 + 3, none⟩ (.slice Ae p.f3.length ce))) (Kd.R_F (Kd.R_mono (ok' := fun q => yb.heap.size ≤ q) (Kd.R_bound HVb.out) (fun q hq => hq.2.1))) (fun q hq _ => hoth q (by omega)))
            have HLa2 := Aside0.mk (Kd.R_reads' HVa.out).2.1
            have HLb2 := Aside0.mk (Kd.R_reads' HVb.out).2.1
            have HNEW := Aside0.mk (show RowSt k46 46 ((yc.setCell ⟨B2, k * 4 + 1, none⟩ (.slice Ac p.f1.length cc)).setCell ⟨B2, k * 4 + 3, none⟩ (.slice Ae p.f3.length ce)) (some ⟨B2, 0, none⟩) x.f4 (k + 1) B2 (fun q => gp < q ∧ q ≠ B2) (fun q => (q < w.heap.size ∨ wb.heap.size ≤ q) ∧ q ≠ B2) from fun _ => by
              refine ⟨rfl, by omega, (cur.set (k * 4 + 1) (.slice Ac p.f1.length cc)).set (k * 4 + 3) (.slice Ae p.f3.length ce), ?_, ?_, fun j q hj => ?_⟩
              · have := HCe.out; simpa using this
              · show x.f4.length * 4 ≤ _; rw [List.length_set, List.length_set]; exact HCL.out
              · have hold := HE.out j q hj
                have hck : ((((cur.set (k * 4 + 1) (.slice Ac p.f1.length cc)).set (k * 4 + 3) (.slice Ae p.f3.length ce)).drop (j * 4)).take 4) = if j = k then [.int .i64 p.f0, .slice Ac p.f1.length cc, .bool p.f2, .slice Ae p.f3.length ce] else (cur.drop (j * 4)).take 4 := by
                  rw [chunk_set _ 4 k j 3 _ (by decide), chunk_set cur 4 k j 1 _ (by decide)]
                  by_cases e : j = k
                  · subst e; rw [if_pos rfl, if_pos rfl, if_pos rfl, HCH.out]; rfl
                  · rw [if_neg e, if_neg e, if_neg e]
                refine ⟨fun hjk => ?_, fun hjk => ?_⟩
                · show Kd.FK _ _ _ _ ((((cur.set (k * 4 + 1) (.slice Ac p.f1.length cc)).set (k * 4 + 3) (.slice Ae p.f3.length ce)).drop (j * 4)).take 4)
                  rw [hck]
                  by_cases e : j = k
                  · subst e
                    have hqp : q = p := Option.some.inj (hj.symm.trans HP.out)
                    subst hqp
                    rw [if_pos rfl]
                    exact k46_mkF _ _ _ HLa2.out (Kd.F_mono HFa.out (fun z hz => by omega)) HLb2.out (Kd.F_mono HFb.out (fun z hz => by omega))
                  · rw [if_neg e]
                    exact Kd.FK_step (hold.1 (by omega)) (fun z hz hl => hoth2 z (by omega) hl)
                · show Kd.FK _ _ _ _ ((((cur.set (k * 4 + 1) (.slice Ac p.f1.length cc)).set (k * 4 + 3) (.slice Ae p.f3.length ce)).drop (j * 4)).take 4)
                  rw [hck, if_neg (by omega)]
                  exact Kd.FK_step (hold.2 (by omega)) (fun z hz hl => hoth2 z (by have := hz.2; omega) hl))
            have HOT := Aside0.mk (show Kd.F k38 ((yc.setCell ⟨B2, k * 4 + 1, none⟩ (.slice Ac p.f1.length cc)).setCell ⟨B2, k * 4 + 3, none⟩ (.slice Ae p.f3.length ce)) (fun q => gp < q ∧ q ≠ B2) Ar x.f3.length x.f3 from Kd.F_step HO.out (fun q hq hl => hoth2 q hq.2 hl))
            have HZ2 := Aside0.mk (show wc.heap.size ≤ ((yc.setCell ⟨B2, k * 4 + 1, none⟩ (.slice Ac p.f1.length cc)).setCell ⟨B2, k * 4 + 3, none⟩ (.slice Ae p.f3.length ce)).heap.size by omega)
            have hmeas := meas_stepK x.f4.length k hlt
            gi_wp2
            go_roundw
            case rel => exact ⟨k + 1, hlt, by go_num, HGe, HBz, HNEW, HOT, HZ2⟩
            case measure => exact hmeas
          · obtain rfl : k = x.f4.length := by omega
            have HF4 := Aside0.mk (show Kd.F k46 wr (fun q => gp < q) Aw x.f4.length x.f4 from F_of_block hm4 (fun hn => by
              obtain ⟨hA, hBl, cur, h1, h2, h3⟩ := HRr.out hn
              have hb1 := hB2 hn
              exact ⟨B2, cur, hA, h1, (by omega), h2, fun j q hj => Kd.FK_mono ((h3 j q hj).1 (List.getElem?_eq_some_iff.1 hj).1) (fun z hz => hz.1)⟩))
            clear hc4
            obtain ⟨⟨v, hv, hN⟩, hb1_, hb2_, hB_, hs5_⟩ := HI.out
            have hown0 := fun k hk => Kd.N_lt hN k hk
            have hv' := (HBr.out.block _ hv.lt).trans hv
            have hN' := Kd.N_below hN HBr.out
            obtain ⟨Av, cv, rfl⟩ := Kd.N_slice hN'
            obtain ⟨inner, hrow, hpush⟩ := N_pushS hN' (fun k hk => by have := HBr.out.size; omega)
            rw [List.length_map] at hrow hpush
            have HPU := Aside0.mk hpush
            have HFK := Aside0.mk (show Kd.FK k34 wr (fun q => gp < q) x [.int .i64 x.f0, .int .i64 x.f1, .bool x.f2, .slice Ar x.f3.length cr, .slice Aw x.f4.length cw, .bool x.f5] from k34_mkF _ _ x hcr (Kd.F_mono HO.out (fun q hq => hq.1)) hcw HF4.out)
            have hcb : wr.cell? ⟨w.heap.size, 0, none⟩ = some (.slice Av (pre.map fun x => x.1).length cv) := blk_cell hv' 0
            have hfb : wr.frozen? ⟨w.heap.size, 0, none⟩ = false := blk_frozen hv' 0
            rw [List.length_map] at hcb
            have hd0 : wr.cell? ⟨gp, 0, none⟩ = some (.int .i64 x.f0) := (blk_cell HG.out 0).trans rfl
            have hd1 : wr.cell? ⟨gp, 1, none⟩ = some (.int .i64 x.f1) := (blk_cell HG.out 1).trans rfl
            have hd2 : wr.cell? ⟨gp, 2, none⟩ = some (.bool x.f2) := (blk_cell HG.out 2).trans rfl
            have hd3 : wr.cell? ⟨gp, 3, none⟩ = some (.slice Ar x.f3.length cr) := (blk_cell HG.out 3).trans rfl
            have hd4 : wr.cell? ⟨gp, 4, none⟩ = some (.slice Aw x.f4.length cw) := (blk_cell HG.out 4).trans rfl
            have hd5 : wr.cell? ⟨gp, 5, none⟩ = some (.bool x.f5) := (blk_cell HG.out 5).trans rfl
            have HBs := Aside0.mk (show Below w.heap.size w wr from HBW.out.trans (HBr.out.mono (by omega)))
            have hsB : w.heap.size ≤ wr.heap.size := HBs.out.size
            have HBr2 := Aside0.mk (keepsOthers_of_below HBr.out)
            have hne : 22 ≠ 34 := by decide
            have hsN : ∀ j u, ([.int .i64 x.f0, .int .i64 x.f1, .bool x.f2, .slice Ar x.f3.length cr, .slice Aw x.f4.length cw, .bool x.f5] : List Value)[j]? = some u → (wr.alloc (.cells #[.int .i64 x.f0, .int .i64 x.f1, .bool x.f2, .slice Ar x.f3.length cr, .slice Aw x.f4.length cw, .bool x.f5] 34)).cell? ((⟨wr.heap.size, 0, none⟩ : Addr).add j) = some u := fun j u hj => by rw [add_plain, blk_cell (heap_alloc_new _ _)]; simpa using hj
            have HSN := Aside0.mk hsN
            have HROW := Aside0.mk (show wr.ownsRow w.heap.size 34 6 (.slice Av pre.length cv) pre.length inner from hrow)
            have HV := Aside0.mk (show Boxed wr w.heap.size 22 (.slice Av pre.length cv) by rw [List.length_map] at hv'; exact hv')
            clear hpush hN' hsN hrow hv'
            gi_wp2_with ((gi_at_builtin; refine wpListIn_append_own_at _ rfl _ _ 22 rfl w.heap.size 34 i0 _ 6 80 Try.underlying22 hi hz0 hz1 hz2 rfl (by decide) (.slice Av pre.length cv) pre.length inner rfl (HROW.out.alloc _) ⟨wr.heap.size, 0, none⟩ 1 1 [.int .i64 x.f0, .int .i64 x.f1, .bool x.f2, .slice Ar x.f3.length cr, .slice Aw x.f4.length cw, .bool x.f5] rfl rfl HSN.out (by simp [Value.oneCell']) (by simp only [maxLen]; omega) (by omega) (by simp only [World.size_alloc]; omega) ?_; intro v' w5 hown' hgrow _ hat; obtain ⟨g', cap', rfl⟩ := ownsRow_succ hown'; obtain ⟨hv1, hv2, hr2, hk2, hb2⟩ := Boxed.appended HV.out hne HROW.out hsB (Nat.le_refl _) hown' hgrow; have hc1 := hv1.cell; have hf1 := hv1.frozen))
            have hgpe := HGPE.out
            have hkN : ∀ {B : Nat} {ty : TypeId} {u : Value}, B < w.heap.size + 5 → B ≠ w.heap.size → Boxed W B ty u → Boxed (w5.setCell ⟨w.heap.size, 0, none⟩ (.slice (some ⟨g', 0, none⟩) (pre.length + 1) cap')) B ty u := fun hB h1 h => (((show Boxed wr _ _ _ from (HBr.out.block _ h.lt).trans h).alloc _).kept hgrow (fun e => by have := hN.1 _ (show (Value.slice Av (pre.map fun x => x.1).length cv).ownBlock = _ from (by rw [List.length_map]; exact e.symm)); omega)).other h1 _
            have hNN := HPU.out (.cells #[.int .i64 x.f0, .int .i64 x.f1, .bool x.f2, .slice Ar x.f3.length cr, .slice Aw x.f4.length cw, .bool x.f5] 34) x _ _ _ w5 HFK.out (fun k hk => ⟨by omega, fun e => by have := hown0 k (show (Value.slice Av (pre.map fun x => x.1).length cv).ownBlock = _ from (by rw [List.length_map]; exact e.symm)); omega⟩) hown' hgrow hat
            have hsz9 := (HBr2.out.trans hk2).size
            refine ⟨HBr2.out.trans hk2, ⟨_, hv2, ?_⟩, hkN (by omega) (by omega) hb1_, hkN (by omega) (by omega) hb2_, HBs.out.trans hb2, by omega⟩
            rw [List.map_append]
            exact Kd.N_far hNN (p := ⟨w.heap.size, 0, none⟩) (fun k hk => by show k ≠ w.heap.size; omega) _
  case done =>
    rintro D xs W hD hS ⟨⟨v, hv, hN⟩, hB1, hB2, hB, hs6⟩ hK
    have hc := hv.cell
    have hf := hv.frozen
    obtain ⟨Av, cv, rfl⟩ := Kd.N_slice hN
    have hD2 : D = w.heap.size + 3 := by rw [hD]; simp only [World.size_alloc]
    have HN := Aside0.mk hN
    have HV := Aside0.mk hv
    rw [List.length_map] at hc
    clear hN hv
    gi_wp2
    have hK2 : (W.setCell ⟨w.heap.size, 0, none⟩ (.slice Av xs.length cv)).heap[D]? = some (.deferred (some [])) := (Below.heap_setCell _ _ _ _ (by show D ≠ w.heap.size; omega)).trans hK
    refine ⟨by simp, .inl ⟨_, _, rfl, run_takeDeferred hK2, ?_⟩⟩
    have hv2 := (HV.out.set (.slice Av xs.length cv)).kept (grownBy_putObj' _ D (.deferred none)) (fun e => by cases e; omega)
    have hB2' := (hB.setCell (p := ⟨w.heap.size, 0, none⟩) (by show w.heap.size ≤ w.heap.size; omega) (.slice Av xs.length cv))
    refine ⟨_, results_cell1 rfl _ _ w.heap.size _ _ rfl ((HV.out.set (.slice Av xs.length cv)).kept (grownBy_putObj' _ D _) (fun e => by cases e; omega)) Try.underlying22, _, rfl, ?_, hB2'.trans ((Below.refl _ _).grown (grownBy_putObj' _ D _) hB2'.size (fun k e => by cases e; omega))⟩
    have hN2 := Kd.N_far HN.out (p := ⟨w.heap.size, 0, none⟩) (fun k hk => by show k ≠ w.heap.size; omega) (.slice Av xs.length cv)
    have hNV := Kd.N_V (base' := w.heap.size) hN2
    rw [List.length_map] at hNV
    rw [← hS]
    exact Kd.V_mono (Kd.V_step hNV (fun k hk _ => World.putObj_heap_other (show k ≠ D by omega))) (fun k hk => by omega)
end

end Go.Proofs.Ytpknchaajgkbnaa.P
